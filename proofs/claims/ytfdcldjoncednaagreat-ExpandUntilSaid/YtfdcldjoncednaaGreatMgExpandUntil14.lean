/- Texts of this claim, merged: MrefA. -/
import Derived.Test.YtfdcldjoncednaaGreatMgExpandUntil7
namespace Go.Proofs.YtfdcldjoncednaaGreat.M
open Go.RowKit Go.Proofs.YtfdcldjoncednaaGreatW.PrintWords Go.Proofs.YtfdcldjoncednaaGreatW.PrintLast Go.Proofs.YtfdcldjoncednaaGreatW.PrintMore
attribute [local go_sem] max2_int min2_int max_two min_two
set_option linter.unusedVariables false
set_option linter.unusedSimpArgs false
/-! ### trystref01_Right: function 17 -/
def trystref01_Right.f (a0 : Int) : Option (Bool) := if a0 ≥ 86400 then (some (decide (a0 < 315537984000))) else (some false)
set_option maxHeartbeats 8000000 in
set_option maxRecDepth 100000 in
theorem trystref01_Right.calls (a0 : Int) (r : Bool) (w : World) (h : trystref01_Right.f a0 = some r) :
  Calls Tryz.prog 17 #[.int .i64 a0] w fun e w' => e = .returned (.bool r) ∧ Drawn0 w w' := by
 have H : (if a0 ≥ 86400 then (some (decide (a0 < 315537984000))) else (some false)) = some r := h
 clear h
 by_cases c2 : a0 ≥ 86400
 ·rw [if_pos c2] at H
  have c2b0 : decide (86400 ≤ a0) = true := decide_eq_true c2
  clear c2
  obtain rfl := Option.some.inj H
  go_enter Tryz.func17, Tryz.ntmps17
  go_wp2
  go_ret
  exact ⟨by first | rfl | simp | simp [*] | simp [bne_nil_], by repeat (first | exact Drawn0.refl _ | apply Drawn0.step)⟩
 ·rw [if_neg c2] at H
  have c2b0 : decide (86400 ≤ a0) = false := decide_eq_false c2
  clear c2
  obtain rfl := Option.some.inj H
  go_enter Tryz.func17, Tryz.ntmps17
  go_wp2
  go_ret
  exact ⟨by first | rfl | simp | simp [*] | simp [bne_nil_], by repeat (first | exact Drawn0.refl _ | apply Drawn0.step)⟩

/-! ### trystref01_In: function 29 -/
def trystref01_In.f (a0 : Int) : Option (Bool) := if a0 ≥ 1 then (some (decide (a0 ≤ 3652059))) else (some false)
set_option maxHeartbeats 8000000 in
set_option maxRecDepth 100000 in
theorem trystref01_In.calls (a0 : Int) (r : Bool) (w : World) (h : trystref01_In.f a0 = some r) :
  Calls Tryz.prog 29 #[.int .i64 a0] w fun e w' => e = .returned (.bool r) ∧ Drawn0 w w' := by
 have H : (if a0 ≥ 1 then (some (decide (a0 ≤ 3652059))) else (some false)) = some r := h
 clear h
 by_cases c2 : a0 ≥ 1
 ·rw [if_pos c2] at H
  have c2b0 : decide (1 ≤ a0) = true := decide_eq_true c2
  clear c2
  obtain rfl := Option.some.inj H
  go_enter Tryz.func29, Tryz.ntmps29
  go_wp2
  go_ret
  exact ⟨by first | rfl | simp | simp [*] | simp [bne_nil_], by repeat (first | exact Drawn0.refl _ | apply Drawn0.step)⟩
 ·rw [if_neg c2] at H
  have c2b0 : decide (1 ≤ a0) = false := decide_eq_false c2
  clear c2
  obtain rfl := Option.some.inj H
  go_enter Tryz.func29, Tryz.ntmps29
  go_wp2
  go_ret
  exact ⟨by first | rfl | simp | simp [*] | simp [bne_nil_], by repeat (first | exact Drawn0.refl _ | apply Drawn0.step)⟩

/-! ### trystref01_Floor: function 32 -/
def trystref01_Floor.f (a0 : Int) (a1 : Int) : Option (Int) := if a1 = 0 then (none) else (if (wrap64 ((wrap64 (Int.tdiv a0 a1)) * a1)) > a0 then (some (wrap64 ((wrap64 (Int.tdiv a0 a1)) - 1))) else (some (wrap64 (Int.tdiv a0 a1))))
set_option maxHeartbeats 8000000 in
set_option maxRecDepth 100000 in
theorem trystref01_Floor.calls (a0 : Int) (a1 : Int) (r : Int) (w : World) (h : trystref01_Floor.f a0 a1 = some r) :
  Calls Tryz.prog 32 #[.int .i64 a0, .int .i64 a1] w fun e w' => e = .returned (.int .i64 r) ∧ Drawn0 w w' := by
 have H : (if a1 = 0 then (none) else (if (wrap64 ((wrap64 (Int.tdiv a0 a1)) * a1)) > a0 then (some (wrap64 ((wrap64 (Int.tdiv a0 a1)) - 1))) else (some (wrap64 (Int.tdiv a0 a1))))) = some r := h
 clear h
 by_cases c3 : a1 = 0
 ·rw [if_pos c3] at H
  exact absurd H (by simp)
 ·rw [if_neg c3] at H
  have c3b0 : (a1 == 0) = false := beq_eq_false_iff_ne.mpr c3
  have c3b1 : (a1 != 0) = true := bne_iff_ne.mpr c3
  by_cases c4 : (wrap64 ((wrap64 (Int.tdiv a0 a1)) * a1)) > a0
  ·rw [if_pos c4] at H
   have c4b0 : decide (a0 < (wrap64 ((wrap64 (Int.tdiv a0 a1)) * a1))) = true := decide_eq_true c4
   clear c4
   obtain rfl := Option.some.inj H
   go_enter Tryz.func32, Tryz.ntmps32
   go_wp2
   go_ret
   exact ⟨by first | rfl | simp | simp [*] | simp [bne_nil_], by repeat (first | exact Drawn0.refl _ | apply Drawn0.step)⟩
  ·rw [if_neg c4] at H
   have c4b0 : decide (a0 < (wrap64 ((wrap64 (Int.tdiv a0 a1)) * a1))) = false := decide_eq_false c4
   clear c4
   obtain rfl := Option.some.inj H
   go_enter Tryz.func32, Tryz.ntmps32
   go_wp2
   go_ret
   exact ⟨by first | rfl | simp | simp [*] | simp [bne_nil_], by repeat (first | exact Drawn0.refl _ | apply Drawn0.step)⟩

/-! ### trystref01_Mod: function 33 -/
def trystref01_Mod.f (a0 : Int) (a1 : Int) : Option (Int) := (trystref01_Floor.f a0 a1).bind fun t259 => (some (wrap64 (a0 - (wrap64 (a1 * t259)))))
set_option maxHeartbeats 8000000 in
set_option maxRecDepth 100000 in
theorem trystref01_Mod.calls (a0 : Int) (a1 : Int) (r : Int) (w : World) (h : trystref01_Mod.f a0 a1 = some r) :
  Calls Tryz.prog 33 #[.int .i64 a0, .int .i64 a1] w fun e w' => e = .returned (.int .i64 r) ∧ Drawn0 w w' := by
 have H : ((trystref01_Floor.f a0 a1).bind fun t259 => (some (wrap64 (a0 - (wrap64 (a1 * t259)))))) = some r := h
 clear h
 replace H := Option.bind_eq_some_iff.mp H
 obtain ⟨t259, A30, H⟩ := H
 replace H : (some (wrap64 (a0 - (wrap64 (a1 * t259))))) = some r := H
 have A3 := Aside0.mk A30
 clear A30
 obtain rfl := Option.some.inj H
 go_enter Tryz.func33, Tryz.ntmps33
 go_wp2_with (first | ((with_reducible refine gate_callee (f := 32) rfl ?_); refine gm_ (some 9) Tryz.func32 #[.int .i64 a0, .int .i64 a1] ?_; (with_reducible refine (trystref01_Floor.calls a0 a1 t259 _ A3.out).mono ?_); rintro e w' ⟨rfl, ⟨nd, rfl⟩⟩; refine ⟨_, rfl, ?_⟩))
 go_ret
 exact ⟨by first | rfl | simp | simp [*] | simp [bne_nil_], by repeat (first | exact Drawn0.refl _ | apply Drawn0.step)⟩

/-! ### trystref01_Leap: function 99 -/
def trystref01_Leap.f (a0 : Int) : Option (Bool) := (trystref01_Mod.f a0 4).bind fun t260 => (if t260 = 0 then ((trystref01_Mod.f a0 400).bind fun t261 => (if t261 = 100 then (some false) else ((trystref01_Mod.f a0 400).bind fun t262 => (if t262 = 200 then (some false) else ((trystref01_Mod.f a0 400).bind fun t263 => (some (t263 != 300))))))) else (some false))
set_option maxHeartbeats 8000000 in
set_option maxRecDepth 100000 in
theorem trystref01_Leap.calls (a0 : Int) (r : Bool) (w : World) (h : trystref01_Leap.f a0 = some r) :
  Calls Tryz.prog 99 #[.int .i64 a0] w fun e w' => e = .returned (.bool r) ∧ Drawn0 w w' := by
 have H : ((trystref01_Mod.f a0 4).bind fun t260 => (if t260 = 0 then ((trystref01_Mod.f a0 400).bind fun t261 => (if t261 = 100 then (some false) else ((trystref01_Mod.f a0 400).bind fun t262 => (if t262 = 200 then (some false) else ((trystref01_Mod.f a0 400).bind fun t263 => (some (t263 != 300))))))) else (some false))) = some r := h
 clear h
 replace H := Option.bind_eq_some_iff.mp H
 obtain ⟨t260, A20, H⟩ := H
 replace H : (if t260 = 0 then ((trystref01_Mod.f a0 400).bind fun t261 => (if t261 = 100 then (some false) else ((trystref01_Mod.f a0 400).bind fun t262 => (if t262 = 200 then (some false) else ((trystref01_Mod.f a0 400).bind fun t263 => (some (t263 != 300))))))) else (some false)) = some r := H
 have A2 := Aside0.mk A20
 clear A20
 by_cases c3 : t260 = 0
 ·rw [if_pos c3] at H
  have c3b0 : (t260 == 0) = true := beq_iff_eq.mpr c3
  have c3b1 : (t260 != 0) = false := bne_eq_false_iff_eq.mpr c3
  clear c3
  replace H := Option.bind_eq_some_iff.mp H
  obtain ⟨t261, A40, H⟩ := H
  replace H : (if t261 = 100 then (some false) else ((trystref01_Mod.f a0 400).bind fun t262 => (if t262 = 200 then (some false) else ((trystref01_Mod.f a0 400).bind fun t263 => (some (t263 != 300)))))) = some r := H
  have A4 := Aside0.mk A40
  clear A40
  by_cases c5 : t261 = 100
  ·rw [if_pos c5] at H
   have c5b0 : (t261 == 100) = true := beq_iff_eq.mpr c5
   have c5b1 : (t261 != 100) = false := bne_eq_false_iff_eq.mpr c5
   clear c5
   obtain rfl := Option.some.inj H
   go_enter Tryz.func99, Tryz.ntmps99
   go_wp2_with (first | ((with_reducible refine gate_callee (f := 33) rfl ?_); refine gm_ (some 4) Tryz.func33 #[.int .i64 a0, .int .i64 4] ?_; (with_reducible refine (trystref01_Mod.calls a0 4 t260 _ A2.out).mono ?_); rintro e w' ⟨rfl, ⟨nd, rfl⟩⟩; refine ⟨_, rfl, ?_⟩) | (go_at_call 33; (with_reducible refine (trystref01_Mod.calls a0 400 t261 _ A4.out).mono ?_); rintro e w' ⟨rfl, ⟨nd, rfl⟩⟩))
   go_ret
   exact ⟨by first | rfl | simp | simp [*] | simp [bne_nil_], by repeat (first | exact Drawn0.refl _ | apply Drawn0.step)⟩
  ·rw [if_neg c5] at H
   have c5b0 : (t261 == 100) = false := beq_eq_false_iff_ne.mpr c5
   have c5b1 : (t261 != 100) = true := bne_iff_ne.mpr c5
   replace H := Option.bind_eq_some_iff.mp H
   obtain ⟨t262, A60, H⟩ := H
   have A6d := Option.some.inj (A4.out.symm.trans A60)
   clear A60
   subst A6d
   replace H : (if t261 = 200 then (some false) else ((trystref01_Mod.f a0 400).bind fun t263 => (some (t263 != 300)))) = some r := H
   by_cases c7 : t261 = 200
   ·rw [if_pos c7] at H
    have c7b0 : (t261 == 200) = true := beq_iff_eq.mpr c7
    have c7b1 : (t261 != 200) = false := bne_eq_false_iff_eq.mpr c7
    clear c7
    obtain rfl := Option.some.inj H
    go_enter Tryz.func99, Tryz.ntmps99
    go_wp2_with (first | ((with_reducible refine gate_callee (f := 33) rfl ?_); refine gm_ (some 4) Tryz.func33 #[.int .i64 a0, .int .i64 4] ?_; (with_reducible refine (trystref01_Mod.calls a0 4 t260 _ A2.out).mono ?_); rintro e w' ⟨rfl, ⟨nd, rfl⟩⟩; refine ⟨_, rfl, ?_⟩) | (go_at_call 33; (with_reducible refine (trystref01_Mod.calls a0 400 t261 _ A4.out).mono ?_); rintro e w' ⟨rfl, ⟨nd, rfl⟩⟩) | (go_at_call 33; (with_reducible refine (trystref01_Mod.calls a0 400 t261 _ A4.out).mono ?_); rintro e w' ⟨rfl, ⟨nd, rfl⟩⟩))
    go_ret
    exact ⟨by first | rfl | simp | simp [*] | simp [bne_nil_], by repeat (first | exact Drawn0.refl _ | apply Drawn0.step)⟩
   ·rw [if_neg c7] at H
    have c7b0 : (t261 == 200) = false := beq_eq_false_iff_ne.mpr c7
    have c7b1 : (t261 != 200) = true := bne_iff_ne.mpr c7
    replace H := Option.bind_eq_some_iff.mp H
    obtain ⟨t263, A80, H⟩ := H
    have A8d := Option.some.inj (A4.out.symm.trans A80)
    clear A80
    subst A8d
    replace H : (some (t261 != 300)) = some r := H
    obtain rfl := Option.some.inj H
    go_enter Tryz.func99, Tryz.ntmps99
    go_wp2_with (first | ((with_reducible refine gate_callee (f := 33) rfl ?_); refine gm_ (some 4) Tryz.func33 #[.int .i64 a0, .int .i64 4] ?_; (with_reducible refine (trystref01_Mod.calls a0 4 t260 _ A2.out).mono ?_); rintro e w' ⟨rfl, ⟨nd, rfl⟩⟩; refine ⟨_, rfl, ?_⟩) | (go_at_call 33; (with_reducible refine (trystref01_Mod.calls a0 400 t261 _ A4.out).mono ?_); rintro e w' ⟨rfl, ⟨nd, rfl⟩⟩) | (go_at_call 33; (with_reducible refine (trystref01_Mod.calls a0 400 t261 _ A4.out).mono ?_); rintro e w' ⟨rfl, ⟨nd, rfl⟩⟩) | (go_at_call 33; (with_reducible refine (trystref01_Mod.calls a0 400 t261 _ A4.out).mono ?_); rintro e w' ⟨rfl, ⟨nd, rfl⟩⟩))
    go_ret
    exact ⟨by first | rfl | simp | simp [*] | simp [bne_nil_], by repeat (first | exact Drawn0.refl _ | apply Drawn0.step)⟩
 ·rw [if_neg c3] at H
  have c3b0 : (t260 == 0) = false := beq_eq_false_iff_ne.mpr c3
  have c3b1 : (t260 != 0) = true := bne_iff_ne.mpr c3
  obtain rfl := Option.some.inj H
  go_enter Tryz.func99, Tryz.ntmps99
  go_wp2_with (first | ((with_reducible refine gate_callee (f := 33) rfl ?_); refine gm_ (some 4) Tryz.func33 #[.int .i64 a0, .int .i64 4] ?_; (with_reducible refine (trystref01_Mod.calls a0 4 t260 _ A2.out).mono ?_); rintro e w' ⟨rfl, ⟨nd, rfl⟩⟩; refine ⟨_, rfl, ?_⟩))
  go_ret
  exact ⟨by first | rfl | simp | simp [*] | simp [bne_nil_], by repeat (first | exact Drawn0.refl _ | apply Drawn0.step)⟩

/-! ### trystref01_gregorian: function 59 -/
def trystref01_gregorian.j0 : Nat → Int → Int → Bool → Option (Int)
 | 0, _, _, _ => none
 | k + 1, x1, x7, x35 => if x35 = true then (some (wrap64 (x7 - 1))) else (if x1 > 2 then (some (wrap64 (x7 - 2))) else (some x7))
def trystref01_gregorian.f (k : Nat) (a0 : Int) (a1 : Int) (a2 : Int) : Option (Int) := (trystref01_Floor.f (wrap64 (a0 - 1)) 4).bind fun t264 => ((trystref01_Floor.f (wrap64 (a0 - 1)) 100).bind fun t265 => ((trystref01_Floor.f (wrap64 (a0 - 1)) 400).bind fun t266 => (if a1 > 2 then ((trystref01_Leap.f a0).bind fun t267 => (trystref01_gregorian.j0 k a1 (wrap64 ((wrap64 ((wrap64 ((wrap64 ((wrap64 ((wrap64 (365 * (wrap64 (a0 - 1)))) + t264)) - t265)) + t266)) + (wrap64 (Int.tdiv (wrap64 ((wrap64 (367 * a1)) - 362)) 12)))) + a2)) t267)) else (trystref01_gregorian.j0 k a1 (wrap64 ((wrap64 ((wrap64 ((wrap64 ((wrap64 ((wrap64 (365 * (wrap64 (a0 - 1)))) + t264)) - t265)) + t266)) + (wrap64 (Int.tdiv (wrap64 ((wrap64 (367 * a1)) - 362)) 12)))) + a2)) false))))
set_option maxHeartbeats 8000000 in
set_option maxRecDepth 100000 in
theorem trystref01_gregorian.calls (k : Nat) (a0 : Int) (a1 : Int) (a2 : Int) (r : Int) (w : World) (h : trystref01_gregorian.f k a0 a1 a2 = some r) :
  Calls Tryz.prog 59 #[.int .i64 a0, .int .i64 a1, .int .i64 a2] w fun e w' => e = .returned (.int .i64 r) ∧ Drawn0 w w' := by
 have H : ((trystref01_Floor.f (wrap64 (a0 - 1)) 4).bind fun t264 => ((trystref01_Floor.f (wrap64 (a0 - 1)) 100).bind fun t265 => ((trystref01_Floor.f (wrap64 (a0 - 1)) 400).bind fun t266 => (if a1 > 2 then ((trystref01_Leap.f a0).bind fun t267 => (trystref01_gregorian.j0 k a1 (wrap64 ((wrap64 ((wrap64 ((wrap64 ((wrap64 ((wrap64 (365 * (wrap64 (a0 - 1)))) + t264)) - t265)) + t266)) + (wrap64 (Int.tdiv (wrap64 ((wrap64 (367 * a1)) - 362)) 12)))) + a2)) t267)) else (trystref01_gregorian.j0 k a1 (wrap64 ((wrap64 ((wrap64 ((wrap64 ((wrap64 ((wrap64 (365 * (wrap64 (a0 - 1)))) + t264)) - t265)) + t266)) + (wrap64 (Int.tdiv (wrap64 ((wrap64 (367 * a1)) - 362)) 12)))) + a2)) false))))) = some r := h
 clear h
 replace H := Option.bind_eq_some_iff.mp H
 obtain ⟨t264, A40, H⟩ := H
 replace H : ((trystref01_Floor.f (wrap64 (a0 - 1)) 100).bind fun t265 => ((trystref01_Floor.f (wrap64 (a0 - 1)) 400).bind fun t266 => (if a1 > 2 then ((trystref01_Leap.f a0).bind fun t267 => (trystref01_gregorian.j0 k a1 (wrap64 ((wrap64 ((wrap64 ((wrap64 ((wrap64 ((wrap64 (365 * (wrap64 (a0 - 1)))) + t264)) - t265)) + t266)) + (wrap64 (Int.tdiv (wrap64 ((wrap64 (367 * a1)) - 362)) 12)))) + a2)) t267)) else (trystref01_gregorian.j0 k a1 (wrap64 ((wrap64 ((wrap64 ((wrap64 ((wrap64 ((wrap64 (365 * (wrap64 (a0 - 1)))) + t264)) - t265)) + t266)) + (wrap64 (Int.tdiv (wrap64 ((wrap64 (367 * a1)) - 362)) 12)))) + a2)) false)))) = some r := H
 have A4 := Aside0.mk A40
 clear A40
 replace H := Option.bind_eq_some_iff.mp H
 obtain ⟨t265, A50, H⟩ := H
 replace H : ((trystref01_Floor.f (wrap64 (a0 - 1)) 400).bind fun t266 => (if a1 > 2 then ((trystref01_Leap.f a0).bind fun t267 => (trystref01_gregorian.j0 k a1 (wrap64 ((wrap64 ((wrap64 ((wrap64 ((wrap64 ((wrap64 (365 * (wrap64 (a0 - 1)))) + t264)) - t265)) + t266)) + (wrap64 (Int.tdiv (wrap64 ((wrap64 (367 * a1)) - 362)) 12)))) + a2)) t267)) else (trystref01_gregorian.j0 k a1 (wrap64 ((wrap64 ((wrap64 ((wrap64 ((wrap64 ((wrap64 (365 * (wrap64 (a0 - 1)))) + t264)) - t265)) + t266)) + (wrap64 (Int.tdiv (wrap64 ((wrap64 (367 * a1)) - 362)) 12)))) + a2)) false))) = some r := H
 have A5 := Aside0.mk A50
 clear A50
 replace H := Option.bind_eq_some_iff.mp H
 obtain ⟨t266, A60, H⟩ := H
 replace H : (if a1 > 2 then ((trystref01_Leap.f a0).bind fun t267 => (trystref01_gregorian.j0 k a1 (wrap64 ((wrap64 ((wrap64 ((wrap64 ((wrap64 ((wrap64 (365 * (wrap64 (a0 - 1)))) + t264)) - t265)) + t266)) + (wrap64 (Int.tdiv (wrap64 ((wrap64 (367 * a1)) - 362)) 12)))) + a2)) t267)) else (trystref01_gregorian.j0 k a1 (wrap64 ((wrap64 ((wrap64 ((wrap64 ((wrap64 ((wrap64 (365 * (wrap64 (a0 - 1)))) + t264)) - t265)) + t266)) + (wrap64 (Int.tdiv (wrap64 ((wrap64 (367 * a1)) - 362)) 12)))) + a2)) false)) = some r := H
 have A6 := Aside0.mk A60
 clear A60
 have HC7 := Aside0.mk H
 clear H
 go_enter Tryz.func59, Tryz.ntmps59
 go_upto_region 2 with (first | ((with_reducible refine gate_callee (f := 32) rfl ?_); refine gm_ (some 13) Tryz.func32 #[.int .i64 (wrap64 (a0 - 1)), .int .i64 4] ?_; (with_reducible refine (trystref01_Floor.calls (wrap64 (a0 - 1)) 4 t264 _ A4.out).mono ?_); rintro e w' ⟨rfl, ⟨nd, rfl⟩⟩; refine ⟨_, rfl, ?_⟩) | ((with_reducible refine gate_callee (f := 32) rfl ?_); refine gm_ (some 17) Tryz.func32 #[.int .i64 (wrap64 (a0 - 1)), .int .i64 100] ?_; (with_reducible refine (trystref01_Floor.calls (wrap64 (a0 - 1)) 100 t265 _ A5.out).mono ?_); rintro e w' ⟨rfl, ⟨nd, rfl⟩⟩; refine ⟨_, rfl, ?_⟩) | ((with_reducible refine gate_callee (f := 32) rfl ?_); refine gm_ (some 21) Tryz.func32 #[.int .i64 (wrap64 (a0 - 1)), .int .i64 400] ?_; (with_reducible refine (trystref01_Floor.calls (wrap64 (a0 - 1)) 400 t266 _ A6.out).mono ?_); rintro e w' ⟨rfl, ⟨nd, rfl⟩⟩; refine ⟨_, rfl, ?_⟩))
 (try simp only [Act.put, List.setIfInBounds_toArray, List.set_cons_zero, List.set_cons_succ])
 go_cut [35] (fun v35 wc => ∃ (kq : Nat) (x35_6 : Bool), v35 = .bool x35_6 ∧ Aside0 (trystref01_gregorian.j0 kq a1 (wrap64 ((wrap64 ((wrap64 ((wrap64 ((wrap64 ((wrap64 (365 * (wrap64 (a0 - 1)))) + t264)) - t265)) + t266)) + (wrap64 (Int.tdiv (wrap64 ((wrap64 (367 * a1)) - 362)) 12)))) + a2)) x35_6 = some r) ∧ Aside0 (kq ≤ k) ∧ Drawn0 w wc)
 case first =>
  have H := HC7.out
  clear HC7
  by_cases c8 : a1 > 2
  ·rw [if_pos c8] at H
   have c8b0 : decide (2 < a1) = true := decide_eq_true c8
   clear c8
   (first | rw [c8b0] | (simp only [i64_w, i32_w]; rw [c8b0]) | skip)
   replace H := Option.bind_eq_some_iff.mp H
   obtain ⟨t267, A90, H⟩ := H
   replace H : (trystref01_gregorian.j0 k a1 (wrap64 ((wrap64 ((wrap64 ((wrap64 ((wrap64 ((wrap64 (365 * (wrap64 (a0 - 1)))) + t264)) - t265)) + t266)) + (wrap64 (Int.tdiv (wrap64 ((wrap64 (367 * a1)) - 362)) 12)))) + a2)) t267) = some r := H
   have A9 := Aside0.mk A90
   clear A90
   have H' := Aside0.mk H
   clear H
   go_wp2_with (first | (go_at_call 99; (with_reducible refine (trystref01_Leap.calls a0 t267 _ A9.out).mono ?_); rintro e w' ⟨rfl, ⟨nd, rfl⟩⟩))
   go_meet
   case rel => exact ⟨_, (t267), (by first | rfl | (simp; done) | (simp [*]; done)), H', ⟨by first | omega | exact Nat.le_refl _⟩, by repeat (first | exact Drawn0.refl _ | apply Drawn0.step)⟩
  ·rw [if_neg c8] at H
   have c8b0 : decide (2 < a1) = false := decide_eq_false c8
   clear c8
   (first | rw [c8b0] | (simp only [i64_w, i32_w]; rw [c8b0]) | skip)
   have H' := Aside0.mk H
   clear H
   go_wp2
   go_meet
   case rel => exact ⟨_, (false), (by first | rfl | (simp; done) | (simp [*]; done)), H', ⟨by first | omega | exact Nat.le_refl _⟩, by repeat (first | exact Drawn0.refl _ | apply Drawn0.step)⟩
 case rest =>
  clear HC7
  try clear p2
  try clear c3
  try clear c5
  try clear p6
  try clear c8
  try clear c8b0
  obtain ⟨kq, x35_6, rfl, HA, HJ6, ⟨mc6, rfl⟩⟩ := hcut
  cases kq with
  | zero => exact absurd HA.out (by simp [trystref01_gregorian.j0])
  | succ kj6 =>
   have H := HA.out
   clear HA
   simp only [trystref01_gregorian.j0] at H
   by_cases c10 : x35_6 = true
   ·subst c10
    have H1 : (some (wrap64 ((wrap64 ((wrap64 ((wrap64 ((wrap64 ((wrap64 ((wrap64 (365 * (wrap64 (a0 - 1)))) + t264)) - t265)) + t266)) + (wrap64 (Int.tdiv (wrap64 ((wrap64 (367 * a1)) - 362)) 12)))) + a2)) - 1))) = some r := by rw [if_pos rfl] at H; exact H
    clear H
    have H := H1
    clear H1
    obtain rfl := Option.some.inj H
    go_wp2
    go_ret
    exact ⟨by first | rfl | simp | simp [*] | simp [bne_nil_], by repeat (first | exact Drawn0.refl _ | apply Drawn0.step)⟩
   ·replace c10 := Bool.eq_false_iff.mpr c10
    subst c10
    have H1 : (if a1 > 2 then (some (wrap64 ((wrap64 ((wrap64 ((wrap64 ((wrap64 ((wrap64 ((wrap64 (365 * (wrap64 (a0 - 1)))) + t264)) - t265)) + t266)) + (wrap64 (Int.tdiv (wrap64 ((wrap64 (367 * a1)) - 362)) 12)))) + a2)) - 2))) else (some (wrap64 ((wrap64 ((wrap64 ((wrap64 ((wrap64 ((wrap64 (365 * (wrap64 (a0 - 1)))) + t264)) - t265)) + t266)) + (wrap64 (Int.tdiv (wrap64 ((wrap64 (367 * a1)) - 362)) 12)))) + a2)))) = some r := by rw [if_neg (show ¬ (false = true) by decide)] at H; exact H
    clear H
    have H := H1
    clear H1
    by_cases c11 : a1 > 2
    ·rw [if_pos c11] at H
     have c11b0 : decide (2 < a1) = true := decide_eq_true c11
     clear c11
     obtain rfl := Option.some.inj H
     go_wp2
     go_ret
     exact ⟨by first | rfl | simp | simp [*] | simp [bne_nil_], by repeat (first | exact Drawn0.refl _ | apply Drawn0.step)⟩
    ·rw [if_neg c11] at H
     have c11b0 : decide (2 < a1) = false := decide_eq_false c11
     clear c11
     obtain rfl := Option.some.inj H
     go_wp2
     go_ret
     exact ⟨by first | rfl | simp | simp [*] | simp [bne_nil_], by repeat (first | exact Drawn0.refl _ | apply Drawn0.step)⟩

/-! ### trystref01_julian: function 60 -/
def trystref01_julian.j0 : Nat → Int → Int → Bool → Option (Int)
 | 0, _, _, _ => none
 | k + 1, x1, x7, x29 => if x29 = true then (some (wrap64 (x7 - 1))) else (if x1 > 2 then (some (wrap64 (x7 - 2))) else (some x7))
def trystref01_julian.f (k : Nat) (a0 : Int) (a1 : Int) (a2 : Int) : Option (Int) := (trystref01_Floor.f (wrap64 (a0 - 1)) 4).bind fun t268 => (if a1 > 2 then ((trystref01_Mod.f a0 4).bind fun t269 => (trystref01_julian.j0 k a1 (wrap64 ((wrap64 ((wrap64 ((wrap64 ((-2) + (wrap64 (365 * (wrap64 (a0 - 1)))))) + t268)) + (wrap64 (Int.tdiv (wrap64 ((wrap64 (367 * a1)) - 362)) 12)))) + a2)) (t269 == 0))) else (trystref01_julian.j0 k a1 (wrap64 ((wrap64 ((wrap64 ((wrap64 ((-2) + (wrap64 (365 * (wrap64 (a0 - 1)))))) + t268)) + (wrap64 (Int.tdiv (wrap64 ((wrap64 (367 * a1)) - 362)) 12)))) + a2)) false))
set_option maxHeartbeats 8000000 in
set_option maxRecDepth 100000 in
theorem trystref01_julian.calls (k : Nat) (a0 : Int) (a1 : Int) (a2 : Int) (r : Int) (w : World) (h : trystref01_julian.f k a0 a1 a2 = some r) :
  Calls Tryz.prog 60 #[.int .i64 a0, .int .i64 a1, .int .i64 a2] w fun e w' => e = .returned (.int .i64 r) ∧ Drawn0 w w' := by
 have H : ((trystref01_Floor.f (wrap64 (a0 - 1)) 4).bind fun t268 => (if a1 > 2 then ((trystref01_Mod.f a0 4).bind fun t269 => (trystref01_julian.j0 k a1 (wrap64 ((wrap64 ((wrap64 ((wrap64 ((-2) + (wrap64 (365 * (wrap64 (a0 - 1)))))) + t268)) + (wrap64 (Int.tdiv (wrap64 ((wrap64 (367 * a1)) - 362)) 12)))) + a2)) (t269 == 0))) else (trystref01_julian.j0 k a1 (wrap64 ((wrap64 ((wrap64 ((wrap64 ((-2) + (wrap64 (365 * (wrap64 (a0 - 1)))))) + t268)) + (wrap64 (Int.tdiv (wrap64 ((wrap64 (367 * a1)) - 362)) 12)))) + a2)) false))) = some r := h
 clear h
 replace H := Option.bind_eq_some_iff.mp H
 obtain ⟨t268, A40, H⟩ := H
 replace H : (if a1 > 2 then ((trystref01_Mod.f a0 4).bind fun t269 => (trystref01_julian.j0 k a1 (wrap64 ((wrap64 ((wrap64 ((wrap64 ((-2) + (wrap64 (365 * (wrap64 (a0 - 1)))))) + t268)) + (wrap64 (Int.tdiv (wrap64 ((wrap64 (367 * a1)) - 362)) 12)))) + a2)) (t269 == 0))) else (trystref01_julian.j0 k a1 (wrap64 ((wrap64 ((wrap64 ((wrap64 ((-2) + (wrap64 (365 * (wrap64 (a0 - 1)))))) + t268)) + (wrap64 (Int.tdiv (wrap64 ((wrap64 (367 * a1)) - 362)) 12)))) + a2)) false)) = some r := H
 have A4 := Aside0.mk A40
 clear A40
 have HC5 := Aside0.mk H
 clear H
 go_enter Tryz.func60, Tryz.ntmps60
 go_upto_region 2 with (first | ((with_reducible refine gate_callee (f := 32) rfl ?_); refine gm_ (some 14) Tryz.func32 #[.int .i64 (wrap64 (a0 - 1)), .int .i64 4] ?_; (with_reducible refine (trystref01_Floor.calls (wrap64 (a0 - 1)) 4 t268 _ A4.out).mono ?_); rintro e w' ⟨rfl, ⟨nd, rfl⟩⟩; refine ⟨_, rfl, ?_⟩))
 (try simp only [Act.put, List.setIfInBounds_toArray, List.set_cons_zero, List.set_cons_succ])
 go_cut [29] (fun v29 wc => ∃ (kq : Nat) (x29_4 : Bool), v29 = .bool x29_4 ∧ Aside0 (trystref01_julian.j0 kq a1 (wrap64 ((wrap64 ((wrap64 ((wrap64 ((-2) + (wrap64 (365 * (wrap64 (a0 - 1)))))) + t268)) + (wrap64 (Int.tdiv (wrap64 ((wrap64 (367 * a1)) - 362)) 12)))) + a2)) x29_4 = some r) ∧ Aside0 (kq ≤ k) ∧ Drawn0 w wc)
 case first =>
  have H := HC5.out
  clear HC5
  by_cases c6 : a1 > 2
  ·rw [if_pos c6] at H
   have c6b0 : decide (2 < a1) = true := decide_eq_true c6
   clear c6
   (first | rw [c6b0] | (simp only [i64_w, i32_w]; rw [c6b0]) | skip)
   replace H := Option.bind_eq_some_iff.mp H
   obtain ⟨t269, A70, H⟩ := H
   replace H : (trystref01_julian.j0 k a1 (wrap64 ((wrap64 ((wrap64 ((wrap64 ((-2) + (wrap64 (365 * (wrap64 (a0 - 1)))))) + t268)) + (wrap64 (Int.tdiv (wrap64 ((wrap64 (367 * a1)) - 362)) 12)))) + a2)) (t269 == 0)) = some r := H
   have A7 := Aside0.mk A70
   clear A70
   have H' := Aside0.mk H
   clear H
   go_wp2_with (first | (go_at_call 33; (with_reducible refine (trystref01_Mod.calls a0 4 t269 _ A7.out).mono ?_); rintro e w' ⟨rfl, ⟨nd, rfl⟩⟩))
   go_meet
   case rel => exact ⟨_, ((t269 == 0)), (by first | rfl | (simp; done) | (simp [*]; done)), H', ⟨by first | omega | exact Nat.le_refl _⟩, by repeat (first | exact Drawn0.refl _ | apply Drawn0.step)⟩
  ·rw [if_neg c6] at H
   have c6b0 : decide (2 < a1) = false := decide_eq_false c6
   clear c6
   (first | rw [c6b0] | (simp only [i64_w, i32_w]; rw [c6b0]) | skip)
   have H' := Aside0.mk H
   clear H
   go_wp2
   go_meet
   case rel => exact ⟨_, (false), (by first | rfl | (simp; done) | (simp [*]; done)), H', ⟨by first | omega | exact Nat.le_refl _⟩, by repeat (first | exact Drawn0.refl _ | apply Drawn0.step)⟩
 case rest =>
  clear HC5
  try clear p2
  try clear c3
  try clear c6
  try clear c6b0
  try clear p6
  obtain ⟨kq, x29_4, rfl, HA, HJ4, ⟨mc4, rfl⟩⟩ := hcut
  cases kq with
  | zero => exact absurd HA.out (by simp [trystref01_julian.j0])
  | succ kj4 =>
   have H := HA.out
   clear HA
   simp only [trystref01_julian.j0] at H
   by_cases c8 : x29_4 = true
   ·subst c8
    have H1 : (some (wrap64 ((wrap64 ((wrap64 ((wrap64 ((wrap64 ((-2) + (wrap64 (365 * (wrap64 (a0 - 1)))))) + t268)) + (wrap64 (Int.tdiv (wrap64 ((wrap64 (367 * a1)) - 362)) 12)))) + a2)) - 1))) = some r := by rw [if_pos rfl] at H; exact H
    clear H
    have H := H1
    clear H1
    obtain rfl := Option.some.inj H
    go_wp2
    go_ret
    exact ⟨by first | rfl | simp | simp [*] | simp [bne_nil_], by repeat (first | exact Drawn0.refl _ | apply Drawn0.step)⟩
   ·replace c8 := Bool.eq_false_iff.mpr c8
    subst c8
    have H1 : (if a1 > 2 then (some (wrap64 ((wrap64 ((wrap64 ((wrap64 ((wrap64 ((-2) + (wrap64 (365 * (wrap64 (a0 - 1)))))) + t268)) + (wrap64 (Int.tdiv (wrap64 ((wrap64 (367 * a1)) - 362)) 12)))) + a2)) - 2))) else (some (wrap64 ((wrap64 ((wrap64 ((wrap64 ((-2) + (wrap64 (365 * (wrap64 (a0 - 1)))))) + t268)) + (wrap64 (Int.tdiv (wrap64 ((wrap64 (367 * a1)) - 362)) 12)))) + a2)))) = some r := by rw [if_neg (show ¬ (false = true) by decide)] at H; exact H
    clear H
    have H := H1
    clear H1
    by_cases c9 : a1 > 2
    ·rw [if_pos c9] at H
     have c9b0 : decide (2 < a1) = true := decide_eq_true c9
     clear c9
     obtain rfl := Option.some.inj H
     go_wp2
     go_ret
     exact ⟨by first | rfl | simp | simp [*] | simp [bne_nil_], by repeat (first | exact Drawn0.refl _ | apply Drawn0.step)⟩
    ·rw [if_neg c9] at H
     have c9b0 : decide (2 < a1) = false := decide_eq_false c9
     clear c9
     obtain rfl := Option.some.inj H
     go_wp2
     go_ret
     exact ⟨by first | rfl | simp | simp [*] | simp [bne_nil_], by repeat (first | exact Drawn0.refl _ | apply Drawn0.step)⟩

/-! ### trystref01_Week1: function 61 -/
def trystref01_Week1.l0 : Nat → Int → Int → Option (Int)
 | 0, _, _ => none
 | k + 1, x1, x5 => (trystref01_Mod.f x5 7).bind fun t271 => (if t271 = x1 then (some x5) else (trystref01_Week1.l0 k x1 (wrap64 (x5 + 1))))
def trystref01_Week1.f (k : Nat) (a0 : Int) (a1 : Int) : Option (Int) := (trystref01_gregorian.f k a0 1 1).bind fun t270 => (trystref01_Week1.l0 k a1 (wrap64 (t270 - 3)))
set_option maxHeartbeats 8000000 in
set_option maxRecDepth 100000 in
theorem trystref01_Week1.calls (k : Nat) (a0 : Int) (a1 : Int) (r : Int) (w : World) (h : trystref01_Week1.f k a0 a1 = some r) :
  Calls Tryz.prog 61 #[.int .i64 a0, .int .i64 a1] w fun e w' => e = .returned (.int .i64 r) ∧ Drawn0 w w' := by
 have H : ((trystref01_gregorian.f k a0 1 1).bind fun t270 => (trystref01_Week1.l0 k a1 (wrap64 (t270 - 3)))) = some r := h
 clear h
 replace H := Option.bind_eq_some_iff.mp H
 obtain ⟨t270, A30, H⟩ := H
 replace H : (trystref01_Week1.l0 k a1 (wrap64 (t270 - 3))) = some r := H
 have A3 := Aside0.mk A30
 clear A30
 have H' := Aside0.mk H
 clear H
 go_enter Tryz.func61, Tryz.ntmps61
 go_wp2_with (first | ((with_reducible refine gate_callee (f := 59) rfl ?_); refine gm_ (some 7) Tryz.func59 #[.int .i64 a0, .int .i64 1, .int .i64 1] ?_; (with_reducible refine (trystref01_gregorian.calls k a0 1 1 t270 _ A3.out).mono ?_); rintro e w' ⟨rfl, ⟨nd, rfl⟩⟩; refine ⟨_, rfl, ?_⟩))
 go_loopg [5] k (fun kq v5 w' => ∃ (x5_1 : Int), v5 = .int .i64 x5_1 ∧ Aside0 (trystref01_Week1.l0 kq a1 x5_1 = some r) ∧ Aside0 (kq ≤ k) ∧ Drawn0 w w')
 case atStart => exact ⟨(wrap64 (t270 - 3)), (by first | rfl | (simp; done) | (simp [*]; done)), H', ⟨Nat.le_refl _⟩, by repeat (first | exact Drawn0.refl _ | apply Drawn0.step)⟩
 case round =>
  clear H'
  try clear p2
  obtain ⟨x5_1, rfl, HA, HK1, ⟨m1, rfl⟩⟩ := hrel
  cases gk with
  | zero => exact absurd HA.out (by simp [trystref01_Week1.l0])
  | succ k1 =>
   have H := HA.out
   clear HA
   simp only [trystref01_Week1.l0] at H
   replace H := Option.bind_eq_some_iff.mp H
   obtain ⟨t271, A40, H⟩ := H
   replace H : (if t271 = a1 then (some x5_1) else (trystref01_Week1.l0 k1 a1 (wrap64 (x5_1 + 1)))) = some r := H
   have A4 := Aside0.mk A40
   clear A40
   by_cases c5 : t271 = a1
   ·rw [if_pos c5] at H
    have c5b0 : (t271 == a1) = true := beq_iff_eq.mpr c5
    have c5b1 : (t271 != a1) = false := bne_eq_false_iff_eq.mpr c5
    clear c5
    obtain rfl := Option.some.inj H
    go_wp2_with (first | ((with_reducible refine gate_callee (f := 33) rfl ?_); refine gm_ (some 12) Tryz.func33 #[.int .i64 x5_1, .int .i64 7] ?_; (with_reducible refine (trystref01_Mod.calls x5_1 7 t271 _ A4.out).mono ?_); rintro e w' ⟨rfl, ⟨nd, rfl⟩⟩; refine ⟨_, rfl, ?_⟩))
    go_ret
    exact ⟨by first | rfl | simp | simp [*] | simp [bne_nil_], by repeat (first | exact Drawn0.refl _ | apply Drawn0.step)⟩
   ·rw [if_neg c5] at H
    have c5b0 : (t271 == a1) = false := beq_eq_false_iff_ne.mpr c5
    have c5b1 : (t271 != a1) = true := bne_iff_ne.mpr c5
    have H' := Aside0.mk H
    clear H
    go_wp2_with (first | ((with_reducible refine gate_callee (f := 33) rfl ?_); refine gm_ (some 12) Tryz.func33 #[.int .i64 x5_1, .int .i64 7] ?_; (with_reducible refine (trystref01_Mod.calls x5_1 7 t271 _ A4.out).mono ?_); rintro e w' ⟨rfl, ⟨nd, rfl⟩⟩; refine ⟨_, rfl, ?_⟩))
    go_roundg k1
    case measure => have := HK1.out; omega
    case rel => exact ⟨(wrap64 (x5_1 + 1)), (by first | rfl | (simp; done) | (simp [*]; done)), H', ⟨by have := HK1.out; omega⟩, by repeat (first | exact Drawn0.refl _ | apply Drawn0.step)⟩

/-! ### trystref01_hebrewLeap: function 100 -/
def trystref01_hebrewLeap.f (a0 : Int) : Option (Bool) := (trystref01_Mod.f (wrap64 ((wrap64 (7 * a0)) + 1)) 19).bind fun t272 => (some (decide (t272 < 7)))
set_option maxHeartbeats 8000000 in
set_option maxRecDepth 100000 in
theorem trystref01_hebrewLeap.calls (a0 : Int) (r : Bool) (w : World) (h : trystref01_hebrewLeap.f a0 = some r) :
  Calls Tryz.prog 100 #[.int .i64 a0] w fun e w' => e = .returned (.bool r) ∧ Drawn0 w w' := by
 have H : ((trystref01_Mod.f (wrap64 ((wrap64 (7 * a0)) + 1)) 19).bind fun t272 => (some (decide (t272 < 7)))) = some r := h
 clear h
 replace H := Option.bind_eq_some_iff.mp H
 obtain ⟨t272, A20, H⟩ := H
 replace H : (some (decide (t272 < 7))) = some r := H
 have A2 := Aside0.mk A20
 clear A20
 obtain rfl := Option.some.inj H
 go_enter Tryz.func100, Tryz.ntmps100
 go_wp2_with (first | ((with_reducible refine gate_callee (f := 33) rfl ?_); refine gm_ (some 6) Tryz.func33 #[.int .i64 (wrap64 ((wrap64 (7 * a0)) + 1)), .int .i64 19] ?_; (with_reducible refine (trystref01_Mod.calls (wrap64 ((wrap64 (7 * a0)) + 1)) 19 t272 _ A2.out).mono ?_); rintro e w' ⟨rfl, ⟨nd, rfl⟩⟩; refine ⟨_, rfl, ?_⟩))
 go_ret
 exact ⟨by first | rfl | simp | simp [*] | simp [bne_nil_], by repeat (first | exact Drawn0.refl _ | apply Drawn0.step)⟩

/-! ### trystref01_elapsed: function 120 -/
def trystref01_elapsed.f (a0 : Int) : Option (Int) := (trystref01_Floor.f (wrap64 ((wrap64 (235 * a0)) - 234)) 19).bind fun t273 => ((trystref01_Floor.f (wrap64 (12084 + (wrap64 (13753 * t273)))) 25920).bind fun t274 => ((trystref01_Mod.f (wrap64 (3 * (wrap64 ((wrap64 ((wrap64 (29 * t273)) + t274)) + 1)))) 7).bind fun t275 => (if t275 < 3 then (some (wrap64 ((wrap64 ((wrap64 (29 * t273)) + t274)) + 1))) else (some (wrap64 ((wrap64 (29 * t273)) + t274))))))
set_option maxHeartbeats 8000000 in
set_option maxRecDepth 100000 in
theorem trystref01_elapsed.calls (a0 : Int) (r : Int) (w : World) (h : trystref01_elapsed.f a0 = some r) :
  Calls Tryz.prog 120 #[.int .i64 a0] w fun e w' => e = .returned (.int .i64 r) ∧ Drawn0 w w' := by
 have H : ((trystref01_Floor.f (wrap64 ((wrap64 (235 * a0)) - 234)) 19).bind fun t273 => ((trystref01_Floor.f (wrap64 (12084 + (wrap64 (13753 * t273)))) 25920).bind fun t274 => ((trystref01_Mod.f (wrap64 (3 * (wrap64 ((wrap64 ((wrap64 (29 * t273)) + t274)) + 1)))) 7).bind fun t275 => (if t275 < 3 then (some (wrap64 ((wrap64 ((wrap64 (29 * t273)) + t274)) + 1))) else (some (wrap64 ((wrap64 (29 * t273)) + t274))))))) = some r := h
 clear h
 replace H := Option.bind_eq_some_iff.mp H
 obtain ⟨t273, A20, H⟩ := H
 replace H : ((trystref01_Floor.f (wrap64 (12084 + (wrap64 (13753 * t273)))) 25920).bind fun t274 => ((trystref01_Mod.f (wrap64 (3 * (wrap64 ((wrap64 ((wrap64 (29 * t273)) + t274)) + 1)))) 7).bind fun t275 => (if t275 < 3 then (some (wrap64 ((wrap64 ((wrap64 (29 * t273)) + t274)) + 1))) else (some (wrap64 ((wrap64 (29 * t273)) + t274)))))) = some r := H
 have A2 := Aside0.mk A20
 clear A20
 replace H := Option.bind_eq_some_iff.mp H
 obtain ⟨t274, A30, H⟩ := H
 replace H : ((trystref01_Mod.f (wrap64 (3 * (wrap64 ((wrap64 ((wrap64 (29 * t273)) + t274)) + 1)))) 7).bind fun t275 => (if t275 < 3 then (some (wrap64 ((wrap64 ((wrap64 (29 * t273)) + t274)) + 1))) else (some (wrap64 ((wrap64 (29 * t273)) + t274))))) = some r := H
 have A3 := Aside0.mk A30
 clear A30
 replace H := Option.bind_eq_some_iff.mp H
 obtain ⟨t275, A40, H⟩ := H
 replace H : (if t275 < 3 then (some (wrap64 ((wrap64 ((wrap64 (29 * t273)) + t274)) + 1))) else (some (wrap64 ((wrap64 (29 * t273)) + t274)))) = some r := H
 have A4 := Aside0.mk A40
 clear A40
 by_cases c5 : t275 < 3
 ·rw [if_pos c5] at H
  have c5b0 : decide (t275 < 3) = true := decide_eq_true c5
  clear c5
  obtain rfl := Option.some.inj H
  go_enter Tryz.func120, Tryz.ntmps120
  go_wp2_with (first | ((with_reducible refine gate_callee (f := 32) rfl ?_); refine gm_ (some 8) Tryz.func32 #[.int .i64 (wrap64 ((wrap64 (235 * a0)) - 234)), .int .i64 19] ?_; (with_reducible refine (trystref01_Floor.calls (wrap64 ((wrap64 (235 * a0)) - 234)) 19 t273 _ A2.out).mono ?_); rintro e w' ⟨rfl, ⟨nd, rfl⟩⟩; refine ⟨_, rfl, ?_⟩) | ((with_reducible refine gate_callee (f := 32) rfl ?_); refine gm_ (some 14) Tryz.func32 #[.int .i64 (wrap64 (12084 + (wrap64 (13753 * t273)))), .int .i64 25920] ?_; (with_reducible refine (trystref01_Floor.calls (wrap64 (12084 + (wrap64 (13753 * t273)))) 25920 t274 _ A3.out).mono ?_); rintro e w' ⟨rfl, ⟨nd, rfl⟩⟩; refine ⟨_, rfl, ?_⟩) | ((with_reducible refine gate_callee (f := 33) rfl ?_); refine gm_ (some 19) Tryz.func33 #[.int .i64 (wrap64 (3 * (wrap64 ((wrap64 ((wrap64 (29 * t273)) + t274)) + 1)))), .int .i64 7] ?_; (with_reducible refine (trystref01_Mod.calls (wrap64 (3 * (wrap64 ((wrap64 ((wrap64 (29 * t273)) + t274)) + 1)))) 7 t275 _ A4.out).mono ?_); rintro e w' ⟨rfl, ⟨nd, rfl⟩⟩; refine ⟨_, rfl, ?_⟩))
  go_ret
  exact ⟨by first | rfl | simp | simp [*] | simp [bne_nil_], by repeat (first | exact Drawn0.refl _ | apply Drawn0.step)⟩
 ·rw [if_neg c5] at H
  have c5b0 : decide (t275 < 3) = false := decide_eq_false c5
  clear c5
  obtain rfl := Option.some.inj H
  go_enter Tryz.func120, Tryz.ntmps120
  go_wp2_with (first | ((with_reducible refine gate_callee (f := 32) rfl ?_); refine gm_ (some 8) Tryz.func32 #[.int .i64 (wrap64 ((wrap64 (235 * a0)) - 234)), .int .i64 19] ?_; (with_reducible refine (trystref01_Floor.calls (wrap64 ((wrap64 (235 * a0)) - 234)) 19 t273 _ A2.out).mono ?_); rintro e w' ⟨rfl, ⟨nd, rfl⟩⟩; refine ⟨_, rfl, ?_⟩) | ((with_reducible refine gate_callee (f := 32) rfl ?_); refine gm_ (some 14) Tryz.func32 #[.int .i64 (wrap64 (12084 + (wrap64 (13753 * t273)))), .int .i64 25920] ?_; (with_reducible refine (trystref01_Floor.calls (wrap64 (12084 + (wrap64 (13753 * t273)))) 25920 t274 _ A3.out).mono ?_); rintro e w' ⟨rfl, ⟨nd, rfl⟩⟩; refine ⟨_, rfl, ?_⟩) | ((with_reducible refine gate_callee (f := 33) rfl ?_); refine gm_ (some 19) Tryz.func33 #[.int .i64 (wrap64 (3 * (wrap64 ((wrap64 ((wrap64 (29 * t273)) + t274)) + 1)))), .int .i64 7] ?_; (with_reducible refine (trystref01_Mod.calls (wrap64 (3 * (wrap64 ((wrap64 ((wrap64 (29 * t273)) + t274)) + 1)))) 7 t275 _ A4.out).mono ?_); rintro e w' ⟨rfl, ⟨nd, rfl⟩⟩; refine ⟨_, rfl, ?_⟩))
  go_ret
  exact ⟨by first | rfl | simp | simp [*] | simp [bne_nil_], by repeat (first | exact Drawn0.refl _ | apply Drawn0.step)⟩

/-! ### trystref01_newYear: function 101 -/
def trystref01_newYear.f (a0 : Int) : Option (Int) := (trystref01_elapsed.f (wrap64 (a0 - 1))).bind fun t276 => ((trystref01_elapsed.f a0).bind fun t277 => ((trystref01_elapsed.f (wrap64 (a0 + 1))).bind fun t278 => (if (wrap64 (t278 - t277)) = 356 then (some (wrap64 ((wrap64 (t277 + 2)) - 1373427))) else (if (wrap64 (t277 - t276)) = 382 then (some (wrap64 ((wrap64 (t277 + 1)) - 1373427))) else (some (wrap64 (t277 - 1373427)))))))
set_option maxHeartbeats 8000000 in
set_option maxRecDepth 100000 in
theorem trystref01_newYear.calls (a0 : Int) (r : Int) (w : World) (h : trystref01_newYear.f a0 = some r) :
  Calls Tryz.prog 101 #[.int .i64 a0] w fun e w' => e = .returned (.int .i64 r) ∧ Drawn0 w w' := by
 have H : ((trystref01_elapsed.f (wrap64 (a0 - 1))).bind fun t276 => ((trystref01_elapsed.f a0).bind fun t277 => ((trystref01_elapsed.f (wrap64 (a0 + 1))).bind fun t278 => (if (wrap64 (t278 - t277)) = 356 then (some (wrap64 ((wrap64 (t277 + 2)) - 1373427))) else (if (wrap64 (t277 - t276)) = 382 then (some (wrap64 ((wrap64 (t277 + 1)) - 1373427))) else (some (wrap64 (t277 - 1373427)))))))) = some r := h
 clear h
 replace H := Option.bind_eq_some_iff.mp H
 obtain ⟨t276, A20, H⟩ := H
 replace H : ((trystref01_elapsed.f a0).bind fun t277 => ((trystref01_elapsed.f (wrap64 (a0 + 1))).bind fun t278 => (if (wrap64 (t278 - t277)) = 356 then (some (wrap64 ((wrap64 (t277 + 2)) - 1373427))) else (if (wrap64 (t277 - t276)) = 382 then (some (wrap64 ((wrap64 (t277 + 1)) - 1373427))) else (some (wrap64 (t277 - 1373427))))))) = some r := H
 have A2 := Aside0.mk A20
 clear A20
 replace H := Option.bind_eq_some_iff.mp H
 obtain ⟨t277, A30, H⟩ := H
 replace H : ((trystref01_elapsed.f (wrap64 (a0 + 1))).bind fun t278 => (if (wrap64 (t278 - t277)) = 356 then (some (wrap64 ((wrap64 (t277 + 2)) - 1373427))) else (if (wrap64 (t277 - t276)) = 382 then (some (wrap64 ((wrap64 (t277 + 1)) - 1373427))) else (some (wrap64 (t277 - 1373427)))))) = some r := H
 have A3 := Aside0.mk A30
 clear A30
 replace H := Option.bind_eq_some_iff.mp H
 obtain ⟨t278, A40, H⟩ := H
 replace H : (if (wrap64 (t278 - t277)) = 356 then (some (wrap64 ((wrap64 (t277 + 2)) - 1373427))) else (if (wrap64 (t277 - t276)) = 382 then (some (wrap64 ((wrap64 (t277 + 1)) - 1373427))) else (some (wrap64 (t277 - 1373427))))) = some r := H
 have A4 := Aside0.mk A40
 clear A40
 by_cases c5 : (wrap64 (t278 - t277)) = 356
 ·rw [if_pos c5] at H
  have c5b0 : ((wrap64 (t278 - t277)) == 356) = true := beq_iff_eq.mpr c5
  have c5b1 : ((wrap64 (t278 - t277)) != 356) = false := bne_eq_false_iff_eq.mpr c5
  clear c5
  obtain rfl := Option.some.inj H
  go_enter Tryz.func101, Tryz.ntmps101
  go_wp2_with (first | ((with_reducible refine gate_callee (f := 120) rfl ?_); refine gm_ (some 8) Tryz.func120 #[.int .i64 (wrap64 (a0 - 1))] ?_; (with_reducible refine (trystref01_elapsed.calls (wrap64 (a0 - 1)) t276 _ A2.out).mono ?_); rintro e w' ⟨rfl, ⟨nd, rfl⟩⟩; refine ⟨_, rfl, ?_⟩) | ((with_reducible refine gate_callee (f := 120) rfl ?_); refine gm_ (some 10) Tryz.func120 #[.int .i64 a0] ?_; (with_reducible refine (trystref01_elapsed.calls a0 t277 _ A3.out).mono ?_); rintro e w' ⟨rfl, ⟨nd, rfl⟩⟩; refine ⟨_, rfl, ?_⟩) | ((with_reducible refine gate_callee (f := 120) rfl ?_); refine gm_ (some 13) Tryz.func120 #[.int .i64 (wrap64 (a0 + 1))] ?_; (with_reducible refine (trystref01_elapsed.calls (wrap64 (a0 + 1)) t278 _ A4.out).mono ?_); rintro e w' ⟨rfl, ⟨nd, rfl⟩⟩; refine ⟨_, rfl, ?_⟩))
  go_ret
  exact ⟨by first | rfl | simp | simp [*] | simp [bne_nil_], by repeat (first | exact Drawn0.refl _ | apply Drawn0.step)⟩
 ·rw [if_neg c5] at H
  have c5b0 : ((wrap64 (t278 - t277)) == 356) = false := beq_eq_false_iff_ne.mpr c5
  have c5b1 : ((wrap64 (t278 - t277)) != 356) = true := bne_iff_ne.mpr c5
  by_cases c6 : (wrap64 (t277 - t276)) = 382
  ·rw [if_pos c6] at H
   have c6b0 : ((wrap64 (t277 - t276)) == 382) = true := beq_iff_eq.mpr c6
   have c6b1 : ((wrap64 (t277 - t276)) != 382) = false := bne_eq_false_iff_eq.mpr c6
   clear c6
   obtain rfl := Option.some.inj H
   go_enter Tryz.func101, Tryz.ntmps101
   go_wp2_with (first | ((with_reducible refine gate_callee (f := 120) rfl ?_); refine gm_ (some 8) Tryz.func120 #[.int .i64 (wrap64 (a0 - 1))] ?_; (with_reducible refine (trystref01_elapsed.calls (wrap64 (a0 - 1)) t276 _ A2.out).mono ?_); rintro e w' ⟨rfl, ⟨nd, rfl⟩⟩; refine ⟨_, rfl, ?_⟩) | ((with_reducible refine gate_callee (f := 120) rfl ?_); refine gm_ (some 10) Tryz.func120 #[.int .i64 a0] ?_; (with_reducible refine (trystref01_elapsed.calls a0 t277 _ A3.out).mono ?_); rintro e w' ⟨rfl, ⟨nd, rfl⟩⟩; refine ⟨_, rfl, ?_⟩) | ((with_reducible refine gate_callee (f := 120) rfl ?_); refine gm_ (some 13) Tryz.func120 #[.int .i64 (wrap64 (a0 + 1))] ?_; (with_reducible refine (trystref01_elapsed.calls (wrap64 (a0 + 1)) t278 _ A4.out).mono ?_); rintro e w' ⟨rfl, ⟨nd, rfl⟩⟩; refine ⟨_, rfl, ?_⟩))
   go_ret
   exact ⟨by first | rfl | simp | simp [*] | simp [bne_nil_], by repeat (first | exact Drawn0.refl _ | apply Drawn0.step)⟩
  ·rw [if_neg c6] at H
   have c6b0 : ((wrap64 (t277 - t276)) == 382) = false := beq_eq_false_iff_ne.mpr c6
   have c6b1 : ((wrap64 (t277 - t276)) != 382) = true := bne_iff_ne.mpr c6
   obtain rfl := Option.some.inj H
   go_enter Tryz.func101, Tryz.ntmps101
   go_wp2_with (first | ((with_reducible refine gate_callee (f := 120) rfl ?_); refine gm_ (some 8) Tryz.func120 #[.int .i64 (wrap64 (a0 - 1))] ?_; (with_reducible refine (trystref01_elapsed.calls (wrap64 (a0 - 1)) t276 _ A2.out).mono ?_); rintro e w' ⟨rfl, ⟨nd, rfl⟩⟩; refine ⟨_, rfl, ?_⟩) | ((with_reducible refine gate_callee (f := 120) rfl ?_); refine gm_ (some 10) Tryz.func120 #[.int .i64 a0] ?_; (with_reducible refine (trystref01_elapsed.calls a0 t277 _ A3.out).mono ?_); rintro e w' ⟨rfl, ⟨nd, rfl⟩⟩; refine ⟨_, rfl, ?_⟩) | ((with_reducible refine gate_callee (f := 120) rfl ?_); refine gm_ (some 13) Tryz.func120 #[.int .i64 (wrap64 (a0 + 1))] ?_; (with_reducible refine (trystref01_elapsed.calls (wrap64 (a0 + 1)) t278 _ A4.out).mono ?_); rintro e w' ⟨rfl, ⟨nd, rfl⟩⟩; refine ⟨_, rfl, ?_⟩))
   go_ret
   exact ⟨by first | rfl | simp | simp [*] | simp [bne_nil_], by repeat (first | exact Drawn0.refl _ | apply Drawn0.step)⟩

/-! ### trystref01_hebrewMonth: function 67 -/
def trystref01_hebrewMonth.f (a0 : Int) (a1 : Int) : Option Int := none
theorem trystref01_hebrewMonth.calls (a0 : Int) (a1 : Int) (r : Int) (w : World) (h : trystref01_hebrewMonth.f a0 a1 = some r) :
  Calls Tryz.prog 67 #[.int .i64 a0, .int .i64 a1] w fun e w' => e = .returned (.int .i64 r) ∧ Drawn0 w w' := by cases h

/-! ### trystref01_hebrew: function 62 -/
def trystref01_hebrew.f (a0 : Int) (a1 : Int) (a2 : Int) : Option Int := none
theorem trystref01_hebrew.calls (a0 : Int) (a1 : Int) (a2 : Int) (r : Int) (w : World) (h : trystref01_hebrew.f a0 a1 a2 = some r) :
  Calls Tryz.prog 62 #[.int .i64 a0, .int .i64 a1, .int .i64 a2] w fun e w' => e = .returned (.int .i64 r) ∧ Drawn0 w w' := by cases h

/-! ### trystref01_islamic: function 63 -/
def trystref01_islamic.f (a0 : Int) (a1 : Int) (a2 : Int) : Option Int := none
theorem trystref01_islamic.calls (a0 : Int) (a1 : Int) (a2 : Int) (r : Int) (w : World) (h : trystref01_islamic.f a0 a1 a2 = some r) :
  Calls Tryz.prog 63 #[.int .i64 a0, .int .i64 a1, .int .i64 a2] w fun e w' => e = .returned (.int .i64 r) ∧ Drawn0 w w' := by cases h

/-! ### trystref01_persian: function 64 -/
def trystref01_persian.f (a0 : Int) (a1 : Int) (a2 : Int) : Option Int := none
theorem trystref01_persian.calls (a0 : Int) (a1 : Int) (a2 : Int) (r : Int) (w : World) (h : trystref01_persian.f a0 a1 a2 = some r) :
  Calls Tryz.prog 64 #[.int .i64 a0, .int .i64 a1, .int .i64 a2] w fun e w' => e = .returned (.int .i64 r) ∧ Drawn0 w w' := by cases h

/-! ### trystref01_coptic: function 65 -/
def trystref01_coptic.f (a0 : Int) (a1 : Int) (a2 : Int) : Option (Int) := (trystref01_Floor.f a0 4).bind fun t279 => (some (wrap64 ((wrap64 ((wrap64 ((wrap64 (103604 + (wrap64 (365 * (wrap64 (a0 - 1)))))) + t279)) + (wrap64 (30 * (wrap64 (a1 - 1)))))) + a2)))
set_option maxHeartbeats 8000000 in
set_option maxRecDepth 100000 in
theorem trystref01_coptic.calls (a0 : Int) (a1 : Int) (a2 : Int) (r : Int) (w : World) (h : trystref01_coptic.f a0 a1 a2 = some r) :
  Calls Tryz.prog 65 #[.int .i64 a0, .int .i64 a1, .int .i64 a2] w fun e w' => e = .returned (.int .i64 r) ∧ Drawn0 w w' := by
 have H : ((trystref01_Floor.f a0 4).bind fun t279 => (some (wrap64 ((wrap64 ((wrap64 ((wrap64 (103604 + (wrap64 (365 * (wrap64 (a0 - 1)))))) + t279)) + (wrap64 (30 * (wrap64 (a1 - 1)))))) + a2)))) = some r := h
 clear h
 replace H := Option.bind_eq_some_iff.mp H
 obtain ⟨t279, A40, H⟩ := H
 replace H : (some (wrap64 ((wrap64 ((wrap64 ((wrap64 (103604 + (wrap64 (365 * (wrap64 (a0 - 1)))))) + t279)) + (wrap64 (30 * (wrap64 (a1 - 1)))))) + a2))) = some r := H
 have A4 := Aside0.mk A40
 clear A40
 obtain rfl := Option.some.inj H
 go_enter Tryz.func65, Tryz.ntmps65
 go_wp2_with (first | ((with_reducible refine gate_callee (f := 32) rfl ?_); refine gm_ (some 12) Tryz.func32 #[.int .i64 a0, .int .i64 4] ?_; (with_reducible refine (trystref01_Floor.calls a0 4 t279 _ A4.out).mono ?_); rintro e w' ⟨rfl, ⟨nd, rfl⟩⟩; refine ⟨_, rfl, ?_⟩))
 go_ret
 exact ⟨by first | rfl | simp | simp [*] | simp [bne_nil_], by repeat (first | exact Drawn0.refl _ | apply Drawn0.step)⟩

/-! ### trystref01_Fixed: function 34 -/
def trystref01_Fixed.f (k : Nat) (a0 : Int) (a1 : Int) (a2 : Int) (a3 : Int) : Option (Int) := if a0 = 0 then ((trystref01_gregorian.f k a1 a2 a3).bind fun t280 => (some t280)) else (if a0 = 1 then ((trystref01_julian.f k a1 a2 a3).bind fun t281 => (some t281)) else (if a0 = 2 then ((trystref01_Week1.f k a1 1).bind fun t282 => (some (wrap64 ((wrap64 ((wrap64 (t282 + (wrap64 (7 * (wrap64 (a2 - 1)))))) + a3)) - 1)))) else (if a0 = 3 then ((trystref01_hebrew.f a1 a2 a3).bind fun t283 => (some t283)) else (if a0 = 4 then ((trystref01_islamic.f a1 a2 a3).bind fun t284 => (some t284)) else (if a0 = 5 then ((trystref01_persian.f a1 a2 a3).bind fun t285 => (some t285)) else ((trystref01_coptic.f a1 a2 a3).bind fun t286 => (some t286)))))))
set_option maxHeartbeats 8000000 in
set_option maxRecDepth 100000 in
theorem trystref01_Fixed.calls (k : Nat) (a0 : Int) (a1 : Int) (a2 : Int) (a3 : Int) (r : Int) (w : World) (h : trystref01_Fixed.f k a0 a1 a2 a3 = some r) :
  Calls Tryz.prog 34 #[.int .i64 a0, .int .i64 a1, .int .i64 a2, .int .i64 a3] w fun e w' => e = .returned (.int .i64 r) ∧ Drawn0 w w' := by
 have H : (if a0 = 0 then ((trystref01_gregorian.f k a1 a2 a3).bind fun t280 => (some t280)) else (if a0 = 1 then ((trystref01_julian.f k a1 a2 a3).bind fun t281 => (some t281)) else (if a0 = 2 then ((trystref01_Week1.f k a1 1).bind fun t282 => (some (wrap64 ((wrap64 ((wrap64 (t282 + (wrap64 (7 * (wrap64 (a2 - 1)))))) + a3)) - 1)))) else (if a0 = 3 then ((trystref01_hebrew.f a1 a2 a3).bind fun t283 => (some t283)) else (if a0 = 4 then ((trystref01_islamic.f a1 a2 a3).bind fun t284 => (some t284)) else (if a0 = 5 then ((trystref01_persian.f a1 a2 a3).bind fun t285 => (some t285)) else ((trystref01_coptic.f a1 a2 a3).bind fun t286 => (some t286)))))))) = some r := h
 clear h
 by_cases c5 : a0 = 0
 ·rw [if_pos c5] at H
  have c5b0 : (a0 == 0) = true := beq_iff_eq.mpr c5
  have c5b1 : (a0 != 0) = false := bne_eq_false_iff_eq.mpr c5
  clear c5
  replace H := Option.bind_eq_some_iff.mp H
  obtain ⟨t280, A60, H⟩ := H
  replace H : (some t280) = some r := H
  have A6 := Aside0.mk A60
  clear A60
  obtain rfl := Option.some.inj H
  go_enter Tryz.func34, Tryz.ntmps34
  go_wp2_with (first | ((with_reducible refine gate_callee (f := 59) rfl ?_); refine gm_ (some 15) Tryz.func59 #[.int .i64 a1, .int .i64 a2, .int .i64 a3] ?_; (with_reducible refine (trystref01_gregorian.calls k a1 a2 a3 t280 _ A6.out).mono ?_); rintro e w' ⟨rfl, ⟨nd, rfl⟩⟩; refine ⟨_, rfl, ?_⟩))
  go_ret
  exact ⟨by first | rfl | simp | simp [*] | simp [bne_nil_], by repeat (first | exact Drawn0.refl _ | apply Drawn0.step)⟩
 ·rw [if_neg c5] at H
  have c5b0 : (a0 == 0) = false := beq_eq_false_iff_ne.mpr c5
  have c5b1 : (a0 != 0) = true := bne_iff_ne.mpr c5
  by_cases c7 : a0 = 1
  ·rw [if_pos c7] at H
   have c7b0 : (a0 == 1) = true := beq_iff_eq.mpr c7
   have c7b1 : (a0 != 1) = false := bne_eq_false_iff_eq.mpr c7
   clear c7
   replace H := Option.bind_eq_some_iff.mp H
   obtain ⟨t281, A80, H⟩ := H
   replace H : (some t281) = some r := H
   have A8 := Aside0.mk A80
   clear A80
   obtain rfl := Option.some.inj H
   go_enter Tryz.func34, Tryz.ntmps34
   go_wp2_with (first | ((with_reducible refine gate_callee (f := 60) rfl ?_); refine gm_ (some 21) Tryz.func60 #[.int .i64 a1, .int .i64 a2, .int .i64 a3] ?_; (with_reducible refine (trystref01_julian.calls k a1 a2 a3 t281 _ A8.out).mono ?_); rintro e w' ⟨rfl, ⟨nd, rfl⟩⟩; refine ⟨_, rfl, ?_⟩))
   go_ret
   exact ⟨by first | rfl | simp | simp [*] | simp [bne_nil_], by repeat (first | exact Drawn0.refl _ | apply Drawn0.step)⟩
  ·rw [if_neg c7] at H
   have c7b0 : (a0 == 1) = false := beq_eq_false_iff_ne.mpr c7
   have c7b1 : (a0 != 1) = true := bne_iff_ne.mpr c7
   by_cases c9 : a0 = 2
   ·rw [if_pos c9] at H
    have c9b0 : (a0 == 2) = true := beq_iff_eq.mpr c9
    have c9b1 : (a0 != 2) = false := bne_eq_false_iff_eq.mpr c9
    clear c9
    replace H := Option.bind_eq_some_iff.mp H
    obtain ⟨t282, A100, H⟩ := H
    replace H : (some (wrap64 ((wrap64 ((wrap64 (t282 + (wrap64 (7 * (wrap64 (a2 - 1)))))) + a3)) - 1))) = some r := H
    have A10 := Aside0.mk A100
    clear A100
    obtain rfl := Option.some.inj H
    go_enter Tryz.func34, Tryz.ntmps34
    go_wp2_with (first | ((with_reducible refine gate_callee (f := 61) rfl ?_); refine gm_ (some 25) Tryz.func61 #[.int .i64 a1, .int .i64 1] ?_; (with_reducible refine (trystref01_Week1.calls k a1 1 t282 _ A10.out).mono ?_); rintro e w' ⟨rfl, ⟨nd, rfl⟩⟩; refine ⟨_, rfl, ?_⟩))
    go_ret
    exact ⟨by first | rfl | simp | simp [*] | simp [bne_nil_], by repeat (first | exact Drawn0.refl _ | apply Drawn0.step)⟩
   ·rw [if_neg c9] at H
    have c9b0 : (a0 == 2) = false := beq_eq_false_iff_ne.mpr c9
    have c9b1 : (a0 != 2) = true := bne_iff_ne.mpr c9
    by_cases c11 : a0 = 3
    ·rw [if_pos c11] at H
     have c11b0 : (a0 == 3) = true := beq_iff_eq.mpr c11
     have c11b1 : (a0 != 3) = false := bne_eq_false_iff_eq.mpr c11
     clear c11
     replace H := Option.bind_eq_some_iff.mp H
     obtain ⟨t283, A120, H⟩ := H
     replace H : (some t283) = some r := H
     have A12 := Aside0.mk A120
     clear A120
     obtain rfl := Option.some.inj H
     go_enter Tryz.func34, Tryz.ntmps34
     go_wp2_with (first | ((with_reducible refine gate_callee (f := 62) rfl ?_); refine gm_ (some 38) Tryz.func62 #[.int .i64 a1, .int .i64 a2, .int .i64 a3] ?_; (with_reducible refine (trystref01_hebrew.calls a1 a2 a3 t283 _ A12.out).mono ?_); rintro e w' ⟨rfl, ⟨nd, rfl⟩⟩; refine ⟨_, rfl, ?_⟩))
     go_ret
     exact ⟨by first | rfl | simp | simp [*] | simp [bne_nil_], by repeat (first | exact Drawn0.refl _ | apply Drawn0.step)⟩
    ·rw [if_neg c11] at H
     have c11b0 : (a0 == 3) = false := beq_eq_false_iff_ne.mpr c11
     have c11b1 : (a0 != 3) = true := bne_iff_ne.mpr c11
     by_cases c13 : a0 = 4
     ·rw [if_pos c13] at H
      have c13b0 : (a0 == 4) = true := beq_iff_eq.mpr c13
      have c13b1 : (a0 != 4) = false := bne_eq_false_iff_eq.mpr c13
      clear c13
      replace H := Option.bind_eq_some_iff.mp H
      obtain ⟨t284, A140, H⟩ := H
      replace H : (some t284) = some r := H
      have A14 := Aside0.mk A140
      clear A140
      obtain rfl := Option.some.inj H
      go_enter Tryz.func34, Tryz.ntmps34
      go_wp2_with (first | ((with_reducible refine gate_callee (f := 63) rfl ?_); refine gm_ (some 44) Tryz.func63 #[.int .i64 a1, .int .i64 a2, .int .i64 a3] ?_; (with_reducible refine (trystref01_islamic.calls a1 a2 a3 t284 _ A14.out).mono ?_); rintro e w' ⟨rfl, ⟨nd, rfl⟩⟩; refine ⟨_, rfl, ?_⟩))
      go_ret
      exact ⟨by first | rfl | simp | simp [*] | simp [bne_nil_], by repeat (first | exact Drawn0.refl _ | apply Drawn0.step)⟩
     ·rw [if_neg c13] at H
      have c13b0 : (a0 == 4) = false := beq_eq_false_iff_ne.mpr c13
      have c13b1 : (a0 != 4) = true := bne_iff_ne.mpr c13
      by_cases c15 : a0 = 5
      ·rw [if_pos c15] at H
       have c15b0 : (a0 == 5) = true := beq_iff_eq.mpr c15
       have c15b1 : (a0 != 5) = false := bne_eq_false_iff_eq.mpr c15
       clear c15
       replace H := Option.bind_eq_some_iff.mp H
       obtain ⟨t285, A160, H⟩ := H
       replace H : (some t285) = some r := H
       have A16 := Aside0.mk A160
       clear A160
       obtain rfl := Option.some.inj H
       go_enter Tryz.func34, Tryz.ntmps34
       go_wp2_with (first | ((with_reducible refine gate_callee (f := 64) rfl ?_); refine gm_ (some 50) Tryz.func64 #[.int .i64 a1, .int .i64 a2, .int .i64 a3] ?_; (with_reducible refine (trystref01_persian.calls a1 a2 a3 t285 _ A16.out).mono ?_); rintro e w' ⟨rfl, ⟨nd, rfl⟩⟩; refine ⟨_, rfl, ?_⟩))
       go_ret
       exact ⟨by first | rfl | simp | simp [*] | simp [bne_nil_], by repeat (first | exact Drawn0.refl _ | apply Drawn0.step)⟩
      ·rw [if_neg c15] at H
       have c15b0 : (a0 == 5) = false := beq_eq_false_iff_ne.mpr c15
       have c15b1 : (a0 != 5) = true := bne_iff_ne.mpr c15
       replace H := Option.bind_eq_some_iff.mp H
       obtain ⟨t286, A170, H⟩ := H
       replace H : (some t286) = some r := H
       have A17 := Aside0.mk A170
       clear A170
       obtain rfl := Option.some.inj H
       go_enter Tryz.func34, Tryz.ntmps34
       go_wp2_with (first | ((with_reducible refine gate_callee (f := 65) rfl ?_); refine gm_ (some 54) Tryz.func65 #[.int .i64 a1, .int .i64 a2, .int .i64 a3] ?_; (with_reducible refine (trystref01_coptic.calls a1 a2 a3 t286 _ A17.out).mono ?_); rintro e w' ⟨rfl, ⟨nd, rfl⟩⟩; refine ⟨_, rfl, ?_⟩))
       go_ret
       exact ⟨by first | rfl | simp | simp [*] | simp [bne_nil_], by repeat (first | exact Drawn0.refl _ | apply Drawn0.step)⟩

/-! ### trystref01_Months: function 66 -/
def trystref01_Months.f (k : Nat) (a0 : Int) (a1 : Int) : Option (Int) := if a0 = 2 then ((trystref01_Week1.f k (wrap64 (a1 + 1)) 1).bind fun t287 => ((trystref01_Week1.f k a1 1).bind fun t288 => ((trystref01_Floor.f (wrap64 (t287 - t288)) 7).bind fun t289 => (some t289)))) else (if a0 = 3 then ((trystref01_hebrewLeap.f a1).bind fun t290 => (if t290 = true then (some 13) else (some 12))) else (if a0 = 6 then (some 13) else (some 12)))
set_option maxHeartbeats 8000000 in
set_option maxRecDepth 100000 in
theorem trystref01_Months.calls (k : Nat) (a0 : Int) (a1 : Int) (r : Int) (w : World) (h : trystref01_Months.f k a0 a1 = some r) :
  Calls Tryz.prog 66 #[.int .i64 a0, .int .i64 a1] w fun e w' => e = .returned (.int .i64 r) ∧ Drawn0 w w' := by
 have H : (if a0 = 2 then ((trystref01_Week1.f k (wrap64 (a1 + 1)) 1).bind fun t287 => ((trystref01_Week1.f k a1 1).bind fun t288 => ((trystref01_Floor.f (wrap64 (t287 - t288)) 7).bind fun t289 => (some t289)))) else (if a0 = 3 then ((trystref01_hebrewLeap.f a1).bind fun t290 => (if t290 = true then (some 13) else (some 12))) else (if a0 = 6 then (some 13) else (some 12)))) = some r := h
 clear h
 by_cases c3 : a0 = 2
 ·rw [if_pos c3] at H
  have c3b0 : (a0 == 2) = true := beq_iff_eq.mpr c3
  have c3b1 : (a0 != 2) = false := bne_eq_false_iff_eq.mpr c3
  clear c3
  replace H := Option.bind_eq_some_iff.mp H
  obtain ⟨t287, A40, H⟩ := H
  replace H : ((trystref01_Week1.f k a1 1).bind fun t288 => ((trystref01_Floor.f (wrap64 (t287 - t288)) 7).bind fun t289 => (some t289))) = some r := H
  have A4 := Aside0.mk A40
  clear A40
  replace H := Option.bind_eq_some_iff.mp H
  obtain ⟨t288, A50, H⟩ := H
  replace H : ((trystref01_Floor.f (wrap64 (t287 - t288)) 7).bind fun t289 => (some t289)) = some r := H
  have A5 := Aside0.mk A50
  clear A50
  replace H := Option.bind_eq_some_iff.mp H
  obtain ⟨t289, A60, H⟩ := H
  replace H : (some t289) = some r := H
  have A6 := Aside0.mk A60
  clear A60
  obtain rfl := Option.some.inj H
  go_enter Tryz.func66, Tryz.ntmps66
  go_wp2_with (first | ((with_reducible refine gate_callee (f := 61) rfl ?_); refine gm_ (some 10) Tryz.func61 #[.int .i64 (wrap64 (a1 + 1)), .int .i64 1] ?_; (with_reducible refine (trystref01_Week1.calls k (wrap64 (a1 + 1)) 1 t287 _ A4.out).mono ?_); rintro e w' ⟨rfl, ⟨nd, rfl⟩⟩; refine ⟨_, rfl, ?_⟩) | ((with_reducible refine gate_callee (f := 61) rfl ?_); refine gm_ (some 12) Tryz.func61 #[.int .i64 a1, .int .i64 1] ?_; (with_reducible refine (trystref01_Week1.calls k a1 1 t288 _ A5.out).mono ?_); rintro e w' ⟨rfl, ⟨nd, rfl⟩⟩; refine ⟨_, rfl, ?_⟩) | ((with_reducible refine gate_callee (f := 32) rfl ?_); refine gm_ (some 14) Tryz.func32 #[.int .i64 (wrap64 (t287 - t288)), .int .i64 7] ?_; (with_reducible refine (trystref01_Floor.calls (wrap64 (t287 - t288)) 7 t289 _ A6.out).mono ?_); rintro e w' ⟨rfl, ⟨nd, rfl⟩⟩; refine ⟨_, rfl, ?_⟩))
  go_ret
  exact ⟨by first | rfl | simp | simp [*] | simp [bne_nil_], by repeat (first | exact Drawn0.refl _ | apply Drawn0.step)⟩
 ·rw [if_neg c3] at H
  have c3b0 : (a0 == 2) = false := beq_eq_false_iff_ne.mpr c3
  have c3b1 : (a0 != 2) = true := bne_iff_ne.mpr c3
  by_cases c7 : a0 = 3
  ·rw [if_pos c7] at H
   have c7b0 : (a0 == 3) = true := beq_iff_eq.mpr c7
   have c7b1 : (a0 != 3) = false := bne_eq_false_iff_eq.mpr c7
   clear c7
   replace H := Option.bind_eq_some_iff.mp H
   obtain ⟨t290, A80, H⟩ := H
   replace H : (if t290 = true then (some 13) else (some 12)) = some r := H
   have A8 := Aside0.mk A80
   clear A80
   by_cases c9 : t290 = true
   ·subst c9
    have H1 : (some 13) = some r := by rw [if_pos rfl] at H; exact H
    clear H
    have H := H1
    clear H1
    obtain rfl := Option.some.inj H
    go_enter Tryz.func66, Tryz.ntmps66
    go_wp2_with (first | ((with_reducible refine gate_callee (f := 100) rfl ?_); refine gm_ (some 18) Tryz.func100 #[.int .i64 a1] ?_; (with_reducible refine (trystref01_hebrewLeap.calls a1 true _ A8.out).mono ?_); rintro e w' ⟨rfl, ⟨nd, rfl⟩⟩; refine ⟨_, rfl, ?_⟩))
    go_ret
    exact ⟨by first | rfl | simp | simp [*] | simp [bne_nil_], by repeat (first | exact Drawn0.refl _ | apply Drawn0.step)⟩
   ·replace c9 := Bool.eq_false_iff.mpr c9
    subst c9
    have H1 : (some 12) = some r := by rw [if_neg (show ¬ (false = true) by decide)] at H; exact H
    clear H
    have H := H1
    clear H1
    obtain rfl := Option.some.inj H
    go_enter Tryz.func66, Tryz.ntmps66
    go_wp2_with (first | ((with_reducible refine gate_callee (f := 100) rfl ?_); refine gm_ (some 18) Tryz.func100 #[.int .i64 a1] ?_; (with_reducible refine (trystref01_hebrewLeap.calls a1 false _ A8.out).mono ?_); rintro e w' ⟨rfl, ⟨nd, rfl⟩⟩; refine ⟨_, rfl, ?_⟩))
    go_ret
    exact ⟨by first | rfl | simp | simp [*] | simp [bne_nil_], by repeat (first | exact Drawn0.refl _ | apply Drawn0.step)⟩
  ·rw [if_neg c7] at H
   have c7b0 : (a0 == 3) = false := beq_eq_false_iff_ne.mpr c7
   have c7b1 : (a0 != 3) = true := bne_iff_ne.mpr c7
   by_cases c10 : a0 = 6
   ·rw [if_pos c10] at H
    have c10b0 : (a0 == 6) = true := beq_iff_eq.mpr c10
    have c10b1 : (a0 != 6) = false := bne_eq_false_iff_eq.mpr c10
    clear c10
    obtain rfl := Option.some.inj H
    go_enter Tryz.func66, Tryz.ntmps66
    go_wp2
    go_ret
    exact ⟨by first | rfl | simp | simp [*] | simp [bne_nil_], by repeat (first | exact Drawn0.refl _ | apply Drawn0.step)⟩
   ·rw [if_neg c10] at H
    have c10b0 : (a0 == 6) = false := beq_eq_false_iff_ne.mpr c10
    have c10b1 : (a0 != 6) = true := bne_iff_ne.mpr c10
    obtain rfl := Option.some.inj H
    go_enter Tryz.func66, Tryz.ntmps66
    go_wp2
    go_ret
    exact ⟨by first | rfl | simp | simp [*] | simp [bne_nil_], by repeat (first | exact Drawn0.refl _ | apply Drawn0.step)⟩

/-! ### trystref01_begins: function 68 -/
def trystref01_begins.f (k : Nat) (a0 : Int) (a1 : Int) : Option (Int) := if a0 = 3 then ((trystref01_newYear.f a1).bind fun t291 => (some t291)) else ((trystref01_Fixed.f k a0 a1 1 1).bind fun t292 => (some t292))
set_option maxHeartbeats 8000000 in
set_option maxRecDepth 100000 in
theorem trystref01_begins.calls (k : Nat) (a0 : Int) (a1 : Int) (r : Int) (w : World) (h : trystref01_begins.f k a0 a1 = some r) :
  Calls Tryz.prog 68 #[.int .i64 a0, .int .i64 a1] w fun e w' => e = .returned (.int .i64 r) ∧ Drawn0 w w' := by
 have H : (if a0 = 3 then ((trystref01_newYear.f a1).bind fun t291 => (some t291)) else ((trystref01_Fixed.f k a0 a1 1 1).bind fun t292 => (some t292))) = some r := h
 clear h
 by_cases c3 : a0 = 3
 ·rw [if_pos c3] at H
  have c3b0 : (a0 == 3) = true := beq_iff_eq.mpr c3
  have c3b1 : (a0 != 3) = false := bne_eq_false_iff_eq.mpr c3
  clear c3
  replace H := Option.bind_eq_some_iff.mp H
  obtain ⟨t291, A40, H⟩ := H
  replace H : (some t291) = some r := H
  have A4 := Aside0.mk A40
  clear A40
  obtain rfl := Option.some.inj H
  go_enter Tryz.func68, Tryz.ntmps68
  go_wp2_with (first | ((with_reducible refine gate_callee (f := 101) rfl ?_); refine gm_ (some 8) Tryz.func101 #[.int .i64 a1] ?_; (with_reducible refine (trystref01_newYear.calls a1 t291 _ A4.out).mono ?_); rintro e w' ⟨rfl, ⟨nd, rfl⟩⟩; refine ⟨_, rfl, ?_⟩))
  go_ret
  exact ⟨by first | rfl | simp | simp [*] | simp [bne_nil_], by repeat (first | exact Drawn0.refl _ | apply Drawn0.step)⟩
 ·rw [if_neg c3] at H
  have c3b0 : (a0 == 3) = false := beq_eq_false_iff_ne.mpr c3
  have c3b1 : (a0 != 3) = true := bne_iff_ne.mpr c3
  replace H := Option.bind_eq_some_iff.mp H
  obtain ⟨t292, A50, H⟩ := H
  replace H : (some t292) = some r := H
  have A5 := Aside0.mk A50
  clear A50
  obtain rfl := Option.some.inj H
  go_enter Tryz.func68, Tryz.ntmps68
  go_wp2_with (first | ((with_reducible refine gate_callee (f := 34) rfl ?_); refine gm_ (some 11) Tryz.func34 #[.int .i64 a0, .int .i64 a1, .int .i64 1, .int .i64 1] ?_; (with_reducible refine (trystref01_Fixed.calls k a0 a1 1 1 t292 _ A5.out).mono ?_); rintro e w' ⟨rfl, ⟨nd, rfl⟩⟩; refine ⟨_, rfl, ?_⟩))
  go_ret
  exact ⟨by first | rfl | simp | simp [*] | simp [bne_nil_], by repeat (first | exact Drawn0.refl _ | apply Drawn0.step)⟩

/-! ### trystref01_next: function 69 -/
def trystref01_next.f (a0 : Int) (a1 : Int) : Option (Int) := if a0 = 5 then (if a1 = (-1) then (some 1) else (some (wrap64 (a1 + 1)))) else (some (wrap64 (a1 + 1)))
set_option maxHeartbeats 8000000 in
set_option maxRecDepth 100000 in
theorem trystref01_next.calls (a0 : Int) (a1 : Int) (r : Int) (w : World) (h : trystref01_next.f a0 a1 = some r) :
  Calls Tryz.prog 69 #[.int .i64 a0, .int .i64 a1] w fun e w' => e = .returned (.int .i64 r) ∧ Drawn0 w w' := by
 have H : (if a0 = 5 then (if a1 = (-1) then (some 1) else (some (wrap64 (a1 + 1)))) else (some (wrap64 (a1 + 1)))) = some r := h
 clear h
 by_cases c3 : a0 = 5
 ·rw [if_pos c3] at H
  have c3b0 : (a0 == 5) = true := beq_iff_eq.mpr c3
  have c3b1 : (a0 != 5) = false := bne_eq_false_iff_eq.mpr c3
  clear c3
  by_cases c4 : a1 = (-1)
  ·rw [if_pos c4] at H
   have c4b0 : (a1 == (-1)) = true := beq_iff_eq.mpr c4
   have c4b1 : (a1 != (-1)) = false := bne_eq_false_iff_eq.mpr c4
   clear c4
   obtain rfl := Option.some.inj H
   go_enter Tryz.func69, Tryz.ntmps69
   go_wp2
   go_ret
   exact ⟨by first | rfl | simp | simp [*] | simp [bne_nil_], by repeat (first | exact Drawn0.refl _ | apply Drawn0.step)⟩
  ·rw [if_neg c4] at H
   have c4b0 : (a1 == (-1)) = false := beq_eq_false_iff_ne.mpr c4
   have c4b1 : (a1 != (-1)) = true := bne_iff_ne.mpr c4
   obtain rfl := Option.some.inj H
   go_enter Tryz.func69, Tryz.ntmps69
   go_wp2
   go_ret
   exact ⟨by first | rfl | simp | simp [*] | simp [bne_nil_], by repeat (first | exact Drawn0.refl _ | apply Drawn0.step)⟩
 ·rw [if_neg c3] at H
  have c3b0 : (a0 == 5) = false := beq_eq_false_iff_ne.mpr c3
  have c3b1 : (a0 != 5) = true := bne_iff_ne.mpr c3
  obtain rfl := Option.some.inj H
  go_enter Tryz.func69, Tryz.ntmps69
  go_wp2
  go_ret
  exact ⟨by first | rfl | simp | simp [*] | simp [bne_nil_], by repeat (first | exact Drawn0.refl _ | apply Drawn0.step)⟩

end Go.Proofs.YtfdcldjoncednaaGreat.M
