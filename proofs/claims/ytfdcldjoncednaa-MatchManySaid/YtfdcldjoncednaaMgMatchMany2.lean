/- Texts of this claim, merged: MrataB, MrataC. -/
import Derived.Test.YtfdcldjoncednaaMgMatchMany1
namespace Go.Proofs.Ytfdcldjoncednaa.M
open Go.RowKit Go.Proofs.YtfdcldjoncednaaW.PrintWords Go.Proofs.YtfdcldjoncednaaW.PrintLast Go.Proofs.YtfdcldjoncednaaW.PrintMore
attribute [local go_sem] max2_int min2_int max_two min_two
set_option linter.unusedVariables false
set_option linter.unusedSimpArgs false
/-! ### rata_Leap: function 49 -/
def rata_Leap.f (a0 : Int) : Option (Bool) := if (Int.tmod a0 4) = 0 then (if (Int.tmod a0 100) = 0 then (some ((Int.tmod a0 400) == 0)) else (some true)) else (some false)
set_option maxHeartbeats 8000000 in
set_option maxRecDepth 100000 in
theorem rata_Leap.calls (a0 : Int) (r : Bool) (w : World) (h : rata_Leap.f a0 = some r) :
  Calls Try.prog 49 #[.int .i64 a0] w fun e w' => e = .returned (.bool r) ∧ Drawn0 w w' := by
 have H : (if (Int.tmod a0 4) = 0 then (if (Int.tmod a0 100) = 0 then (some ((Int.tmod a0 400) == 0)) else (some true)) else (some false)) = some r := h
 clear h
 by_cases c2 : (Int.tmod a0 4) = 0
 ·rw [if_pos c2] at H
  have c2b0 : ((Int.tmod a0 4) == 0) = true := beq_iff_eq.mpr c2
  have c2b1 : ((Int.tmod a0 4) != 0) = false := bne_eq_false_iff_eq.mpr c2
  clear c2
  by_cases c3 : (Int.tmod a0 100) = 0
  ·rw [if_pos c3] at H
   have c3b0 : ((Int.tmod a0 100) == 0) = true := beq_iff_eq.mpr c3
   have c3b1 : ((Int.tmod a0 100) != 0) = false := bne_eq_false_iff_eq.mpr c3
   clear c3
   obtain rfl := Option.some.inj H
   go_enter Try.func49, Try.ntmps49
   go_wp2
   go_ret
   exact ⟨by first | rfl | simp | simp [*] | simp [bne_nil_], by repeat (first | exact Drawn0.refl _ | apply Drawn0.step)⟩
  ·rw [if_neg c3] at H
   have c3b0 : ((Int.tmod a0 100) == 0) = false := beq_eq_false_iff_ne.mpr c3
   have c3b1 : ((Int.tmod a0 100) != 0) = true := bne_iff_ne.mpr c3
   obtain rfl := Option.some.inj H
   go_enter Try.func49, Try.ntmps49
   go_wp2
   go_ret
   exact ⟨by first | rfl | simp | simp [*] | simp [bne_nil_], by repeat (first | exact Drawn0.refl _ | apply Drawn0.step)⟩
 ·rw [if_neg c2] at H
  have c2b0 : ((Int.tmod a0 4) == 0) = false := beq_eq_false_iff_ne.mpr c2
  have c2b1 : ((Int.tmod a0 4) != 0) = true := bne_iff_ne.mpr c2
  obtain rfl := Option.some.inj H
  go_enter Try.func49, Try.ntmps49
  go_wp2
  go_ret
  exact ⟨by first | rfl | simp | simp [*] | simp [bne_nil_], by repeat (first | exact Drawn0.refl _ | apply Drawn0.step)⟩

/-! ### rata_Length: function 51 -/
mutual
def rata_Length.j0 : Nat → Int → Int → Bool → Option (Int)
 | 0, _, _, _ => none
 | k + 1, x0, x5, x6 => if x6 = true then (some 31) else (if x5 = 4 then (rata_Length.j1 k x0 x5 (x5 == 4)) else (if x5 = 6 then (rata_Length.j1 k x0 x5 (x5 == 6)) else (if x5 = 9 then (rata_Length.j1 k x0 x5 (x5 == 9)) else (rata_Length.j1 k x0 x5 (x5 == 11)))))
def rata_Length.j1 : Nat → Int → Int → Bool → Option (Int)
 | 0, _, _, _ => none
 | k + 1, x0, x5, x14 => if x14 = true then (some 30) else (if x5 = 2 then ((rata_Leap.f x0).bind fun t189 => (if t189 = true then (some 29) else (some 28))) else (some 0))
end
def rata_Length.f (k : Nat) (a0 : Int) (a1 : Int) : Option (Int) := if a1 = 1 then (rata_Length.j0 k a0 a1 (a1 == 1)) else (if a1 = 3 then (rata_Length.j0 k a0 a1 (a1 == 3)) else (if a1 = 5 then (rata_Length.j0 k a0 a1 (a1 == 5)) else (if a1 = 7 then (rata_Length.j0 k a0 a1 (a1 == 7)) else (if a1 = 8 then (rata_Length.j0 k a0 a1 (a1 == 8)) else (if a1 = 10 then (rata_Length.j0 k a0 a1 (a1 == 10)) else (rata_Length.j0 k a0 a1 (a1 == 12)))))))
set_option maxHeartbeats 8000000 in
set_option maxRecDepth 100000 in
theorem rata_Length.calls (k : Nat) (a0 : Int) (a1 : Int) (r : Int) (w : World) (h : rata_Length.f k a0 a1 = some r) :
  Calls Try.prog 51 #[.int .i64 a0, .int .i64 a1] w fun e w' => e = .returned (.int .i64 r) ∧ Drawn0 w w' := by
 have H : (if a1 = 1 then (rata_Length.j0 k a0 a1 (a1 == 1)) else (if a1 = 3 then (rata_Length.j0 k a0 a1 (a1 == 3)) else (if a1 = 5 then (rata_Length.j0 k a0 a1 (a1 == 5)) else (if a1 = 7 then (rata_Length.j0 k a0 a1 (a1 == 7)) else (if a1 = 8 then (rata_Length.j0 k a0 a1 (a1 == 8)) else (if a1 = 10 then (rata_Length.j0 k a0 a1 (a1 == 10)) else (rata_Length.j0 k a0 a1 (a1 == 12)))))))) = some r := h
 clear h
 have HC3 := Aside0.mk H
 clear H
 go_enter Try.func51, Try.ntmps51
 go_upto_if 6 with (fail)
 go_cut [6] (fun v6 wc => ∃ (kq : Nat) (x6_2 : Bool), v6 = .bool x6_2 ∧ Aside0 (rata_Length.j0 kq a0 a1 x6_2 = some r) ∧ Aside0 (kq ≤ k) ∧ Drawn0 w wc)
 case first =>
  have H := HC3.out
  clear HC3
  by_cases c4 : a1 = 1
  ·rw [if_pos c4] at H
   have c4b0 : (a1 == 1) = true := beq_iff_eq.mpr c4
   have c4b1 : (a1 != 1) = false := bne_eq_false_iff_eq.mpr c4
   clear c4
   (first | rw [c4b0] | (simp only [i64_w, i32_w]; rw [c4b0]) | skip)
   have H' := Aside0.mk H
   clear H
   go_wp2
   go_meet
   case rel => exact ⟨_, ((a1 == 1)), (by first | rfl | (simp; done) | (simp [*]; done)), H', ⟨by first | omega | exact Nat.le_refl _⟩, by repeat (first | exact Drawn0.refl _ | apply Drawn0.step)⟩
  ·rw [if_neg c4] at H
   have c4b0 : (a1 == 1) = false := beq_eq_false_iff_ne.mpr c4
   have c4b1 : (a1 != 1) = true := bne_iff_ne.mpr c4
   (first | rw [c4b0] | (simp only [i64_w, i32_w]; rw [c4b0]) | skip)
   by_cases c5 : a1 = 3
   ·rw [if_pos c5] at H
    have c5b0 : (a1 == 3) = true := beq_iff_eq.mpr c5
    have c5b1 : (a1 != 3) = false := bne_eq_false_iff_eq.mpr c5
    clear c5
    have H' := Aside0.mk H
    clear H
    go_wp2
    go_meet
    case rel => exact ⟨_, ((a1 == 3)), (by first | rfl | (simp; done) | (simp [*]; done)), H', ⟨by first | omega | exact Nat.le_refl _⟩, by repeat (first | exact Drawn0.refl _ | apply Drawn0.step)⟩
   ·rw [if_neg c5] at H
    have c5b0 : (a1 == 3) = false := beq_eq_false_iff_ne.mpr c5
    have c5b1 : (a1 != 3) = true := bne_iff_ne.mpr c5
    by_cases c6 : a1 = 5
    ·rw [if_pos c6] at H
     have c6b0 : (a1 == 5) = true := beq_iff_eq.mpr c6
     have c6b1 : (a1 != 5) = false := bne_eq_false_iff_eq.mpr c6
     clear c6
     have H' := Aside0.mk H
     clear H
     go_wp2
     go_meet
     case rel => exact ⟨_, ((a1 == 5)), (by first | rfl | (simp; done) | (simp [*]; done)), H', ⟨by first | omega | exact Nat.le_refl _⟩, by repeat (first | exact Drawn0.refl _ | apply Drawn0.step)⟩
    ·rw [if_neg c6] at H
     have c6b0 : (a1 == 5) = false := beq_eq_false_iff_ne.mpr c6
     have c6b1 : (a1 != 5) = true := bne_iff_ne.mpr c6
     by_cases c7 : a1 = 7
     ·rw [if_pos c7] at H
      have c7b0 : (a1 == 7) = true := beq_iff_eq.mpr c7
      have c7b1 : (a1 != 7) = false := bne_eq_false_iff_eq.mpr c7
      clear c7
      have H' := Aside0.mk H
      clear H
      go_wp2
      go_meet
      case rel => exact ⟨_, ((a1 == 7)), (by first | rfl | (simp; done) | (simp [*]; done)), H', ⟨by first | omega | exact Nat.le_refl _⟩, by repeat (first | exact Drawn0.refl _ | apply Drawn0.step)⟩
     ·rw [if_neg c7] at H
      have c7b0 : (a1 == 7) = false := beq_eq_false_iff_ne.mpr c7
      have c7b1 : (a1 != 7) = true := bne_iff_ne.mpr c7
      by_cases c8 : a1 = 8
      ·rw [if_pos c8] at H
       have c8b0 : (a1 == 8) = true := beq_iff_eq.mpr c8
       have c8b1 : (a1 != 8) = false := bne_eq_false_iff_eq.mpr c8
       clear c8
       have H' := Aside0.mk H
       clear H
       go_wp2
       go_meet
       case rel => exact ⟨_, ((a1 == 8)), (by first | rfl | (simp; done) | (simp [*]; done)), H', ⟨by first | omega | exact Nat.le_refl _⟩, by repeat (first | exact Drawn0.refl _ | apply Drawn0.step)⟩
      ·rw [if_neg c8] at H
       have c8b0 : (a1 == 8) = false := beq_eq_false_iff_ne.mpr c8
       have c8b1 : (a1 != 8) = true := bne_iff_ne.mpr c8
       by_cases c9 : a1 = 10
       ·rw [if_pos c9] at H
        have c9b0 : (a1 == 10) = true := beq_iff_eq.mpr c9
        have c9b1 : (a1 != 10) = false := bne_eq_false_iff_eq.mpr c9
        clear c9
        have H' := Aside0.mk H
        clear H
        go_wp2
        go_meet
        case rel => exact ⟨_, ((a1 == 10)), (by first | rfl | (simp; done) | (simp [*]; done)), H', ⟨by first | omega | exact Nat.le_refl _⟩, by repeat (first | exact Drawn0.refl _ | apply Drawn0.step)⟩
       ·rw [if_neg c9] at H
        have c9b0 : (a1 == 10) = false := beq_eq_false_iff_ne.mpr c9
        have c9b1 : (a1 != 10) = true := bne_iff_ne.mpr c9
        have H' := Aside0.mk H
        clear H
        go_wp2
        go_meet
        case rel => exact ⟨_, ((a1 == 12)), (by first | rfl | (simp; done) | (simp [*]; done)), H', ⟨by first | omega | exact Nat.le_refl _⟩, by repeat (first | exact Drawn0.refl _ | apply Drawn0.step)⟩
 case rest =>
  clear HC3
  try clear p2
  try clear c4
  try clear c4b0
  try clear c4b1
  try clear c5
  try clear c5b0
  try clear c5b1
  try clear c6
  try clear c6b0
  try clear c6b1
  try clear c7
  try clear c7b0
  try clear c7b1
  try clear c8
  try clear c8b0
  try clear c8b1
  try clear c9
  try clear c9b0
  try clear c9b1
  obtain ⟨kq, x6_2, rfl, HA, HJ2, ⟨mc2, rfl⟩⟩ := hcut
  cases kq with
  | zero => exact absurd HA.out (by simp [rata_Length.j0])
  | succ kj2 =>
   have H := HA.out
   clear HA
   simp only [rata_Length.j0] at H
   by_cases c10 : x6_2 = true
   ·subst c10
    have H1 : (some 31) = some r := by rw [if_pos rfl] at H; exact H
    clear H
    have H := H1
    clear H1
    obtain rfl := Option.some.inj H
    go_wp2
    go_ret
    exact ⟨by first | rfl | simp | simp [*] | simp [bne_nil_], by repeat (first | exact Drawn0.refl _ | apply Drawn0.step)⟩
   ·replace c10 := Bool.eq_false_iff.mpr c10
    subst c10
    have H1 : (if a1 = 4 then (rata_Length.j1 kj2 a0 a1 (a1 == 4)) else (if a1 = 6 then (rata_Length.j1 kj2 a0 a1 (a1 == 6)) else (if a1 = 9 then (rata_Length.j1 kj2 a0 a1 (a1 == 9)) else (rata_Length.j1 kj2 a0 a1 (a1 == 11))))) = some r := by rw [if_neg (show ¬ (false = true) by decide)] at H; exact H
    clear H
    have H := H1
    clear H1
    have HC11 := Aside0.mk H
    clear H
    go_upto_if 14 with (fail)
    go_cut [14] (fun v14 wc => ∃ (kq : Nat) (x14_10 : Bool), v14 = .bool x14_10 ∧ Aside0 (rata_Length.j1 kq a0 a1 x14_10 = some r) ∧ Aside0 (kq ≤ kj2) ∧ Drawn0 w wc)
    case first =>
     have H := HC11.out
     clear HC11
     by_cases c12 : a1 = 4
     ·rw [if_pos c12] at H
      have c12b0 : (a1 == 4) = true := beq_iff_eq.mpr c12
      have c12b1 : (a1 != 4) = false := bne_eq_false_iff_eq.mpr c12
      clear c12
      (first | rw [c12b0] | (simp only [i64_w, i32_w]; rw [c12b0]) | skip)
      have H' := Aside0.mk H
      clear H
      go_wp2
      go_meet
      case rel => exact ⟨_, ((a1 == 4)), (by first | rfl | (simp; done) | (simp [*]; done)), H', ⟨by have := HJ2.out; first | omega | exact Nat.le_refl _⟩, by repeat (first | exact Drawn0.refl _ | apply Drawn0.step)⟩
     ·rw [if_neg c12] at H
      have c12b0 : (a1 == 4) = false := beq_eq_false_iff_ne.mpr c12
      have c12b1 : (a1 != 4) = true := bne_iff_ne.mpr c12
      (first | rw [c12b0] | (simp only [i64_w, i32_w]; rw [c12b0]) | skip)
      by_cases c13 : a1 = 6
      ·rw [if_pos c13] at H
       have c13b0 : (a1 == 6) = true := beq_iff_eq.mpr c13
       have c13b1 : (a1 != 6) = false := bne_eq_false_iff_eq.mpr c13
       clear c13
       have H' := Aside0.mk H
       clear H
       go_wp2
       go_meet
       case rel => exact ⟨_, ((a1 == 6)), (by first | rfl | (simp; done) | (simp [*]; done)), H', ⟨by have := HJ2.out; first | omega | exact Nat.le_refl _⟩, by repeat (first | exact Drawn0.refl _ | apply Drawn0.step)⟩
      ·rw [if_neg c13] at H
       have c13b0 : (a1 == 6) = false := beq_eq_false_iff_ne.mpr c13
       have c13b1 : (a1 != 6) = true := bne_iff_ne.mpr c13
       by_cases c14 : a1 = 9
       ·rw [if_pos c14] at H
        have c14b0 : (a1 == 9) = true := beq_iff_eq.mpr c14
        have c14b1 : (a1 != 9) = false := bne_eq_false_iff_eq.mpr c14
        clear c14
        have H' := Aside0.mk H
        clear H
        go_wp2
        go_meet
        case rel => exact ⟨_, ((a1 == 9)), (by first | rfl | (simp; done) | (simp [*]; done)), H', ⟨by have := HJ2.out; first | omega | exact Nat.le_refl _⟩, by repeat (first | exact Drawn0.refl _ | apply Drawn0.step)⟩
       ·rw [if_neg c14] at H
        have c14b0 : (a1 == 9) = false := beq_eq_false_iff_ne.mpr c14
        have c14b1 : (a1 != 9) = true := bne_iff_ne.mpr c14
        have H' := Aside0.mk H
        clear H
        go_wp2
        go_meet
        case rel => exact ⟨_, ((a1 == 11)), (by first | rfl | (simp; done) | (simp [*]; done)), H', ⟨by have := HJ2.out; first | omega | exact Nat.le_refl _⟩, by repeat (first | exact Drawn0.refl _ | apply Drawn0.step)⟩
    case rest =>
     clear HC11
     try clear c1
     try clear c2
     try clear p2
     try clear c4
     try clear c4b0
     try clear c4b1
     try clear c5
     try clear c5b0
     try clear c5b1
     try clear c6
     try clear c6b0
     try clear c6b1
     try clear c7
     try clear c7b0
     try clear c7b1
     try clear c8
     try clear c8b0
     try clear c8b1
     try clear c9
     try clear c9b0
     try clear c9b1
     try clear c10
     try clear c12
     try clear c12b0
     try clear c12b1
     try clear c13
     try clear c13b0
     try clear c13b1
     try clear c14
     try clear c14b0
     try clear c14b1
     try clear p2
     obtain ⟨kq, x14_10, rfl, HA, HJ10, ⟨mc10, rfl⟩⟩ := hcut
     cases kq with
     | zero => exact absurd HA.out (by simp [rata_Length.j1])
     | succ kj10 =>
      have H := HA.out
      clear HA
      simp only [rata_Length.j1] at H
      by_cases c15 : x14_10 = true
      ·subst c15
       have H1 : (some 30) = some r := by rw [if_pos rfl] at H; exact H
       clear H
       have H := H1
       clear H1
       obtain rfl := Option.some.inj H
       go_wp2
       go_ret
       exact ⟨by first | rfl | simp | simp [*] | simp [bne_nil_], by repeat (first | exact Drawn0.refl _ | apply Drawn0.step)⟩
      ·replace c15 := Bool.eq_false_iff.mpr c15
       subst c15
       have H1 : (if a1 = 2 then ((rata_Leap.f a0).bind fun t189 => (if t189 = true then (some 29) else (some 28))) else (some 0)) = some r := by rw [if_neg (show ¬ (false = true) by decide)] at H; exact H
       clear H
       have H := H1
       clear H1
       by_cases c16 : a1 = 2
       ·rw [if_pos c16] at H
        have c16b0 : (a1 == 2) = true := beq_iff_eq.mpr c16
        have c16b1 : (a1 != 2) = false := bne_eq_false_iff_eq.mpr c16
        clear c16
        replace H := Option.bind_eq_some_iff.mp H
        obtain ⟨t189, A170, H⟩ := H
        replace H : (if t189 = true then (some 29) else (some 28)) = some r := H
        have A17 := Aside0.mk A170
        clear A170
        by_cases c18 : t189 = true
        ·subst c18
         have H1 : (some 29) = some r := by rw [if_pos rfl] at H; exact H
         clear H
         have H := H1
         clear H1
         obtain rfl := Option.some.inj H
         go_wp2_with (first | ((with_reducible refine gate_callee (f := 49) rfl ?_); refine gm_ (some 22) Try.func49 #[.int .i64 a0] ?_; (with_reducible refine (rata_Leap.calls a0 true _ A17.out).mono ?_); rintro e w' ⟨rfl, ⟨nd, rfl⟩⟩; refine ⟨_, rfl, ?_⟩))
         go_ret
         exact ⟨by first | rfl | simp | simp [*] | simp [bne_nil_], by repeat (first | exact Drawn0.refl _ | apply Drawn0.step)⟩
        ·replace c18 := Bool.eq_false_iff.mpr c18
         subst c18
         have H1 : (some 28) = some r := by rw [if_neg (show ¬ (false = true) by decide)] at H; exact H
         clear H
         have H := H1
         clear H1
         obtain rfl := Option.some.inj H
         go_wp2_with (first | ((with_reducible refine gate_callee (f := 49) rfl ?_); refine gm_ (some 22) Try.func49 #[.int .i64 a0] ?_; (with_reducible refine (rata_Leap.calls a0 false _ A17.out).mono ?_); rintro e w' ⟨rfl, ⟨nd, rfl⟩⟩; refine ⟨_, rfl, ?_⟩))
         go_ret
         exact ⟨by first | rfl | simp | simp [*] | simp [bne_nil_], by repeat (first | exact Drawn0.refl _ | apply Drawn0.step)⟩
       ·rw [if_neg c16] at H
        have c16b0 : (a1 == 2) = false := beq_eq_false_iff_ne.mpr c16
        have c16b1 : (a1 != 2) = true := bne_iff_ne.mpr c16
        obtain rfl := Option.some.inj H
        go_wp2
        go_ret
        exact ⟨by first | rfl | simp | simp [*] | simp [bne_nil_], by repeat (first | exact Drawn0.refl _ | apply Drawn0.step)⟩

/-! ### rata_Year: function 85 -/
def rata_Year.f (a0 : Int) : Option (Int) := (rata_Floor.f (wrap64 (a0 - 1)) 146097).bind fun t150 => ((rata_Mod.f (wrap64 (a0 - 1)) 146097).bind fun t151 => (some (wrap64 ((wrap64 ((wrap64 ((wrap64 ((wrap64 (400 * t150)) + (wrap64 (100 * (mn (wrap64 (Int.tdiv t151 36524)) 3))))) + (wrap64 (4 * (wrap64 (Int.tdiv (wrap64 (t151 - (wrap64 (36524 * (mn (wrap64 (Int.tdiv t151 36524)) 3))))) 1461)))))) + (mn (wrap64 (Int.tdiv (Int.tmod (wrap64 (t151 - (wrap64 (36524 * (mn (wrap64 (Int.tdiv t151 36524)) 3))))) 1461) 365)) 3))) + 1))))
set_option maxHeartbeats 8000000 in
set_option maxRecDepth 100000 in
theorem rata_Year.calls (a0 : Int) (r : Int) (w : World) (h : rata_Year.f a0 = some r) :
  Calls Try.prog 85 #[.int .i64 a0] w fun e w' => e = .returned (.int .i64 r) ∧ Below w.heap.size w w' := by
 have HB := Aside0.mk (Below.refl w.heap.size w)
 have H : ((rata_Floor.f (wrap64 (a0 - 1)) 146097).bind fun t150 => ((rata_Mod.f (wrap64 (a0 - 1)) 146097).bind fun t151 => (some (wrap64 ((wrap64 ((wrap64 ((wrap64 ((wrap64 (400 * t150)) + (wrap64 (100 * (mn (wrap64 (Int.tdiv t151 36524)) 3))))) + (wrap64 (4 * (wrap64 (Int.tdiv (wrap64 (t151 - (wrap64 (36524 * (mn (wrap64 (Int.tdiv t151 36524)) 3))))) 1461)))))) + (mn (wrap64 (Int.tdiv (Int.tmod (wrap64 (t151 - (wrap64 (36524 * (mn (wrap64 (Int.tdiv t151 36524)) 3))))) 1461) 365)) 3))) + 1))))) = some r := h
 clear h
 replace H := Option.bind_eq_some_iff.mp H
 obtain ⟨t150, A20, H⟩ := H
 replace H : ((rata_Mod.f (wrap64 (a0 - 1)) 146097).bind fun t151 => (some (wrap64 ((wrap64 ((wrap64 ((wrap64 ((wrap64 (400 * t150)) + (wrap64 (100 * (mn (wrap64 (Int.tdiv t151 36524)) 3))))) + (wrap64 (4 * (wrap64 (Int.tdiv (wrap64 (t151 - (wrap64 (36524 * (mn (wrap64 (Int.tdiv t151 36524)) 3))))) 1461)))))) + (mn (wrap64 (Int.tdiv (Int.tmod (wrap64 (t151 - (wrap64 (36524 * (mn (wrap64 (Int.tdiv t151 36524)) 3))))) 1461) 365)) 3))) + 1)))) = some r := H
 have A2 := Aside0.mk A20
 clear A20
 replace H := Option.bind_eq_some_iff.mp H
 obtain ⟨t151, A30, H⟩ := H
 replace H : (some (wrap64 ((wrap64 ((wrap64 ((wrap64 ((wrap64 (400 * t150)) + (wrap64 (100 * (mn (wrap64 (Int.tdiv t151 36524)) 3))))) + (wrap64 (4 * (wrap64 (Int.tdiv (wrap64 (t151 - (wrap64 (36524 * (mn (wrap64 (Int.tdiv t151 36524)) 3))))) 1461)))))) + (mn (wrap64 (Int.tdiv (Int.tmod (wrap64 (t151 - (wrap64 (36524 * (mn (wrap64 (Int.tdiv t151 36524)) 3))))) 1461) 365)) 3))) + 1))) = some r := H
 have A3 := Aside0.mk A30
 clear A30
 obtain ⟨ji4, hji4⟩ : ∃ j_ : Int, (mn (wrap64 (Int.tdiv t151 36524)) 3) = j_ := ⟨_, rfl⟩
 replace H : (some (wrap64 ((wrap64 ((wrap64 ((wrap64 ((wrap64 (400 * t150)) + (wrap64 (100 * (ji4))))) + (wrap64 (4 * (wrap64 (Int.tdiv (wrap64 (t151 - (wrap64 (36524 * (ji4))))) 1461)))))) + (mn (wrap64 (Int.tdiv (Int.tmod (wrap64 (t151 - (wrap64 (36524 * (ji4))))) 1461) 365)) 3))) + 1))) = some r := by first | (rw [hji4] at H; exact H) | (simp only [hji4] at H ⊢; exact H)
 (try rw [hji4] at A2)
 (try rw [hji4] at A3)
 (try (have hji4h : ji4 ≤ 3 := by (rw [← hji4]; unfold mn; (repeat' split) <;> omega)))
 (try (have hji4g : ji4 ≤ 64 := by omega))
 have hji4_ : (if 3 < (wrap64 (Int.tdiv t151 36524)) then 3 else (wrap64 (Int.tdiv t151 36524))) = ji4 := hji4
 obtain ⟨ji5, hji5⟩ : ∃ j_ : Int, (mn (wrap64 (Int.tdiv (Int.tmod (wrap64 (t151 - (wrap64 (36524 * (ji4))))) 1461) 365)) 3) = j_ := ⟨_, rfl⟩
 replace H : (some (wrap64 ((wrap64 ((wrap64 ((wrap64 ((wrap64 (400 * t150)) + (wrap64 (100 * (ji4))))) + (wrap64 (4 * (wrap64 (Int.tdiv (wrap64 (t151 - (wrap64 (36524 * (ji4))))) 1461)))))) + (ji5))) + 1))) = some r := by first | (rw [hji5] at H; exact H) | (simp only [hji5] at H ⊢; exact H)
 (try rw [hji5] at A2)
 (try rw [hji5] at A3)
 have hji5_ : (if 3 < (wrap64 (Int.tdiv (Int.tmod (wrap64 (t151 - (wrap64 (36524 * (ji4))))) 1461) 365)) then 3 else (wrap64 (Int.tdiv (Int.tmod (wrap64 (t151 - (wrap64 (36524 * (ji4))))) 1461) 365))) = ji5 := hji5
 obtain rfl := Option.some.inj H
 go_enter Try.func85, Try.ntmps85
 go_wp2_with (first | ((with_reducible refine gate_callee (f := 109) rfl ?_); refine gm_ (some 10) Try.func109 #[.int .i64 (wrap64 (a0 - 1)), .int .i64 146097] ?_; (with_reducible refine (rata_Floor.calls (wrap64 (a0 - 1)) 146097 t150 _ A2.out).mono ?_); rintro e w' ⟨rfl, ⟨nd, rfl⟩⟩; refine ⟨_, rfl, ?_⟩) | ((with_reducible refine gate_callee (f := 87) rfl ?_); refine gm_ (some 12) Try.func87 #[.int .i64 (wrap64 (a0 - 1)), .int .i64 146097] ?_; (with_reducible refine (rata_Mod.calls (wrap64 (a0 - 1)) 146097 t151 _ A3.out).mono ?_); rintro e w' ⟨rfl, ⟨nd, rfl⟩⟩; refine ⟨_, rfl, ?_⟩))
 go_ret
 exact ⟨by first | rfl | (simp [i64_w]; done) | (simp [errW_none, errW_some] <;> rfl) | (simp only [← hji4, ← hji5]; first | rfl | (simp [errW_none, errW_some] <;> rfl)) | (simp [*, errW_none, errW_some] <;> rfl), by repeat (first | (with_reducible first | exact HB.out | apply below_alloc | apply pw_below_drewN | apply below_drew1) | exact HB.out)⟩

/-! ### rata_Date: function 47 -/
def rata_Date.l0 : Nat → Int → Int → Int → Int → Option (Int × Int × Int × Int)
 | 0, _, _, _, _ => none
 | k + 1, x5, x194000, x194001, x194002 => (rata_Length.f k x194000 x194001).bind fun t195 => (if x5 > t195 then ((rata_Length.f k x194000 x194001).bind fun t196 => (rata_Date.l0 k (wrap64 (x5 - t196)) x194000 (wrap64 (x194001 + 1)) x194002)) else (some (x194000, x194001, x5, 0)))
def rata_Date.f (k : Nat) (a0 : Int) : Option (Int × Int × Int × Int) := (rata_Of.f a0).bind fun t191 => (if t191 = true then ((rata_Year.f a0).bind fun t192 => ((rata_ahead.f t192).bind fun t194 => (rata_Date.l0 k (wrap64 (a0 - t194)) t192 1 0))) else (some (0, 0, 0, 2)))
set_option maxHeartbeats 8000000 in
set_option maxRecDepth 100000 in
theorem rata_Date.calls (k : Nat) (a0 : Int) (r1 : Int) (r2 : Int) (r3 : Int) (r4 : Int) (w : World) (h : rata_Date.f k a0 = some (r1, r2, r3, r4)) :
  Calls Try.prog 47 #[.int .i64 a0] w fun e w' => e = .returned (.tuple #[.agg #[.int .i64 r1, .int .i64 r2, .int .i64 r3], .int .i64 r4]) ∧ Below w.heap.size w w' := by
 have hu50 := Try.underlying50
 have HB := Aside0.mk (Below.refl w.heap.size w)
 have H : ((rata_Of.f a0).bind fun t191 => (if t191 = true then ((rata_Year.f a0).bind fun t192 => ((rata_ahead.f t192).bind fun t194 => (rata_Date.l0 k (wrap64 (a0 - t194)) t192 1 0))) else (some (0, 0, 0, 2)))) = some (r1, r2, r3, r4) := h
 clear h
 replace H := Option.bind_eq_some_iff.mp H
 obtain ⟨t191, A20, H⟩ := H
 replace H : (if t191 = true then ((rata_Year.f a0).bind fun t192 => ((rata_ahead.f t192).bind fun t194 => (rata_Date.l0 k (wrap64 (a0 - t194)) t192 1 0))) else (some (0, 0, 0, 2))) = some (r1, r2, r3, r4) := H
 have A2 := Aside0.mk A20
 clear A20
 by_cases c3 : t191 = true
 ·subst c3
  have H1 : ((rata_Year.f a0).bind fun t192 => ((rata_ahead.f t192).bind fun t194 => (rata_Date.l0 k (wrap64 (a0 - t194)) t192 1 0))) = some (r1, r2, r3, r4) := by rw [if_pos rfl] at H; exact H
  clear H
  have H := H1
  clear H1
  replace H := Option.bind_eq_some_iff.mp H
  obtain ⟨t192, A40, H⟩ := H
  replace H : ((rata_ahead.f t192).bind fun t194 => (rata_Date.l0 k (wrap64 (a0 - t194)) t192 1 0)) = some (r1, r2, r3, r4) := H
  have A4 := Aside0.mk A40
  clear A40
  replace H := Option.bind_eq_some_iff.mp H
  obtain ⟨t194, A50, H⟩ := H
  replace H : (rata_Date.l0 k (wrap64 (a0 - t194)) t192 1 0) = some (r1, r2, r3, r4) := H
  have A5 := Aside0.mk A50
  clear A50
  have H' := Aside0.mk H
  clear H
  go_enter Try.func47, Try.ntmps47
  go_wp2_with (first | ((with_reducible refine gate_dst (N := 2) rfl ?_); refine box_event ?hg (N := 2) ?hd (cs := #[.int .i64 0, .int .i64 0, .int .i64 0]) (t := 50) ?hr ?_; (case hd => rfl); (case hg => rfl); (case hr => first | (go_simp; done) | (go_simp; rfl)); intro gb190 hg w6 hbox hb; have n0_ := Aside0.mk (below_step (by repeat (first | (with_reducible first | exact HB.out | apply below_alloc | apply pw_below_drewN | apply below_drew1) | exact HB.out)) hb); have n1_ := Aside0.mk (hbox); have n2_ := Aside0.mk ((by rw [hg]; exact (below_size (by repeat (first | (with_reducible first | exact HB.out | apply below_alloc | apply pw_below_drewN | apply below_drew1) | exact HB.out))) : w.heap.size ≤ gb190)); have n3_ := Aside0.mk ((by rw [hg]; exact (below_size (by repeat (first | (with_reducible first | exact HB.out | apply below_alloc | apply pw_below_drewN | apply below_drew1) | exact HB.out))) : w.heap.size ≤ gb190)); clear HB; have HB := n0_; have BK190 := n1_; have GW190 := n2_; have GE190 := n3_; clear n0_ n1_ n2_ n3_; clear hb hbox hg) | ((with_reducible refine gate_callee (f := 40) rfl ?_); refine gm_ (some 7) Try.func40 #[.int .i64 a0] ?_; (with_reducible refine (rata_Of.calls a0 true _ A2.out).mono ?_); rintro e w' ⟨rfl, ⟨nd, rfl⟩⟩; refine ⟨_, rfl, ?_⟩; (try (rw [drewN_self w6]; generalize hq_ : World.drewN w6 _ = w6; have n0_ : Aside0 (w6.heap[gb190]? = some (.cells #[.int .i64 0, .int .i64 0, .int .i64 0] 50 (0, 0))) := ⟨by rw [← hq_]; exact (by (with_reducible repeat (first | refine blk_drewN ?_ _ | refine blk_drew ?_ | refine blk_alloc ?_ _)); exact BK190.out)⟩; have n1_ : Aside0 (Below w.heap.size w w6) := ⟨by rw [← hq_]; exact (by repeat (first | (with_reducible first | exact HB.out | apply below_alloc | apply pw_below_drewN | apply below_drew1 | refine below_set ?_ GE190.out) | exact HB.out))⟩; clear BK190 HB hq_; have BK190 := n0_; have HB := n1_; clear n0_ n1_)); (try (have hcz7_0 : w6.cell? ⟨gb190, 0, none⟩ = some (.int .i64 0) := (blk_cell BK190.out 0).trans rfl; have hcz7_1 : w6.cell? ⟨gb190, 1, none⟩ = some (.int .i64 0) := (blk_cell BK190.out 1).trans rfl; have hcz7_2 : w6.cell? ⟨gb190, 2, none⟩ = some (.int .i64 0) := (blk_cell BK190.out 2).trans rfl; have hfz7_0 := blk_frozen BK190.out 0; have hfz7_1 := blk_frozen BK190.out 1; have hfz7_2 := blk_frozen BK190.out 2))) | ((with_reducible refine gate_callee (f := 85) rfl ?_); refine gm_ (some 11) Try.func85 #[.int .i64 a0] ?_; (with_reducible refine (rata_Year.calls a0 t192 _ A4.out).mono ?_); rintro e w8 ⟨rfl, hb⟩; refine ⟨_, rfl, ?_⟩; have n0_ := Aside0.mk (blk_below (g := gb190) (o := .cells #[.int .i64 0, .int .i64 0, .int .i64 0] 50 (0, 0)) (by (with_reducible repeat (first | refine blk_drewN ?_ _ | refine blk_drew ?_ | refine blk_alloc ?_ _)); exact BK190.out) hb); have n1_ := Aside0.mk (below_step (by repeat (first | (with_reducible first | exact HB.out | apply below_alloc | apply pw_below_drewN | apply below_drew1 | refine below_set ?_ GE190.out) | exact HB.out)) hb); clear BK190; clear HB; have BK190 := n0_; have HB := n1_; clear n0_ n1_; (try clear hb); (try clear hb2); (try clear hk); (try clear hi)) | ((with_reducible refine gate_dst (N := 4) rfl ?_); refine box_event ?hg (N := 4) ?hd (cs := #[.int .i64 0, .int .i64 0, .int .i64 0]) (t := 50) ?hr ?_; (case hd => rfl); (case hg => rfl); (case hr => first | (go_simp; done) | (go_simp; rfl)); intro gb193 hg w9 hbox hb; have n0_ := Aside0.mk (blk_below (g := gb190) (o := .cells #[.int .i64 0, .int .i64 0, .int .i64 0] 50 (0, 0)) (by (with_reducible repeat (first | refine blk_drewN ?_ _ | refine blk_drew ?_ | refine blk_alloc ?_ _)); exact BK190.out) hb); have n1_ := Aside0.mk (below_step (by repeat (first | (with_reducible first | exact HB.out | apply below_alloc | apply pw_below_drewN | apply below_drew1 | refine below_set ?_ GE190.out) | exact HB.out)) hb); have n2_ := Aside0.mk (hbox); have n3_ := Aside0.mk ((by rw [hg]; exact (below_size (by repeat (first | (with_reducible first | exact HB.out | apply below_alloc | apply pw_below_drewN | apply below_drew1 | refine below_set ?_ GE190.out) | exact HB.out))) : w.heap.size ≤ gb193)); have n4_ := Aside0.mk ((by rw [hg]; exact (below_size (by repeat (first | (with_reducible first | exact HB.out | apply below_alloc | apply pw_below_drewN | apply below_drew1 | refine below_set ?_ GE190.out) | exact HB.out))) : w.heap.size ≤ gb193)); have n5_ := Aside0.mk ((by rw [hg]; exact Nat.ne_of_lt (blk_lt (g := gb190) (o := .cells #[.int .i64 0, .int .i64 0, .int .i64 0] 50 (0, 0)) (by (with_reducible repeat (first | refine blk_drewN ?_ _ | refine blk_drew ?_ | refine blk_alloc ?_ _)); exact BK190.out)) : gb190 ≠ gb193)); have n6_ := Aside0.mk ((by rw [hg]; exact Nat.ne_of_gt (blk_lt (g := gb190) (o := .cells #[.int .i64 0, .int .i64 0, .int .i64 0] 50 (0, 0)) (by (with_reducible repeat (first | refine blk_drewN ?_ _ | refine blk_drew ?_ | refine blk_alloc ?_ _)); exact BK190.out)) : gb193 ≠ gb190)); clear BK190; clear HB; have BK190 := n0_; have HB := n1_; have BK193 := n2_; have GW193 := n3_; have GE193 := n4_; have NB190_193 := n5_; have NB193_190 := n6_; clear n0_ n1_ n2_ n3_ n4_ n5_ n6_; clear hb hbox hg; have hnb10 := NB193_190.out; have hnc10 := NB190_193.out; have hcz11_0 : w9.cell? ⟨gb193, 0, none⟩ = some (.int .i64 0) := (blk_cell BK193.out 0).trans rfl; have hcz11_1 : w9.cell? ⟨gb193, 1, none⟩ = some (.int .i64 0) := (blk_cell BK193.out 1).trans rfl; have hcz11_2 : w9.cell? ⟨gb193, 2, none⟩ = some (.int .i64 0) := (blk_cell BK193.out 2).trans rfl; have hfz11_0 := blk_frozen BK193.out 0; have hfz11_1 := blk_frozen BK193.out 1; have hfz11_2 := blk_frozen BK193.out 2) | ((with_reducible refine gate_callee (f := 86) rfl ?_); refine gm_ (some 16) Try.func86 #[.int .i64 t192] ?_; (with_reducible refine (rata_ahead.calls t192 t194 _ A5.out).mono ?_); rintro e w' ⟨rfl, ⟨nd, rfl⟩⟩; refine ⟨_, rfl, ?_⟩))
  go_loopg [5] k (fun kq v5 w' => ∃ (x5_1 : Int) (x194001_1 : Int), v5 = .int .i64 x5_1 ∧ Aside0 (rata_Date.l0 kq x5_1 t192 x194001_1 0 = some (r1, r2, r3, r4)) ∧ Aside0 (kq ≤ k) ∧ Aside0 (w'.heap[gb190]? = some (.cells #[.int .i64 0, .int .i64 0, .int .i64 0] 50 (0, 0))) ∧ Aside0 (w'.heap[gb193]? = some (.cells #[.int .i64 t192, .int .i64 x194001_1, .int .i64 0] 50 (0, 0))) ∧ Aside0 (Below w.heap.size w w'))
  case atStart => exact ⟨(wrap64 (a0 - t194)), (1), (by first | rfl | (simp; done) | (simp [*]; done)), H', ⟨Nat.le_refl _⟩, ⟨by (with_reducible repeat (first | refine blk_drewN ?_ _ | refine blk_drew ?_ | refine blk_alloc ?_ _)); refine blk_far ?_ NB190_193.out _; (with_reducible repeat (first | refine blk_drewN ?_ _ | refine blk_drew ?_ | refine blk_alloc ?_ _)); refine blk_far ?_ NB190_193.out _; (with_reducible repeat (first | refine blk_drewN ?_ _ | refine blk_drew ?_ | refine blk_alloc ?_ _)); refine blk_far ?_ NB190_193.out _; (with_reducible repeat (first | refine blk_drewN ?_ _ | refine blk_drew ?_ | refine blk_alloc ?_ _)); exact BK190.out⟩, ⟨by (with_reducible repeat (first | refine blk_drewN ?_ _ | refine blk_drew ?_ | refine blk_alloc ?_ _)); refine blk_put (cs := #[.int .i64 t192, .int .i64 1, .int .i64 0]) ?_ 2 _ rfl; (with_reducible repeat (first | refine blk_drewN ?_ _ | refine blk_drew ?_ | refine blk_alloc ?_ _)); refine blk_put (cs := #[.int .i64 t192, .int .i64 0, .int .i64 0]) ?_ 1 _ rfl; (with_reducible repeat (first | refine blk_drewN ?_ _ | refine blk_drew ?_ | refine blk_alloc ?_ _)); refine blk_put (cs := #[.int .i64 0, .int .i64 0, .int .i64 0]) ?_ 0 _ rfl; (with_reducible repeat (first | refine blk_drewN ?_ _ | refine blk_drew ?_ | refine blk_alloc ?_ _)); exact BK193.out⟩, ⟨by repeat (first | (with_reducible first | exact HB.out | apply below_alloc | apply pw_below_drewN | apply below_drew1 | refine below_set ?_ GE190.out | refine below_set ?_ GE193.out) | exact HB.out)⟩⟩
  case round =>
   clear H'
   try clear c1
   try clear p2
   try clear c3
   try clear c4
   try clear p6
   try clear c8
   try clear c10
   try clear hcz11_0
   try clear hcz11_1
   try clear hcz11_2
   try clear hcz7_0
   try clear hcz7_1
   try clear hcz7_2
   try clear hfz11_0
   try clear hfz11_1
   try clear hfz11_2
   try clear hfz7_0
   try clear hfz7_1
   try clear hfz7_2
   obtain ⟨x5_1, x194001_1, rfl, HA, HK1, BK190, BK193, HB⟩ := hrel
   cases gk with
   | zero => exact absurd HA.out (by simp [rata_Date.l0])
   | succ k1 =>
    have H := HA.out
    clear HA
    simp only [rata_Date.l0] at H
    replace H := Option.bind_eq_some_iff.mp H
    obtain ⟨t195, A120, H⟩ := H
    replace H : (if x5_1 > t195 then ((rata_Length.f k1 t192 x194001_1).bind fun t196 => (rata_Date.l0 k1 (wrap64 (x5_1 - t196)) t192 (wrap64 (x194001_1 + 1)) 0)) else (some (t192, x194001_1, x5_1, 0))) = some (r1, r2, r3, r4) := H
    have A12 := Aside0.mk A120
    clear A120
    by_cases c13 : x5_1 > t195
    ·rw [if_pos c13] at H
     have c13b0 : decide (t195 < x5_1) = true := decide_eq_true c13
     clear c13
     replace H := Option.bind_eq_some_iff.mp H
     obtain ⟨t196, A140, H⟩ := H
     have A14d := Option.some.inj (A12.out.symm.trans A140)
     clear A140
     subst A14d
     replace H : (rata_Date.l0 k1 (wrap64 (x5_1 - t195)) t192 (wrap64 (x194001_1 + 1)) 0) = some (r1, r2, r3, r4) := H
     have H' := Aside0.mk H
     clear H
     have hnb15 := NB193_190.out
     have hnc15 := NB190_193.out
     have hcz16_0 : wr.cell? ⟨gb193, 0, none⟩ = some (.int .i64 t192) := (blk_cell BK193.out 0).trans rfl
     have hcz16_1 : wr.cell? ⟨gb193, 1, none⟩ = some (.int .i64 x194001_1) := (blk_cell BK193.out 1).trans rfl
     have hcz16_2 : wr.cell? ⟨gb193, 2, none⟩ = some (.int .i64 0) := (blk_cell BK193.out 2).trans rfl
     have hfz16_0 := blk_frozen BK193.out 0
     have hfz16_1 := blk_frozen BK193.out 1
     have hfz16_2 := blk_frozen BK193.out 2
     go_wp2_with (first | ((with_reducible refine gate_callee (f := 51) rfl ?_); refine gm_ (some 23) Try.func51 #[.int .i64 t192, .int .i64 x194001_1] ?_; (with_reducible refine (rata_Length.calls k1 t192 x194001_1 t195 _ A12.out).mono ?_); rintro e w' ⟨rfl, ⟨nd, rfl⟩⟩; refine ⟨_, rfl, ?_⟩; (try (rw [drewN_self wr]; generalize hq_ : World.drewN wr _ = wr; have n0_ : Aside0 (wr.heap[gb190]? = some (.cells #[.int .i64 0, .int .i64 0, .int .i64 0] 50 (0, 0))) := ⟨by rw [← hq_]; exact (by (with_reducible repeat (first | refine blk_drewN ?_ _ | refine blk_drew ?_ | refine blk_alloc ?_ _)); exact BK190.out)⟩; have n1_ : Aside0 (wr.heap[gb193]? = some (.cells #[.int .i64 t192, .int .i64 x194001_1, .int .i64 0] 50 (0, 0))) := ⟨by rw [← hq_]; exact (by (with_reducible repeat (first | refine blk_drewN ?_ _ | refine blk_drew ?_ | refine blk_alloc ?_ _)); exact BK193.out)⟩; have n2_ : Aside0 (Below w.heap.size w wr) := ⟨by rw [← hq_]; exact (by repeat (first | (with_reducible first | exact HB.out | apply below_alloc | apply pw_below_drewN | apply below_drew1 | refine below_set ?_ GE190.out | refine below_set ?_ GE193.out) | exact HB.out))⟩; clear BK190 BK193 HB hq_; have BK190 := n0_; have BK193 := n1_; have HB := n2_; clear n0_ n1_ n2_)); (try (have hcz17_0 : wr.cell? ⟨gb190, 0, none⟩ = some (.int .i64 0) := (blk_cell BK190.out 0).trans rfl; have hcz17_1 : wr.cell? ⟨gb190, 1, none⟩ = some (.int .i64 0) := (blk_cell BK190.out 1).trans rfl; have hcz17_2 : wr.cell? ⟨gb190, 2, none⟩ = some (.int .i64 0) := (blk_cell BK190.out 2).trans rfl; have hfz17_0 := blk_frozen BK190.out 0; have hfz17_1 := blk_frozen BK190.out 1; have hfz17_2 := blk_frozen BK190.out 2; have hcz18_0 : wr.cell? ⟨gb193, 0, none⟩ = some (.int .i64 t192) := (blk_cell BK193.out 0).trans rfl; have hcz18_1 : wr.cell? ⟨gb193, 1, none⟩ = some (.int .i64 x194001_1) := (blk_cell BK193.out 1).trans rfl; have hcz18_2 : wr.cell? ⟨gb193, 2, none⟩ = some (.int .i64 0) := (blk_cell BK193.out 2).trans rfl; have hfz18_0 := blk_frozen BK193.out 0; have hfz18_1 := blk_frozen BK193.out 1; have hfz18_2 := blk_frozen BK193.out 2))) | ((with_reducible refine gate_callee (f := 51) rfl ?_); refine gm_ (some 30) Try.func51 #[.int .i64 t192, .int .i64 x194001_1] ?_; (with_reducible refine (rata_Length.calls k1 t192 x194001_1 t195 _ A12.out).mono ?_); rintro e w' ⟨rfl, ⟨nd, rfl⟩⟩; refine ⟨_, rfl, ?_⟩; (try (rw [drewN_self wr]; generalize hq_ : World.drewN wr _ = wr; have n0_ : Aside0 (wr.heap[gb190]? = some (.cells #[.int .i64 0, .int .i64 0, .int .i64 0] 50 (0, 0))) := ⟨by rw [← hq_]; exact (by (with_reducible repeat (first | refine blk_drewN ?_ _ | refine blk_drew ?_ | refine blk_alloc ?_ _)); exact BK190.out)⟩; have n1_ : Aside0 (wr.heap[gb193]? = some (.cells #[.int .i64 t192, .int .i64 x194001_1, .int .i64 0] 50 (0, 0))) := ⟨by rw [← hq_]; exact (by (with_reducible repeat (first | refine blk_drewN ?_ _ | refine blk_drew ?_ | refine blk_alloc ?_ _)); exact BK193.out)⟩; have n2_ : Aside0 (Below w.heap.size w wr) := ⟨by rw [← hq_]; exact (by repeat (first | (with_reducible first | exact HB.out | apply below_alloc | apply pw_below_drewN | apply below_drew1 | refine below_set ?_ GE190.out | refine below_set ?_ GE193.out) | exact HB.out))⟩; clear BK190 BK193 HB hq_; have BK190 := n0_; have BK193 := n1_; have HB := n2_; clear n0_ n1_ n2_)); (try (have hcz19_0 : wr.cell? ⟨gb190, 0, none⟩ = some (.int .i64 0) := (blk_cell BK190.out 0).trans rfl; have hcz19_1 : wr.cell? ⟨gb190, 1, none⟩ = some (.int .i64 0) := (blk_cell BK190.out 1).trans rfl; have hcz19_2 : wr.cell? ⟨gb190, 2, none⟩ = some (.int .i64 0) := (blk_cell BK190.out 2).trans rfl; have hfz19_0 := blk_frozen BK190.out 0; have hfz19_1 := blk_frozen BK190.out 1; have hfz19_2 := blk_frozen BK190.out 2; have hcz20_0 : wr.cell? ⟨gb193, 0, none⟩ = some (.int .i64 t192) := (blk_cell BK193.out 0).trans rfl; have hcz20_1 : wr.cell? ⟨gb193, 1, none⟩ = some (.int .i64 x194001_1) := (blk_cell BK193.out 1).trans rfl; have hcz20_2 : wr.cell? ⟨gb193, 2, none⟩ = some (.int .i64 0) := (blk_cell BK193.out 2).trans rfl; have hfz20_0 := blk_frozen BK193.out 0; have hfz20_1 := blk_frozen BK193.out 1; have hfz20_2 := blk_frozen BK193.out 2))))
     go_roundg k1
     case measure => have := HK1.out; omega
     case rel => exact ⟨(wrap64 (x5_1 - t195)), (wrap64 (x194001_1 + 1)), (by first | rfl | (simp; done) | (simp [*]; done)), H', ⟨by have := HK1.out; omega⟩, ⟨by (with_reducible repeat (first | refine blk_drewN ?_ _ | refine blk_drew ?_ | refine blk_alloc ?_ _)); refine blk_far ?_ NB190_193.out _; (with_reducible repeat (first | refine blk_drewN ?_ _ | refine blk_drew ?_ | refine blk_alloc ?_ _)); exact BK190.out⟩, ⟨by (with_reducible repeat (first | refine blk_drewN ?_ _ | refine blk_drew ?_ | refine blk_alloc ?_ _)); refine blk_put (cs := #[.int .i64 t192, .int .i64 x194001_1, .int .i64 0]) ?_ 1 _ rfl; (with_reducible repeat (first | refine blk_drewN ?_ _ | refine blk_drew ?_ | refine blk_alloc ?_ _)); exact BK193.out⟩, ⟨by repeat (first | (with_reducible first | exact HB.out | apply below_alloc | apply pw_below_drewN | apply below_drew1 | refine below_set ?_ GE190.out | refine below_set ?_ GE193.out) | exact HB.out)⟩⟩
    ·rw [if_neg c13] at H
     have c13b0 : decide (t195 < x5_1) = false := decide_eq_false c13
     clear c13
     simp only [Option.some.injEq, Prod.mk.injEq] at H
     obtain ⟨rfl, rfl, rfl, rfl⟩ := H
     have hnb21 := NB193_190.out
     have hnc21 := NB190_193.out
     have hcz22_0 : wr.cell? ⟨gb193, 0, none⟩ = some (.int .i64 t192) := (blk_cell BK193.out 0).trans rfl
     have hcz22_1 : wr.cell? ⟨gb193, 1, none⟩ = some (.int .i64 x194001_1) := (blk_cell BK193.out 1).trans rfl
     have hcz22_2 : wr.cell? ⟨gb193, 2, none⟩ = some (.int .i64 0) := (blk_cell BK193.out 2).trans rfl
     have hfz22_0 := blk_frozen BK193.out 0
     have hfz22_1 := blk_frozen BK193.out 1
     have hfz22_2 := blk_frozen BK193.out 2
     go_wp2_with (first | ((with_reducible refine gate_callee (f := 51) rfl ?_); refine gm_ (some 23) Try.func51 #[.int .i64 t192, .int .i64 x194001_1] ?_; (with_reducible refine (rata_Length.calls k1 t192 x194001_1 t195 _ A12.out).mono ?_); rintro e w' ⟨rfl, ⟨nd, rfl⟩⟩; refine ⟨_, rfl, ?_⟩; (try (rw [drewN_self wr]; generalize hq_ : World.drewN wr _ = wr; have n0_ : Aside0 (wr.heap[gb190]? = some (.cells #[.int .i64 0, .int .i64 0, .int .i64 0] 50 (0, 0))) := ⟨by rw [← hq_]; exact (by (with_reducible repeat (first | refine blk_drewN ?_ _ | refine blk_drew ?_ | refine blk_alloc ?_ _)); exact BK190.out)⟩; have n1_ : Aside0 (wr.heap[gb193]? = some (.cells #[.int .i64 t192, .int .i64 x194001_1, .int .i64 0] 50 (0, 0))) := ⟨by rw [← hq_]; exact (by (with_reducible repeat (first | refine blk_drewN ?_ _ | refine blk_drew ?_ | refine blk_alloc ?_ _)); exact BK193.out)⟩; have n2_ : Aside0 (Below w.heap.size w wr) := ⟨by rw [← hq_]; exact (by repeat (first | (with_reducible first | exact HB.out | apply below_alloc | apply pw_below_drewN | apply below_drew1 | refine below_set ?_ GE190.out | refine below_set ?_ GE193.out) | exact HB.out))⟩; clear BK190 BK193 HB hq_; have BK190 := n0_; have BK193 := n1_; have HB := n2_; clear n0_ n1_ n2_)); (try (have hcz23_0 : wr.cell? ⟨gb190, 0, none⟩ = some (.int .i64 0) := (blk_cell BK190.out 0).trans rfl; have hcz23_1 : wr.cell? ⟨gb190, 1, none⟩ = some (.int .i64 0) := (blk_cell BK190.out 1).trans rfl; have hcz23_2 : wr.cell? ⟨gb190, 2, none⟩ = some (.int .i64 0) := (blk_cell BK190.out 2).trans rfl; have hfz23_0 := blk_frozen BK190.out 0; have hfz23_1 := blk_frozen BK190.out 1; have hfz23_2 := blk_frozen BK190.out 2; have hcz24_0 : wr.cell? ⟨gb193, 0, none⟩ = some (.int .i64 t192) := (blk_cell BK193.out 0).trans rfl; have hcz24_1 : wr.cell? ⟨gb193, 1, none⟩ = some (.int .i64 x194001_1) := (blk_cell BK193.out 1).trans rfl; have hcz24_2 : wr.cell? ⟨gb193, 2, none⟩ = some (.int .i64 0) := (blk_cell BK193.out 2).trans rfl; have hfz24_0 := blk_frozen BK193.out 0; have hfz24_1 := blk_frozen BK193.out 1; have hfz24_2 := blk_frozen BK193.out 2)); have hcz25_0 : wr.cell? ⟨gb190, 0, none⟩ = some (.int .i64 0) := (blk_cell BK190.out 0).trans rfl; have hcz25_1 : wr.cell? ⟨gb190, 1, none⟩ = some (.int .i64 0) := (blk_cell BK190.out 1).trans rfl; have hcz25_2 : wr.cell? ⟨gb190, 2, none⟩ = some (.int .i64 0) := (blk_cell BK190.out 2).trans rfl; have hfz25_0 := blk_frozen BK190.out 0; have hfz25_1 := blk_frozen BK190.out 1; have hfz25_2 := blk_frozen BK190.out 2))
     refine bodyPost_ret (results_ct rfl _ _ gb190 50 #[.int .i64 t192, .int .i64 x194001_1, .int .i64 x5_1] (0, 0) _ rfl (by (with_reducible repeat (first | refine blk_drewN ?_ _ | refine blk_drew ?_ | refine blk_alloc ?_ _)); refine blk_put (cs := #[.int .i64 t192, .int .i64 x194001_1, .int .i64 0]) ?_ 2 _ rfl; (with_reducible repeat (first | refine blk_drewN ?_ _ | refine blk_drew ?_ | refine blk_alloc ?_ _)); refine blk_put (cs := #[.int .i64 t192, .int .i64 0, .int .i64 0]) ?_ 1 _ rfl; (with_reducible repeat (first | refine blk_drewN ?_ _ | refine blk_drew ?_ | refine blk_alloc ?_ _)); refine blk_put (cs := #[.int .i64 0, .int .i64 0, .int .i64 0]) ?_ 0 _ rfl; (with_reducible repeat (first | refine blk_drewN ?_ _ | refine blk_drew ?_ | refine blk_alloc ?_ _)); refine blk_far ?_ NB190_193.out _; (with_reducible repeat (first | refine blk_drewN ?_ _ | refine blk_drew ?_ | refine blk_alloc ?_ _)); exact BK190.out) Try.underlying50 rfl (by kernel_rfl)) rfl ?_
     exact ⟨by first | rfl | (simp [i64_w]; done) | (simp [errW_none, errW_some] <;> rfl) | (simp [*, errW_none, errW_some] <;> rfl), by repeat (first | (with_reducible first | exact HB.out | apply below_alloc | apply pw_below_drewN | apply below_drew1 | refine below_set ?_ GE190.out | refine below_set ?_ GE193.out) | exact HB.out)⟩
 ·replace c3 := Bool.eq_false_iff.mpr c3
  subst c3
  have H1 : (some (0, 0, 0, 2)) = some (r1, r2, r3, r4) := by rw [if_neg (show ¬ (false = true) by decide)] at H; exact H
  clear H
  have H := H1
  clear H1
  simp only [Option.some.injEq, Prod.mk.injEq] at H
  obtain ⟨rfl, rfl, rfl, rfl⟩ := H
  go_enter Try.func47, Try.ntmps47
  go_wp2_with (first | ((with_reducible refine gate_dst (N := 2) rfl ?_); refine box_event ?hg (N := 2) ?hd (cs := #[.int .i64 0, .int .i64 0, .int .i64 0]) (t := 50) ?hr ?_; (case hd => rfl); (case hg => rfl); (case hr => first | (go_simp; done) | (go_simp; rfl)); intro gb190 hg w26 hbox hb; have n0_ := Aside0.mk (below_step (by repeat (first | (with_reducible first | exact HB.out | apply below_alloc | apply pw_below_drewN | apply below_drew1) | exact HB.out)) hb); have n1_ := Aside0.mk (hbox); have n2_ := Aside0.mk ((by rw [hg]; exact (below_size (by repeat (first | (with_reducible first | exact HB.out | apply below_alloc | apply pw_below_drewN | apply below_drew1) | exact HB.out))) : w.heap.size ≤ gb190)); have n3_ := Aside0.mk ((by rw [hg]; exact (below_size (by repeat (first | (with_reducible first | exact HB.out | apply below_alloc | apply pw_below_drewN | apply below_drew1) | exact HB.out))) : w.heap.size ≤ gb190)); clear HB; have HB := n0_; have BK190 := n1_; have GW190 := n2_; have GE190 := n3_; clear n0_ n1_ n2_ n3_; clear hb hbox hg) | ((with_reducible refine gate_callee (f := 40) rfl ?_); refine gm_ (some 7) Try.func40 #[.int .i64 a0] ?_; (with_reducible refine (rata_Of.calls a0 false _ A2.out).mono ?_); rintro e w' ⟨rfl, ⟨nd, rfl⟩⟩; refine ⟨_, rfl, ?_⟩; (try (rw [drewN_self w26]; generalize hq_ : World.drewN w26 _ = w26; have n0_ : Aside0 (w26.heap[gb190]? = some (.cells #[.int .i64 0, .int .i64 0, .int .i64 0] 50 (0, 0))) := ⟨by rw [← hq_]; exact (by (with_reducible repeat (first | refine blk_drewN ?_ _ | refine blk_drew ?_ | refine blk_alloc ?_ _)); exact BK190.out)⟩; have n1_ : Aside0 (Below w.heap.size w w26) := ⟨by rw [← hq_]; exact (by repeat (first | (with_reducible first | exact HB.out | apply below_alloc | apply pw_below_drewN | apply below_drew1 | refine below_set ?_ GE190.out) | exact HB.out))⟩; clear BK190 HB hq_; have BK190 := n0_; have HB := n1_; clear n0_ n1_)); (try (have hcz27_0 : w26.cell? ⟨gb190, 0, none⟩ = some (.int .i64 0) := (blk_cell BK190.out 0).trans rfl; have hcz27_1 : w26.cell? ⟨gb190, 1, none⟩ = some (.int .i64 0) := (blk_cell BK190.out 1).trans rfl; have hcz27_2 : w26.cell? ⟨gb190, 2, none⟩ = some (.int .i64 0) := (blk_cell BK190.out 2).trans rfl; have hfz27_0 := blk_frozen BK190.out 0; have hfz27_1 := blk_frozen BK190.out 1; have hfz27_2 := blk_frozen BK190.out 2)); have hcz28_0 : w26.cell? ⟨gb190, 0, none⟩ = some (.int .i64 0) := (blk_cell BK190.out 0).trans rfl; have hcz28_1 : w26.cell? ⟨gb190, 1, none⟩ = some (.int .i64 0) := (blk_cell BK190.out 1).trans rfl; have hcz28_2 : w26.cell? ⟨gb190, 2, none⟩ = some (.int .i64 0) := (blk_cell BK190.out 2).trans rfl; have hfz28_0 := blk_frozen BK190.out 0; have hfz28_1 := blk_frozen BK190.out 1; have hfz28_2 := blk_frozen BK190.out 2))
  refine bodyPost_ret (results_ct rfl _ _ gb190 50 #[.int .i64 0, .int .i64 0, .int .i64 0] (0, 0) _ rfl (by (with_reducible repeat (first | refine blk_drewN ?_ _ | refine blk_drew ?_ | refine blk_alloc ?_ _)); refine blk_put (cs := #[.int .i64 0, .int .i64 0, .int .i64 0]) ?_ 2 _ rfl; (with_reducible repeat (first | refine blk_drewN ?_ _ | refine blk_drew ?_ | refine blk_alloc ?_ _)); refine blk_put (cs := #[.int .i64 0, .int .i64 0, .int .i64 0]) ?_ 1 _ rfl; (with_reducible repeat (first | refine blk_drewN ?_ _ | refine blk_drew ?_ | refine blk_alloc ?_ _)); refine blk_put (cs := #[.int .i64 0, .int .i64 0, .int .i64 0]) ?_ 0 _ rfl; (with_reducible repeat (first | refine blk_drewN ?_ _ | refine blk_drew ?_ | refine blk_alloc ?_ _)); exact BK190.out) Try.underlying50 rfl (by kernel_rfl)) rfl ?_
  exact ⟨by first | rfl | (simp [i64_w]; done) | (simp [errW_none, errW_some] <;> rfl) | (simp [*, errW_none, errW_some] <;> rfl), by repeat (first | (with_reducible first | exact HB.out | apply below_alloc | apply pw_below_drewN | apply below_drew1 | refine below_set ?_ GE190.out) | exact HB.out)⟩

/-! ### rata_InYear: function 48 -/
def rata_InYear.f (a0 : Int) : Option (Int × Int) := (rata_Of.f a0).bind fun t197 => (if t197 = true then ((rata_Year.f a0).bind fun t198 => ((rata_ahead.f t198).bind fun t199 => (some (wrap64 (a0 - t199), 0)))) else (some (0, 2)))
set_option maxHeartbeats 8000000 in
set_option maxRecDepth 100000 in
theorem rata_InYear.calls (a0 : Int) (r1 : Int) (r2 : Int) (w : World) (h : rata_InYear.f a0 = some (r1, r2)) :
  Calls Try.prog 48 #[.int .i64 a0] w fun e w' => e = .returned (.tuple #[.int .i64 r1, .int .i64 r2]) ∧ Below w.heap.size w w' := by
 have HB := Aside0.mk (Below.refl w.heap.size w)
 have H : ((rata_Of.f a0).bind fun t197 => (if t197 = true then ((rata_Year.f a0).bind fun t198 => ((rata_ahead.f t198).bind fun t199 => (some (wrap64 (a0 - t199), 0)))) else (some (0, 2)))) = some (r1, r2) := h
 clear h
 replace H := Option.bind_eq_some_iff.mp H
 obtain ⟨t197, A20, H⟩ := H
 replace H : (if t197 = true then ((rata_Year.f a0).bind fun t198 => ((rata_ahead.f t198).bind fun t199 => (some (wrap64 (a0 - t199), 0)))) else (some (0, 2))) = some (r1, r2) := H
 have A2 := Aside0.mk A20
 clear A20
 by_cases c3 : t197 = true
 ·subst c3
  have H1 : ((rata_Year.f a0).bind fun t198 => ((rata_ahead.f t198).bind fun t199 => (some (wrap64 (a0 - t199), 0)))) = some (r1, r2) := by rw [if_pos rfl] at H; exact H
  clear H
  have H := H1
  clear H1
  replace H := Option.bind_eq_some_iff.mp H
  obtain ⟨t198, A40, H⟩ := H
  replace H : ((rata_ahead.f t198).bind fun t199 => (some (wrap64 (a0 - t199), 0))) = some (r1, r2) := H
  have A4 := Aside0.mk A40
  clear A40
  replace H := Option.bind_eq_some_iff.mp H
  obtain ⟨t199, A50, H⟩ := H
  replace H : (some (wrap64 (a0 - t199), 0)) = some (r1, r2) := H
  have A5 := Aside0.mk A50
  clear A50
  simp only [Option.some.injEq, Prod.mk.injEq] at H
  obtain ⟨rfl, rfl⟩ := H
  go_enter Try.func48, Try.ntmps48
  go_wp2_with (first | ((with_reducible refine gate_callee (f := 40) rfl ?_); refine gm_ (some 5) Try.func40 #[.int .i64 a0] ?_; (with_reducible refine (rata_Of.calls a0 true _ A2.out).mono ?_); rintro e w' ⟨rfl, ⟨nd, rfl⟩⟩; refine ⟨_, rfl, ?_⟩) | ((with_reducible refine gate_callee (f := 85) rfl ?_); refine gm_ (some 9) Try.func85 #[.int .i64 a0] ?_; (with_reducible refine (rata_Year.calls a0 t198 _ A4.out).mono ?_); rintro e w6 ⟨rfl, hb⟩; refine ⟨_, rfl, ?_⟩; have n0_ := Aside0.mk (below_step (by repeat (first | (with_reducible first | exact HB.out | apply below_alloc | apply pw_below_drewN | apply below_drew1) | exact HB.out)) hb); clear HB; have HB := n0_; clear n0_; (try clear hb); (try clear hb2); (try clear hk); (try clear hi)) | ((with_reducible refine gate_callee (f := 86) rfl ?_); refine gm_ (some 10) Try.func86 #[.int .i64 t198] ?_; (with_reducible refine (rata_ahead.calls t198 t199 _ A5.out).mono ?_); rintro e w' ⟨rfl, ⟨nd, rfl⟩⟩; refine ⟨_, rfl, ?_⟩))
  go_ret2
  exact ⟨by first | rfl | (simp [i64_w]; done) | (simp [errW_none, errW_some] <;> rfl) | (simp [*, errW_none, errW_some] <;> rfl), by repeat (first | (with_reducible first | exact HB.out | apply below_alloc | apply pw_below_drewN | apply below_drew1) | exact HB.out)⟩
 ·replace c3 := Bool.eq_false_iff.mpr c3
  subst c3
  have H1 : (some (0, 2)) = some (r1, r2) := by rw [if_neg (show ¬ (false = true) by decide)] at H; exact H
  clear H
  have H := H1
  clear H1
  simp only [Option.some.injEq, Prod.mk.injEq] at H
  obtain ⟨rfl, rfl⟩ := H
  go_enter Try.func48, Try.ntmps48
  go_wp2_with (first | ((with_reducible refine gate_callee (f := 40) rfl ?_); refine gm_ (some 5) Try.func40 #[.int .i64 a0] ?_; (with_reducible refine (rata_Of.calls a0 false _ A2.out).mono ?_); rintro e w' ⟨rfl, ⟨nd, rfl⟩⟩; refine ⟨_, rfl, ?_⟩))
  go_ret2
  exact ⟨by first | rfl | (simp [i64_w]; done) | (simp [errW_none, errW_some] <;> rfl) | (simp [*, errW_none, errW_some] <;> rfl), by repeat (first | (with_reducible first | exact HB.out | apply below_alloc | apply pw_below_drewN | apply below_drew1) | exact HB.out)⟩

end Go.Proofs.Ytfdcldjoncednaa.M
