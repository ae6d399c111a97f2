/- Texts of this claim, merged: QrefL, QrefDay, QrefN, QrefDate, QrefS. -/
import Derived.Test.YthppkdbelmolbaaDoorMgValueReads1
import Derived.Test.YthppkdbelmolbaaDoorMgValueReads8
import Derived.BigQuiet
import Derived.Deep.QuietTactic
import Derived.Lib.Hide
-- written by a program of this session (wip/own_print.sh)
namespace Go.Proofs.YthppkdbelmolbaaDoor.Q
open Go.RowKit Go.Proofs.YthppkdbelmolbaaDoorW.PrintWords Go.Proofs.YthppkdbelmolbaaDoorW.PrintLast Go.Proofs.YthppkdbelmolbaaDoorW.PrintMore
attribute [local go_sem] max2_int min2_int max_two min_two max_three min_three max_four min_four   -- for this text's walks alone
set_option linter.unusedVariables false
set_option linter.unusedSimpArgs false
/-! ### trystref01_years: function 73 -/
def trystref01_years.f (a0 : Int) : Option (Int × Int) := if a0 = 0 then (some (1, 9999)) else (if a0 = 1 then (some (1, 20000)) else (if a0 = 2 then (some (0, 9999)) else (if a0 = 3 then (some (1, 20000)) else (if a0 = 6 then (some ((-20000), 20000)) else (some ((-10000), 20000))))))
set_option maxHeartbeats 8000000 in
set_option maxRecDepth 100000 in
theorem trystref01_years.calls (a0 : Int) (r1 : Int) (r2 : Int) (w : World) (h : trystref01_years.f a0 = some (r1, r2)) :
    Calls Tryd.prog 73 #[.int .i64 a0] w fun e w' => e = .returned (.tuple #[.int .i64 r1, .int .i64 r2]) ∧ Drawn0 w w' := by
  have H : (if a0 = 0 then (some (1, 9999)) else (if a0 = 1 then (some (1, 20000)) else (if a0 = 2 then (some (0, 9999)) else (if a0 = 3 then (some (1, 20000)) else (if a0 = 6 then (some ((-20000), 20000)) else (some ((-10000), 20000))))))) = some (r1, r2) := h
  clear h
  by_cases c2 : a0 = 0
  · rw [if_pos c2] at H
    have c2b0 : (a0 == 0) = true := beq_iff_eq.mpr c2
    have c2b1 : (a0 != 0) = false := bne_eq_false_iff_eq.mpr c2
    clear c2
    simp only [Option.some.injEq, Prod.mk.injEq] at H
    obtain ⟨rfl, rfl⟩ := H
    go_enter Tryd.func73, Tryd.ntmps73
    go_wp2
    go_ret2
    exact ⟨by first | rfl | (simp; done) | (simp [*]; done) | (simp [bne_nil_]; done), by repeat (first | exact Drawn0.refl _ | apply Drawn0.step)⟩
  · rw [if_neg c2] at H
    have c2b0 : (a0 == 0) = false := beq_eq_false_iff_ne.mpr c2
    have c2b1 : (a0 != 0) = true := bne_iff_ne.mpr c2
    by_cases c3 : a0 = 1
    · rw [if_pos c3] at H
      have c3b0 : (a0 == 1) = true := beq_iff_eq.mpr c3
      have c3b1 : (a0 != 1) = false := bne_eq_false_iff_eq.mpr c3
      clear c3
      simp only [Option.some.injEq, Prod.mk.injEq] at H
      obtain ⟨rfl, rfl⟩ := H
      go_enter Tryd.func73, Tryd.ntmps73
      go_wp2
      go_ret2
      exact ⟨by first | rfl | (simp; done) | (simp [*]; done) | (simp [bne_nil_]; done), by repeat (first | exact Drawn0.refl _ | apply Drawn0.step)⟩
    · rw [if_neg c3] at H
      have c3b0 : (a0 == 1) = false := beq_eq_false_iff_ne.mpr c3
      have c3b1 : (a0 != 1) = true := bne_iff_ne.mpr c3
      by_cases c4 : a0 = 2
      · rw [if_pos c4] at H
        have c4b0 : (a0 == 2) = true := beq_iff_eq.mpr c4
        have c4b1 : (a0 != 2) = false := bne_eq_false_iff_eq.mpr c4
        clear c4
        simp only [Option.some.injEq, Prod.mk.injEq] at H
        obtain ⟨rfl, rfl⟩ := H
        go_enter Tryd.func73, Tryd.ntmps73
        go_wp2
        go_ret2
        exact ⟨by first | rfl | (simp; done) | (simp [*]; done) | (simp [bne_nil_]; done), by repeat (first | exact Drawn0.refl _ | apply Drawn0.step)⟩
      · rw [if_neg c4] at H
        have c4b0 : (a0 == 2) = false := beq_eq_false_iff_ne.mpr c4
        have c4b1 : (a0 != 2) = true := bne_iff_ne.mpr c4
        by_cases c5 : a0 = 3
        · rw [if_pos c5] at H
          have c5b0 : (a0 == 3) = true := beq_iff_eq.mpr c5
          have c5b1 : (a0 != 3) = false := bne_eq_false_iff_eq.mpr c5
          clear c5
          simp only [Option.some.injEq, Prod.mk.injEq] at H
          obtain ⟨rfl, rfl⟩ := H
          go_enter Tryd.func73, Tryd.ntmps73
          go_wp2
          go_ret2
          exact ⟨by first | rfl | (simp; done) | (simp [*]; done) | (simp [bne_nil_]; done), by repeat (first | exact Drawn0.refl _ | apply Drawn0.step)⟩
        · rw [if_neg c5] at H
          have c5b0 : (a0 == 3) = false := beq_eq_false_iff_ne.mpr c5
          have c5b1 : (a0 != 3) = true := bne_iff_ne.mpr c5
          by_cases c6 : a0 = 6
          · rw [if_pos c6] at H
            have c6b0 : (a0 == 6) = true := beq_iff_eq.mpr c6
            have c6b1 : (a0 != 6) = false := bne_eq_false_iff_eq.mpr c6
            clear c6
            simp only [Option.some.injEq, Prod.mk.injEq] at H
            obtain ⟨rfl, rfl⟩ := H
            go_enter Tryd.func73, Tryd.ntmps73
            go_wp2
            go_ret2
            exact ⟨by first | rfl | (simp; done) | (simp [*]; done) | (simp [bne_nil_]; done), by repeat (first | exact Drawn0.refl _ | apply Drawn0.step)⟩
          · rw [if_neg c6] at H
            have c6b0 : (a0 == 6) = false := beq_eq_false_iff_ne.mpr c6
            have c6b1 : (a0 != 6) = true := bne_iff_ne.mpr c6
            simp only [Option.some.injEq, Prod.mk.injEq] at H
            obtain ⟨rfl, rfl⟩ := H
            go_enter Tryd.func73, Tryd.ntmps73
            go_wp2
            go_ret2
            exact ⟨by first | rfl | (simp; done) | (simp [*]; done) | (simp [bne_nil_]; done), by repeat (first | exact Drawn0.refl _ | apply Drawn0.step)⟩

/-! ### trystref01_Length: function 74 -/
def trystref01_Length.j0 : Nat → Int → Int → Int → Bool → Option (Int)
  | 0, _, _, _, _ => none
  | k + 1, x0, x1, x2, x15 => if x15 = true then (some 0) else (if x0 = 2 then (some 7) else (if x0 = 3 then ((trystref01_hebrewMonth.f x1 x2).bind fun t285 => (some t285)) else ((trystref01_Months.f k x0 x1).bind fun t286 => (if x2 < t286 then ((trystref01_Fixed.f k x0 x1 (wrap64 (x2 + 1)) 1).bind fun t287 => ((trystref01_Fixed.f k x0 x1 x2 1).bind fun t288 => (some (wrap64 (t287 - t288))))) else ((trystref01_next.f x0 x1).bind fun t289 => ((trystref01_begins.f k x0 t289).bind fun t290 => ((trystref01_Fixed.f k x0 x1 x2 1).bind fun t291 => (some (wrap64 (t290 - t291))))))))))
def trystref01_Length.f (k : Nat) (a0 : Int) (a1 : Int) (a2 : Int) : Option (Int) := if a2 < 1 then (trystref01_Length.j0 k a0 a1 a2 true) else ((trystref01_Months.f k a0 a1).bind fun t284 => (trystref01_Length.j0 k a0 a1 a2 (decide (a2 > t284))))
theorem trystref01_Length.mono_l : ∀ k, (∀ y0 y1 y2 y3, LeO (trystref01_Length.j0 k y0 y1 y2 y3) (trystref01_Length.j0 (k + 1) y0 y1 y2 y3))
  | 0 => fun _ _ _ _ r h => by simp [trystref01_Length.j0] at h
  | k + 1 => by
    have ih0 := trystref01_Length.mono_l k
    · intro y0 y1 y2 y3
      unfold trystref01_Length.j0
      repeat' first
      | (with_reducible exact ih0 _ _ _ _)
      | (with_reducible exact trystref01_Fixed.mono _ _ _ _ _)
      | (with_reducible exact trystref01_Months.mono _ _ _)
      | (with_reducible exact trystref01_begins.mono _ _ _)
      | (with_reducible exact LeO.refl _)
      | (with_reducible exact LeO.none _)
      | (with_reducible refine LeO.ite ?_ ?_)
      | (with_reducible refine LeO.bind ?_ (fun _ => ?_))
      | exact ih0 _ _ _ _
      | exact trystref01_Fixed.mono _ _ _ _ _
      | exact trystref01_Months.mono _ _ _
      | exact trystref01_begins.mono _ _ _
      | exact LeO.none _
      | refine LeO.ite ?_ ?_
      | refine LeO.bind ?_ (fun _ => ?_)
theorem trystref01_Length.mono : ∀ a0 a1 a2 k, LeO (trystref01_Length.f k a0 a1 a2) (trystref01_Length.f (k + 1) a0 a1 a2) := by
  intro a0 a1 a2 k
  have ih0 := trystref01_Length.mono_l k
  unfold trystref01_Length.f
  repeat' first
      | (with_reducible exact ih0 _ _ _ _)
      | (with_reducible exact trystref01_Fixed.mono _ _ _ _ _)
      | (with_reducible exact trystref01_Months.mono _ _ _)
      | (with_reducible exact trystref01_begins.mono _ _ _)
      | (with_reducible exact LeO.refl _)
      | (with_reducible exact LeO.none _)
      | (with_reducible refine LeO.ite ?_ ?_)
      | (with_reducible refine LeO.bind ?_ (fun _ => ?_))
      | exact ih0 _ _ _ _
      | exact trystref01_Fixed.mono _ _ _ _ _
      | exact trystref01_Months.mono _ _ _
      | exact trystref01_begins.mono _ _ _
      | exact LeO.none _
      | refine LeO.ite ?_ ?_
      | refine LeO.bind ?_ (fun _ => ?_)
set_option maxHeartbeats 8000000 in
set_option maxRecDepth 100000 in
theorem trystref01_Length.calls (k : Nat) (a0 : Int) (a1 : Int) (a2 : Int) (r : Int) (w : World) (h : trystref01_Length.f k a0 a1 a2 = some r) :
    Calls Tryd.prog 74 #[.int .i64 a0, .int .i64 a1, .int .i64 a2] w fun e w' => e = .returned (.int .i64 r) ∧ Drawn0 w w' := by
  have H : (if a2 < 1 then (trystref01_Length.j0 k a0 a1 a2 true) else ((trystref01_Months.f k a0 a1).bind fun t284 => (trystref01_Length.j0 k a0 a1 a2 (decide (a2 > t284))))) = some r := h
  clear h
  have HC4 := Aside0.mk H
  clear H
  go_enter Tryd.func74, Tryd.ntmps74
  go_upto_region 1 with (fail)
  go_cut [15] (fun v15 wc => ∃ (kq : Nat) (x15_3 : Bool), v15 = .bool x15_3 ∧ Aside0 (trystref01_Length.j0 kq a0 a1 a2 x15_3 = some r) ∧ Aside0 (kq ≤ k) ∧ Drawn0 w wc)
  case first =>
    have H := HC4.out
    clear HC4
    by_cases c5 : a2 < 1
    · rw [if_pos c5] at H
      have c5b0 : decide (a2 < 1) = true := decide_eq_true c5
      clear c5
      (first | rw [c5b0] | (simp only [i64_w, i32_w]; rw [c5b0]) | skip)
      have H' := Aside0.mk H
      clear H
      go_wp2
      go_meet
      case rel => exact ⟨_, (true), (by first | rfl | (simp; done) | (simp [*]; done)), H', ⟨by first | omega | exact Nat.le_refl _⟩, by repeat (first | exact Drawn0.refl _ | apply Drawn0.step)⟩
    · rw [if_neg c5] at H
      have c5b0 : decide (a2 < 1) = false := decide_eq_false c5
      clear c5
      (first | rw [c5b0] | (simp only [i64_w, i32_w]; rw [c5b0]) | skip)
      replace H := Option.bind_eq_some_iff.mp H
      obtain ⟨t284, A60, H⟩ := H
      replace H : (trystref01_Length.j0 k a0 a1 a2 (decide (a2 > t284))) = some r := H
      have A6 := Aside0.mk A60
      clear A60
      have H' := Aside0.mk H
      clear H
      go_wp2_with (first | (go_at_call 87; (with_reducible refine (trystref01_Months.calls k a0 a1 t284 _ A6.out).mono ?_); rintro e w' ⟨rfl, ⟨nd, rfl⟩⟩))
      go_meet
      case rel => exact ⟨_, (decide (a2 > t284)), (by first | rfl | (simp; done) | (simp [*]; done)), H', ⟨by first | omega | exact Nat.le_refl _⟩, by repeat (first | exact Drawn0.refl _ | apply Drawn0.step)⟩
  case rest =>
    clear HC4
    try clear p2
    try clear c5
    try clear c5b0
    obtain ⟨kq, x15_3, rfl, HA, HJ3, ⟨mc3, rfl⟩⟩ := hcut
    cases kq with
    | zero => exact absurd HA.out (by simp [trystref01_Length.j0])
    | succ kj3 =>
      have H := HA.out
      clear HA
      simp only [trystref01_Length.j0] at H
      by_cases c7 : x15_3 = true
      · subst c7
        have H1 : (some 0) = some r := by rw [if_pos rfl] at H; exact H
        clear H
        have H := H1
        clear H1
        obtain rfl := Option.some.inj H
        go_wp2
        go_ret
        exact ⟨by first | rfl | (simp; done) | (simp [*]; done) | (simp [bne_nil_]; done), by repeat (first | exact Drawn0.refl _ | apply Drawn0.step)⟩
      · replace c7 := Bool.eq_false_iff.mpr c7
        subst c7
        have H1 : (if a0 = 2 then (some 7) else (if a0 = 3 then ((trystref01_hebrewMonth.f a1 a2).bind fun t285 => (some t285)) else ((trystref01_Months.f kj3 a0 a1).bind fun t286 => (if a2 < t286 then ((trystref01_Fixed.f kj3 a0 a1 (wrap64 (a2 + 1)) 1).bind fun t287 => ((trystref01_Fixed.f kj3 a0 a1 a2 1).bind fun t288 => (some (wrap64 (t287 - t288))))) else ((trystref01_next.f a0 a1).bind fun t289 => ((trystref01_begins.f kj3 a0 t289).bind fun t290 => ((trystref01_Fixed.f kj3 a0 a1 a2 1).bind fun t291 => (some (wrap64 (t290 - t291)))))))))) = some r := by rw [if_neg (show ¬ (false = true) by decide)] at H; exact H
        clear H
        have H := H1
        clear H1
        by_cases c8 : a0 = 2
        · rw [if_pos c8] at H
          have c8b0 : (a0 == 2) = true := beq_iff_eq.mpr c8
          have c8b1 : (a0 != 2) = false := bne_eq_false_iff_eq.mpr c8
          clear c8
          obtain rfl := Option.some.inj H
          go_wp2
          go_ret
          exact ⟨by first | rfl | (simp; done) | (simp [*]; done) | (simp [bne_nil_]; done), by repeat (first | exact Drawn0.refl _ | apply Drawn0.step)⟩
        · rw [if_neg c8] at H
          have c8b0 : (a0 == 2) = false := beq_eq_false_iff_ne.mpr c8
          have c8b1 : (a0 != 2) = true := bne_iff_ne.mpr c8
          by_cases c9 : a0 = 3
          · rw [if_pos c9] at H
            have c9b0 : (a0 == 3) = true := beq_iff_eq.mpr c9
            have c9b1 : (a0 != 3) = false := bne_eq_false_iff_eq.mpr c9
            clear c9
            replace H := Option.bind_eq_some_iff.mp H
            obtain ⟨t285, A100, H⟩ := H
            replace H : (some t285) = some r := H
            have A10 := Aside0.mk A100
            clear A100
            obtain rfl := Option.some.inj H
            go_wp2_with (first | ((with_reducible refine gate_callee (f := 96) rfl ?_); refine goesL_ (some 22) rfl rfl Tryd.func96 (by kernel_rfl) rfl #[.int .i64 a1, .int .i64 a2] rfl (by (try simp only [List.map_toArray, List.map_cons, List.map_nil]); first | done | rfl | (simp only [List.length_drop, List.length_take]; rfl)) ?_; (with_reducible refine (trystref01_hebrewMonth.calls a1 a2 t285 _ A10.out).mono ?_); rintro e w' ⟨rfl, ⟨nd, rfl⟩⟩; refine ⟨_, rfl, ?_⟩))
            go_ret
            exact ⟨by first | rfl | (simp; done) | (simp [*]; done) | (simp [bne_nil_]; done), by repeat (first | exact Drawn0.refl _ | apply Drawn0.step)⟩
          · rw [if_neg c9] at H
            have c9b0 : (a0 == 3) = false := beq_eq_false_iff_ne.mpr c9
            have c9b1 : (a0 != 3) = true := bne_iff_ne.mpr c9
            replace H := Option.bind_eq_some_iff.mp H
            obtain ⟨t286, A110, H⟩ := H
            replace H : (if a2 < t286 then ((trystref01_Fixed.f kj3 a0 a1 (wrap64 (a2 + 1)) 1).bind fun t287 => ((trystref01_Fixed.f kj3 a0 a1 a2 1).bind fun t288 => (some (wrap64 (t287 - t288))))) else ((trystref01_next.f a0 a1).bind fun t289 => ((trystref01_begins.f kj3 a0 t289).bind fun t290 => ((trystref01_Fixed.f kj3 a0 a1 a2 1).bind fun t291 => (some (wrap64 (t290 - t291))))))) = some r := H
            have A11 := Aside0.mk A110
            clear A110
            by_cases c12 : a2 < t286
            · rw [if_pos c12] at H
              have c12b0 : decide (a2 < t286) = true := decide_eq_true c12
              clear c12
              replace H := Option.bind_eq_some_iff.mp H
              obtain ⟨t287, A130, H⟩ := H
              replace H : ((trystref01_Fixed.f kj3 a0 a1 a2 1).bind fun t288 => (some (wrap64 (t287 - t288)))) = some r := H
              have A13 := Aside0.mk A130
              clear A130
              replace H := Option.bind_eq_some_iff.mp H
              obtain ⟨t288, A140, H⟩ := H
              replace H : (some (wrap64 (t287 - t288))) = some r := H
              have A14 := Aside0.mk A140
              clear A140
              obtain rfl := Option.some.inj H
              go_wp2_with (first | ((with_reducible refine gate_callee (f := 87) rfl ?_); refine goesL_ (some 26) rfl rfl Tryd.func87 (by kernel_rfl) rfl #[.int .i64 a0, .int .i64 a1] rfl (by (try simp only [List.map_toArray, List.map_cons, List.map_nil]); first | done | rfl | (simp only [List.length_drop, List.length_take]; rfl)) ?_; (with_reducible refine (trystref01_Months.calls kj3 a0 a1 t286 _ A11.out).mono ?_); rintro e w' ⟨rfl, ⟨nd, rfl⟩⟩; refine ⟨_, rfl, ?_⟩) | ((with_reducible refine gate_callee (f := 75) rfl ?_); refine goesL_ (some 32) rfl rfl Tryd.func75 (by kernel_rfl) rfl #[.int .i64 a0, .int .i64 a1, .int .i64 (wrap64 (a2 + 1)), .int .i64 1] rfl (by (try simp only [List.map_toArray, List.map_cons, List.map_nil]); first | done | rfl | (simp only [List.length_drop, List.length_take]; rfl)) ?_; (with_reducible refine (trystref01_Fixed.calls kj3 a0 a1 (wrap64 (a2 + 1)) 1 t287 _ A13.out).mono ?_); rintro e w' ⟨rfl, ⟨nd, rfl⟩⟩; refine ⟨_, rfl, ?_⟩) | ((with_reducible refine gate_callee (f := 75) rfl ?_); refine goesL_ (some 36) rfl rfl Tryd.func75 (by kernel_rfl) rfl #[.int .i64 a0, .int .i64 a1, .int .i64 a2, .int .i64 1] rfl (by (try simp only [List.map_toArray, List.map_cons, List.map_nil]); first | done | rfl | (simp only [List.length_drop, List.length_take]; rfl)) ?_; (with_reducible refine (trystref01_Fixed.calls kj3 a0 a1 a2 1 t288 _ A14.out).mono ?_); rintro e w' ⟨rfl, ⟨nd, rfl⟩⟩; refine ⟨_, rfl, ?_⟩))
              go_ret
              exact ⟨by first | rfl | (simp; done) | (simp [*]; done) | (simp [bne_nil_]; done), by repeat (first | exact Drawn0.refl _ | apply Drawn0.step)⟩
            · rw [if_neg c12] at H
              have c12b0 : decide (a2 < t286) = false := decide_eq_false c12
              clear c12
              replace H := Option.bind_eq_some_iff.mp H
              obtain ⟨t289, A150, H⟩ := H
              replace H : ((trystref01_begins.f kj3 a0 t289).bind fun t290 => ((trystref01_Fixed.f kj3 a0 a1 a2 1).bind fun t291 => (some (wrap64 (t290 - t291))))) = some r := H
              have A15 := Aside0.mk A150
              clear A150
              replace H := Option.bind_eq_some_iff.mp H
              obtain ⟨t290, A160, H⟩ := H
              replace H : ((trystref01_Fixed.f kj3 a0 a1 a2 1).bind fun t291 => (some (wrap64 (t290 - t291)))) = some r := H
              have A16 := Aside0.mk A160
              clear A160
              replace H := Option.bind_eq_some_iff.mp H
              obtain ⟨t291, A170, H⟩ := H
              replace H : (some (wrap64 (t290 - t291))) = some r := H
              have A17 := Aside0.mk A170
              clear A170
              obtain rfl := Option.some.inj H
              go_wp2_with (first | ((with_reducible refine gate_callee (f := 87) rfl ?_); refine goesL_ (some 26) rfl rfl Tryd.func87 (by kernel_rfl) rfl #[.int .i64 a0, .int .i64 a1] rfl (by (try simp only [List.map_toArray, List.map_cons, List.map_nil]); first | done | rfl | (simp only [List.length_drop, List.length_take]; rfl)) ?_; (with_reducible refine (trystref01_Months.calls kj3 a0 a1 t286 _ A11.out).mono ?_); rintro e w' ⟨rfl, ⟨nd, rfl⟩⟩; refine ⟨_, rfl, ?_⟩) | ((with_reducible refine gate_callee (f := 83) rfl ?_); refine goesL_ (some 41) rfl rfl Tryd.func83 (by kernel_rfl) rfl #[.int .i64 a0, .int .i64 a1] rfl (by (try simp only [List.map_toArray, List.map_cons, List.map_nil]); first | done | rfl | (simp only [List.length_drop, List.length_take]; rfl)) ?_; (with_reducible refine (trystref01_next.calls a0 a1 t289 _ A15.out).mono ?_); rintro e w' ⟨rfl, ⟨nd, rfl⟩⟩; refine ⟨_, rfl, ?_⟩) | ((with_reducible refine gate_callee (f := 85) rfl ?_); refine goesL_ (some 42) rfl rfl Tryd.func85 (by kernel_rfl) rfl #[.int .i64 a0, .int .i64 t289] rfl (by (try simp only [List.map_toArray, List.map_cons, List.map_nil]); first | done | rfl | (simp only [List.length_drop, List.length_take]; rfl)) ?_; (with_reducible refine (trystref01_begins.calls kj3 a0 t289 t290 _ A16.out).mono ?_); rintro e w' ⟨rfl, ⟨nd, rfl⟩⟩; refine ⟨_, rfl, ?_⟩) | ((with_reducible refine gate_callee (f := 75) rfl ?_); refine goesL_ (some 46) rfl rfl Tryd.func75 (by kernel_rfl) rfl #[.int .i64 a0, .int .i64 a1, .int .i64 a2, .int .i64 1] rfl (by (try simp only [List.map_toArray, List.map_cons, List.map_nil]); first | done | rfl | (simp only [List.length_drop, List.length_take]; rfl)) ?_; (with_reducible refine (trystref01_Fixed.calls kj3 a0 a1 a2 1 t291 _ A17.out).mono ?_); rintro e w' ⟨rfl, ⟨nd, rfl⟩⟩; refine ⟨_, rfl, ?_⟩))
              go_ret
              exact ⟨by first | rfl | (simp; done) | (simp [*]; done) | (simp [bne_nil_]; done), by repeat (first | exact Drawn0.refl _ | apply Drawn0.step)⟩

end Go.Proofs.YthppkdbelmolbaaDoor.Q
/- The reference's Day, walked: it tells a date's day, or an error, as trystref01_Day.f reckons it. -/
namespace Go.Proofs.YthppkdbelmolbaaDoor.Q
open Go.RowKit Go.Proofs.YthppkdbelmolbaaDoorW.PrintWords Go.Proofs.YthppkdbelmolbaaDoorW.PrintLast
set_option linter.unusedVariables false
set_option linter.unusedSimpArgs false
def trystref01_Day.f (k : Nat) (c y m d : Int) : Option (Int × Int) :=
  (trystref01_years.f c).bind fun t =>
    if y < t.1 ∨ t.2 < y ∨ (c = 5 ∧ y = 0) ∨ d < 1 then some (0, 2)
    else (trystref01_Length.f k c y m).bind fun n =>
      if n < d then some (0, 2)
      else (trystref01_Fixed.f k c y m d).bind fun f => (trystref01_In.f f).bind fun b => if b = true then some (f, 0) else some (0, 2)

theorem trystref01_Day.mono : ∀ a0 a1 a2 a3 k, LeO (trystref01_Day.f k a0 a1 a2 a3) (trystref01_Day.f (k + 1) a0 a1 a2 a3) := by
  intro a0 a1 a2 a3 k
  unfold trystref01_Day.f
  refine LeO.bind (LeO.refl _) (fun t => LeO.ite (LeO.refl _) (LeO.bind (trystref01_Length.mono _ _ _ _) (fun n => LeO.ite (LeO.refl _) (LeO.bind (trystref01_Fixed.mono _ _ _ _ _) (fun f => LeO.refl _)))))
theorem trystref01_Day.quiet_len (k : Nat) (c y m n : Int) (h : trystref01_Length.f k c y m = some n) (w : World) {a N : Nat} :
    Calls Tryd.prog 74 #[.int .i64 c, .int .i64 y, .int .i64 m] (w.drewN (a + N)) fun e w' => e = .returned (.int .i64 n) ∧ ∃ j, w' = w.drewN (a + j) :=
  (trystref01_Length.calls k c y m n _ h).mono fun e w' ⟨he, ⟨j, hj⟩⟩ => ⟨he, N + j, by rw [hj, World.drewN_drewN, Nat.add_assoc]⟩

set_option maxHeartbeats 4000000 in
set_option maxRecDepth 100000 in
theorem trystref01_Day.calls (k : Nat) (c y m d r1 r2 : Int) (w : World) (h : trystref01_Day.f k c y m d = some (r1, r2)) :
    Calls Tryd.prog 57 #[.int .i64 c, .agg #[.int .i64 y, .int .i64 m, .int .i64 d]] w
      fun e w' => e = .returned (.tuple #[.int .i64 r1, .int .i64 r2]) ∧ Below w.heap.size w w' := by
  unfold trystref01_Day.f at h
  obtain ⟨⟨a, b⟩, hy, h⟩ := Option.bind_eq_some_iff.mp h
  have HY := Lib.hid hy; clear hy
  simp only at h
  by_cases h1 : y < a
  · rw [if_pos (Or.inl h1)] at h
    simp only [Option.some.injEq, Prod.mk.injEq] at h
    obtain ⟨rfl, rfl⟩ := h
    have b1 : decide (y < a) = true := decide_eq_true h1
    go_enter Tryd.func57, Tryd.ntmps57
    go_wp2_with (go_at_call 73; refine (trystref01_years.calls c a b _ HY.out).mono ?_; rintro e w' ⟨rfl, ⟨nd, rfl⟩⟩)
    go_quiet (fail)
    go_wp2
    go_ret2
    exact ⟨rfl, by repeat (first | exact (Below.refl _ _).alloc (Nat.le_refl _) _ | apply pw_below_drewN)⟩
  by_cases h2 : b < y
  · rw [if_pos (Or.inr (Or.inl h2))] at h
    simp only [Option.some.injEq, Prod.mk.injEq] at h
    obtain ⟨rfl, rfl⟩ := h
    have b1 : decide (y < a) = false := decide_eq_false h1
    have b2 : decide (b < y) = true := decide_eq_true h2
    go_enter Tryd.func57, Tryd.ntmps57
    go_wp2_with (go_at_call 73; refine (trystref01_years.calls c a b _ HY.out).mono ?_; rintro e w' ⟨rfl, ⟨nd, rfl⟩⟩)
    go_quiet (fail)
    go_wp2
    go_ret2
    exact ⟨rfl, by repeat (first | exact (Below.refl _ _).alloc (Nat.le_refl _) _ | apply pw_below_drewN)⟩
  by_cases h3 : c = 5 ∧ y = 0
  · rw [if_pos (Or.inr (Or.inr (Or.inl h3)))] at h
    simp only [Option.some.injEq, Prod.mk.injEq] at h
    obtain ⟨rfl, rfl⟩ := h
    have b1 : decide (y < a) = false := decide_eq_false h1
    have b2 : decide (b < y) = false := decide_eq_false h2
    have b3 : (c == 5) = true := beq_iff_eq.2 h3.1
    have b4 : (y == 0) = true := beq_iff_eq.2 h3.2
    clear h3
    go_enter Tryd.func57, Tryd.ntmps57
    go_wp2_with (go_at_call 73; refine (trystref01_years.calls c a b _ HY.out).mono ?_; rintro e w' ⟨rfl, ⟨nd, rfl⟩⟩)
    go_quiet (fail)
    go_wp2
    go_ret2
    exact ⟨rfl, by repeat (first | exact (Below.refl _ _).alloc (Nat.le_refl _) _ | apply pw_below_drewN)⟩
  have b1 : decide (y < a) = false := decide_eq_false h1
  have b2 : decide (b < y) = false := decide_eq_false h2
  have h4 : (c == 5) = false ∨ ((c == 5) = true ∧ (y == 0) = false) := by
    by_cases e : c = 5
    · exact Or.inr ⟨beq_iff_eq.2 e, beq_eq_false_iff_ne.2 (fun z => h3 ⟨e, z⟩)⟩
    · exact Or.inl (beq_eq_false_iff_ne.2 e)
  by_cases h5 : d < 1
  · rw [if_pos (Or.inr (Or.inr (Or.inr h5)))] at h
    simp only [Option.some.injEq, Prod.mk.injEq] at h
    obtain ⟨rfl, rfl⟩ := h
    have b5 : decide (d < 1) = true := decide_eq_true h5
    clear h1 h2 h3 h5
    rcases h4 with b3 | ⟨b3, b4⟩
    all_goals
      go_enter Tryd.func57, Tryd.ntmps57
      go_wp2_with (go_at_call 73; refine (trystref01_years.calls c a b _ HY.out).mono ?_; rintro e w' ⟨rfl, ⟨nd, rfl⟩⟩)
      go_quiet (fail)
      go_wp2
      go_ret2
      exact ⟨rfl, by repeat (first | exact (Below.refl _ _).alloc (Nat.le_refl _) _ | apply pw_below_drewN)⟩
  rw [if_neg (by intro z; rcases z with z | z | z | z <;> contradiction)] at h
  obtain ⟨n, hn, h⟩ := Option.bind_eq_some_iff.mp h
  have HN := Lib.hid hn; clear hn
  have b5 : decide (d < 1) = false := decide_eq_false h5
  by_cases h6 : n < d
  · rw [if_pos h6] at h
    simp only [Option.some.injEq, Prod.mk.injEq] at h
    obtain ⟨rfl, rfl⟩ := h
    have b6 : decide (n < d) = true := decide_eq_true h6
    clear h1 h2 h3 h5 h6
    rcases h4 with b3 | ⟨b3, b4⟩
    all_goals
      go_enter Tryd.func57, Tryd.ntmps57
      go_wp2_with (go_at_call 73; refine (trystref01_years.calls c a b _ HY.out).mono ?_; rintro e w' ⟨rfl, ⟨nd, rfl⟩⟩)
      go_quiet ((go_at_call 74; exact trystref01_Day.quiet_len k c y m n HN.out _))
      go_wp2
      go_ret2
      exact ⟨rfl, by repeat (first | exact (Below.refl _ _).alloc (Nat.le_refl _) _ | apply pw_below_drewN)⟩
  rw [if_neg h6] at h
  have b6 : decide (n < d) = false := decide_eq_false h6
  obtain ⟨f, hf, h⟩ := Option.bind_eq_some_iff.mp h
  have HF := Lib.hid hf; clear hf
  obtain ⟨q, hq, h⟩ := Option.bind_eq_some_iff.mp h
  have HQ := Lib.hid hq; clear hq
  clear h1 h2 h3 h5 h6
  cases q
  all_goals
    simp only [if_true, if_false, Bool.false_eq_true, Option.some.injEq, Prod.mk.injEq] at h
    obtain ⟨rfl, rfl⟩ := h
    rcases h4 with b3 | ⟨b3, b4⟩
    all_goals
      go_enter Tryd.func57, Tryd.ntmps57
      go_wp2_with (go_at_call 73; refine (trystref01_years.calls c a b _ HY.out).mono ?_; rintro e w' ⟨rfl, ⟨nd, rfl⟩⟩)
      go_quiet ((go_at_call 74; exact trystref01_Day.quiet_len k c y m n HN.out _))
      go_wp2_with (first
        | (go_at_call 75; refine (trystref01_Fixed.calls k c y m d _ _ HF.out).mono ?_; rintro e w' ⟨rfl, ⟨nd2, rfl⟩⟩)
        | (go_at_call 76; refine (trystref01_In.calls _ _ _ HQ.out).mono ?_; rintro e w' ⟨rfl, ⟨nd3, rfl⟩⟩))
      go_ret2
      exact ⟨rfl, by repeat (first | exact (Below.refl _ _).alloc (Nat.le_refl _) _ | apply pw_below_drewN)⟩
end Go.Proofs.YthppkdbelmolbaaDoor.Q
-- written by a program of this session (wip/own_print.sh)
namespace Go.Proofs.YthppkdbelmolbaaDoor.Q
open Go.RowKit Go.Proofs.YthppkdbelmolbaaDoorW.PrintWords Go.Proofs.YthppkdbelmolbaaDoorW.PrintLast Go.Proofs.YthppkdbelmolbaaDoorW.PrintMore
attribute [local go_sem] max2_int min2_int max_two min_two max_three min_three max_four min_four   -- for this text's walks alone
set_option linter.unusedVariables false
set_option linter.unusedSimpArgs false
/-! ### trystref01_number: function 51 -/
/-! ### trystref01_Two: function 30 -/
end Go.Proofs.YthppkdbelmolbaaDoor.Q
-- written by a program of this session (wip/own_print.sh)
namespace Go.Proofs.YthppkdbelmolbaaDoor.Q
open Go.RowKit Go.Proofs.YthppkdbelmolbaaDoorW.PrintWords Go.Proofs.YthppkdbelmolbaaDoorW.PrintLast Go.Proofs.YthppkdbelmolbaaDoorW.PrintMore
attribute [local go_sem] max2_int min2_int max_two min_two max_three min_three max_four min_four   -- for this text's walks alone
set_option linter.unusedVariables false
set_option linter.unusedSimpArgs false
/-! ### trystref01_least: function 82 -/
/-! ### trystref01_hebrewDate: function 86 -/
/-! ### trystref01_Date: function 64 -/
end Go.Proofs.YthppkdbelmolbaaDoor.Q
-- written by a program of this session (wip/own_print.sh)
namespace Go.Proofs.YthppkdbelmolbaaDoor.Q
open Go.RowKit Go.Proofs.YthppkdbelmolbaaDoorW.PrintWords Go.Proofs.YthppkdbelmolbaaDoorW.PrintLast Go.Proofs.YthppkdbelmolbaaDoorW.PrintMore
attribute [local go_sem] max2_int min2_int max_two min_two max_three min_three max_four min_four   -- for this text's walks alone
set_option linter.unusedVariables false
set_option linter.unusedSimpArgs false
/-! ### trystref01_Seconds: function 43 -/
end Go.Proofs.YthppkdbelmolbaaDoor.Q
