-- written by a program of this session (wip/own_print.sh)
import Derived.Test.YtabopabcehcdaaaQ0
import Derived.Test.YtabopabcehcdaaaQiso
import Derived.Test.YtabopabcehcdaaaQrefA
import Derived.Test.YtabopabcehcdaaaQisoB
namespace Go.Proofs.Ytabopabcehcdaaa.Q
open Go.RowKit Go.Proofs.YtabopabcehcdaaaW.PrintWords Go.Proofs.YtabopabcehcdaaaW.PrintLast Go.Proofs.YtabopabcehcdaaaW.PrintMore
attribute [local go_sem] max2_int min2_int max_two min_two max_three min_three max_four min_four   -- for this text's walks alone
set_option linter.unusedVariables false
set_option linter.unusedSimpArgs false

/-! ### trystlaw03_IsoWeeks: function 19 -/
mutual
def trystlaw03_IsoWeeks.j0 : Nat → Int → Int → Int → Int → Int → Int → Int → Int → Int → Int → Bool → Option (Bool)
  | 0, _, _, _, _, _, _, _, _, _, _, _ => none
  | k + 1, x0, x1, x2, x7, x8, x9, x10, x11, x12, x13, x14 => (trystref01_In.f x0).bind fun t445 => (if t445 = true then (if x14 = true then (if x9 = 1 then (if x7 = 0 then (if x8 = 0 then (trystlaw03_IsoWeeks.j1 k x1 x2 x10 x11 x12 x13 x14) else (some false)) else (some false)) else (some false)) else ((trystref01_Week1.f k x7 x1).bind fun t446 => (if x9 = 0 then (if x0 < t446 then (some false) else ((trystref01_Week1.f k (wrap64 (x7 + 1)) x1).bind fun t447 => (if x0 ≥ t447 then (some false) else (if x8 = (wrap64 ((wrap64 (Int.tdiv (wrap64 (x0 - t446)) 7)) + 1)) then (trystlaw03_IsoWeeks.j1 k x1 x2 x10 x11 x12 x13 x14) else (some false))))) else (some false)))) else (if x9 = 2 then (if x7 = 0 then (if x8 = 0 then (trystlaw03_IsoWeeks.j1 k x1 x2 x10 x11 x12 x13 x14) else (some false)) else (some false)) else (some false)))
def trystlaw03_IsoWeeks.j1 : Nat → Int → Int → Int → Int → Int → Int → Bool → Option (Bool)
  | 0, _, _, _, _, _, _, _ => none
  | k + 1, x1, x2, x10, x11, x12, x13, x14 => if x2 < 0 then (trystlaw03_IsoWeeks.j2 k x1 x2 x10 x11 x12 x13 x14 true) else (trystlaw03_IsoWeeks.j2 k x1 x2 x10 x11 x12 x13 x14 (decide (x2 > 10000)))
def trystlaw03_IsoWeeks.j2 : Nat → Int → Int → Int → Int → Int → Int → Bool → Bool → Option (Bool)
  | 0, _, _, _, _, _, _, _, _ => none
  | k + 1, x1, x2, x10, x11, x12, x13, x14, x101 => if x101 = true then (if x11 = 2 then (if x13 = 2 then (if x10 = 0 then (some (x12 == 0)) else (some false)) else (some false)) else (some false)) else (if x14 = true then (if x11 = 1 then (if x10 = 0 then (if x12 = 0 then (if x13 = 1 then (some true) else (if x2 = 10000 then (some (x13 == 2)) else (some false))) else (some false)) else (some false)) else (some false)) else (if x11 = 0 then ((trystref01_Week1.f k x2 x1).bind fun t448 => (trystlaw03_IsoWeeks.j3 k x1 x2 x10 x12 x13 (x10 != t448))) else (trystlaw03_IsoWeeks.j3 k x1 x2 x10 x12 x13 true)))
def trystlaw03_IsoWeeks.j3 : Nat → Int → Int → Int → Int → Int → Bool → Option (Bool)
  | 0, _, _, _, _, _, _ => none
  | k + 1, x1, x2, x10, x12, x13, x147 => if x147 = true then (some false) else (if x2 = 10000 then (if x13 = 2 then (some (x12 == 0)) else (some false)) else (if x13 = 0 then ((trystref01_Week1.f k (wrap64 (x2 + 1)) x1).bind fun t449 => (if x12 = (wrap64 (Int.tdiv (wrap64 (t449 - x10)) 7)) then (if x12 = 52 then (some true) else (some (x12 == 53))) else (some false))) else (some false)))
end
def trystlaw03_IsoWeeks.f (k : Nat) (a0 : Int) (a1 : Int) (a2 : Int) : Option (Bool) := (trystlaw03_awake.f k).bind fun t437 => (if t437 = true then ((iso_Week.f k a0 a1).bind fun bt438 => ((iso_First.f k a2 a1).bind fun bt441 => ((iso_Weeks.f k a2 a1).bind fun bt443 => (if a1 < 0 then (trystlaw03_IsoWeeks.j0 k a0 a1 a2 bt438.1 bt438.2.1 bt438.2.2 bt441.1 bt441.2 bt443.1 bt443.2 true) else (trystlaw03_IsoWeeks.j0 k a0 a1 a2 bt438.1 bt438.2.1 bt438.2.2 bt441.1 bt441.2 bt443.1 bt443.2 (decide (a1 > 6))))))) else (some false))
theorem trystlaw03_IsoWeeks.mono_l : ∀ k, (∀ y0 y1 y2 y3 y4 y5 y6 y7 y8 y9 y10, LeO (trystlaw03_IsoWeeks.j0 k y0 y1 y2 y3 y4 y5 y6 y7 y8 y9 y10) (trystlaw03_IsoWeeks.j0 (k + 1) y0 y1 y2 y3 y4 y5 y6 y7 y8 y9 y10)) ∧ (∀ y0 y1 y2 y3 y4 y5 y6, LeO (trystlaw03_IsoWeeks.j1 k y0 y1 y2 y3 y4 y5 y6) (trystlaw03_IsoWeeks.j1 (k + 1) y0 y1 y2 y3 y4 y5 y6)) ∧ (∀ y0 y1 y2 y3 y4 y5 y6 y7, LeO (trystlaw03_IsoWeeks.j2 k y0 y1 y2 y3 y4 y5 y6 y7) (trystlaw03_IsoWeeks.j2 (k + 1) y0 y1 y2 y3 y4 y5 y6 y7)) ∧ (∀ y0 y1 y2 y3 y4 y5, LeO (trystlaw03_IsoWeeks.j3 k y0 y1 y2 y3 y4 y5) (trystlaw03_IsoWeeks.j3 (k + 1) y0 y1 y2 y3 y4 y5))
  | 0 => ⟨fun _ _ _ _ _ _ _ _ _ _ _ r h => by simp [trystlaw03_IsoWeeks.j0] at h, fun _ _ _ _ _ _ _ r h => by simp [trystlaw03_IsoWeeks.j1] at h, fun _ _ _ _ _ _ _ _ r h => by simp [trystlaw03_IsoWeeks.j2] at h, fun _ _ _ _ _ _ r h => by simp [trystlaw03_IsoWeeks.j3] at h⟩
  | k + 1 => by
    obtain ⟨ih0, ih1, ih2, ih3⟩ := trystlaw03_IsoWeeks.mono_l k
    refine ⟨?_, ?_, ?_, ?_⟩
    · intro y0 y1 y2 y3 y4 y5 y6 y7 y8 y9 y10
      unfold trystlaw03_IsoWeeks.j0
      repeat' first
      | (with_reducible exact ih0 _ _ _ _ _ _ _ _ _ _ _)
      | (with_reducible exact ih1 _ _ _ _ _ _ _)
      | (with_reducible exact ih2 _ _ _ _ _ _ _ _)
      | (with_reducible exact ih3 _ _ _ _ _ _)
      | (with_reducible exact iso_First.mono _ _ _)
      | (with_reducible exact iso_Week.mono _ _ _)
      | (with_reducible exact iso_Weeks.mono _ _ _)
      | (with_reducible exact trystlaw03_awake.mono _)
      | (with_reducible exact trystref01_Week1.mono _ _ _)
      | (with_reducible exact LeO.refl _)
      | (with_reducible exact LeO.none _)
      | (with_reducible refine LeO.ite ?_ ?_)
      | (with_reducible refine LeO.bind ?_ (fun _ => ?_))
      | exact ih0 _ _ _ _ _ _ _ _ _ _ _
      | exact ih1 _ _ _ _ _ _ _
      | exact ih2 _ _ _ _ _ _ _ _
      | exact ih3 _ _ _ _ _ _
      | exact iso_First.mono _ _ _
      | exact iso_Week.mono _ _ _
      | exact iso_Weeks.mono _ _ _
      | exact trystlaw03_awake.mono _
      | exact trystref01_Week1.mono _ _ _
      | exact LeO.none _
      | refine LeO.ite ?_ ?_
      | refine LeO.bind ?_ (fun _ => ?_)
    · intro y0 y1 y2 y3 y4 y5 y6
      unfold trystlaw03_IsoWeeks.j1
      repeat' first
      | (with_reducible exact ih0 _ _ _ _ _ _ _ _ _ _ _)
      | (with_reducible exact ih1 _ _ _ _ _ _ _)
      | (with_reducible exact ih2 _ _ _ _ _ _ _ _)
      | (with_reducible exact ih3 _ _ _ _ _ _)
      | (with_reducible exact iso_First.mono _ _ _)
      | (with_reducible exact iso_Week.mono _ _ _)
      | (with_reducible exact iso_Weeks.mono _ _ _)
      | (with_reducible exact trystlaw03_awake.mono _)
      | (with_reducible exact trystref01_Week1.mono _ _ _)
      | (with_reducible exact LeO.refl _)
      | (with_reducible exact LeO.none _)
      | (with_reducible refine LeO.ite ?_ ?_)
      | (with_reducible refine LeO.bind ?_ (fun _ => ?_))
      | exact ih0 _ _ _ _ _ _ _ _ _ _ _
      | exact ih1 _ _ _ _ _ _ _
      | exact ih2 _ _ _ _ _ _ _ _
      | exact ih3 _ _ _ _ _ _
      | exact iso_First.mono _ _ _
      | exact iso_Week.mono _ _ _
      | exact iso_Weeks.mono _ _ _
      | exact trystlaw03_awake.mono _
      | exact trystref01_Week1.mono _ _ _
      | exact LeO.none _
      | refine LeO.ite ?_ ?_
      | refine LeO.bind ?_ (fun _ => ?_)
    · intro y0 y1 y2 y3 y4 y5 y6 y7
      unfold trystlaw03_IsoWeeks.j2
      repeat' first
      | (with_reducible exact ih0 _ _ _ _ _ _ _ _ _ _ _)
      | (with_reducible exact ih1 _ _ _ _ _ _ _)
      | (with_reducible exact ih2 _ _ _ _ _ _ _ _)
      | (with_reducible exact ih3 _ _ _ _ _ _)
      | (with_reducible exact iso_First.mono _ _ _)
      | (with_reducible exact iso_Week.mono _ _ _)
      | (with_reducible exact iso_Weeks.mono _ _ _)
      | (with_reducible exact trystlaw03_awake.mono _)
      | (with_reducible exact trystref01_Week1.mono _ _ _)
      | (with_reducible exact LeO.refl _)
      | (with_reducible exact LeO.none _)
      | (with_reducible refine LeO.ite ?_ ?_)
      | (with_reducible refine LeO.bind ?_ (fun _ => ?_))
      | exact ih0 _ _ _ _ _ _ _ _ _ _ _
      | exact ih1 _ _ _ _ _ _ _
      | exact ih2 _ _ _ _ _ _ _ _
      | exact ih3 _ _ _ _ _ _
      | exact iso_First.mono _ _ _
      | exact iso_Week.mono _ _ _
      | exact iso_Weeks.mono _ _ _
      | exact trystlaw03_awake.mono _
      | exact trystref01_Week1.mono _ _ _
      | exact LeO.none _
      | refine LeO.ite ?_ ?_
      | refine LeO.bind ?_ (fun _ => ?_)
    · intro y0 y1 y2 y3 y4 y5
      unfold trystlaw03_IsoWeeks.j3
      repeat' first
      | (with_reducible exact ih0 _ _ _ _ _ _ _ _ _ _ _)
      | (with_reducible exact ih1 _ _ _ _ _ _ _)
      | (with_reducible exact ih2 _ _ _ _ _ _ _ _)
      | (with_reducible exact ih3 _ _ _ _ _ _)
      | (with_reducible exact iso_First.mono _ _ _)
      | (with_reducible exact iso_Week.mono _ _ _)
      | (with_reducible exact iso_Weeks.mono _ _ _)
      | (with_reducible exact trystlaw03_awake.mono _)
      | (with_reducible exact trystref01_Week1.mono _ _ _)
      | (with_reducible exact LeO.refl _)
      | (with_reducible exact LeO.none _)
      | (with_reducible refine LeO.ite ?_ ?_)
      | (with_reducible refine LeO.bind ?_ (fun _ => ?_))
      | exact ih0 _ _ _ _ _ _ _ _ _ _ _
      | exact ih1 _ _ _ _ _ _ _
      | exact ih2 _ _ _ _ _ _ _ _
      | exact ih3 _ _ _ _ _ _
      | exact iso_First.mono _ _ _
      | exact iso_Week.mono _ _ _
      | exact iso_Weeks.mono _ _ _
      | exact trystlaw03_awake.mono _
      | exact trystref01_Week1.mono _ _ _
      | exact LeO.none _
      | refine LeO.ite ?_ ?_
      | refine LeO.bind ?_ (fun _ => ?_)
theorem trystlaw03_IsoWeeks.mono : ∀ a0 a1 a2 k, LeO (trystlaw03_IsoWeeks.f k a0 a1 a2) (trystlaw03_IsoWeeks.f (k + 1) a0 a1 a2) := by
  intro a0 a1 a2 k
  obtain ⟨ih0, ih1, ih2, ih3⟩ := trystlaw03_IsoWeeks.mono_l k
  unfold trystlaw03_IsoWeeks.f
  repeat' first
      | (with_reducible exact ih0 _ _ _ _ _ _ _ _ _ _ _)
      | (with_reducible exact ih1 _ _ _ _ _ _ _)
      | (with_reducible exact ih2 _ _ _ _ _ _ _ _)
      | (with_reducible exact ih3 _ _ _ _ _ _)
      | (with_reducible exact iso_First.mono _ _ _)
      | (with_reducible exact iso_Week.mono _ _ _)
      | (with_reducible exact iso_Weeks.mono _ _ _)
      | (with_reducible exact trystlaw03_awake.mono _)
      | (with_reducible exact trystref01_Week1.mono _ _ _)
      | (with_reducible exact LeO.refl _)
      | (with_reducible exact LeO.none _)
      | (with_reducible refine LeO.ite ?_ ?_)
      | (with_reducible refine LeO.bind ?_ (fun _ => ?_))
      | exact ih0 _ _ _ _ _ _ _ _ _ _ _
      | exact ih1 _ _ _ _ _ _ _
      | exact ih2 _ _ _ _ _ _ _ _
      | exact ih3 _ _ _ _ _ _
      | exact iso_First.mono _ _ _
      | exact iso_Week.mono _ _ _
      | exact iso_Weeks.mono _ _ _
      | exact trystlaw03_awake.mono _
      | exact trystref01_Week1.mono _ _ _
      | exact LeO.none _
      | refine LeO.ite ?_ ?_
      | refine LeO.bind ?_ (fun _ => ?_)
set_option maxHeartbeats 8000000 in
set_option maxRecDepth 100000 in
theorem trystlaw03_IsoWeeks.calls (k : Nat) (a0 : Int) (a1 : Int) (a2 : Int) (r : Bool) (w : World) (h : trystlaw03_IsoWeeks.f k a0 a1 a2 = some r) :
    Calls Try.prog 19 #[.int .i64 a0, .int .i64 a1, .int .i64 a2] w fun e w' => e = .returned (.bool r) ∧ Below w.heap.size w w' := by
  have HB := Aside0.mk (Below.refl w.heap.size w)
  have H : ((trystlaw03_awake.f k).bind fun t437 => (if t437 = true then ((iso_Week.f k a0 a1).bind fun bt438 => ((iso_First.f k a2 a1).bind fun bt441 => ((iso_Weeks.f k a2 a1).bind fun bt443 => (if a1 < 0 then (trystlaw03_IsoWeeks.j0 k a0 a1 a2 bt438.1 bt438.2.1 bt438.2.2 bt441.1 bt441.2 bt443.1 bt443.2 true) else (trystlaw03_IsoWeeks.j0 k a0 a1 a2 bt438.1 bt438.2.1 bt438.2.2 bt441.1 bt441.2 bt443.1 bt443.2 (decide (a1 > 6))))))) else (some false))) = some r := h
  clear h
  replace H := Option.bind_eq_some_iff.mp H
  obtain ⟨t437, A40, H⟩ := H
  replace H : (if t437 = true then ((iso_Week.f k a0 a1).bind fun bt438 => ((iso_First.f k a2 a1).bind fun bt441 => ((iso_Weeks.f k a2 a1).bind fun bt443 => (if a1 < 0 then (trystlaw03_IsoWeeks.j0 k a0 a1 a2 bt438.1 bt438.2.1 bt438.2.2 bt441.1 bt441.2 bt443.1 bt443.2 true) else (trystlaw03_IsoWeeks.j0 k a0 a1 a2 bt438.1 bt438.2.1 bt438.2.2 bt441.1 bt441.2 bt443.1 bt443.2 (decide (a1 > 6))))))) else (some false)) = some r := H
  have A4 := Aside0.mk A40
  clear A40
  by_cases c5 : t437 = true
  · subst c5
    have H1 : ((iso_Week.f k a0 a1).bind fun bt438 => ((iso_First.f k a2 a1).bind fun bt441 => ((iso_Weeks.f k a2 a1).bind fun bt443 => (if a1 < 0 then (trystlaw03_IsoWeeks.j0 k a0 a1 a2 bt438.1 bt438.2.1 bt438.2.2 bt441.1 bt441.2 bt443.1 bt443.2 true) else (trystlaw03_IsoWeeks.j0 k a0 a1 a2 bt438.1 bt438.2.1 bt438.2.2 bt441.1 bt441.2 bt443.1 bt443.2 (decide (a1 > 6))))))) = some r := by rw [if_pos rfl] at H; exact H
    clear H
    have H := H1
    clear H1
    replace H := Option.bind_eq_some_iff.mp H
    obtain ⟨⟨t438, t439, t440⟩, A60, H⟩ := H
    replace H : ((iso_First.f k a2 a1).bind fun bt441 => ((iso_Weeks.f k a2 a1).bind fun bt443 => (if a1 < 0 then (trystlaw03_IsoWeeks.j0 k a0 a1 a2 t438 t439 t440 bt441.1 bt441.2 bt443.1 bt443.2 true) else (trystlaw03_IsoWeeks.j0 k a0 a1 a2 t438 t439 t440 bt441.1 bt441.2 bt443.1 bt443.2 (decide (a1 > 6)))))) = some r := H
    have A6 := Aside0.mk A60
    clear A60
    replace H := Option.bind_eq_some_iff.mp H
    obtain ⟨⟨t441, t442⟩, A70, H⟩ := H
    replace H : ((iso_Weeks.f k a2 a1).bind fun bt443 => (if a1 < 0 then (trystlaw03_IsoWeeks.j0 k a0 a1 a2 t438 t439 t440 t441 t442 bt443.1 bt443.2 true) else (trystlaw03_IsoWeeks.j0 k a0 a1 a2 t438 t439 t440 t441 t442 bt443.1 bt443.2 (decide (a1 > 6))))) = some r := H
    have A7 := Aside0.mk A70
    clear A70
    replace H := Option.bind_eq_some_iff.mp H
    obtain ⟨⟨t443, t444⟩, A80, H⟩ := H
    replace H : (if a1 < 0 then (trystlaw03_IsoWeeks.j0 k a0 a1 a2 t438 t439 t440 t441 t442 t443 t444 true) else (trystlaw03_IsoWeeks.j0 k a0 a1 a2 t438 t439 t440 t441 t442 t443 t444 (decide (a1 > 6)))) = some r := H
    have A8 := Aside0.mk A80
    clear A80
    have HC9 := Aside0.mk H
    clear H
    go_enter Try.func19, Try.ntmps19
    go_upto_region 6 with (first | ((with_reducible refine gate_callee (f := 21) rfl ?_); refine goesL_ (some 16) rfl rfl Try.func21 (by kernel_rfl) rfl #[] rfl (by (try simp only [List.map_toArray, List.map_cons, List.map_nil]); first | done | rfl | (simp only [List.length_drop, List.length_take]; rfl)) ?_; (with_reducible refine (trystlaw03_awake.calls k  true _ A4.out).mono ?_); rintro e w10 ⟨rfl, hb⟩; refine ⟨_, rfl, ?_⟩; have n0_ := Aside0.mk (below_step (by repeat (first | (with_reducible first | exact HB.out | apply below_alloc | apply pw_below_drewN | apply below_drew1) | exact HB.out)) hb); clear HB; have HB := n0_; clear n0_; (try clear hb); (try clear hb2); (try clear hk); (try clear hi)) | ((with_reducible refine gate_callee (f := 42) rfl ?_); refine goesL_ (some 21) rfl rfl Try.func42 (by kernel_rfl) rfl #[.int .i64 a0, .int .i64 a1] rfl (by (try simp only [List.map_toArray, List.map_cons, List.map_nil]); first | done | rfl | (simp only [List.length_drop, List.length_take]; rfl)) ?_; (with_reducible refine (iso_Week.calls k a0 a1 t438 t439 t440 _ A6.out).mono ?_); rintro e w11 ⟨rfl, hb⟩; refine ⟨_, rfl, ?_⟩; have n0_ := Aside0.mk (below_step (by repeat (first | (with_reducible first | exact HB.out | apply below_alloc | apply pw_below_drewN | apply below_drew1) | exact HB.out)) hb); clear HB; have HB := n0_; clear n0_; (try clear hb); (try clear hb2); (try clear hk); (try clear hi)) | ((with_reducible refine gate_callee (f := 43) rfl ?_); refine goesL_ (some 28) rfl rfl Try.func43 (by kernel_rfl) rfl #[.int .i64 a2, .int .i64 a1] rfl (by (try simp only [List.map_toArray, List.map_cons, List.map_nil]); first | done | rfl | (simp only [List.length_drop, List.length_take]; rfl)) ?_; (with_reducible refine (iso_First.calls k a2 a1 t441 t442 _ A7.out).mono ?_); rintro e w' ⟨rfl, ⟨nd, rfl⟩⟩; refine ⟨_, rfl, ?_⟩) | ((with_reducible refine gate_callee (f := 44) rfl ?_); refine goesL_ (some 34) rfl rfl Try.func44 (by kernel_rfl) rfl #[.int .i64 a2, .int .i64 a1] rfl (by (try simp only [List.map_toArray, List.map_cons, List.map_nil]); first | done | rfl | (simp only [List.length_drop, List.length_take]; rfl)) ?_; (with_reducible refine (iso_Weeks.calls k a2 a1 t443 t444 _ A8.out).mono ?_); rintro e w' ⟨rfl, ⟨nd, rfl⟩⟩; refine ⟨_, rfl, ?_⟩))
    (try simp only [Act.put, List.setIfInBounds_toArray, List.set_cons_zero, List.set_cons_succ])
    go_cut [14] (fun v14 wc => ∃ (kq : Nat) (x14_8 : Bool), v14 = .bool x14_8 ∧ Aside0 (trystlaw03_IsoWeeks.j0 kq a0 a1 a2 t438 t439 t440 t441 t442 t443 t444 x14_8 = some r) ∧ Aside0 (kq ≤ k) ∧ Aside0 (Below w.heap.size w wc))
    case first =>
      have H := HC9.out
      clear HC9
      by_cases c12 : a1 < 0
      · rw [if_pos c12] at H
        have c12b0 : decide (a1 < 0) = true := decide_eq_true c12
        clear c12
        (first | rw [c12b0] | (simp only [i64_w, i32_w]; rw [c12b0]) | skip)
        have H' := Aside0.mk H
        clear H
        go_wp2
        go_meet
        case rel => exact ⟨_, (true), (by first | rfl | (simp; done) | (simp [*]; done)), H', ⟨by first | omega | exact Nat.le_refl _⟩, ⟨by repeat (first | (with_reducible first | exact HB.out | apply below_alloc | apply pw_below_drewN | apply below_drew1) | exact HB.out)⟩⟩
      · rw [if_neg c12] at H
        have c12b0 : decide (a1 < 0) = false := decide_eq_false c12
        clear c12
        (first | rw [c12b0] | (simp only [i64_w, i32_w]; rw [c12b0]) | skip)
        have H' := Aside0.mk H
        clear H
        go_wp2
        go_meet
        case rel => exact ⟨_, (decide (a1 > 6)), (by first | rfl | (simp; done) | (simp [*]; done)), H', ⟨by first | omega | exact Nat.le_refl _⟩, ⟨by repeat (first | (with_reducible first | exact HB.out | apply below_alloc | apply pw_below_drewN | apply below_drew1) | exact HB.out)⟩⟩
    case rest =>
      clear HC9
      try clear c1
      try clear c2
      try clear p2
      try clear c4
      try clear c5
      try clear c12
      try clear c12b0
      obtain ⟨kq, x14_8, rfl, HA, HJ8, HB⟩ := hcut
      cases kq with
      | zero => exact absurd HA.out (by simp [trystlaw03_IsoWeeks.j0])
      | succ kj8 =>
        have H := HA.out
        clear HA
        simp only [trystlaw03_IsoWeeks.j0] at H
        have HC13 := Aside0.mk H
        clear H
        go_upto_block 0 with (fail)
        go_cut [] (fun wc => ∃ (kq : Nat), Aside0 (trystlaw03_IsoWeeks.j1 kq a1 a2 t441 t442 t443 t444 x14_8 = some r) ∧ Aside0 (kq ≤ kj8) ∧ Aside0 (Below w.heap.size w wc))
        case first =>
          have H := HC13.out
          clear HC13
          replace H := Option.bind_eq_some_iff.mp H
          obtain ⟨t445, A140, H⟩ := H
          replace H : (if t445 = true then (if x14_8 = true then (if t440 = 1 then (if t438 = 0 then (if t439 = 0 then (trystlaw03_IsoWeeks.j1 kj8 a1 a2 t441 t442 t443 t444 x14_8) else (some false)) else (some false)) else (some false)) else ((trystref01_Week1.f kj8 t438 a1).bind fun t446 => (if t440 = 0 then (if a0 < t446 then (some false) else ((trystref01_Week1.f kj8 (wrap64 (t438 + 1)) a1).bind fun t447 => (if a0 ≥ t447 then (some false) else (if t439 = (wrap64 ((wrap64 (Int.tdiv (wrap64 (a0 - t446)) 7)) + 1)) then (trystlaw03_IsoWeeks.j1 kj8 a1 a2 t441 t442 t443 t444 x14_8) else (some false))))) else (some false)))) else (if t440 = 2 then (if t438 = 0 then (if t439 = 0 then (trystlaw03_IsoWeeks.j1 kj8 a1 a2 t441 t442 t443 t444 x14_8) else (some false)) else (some false)) else (some false))) = some r := H
          have A14 := Aside0.mk A140
          clear A140
          by_cases c15 : t445 = true
          · subst c15
            have H1 : (if x14_8 = true then (if t440 = 1 then (if t438 = 0 then (if t439 = 0 then (trystlaw03_IsoWeeks.j1 kj8 a1 a2 t441 t442 t443 t444 x14_8) else (some false)) else (some false)) else (some false)) else ((trystref01_Week1.f kj8 t438 a1).bind fun t446 => (if t440 = 0 then (if a0 < t446 then (some false) else ((trystref01_Week1.f kj8 (wrap64 (t438 + 1)) a1).bind fun t447 => (if a0 ≥ t447 then (some false) else (if t439 = (wrap64 ((wrap64 (Int.tdiv (wrap64 (a0 - t446)) 7)) + 1)) then (trystlaw03_IsoWeeks.j1 kj8 a1 a2 t441 t442 t443 t444 x14_8) else (some false))))) else (some false)))) = some r := by rw [if_pos rfl] at H; exact H
            clear H
            have H := H1
            clear H1
            by_cases c16 : x14_8 = true
            · subst c16
              have H1 : (if t440 = 1 then (if t438 = 0 then (if t439 = 0 then (trystlaw03_IsoWeeks.j1 kj8 a1 a2 t441 t442 t443 t444 true) else (some false)) else (some false)) else (some false)) = some r := by rw [if_pos rfl] at H; exact H
              clear H
              have H := H1
              clear H1
              by_cases c17 : t440 = 1
              · rw [if_pos c17] at H
                have c17b0 : (t440 == 1) = true := beq_iff_eq.mpr c17
                have c17b1 : (t440 != 1) = false := bne_eq_false_iff_eq.mpr c17
                clear c17
                (first | rw [c17b0] | (simp only [i64_w, i32_w]; rw [c17b0]) | skip)
                by_cases c18 : t438 = 0
                · rw [if_pos c18] at H
                  have c18b0 : (t438 == 0) = true := beq_iff_eq.mpr c18
                  have c18b1 : (t438 != 0) = false := bne_eq_false_iff_eq.mpr c18
                  clear c18
                  by_cases c19 : t439 = 0
                  · rw [if_pos c19] at H
                    have c19b0 : (t439 == 0) = true := beq_iff_eq.mpr c19
                    have c19b1 : (t439 != 0) = false := bne_eq_false_iff_eq.mpr c19
                    clear c19
                    have H' := Aside0.mk H
                    clear H
                    go_wp2_with (first | ((with_reducible refine gate_callee (f := 32) rfl ?_); refine goesL_ (some 72) rfl rfl Try.func32 (by kernel_rfl) rfl #[.int .i64 a0] rfl (by (try simp only [List.map_toArray, List.map_cons, List.map_nil]); first | done | rfl | (simp only [List.length_drop, List.length_take]; rfl)) ?_; (with_reducible refine (trystref01_In.calls a0 true _ A14.out).mono ?_); rintro e w' ⟨rfl, ⟨nd, rfl⟩⟩; refine ⟨_, rfl, ?_⟩))
                    go_meet
                    case rel => exact ⟨_, H', ⟨by have := HJ8.out; first | omega | exact Nat.le_refl _⟩, ⟨by repeat (first | (with_reducible first | exact HB.out | apply below_alloc | apply pw_below_drewN | apply below_drew1) | exact HB.out)⟩⟩
                  · rw [if_neg c19] at H
                    have c19b0 : (t439 == 0) = false := beq_eq_false_iff_ne.mpr c19
                    have c19b1 : (t439 != 0) = true := bne_iff_ne.mpr c19
                    obtain rfl := Option.some.inj H
                    go_wp2_with (first | ((with_reducible refine gate_callee (f := 32) rfl ?_); refine goesL_ (some 72) rfl rfl Try.func32 (by kernel_rfl) rfl #[.int .i64 a0] rfl (by (try simp only [List.map_toArray, List.map_cons, List.map_nil]); first | done | rfl | (simp only [List.length_drop, List.length_take]; rfl)) ?_; (with_reducible refine (trystref01_In.calls a0 true _ A14.out).mono ?_); rintro e w' ⟨rfl, ⟨nd, rfl⟩⟩; refine ⟨_, rfl, ?_⟩))
                    go_ret
                    exact ⟨by first | rfl | (simp [errW_none, errW_some] <;> rfl) | (simp [*, errW_none, errW_some] <;> rfl), by repeat (first | (with_reducible first | exact HB.out | apply below_alloc | apply pw_below_drewN | apply below_drew1) | exact HB.out)⟩
                · rw [if_neg c18] at H
                  have c18b0 : (t438 == 0) = false := beq_eq_false_iff_ne.mpr c18
                  have c18b1 : (t438 != 0) = true := bne_iff_ne.mpr c18
                  obtain rfl := Option.some.inj H
                  go_wp2_with (first | ((with_reducible refine gate_callee (f := 32) rfl ?_); refine goesL_ (some 72) rfl rfl Try.func32 (by kernel_rfl) rfl #[.int .i64 a0] rfl (by (try simp only [List.map_toArray, List.map_cons, List.map_nil]); first | done | rfl | (simp only [List.length_drop, List.length_take]; rfl)) ?_; (with_reducible refine (trystref01_In.calls a0 true _ A14.out).mono ?_); rintro e w' ⟨rfl, ⟨nd, rfl⟩⟩; refine ⟨_, rfl, ?_⟩))
                  go_ret
                  exact ⟨by first | rfl | (simp [errW_none, errW_some] <;> rfl) | (simp [*, errW_none, errW_some] <;> rfl), by repeat (first | (with_reducible first | exact HB.out | apply below_alloc | apply pw_below_drewN | apply below_drew1) | exact HB.out)⟩
              · rw [if_neg c17] at H
                have c17b0 : (t440 == 1) = false := beq_eq_false_iff_ne.mpr c17
                have c17b1 : (t440 != 1) = true := bne_iff_ne.mpr c17
                (first | rw [c17b0] | (simp only [i64_w, i32_w]; rw [c17b0]) | skip)
                obtain rfl := Option.some.inj H
                go_wp2_with (first | ((with_reducible refine gate_callee (f := 32) rfl ?_); refine goesL_ (some 72) rfl rfl Try.func32 (by kernel_rfl) rfl #[.int .i64 a0] rfl (by (try simp only [List.map_toArray, List.map_cons, List.map_nil]); first | done | rfl | (simp only [List.length_drop, List.length_take]; rfl)) ?_; (with_reducible refine (trystref01_In.calls a0 true _ A14.out).mono ?_); rintro e w' ⟨rfl, ⟨nd, rfl⟩⟩; refine ⟨_, rfl, ?_⟩))
                go_ret
                exact ⟨by first | rfl | (simp [errW_none, errW_some] <;> rfl) | (simp [*, errW_none, errW_some] <;> rfl), by repeat (first | (with_reducible first | exact HB.out | apply below_alloc | apply pw_below_drewN | apply below_drew1) | exact HB.out)⟩
            · replace c16 := Bool.eq_false_iff.mpr c16
              subst c16
              have H1 : ((trystref01_Week1.f kj8 t438 a1).bind fun t446 => (if t440 = 0 then (if a0 < t446 then (some false) else ((trystref01_Week1.f kj8 (wrap64 (t438 + 1)) a1).bind fun t447 => (if a0 ≥ t447 then (some false) else (if t439 = (wrap64 ((wrap64 (Int.tdiv (wrap64 (a0 - t446)) 7)) + 1)) then (trystlaw03_IsoWeeks.j1 kj8 a1 a2 t441 t442 t443 t444 false) else (some false))))) else (some false))) = some r := by rw [if_neg (show ¬ (false = true) by decide)] at H; exact H
              clear H
              have H := H1
              clear H1
              replace H := Option.bind_eq_some_iff.mp H
              obtain ⟨t446, A200, H⟩ := H
              replace H : (if t440 = 0 then (if a0 < t446 then (some false) else ((trystref01_Week1.f kj8 (wrap64 (t438 + 1)) a1).bind fun t447 => (if a0 ≥ t447 then (some false) else (if t439 = (wrap64 ((wrap64 (Int.tdiv (wrap64 (a0 - t446)) 7)) + 1)) then (trystlaw03_IsoWeeks.j1 kj8 a1 a2 t441 t442 t443 t444 false) else (some false))))) else (some false)) = some r := H
              have A20 := Aside0.mk A200
              clear A200
              by_cases c21 : t440 = 0
              · rw [if_pos c21] at H
                have c21b0 : (t440 == 0) = true := beq_iff_eq.mpr c21
                have c21b1 : (t440 != 0) = false := bne_eq_false_iff_eq.mpr c21
                clear c21
                by_cases c22 : a0 < t446
                · rw [if_pos c22] at H
                  have c22b0 : decide (a0 < t446) = true := decide_eq_true c22
                  clear c22
                  obtain rfl := Option.some.inj H
                  go_wp2_with (first | ((with_reducible refine gate_callee (f := 32) rfl ?_); refine goesL_ (some 72) rfl rfl Try.func32 (by kernel_rfl) rfl #[.int .i64 a0] rfl (by (try simp only [List.map_toArray, List.map_cons, List.map_nil]); first | done | rfl | (simp only [List.length_drop, List.length_take]; rfl)) ?_; (with_reducible refine (trystref01_In.calls a0 true _ A14.out).mono ?_); rintro e w' ⟨rfl, ⟨nd, rfl⟩⟩; refine ⟨_, rfl, ?_⟩) | ((with_reducible refine gate_callee (f := 45) rfl ?_); refine goesL_ (some 45) rfl rfl Try.func45 (by kernel_rfl) rfl #[.int .i64 t438, .int .i64 a1] rfl (by (try simp only [List.map_toArray, List.map_cons, List.map_nil]); first | done | rfl | (simp only [List.length_drop, List.length_take]; rfl)) ?_; (with_reducible refine (trystref01_Week1.calls kj8 t438 a1 t446 _ A20.out).mono ?_); rintro e w' ⟨rfl, ⟨nd, rfl⟩⟩; refine ⟨_, rfl, ?_⟩))
                  go_ret
                  exact ⟨by first | rfl | (simp [errW_none, errW_some] <;> rfl) | (simp [*, errW_none, errW_some] <;> rfl), by repeat (first | (with_reducible first | exact HB.out | apply below_alloc | apply pw_below_drewN | apply below_drew1) | exact HB.out)⟩
                · rw [if_neg c22] at H
                  have c22b0 : decide (a0 < t446) = false := decide_eq_false c22
                  clear c22
                  replace H := Option.bind_eq_some_iff.mp H
                  obtain ⟨t447, A230, H⟩ := H
                  replace H : (if a0 ≥ t447 then (some false) else (if t439 = (wrap64 ((wrap64 (Int.tdiv (wrap64 (a0 - t446)) 7)) + 1)) then (trystlaw03_IsoWeeks.j1 kj8 a1 a2 t441 t442 t443 t444 false) else (some false))) = some r := H
                  have A23 := Aside0.mk A230
                  clear A230
                  by_cases c24 : a0 ≥ t447
                  · rw [if_pos c24] at H
                    have c24b0 : decide (t447 ≤ a0) = true := decide_eq_true c24
                    clear c24
                    obtain rfl := Option.some.inj H
                    go_wp2_with (first | ((with_reducible refine gate_callee (f := 32) rfl ?_); refine goesL_ (some 72) rfl rfl Try.func32 (by kernel_rfl) rfl #[.int .i64 a0] rfl (by (try simp only [List.map_toArray, List.map_cons, List.map_nil]); first | done | rfl | (simp only [List.length_drop, List.length_take]; rfl)) ?_; (with_reducible refine (trystref01_In.calls a0 true _ A14.out).mono ?_); rintro e w' ⟨rfl, ⟨nd, rfl⟩⟩; refine ⟨_, rfl, ?_⟩) | ((with_reducible refine gate_callee (f := 45) rfl ?_); refine goesL_ (some 45) rfl rfl Try.func45 (by kernel_rfl) rfl #[.int .i64 t438, .int .i64 a1] rfl (by (try simp only [List.map_toArray, List.map_cons, List.map_nil]); first | done | rfl | (simp only [List.length_drop, List.length_take]; rfl)) ?_; (with_reducible refine (trystref01_Week1.calls kj8 t438 a1 t446 _ A20.out).mono ?_); rintro e w' ⟨rfl, ⟨nd, rfl⟩⟩; refine ⟨_, rfl, ?_⟩) | (go_at_call 45; (with_reducible refine (trystref01_Week1.calls kj8 (wrap64 (t438 + 1)) a1 t447 _ A23.out).mono ?_); rintro e w' ⟨rfl, ⟨nd, rfl⟩⟩))
                    go_ret
                    exact ⟨by first | rfl | (simp [errW_none, errW_some] <;> rfl) | (simp [*, errW_none, errW_some] <;> rfl), by repeat (first | (with_reducible first | exact HB.out | apply below_alloc | apply pw_below_drewN | apply below_drew1) | exact HB.out)⟩
                  · rw [if_neg c24] at H
                    have c24b0 : decide (t447 ≤ a0) = false := decide_eq_false c24
                    clear c24
                    by_cases c25 : t439 = (wrap64 ((wrap64 (Int.tdiv (wrap64 (a0 - t446)) 7)) + 1))
                    · rw [if_pos c25] at H
                      have c25b0 : (t439 == (wrap64 ((wrap64 (Int.tdiv (wrap64 (a0 - t446)) 7)) + 1))) = true := beq_iff_eq.mpr c25
                      have c25b1 : (t439 != (wrap64 ((wrap64 (Int.tdiv (wrap64 (a0 - t446)) 7)) + 1))) = false := bne_eq_false_iff_eq.mpr c25
                      clear c25
                      have H' := Aside0.mk H
                      clear H
                      go_wp2_with (first | ((with_reducible refine gate_callee (f := 32) rfl ?_); refine goesL_ (some 72) rfl rfl Try.func32 (by kernel_rfl) rfl #[.int .i64 a0] rfl (by (try simp only [List.map_toArray, List.map_cons, List.map_nil]); first | done | rfl | (simp only [List.length_drop, List.length_take]; rfl)) ?_; (with_reducible refine (trystref01_In.calls a0 true _ A14.out).mono ?_); rintro e w' ⟨rfl, ⟨nd, rfl⟩⟩; refine ⟨_, rfl, ?_⟩) | ((with_reducible refine gate_callee (f := 45) rfl ?_); refine goesL_ (some 45) rfl rfl Try.func45 (by kernel_rfl) rfl #[.int .i64 t438, .int .i64 a1] rfl (by (try simp only [List.map_toArray, List.map_cons, List.map_nil]); first | done | rfl | (simp only [List.length_drop, List.length_take]; rfl)) ?_; (with_reducible refine (trystref01_Week1.calls kj8 t438 a1 t446 _ A20.out).mono ?_); rintro e w' ⟨rfl, ⟨nd, rfl⟩⟩; refine ⟨_, rfl, ?_⟩) | (go_at_call 45; (with_reducible refine (trystref01_Week1.calls kj8 (wrap64 (t438 + 1)) a1 t447 _ A23.out).mono ?_); rintro e w' ⟨rfl, ⟨nd, rfl⟩⟩))
                      go_meet
                      case rel => exact ⟨_, H', ⟨by have := HJ8.out; first | omega | exact Nat.le_refl _⟩, ⟨by repeat (first | (with_reducible first | exact HB.out | apply below_alloc | apply pw_below_drewN | apply below_drew1) | exact HB.out)⟩⟩
                    · rw [if_neg c25] at H
                      have c25b0 : (t439 == (wrap64 ((wrap64 (Int.tdiv (wrap64 (a0 - t446)) 7)) + 1))) = false := beq_eq_false_iff_ne.mpr c25
                      have c25b1 : (t439 != (wrap64 ((wrap64 (Int.tdiv (wrap64 (a0 - t446)) 7)) + 1))) = true := bne_iff_ne.mpr c25
                      obtain rfl := Option.some.inj H
                      go_wp2_with (first | ((with_reducible refine gate_callee (f := 32) rfl ?_); refine goesL_ (some 72) rfl rfl Try.func32 (by kernel_rfl) rfl #[.int .i64 a0] rfl (by (try simp only [List.map_toArray, List.map_cons, List.map_nil]); first | done | rfl | (simp only [List.length_drop, List.length_take]; rfl)) ?_; (with_reducible refine (trystref01_In.calls a0 true _ A14.out).mono ?_); rintro e w' ⟨rfl, ⟨nd, rfl⟩⟩; refine ⟨_, rfl, ?_⟩) | ((with_reducible refine gate_callee (f := 45) rfl ?_); refine goesL_ (some 45) rfl rfl Try.func45 (by kernel_rfl) rfl #[.int .i64 t438, .int .i64 a1] rfl (by (try simp only [List.map_toArray, List.map_cons, List.map_nil]); first | done | rfl | (simp only [List.length_drop, List.length_take]; rfl)) ?_; (with_reducible refine (trystref01_Week1.calls kj8 t438 a1 t446 _ A20.out).mono ?_); rintro e w' ⟨rfl, ⟨nd, rfl⟩⟩; refine ⟨_, rfl, ?_⟩) | (go_at_call 45; (with_reducible refine (trystref01_Week1.calls kj8 (wrap64 (t438 + 1)) a1 t447 _ A23.out).mono ?_); rintro e w' ⟨rfl, ⟨nd, rfl⟩⟩))
                      go_ret
                      exact ⟨by first | rfl | (simp [errW_none, errW_some] <;> rfl) | (simp [*, errW_none, errW_some] <;> rfl), by repeat (first | (with_reducible first | exact HB.out | apply below_alloc | apply pw_below_drewN | apply below_drew1) | exact HB.out)⟩
              · rw [if_neg c21] at H
                have c21b0 : (t440 == 0) = false := beq_eq_false_iff_ne.mpr c21
                have c21b1 : (t440 != 0) = true := bne_iff_ne.mpr c21
                obtain rfl := Option.some.inj H
                go_wp2_with (first | ((with_reducible refine gate_callee (f := 32) rfl ?_); refine goesL_ (some 72) rfl rfl Try.func32 (by kernel_rfl) rfl #[.int .i64 a0] rfl (by (try simp only [List.map_toArray, List.map_cons, List.map_nil]); first | done | rfl | (simp only [List.length_drop, List.length_take]; rfl)) ?_; (with_reducible refine (trystref01_In.calls a0 true _ A14.out).mono ?_); rintro e w' ⟨rfl, ⟨nd, rfl⟩⟩; refine ⟨_, rfl, ?_⟩) | ((with_reducible refine gate_callee (f := 45) rfl ?_); refine goesL_ (some 45) rfl rfl Try.func45 (by kernel_rfl) rfl #[.int .i64 t438, .int .i64 a1] rfl (by (try simp only [List.map_toArray, List.map_cons, List.map_nil]); first | done | rfl | (simp only [List.length_drop, List.length_take]; rfl)) ?_; (with_reducible refine (trystref01_Week1.calls kj8 t438 a1 t446 _ A20.out).mono ?_); rintro e w' ⟨rfl, ⟨nd, rfl⟩⟩; refine ⟨_, rfl, ?_⟩))
                go_ret
                exact ⟨by first | rfl | (simp [errW_none, errW_some] <;> rfl) | (simp [*, errW_none, errW_some] <;> rfl), by repeat (first | (with_reducible first | exact HB.out | apply below_alloc | apply pw_below_drewN | apply below_drew1) | exact HB.out)⟩
          · replace c15 := Bool.eq_false_iff.mpr c15
            subst c15
            have H1 : (if t440 = 2 then (if t438 = 0 then (if t439 = 0 then (trystlaw03_IsoWeeks.j1 kj8 a1 a2 t441 t442 t443 t444 x14_8) else (some false)) else (some false)) else (some false)) = some r := by rw [if_neg (show ¬ (false = true) by decide)] at H; exact H
            clear H
            have H := H1
            clear H1
            by_cases c26 : t440 = 2
            · rw [if_pos c26] at H
              have c26b0 : (t440 == 2) = true := beq_iff_eq.mpr c26
              have c26b1 : (t440 != 2) = false := bne_eq_false_iff_eq.mpr c26
              clear c26
              by_cases c27 : t438 = 0
              · rw [if_pos c27] at H
                have c27b0 : (t438 == 0) = true := beq_iff_eq.mpr c27
                have c27b1 : (t438 != 0) = false := bne_eq_false_iff_eq.mpr c27
                clear c27
                by_cases c28 : t439 = 0
                · rw [if_pos c28] at H
                  have c28b0 : (t439 == 0) = true := beq_iff_eq.mpr c28
                  have c28b1 : (t439 != 0) = false := bne_eq_false_iff_eq.mpr c28
                  clear c28
                  have H' := Aside0.mk H
                  clear H
                  go_wp2_with (first | ((with_reducible refine gate_callee (f := 32) rfl ?_); refine goesL_ (some 72) rfl rfl Try.func32 (by kernel_rfl) rfl #[.int .i64 a0] rfl (by (try simp only [List.map_toArray, List.map_cons, List.map_nil]); first | done | rfl | (simp only [List.length_drop, List.length_take]; rfl)) ?_; (with_reducible refine (trystref01_In.calls a0 false _ A14.out).mono ?_); rintro e w' ⟨rfl, ⟨nd, rfl⟩⟩; refine ⟨_, rfl, ?_⟩))
                  go_meet
                  case rel => exact ⟨_, H', ⟨by have := HJ8.out; first | omega | exact Nat.le_refl _⟩, ⟨by repeat (first | (with_reducible first | exact HB.out | apply below_alloc | apply pw_below_drewN | apply below_drew1) | exact HB.out)⟩⟩
                · rw [if_neg c28] at H
                  have c28b0 : (t439 == 0) = false := beq_eq_false_iff_ne.mpr c28
                  have c28b1 : (t439 != 0) = true := bne_iff_ne.mpr c28
                  obtain rfl := Option.some.inj H
                  go_wp2_with (first | ((with_reducible refine gate_callee (f := 32) rfl ?_); refine goesL_ (some 72) rfl rfl Try.func32 (by kernel_rfl) rfl #[.int .i64 a0] rfl (by (try simp only [List.map_toArray, List.map_cons, List.map_nil]); first | done | rfl | (simp only [List.length_drop, List.length_take]; rfl)) ?_; (with_reducible refine (trystref01_In.calls a0 false _ A14.out).mono ?_); rintro e w' ⟨rfl, ⟨nd, rfl⟩⟩; refine ⟨_, rfl, ?_⟩))
                  go_ret
                  exact ⟨by first | rfl | (simp [errW_none, errW_some] <;> rfl) | (simp [*, errW_none, errW_some] <;> rfl), by repeat (first | (with_reducible first | exact HB.out | apply below_alloc | apply pw_below_drewN | apply below_drew1) | exact HB.out)⟩
              · rw [if_neg c27] at H
                have c27b0 : (t438 == 0) = false := beq_eq_false_iff_ne.mpr c27
                have c27b1 : (t438 != 0) = true := bne_iff_ne.mpr c27
                obtain rfl := Option.some.inj H
                go_wp2_with (first | ((with_reducible refine gate_callee (f := 32) rfl ?_); refine goesL_ (some 72) rfl rfl Try.func32 (by kernel_rfl) rfl #[.int .i64 a0] rfl (by (try simp only [List.map_toArray, List.map_cons, List.map_nil]); first | done | rfl | (simp only [List.length_drop, List.length_take]; rfl)) ?_; (with_reducible refine (trystref01_In.calls a0 false _ A14.out).mono ?_); rintro e w' ⟨rfl, ⟨nd, rfl⟩⟩; refine ⟨_, rfl, ?_⟩))
                go_ret
                exact ⟨by first | rfl | (simp [errW_none, errW_some] <;> rfl) | (simp [*, errW_none, errW_some] <;> rfl), by repeat (first | (with_reducible first | exact HB.out | apply below_alloc | apply pw_below_drewN | apply below_drew1) | exact HB.out)⟩
            · rw [if_neg c26] at H
              have c26b0 : (t440 == 2) = false := beq_eq_false_iff_ne.mpr c26
              have c26b1 : (t440 != 2) = true := bne_iff_ne.mpr c26
              obtain rfl := Option.some.inj H
              go_wp2_with (first | ((with_reducible refine gate_callee (f := 32) rfl ?_); refine goesL_ (some 72) rfl rfl Try.func32 (by kernel_rfl) rfl #[.int .i64 a0] rfl (by (try simp only [List.map_toArray, List.map_cons, List.map_nil]); first | done | rfl | (simp only [List.length_drop, List.length_take]; rfl)) ?_; (with_reducible refine (trystref01_In.calls a0 false _ A14.out).mono ?_); rintro e w' ⟨rfl, ⟨nd, rfl⟩⟩; refine ⟨_, rfl, ?_⟩))
              go_ret
              exact ⟨by first | rfl | (simp [errW_none, errW_some] <;> rfl) | (simp [*, errW_none, errW_some] <;> rfl), by repeat (first | (with_reducible first | exact HB.out | apply below_alloc | apply pw_below_drewN | apply below_drew1) | exact HB.out)⟩
        case rest =>
          clear HC13
          try clear c1
          try clear c2
          try clear p2
          try clear c3
          try clear c4
          try clear c5
          try clear p6
          try clear c12
          try clear c12b0
          try clear c15
          try clear c16
          try clear c17
          try clear c17b0
          try clear c17b1
          try clear c18
          try clear c18b0
          try clear c18b1
          try clear c19
          try clear c19b0
          try clear c19b1
          try clear c21
          try clear c21b0
          try clear c21b1
          try clear c22
          try clear c22b0
          try clear c24
          try clear c24b0
          try clear c25
          try clear c25b0
          try clear c25b1
          try clear c26
          try clear c26b0
          try clear c26b1
          try clear c27
          try clear c27b0
          try clear c27b1
          try clear c28
          try clear c28b0
          try clear c28b1
          try clear p2
          obtain ⟨kq, HA, HJ12, HB⟩ := hcut
          cases kq with
          | zero => exact absurd HA.out (by simp [trystlaw03_IsoWeeks.j1])
          | succ kj12 =>
            have H := HA.out
            clear HA
            simp only [trystlaw03_IsoWeeks.j1] at H
            have HC29 := Aside0.mk H
            clear H
            go_upto_region 16 with (fail)
            go_cut [101] (fun v101 wc => ∃ (kq : Nat) (x101_28 : Bool), v101 = .bool x101_28 ∧ Aside0 (trystlaw03_IsoWeeks.j2 kq a1 a2 t441 t442 t443 t444 x14_8 x101_28 = some r) ∧ Aside0 (kq ≤ kj12) ∧ Aside0 (Below w.heap.size w wc))
            case first =>
              have H := HC29.out
              clear HC29
              by_cases c30 : a2 < 0
              · rw [if_pos c30] at H
                have c30b0 : decide (a2 < 0) = true := decide_eq_true c30
                clear c30
                (first | rw [c30b0] | (simp only [i64_w, i32_w]; rw [c30b0]) | skip)
                have H' := Aside0.mk H
                clear H
                go_wp2
                go_meet
                case rel => exact ⟨_, (true), (by first | rfl | (simp; done) | (simp [*]; done)), H', ⟨by have := HJ8.out; have := HJ12.out; first | omega | exact Nat.le_refl _⟩, ⟨by repeat (first | (with_reducible first | exact HB.out | apply below_alloc | apply pw_below_drewN | apply below_drew1) | exact HB.out)⟩⟩
              · rw [if_neg c30] at H
                have c30b0 : decide (a2 < 0) = false := decide_eq_false c30
                clear c30
                (first | rw [c30b0] | (simp only [i64_w, i32_w]; rw [c30b0]) | skip)
                have H' := Aside0.mk H
                clear H
                go_wp2
                go_meet
                case rel => exact ⟨_, (decide (a2 > 10000)), (by first | rfl | (simp; done) | (simp [*]; done)), H', ⟨by have := HJ8.out; have := HJ12.out; first | omega | exact Nat.le_refl _⟩, ⟨by repeat (first | (with_reducible first | exact HB.out | apply below_alloc | apply pw_below_drewN | apply below_drew1) | exact HB.out)⟩⟩
            case rest =>
              clear HC29
              try clear c1
              try clear c2
              try clear p2
              try clear c3
              try clear c4
              try clear c5
              try clear p6
              try clear c12
              try clear c12b0
              try clear c15
              try clear c16
              try clear c17
              try clear c17b0
              try clear c17b1
              try clear c18
              try clear c18b0
              try clear c18b1
              try clear c19
              try clear c19b0
              try clear c19b1
              try clear c21
              try clear c21b0
              try clear c21b1
              try clear c22
              try clear c22b0
              try clear c24
              try clear c24b0
              try clear c25
              try clear c25b0
              try clear c25b1
              try clear c26
              try clear c26b0
              try clear c26b1
              try clear c27
              try clear c27b0
              try clear c27b1
              try clear c28
              try clear c28b0
              try clear c28b1
              try clear c30
              try clear c30b0
              try clear p2
              try clear p6
              obtain ⟨kq, x101_28, rfl, HA, HJ28, HB⟩ := hcut
              cases kq with
              | zero => exact absurd HA.out (by simp [trystlaw03_IsoWeeks.j2])
              | succ kj28 =>
                have H := HA.out
                clear HA
                simp only [trystlaw03_IsoWeeks.j2] at H
                by_cases c31 : x101_28 = true
                · subst c31
                  have H1 : (if t442 = 2 then (if t444 = 2 then (if t441 = 0 then (some (t443 == 0)) else (some false)) else (some false)) else (some false)) = some r := by rw [if_pos rfl] at H; exact H
                  clear H
                  have H := H1
                  clear H1
                  by_cases c32 : t442 = 2
                  · rw [if_pos c32] at H
                    have c32b0 : (t442 == 2) = true := beq_iff_eq.mpr c32
                    have c32b1 : (t442 != 2) = false := bne_eq_false_iff_eq.mpr c32
                    clear c32
                    by_cases c33 : t444 = 2
                    · rw [if_pos c33] at H
                      have c33b0 : (t444 == 2) = true := beq_iff_eq.mpr c33
                      have c33b1 : (t444 != 2) = false := bne_eq_false_iff_eq.mpr c33
                      clear c33
                      by_cases c34 : t441 = 0
                      · rw [if_pos c34] at H
                        have c34b0 : (t441 == 0) = true := beq_iff_eq.mpr c34
                        have c34b1 : (t441 != 0) = false := bne_eq_false_iff_eq.mpr c34
                        clear c34
                        obtain rfl := Option.some.inj H
                        go_wp2
                        go_ret
                        exact ⟨by first | rfl | (simp [errW_none, errW_some] <;> rfl) | (simp [*, errW_none, errW_some] <;> rfl), by repeat (first | (with_reducible first | exact HB.out | apply below_alloc | apply pw_below_drewN | apply below_drew1) | exact HB.out)⟩
                      · rw [if_neg c34] at H
                        have c34b0 : (t441 == 0) = false := beq_eq_false_iff_ne.mpr c34
                        have c34b1 : (t441 != 0) = true := bne_iff_ne.mpr c34
                        obtain rfl := Option.some.inj H
                        go_wp2
                        go_ret
                        exact ⟨by first | rfl | (simp [errW_none, errW_some] <;> rfl) | (simp [*, errW_none, errW_some] <;> rfl), by repeat (first | (with_reducible first | exact HB.out | apply below_alloc | apply pw_below_drewN | apply below_drew1) | exact HB.out)⟩
                    · rw [if_neg c33] at H
                      have c33b0 : (t444 == 2) = false := beq_eq_false_iff_ne.mpr c33
                      have c33b1 : (t444 != 2) = true := bne_iff_ne.mpr c33
                      obtain rfl := Option.some.inj H
                      go_wp2
                      go_ret
                      exact ⟨by first | rfl | (simp [errW_none, errW_some] <;> rfl) | (simp [*, errW_none, errW_some] <;> rfl), by repeat (first | (with_reducible first | exact HB.out | apply below_alloc | apply pw_below_drewN | apply below_drew1) | exact HB.out)⟩
                  · rw [if_neg c32] at H
                    have c32b0 : (t442 == 2) = false := beq_eq_false_iff_ne.mpr c32
                    have c32b1 : (t442 != 2) = true := bne_iff_ne.mpr c32
                    obtain rfl := Option.some.inj H
                    go_wp2
                    go_ret
                    exact ⟨by first | rfl | (simp [errW_none, errW_some] <;> rfl) | (simp [*, errW_none, errW_some] <;> rfl), by repeat (first | (with_reducible first | exact HB.out | apply below_alloc | apply pw_below_drewN | apply below_drew1) | exact HB.out)⟩
                · replace c31 := Bool.eq_false_iff.mpr c31
                  subst c31
                  have H1 : (if x14_8 = true then (if t442 = 1 then (if t441 = 0 then (if t443 = 0 then (if t444 = 1 then (some true) else (if a2 = 10000 then (some (t444 == 2)) else (some false))) else (some false)) else (some false)) else (some false)) else (if t442 = 0 then ((trystref01_Week1.f kj28 a2 a1).bind fun t448 => (trystlaw03_IsoWeeks.j3 kj28 a1 a2 t441 t443 t444 (t441 != t448))) else (trystlaw03_IsoWeeks.j3 kj28 a1 a2 t441 t443 t444 true))) = some r := by rw [if_neg (show ¬ (false = true) by decide)] at H; exact H
                  clear H
                  have H := H1
                  clear H1
                  by_cases c35 : x14_8 = true
                  · subst c35
                    have H1 : (if t442 = 1 then (if t441 = 0 then (if t443 = 0 then (if t444 = 1 then (some true) else (if a2 = 10000 then (some (t444 == 2)) else (some false))) else (some false)) else (some false)) else (some false)) = some r := by rw [if_pos rfl] at H; exact H
                    clear H
                    have H := H1
                    clear H1
                    by_cases c36 : t442 = 1
                    · rw [if_pos c36] at H
                      have c36b0 : (t442 == 1) = true := beq_iff_eq.mpr c36
                      have c36b1 : (t442 != 1) = false := bne_eq_false_iff_eq.mpr c36
                      clear c36
                      by_cases c37 : t441 = 0
                      · rw [if_pos c37] at H
                        have c37b0 : (t441 == 0) = true := beq_iff_eq.mpr c37
                        have c37b1 : (t441 != 0) = false := bne_eq_false_iff_eq.mpr c37
                        clear c37
                        by_cases c38 : t443 = 0
                        · rw [if_pos c38] at H
                          have c38b0 : (t443 == 0) = true := beq_iff_eq.mpr c38
                          have c38b1 : (t443 != 0) = false := bne_eq_false_iff_eq.mpr c38
                          clear c38
                          by_cases c39 : t444 = 1
                          · rw [if_pos c39] at H
                            have c39b0 : (t444 == 1) = true := beq_iff_eq.mpr c39
                            have c39b1 : (t444 != 1) = false := bne_eq_false_iff_eq.mpr c39
                            clear c39
                            obtain rfl := Option.some.inj H
                            go_wp2
                            go_ret
                            exact ⟨by first | rfl | (simp [errW_none, errW_some] <;> rfl) | (simp [*, errW_none, errW_some] <;> rfl), by repeat (first | (with_reducible first | exact HB.out | apply below_alloc | apply pw_below_drewN | apply below_drew1) | exact HB.out)⟩
                          · rw [if_neg c39] at H
                            have c39b0 : (t444 == 1) = false := beq_eq_false_iff_ne.mpr c39
                            have c39b1 : (t444 != 1) = true := bne_iff_ne.mpr c39
                            by_cases c40 : a2 = 10000
                            · rw [if_pos c40] at H
                              have c40b0 : (a2 == 10000) = true := beq_iff_eq.mpr c40
                              have c40b1 : (a2 != 10000) = false := bne_eq_false_iff_eq.mpr c40
                              clear c40
                              obtain rfl := Option.some.inj H
                              go_wp2
                              go_ret
                              exact ⟨by first | rfl | (simp [errW_none, errW_some] <;> rfl) | (simp [*, errW_none, errW_some] <;> rfl), by repeat (first | (with_reducible first | exact HB.out | apply below_alloc | apply pw_below_drewN | apply below_drew1) | exact HB.out)⟩
                            · rw [if_neg c40] at H
                              have c40b0 : (a2 == 10000) = false := beq_eq_false_iff_ne.mpr c40
                              have c40b1 : (a2 != 10000) = true := bne_iff_ne.mpr c40
                              obtain rfl := Option.some.inj H
                              go_wp2
                              go_ret
                              exact ⟨by first | rfl | (simp [errW_none, errW_some] <;> rfl) | (simp [*, errW_none, errW_some] <;> rfl), by repeat (first | (with_reducible first | exact HB.out | apply below_alloc | apply pw_below_drewN | apply below_drew1) | exact HB.out)⟩
                        · rw [if_neg c38] at H
                          have c38b0 : (t443 == 0) = false := beq_eq_false_iff_ne.mpr c38
                          have c38b1 : (t443 != 0) = true := bne_iff_ne.mpr c38
                          obtain rfl := Option.some.inj H
                          go_wp2
                          go_ret
                          exact ⟨by first | rfl | (simp [errW_none, errW_some] <;> rfl) | (simp [*, errW_none, errW_some] <;> rfl), by repeat (first | (with_reducible first | exact HB.out | apply below_alloc | apply pw_below_drewN | apply below_drew1) | exact HB.out)⟩
                      · rw [if_neg c37] at H
                        have c37b0 : (t441 == 0) = false := beq_eq_false_iff_ne.mpr c37
                        have c37b1 : (t441 != 0) = true := bne_iff_ne.mpr c37
                        obtain rfl := Option.some.inj H
                        go_wp2
                        go_ret
                        exact ⟨by first | rfl | (simp [errW_none, errW_some] <;> rfl) | (simp [*, errW_none, errW_some] <;> rfl), by repeat (first | (with_reducible first | exact HB.out | apply below_alloc | apply pw_below_drewN | apply below_drew1) | exact HB.out)⟩
                    · rw [if_neg c36] at H
                      have c36b0 : (t442 == 1) = false := beq_eq_false_iff_ne.mpr c36
                      have c36b1 : (t442 != 1) = true := bne_iff_ne.mpr c36
                      obtain rfl := Option.some.inj H
                      go_wp2
                      go_ret
                      exact ⟨by first | rfl | (simp [errW_none, errW_some] <;> rfl) | (simp [*, errW_none, errW_some] <;> rfl), by repeat (first | (with_reducible first | exact HB.out | apply below_alloc | apply pw_below_drewN | apply below_drew1) | exact HB.out)⟩
                  · replace c35 := Bool.eq_false_iff.mpr c35
                    subst c35
                    have H1 : (if t442 = 0 then ((trystref01_Week1.f kj28 a2 a1).bind fun t448 => (trystlaw03_IsoWeeks.j3 kj28 a1 a2 t441 t443 t444 (t441 != t448))) else (trystlaw03_IsoWeeks.j3 kj28 a1 a2 t441 t443 t444 true)) = some r := by rw [if_neg (show ¬ (false = true) by decide)] at H; exact H
                    clear H
                    have H := H1
                    clear H1
                    have HC41 := Aside0.mk H
                    clear H
                    go_upto_region 20 with (fail)
                    go_cut [147] (fun v147 wc => ∃ (kq : Nat) (x147_40 : Bool), v147 = .bool x147_40 ∧ Aside0 (trystlaw03_IsoWeeks.j3 kq a1 a2 t441 t443 t444 x147_40 = some r) ∧ Aside0 (kq ≤ kj28) ∧ Aside0 (Below w.heap.size w wc))
                    case first =>
                      have H := HC41.out
                      clear HC41
                      by_cases c42 : t442 = 0
                      · rw [if_pos c42] at H
                        have c42b0 : (t442 == 0) = true := beq_iff_eq.mpr c42
                        have c42b1 : (t442 != 0) = false := bne_eq_false_iff_eq.mpr c42
                        clear c42
                        (first | rw [c42b0] | (simp only [i64_w, i32_w]; rw [c42b0]) | skip)
                        replace H := Option.bind_eq_some_iff.mp H
                        obtain ⟨t448, A430, H⟩ := H
                        replace H : (trystlaw03_IsoWeeks.j3 kj28 a1 a2 t441 t443 t444 (t441 != t448)) = some r := H
                        have A43 := Aside0.mk A430
                        clear A430
                        have H' := Aside0.mk H
                        clear H
                        go_wp2_with (first | (go_at_call 45; (with_reducible refine (trystref01_Week1.calls kj28 a2 a1 t448 _ A43.out).mono ?_); rintro e w' ⟨rfl, ⟨nd, rfl⟩⟩))
                        go_meet
                        case rel => exact ⟨_, ((t441 != t448)), (by first | rfl | (simp; done) | (simp [*]; done)), H', ⟨by have := HJ8.out; have := HJ12.out; have := HJ28.out; first | omega | exact Nat.le_refl _⟩, ⟨by repeat (first | (with_reducible first | exact HB.out | apply below_alloc | apply pw_below_drewN | apply below_drew1) | exact HB.out)⟩⟩
                      · rw [if_neg c42] at H
                        have c42b0 : (t442 == 0) = false := beq_eq_false_iff_ne.mpr c42
                        have c42b1 : (t442 != 0) = true := bne_iff_ne.mpr c42
                        (first | rw [c42b0] | (simp only [i64_w, i32_w]; rw [c42b0]) | skip)
                        have H' := Aside0.mk H
                        clear H
                        go_wp2
                        go_meet
                        case rel => exact ⟨_, (true), (by first | rfl | (simp; done) | (simp [*]; done)), H', ⟨by have := HJ8.out; have := HJ12.out; have := HJ28.out; first | omega | exact Nat.le_refl _⟩, ⟨by repeat (first | (with_reducible first | exact HB.out | apply below_alloc | apply pw_below_drewN | apply below_drew1) | exact HB.out)⟩⟩
                    case rest =>
                      clear HC41
                      try clear c1
                      try clear c2
                      try clear p2
                      try clear c3
                      try clear c4
                      try clear c5
                      try clear p6
                      try clear c12
                      try clear c12b0
                      try clear c15
                      try clear c16
                      try clear c17
                      try clear c17b0
                      try clear c17b1
                      try clear c18
                      try clear c18b0
                      try clear c18b1
                      try clear c19
                      try clear c19b0
                      try clear c19b1
                      try clear c21
                      try clear c21b0
                      try clear c21b1
                      try clear c22
                      try clear c22b0
                      try clear c24
                      try clear c24b0
                      try clear c25
                      try clear c25b0
                      try clear c25b1
                      try clear c26
                      try clear c26b0
                      try clear c26b1
                      try clear c27
                      try clear c27b0
                      try clear c27b1
                      try clear c28
                      try clear c28b0
                      try clear c28b1
                      try clear c30
                      try clear c30b0
                      try clear c31
                      try clear c32
                      try clear c32b0
                      try clear c32b1
                      try clear c33
                      try clear c33b0
                      try clear c33b1
                      try clear c34
                      try clear c34b0
                      try clear c34b1
                      try clear c35
                      try clear c36
                      try clear c36b0
                      try clear c36b1
                      try clear c37
                      try clear c37b0
                      try clear c37b1
                      try clear c38
                      try clear c38b0
                      try clear c38b1
                      try clear c39
                      try clear c39b0
                      try clear c39b1
                      try clear c40
                      try clear c40b0
                      try clear c40b1
                      try clear c42
                      try clear c42b0
                      try clear c42b1
                      try clear c43
                      try clear p2
                      try clear p6
                      obtain ⟨kq, x147_40, rfl, HA, HJ40, HB⟩ := hcut
                      cases kq with
                      | zero => exact absurd HA.out (by simp [trystlaw03_IsoWeeks.j3])
                      | succ kj40 =>
                        have H := HA.out
                        clear HA
                        simp only [trystlaw03_IsoWeeks.j3] at H
                        by_cases c44 : x147_40 = true
                        · subst c44
                          have H1 : (some false) = some r := by rw [if_pos rfl] at H; exact H
                          clear H
                          have H := H1
                          clear H1
                          obtain rfl := Option.some.inj H
                          go_wp2
                          go_ret
                          exact ⟨by first | rfl | (simp [errW_none, errW_some] <;> rfl) | (simp [*, errW_none, errW_some] <;> rfl), by repeat (first | (with_reducible first | exact HB.out | apply below_alloc | apply pw_below_drewN | apply below_drew1) | exact HB.out)⟩
                        · replace c44 := Bool.eq_false_iff.mpr c44
                          subst c44
                          have H1 : (if a2 = 10000 then (if t444 = 2 then (some (t443 == 0)) else (some false)) else (if t444 = 0 then ((trystref01_Week1.f kj40 (wrap64 (a2 + 1)) a1).bind fun t449 => (if t443 = (wrap64 (Int.tdiv (wrap64 (t449 - t441)) 7)) then (if t443 = 52 then (some true) else (some (t443 == 53))) else (some false))) else (some false))) = some r := by rw [if_neg (show ¬ (false = true) by decide)] at H; exact H
                          clear H
                          have H := H1
                          clear H1
                          by_cases c45 : a2 = 10000
                          · rw [if_pos c45] at H
                            have c45b0 : (a2 == 10000) = true := beq_iff_eq.mpr c45
                            have c45b1 : (a2 != 10000) = false := bne_eq_false_iff_eq.mpr c45
                            clear c45
                            by_cases c46 : t444 = 2
                            · rw [if_pos c46] at H
                              have c46b0 : (t444 == 2) = true := beq_iff_eq.mpr c46
                              have c46b1 : (t444 != 2) = false := bne_eq_false_iff_eq.mpr c46
                              clear c46
                              obtain rfl := Option.some.inj H
                              go_wp2
                              go_ret
                              exact ⟨by first | rfl | (simp [errW_none, errW_some] <;> rfl) | (simp [*, errW_none, errW_some] <;> rfl), by repeat (first | (with_reducible first | exact HB.out | apply below_alloc | apply pw_below_drewN | apply below_drew1) | exact HB.out)⟩
                            · rw [if_neg c46] at H
                              have c46b0 : (t444 == 2) = false := beq_eq_false_iff_ne.mpr c46
                              have c46b1 : (t444 != 2) = true := bne_iff_ne.mpr c46
                              obtain rfl := Option.some.inj H
                              go_wp2
                              go_ret
                              exact ⟨by first | rfl | (simp [errW_none, errW_some] <;> rfl) | (simp [*, errW_none, errW_some] <;> rfl), by repeat (first | (with_reducible first | exact HB.out | apply below_alloc | apply pw_below_drewN | apply below_drew1) | exact HB.out)⟩
                          · rw [if_neg c45] at H
                            have c45b0 : (a2 == 10000) = false := beq_eq_false_iff_ne.mpr c45
                            have c45b1 : (a2 != 10000) = true := bne_iff_ne.mpr c45
                            by_cases c47 : t444 = 0
                            · rw [if_pos c47] at H
                              have c47b0 : (t444 == 0) = true := beq_iff_eq.mpr c47
                              have c47b1 : (t444 != 0) = false := bne_eq_false_iff_eq.mpr c47
                              clear c47
                              replace H := Option.bind_eq_some_iff.mp H
                              obtain ⟨t449, A480, H⟩ := H
                              replace H : (if t443 = (wrap64 (Int.tdiv (wrap64 (t449 - t441)) 7)) then (if t443 = 52 then (some true) else (some (t443 == 53))) else (some false)) = some r := H
                              have A48 := Aside0.mk A480
                              clear A480
                              by_cases c49 : t443 = (wrap64 (Int.tdiv (wrap64 (t449 - t441)) 7))
                              · rw [if_pos c49] at H
                                have c49b0 : (t443 == (wrap64 (Int.tdiv (wrap64 (t449 - t441)) 7))) = true := beq_iff_eq.mpr c49
                                have c49b1 : (t443 != (wrap64 (Int.tdiv (wrap64 (t449 - t441)) 7))) = false := bne_eq_false_iff_eq.mpr c49
                                clear c49
                                by_cases c50 : t443 = 52
                                · rw [if_pos c50] at H
                                  have c50b0 : (t443 == 52) = true := beq_iff_eq.mpr c50
                                  have c50b1 : (t443 != 52) = false := bne_eq_false_iff_eq.mpr c50
                                  clear c50
                                  obtain rfl := Option.some.inj H
                                  go_wp2_with (first | (go_at_call 45; (with_reducible refine (trystref01_Week1.calls kj40 (wrap64 (a2 + 1)) a1 t449 _ A48.out).mono ?_); rintro e w' ⟨rfl, ⟨nd, rfl⟩⟩))
                                  go_ret
                                  exact ⟨by first | rfl | (simp [errW_none, errW_some] <;> rfl) | (simp [*, errW_none, errW_some] <;> rfl), by repeat (first | (with_reducible first | exact HB.out | apply below_alloc | apply pw_below_drewN | apply below_drew1) | exact HB.out)⟩
                                · rw [if_neg c50] at H
                                  have c50b0 : (t443 == 52) = false := beq_eq_false_iff_ne.mpr c50
                                  have c50b1 : (t443 != 52) = true := bne_iff_ne.mpr c50
                                  obtain rfl := Option.some.inj H
                                  go_wp2_with (first | (go_at_call 45; (with_reducible refine (trystref01_Week1.calls kj40 (wrap64 (a2 + 1)) a1 t449 _ A48.out).mono ?_); rintro e w' ⟨rfl, ⟨nd, rfl⟩⟩))
                                  go_ret
                                  exact ⟨by first | rfl | (simp [errW_none, errW_some] <;> rfl) | (simp [*, errW_none, errW_some] <;> rfl), by repeat (first | (with_reducible first | exact HB.out | apply below_alloc | apply pw_below_drewN | apply below_drew1) | exact HB.out)⟩
                              · rw [if_neg c49] at H
                                have c49b0 : (t443 == (wrap64 (Int.tdiv (wrap64 (t449 - t441)) 7))) = false := beq_eq_false_iff_ne.mpr c49
                                have c49b1 : (t443 != (wrap64 (Int.tdiv (wrap64 (t449 - t441)) 7))) = true := bne_iff_ne.mpr c49
                                obtain rfl := Option.some.inj H
                                go_wp2_with (first | (go_at_call 45; (with_reducible refine (trystref01_Week1.calls kj40 (wrap64 (a2 + 1)) a1 t449 _ A48.out).mono ?_); rintro e w' ⟨rfl, ⟨nd, rfl⟩⟩))
                                go_ret
                                exact ⟨by first | rfl | (simp [errW_none, errW_some] <;> rfl) | (simp [*, errW_none, errW_some] <;> rfl), by repeat (first | (with_reducible first | exact HB.out | apply below_alloc | apply pw_below_drewN | apply below_drew1) | exact HB.out)⟩
                            · rw [if_neg c47] at H
                              have c47b0 : (t444 == 0) = false := beq_eq_false_iff_ne.mpr c47
                              have c47b1 : (t444 != 0) = true := bne_iff_ne.mpr c47
                              obtain rfl := Option.some.inj H
                              go_wp2
                              go_ret
                              exact ⟨by first | rfl | (simp [errW_none, errW_some] <;> rfl) | (simp [*, errW_none, errW_some] <;> rfl), by repeat (first | (with_reducible first | exact HB.out | apply below_alloc | apply pw_below_drewN | apply below_drew1) | exact HB.out)⟩
  · replace c5 := Bool.eq_false_iff.mpr c5
    subst c5
    have H1 : (some false) = some r := by rw [if_neg (show ¬ (false = true) by decide)] at H; exact H
    clear H
    have H := H1
    clear H1
    obtain rfl := Option.some.inj H
    go_enter Try.func19, Try.ntmps19
    go_wp2_with (first | ((with_reducible refine gate_callee (f := 21) rfl ?_); refine goesL_ (some 16) rfl rfl Try.func21 (by kernel_rfl) rfl #[] rfl (by (try simp only [List.map_toArray, List.map_cons, List.map_nil]); first | done | rfl | (simp only [List.length_drop, List.length_take]; rfl)) ?_; (with_reducible refine (trystlaw03_awake.calls k  false _ A4.out).mono ?_); rintro e w51 ⟨rfl, hb⟩; refine ⟨_, rfl, ?_⟩; have n0_ := Aside0.mk (below_step (by repeat (first | (with_reducible first | exact HB.out | apply below_alloc | apply pw_below_drewN | apply below_drew1) | exact HB.out)) hb); clear HB; have HB := n0_; clear n0_; (try clear hb); (try clear hb2); (try clear hk); (try clear hi)))
    go_ret
    exact ⟨by first | rfl | (simp [errW_none, errW_some] <;> rfl) | (simp [*, errW_none, errW_some] <;> rfl), by repeat (first | (with_reducible first | exact HB.out | apply below_alloc | apply pw_below_drewN | apply below_drew1) | exact HB.out)⟩

/-- THE ONE PURE STATEMENT of trystlaw03_IsoWeeks: yours. -/
def trystlaw03_IsoWeeks.Pure : Prop := ∀ (a0 : Int) (a1 : Int) (a2 : Int), (Lit.int .i64 a0).wf = true → (Lit.int .i64 a1).wf = true → (Lit.int .i64 a2).wf = true → ∃ k, trystlaw03_IsoWeeks.f k a0 a1 a2 = some true
theorem trystlaw03_IsoWeeks.walk (P : trystlaw03_IsoWeeks.Pure) (a0 : Int) (a1 : Int) (a2 : Int) (w : World) (w0 : (Lit.int .i64 a0).wf = true) (w1 : (Lit.int .i64 a1).wf = true) (w2 : (Lit.int .i64 a2).wf = true) :
    Calls Try.prog 19 #[.int .i64 a0, .int .i64 a1, .int .i64 a2] w fun e w' => e = .returned (.bool true) ∧ Below w.heap.size w w' := by
  obtain ⟨k, h⟩ := P a0 a1 a2 w0 w1 w2
  refine (trystlaw03_IsoWeeks.calls k a0 a1 a2 true w h).mono ?_
  rintro e w' ⟨rfl, hd⟩
  exact ⟨rfl, hd⟩

end Go.Proofs.Ytabopabcehcdaaa.Q
