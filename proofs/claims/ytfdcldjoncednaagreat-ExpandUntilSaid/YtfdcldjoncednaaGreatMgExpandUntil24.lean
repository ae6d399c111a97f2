/- Texts of this claim, merged: MrefDate, FunD. -/
import Derived.Test.YtfdcldjoncednaaGreatMgExpandUntil7
import Derived.Test.YtfdcldjoncednaaGreatMgExpandUntil14
import Derived.Test.YtfdcldjoncednaaGreatMgExpandUntil23
namespace Go.Proofs.YtfdcldjoncednaaGreat.M
open Go.RowKit Go.Proofs.YtfdcldjoncednaaGreatW.PrintWords Go.Proofs.YtfdcldjoncednaaGreatW.PrintLast Go.Proofs.YtfdcldjoncednaaGreatW.PrintMore
attribute [local go_sem] max2_int min2_int max_two min_two
set_option linter.unusedVariables false
set_option linter.unusedSimpArgs false
/-! ### trystref01_least: function 97 -/
def trystref01_least.f (a0 : Int) : Option (Int) := if a0 = 1 then (some 1) else (if a0 = 2 then (some 0) else (if a0 = 3 then (some 3000) else (if a0 = 0 then (some 1) else (some (-800)))))
set_option maxHeartbeats 8000000 in
set_option maxRecDepth 100000 in
theorem trystref01_least.calls (a0 : Int) (r : Int) (w : World) (h : trystref01_least.f a0 = some r) :
  Calls Tryz.prog 97 #[.int .i64 a0] w fun e w' => e = .returned (.int .i64 r) ∧ Drawn0 w w' := by
 have H : (if a0 = 1 then (some 1) else (if a0 = 2 then (some 0) else (if a0 = 3 then (some 3000) else (if a0 = 0 then (some 1) else (some (-800)))))) = some r := h
 clear h
 by_cases c2 : a0 = 1
 ·rw [if_pos c2] at H
  have c2b0 : (a0 == 1) = true := beq_iff_eq.mpr c2
  have c2b1 : (a0 != 1) = false := bne_eq_false_iff_eq.mpr c2
  clear c2
  obtain rfl := Option.some.inj H
  go_enter Tryz.func97, Tryz.ntmps97
  go_wp2
  go_ret
  exact ⟨by first | rfl | simp | simp [*] | simp [bne_nil_], by repeat (first | exact Drawn0.refl _ | apply Drawn0.step)⟩
 ·rw [if_neg c2] at H
  have c2b0 : (a0 == 1) = false := beq_eq_false_iff_ne.mpr c2
  have c2b1 : (a0 != 1) = true := bne_iff_ne.mpr c2
  by_cases c3 : a0 = 2
  ·rw [if_pos c3] at H
   have c3b0 : (a0 == 2) = true := beq_iff_eq.mpr c3
   have c3b1 : (a0 != 2) = false := bne_eq_false_iff_eq.mpr c3
   clear c3
   obtain rfl := Option.some.inj H
   go_enter Tryz.func97, Tryz.ntmps97
   go_wp2
   go_ret
   exact ⟨by first | rfl | simp | simp [*] | simp [bne_nil_], by repeat (first | exact Drawn0.refl _ | apply Drawn0.step)⟩
  ·rw [if_neg c3] at H
   have c3b0 : (a0 == 2) = false := beq_eq_false_iff_ne.mpr c3
   have c3b1 : (a0 != 2) = true := bne_iff_ne.mpr c3
   by_cases c4 : a0 = 3
   ·rw [if_pos c4] at H
    have c4b0 : (a0 == 3) = true := beq_iff_eq.mpr c4
    have c4b1 : (a0 != 3) = false := bne_eq_false_iff_eq.mpr c4
    clear c4
    obtain rfl := Option.some.inj H
    go_enter Tryz.func97, Tryz.ntmps97
    go_wp2
    go_ret
    exact ⟨by first | rfl | simp | simp [*] | simp [bne_nil_], by repeat (first | exact Drawn0.refl _ | apply Drawn0.step)⟩
   ·rw [if_neg c4] at H
    have c4b0 : (a0 == 3) = false := beq_eq_false_iff_ne.mpr c4
    have c4b1 : (a0 != 3) = true := bne_iff_ne.mpr c4
    by_cases c5 : a0 = 0
    ·rw [if_pos c5] at H
     have c5b0 : (a0 == 0) = true := beq_iff_eq.mpr c5
     have c5b1 : (a0 != 0) = false := bne_eq_false_iff_eq.mpr c5
     clear c5
     obtain rfl := Option.some.inj H
     go_enter Tryz.func97, Tryz.ntmps97
     go_wp2
     go_ret
     exact ⟨by first | rfl | simp | simp [*] | simp [bne_nil_], by repeat (first | exact Drawn0.refl _ | apply Drawn0.step)⟩
    ·rw [if_neg c5] at H
     have c5b0 : (a0 == 0) = false := beq_eq_false_iff_ne.mpr c5
     have c5b1 : (a0 != 0) = true := bne_iff_ne.mpr c5
     obtain rfl := Option.some.inj H
     go_enter Tryz.func97, Tryz.ntmps97
     go_wp2
     go_ret
     exact ⟨by first | rfl | simp | simp [*] | simp [bne_nil_], by repeat (first | exact Drawn0.refl _ | apply Drawn0.step)⟩

/-! ### trystref01_hebrewDate: function 98 -/
def trystref01_hebrewDate.f (a0 : Int) (a1 : Int) : Option (Int × Int × Int) := none
theorem trystref01_hebrewDate.calls (a0 : Int) (a1 : Int) (r1 : Int) (r2 : Int) (r3 : Int) (w : World) (h : trystref01_hebrewDate.f a0 a1 = some (r1, r2, r3)) :
  Calls Tryz.prog 98 #[.int .i64 a0, .int .i64 a1] w fun e w' => e = .returned (.agg #[.int .i64 r1, .int .i64 r2, .int .i64 r3]) ∧ Below w.heap.size w w' := by cases h

/-! ### trystref01_Date: function 57 -/
mutual
def trystref01_Date.l0 : Nat → Int → Int → Int → Int → Option (Int × Int × Int × Int)
 | 0, _, _, _, _ => none
 | k + 1, x0, x1, x6, x7 => (trystref01_next.f x0 x6).bind fun t296 => (if t296 < x7 then ((trystref01_Floor.f (wrap64 (x6 + x7)) 2).bind fun t297 => (if x0 = 5 then (trystref01_Date.j1 k x0 x1 x6 x7 t297 (t297 == 0)) else (trystref01_Date.j1 k x0 x1 x6 x7 t297 false))) else (if x0 = 3 then ((trystref01_hebrewDate.f x6 x1).bind fun bt301 => (some (bt301.1, bt301.2.1, bt301.2.2, 0))) else (trystref01_Date.l1 k x0 x1 x6 1)))
def trystref01_Date.j1 : Nat → Int → Int → Int → Int → Int → Bool → Option (Int × Int × Int × Int)
 | 0, _, _, _, _, _, _ => none
 | k + 1, x0, x1, x6, x7, x8, x30 => if x30 = true then (if x6 = (-1) then ((trystref01_begins.f k x0 1).bind fun t298 => (if t298 ≤ x1 then (trystref01_Date.l0 k x0 x1 1 x7) else (trystref01_Date.l0 k x0 x1 x6 1))) else ((trystref01_begins.f k x0 (-1)).bind fun t299 => (if t299 ≤ x1 then (trystref01_Date.l0 k x0 x1 (-1) x7) else (trystref01_Date.l0 k x0 x1 x6 (-1))))) else ((trystref01_begins.f k x0 x8).bind fun t300 => (if t300 ≤ x1 then (trystref01_Date.l0 k x0 x1 x8 x7) else (trystref01_Date.l0 k x0 x1 x6 x8)))
def trystref01_Date.l1 : Nat → Int → Int → Int → Int → Option (Int × Int × Int × Int)
 | 0, _, _, _, _ => none
 | k + 1, x0, x1, x6, x9 => (trystref01_Months.f k x0 x6).bind fun t304 => (if x9 < t304 then ((trystref01_Fixed.f k x0 x6 (wrap64 (x9 + 1)) 1).bind fun t305 => (if t305 ≤ x1 then (trystref01_Date.l1 k x0 x1 x6 (wrap64 (x9 + 1))) else ((trystref01_Fixed.f k x0 x6 x9 1).bind fun t306 => (some (x6, x9, wrap64 ((wrap64 (x1 - t306)) + 1), 0))))) else ((trystref01_Fixed.f k x0 x6 x9 1).bind fun t307 => (some (x6, x9, wrap64 ((wrap64 (x1 - t307)) + 1), 0))))
end
def trystref01_Date.f (k : Nat) (a0 : Int) (a1 : Int) : Option (Int × Int × Int × Int) := (trystref01_In.f a1).bind fun t294 => (if t294 = true then ((trystref01_least.f a0).bind fun t295 => (trystref01_Date.l0 k a0 a1 t295 15000)) else (some (0, 0, 0, 2)))
set_option maxHeartbeats 8000000 in
set_option maxRecDepth 100000 in
theorem trystref01_Date.calls (k : Nat) (a0 : Int) (a1 : Int) (r1 : Int) (r2 : Int) (r3 : Int) (r4 : Int) (w : World) (h : trystref01_Date.f k a0 a1 = some (r1, r2, r3, r4)) :
  Calls Tryz.prog 57 #[.int .i64 a0, .int .i64 a1] w fun e w' => e = .returned (.tuple #[.agg #[.int .i64 r1, .int .i64 r2, .int .i64 r3], .int .i64 r4]) ∧ Below w.heap.size w w' := by
 have hu61 := Tryz.underlying61
 have HB := Aside0.mk (Below.refl w.heap.size w)
 have H : ((trystref01_In.f a1).bind fun t294 => (if t294 = true then ((trystref01_least.f a0).bind fun t295 => (trystref01_Date.l0 k a0 a1 t295 15000)) else (some (0, 0, 0, 2)))) = some (r1, r2, r3, r4) := h
 clear h
 replace H := Option.bind_eq_some_iff.mp H
 obtain ⟨t294, A30, H⟩ := H
 replace H : (if t294 = true then ((trystref01_least.f a0).bind fun t295 => (trystref01_Date.l0 k a0 a1 t295 15000)) else (some (0, 0, 0, 2))) = some (r1, r2, r3, r4) := H
 have A3 := Aside0.mk A30
 clear A30
 by_cases c4 : t294 = true
 ·subst c4
  have H1 : ((trystref01_least.f a0).bind fun t295 => (trystref01_Date.l0 k a0 a1 t295 15000)) = some (r1, r2, r3, r4) := by rw [if_pos rfl] at H; exact H
  clear H
  have H := H1
  clear H1
  replace H := Option.bind_eq_some_iff.mp H
  obtain ⟨t295, A50, H⟩ := H
  replace H : (trystref01_Date.l0 k a0 a1 t295 15000) = some (r1, r2, r3, r4) := H
  have A5 := Aside0.mk A50
  clear A50
  have H' := Aside0.mk H
  clear H
  go_enter Tryz.func57, Tryz.ntmps57
  go_wp2_with (first | ((with_reducible refine gate_dst (N := 4) rfl ?_); refine box_event ?hg (N := 4) ?hd (cs := #[.int .i64 0, .int .i64 0, .int .i64 0]) (t := 61) ?hr ?_; (case hd => rfl); (case hg => rfl); (case hr => first | (go_simp; done) | (go_simp; rfl)); intro gb293 hg w6 hbox hb; have n0_ := Aside0.mk (below_step (by repeat (first | (with_reducible first | exact HB.out | apply below_alloc | apply pw_below_drewN | apply below_drew1) | exact HB.out)) hb); have n1_ := Aside0.mk (hbox); have n2_ := Aside0.mk ((by rw [hg]; exact (below_size (by repeat (first | (with_reducible first | exact HB.out | apply below_alloc | apply pw_below_drewN | apply below_drew1) | exact HB.out))) : w.heap.size ≤ gb293)); have n3_ := Aside0.mk ((by rw [hg]; exact (below_size (by repeat (first | (with_reducible first | exact HB.out | apply below_alloc | apply pw_below_drewN | apply below_drew1) | exact HB.out))) : w.heap.size ≤ gb293)); clear HB; have HB := n0_; have BK293 := n1_; have GW293 := n2_; have GE293 := n3_; clear n0_ n1_ n2_ n3_; clear hb hbox hg) | ((with_reducible refine gate_callee (f := 29) rfl ?_); refine gm_ (some 11) Tryz.func29 #[.int .i64 a1] ?_; (with_reducible refine (trystref01_In.calls a1 true _ A3.out).mono ?_); rintro e w' ⟨rfl, ⟨nd, rfl⟩⟩; refine ⟨_, rfl, ?_⟩) | ((with_reducible refine gate_callee (f := 97) rfl ?_); refine gm_ (some 15) Tryz.func97 #[.int .i64 a0] ?_; (with_reducible refine (trystref01_least.calls a0 t295 _ A5.out).mono ?_); rintro e w' ⟨rfl, ⟨nd, rfl⟩⟩; refine ⟨_, rfl, ?_⟩))
  go_loopg [6, 7] k (fun kq v6 v7 w' => ∃ (x6_1 : Int) (x7_1 : Int), v6 = .int .i64 x6_1 ∧ v7 = .int .i64 x7_1 ∧ Aside0 (trystref01_Date.l0 kq a0 a1 x6_1 x7_1 = some (r1, r2, r3, r4)) ∧ Aside0 (kq ≤ k) ∧ Aside0 (w'.heap[gb293]? = some (.cells #[.int .i64 0, .int .i64 0, .int .i64 0] 61 (0, 0))) ∧ Aside0 (Below w.heap.size w w'))
  case atStart => exact ⟨(t295), (15000), (by first | rfl | (simp; done) | (simp [*]; done)), (by first | rfl | (simp; done) | (simp [*]; done)), H', ⟨Nat.le_refl _⟩, ⟨by (with_reducible repeat (first | refine blk_drewN ?_ _ | refine blk_drew ?_ | refine blk_alloc ?_ _)); exact BK293.out⟩, ⟨by repeat (first | (with_reducible first | exact HB.out | apply below_alloc | apply pw_below_drewN | apply below_drew1 | refine below_set ?_ GE293.out) | exact HB.out)⟩⟩
  case round =>
   clear H'
   try clear c2
   try clear p2
   try clear c4
   try clear c5
   obtain ⟨x6_1, x7_1, rfl, rfl, HA, HK1, BK293, HB⟩ := hrel
   cases gk with
   | zero => exact absurd HA.out (by simp [trystref01_Date.l0])
   | succ k1 =>
    have H := HA.out
    clear HA
    simp only [trystref01_Date.l0] at H
    replace H := Option.bind_eq_some_iff.mp H
    obtain ⟨t296, A70, H⟩ := H
    replace H : (if t296 < x7_1 then ((trystref01_Floor.f (wrap64 (x6_1 + x7_1)) 2).bind fun t297 => (if a0 = 5 then (trystref01_Date.j1 k1 a0 a1 x6_1 x7_1 t297 (t297 == 0)) else (trystref01_Date.j1 k1 a0 a1 x6_1 x7_1 t297 false))) else (if a0 = 3 then ((trystref01_hebrewDate.f x6_1 a1).bind fun bt301 => (some (bt301.1, bt301.2.1, bt301.2.2, 0))) else (trystref01_Date.l1 k1 a0 a1 x6_1 1))) = some (r1, r2, r3, r4) := H
    have A7 := Aside0.mk A70
    clear A70
    by_cases c8 : t296 < x7_1
    ·rw [if_pos c8] at H
     have c8b0 : decide (t296 < x7_1) = true := decide_eq_true c8
     clear c8
     replace H := Option.bind_eq_some_iff.mp H
     obtain ⟨t297, A90, H⟩ := H
     replace H : (if a0 = 5 then (trystref01_Date.j1 k1 a0 a1 x6_1 x7_1 t297 (t297 == 0)) else (trystref01_Date.j1 k1 a0 a1 x6_1 x7_1 t297 false)) = some (r1, r2, r3, r4) := H
     have A9 := Aside0.mk A90
     clear A90
     have HC10 := Aside0.mk H
     clear H
     go_upto_region 6 with (first | ((with_reducible refine gate_callee (f := 69) rfl ?_); refine gm_ (some 18) Tryz.func69 #[.int .i64 a0, .int .i64 x6_1] ?_; (with_reducible refine (trystref01_next.calls a0 x6_1 t296 _ A7.out).mono ?_); rintro e w' ⟨rfl, ⟨nd, rfl⟩⟩; refine ⟨_, rfl, ?_⟩) | ((with_reducible refine gate_callee (f := 32) rfl ?_); refine gm_ (some 24) Tryz.func32 #[.int .i64 (wrap64 (x6_1 + x7_1)), .int .i64 2] ?_; (with_reducible refine (trystref01_Floor.calls (wrap64 (x6_1 + x7_1)) 2 t297 _ A9.out).mono ?_); rintro e w' ⟨rfl, ⟨nd, rfl⟩⟩; refine ⟨_, rfl, ?_⟩))
     (try simp only [Act.put, List.setIfInBounds_toArray, List.set_cons_zero, List.set_cons_succ])
     go_cut [30] (fun v30 wc => ∃ (kq : Nat) (x30_9 : Bool), v30 = .bool x30_9 ∧ Aside0 (trystref01_Date.j1 kq a0 a1 x6_1 x7_1 t297 x30_9 = some (r1, r2, r3, r4)) ∧ Aside0 (kq ≤ k1) ∧ Aside0 (wc.heap[gb293]? = some (.cells #[.int .i64 0, .int .i64 0, .int .i64 0] 61 (0, 0))) ∧ Aside0 (Below w.heap.size w wc))
     case first =>
      have H := HC10.out
      clear HC10
      by_cases c11 : a0 = 5
      ·rw [if_pos c11] at H
       have c11b0 : (a0 == 5) = true := beq_iff_eq.mpr c11
       have c11b1 : (a0 != 5) = false := bne_eq_false_iff_eq.mpr c11
       clear c11
       (first | rw [c11b0] | (simp only [i64_w, i32_w]; rw [c11b0]) | skip)
       have H' := Aside0.mk H
       clear H
       go_wp2
       go_meet
       case rel => exact ⟨_, ((t297 == 0)), (by first | rfl | (simp; done) | (simp [*]; done)), H', ⟨by have := HK1.out; first | omega | exact Nat.le_refl _⟩, ⟨by (with_reducible repeat (first | refine blk_drewN ?_ _ | refine blk_drew ?_ | refine blk_alloc ?_ _)); exact BK293.out⟩, ⟨by repeat (first | (with_reducible first | exact HB.out | apply below_alloc | apply pw_below_drewN | apply below_drew1 | refine below_set ?_ GE293.out) | exact HB.out)⟩⟩
      ·rw [if_neg c11] at H
       have c11b0 : (a0 == 5) = false := beq_eq_false_iff_ne.mpr c11
       have c11b1 : (a0 != 5) = true := bne_iff_ne.mpr c11
       (first | rw [c11b0] | (simp only [i64_w, i32_w]; rw [c11b0]) | skip)
       have H' := Aside0.mk H
       clear H
       go_wp2
       go_meet
       case rel => exact ⟨_, (false), (by first | rfl | (simp; done) | (simp [*]; done)), H', ⟨by have := HK1.out; first | omega | exact Nat.le_refl _⟩, ⟨by (with_reducible repeat (first | refine blk_drewN ?_ _ | refine blk_drew ?_ | refine blk_alloc ?_ _)); exact BK293.out⟩, ⟨by repeat (first | (with_reducible first | exact HB.out | apply below_alloc | apply pw_below_drewN | apply below_drew1 | refine below_set ?_ GE293.out) | exact HB.out)⟩⟩
     case rest =>
      clear HC10
      try clear c1
      try clear c2
      try clear p2
      try clear c3
      try clear c4
      try clear c5
      try clear c6
      try clear p6
      try clear c8
      try clear c8b0
      try clear c9
      try clear c11
      try clear c11b0
      try clear c11b1
      try clear p2
      obtain ⟨kq, x30_9, rfl, HA, HJ9, BK293, HB⟩ := hcut
      cases kq with
      | zero => exact absurd HA.out (by simp [trystref01_Date.j1])
      | succ kj9 =>
       have H := HA.out
       clear HA
       simp only [trystref01_Date.j1] at H
       by_cases c12 : x30_9 = true
       ·subst c12
        have H1 : (if x6_1 = (-1) then ((trystref01_begins.f kj9 a0 1).bind fun t298 => (if t298 ≤ a1 then (trystref01_Date.l0 kj9 a0 a1 1 x7_1) else (trystref01_Date.l0 kj9 a0 a1 x6_1 1))) else ((trystref01_begins.f kj9 a0 (-1)).bind fun t299 => (if t299 ≤ a1 then (trystref01_Date.l0 kj9 a0 a1 (-1) x7_1) else (trystref01_Date.l0 kj9 a0 a1 x6_1 (-1))))) = some (r1, r2, r3, r4) := by rw [if_pos rfl] at H; exact H
        clear H
        have H := H1
        clear H1
        by_cases c13 : x6_1 = (-1)
        ·rw [if_pos c13] at H
         have c13b0 : (x6_1 == (-1)) = true := beq_iff_eq.mpr c13
         have c13b1 : (x6_1 != (-1)) = false := bne_eq_false_iff_eq.mpr c13
         clear c13
         replace H := Option.bind_eq_some_iff.mp H
         obtain ⟨t298, A140, H⟩ := H
         replace H : (if t298 ≤ a1 then (trystref01_Date.l0 kj9 a0 a1 1 x7_1) else (trystref01_Date.l0 kj9 a0 a1 x6_1 1)) = some (r1, r2, r3, r4) := H
         have A14 := Aside0.mk A140
         clear A140
         by_cases c15 : t298 ≤ a1
         ·rw [if_pos c15] at H
          have c15b0 : decide (t298 ≤ a1) = true := decide_eq_true c15
          clear c15
          have H' := Aside0.mk H
          clear H
          go_wp2_with (first | ((with_reducible refine gate_callee (f := 68) rfl ?_); refine gm_ (some 35) Tryz.func68 #[.int .i64 a0, .int .i64 1] ?_; (with_reducible refine (trystref01_begins.calls kj9 a0 1 t298 _ A14.out).mono ?_); rintro e w' ⟨rfl, ⟨nd, rfl⟩⟩; refine ⟨_, rfl, ?_⟩))
          go_roundg kj9
          case measure => have := HK1.out; have := HJ9.out; omega
          case rel => exact ⟨(1), (x7_1), (by first | rfl | (simp; done) | (simp [*]; done)), (by first | rfl | (simp; done) | (simp [*]; done)), H', ⟨by have := HK1.out; have := HJ9.out; omega⟩, ⟨by (with_reducible repeat (first | refine blk_drewN ?_ _ | refine blk_drew ?_ | refine blk_alloc ?_ _)); exact BK293.out⟩, ⟨by repeat (first | (with_reducible first | exact HB.out | apply below_alloc | apply pw_below_drewN | apply below_drew1 | refine below_set ?_ GE293.out) | exact HB.out)⟩⟩
         ·rw [if_neg c15] at H
          have c15b0 : decide (t298 ≤ a1) = false := decide_eq_false c15
          clear c15
          have H' := Aside0.mk H
          clear H
          go_wp2_with (first | ((with_reducible refine gate_callee (f := 68) rfl ?_); refine gm_ (some 35) Tryz.func68 #[.int .i64 a0, .int .i64 1] ?_; (with_reducible refine (trystref01_begins.calls kj9 a0 1 t298 _ A14.out).mono ?_); rintro e w' ⟨rfl, ⟨nd, rfl⟩⟩; refine ⟨_, rfl, ?_⟩))
          go_roundg kj9
          case measure => have := HK1.out; have := HJ9.out; omega
          case rel => exact ⟨(x6_1), (1), (by first | rfl | (simp; done) | (simp [*]; done)), (by first | rfl | (simp; done) | (simp [*]; done)), H', ⟨by have := HK1.out; have := HJ9.out; omega⟩, ⟨by (with_reducible repeat (first | refine blk_drewN ?_ _ | refine blk_drew ?_ | refine blk_alloc ?_ _)); exact BK293.out⟩, ⟨by repeat (first | (with_reducible first | exact HB.out | apply below_alloc | apply pw_below_drewN | apply below_drew1 | refine below_set ?_ GE293.out) | exact HB.out)⟩⟩
        ·rw [if_neg c13] at H
         have c13b0 : (x6_1 == (-1)) = false := beq_eq_false_iff_ne.mpr c13
         have c13b1 : (x6_1 != (-1)) = true := bne_iff_ne.mpr c13
         replace H := Option.bind_eq_some_iff.mp H
         obtain ⟨t299, A160, H⟩ := H
         replace H : (if t299 ≤ a1 then (trystref01_Date.l0 kj9 a0 a1 (-1) x7_1) else (trystref01_Date.l0 kj9 a0 a1 x6_1 (-1))) = some (r1, r2, r3, r4) := H
         have A16 := Aside0.mk A160
         clear A160
         by_cases c17 : t299 ≤ a1
         ·rw [if_pos c17] at H
          have c17b0 : decide (t299 ≤ a1) = true := decide_eq_true c17
          clear c17
          have H' := Aside0.mk H
          clear H
          go_wp2_with (first | ((with_reducible refine gate_callee (f := 68) rfl ?_); refine gm_ (some 35) Tryz.func68 #[.int .i64 a0, .int .i64 (-1)] ?_; (with_reducible refine (trystref01_begins.calls kj9 a0 (-1) t299 _ A16.out).mono ?_); rintro e w' ⟨rfl, ⟨nd, rfl⟩⟩; refine ⟨_, rfl, ?_⟩))
          go_roundg kj9
          case measure => have := HK1.out; have := HJ9.out; omega
          case rel => exact ⟨((-1)), (x7_1), (by first | rfl | (simp; done) | (simp [*]; done)), (by first | rfl | (simp; done) | (simp [*]; done)), H', ⟨by have := HK1.out; have := HJ9.out; omega⟩, ⟨by (with_reducible repeat (first | refine blk_drewN ?_ _ | refine blk_drew ?_ | refine blk_alloc ?_ _)); exact BK293.out⟩, ⟨by repeat (first | (with_reducible first | exact HB.out | apply below_alloc | apply pw_below_drewN | apply below_drew1 | refine below_set ?_ GE293.out) | exact HB.out)⟩⟩
         ·rw [if_neg c17] at H
          have c17b0 : decide (t299 ≤ a1) = false := decide_eq_false c17
          clear c17
          have H' := Aside0.mk H
          clear H
          go_wp2_with (first | ((with_reducible refine gate_callee (f := 68) rfl ?_); refine gm_ (some 35) Tryz.func68 #[.int .i64 a0, .int .i64 (-1)] ?_; (with_reducible refine (trystref01_begins.calls kj9 a0 (-1) t299 _ A16.out).mono ?_); rintro e w' ⟨rfl, ⟨nd, rfl⟩⟩; refine ⟨_, rfl, ?_⟩))
          go_roundg kj9
          case measure => have := HK1.out; have := HJ9.out; omega
          case rel => exact ⟨(x6_1), ((-1)), (by first | rfl | (simp; done) | (simp [*]; done)), (by first | rfl | (simp; done) | (simp [*]; done)), H', ⟨by have := HK1.out; have := HJ9.out; omega⟩, ⟨by (with_reducible repeat (first | refine blk_drewN ?_ _ | refine blk_drew ?_ | refine blk_alloc ?_ _)); exact BK293.out⟩, ⟨by repeat (first | (with_reducible first | exact HB.out | apply below_alloc | apply pw_below_drewN | apply below_drew1 | refine below_set ?_ GE293.out) | exact HB.out)⟩⟩
       ·replace c12 := Bool.eq_false_iff.mpr c12
        subst c12
        have H1 : ((trystref01_begins.f kj9 a0 t297).bind fun t300 => (if t300 ≤ a1 then (trystref01_Date.l0 kj9 a0 a1 t297 x7_1) else (trystref01_Date.l0 kj9 a0 a1 x6_1 t297))) = some (r1, r2, r3, r4) := by rw [if_neg (show ¬ (false = true) by decide)] at H; exact H
        clear H
        have H := H1
        clear H1
        replace H := Option.bind_eq_some_iff.mp H
        obtain ⟨t300, A180, H⟩ := H
        replace H : (if t300 ≤ a1 then (trystref01_Date.l0 kj9 a0 a1 t297 x7_1) else (trystref01_Date.l0 kj9 a0 a1 x6_1 t297)) = some (r1, r2, r3, r4) := H
        have A18 := Aside0.mk A180
        clear A180
        by_cases c19 : t300 ≤ a1
        ·rw [if_pos c19] at H
         have c19b0 : decide (t300 ≤ a1) = true := decide_eq_true c19
         clear c19
         have H' := Aside0.mk H
         clear H
         go_wp2_with (first | ((with_reducible refine gate_callee (f := 68) rfl ?_); refine gm_ (some 35) Tryz.func68 #[.int .i64 a0, .int .i64 t297] ?_; (with_reducible refine (trystref01_begins.calls kj9 a0 t297 t300 _ A18.out).mono ?_); rintro e w' ⟨rfl, ⟨nd, rfl⟩⟩; refine ⟨_, rfl, ?_⟩))
         go_roundg kj9
         case measure => have := HK1.out; have := HJ9.out; omega
         case rel => exact ⟨(t297), (x7_1), (by first | rfl | (simp; done) | (simp [*]; done)), (by first | rfl | (simp; done) | (simp [*]; done)), H', ⟨by have := HK1.out; have := HJ9.out; omega⟩, ⟨by (with_reducible repeat (first | refine blk_drewN ?_ _ | refine blk_drew ?_ | refine blk_alloc ?_ _)); exact BK293.out⟩, ⟨by repeat (first | (with_reducible first | exact HB.out | apply below_alloc | apply pw_below_drewN | apply below_drew1 | refine below_set ?_ GE293.out) | exact HB.out)⟩⟩
        ·rw [if_neg c19] at H
         have c19b0 : decide (t300 ≤ a1) = false := decide_eq_false c19
         clear c19
         have H' := Aside0.mk H
         clear H
         go_wp2_with (first | ((with_reducible refine gate_callee (f := 68) rfl ?_); refine gm_ (some 35) Tryz.func68 #[.int .i64 a0, .int .i64 t297] ?_; (with_reducible refine (trystref01_begins.calls kj9 a0 t297 t300 _ A18.out).mono ?_); rintro e w' ⟨rfl, ⟨nd, rfl⟩⟩; refine ⟨_, rfl, ?_⟩))
         go_roundg kj9
         case measure => have := HK1.out; have := HJ9.out; omega
         case rel => exact ⟨(x6_1), (t297), (by first | rfl | (simp; done) | (simp [*]; done)), (by first | rfl | (simp; done) | (simp [*]; done)), H', ⟨by have := HK1.out; have := HJ9.out; omega⟩, ⟨by (with_reducible repeat (first | refine blk_drewN ?_ _ | refine blk_drew ?_ | refine blk_alloc ?_ _)); exact BK293.out⟩, ⟨by repeat (first | (with_reducible first | exact HB.out | apply below_alloc | apply pw_below_drewN | apply below_drew1 | refine below_set ?_ GE293.out) | exact HB.out)⟩⟩
    ·rw [if_neg c8] at H
     have c8b0 : decide (t296 < x7_1) = false := decide_eq_false c8
     clear c8
     by_cases c20 : a0 = 3
     ·rw [if_pos c20] at H
      have c20b0 : (a0 == 3) = true := beq_iff_eq.mpr c20
      have c20b1 : (a0 != 3) = false := bne_eq_false_iff_eq.mpr c20
      clear c20
      replace H := Option.bind_eq_some_iff.mp H
      obtain ⟨⟨t301, t302, t303⟩, A210, H⟩ := H
      replace H : (some (t301, t302, t303, 0)) = some (r1, r2, r3, r4) := H
      have A21 := Aside0.mk A210
      clear A210
      simp only [Option.some.injEq, Prod.mk.injEq] at H
      obtain ⟨rfl, rfl, rfl, rfl⟩ := H
      go_wp2_with (first | ((with_reducible refine gate_callee (f := 69) rfl ?_); refine gm_ (some 18) Tryz.func69 #[.int .i64 a0, .int .i64 x6_1] ?_; (with_reducible refine (trystref01_next.calls a0 x6_1 t296 _ A7.out).mono ?_); rintro e w' ⟨rfl, ⟨nd, rfl⟩⟩; refine ⟨_, rfl, ?_⟩; (try (rw [drewN_self wr]; generalize hq_ : World.drewN wr _ = wr; have n0_ : Aside0 (wr.heap[gb293]? = some (.cells #[.int .i64 0, .int .i64 0, .int .i64 0] 61 (0, 0))) := ⟨by rw [← hq_]; exact (by (with_reducible repeat (first | refine blk_drewN ?_ _ | refine blk_drew ?_ | refine blk_alloc ?_ _)); exact BK293.out)⟩; have n1_ : Aside0 (Below w.heap.size w wr) := ⟨by rw [← hq_]; exact (by repeat (first | (with_reducible first | exact HB.out | apply below_alloc | apply pw_below_drewN | apply below_drew1 | refine below_set ?_ GE293.out) | exact HB.out))⟩; clear BK293 HB hq_; have BK293 := n0_; have HB := n1_; clear n0_ n1_)); (try (have hcz22_0 : wr.cell? ⟨gb293, 0, none⟩ = some (.int .i64 0) := (blk_cell BK293.out 0).trans rfl; have hcz22_1 : wr.cell? ⟨gb293, 1, none⟩ = some (.int .i64 0) := (blk_cell BK293.out 1).trans rfl; have hcz22_2 : wr.cell? ⟨gb293, 2, none⟩ = some (.int .i64 0) := (blk_cell BK293.out 2).trans rfl; have hfz22_0 := blk_frozen BK293.out 0; have hfz22_1 := blk_frozen BK293.out 1; have hfz22_2 := blk_frozen BK293.out 2))) | ((with_reducible refine gate_callee (f := 98) rfl ?_); refine gm_ (some 44) Tryz.func98 #[.int .i64 x6_1, .int .i64 a1] ?_; (with_reducible refine (trystref01_hebrewDate.calls x6_1 a1 t301 t302 t303 _ A21.out).mono ?_); rintro e w23 ⟨rfl, hb⟩; refine ⟨_, rfl, ?_⟩; have n0_ := Aside0.mk (blk_below (g := gb293) (o := .cells #[.int .i64 0, .int .i64 0, .int .i64 0] 61 (0, 0)) (by (with_reducible repeat (first | refine blk_drewN ?_ _ | refine blk_drew ?_ | refine blk_alloc ?_ _)); exact BK293.out) hb); have n1_ := Aside0.mk (below_step (by repeat (first | (with_reducible first | exact HB.out | apply below_alloc | apply pw_below_drewN | apply below_drew1 | refine below_set ?_ GE293.out) | exact HB.out)) hb); clear BK293; clear HB; have BK293 := n0_; have HB := n1_; clear n0_ n1_; (try clear hb); (try clear hb2); (try clear hk); (try clear hi); have hcz24_0 : w23.cell? ⟨gb293, 0, none⟩ = some (.int .i64 0) := (blk_cell BK293.out 0).trans rfl; have hcz24_1 : w23.cell? ⟨gb293, 1, none⟩ = some (.int .i64 0) := (blk_cell BK293.out 1).trans rfl; have hcz24_2 : w23.cell? ⟨gb293, 2, none⟩ = some (.int .i64 0) := (blk_cell BK293.out 2).trans rfl; have hfz24_0 := blk_frozen BK293.out 0; have hfz24_1 := blk_frozen BK293.out 1; have hfz24_2 := blk_frozen BK293.out 2))
      refine bodyPost_ret (results_ct rfl _ _ gb293 61 #[.int .i64 t301, .int .i64 t302, .int .i64 t303] (0, 0) _ rfl (by (with_reducible repeat (first | refine blk_drewN ?_ _ | refine blk_drew ?_ | refine blk_alloc ?_ _)); refine blk_put (cs := #[.int .i64 t301, .int .i64 t302, .int .i64 0]) ?_ 2 _ rfl; (with_reducible repeat (first | refine blk_drewN ?_ _ | refine blk_drew ?_ | refine blk_alloc ?_ _)); refine blk_put (cs := #[.int .i64 t301, .int .i64 0, .int .i64 0]) ?_ 1 _ rfl; (with_reducible repeat (first | refine blk_drewN ?_ _ | refine blk_drew ?_ | refine blk_alloc ?_ _)); refine blk_put (cs := #[.int .i64 0, .int .i64 0, .int .i64 0]) ?_ 0 _ rfl; (with_reducible repeat (first | refine blk_drewN ?_ _ | refine blk_drew ?_ | refine blk_alloc ?_ _)); exact BK293.out) Tryz.underlying61 rfl (by kernel_rfl)) rfl ?_
      exact ⟨by first | rfl | (simp [i64_w]; done) | (simp [errW_none, errW_some] <;> rfl) | (simp [*, errW_none, errW_some] <;> rfl), by repeat (first | (with_reducible first | exact HB.out | apply below_alloc | apply pw_below_drewN | apply below_drew1 | refine below_set ?_ GE293.out) | exact HB.out)⟩
     ·rw [if_neg c20] at H
      have c20b0 : (a0 == 3) = false := beq_eq_false_iff_ne.mpr c20
      have c20b1 : (a0 != 3) = true := bne_iff_ne.mpr c20
      have H' := Aside0.mk H
      clear H
      go_wp2_with (first | ((with_reducible refine gate_callee (f := 69) rfl ?_); refine gm_ (some 18) Tryz.func69 #[.int .i64 a0, .int .i64 x6_1] ?_; (with_reducible refine (trystref01_next.calls a0 x6_1 t296 _ A7.out).mono ?_); rintro e w' ⟨rfl, ⟨nd, rfl⟩⟩; refine ⟨_, rfl, ?_⟩))
      go_loopg [9] k1 (fun kq v9 w' => ∃ (x9_2 : Int), v9 = .int .i64 x9_2 ∧ Aside0 (trystref01_Date.l1 kq a0 a1 x6_1 x9_2 = some (r1, r2, r3, r4)) ∧ Aside0 (kq ≤ k1) ∧ Aside0 (w'.heap[gb293]? = some (.cells #[.int .i64 0, .int .i64 0, .int .i64 0] 61 (0, 0))) ∧ Aside0 (Below w.heap.size w w'))
      case atStart => exact ⟨(1), (by first | rfl | (simp; done) | (simp [*]; done)), H', ⟨Nat.le_refl _⟩, ⟨by (with_reducible repeat (first | refine blk_drewN ?_ _ | refine blk_drew ?_ | refine blk_alloc ?_ _)); exact BK293.out⟩, ⟨by repeat (first | (with_reducible first | exact HB.out | apply below_alloc | apply pw_below_drewN | apply below_drew1 | refine below_set ?_ GE293.out) | exact HB.out)⟩⟩
      case round =>
       clear H'
       try clear c1
       try clear c2
       try clear p2
       try clear c3
       try clear c4
       try clear c5
       try clear c6
       try clear p6
       try clear c8
       try clear c8b0
       try clear c9
       try clear c11
       try clear c11b0
       try clear c11b1
       try clear c12
       try clear c13
       try clear c13b0
       try clear c13b1
       try clear c15
       try clear c15b0
       try clear c17
       try clear c17b0
       try clear c19
       try clear c19b0
       try clear c20
       try clear c20b0
       try clear c20b1
       try clear hcz22_0
       try clear hcz22_1
       try clear hcz22_2
       try clear hcz24_0
       try clear hcz24_1
       try clear hcz24_2
       try clear hfz22_0
       try clear hfz22_1
       try clear hfz22_2
       try clear hfz24_0
       try clear hfz24_1
       try clear hfz24_2
       try clear p2
       try clear p6
       obtain ⟨x9_2, rfl, HA, HK2, BK293, HB⟩ := hrel
       cases gk with
       | zero => exact absurd HA.out (by simp [trystref01_Date.l1])
       | succ k2 =>
        have H := HA.out
        clear HA
        simp only [trystref01_Date.l1] at H
        replace H := Option.bind_eq_some_iff.mp H
        obtain ⟨t304, A250, H⟩ := H
        replace H : (if x9_2 < t304 then ((trystref01_Fixed.f k2 a0 x6_1 (wrap64 (x9_2 + 1)) 1).bind fun t305 => (if t305 ≤ a1 then (trystref01_Date.l1 k2 a0 a1 x6_1 (wrap64 (x9_2 + 1))) else ((trystref01_Fixed.f k2 a0 x6_1 x9_2 1).bind fun t306 => (some (x6_1, x9_2, wrap64 ((wrap64 (a1 - t306)) + 1), 0))))) else ((trystref01_Fixed.f k2 a0 x6_1 x9_2 1).bind fun t307 => (some (x6_1, x9_2, wrap64 ((wrap64 (a1 - t307)) + 1), 0)))) = some (r1, r2, r3, r4) := H
        have A25 := Aside0.mk A250
        clear A250
        by_cases c26 : x9_2 < t304
        ·rw [if_pos c26] at H
         have c26b0 : decide (x9_2 < t304) = true := decide_eq_true c26
         clear c26
         replace H := Option.bind_eq_some_iff.mp H
         obtain ⟨t305, A270, H⟩ := H
         replace H : (if t305 ≤ a1 then (trystref01_Date.l1 k2 a0 a1 x6_1 (wrap64 (x9_2 + 1))) else ((trystref01_Fixed.f k2 a0 x6_1 x9_2 1).bind fun t306 => (some (x6_1, x9_2, wrap64 ((wrap64 (a1 - t306)) + 1), 0)))) = some (r1, r2, r3, r4) := H
         have A27 := Aside0.mk A270
         clear A270
         by_cases c28 : t305 ≤ a1
         ·rw [if_pos c28] at H
          have c28b0 : decide (t305 ≤ a1) = true := decide_eq_true c28
          clear c28
          have H' := Aside0.mk H
          clear H
          go_wp2_with (first | ((with_reducible refine gate_callee (f := 66) rfl ?_); refine gm_ (some 48) Tryz.func66 #[.int .i64 a0, .int .i64 x6_1] ?_; (with_reducible refine (trystref01_Months.calls k2 a0 x6_1 t304 _ A25.out).mono ?_); rintro e w' ⟨rfl, ⟨nd, rfl⟩⟩; refine ⟨_, rfl, ?_⟩) | (go_at_call 34; (with_reducible refine (trystref01_Fixed.calls k2 a0 x6_1 (wrap64 (x9_2 + 1)) 1 t305 _ A27.out).mono ?_); rintro e w' ⟨rfl, ⟨nd, rfl⟩⟩))
          go_roundg k2
          case measure => have := HK1.out; have := HK2.out; omega
          case rel => exact ⟨(wrap64 (x9_2 + 1)), (by first | rfl | (simp; done) | (simp [*]; done)), H', ⟨by have := HK1.out; have := HK2.out; omega⟩, ⟨by (with_reducible repeat (first | refine blk_drewN ?_ _ | refine blk_drew ?_ | refine blk_alloc ?_ _)); exact BK293.out⟩, ⟨by repeat (first | (with_reducible first | exact HB.out | apply below_alloc | apply pw_below_drewN | apply below_drew1 | refine below_set ?_ GE293.out) | exact HB.out)⟩⟩
         ·rw [if_neg c28] at H
          have c28b0 : decide (t305 ≤ a1) = false := decide_eq_false c28
          clear c28
          replace H := Option.bind_eq_some_iff.mp H
          obtain ⟨t306, A290, H⟩ := H
          replace H : (some (x6_1, x9_2, wrap64 ((wrap64 (a1 - t306)) + 1), 0)) = some (r1, r2, r3, r4) := H
          have A29 := Aside0.mk A290
          clear A290
          simp only [Option.some.injEq, Prod.mk.injEq] at H
          obtain ⟨rfl, rfl, rfl, rfl⟩ := H
          go_wp2_with (first | ((with_reducible refine gate_callee (f := 66) rfl ?_); refine gm_ (some 48) Tryz.func66 #[.int .i64 a0, .int .i64 x6_1] ?_; (with_reducible refine (trystref01_Months.calls k2 a0 x6_1 t304 _ A25.out).mono ?_); rintro e w' ⟨rfl, ⟨nd, rfl⟩⟩; refine ⟨_, rfl, ?_⟩; (try (rw [drewN_self wr]; generalize hq_ : World.drewN wr _ = wr; have n0_ : Aside0 (wr.heap[gb293]? = some (.cells #[.int .i64 0, .int .i64 0, .int .i64 0] 61 (0, 0))) := ⟨by rw [← hq_]; exact (by (with_reducible repeat (first | refine blk_drewN ?_ _ | refine blk_drew ?_ | refine blk_alloc ?_ _)); exact BK293.out)⟩; have n1_ : Aside0 (Below w.heap.size w wr) := ⟨by rw [← hq_]; exact (by repeat (first | (with_reducible first | exact HB.out | apply below_alloc | apply pw_below_drewN | apply below_drew1 | refine below_set ?_ GE293.out) | exact HB.out))⟩; clear BK293 HB hq_; have BK293 := n0_; have HB := n1_; clear n0_ n1_)); (try (have hcz30_0 : wr.cell? ⟨gb293, 0, none⟩ = some (.int .i64 0) := (blk_cell BK293.out 0).trans rfl; have hcz30_1 : wr.cell? ⟨gb293, 1, none⟩ = some (.int .i64 0) := (blk_cell BK293.out 1).trans rfl; have hcz30_2 : wr.cell? ⟨gb293, 2, none⟩ = some (.int .i64 0) := (blk_cell BK293.out 2).trans rfl; have hfz30_0 := blk_frozen BK293.out 0; have hfz30_1 := blk_frozen BK293.out 1; have hfz30_2 := blk_frozen BK293.out 2))) | (go_at_call 34; (with_reducible refine (trystref01_Fixed.calls k2 a0 x6_1 (wrap64 (x9_2 + 1)) 1 t305 _ A27.out).mono ?_); rintro e w' ⟨rfl, ⟨nd, rfl⟩⟩; (try (rw [drewN_self wr]; generalize hq_ : World.drewN wr _ = wr; have n0_ : Aside0 (wr.heap[gb293]? = some (.cells #[.int .i64 0, .int .i64 0, .int .i64 0] 61 (0, 0))) := ⟨by rw [← hq_]; exact (by (with_reducible repeat (first | refine blk_drewN ?_ _ | refine blk_drew ?_ | refine blk_alloc ?_ _)); exact BK293.out)⟩; have n1_ : Aside0 (Below w.heap.size w wr) := ⟨by rw [← hq_]; exact (by repeat (first | (with_reducible first | exact HB.out | apply below_alloc | apply pw_below_drewN | apply below_drew1 | refine below_set ?_ GE293.out) | exact HB.out))⟩; clear BK293 HB hq_; have BK293 := n0_; have HB := n1_; clear n0_ n1_)); (try (have hcz31_0 : wr.cell? ⟨gb293, 0, none⟩ = some (.int .i64 0) := (blk_cell BK293.out 0).trans rfl; have hcz31_1 : wr.cell? ⟨gb293, 1, none⟩ = some (.int .i64 0) := (blk_cell BK293.out 1).trans rfl; have hcz31_2 : wr.cell? ⟨gb293, 2, none⟩ = some (.int .i64 0) := (blk_cell BK293.out 2).trans rfl; have hfz31_0 := blk_frozen BK293.out 0; have hfz31_1 := blk_frozen BK293.out 1; have hfz31_2 := blk_frozen BK293.out 2))) | ((with_reducible refine gate_callee (f := 34) rfl ?_); refine gm_ (some 67) Tryz.func34 #[.int .i64 a0, .int .i64 x6_1, .int .i64 x9_2, .int .i64 1] ?_; (with_reducible refine (trystref01_Fixed.calls k2 a0 x6_1 x9_2 1 t306 _ A29.out).mono ?_); rintro e w' ⟨rfl, ⟨nd, rfl⟩⟩; refine ⟨_, rfl, ?_⟩; (try (rw [drewN_self wr]; generalize hq_ : World.drewN wr _ = wr; have n0_ : Aside0 (wr.heap[gb293]? = some (.cells #[.int .i64 0, .int .i64 0, .int .i64 0] 61 (0, 0))) := ⟨by rw [← hq_]; exact (by (with_reducible repeat (first | refine blk_drewN ?_ _ | refine blk_drew ?_ | refine blk_alloc ?_ _)); exact BK293.out)⟩; have n1_ : Aside0 (Below w.heap.size w wr) := ⟨by rw [← hq_]; exact (by repeat (first | (with_reducible first | exact HB.out | apply below_alloc | apply pw_below_drewN | apply below_drew1 | refine below_set ?_ GE293.out) | exact HB.out))⟩; clear BK293 HB hq_; have BK293 := n0_; have HB := n1_; clear n0_ n1_)); (try (have hcz32_0 : wr.cell? ⟨gb293, 0, none⟩ = some (.int .i64 0) := (blk_cell BK293.out 0).trans rfl; have hcz32_1 : wr.cell? ⟨gb293, 1, none⟩ = some (.int .i64 0) := (blk_cell BK293.out 1).trans rfl; have hcz32_2 : wr.cell? ⟨gb293, 2, none⟩ = some (.int .i64 0) := (blk_cell BK293.out 2).trans rfl; have hfz32_0 := blk_frozen BK293.out 0; have hfz32_1 := blk_frozen BK293.out 1; have hfz32_2 := blk_frozen BK293.out 2)); have hcz33_0 : wr.cell? ⟨gb293, 0, none⟩ = some (.int .i64 0) := (blk_cell BK293.out 0).trans rfl; have hcz33_1 : wr.cell? ⟨gb293, 1, none⟩ = some (.int .i64 0) := (blk_cell BK293.out 1).trans rfl; have hcz33_2 : wr.cell? ⟨gb293, 2, none⟩ = some (.int .i64 0) := (blk_cell BK293.out 2).trans rfl; have hfz33_0 := blk_frozen BK293.out 0; have hfz33_1 := blk_frozen BK293.out 1; have hfz33_2 := blk_frozen BK293.out 2))
          refine bodyPost_ret (results_ct rfl _ _ gb293 61 #[.int .i64 x6_1, .int .i64 x9_2, .int .i64 (wrap64 ((wrap64 (a1 - t306)) + 1))] (0, 0) _ rfl (by (with_reducible repeat (first | refine blk_drewN ?_ _ | refine blk_drew ?_ | refine blk_alloc ?_ _)); refine blk_put (cs := #[.int .i64 x6_1, .int .i64 x9_2, .int .i64 0]) ?_ 2 _ rfl; (with_reducible repeat (first | refine blk_drewN ?_ _ | refine blk_drew ?_ | refine blk_alloc ?_ _)); refine blk_put (cs := #[.int .i64 x6_1, .int .i64 0, .int .i64 0]) ?_ 1 _ rfl; (with_reducible repeat (first | refine blk_drewN ?_ _ | refine blk_drew ?_ | refine blk_alloc ?_ _)); refine blk_put (cs := #[.int .i64 0, .int .i64 0, .int .i64 0]) ?_ 0 _ rfl; (with_reducible repeat (first | refine blk_drewN ?_ _ | refine blk_drew ?_ | refine blk_alloc ?_ _)); exact BK293.out) Tryz.underlying61 rfl (by kernel_rfl)) rfl ?_
          exact ⟨by first | rfl | (simp [i64_w]; done) | (simp [errW_none, errW_some] <;> rfl) | (simp [*, errW_none, errW_some] <;> rfl), by repeat (first | (with_reducible first | exact HB.out | apply below_alloc | apply pw_below_drewN | apply below_drew1 | refine below_set ?_ GE293.out) | exact HB.out)⟩
        ·rw [if_neg c26] at H
         have c26b0 : decide (x9_2 < t304) = false := decide_eq_false c26
         clear c26
         replace H := Option.bind_eq_some_iff.mp H
         obtain ⟨t307, A340, H⟩ := H
         replace H : (some (x6_1, x9_2, wrap64 ((wrap64 (a1 - t307)) + 1), 0)) = some (r1, r2, r3, r4) := H
         have A34 := Aside0.mk A340
         clear A340
         simp only [Option.some.injEq, Prod.mk.injEq] at H
         obtain ⟨rfl, rfl, rfl, rfl⟩ := H
         go_wp2_with (first | ((with_reducible refine gate_callee (f := 66) rfl ?_); refine gm_ (some 48) Tryz.func66 #[.int .i64 a0, .int .i64 x6_1] ?_; (with_reducible refine (trystref01_Months.calls k2 a0 x6_1 t304 _ A25.out).mono ?_); rintro e w' ⟨rfl, ⟨nd, rfl⟩⟩; refine ⟨_, rfl, ?_⟩; (try (rw [drewN_self wr]; generalize hq_ : World.drewN wr _ = wr; have n0_ : Aside0 (wr.heap[gb293]? = some (.cells #[.int .i64 0, .int .i64 0, .int .i64 0] 61 (0, 0))) := ⟨by rw [← hq_]; exact (by (with_reducible repeat (first | refine blk_drewN ?_ _ | refine blk_drew ?_ | refine blk_alloc ?_ _)); exact BK293.out)⟩; have n1_ : Aside0 (Below w.heap.size w wr) := ⟨by rw [← hq_]; exact (by repeat (first | (with_reducible first | exact HB.out | apply below_alloc | apply pw_below_drewN | apply below_drew1 | refine below_set ?_ GE293.out) | exact HB.out))⟩; clear BK293 HB hq_; have BK293 := n0_; have HB := n1_; clear n0_ n1_)); (try (have hcz35_0 : wr.cell? ⟨gb293, 0, none⟩ = some (.int .i64 0) := (blk_cell BK293.out 0).trans rfl; have hcz35_1 : wr.cell? ⟨gb293, 1, none⟩ = some (.int .i64 0) := (blk_cell BK293.out 1).trans rfl; have hcz35_2 : wr.cell? ⟨gb293, 2, none⟩ = some (.int .i64 0) := (blk_cell BK293.out 2).trans rfl; have hfz35_0 := blk_frozen BK293.out 0; have hfz35_1 := blk_frozen BK293.out 1; have hfz35_2 := blk_frozen BK293.out 2))) | ((with_reducible refine gate_callee (f := 34) rfl ?_); refine gm_ (some 67) Tryz.func34 #[.int .i64 a0, .int .i64 x6_1, .int .i64 x9_2, .int .i64 1] ?_; (with_reducible refine (trystref01_Fixed.calls k2 a0 x6_1 x9_2 1 t307 _ A34.out).mono ?_); rintro e w' ⟨rfl, ⟨nd, rfl⟩⟩; refine ⟨_, rfl, ?_⟩; (try (rw [drewN_self wr]; generalize hq_ : World.drewN wr _ = wr; have n0_ : Aside0 (wr.heap[gb293]? = some (.cells #[.int .i64 0, .int .i64 0, .int .i64 0] 61 (0, 0))) := ⟨by rw [← hq_]; exact (by (with_reducible repeat (first | refine blk_drewN ?_ _ | refine blk_drew ?_ | refine blk_alloc ?_ _)); exact BK293.out)⟩; have n1_ : Aside0 (Below w.heap.size w wr) := ⟨by rw [← hq_]; exact (by repeat (first | (with_reducible first | exact HB.out | apply below_alloc | apply pw_below_drewN | apply below_drew1 | refine below_set ?_ GE293.out) | exact HB.out))⟩; clear BK293 HB hq_; have BK293 := n0_; have HB := n1_; clear n0_ n1_)); (try (have hcz36_0 : wr.cell? ⟨gb293, 0, none⟩ = some (.int .i64 0) := (blk_cell BK293.out 0).trans rfl; have hcz36_1 : wr.cell? ⟨gb293, 1, none⟩ = some (.int .i64 0) := (blk_cell BK293.out 1).trans rfl; have hcz36_2 : wr.cell? ⟨gb293, 2, none⟩ = some (.int .i64 0) := (blk_cell BK293.out 2).trans rfl; have hfz36_0 := blk_frozen BK293.out 0; have hfz36_1 := blk_frozen BK293.out 1; have hfz36_2 := blk_frozen BK293.out 2)); have hcz37_0 : wr.cell? ⟨gb293, 0, none⟩ = some (.int .i64 0) := (blk_cell BK293.out 0).trans rfl; have hcz37_1 : wr.cell? ⟨gb293, 1, none⟩ = some (.int .i64 0) := (blk_cell BK293.out 1).trans rfl; have hcz37_2 : wr.cell? ⟨gb293, 2, none⟩ = some (.int .i64 0) := (blk_cell BK293.out 2).trans rfl; have hfz37_0 := blk_frozen BK293.out 0; have hfz37_1 := blk_frozen BK293.out 1; have hfz37_2 := blk_frozen BK293.out 2))
         refine bodyPost_ret (results_ct rfl _ _ gb293 61 #[.int .i64 x6_1, .int .i64 x9_2, .int .i64 (wrap64 ((wrap64 (a1 - t307)) + 1))] (0, 0) _ rfl (by (with_reducible repeat (first | refine blk_drewN ?_ _ | refine blk_drew ?_ | refine blk_alloc ?_ _)); refine blk_put (cs := #[.int .i64 x6_1, .int .i64 x9_2, .int .i64 0]) ?_ 2 _ rfl; (with_reducible repeat (first | refine blk_drewN ?_ _ | refine blk_drew ?_ | refine blk_alloc ?_ _)); refine blk_put (cs := #[.int .i64 x6_1, .int .i64 0, .int .i64 0]) ?_ 1 _ rfl; (with_reducible repeat (first | refine blk_drewN ?_ _ | refine blk_drew ?_ | refine blk_alloc ?_ _)); refine blk_put (cs := #[.int .i64 0, .int .i64 0, .int .i64 0]) ?_ 0 _ rfl; (with_reducible repeat (first | refine blk_drewN ?_ _ | refine blk_drew ?_ | refine blk_alloc ?_ _)); exact BK293.out) Tryz.underlying61 rfl (by kernel_rfl)) rfl ?_
         exact ⟨by first | rfl | (simp [i64_w]; done) | (simp [errW_none, errW_some] <;> rfl) | (simp [*, errW_none, errW_some] <;> rfl), by repeat (first | (with_reducible first | exact HB.out | apply below_alloc | apply pw_below_drewN | apply below_drew1 | refine below_set ?_ GE293.out) | exact HB.out)⟩
 ·replace c4 := Bool.eq_false_iff.mpr c4
  subst c4
  have H1 : (some (0, 0, 0, 2)) = some (r1, r2, r3, r4) := by rw [if_neg (show ¬ (false = true) by decide)] at H; exact H
  clear H
  have H := H1
  clear H1
  simp only [Option.some.injEq, Prod.mk.injEq] at H
  obtain ⟨rfl, rfl, rfl, rfl⟩ := H
  go_enter Tryz.func57, Tryz.ntmps57
  go_wp2_with (first | ((with_reducible refine gate_dst (N := 4) rfl ?_); refine box_event ?hg (N := 4) ?hd (cs := #[.int .i64 0, .int .i64 0, .int .i64 0]) (t := 61) ?hr ?_; (case hd => rfl); (case hg => rfl); (case hr => first | (go_simp; done) | (go_simp; rfl)); intro gb293 hg w38 hbox hb; have n0_ := Aside0.mk (below_step (by repeat (first | (with_reducible first | exact HB.out | apply below_alloc | apply pw_below_drewN | apply below_drew1) | exact HB.out)) hb); have n1_ := Aside0.mk (hbox); have n2_ := Aside0.mk ((by rw [hg]; exact (below_size (by repeat (first | (with_reducible first | exact HB.out | apply below_alloc | apply pw_below_drewN | apply below_drew1) | exact HB.out))) : w.heap.size ≤ gb293)); have n3_ := Aside0.mk ((by rw [hg]; exact (below_size (by repeat (first | (with_reducible first | exact HB.out | apply below_alloc | apply pw_below_drewN | apply below_drew1) | exact HB.out))) : w.heap.size ≤ gb293)); clear HB; have HB := n0_; have BK293 := n1_; have GW293 := n2_; have GE293 := n3_; clear n0_ n1_ n2_ n3_; clear hb hbox hg) | ((with_reducible refine gate_callee (f := 29) rfl ?_); refine gm_ (some 11) Tryz.func29 #[.int .i64 a1] ?_; (with_reducible refine (trystref01_In.calls a1 false _ A3.out).mono ?_); rintro e w' ⟨rfl, ⟨nd, rfl⟩⟩; refine ⟨_, rfl, ?_⟩; (try (rw [drewN_self w38]; generalize hq_ : World.drewN w38 _ = w38; have n0_ : Aside0 (w38.heap[gb293]? = some (.cells #[.int .i64 0, .int .i64 0, .int .i64 0] 61 (0, 0))) := ⟨by rw [← hq_]; exact (by (with_reducible repeat (first | refine blk_drewN ?_ _ | refine blk_drew ?_ | refine blk_alloc ?_ _)); exact BK293.out)⟩; have n1_ : Aside0 (Below w.heap.size w w38) := ⟨by rw [← hq_]; exact (by repeat (first | (with_reducible first | exact HB.out | apply below_alloc | apply pw_below_drewN | apply below_drew1 | refine below_set ?_ GE293.out) | exact HB.out))⟩; clear BK293 HB hq_; have BK293 := n0_; have HB := n1_; clear n0_ n1_)); (try (have hcz39_0 : w38.cell? ⟨gb293, 0, none⟩ = some (.int .i64 0) := (blk_cell BK293.out 0).trans rfl; have hcz39_1 : w38.cell? ⟨gb293, 1, none⟩ = some (.int .i64 0) := (blk_cell BK293.out 1).trans rfl; have hcz39_2 : w38.cell? ⟨gb293, 2, none⟩ = some (.int .i64 0) := (blk_cell BK293.out 2).trans rfl; have hfz39_0 := blk_frozen BK293.out 0; have hfz39_1 := blk_frozen BK293.out 1; have hfz39_2 := blk_frozen BK293.out 2)); have hcz40_0 : w38.cell? ⟨gb293, 0, none⟩ = some (.int .i64 0) := (blk_cell BK293.out 0).trans rfl; have hcz40_1 : w38.cell? ⟨gb293, 1, none⟩ = some (.int .i64 0) := (blk_cell BK293.out 1).trans rfl; have hcz40_2 : w38.cell? ⟨gb293, 2, none⟩ = some (.int .i64 0) := (blk_cell BK293.out 2).trans rfl; have hfz40_0 := blk_frozen BK293.out 0; have hfz40_1 := blk_frozen BK293.out 1; have hfz40_2 := blk_frozen BK293.out 2))
  refine bodyPost_ret (results_ct rfl _ _ gb293 61 #[.int .i64 0, .int .i64 0, .int .i64 0] (0, 0) _ rfl (by (with_reducible repeat (first | refine blk_drewN ?_ _ | refine blk_drew ?_ | refine blk_alloc ?_ _)); refine blk_put (cs := #[.int .i64 0, .int .i64 0, .int .i64 0]) ?_ 2 _ rfl; (with_reducible repeat (first | refine blk_drewN ?_ _ | refine blk_drew ?_ | refine blk_alloc ?_ _)); refine blk_put (cs := #[.int .i64 0, .int .i64 0, .int .i64 0]) ?_ 1 _ rfl; (with_reducible repeat (first | refine blk_drewN ?_ _ | refine blk_drew ?_ | refine blk_alloc ?_ _)); refine blk_put (cs := #[.int .i64 0, .int .i64 0, .int .i64 0]) ?_ 0 _ rfl; (with_reducible repeat (first | refine blk_drewN ?_ _ | refine blk_drew ?_ | refine blk_alloc ?_ _)); exact BK293.out) Tryz.underlying61 rfl (by kernel_rfl)) rfl ?_
  exact ⟨by first | rfl | (simp [i64_w]; done) | (simp [errW_none, errW_some] <;> rfl) | (simp [*, errW_none, errW_some] <;> rfl), by repeat (first | (with_reducible first | exact HB.out | apply below_alloc | apply pw_below_drewN | apply below_drew1 | refine below_set ?_ GE293.out) | exact HB.out)⟩

end Go.Proofs.YtfdcldjoncednaaGreat.M
/- What the reference's Date tells: the date of a day in the Gregorian (0), Julian (1), ISO (2) and Coptic (6) calendar. -/
namespace Go.Proofs.YtfdcldjoncednaaGreat.FunD
open Go.RowKit Go.Proofs.YtfdcldjoncednaaGreatW.PrintWords Go.Proofs.YtfdcldjoncednaaGreatW.PrintLast Go.Proofs.YtfdcldjoncednaaGreat.M Go.Proofs.YtfdcldjoncednaaGreat.Cal Go.Proofs.YtfdcldjoncednaaGreat.FunA Go.Proofs.YtfdcldjoncednaaGreat.FunB
theorem fSearch (c : Int) (hc : Four c) (day : Int) (K : Nat) (hK : 8 ≤ K) : ∀ (n k : Nat) (a b : Int), K + 2 * n + 1 ≤ k → a < b → b - a ≤ 2 ^ n → -801 ≤ a → b ≤ 15000 →
  fx c a 1 < day → day ≤ fx c b 1 → ∃ (y : Int) (k' : Nat), a ≤ y ∧ y < b ∧ fx c y 1 < day ∧ day ≤ fx c (y + 1) 1 ∧ K ≤ k' ∧ trystref01_Date.l0 k c day a b = trystref01_Date.l1 k' c day y 1 := by
 have n3 : ¬ c = 3 := by rcases hc with rfl | rfl | rfl | rfl <;> omega
 have n5 : ¬ c = 5 := by rcases hc with rfl | rfl | rfl | rfl <;> omega
 intro n
 induction n with
 | zero =>
  intro k a b h1 h2 h3 h4 h5 h6 h7
  obtain ⟨k, rfl⟩ : ∃ j, k = j + 1 := ⟨k - 1, by omega⟩
  have e : b = a + 1 := by simp at h3; omega
  subst e
  refine ⟨a, k, by omega, by omega, h6, h7, by omega, ?_⟩
  simp only [trystref01_Date.l0]
  rw [fNext c a hc (by omega) (by omega), Option.bind_some, if_neg (by omega), if_neg n3]
 | succ n ih =>
  intro k a b h1 h2 h3 h4 h5 h6 h7
  obtain ⟨k, rfl⟩ : ∃ j, k = j + 1 := ⟨k - 1, by omega⟩
  simp only [trystref01_Date.l0]
  rw [fNext c a hc (by omega) (by omega), Option.bind_some]
  by_cases c1 : a + 1 < b
  ·rw [if_pos c1, w64 (by omega) (by omega), fFloor _ 2 (by omega) (by omega) ⟨by omega, by omega⟩, Option.bind_some, if_neg n5]
   obtain ⟨k, rfl⟩ : ∃ j, k = j + 1 := ⟨k - 1, by omega⟩
   simp only [trystref01_Date.j1]
   rw [if_neg (by simp), fBegins k (by omega) c _ hc (by omega) (by omega), Option.bind_some]
   have hp : (2 : Int) ^ (n + 1) = 2 * 2 ^ n := by rw [Int.pow_succ]; omega
   rw [hp] at h3
   generalize (2 : Int) ^ n = P at *
   by_cases c2 : fx c ((a + b) / 2) 1 + 1 ≤ day
   ·rw [if_pos c2]
    obtain ⟨y, k', r1, r2, r3, r4, r5, r6⟩ := ih k ((a + b) / 2) b (by omega) (by omega) (by omega) (by omega) (by omega) (by omega) h7
    exact ⟨y, k', by omega, r2, r3, r4, r5, r6⟩
   ·rw [if_neg c2]
    obtain ⟨y, k', r1, r2, r3, r4, r5, r6⟩ := ih k a ((a + b) / 2) (by omega) (by omega) (by omega) (by omega) (by omega) h6 (by omega)
    exact ⟨y, k', r1, by omega, r3, r4, r5, r6⟩
  ·have e : b = a + 1 := by omega
   subst e
   refine ⟨a, k, by omega, by omega, h6, h7, by omega, ?_⟩
   rw [if_neg (by omega), if_neg n3]
theorem fLoop (c : Int) (hc : Four c) (day y : Int) (hd : In day) (hy : -801 ≤ y) (hy' : y ≤ 15000) : ∀ (j k : Nat) (m : Int), 1 ≤ m → m ≤ mths c y → mths c y - m = j → j + 9 ≤ k →
  fx c y m < day → ∃ m', m ≤ m' ∧ m' ≤ mths c y ∧ fx c y m' < day ∧ (m' < mths c y → day ≤ fx c y (m' + 1)) ∧ trystref01_Date.l1 k c day y m = some (y, m', day - fx c y m', 0) := by
 obtain ⟨d1, d2⟩ := hd
 have hM := mths_bd c y
 intro j
 induction j with
 | zero =>
  intro k m h1 h2 h3 h4 h5
  obtain ⟨k, rfl⟩ : ∃ j, k = j + 1 := ⟨k - 1, by omega⟩
  have hb := fx_bd c y m hc (by omega) (by omega) h1 (by omega)
  refine ⟨m, by omega, h2, h5, fun h => by omega, ?_⟩
  simp only [trystref01_Date.l1]
  rw [fMonths k (by omega) c y hc (by omega) (by omega), Option.bind_some, if_neg (by omega), fFixed k (by omega) c y m 1 hc (by omega) (by omega) (by omega) (by omega) (by omega) (by omega), Option.bind_some, w64 (x := day - (fx c y m + 1)) (by omega) (by omega), w64 (by omega) (by omega)]
  have e : day - (fx c y m + 1) + 1 = day - fx c y m := by omega
  rw [e]
 | succ j ih =>
  intro k m h1 h2 h3 h4 h5
  obtain ⟨k, rfl⟩ : ∃ j, k = j + 1 := ⟨k - 1, by omega⟩
  have hb := fx_bd c y m hc (by omega) (by omega) h1 (by omega)
  simp only [trystref01_Date.l1]
  rw [fMonths k (by omega) c y hc (by omega) (by omega), Option.bind_some, if_pos (by omega), w64 (x := m + 1) (by omega) (by omega), fFixed k (by omega) c y (m + 1) 1 hc (by omega) (by omega) (by omega) (by omega) (by omega) (by omega), Option.bind_some]
  by_cases c2 : fx c y (m + 1) + 1 ≤ day
  ·rw [if_pos c2]
   obtain ⟨m', r1, r2, r3, r4, r5⟩ := ih k (m + 1) (by omega) (by omega) (by omega) (by omega) (by omega)
   exact ⟨m', by omega, r2, r3, r4, r5⟩
  ·refine ⟨m, by omega, h2, h5, fun _ => by omega, ?_⟩
   rw [if_neg c2, fFixed k (by omega) c y m 1 hc (by omega) (by omega) (by omega) (by omega) (by omega) (by omega), Option.bind_some, w64 (x := day - (fx c y m + 1)) (by omega) (by omega), w64 (by omega) (by omega)]
   have e : day - (fx c y m + 1) + 1 = day - fx c y m := by omega
   rw [e]
def start (c : Int) : Int := if c = 1 then 1 else if c = 2 then 0 else if c = 0 then 1 else -800
theorem fLeast (c : Int) (hc : Four c) : trystref01_least.f c = some (start c) := by
 rcases hc with rfl | rfl | rfl | rfl <;> rfl
theorem fx_start (c : Int) (hc : Four c) : fx c (start c) 1 < 1 ∧ 3652059 ≤ fx c 15000 1 := by
 have h1 := wk_bd 0 1; have h2 := wk_bd 15000 1
 have e0 : ah 0 = -366 := by decide
 have e1 : ah 15000 = 5478272 := by decide
 rcases hc with rfl | rfl | rfl | rfl
 ·decide
 ·decide
 ·simp [fx, start]; omega
 ·decide
theorem fDate (k : Nat) (hk : 120 ≤ k) (c : Int) (hc : Four c) (day : Int) (hd : In day) : ∃ y m, -801 ≤ y ∧ y < 15000 ∧ fx c y 1 < day ∧ day ≤ fx c (y + 1) 1 ∧ 1 ≤ m ∧ m ≤ mths c y ∧
  fx c y m < day ∧ (m < mths c y → day ≤ fx c y (m + 1)) ∧ trystref01_Date.f k c day = some (y, m, day - fx c y m, 0) := by
 have hs := fx_start c hc
 have h0 : -800 ≤ start c ∧ start c ≤ 1 := by rcases hc with rfl | rfl | rfl | rfl <;> decide
 have h14 : (2 : Int) ^ 14 = 16384 := by decide
 obtain ⟨y, k', h1, h2, h3, h4, h5, h6⟩ := fSearch c hc day 80 (by omega) 14 k (start c) 15000 (by omega) (by omega) (by rw [h14]; omega) (by omega) (by omega) (by have := hd.1; omega) (by have := hd.2; omega)
 have hM := mths_bd c y
 obtain ⟨m, r1, r2, r3, r4, r5⟩ := fLoop c hc day y hd (by omega) (by omega) (mths c y - 1).toNat k' 1 (by omega) (by omega) (by omega) (by omega) h3
 refine ⟨y, m, by omega, h2, h3, h4, r1, r2, r3, r4, ?_⟩
 unfold trystref01_Date.f
 rw [fIn_yes hd, Option.bind_some, if_pos rfl, fLeast c hc, Option.bind_some, h6, r5]
theorem mths12 (c y : Int) (hc : c = 0 ∨ c = 1) : mths c y = 12 := by
 unfold mths; rcases hc with rfl | rfl <;> simp
/-- The reference's Gregorian date. -/
theorem fDate0 (k : Nat) (hk : 120 ≤ k) (day : Int) (hd : In day) : ∃ y m d, trystref01_Date.f k 0 day = some (y, m, d, 0) ∧ Is ah lp y m d day := by
 obtain ⟨y, m, h1, h2, h3, h4, h5, h6, h7, h8, h9⟩ := fDate k hk 0 (Or.inl rfl) day hd
 rw [mths12 0 y (Or.inl rfl)] at h6 h8
 refine ⟨y, m, _, h9, ⟨h5, h6, by omega, ?_, by simp [fx]; omega⟩⟩
 have s := cum_succ (lp y) m h5 h6
 by_cases e : m < 12
 ·have := h8 e
  simp [fx] at this ⊢; omega
 ·have e12 : m = 12 := by omega
  subst e12
  rw [fx_end 0 y (Or.inl rfl)] at h4
  simp [fx] at h4 ⊢
  have e13 : (12 : Int) + 1 = 13 := rfl
  rw [e13] at s; omega
end Go.Proofs.YtfdcldjoncednaaGreat.FunD
