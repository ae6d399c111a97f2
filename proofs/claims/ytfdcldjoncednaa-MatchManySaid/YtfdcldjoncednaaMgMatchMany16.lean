/- Texts of this claim, merged: MrefDate. -/
import Derived.Test.YtfdcldjoncednaaMgMatchMany1
import Derived.Test.YtfdcldjoncednaaMgMatchMany8
namespace Go.Proofs.Ytfdcldjoncednaa.M
open Go.RowKit Go.Proofs.YtfdcldjoncednaaW.PrintWords Go.Proofs.YtfdcldjoncednaaW.PrintLast Go.Proofs.YtfdcldjoncednaaW.PrintMore
attribute [local go_sem] max2_int min2_int max_two min_two
set_option linter.unusedVariables false
set_option linter.unusedSimpArgs false
/-! ### trystref01_least: function 88 -/
def trystref01_least.f (a0 : Int) : Option (Int) := if a0 = 1 then (some 1) else (if a0 = 2 then (some 0) else (if a0 = 3 then (some 3000) else (if a0 = 0 then (some 1) else (some (-800)))))
set_option maxHeartbeats 8000000 in
set_option maxRecDepth 100000 in
theorem trystref01_least.calls (a0 : Int) (r : Int) (w : World) (h : trystref01_least.f a0 = some r) :
  Calls Try.prog 88 #[.int .i64 a0] w fun e w' => e = .returned (.int .i64 r) ∧ Drawn0 w w' := by
 have H : (if a0 = 1 then (some 1) else (if a0 = 2 then (some 0) else (if a0 = 3 then (some 3000) else (if a0 = 0 then (some 1) else (some (-800)))))) = some r := h
 clear h
 by_cases c2 : a0 = 1
 ·rw [if_pos c2] at H
  have c2b0 : (a0 == 1) = true := beq_iff_eq.mpr c2
  have c2b1 : (a0 != 1) = false := bne_eq_false_iff_eq.mpr c2
  clear c2
  obtain rfl := Option.some.inj H
  go_enter Try.func88, Try.ntmps88
  go_wp2
  go_ret
  exact ⟨by first | rfl | simp | simp [*] | simp [bne_nil_], by repeat (first | exact Drawn0.refl _ | apply Drawn0.step)⟩
 ·rw [if_neg c2] at H
  have c2b0 : (a0 == 1) = false := beq_eq_false_iff_ne.mpr c2
  have c2b1 : (a0 != 1) = true := bne_iff_ne.mpr c2
  by_cases c3 : a0 = 2
  ·rw [if_pos c3] at H
   have c3b0 : (a0 == 2) = true := beq_iff_eq.mpr c3
   have c3b1 : (a0 != 2) = false := bne_eq_false_iff_eq.mpr c3
   clear c3
   obtain rfl := Option.some.inj H
   go_enter Try.func88, Try.ntmps88
   go_wp2
   go_ret
   exact ⟨by first | rfl | simp | simp [*] | simp [bne_nil_], by repeat (first | exact Drawn0.refl _ | apply Drawn0.step)⟩
  ·rw [if_neg c3] at H
   have c3b0 : (a0 == 2) = false := beq_eq_false_iff_ne.mpr c3
   have c3b1 : (a0 != 2) = true := bne_iff_ne.mpr c3
   by_cases c4 : a0 = 3
   ·rw [if_pos c4] at H
    have c4b0 : (a0 == 3) = true := beq_iff_eq.mpr c4
    have c4b1 : (a0 != 3) = false := bne_eq_false_iff_eq.mpr c4
    clear c4
    obtain rfl := Option.some.inj H
    go_enter Try.func88, Try.ntmps88
    go_wp2
    go_ret
    exact ⟨by first | rfl | simp | simp [*] | simp [bne_nil_], by repeat (first | exact Drawn0.refl _ | apply Drawn0.step)⟩
   ·rw [if_neg c4] at H
    have c4b0 : (a0 == 3) = false := beq_eq_false_iff_ne.mpr c4
    have c4b1 : (a0 != 3) = true := bne_iff_ne.mpr c4
    by_cases c5 : a0 = 0
    ·rw [if_pos c5] at H
     have c5b0 : (a0 == 0) = true := beq_iff_eq.mpr c5
     have c5b1 : (a0 != 0) = false := bne_eq_false_iff_eq.mpr c5
     clear c5
     obtain rfl := Option.some.inj H
     go_enter Try.func88, Try.ntmps88
     go_wp2
     go_ret
     exact ⟨by first | rfl | simp | simp [*] | simp [bne_nil_], by repeat (first | exact Drawn0.refl _ | apply Drawn0.step)⟩
    ·rw [if_neg c5] at H
     have c5b0 : (a0 == 0) = false := beq_eq_false_iff_ne.mpr c5
     have c5b1 : (a0 != 0) = true := bne_iff_ne.mpr c5
     obtain rfl := Option.some.inj H
     go_enter Try.func88, Try.ntmps88
     go_wp2
     go_ret
     exact ⟨by first | rfl | simp | simp [*] | simp [bne_nil_], by repeat (first | exact Drawn0.refl _ | apply Drawn0.step)⟩

/-! ### trystref01_hebrewDate: function 90 -/
def trystref01_hebrewDate.f (a0 : Int) (a1 : Int) : Option (Int × Int × Int) := none
theorem trystref01_hebrewDate.calls (a0 : Int) (a1 : Int) (r1 : Int) (r2 : Int) (r3 : Int) (w : World) (h : trystref01_hebrewDate.f a0 a1 = some (r1, r2, r3)) :
  Calls Try.prog 90 #[.int .i64 a0, .int .i64 a1] w fun e w' => e = .returned (.agg #[.int .i64 r1, .int .i64 r2, .int .i64 r3]) ∧ Below w.heap.size w w' := by cases h

/-! ### trystref01_Date: function 53 -/
mutual
def trystref01_Date.l0 : Nat → Int → Int → Int → Int → Option (Int × Int × Int × Int)
 | 0, _, _, _, _ => none
 | k + 1, x0, x1, x6, x7 => (trystref01_next.f x0 x6).bind fun t264 => (if t264 < x7 then ((trystref01_Floor.f (wrap64 (x6 + x7)) 2).bind fun t265 => (if x0 = 5 then (trystref01_Date.j1 k x0 x1 x6 x7 t265 (t265 == 0)) else (trystref01_Date.j1 k x0 x1 x6 x7 t265 false))) else (if x0 = 3 then ((trystref01_hebrewDate.f x6 x1).bind fun bt269 => (some (bt269.1, bt269.2.1, bt269.2.2, 0))) else (trystref01_Date.l1 k x0 x1 x6 1)))
def trystref01_Date.j1 : Nat → Int → Int → Int → Int → Int → Bool → Option (Int × Int × Int × Int)
 | 0, _, _, _, _, _, _ => none
 | k + 1, x0, x1, x6, x7, x8, x30 => if x30 = true then (if x6 = (-1) then ((trystref01_begins.f k x0 1).bind fun t266 => (if t266 ≤ x1 then (trystref01_Date.l0 k x0 x1 1 x7) else (trystref01_Date.l0 k x0 x1 x6 1))) else ((trystref01_begins.f k x0 (-1)).bind fun t267 => (if t267 ≤ x1 then (trystref01_Date.l0 k x0 x1 (-1) x7) else (trystref01_Date.l0 k x0 x1 x6 (-1))))) else ((trystref01_begins.f k x0 x8).bind fun t268 => (if t268 ≤ x1 then (trystref01_Date.l0 k x0 x1 x8 x7) else (trystref01_Date.l0 k x0 x1 x6 x8)))
def trystref01_Date.l1 : Nat → Int → Int → Int → Int → Option (Int × Int × Int × Int)
 | 0, _, _, _, _ => none
 | k + 1, x0, x1, x6, x9 => (trystref01_Months.f k x0 x6).bind fun t272 => (if x9 < t272 then ((trystref01_Fixed.f k x0 x6 (wrap64 (x9 + 1)) 1).bind fun t273 => (if t273 ≤ x1 then (trystref01_Date.l1 k x0 x1 x6 (wrap64 (x9 + 1))) else ((trystref01_Fixed.f k x0 x6 x9 1).bind fun t274 => (some (x6, x9, wrap64 ((wrap64 (x1 - t274)) + 1), 0))))) else ((trystref01_Fixed.f k x0 x6 x9 1).bind fun t275 => (some (x6, x9, wrap64 ((wrap64 (x1 - t275)) + 1), 0))))
end
def trystref01_Date.f (k : Nat) (a0 : Int) (a1 : Int) : Option (Int × Int × Int × Int) := (trystref01_In.f a1).bind fun t262 => (if t262 = true then ((trystref01_least.f a0).bind fun t263 => (trystref01_Date.l0 k a0 a1 t263 15000)) else (some (0, 0, 0, 2)))
set_option maxHeartbeats 8000000 in
set_option maxRecDepth 100000 in
theorem trystref01_Date.calls (k : Nat) (a0 : Int) (a1 : Int) (r1 : Int) (r2 : Int) (r3 : Int) (r4 : Int) (w : World) (h : trystref01_Date.f k a0 a1 = some (r1, r2, r3, r4)) :
  Calls Try.prog 53 #[.int .i64 a0, .int .i64 a1] w fun e w' => e = .returned (.tuple #[.agg #[.int .i64 r1, .int .i64 r2, .int .i64 r3], .int .i64 r4]) ∧ Below w.heap.size w w' := by
 have hu50 := Try.underlying50
 have HB := Aside0.mk (Below.refl w.heap.size w)
 have H : ((trystref01_In.f a1).bind fun t262 => (if t262 = true then ((trystref01_least.f a0).bind fun t263 => (trystref01_Date.l0 k a0 a1 t263 15000)) else (some (0, 0, 0, 2)))) = some (r1, r2, r3, r4) := h
 clear h
 replace H := Option.bind_eq_some_iff.mp H
 obtain ⟨t262, A30, H⟩ := H
 replace H : (if t262 = true then ((trystref01_least.f a0).bind fun t263 => (trystref01_Date.l0 k a0 a1 t263 15000)) else (some (0, 0, 0, 2))) = some (r1, r2, r3, r4) := H
 have A3 := Aside0.mk A30
 clear A30
 by_cases c4 : t262 = true
 ·subst c4
  have H1 : ((trystref01_least.f a0).bind fun t263 => (trystref01_Date.l0 k a0 a1 t263 15000)) = some (r1, r2, r3, r4) := by rw [if_pos rfl] at H; exact H
  clear H
  have H := H1
  clear H1
  replace H := Option.bind_eq_some_iff.mp H
  obtain ⟨t263, A50, H⟩ := H
  replace H : (trystref01_Date.l0 k a0 a1 t263 15000) = some (r1, r2, r3, r4) := H
  have A5 := Aside0.mk A50
  clear A50
  have H' := Aside0.mk H
  clear H
  go_enter Try.func53, Try.ntmps53
  go_wp2_with (first | ((with_reducible refine gate_dst (N := 4) rfl ?_); refine box_event ?hg (N := 4) ?hd (cs := #[.int .i64 0, .int .i64 0, .int .i64 0]) (t := 50) ?hr ?_; (case hd => rfl); (case hg => rfl); (case hr => first | (go_simp; done) | (go_simp; rfl)); intro gb261 hg w6 hbox hb; have n0_ := Aside0.mk (below_step (by repeat (first | (with_reducible first | exact HB.out | apply below_alloc | apply pw_below_drewN | apply below_drew1) | exact HB.out)) hb); have n1_ := Aside0.mk (hbox); have n2_ := Aside0.mk ((by rw [hg]; exact (below_size (by repeat (first | (with_reducible first | exact HB.out | apply below_alloc | apply pw_below_drewN | apply below_drew1) | exact HB.out))) : w.heap.size ≤ gb261)); have n3_ := Aside0.mk ((by rw [hg]; exact (below_size (by repeat (first | (with_reducible first | exact HB.out | apply below_alloc | apply pw_below_drewN | apply below_drew1) | exact HB.out))) : w.heap.size ≤ gb261)); clear HB; have HB := n0_; have BK261 := n1_; have GW261 := n2_; have GE261 := n3_; clear n0_ n1_ n2_ n3_; clear hb hbox hg) | ((with_reducible refine gate_callee (f := 22) rfl ?_); refine gm_ (some 11) Try.func22 #[.int .i64 a1] ?_; (with_reducible refine (trystref01_In.calls a1 true _ A3.out).mono ?_); rintro e w' ⟨rfl, ⟨nd, rfl⟩⟩; refine ⟨_, rfl, ?_⟩) | ((with_reducible refine gate_callee (f := 88) rfl ?_); refine gm_ (some 15) Try.func88 #[.int .i64 a0] ?_; (with_reducible refine (trystref01_least.calls a0 t263 _ A5.out).mono ?_); rintro e w' ⟨rfl, ⟨nd, rfl⟩⟩; refine ⟨_, rfl, ?_⟩))
  go_loopg [6, 7] k (fun kq v6 v7 w' => ∃ (x6_1 : Int) (x7_1 : Int), v6 = .int .i64 x6_1 ∧ v7 = .int .i64 x7_1 ∧ Aside0 (trystref01_Date.l0 kq a0 a1 x6_1 x7_1 = some (r1, r2, r3, r4)) ∧ Aside0 (kq ≤ k) ∧ Aside0 (w'.heap[gb261]? = some (.cells #[.int .i64 0, .int .i64 0, .int .i64 0] 50 (0, 0))) ∧ Aside0 (Below w.heap.size w w'))
  case atStart => exact ⟨(t263), (15000), (by first | rfl | (simp; done) | (simp [*]; done)), (by first | rfl | (simp; done) | (simp [*]; done)), H', ⟨Nat.le_refl _⟩, ⟨by (with_reducible repeat (first | refine blk_drewN ?_ _ | refine blk_drew ?_ | refine blk_alloc ?_ _)); exact BK261.out⟩, ⟨by repeat (first | (with_reducible first | exact HB.out | apply below_alloc | apply pw_below_drewN | apply below_drew1 | refine below_set ?_ GE261.out) | exact HB.out)⟩⟩
  case round =>
   clear H'
   try clear c2
   try clear p2
   try clear c4
   try clear c5
   obtain ⟨x6_1, x7_1, rfl, rfl, HA, HK1, BK261, HB⟩ := hrel
   cases gk with
   | zero => exact absurd HA.out (by simp [trystref01_Date.l0])
   | succ k1 =>
    have H := HA.out
    clear HA
    simp only [trystref01_Date.l0] at H
    replace H := Option.bind_eq_some_iff.mp H
    obtain ⟨t264, A70, H⟩ := H
    replace H : (if t264 < x7_1 then ((trystref01_Floor.f (wrap64 (x6_1 + x7_1)) 2).bind fun t265 => (if a0 = 5 then (trystref01_Date.j1 k1 a0 a1 x6_1 x7_1 t265 (t265 == 0)) else (trystref01_Date.j1 k1 a0 a1 x6_1 x7_1 t265 false))) else (if a0 = 3 then ((trystref01_hebrewDate.f x6_1 a1).bind fun bt269 => (some (bt269.1, bt269.2.1, bt269.2.2, 0))) else (trystref01_Date.l1 k1 a0 a1 x6_1 1))) = some (r1, r2, r3, r4) := H
    have A7 := Aside0.mk A70
    clear A70
    by_cases c8 : t264 < x7_1
    ·rw [if_pos c8] at H
     have c8b0 : decide (t264 < x7_1) = true := decide_eq_true c8
     clear c8
     replace H := Option.bind_eq_some_iff.mp H
     obtain ⟨t265, A90, H⟩ := H
     replace H : (if a0 = 5 then (trystref01_Date.j1 k1 a0 a1 x6_1 x7_1 t265 (t265 == 0)) else (trystref01_Date.j1 k1 a0 a1 x6_1 x7_1 t265 false)) = some (r1, r2, r3, r4) := H
     have A9 := Aside0.mk A90
     clear A90
     have HC10 := Aside0.mk H
     clear H
     go_upto_region 6 with (first | ((with_reducible refine gate_callee (f := 64) rfl ?_); refine gm_ (some 18) Try.func64 #[.int .i64 a0, .int .i64 x6_1] ?_; (with_reducible refine (trystref01_next.calls a0 x6_1 t264 _ A7.out).mono ?_); rintro e w' ⟨rfl, ⟨nd, rfl⟩⟩; refine ⟨_, rfl, ?_⟩) | ((with_reducible refine gate_callee (f := 89) rfl ?_); refine gm_ (some 24) Try.func89 #[.int .i64 (wrap64 (x6_1 + x7_1)), .int .i64 2] ?_; (with_reducible refine (trystref01_Floor.calls (wrap64 (x6_1 + x7_1)) 2 t265 _ A9.out).mono ?_); rintro e w' ⟨rfl, ⟨nd, rfl⟩⟩; refine ⟨_, rfl, ?_⟩))
     (try simp only [Act.put, List.setIfInBounds_toArray, List.set_cons_zero, List.set_cons_succ])
     go_cut [30] (fun v30 wc => ∃ (kq : Nat) (x30_9 : Bool), v30 = .bool x30_9 ∧ Aside0 (trystref01_Date.j1 kq a0 a1 x6_1 x7_1 t265 x30_9 = some (r1, r2, r3, r4)) ∧ Aside0 (kq ≤ k1) ∧ Aside0 (wc.heap[gb261]? = some (.cells #[.int .i64 0, .int .i64 0, .int .i64 0] 50 (0, 0))) ∧ Aside0 (Below w.heap.size w wc))
     case first =>
      have H := HC10.out
      clear HC10
      by_cases c11 : a0 = 5
      ·rw [if_pos c11] at H
       have c11b0 : (a0 == 5) = true := beq_iff_eq.mpr c11
       have c11b1 : (a0 != 5) = false := bne_eq_false_iff_eq.mpr c11
       clear c11
       (first | rw [c11b0] | (simp only [i64_w, i32_w]; rw [c11b0]) | skip)
       have H' := Aside0.mk H
       clear H
       go_wp2
       go_meet
       case rel => exact ⟨_, ((t265 == 0)), (by first | rfl | (simp; done) | (simp [*]; done)), H', ⟨by have := HK1.out; first | omega | exact Nat.le_refl _⟩, ⟨by (with_reducible repeat (first | refine blk_drewN ?_ _ | refine blk_drew ?_ | refine blk_alloc ?_ _)); exact BK261.out⟩, ⟨by repeat (first | (with_reducible first | exact HB.out | apply below_alloc | apply pw_below_drewN | apply below_drew1 | refine below_set ?_ GE261.out) | exact HB.out)⟩⟩
      ·rw [if_neg c11] at H
       have c11b0 : (a0 == 5) = false := beq_eq_false_iff_ne.mpr c11
       have c11b1 : (a0 != 5) = true := bne_iff_ne.mpr c11
       (first | rw [c11b0] | (simp only [i64_w, i32_w]; rw [c11b0]) | skip)
       have H' := Aside0.mk H
       clear H
       go_wp2
       go_meet
       case rel => exact ⟨_, (false), (by first | rfl | (simp; done) | (simp [*]; done)), H', ⟨by have := HK1.out; first | omega | exact Nat.le_refl _⟩, ⟨by (with_reducible repeat (first | refine blk_drewN ?_ _ | refine blk_drew ?_ | refine blk_alloc ?_ _)); exact BK261.out⟩, ⟨by repeat (first | (with_reducible first | exact HB.out | apply below_alloc | apply pw_below_drewN | apply below_drew1 | refine below_set ?_ GE261.out) | exact HB.out)⟩⟩
     case rest =>
      clear HC10
      try clear c1
      try clear c2
      try clear p2
      try clear c4
      try clear c5
      try clear c6
      try clear p6
      try clear c8
      try clear c8b0
      try clear c11
      try clear c11b0
      try clear c11b1
      try clear p2
      obtain ⟨kq, x30_9, rfl, HA, HJ9, BK261, HB⟩ := hcut
      cases kq with
      | zero => exact absurd HA.out (by simp [trystref01_Date.j1])
      | succ kj9 =>
       have H := HA.out
       clear HA
       simp only [trystref01_Date.j1] at H
       by_cases c12 : x30_9 = true
       ·subst c12
        have H1 : (if x6_1 = (-1) then ((trystref01_begins.f kj9 a0 1).bind fun t266 => (if t266 ≤ a1 then (trystref01_Date.l0 kj9 a0 a1 1 x7_1) else (trystref01_Date.l0 kj9 a0 a1 x6_1 1))) else ((trystref01_begins.f kj9 a0 (-1)).bind fun t267 => (if t267 ≤ a1 then (trystref01_Date.l0 kj9 a0 a1 (-1) x7_1) else (trystref01_Date.l0 kj9 a0 a1 x6_1 (-1))))) = some (r1, r2, r3, r4) := by rw [if_pos rfl] at H; exact H
        clear H
        have H := H1
        clear H1
        by_cases c13 : x6_1 = (-1)
        ·rw [if_pos c13] at H
         have c13b0 : (x6_1 == (-1)) = true := beq_iff_eq.mpr c13
         have c13b1 : (x6_1 != (-1)) = false := bne_eq_false_iff_eq.mpr c13
         clear c13
         replace H := Option.bind_eq_some_iff.mp H
         obtain ⟨t266, A140, H⟩ := H
         replace H : (if t266 ≤ a1 then (trystref01_Date.l0 kj9 a0 a1 1 x7_1) else (trystref01_Date.l0 kj9 a0 a1 x6_1 1)) = some (r1, r2, r3, r4) := H
         have A14 := Aside0.mk A140
         clear A140
         by_cases c15 : t266 ≤ a1
         ·rw [if_pos c15] at H
          have c15b0 : decide (t266 ≤ a1) = true := decide_eq_true c15
          clear c15
          have H' := Aside0.mk H
          clear H
          go_wp2_with (first | ((with_reducible refine gate_callee (f := 63) rfl ?_); refine gm_ (some 35) Try.func63 #[.int .i64 a0, .int .i64 1] ?_; (with_reducible refine (trystref01_begins.calls kj9 a0 1 t266 _ A14.out).mono ?_); rintro e w' ⟨rfl, ⟨nd, rfl⟩⟩; refine ⟨_, rfl, ?_⟩))
          go_roundg kj9
          case measure => have := HK1.out; have := HJ9.out; omega
          case rel => exact ⟨(1), (x7_1), (by first | rfl | (simp; done) | (simp [*]; done)), (by first | rfl | (simp; done) | (simp [*]; done)), H', ⟨by have := HK1.out; have := HJ9.out; omega⟩, ⟨by (with_reducible repeat (first | refine blk_drewN ?_ _ | refine blk_drew ?_ | refine blk_alloc ?_ _)); exact BK261.out⟩, ⟨by repeat (first | (with_reducible first | exact HB.out | apply below_alloc | apply pw_below_drewN | apply below_drew1 | refine below_set ?_ GE261.out) | exact HB.out)⟩⟩
         ·rw [if_neg c15] at H
          have c15b0 : decide (t266 ≤ a1) = false := decide_eq_false c15
          clear c15
          have H' := Aside0.mk H
          clear H
          go_wp2_with (first | ((with_reducible refine gate_callee (f := 63) rfl ?_); refine gm_ (some 35) Try.func63 #[.int .i64 a0, .int .i64 1] ?_; (with_reducible refine (trystref01_begins.calls kj9 a0 1 t266 _ A14.out).mono ?_); rintro e w' ⟨rfl, ⟨nd, rfl⟩⟩; refine ⟨_, rfl, ?_⟩))
          go_roundg kj9
          case measure => have := HK1.out; have := HJ9.out; omega
          case rel => exact ⟨(x6_1), (1), (by first | rfl | (simp; done) | (simp [*]; done)), (by first | rfl | (simp; done) | (simp [*]; done)), H', ⟨by have := HK1.out; have := HJ9.out; omega⟩, ⟨by (with_reducible repeat (first | refine blk_drewN ?_ _ | refine blk_drew ?_ | refine blk_alloc ?_ _)); exact BK261.out⟩, ⟨by repeat (first | (with_reducible first | exact HB.out | apply below_alloc | apply pw_below_drewN | apply below_drew1 | refine below_set ?_ GE261.out) | exact HB.out)⟩⟩
        ·rw [if_neg c13] at H
         have c13b0 : (x6_1 == (-1)) = false := beq_eq_false_iff_ne.mpr c13
         have c13b1 : (x6_1 != (-1)) = true := bne_iff_ne.mpr c13
         replace H := Option.bind_eq_some_iff.mp H
         obtain ⟨t267, A160, H⟩ := H
         replace H : (if t267 ≤ a1 then (trystref01_Date.l0 kj9 a0 a1 (-1) x7_1) else (trystref01_Date.l0 kj9 a0 a1 x6_1 (-1))) = some (r1, r2, r3, r4) := H
         have A16 := Aside0.mk A160
         clear A160
         by_cases c17 : t267 ≤ a1
         ·rw [if_pos c17] at H
          have c17b0 : decide (t267 ≤ a1) = true := decide_eq_true c17
          clear c17
          have H' := Aside0.mk H
          clear H
          go_wp2_with (first | ((with_reducible refine gate_callee (f := 63) rfl ?_); refine gm_ (some 35) Try.func63 #[.int .i64 a0, .int .i64 (-1)] ?_; (with_reducible refine (trystref01_begins.calls kj9 a0 (-1) t267 _ A16.out).mono ?_); rintro e w' ⟨rfl, ⟨nd, rfl⟩⟩; refine ⟨_, rfl, ?_⟩))
          go_roundg kj9
          case measure => have := HK1.out; have := HJ9.out; omega
          case rel => exact ⟨((-1)), (x7_1), (by first | rfl | (simp; done) | (simp [*]; done)), (by first | rfl | (simp; done) | (simp [*]; done)), H', ⟨by have := HK1.out; have := HJ9.out; omega⟩, ⟨by (with_reducible repeat (first | refine blk_drewN ?_ _ | refine blk_drew ?_ | refine blk_alloc ?_ _)); exact BK261.out⟩, ⟨by repeat (first | (with_reducible first | exact HB.out | apply below_alloc | apply pw_below_drewN | apply below_drew1 | refine below_set ?_ GE261.out) | exact HB.out)⟩⟩
         ·rw [if_neg c17] at H
          have c17b0 : decide (t267 ≤ a1) = false := decide_eq_false c17
          clear c17
          have H' := Aside0.mk H
          clear H
          go_wp2_with (first | ((with_reducible refine gate_callee (f := 63) rfl ?_); refine gm_ (some 35) Try.func63 #[.int .i64 a0, .int .i64 (-1)] ?_; (with_reducible refine (trystref01_begins.calls kj9 a0 (-1) t267 _ A16.out).mono ?_); rintro e w' ⟨rfl, ⟨nd, rfl⟩⟩; refine ⟨_, rfl, ?_⟩))
          go_roundg kj9
          case measure => have := HK1.out; have := HJ9.out; omega
          case rel => exact ⟨(x6_1), ((-1)), (by first | rfl | (simp; done) | (simp [*]; done)), (by first | rfl | (simp; done) | (simp [*]; done)), H', ⟨by have := HK1.out; have := HJ9.out; omega⟩, ⟨by (with_reducible repeat (first | refine blk_drewN ?_ _ | refine blk_drew ?_ | refine blk_alloc ?_ _)); exact BK261.out⟩, ⟨by repeat (first | (with_reducible first | exact HB.out | apply below_alloc | apply pw_below_drewN | apply below_drew1 | refine below_set ?_ GE261.out) | exact HB.out)⟩⟩
       ·replace c12 := Bool.eq_false_iff.mpr c12
        subst c12
        have H1 : ((trystref01_begins.f kj9 a0 t265).bind fun t268 => (if t268 ≤ a1 then (trystref01_Date.l0 kj9 a0 a1 t265 x7_1) else (trystref01_Date.l0 kj9 a0 a1 x6_1 t265))) = some (r1, r2, r3, r4) := by rw [if_neg (show ¬ (false = true) by decide)] at H; exact H
        clear H
        have H := H1
        clear H1
        replace H := Option.bind_eq_some_iff.mp H
        obtain ⟨t268, A180, H⟩ := H
        replace H : (if t268 ≤ a1 then (trystref01_Date.l0 kj9 a0 a1 t265 x7_1) else (trystref01_Date.l0 kj9 a0 a1 x6_1 t265)) = some (r1, r2, r3, r4) := H
        have A18 := Aside0.mk A180
        clear A180
        by_cases c19 : t268 ≤ a1
        ·rw [if_pos c19] at H
         have c19b0 : decide (t268 ≤ a1) = true := decide_eq_true c19
         clear c19
         have H' := Aside0.mk H
         clear H
         go_wp2_with (first | ((with_reducible refine gate_callee (f := 63) rfl ?_); refine gm_ (some 35) Try.func63 #[.int .i64 a0, .int .i64 t265] ?_; (with_reducible refine (trystref01_begins.calls kj9 a0 t265 t268 _ A18.out).mono ?_); rintro e w' ⟨rfl, ⟨nd, rfl⟩⟩; refine ⟨_, rfl, ?_⟩))
         go_roundg kj9
         case measure => have := HK1.out; have := HJ9.out; omega
         case rel => exact ⟨(t265), (x7_1), (by first | rfl | (simp; done) | (simp [*]; done)), (by first | rfl | (simp; done) | (simp [*]; done)), H', ⟨by have := HK1.out; have := HJ9.out; omega⟩, ⟨by (with_reducible repeat (first | refine blk_drewN ?_ _ | refine blk_drew ?_ | refine blk_alloc ?_ _)); exact BK261.out⟩, ⟨by repeat (first | (with_reducible first | exact HB.out | apply below_alloc | apply pw_below_drewN | apply below_drew1 | refine below_set ?_ GE261.out) | exact HB.out)⟩⟩
        ·rw [if_neg c19] at H
         have c19b0 : decide (t268 ≤ a1) = false := decide_eq_false c19
         clear c19
         have H' := Aside0.mk H
         clear H
         go_wp2_with (first | ((with_reducible refine gate_callee (f := 63) rfl ?_); refine gm_ (some 35) Try.func63 #[.int .i64 a0, .int .i64 t265] ?_; (with_reducible refine (trystref01_begins.calls kj9 a0 t265 t268 _ A18.out).mono ?_); rintro e w' ⟨rfl, ⟨nd, rfl⟩⟩; refine ⟨_, rfl, ?_⟩))
         go_roundg kj9
         case measure => have := HK1.out; have := HJ9.out; omega
         case rel => exact ⟨(x6_1), (t265), (by first | rfl | (simp; done) | (simp [*]; done)), (by first | rfl | (simp; done) | (simp [*]; done)), H', ⟨by have := HK1.out; have := HJ9.out; omega⟩, ⟨by (with_reducible repeat (first | refine blk_drewN ?_ _ | refine blk_drew ?_ | refine blk_alloc ?_ _)); exact BK261.out⟩, ⟨by repeat (first | (with_reducible first | exact HB.out | apply below_alloc | apply pw_below_drewN | apply below_drew1 | refine below_set ?_ GE261.out) | exact HB.out)⟩⟩
    ·rw [if_neg c8] at H
     have c8b0 : decide (t264 < x7_1) = false := decide_eq_false c8
     clear c8
     by_cases c20 : a0 = 3
     ·rw [if_pos c20] at H
      have c20b0 : (a0 == 3) = true := beq_iff_eq.mpr c20
      have c20b1 : (a0 != 3) = false := bne_eq_false_iff_eq.mpr c20
      clear c20
      replace H := Option.bind_eq_some_iff.mp H
      obtain ⟨⟨t269, t270, t271⟩, A210, H⟩ := H
      replace H : (some (t269, t270, t271, 0)) = some (r1, r2, r3, r4) := H
      have A21 := Aside0.mk A210
      clear A210
      simp only [Option.some.injEq, Prod.mk.injEq] at H
      obtain ⟨rfl, rfl, rfl, rfl⟩ := H
      go_wp2_with (first | ((with_reducible refine gate_callee (f := 64) rfl ?_); refine gm_ (some 18) Try.func64 #[.int .i64 a0, .int .i64 x6_1] ?_; (with_reducible refine (trystref01_next.calls a0 x6_1 t264 _ A7.out).mono ?_); rintro e w' ⟨rfl, ⟨nd, rfl⟩⟩; refine ⟨_, rfl, ?_⟩; (try (rw [drewN_self wr]; generalize hq_ : World.drewN wr _ = wr; have n0_ : Aside0 (wr.heap[gb261]? = some (.cells #[.int .i64 0, .int .i64 0, .int .i64 0] 50 (0, 0))) := ⟨by rw [← hq_]; exact (by (with_reducible repeat (first | refine blk_drewN ?_ _ | refine blk_drew ?_ | refine blk_alloc ?_ _)); exact BK261.out)⟩; have n1_ : Aside0 (Below w.heap.size w wr) := ⟨by rw [← hq_]; exact (by repeat (first | (with_reducible first | exact HB.out | apply below_alloc | apply pw_below_drewN | apply below_drew1 | refine below_set ?_ GE261.out) | exact HB.out))⟩; clear BK261 HB hq_; have BK261 := n0_; have HB := n1_; clear n0_ n1_)); (try (have hcz22_0 : wr.cell? ⟨gb261, 0, none⟩ = some (.int .i64 0) := (blk_cell BK261.out 0).trans rfl; have hcz22_1 : wr.cell? ⟨gb261, 1, none⟩ = some (.int .i64 0) := (blk_cell BK261.out 1).trans rfl; have hcz22_2 : wr.cell? ⟨gb261, 2, none⟩ = some (.int .i64 0) := (blk_cell BK261.out 2).trans rfl; have hfz22_0 := blk_frozen BK261.out 0; have hfz22_1 := blk_frozen BK261.out 1; have hfz22_2 := blk_frozen BK261.out 2))) | ((with_reducible refine gate_callee (f := 90) rfl ?_); refine gm_ (some 44) Try.func90 #[.int .i64 x6_1, .int .i64 a1] ?_; (with_reducible refine (trystref01_hebrewDate.calls x6_1 a1 t269 t270 t271 _ A21.out).mono ?_); rintro e w23 ⟨rfl, hb⟩; refine ⟨_, rfl, ?_⟩; have n0_ := Aside0.mk (blk_below (g := gb261) (o := .cells #[.int .i64 0, .int .i64 0, .int .i64 0] 50 (0, 0)) (by (with_reducible repeat (first | refine blk_drewN ?_ _ | refine blk_drew ?_ | refine blk_alloc ?_ _)); exact BK261.out) hb); have n1_ := Aside0.mk (below_step (by repeat (first | (with_reducible first | exact HB.out | apply below_alloc | apply pw_below_drewN | apply below_drew1 | refine below_set ?_ GE261.out) | exact HB.out)) hb); clear BK261; clear HB; have BK261 := n0_; have HB := n1_; clear n0_ n1_; (try clear hb); (try clear hb2); (try clear hk); (try clear hi); have hcz24_0 : w23.cell? ⟨gb261, 0, none⟩ = some (.int .i64 0) := (blk_cell BK261.out 0).trans rfl; have hcz24_1 : w23.cell? ⟨gb261, 1, none⟩ = some (.int .i64 0) := (blk_cell BK261.out 1).trans rfl; have hcz24_2 : w23.cell? ⟨gb261, 2, none⟩ = some (.int .i64 0) := (blk_cell BK261.out 2).trans rfl; have hfz24_0 := blk_frozen BK261.out 0; have hfz24_1 := blk_frozen BK261.out 1; have hfz24_2 := blk_frozen BK261.out 2))
      refine bodyPost_ret (results_ct rfl _ _ gb261 50 #[.int .i64 t269, .int .i64 t270, .int .i64 t271] (0, 0) _ rfl (by (with_reducible repeat (first | refine blk_drewN ?_ _ | refine blk_drew ?_ | refine blk_alloc ?_ _)); refine blk_put (cs := #[.int .i64 t269, .int .i64 t270, .int .i64 0]) ?_ 2 _ rfl; (with_reducible repeat (first | refine blk_drewN ?_ _ | refine blk_drew ?_ | refine blk_alloc ?_ _)); refine blk_put (cs := #[.int .i64 t269, .int .i64 0, .int .i64 0]) ?_ 1 _ rfl; (with_reducible repeat (first | refine blk_drewN ?_ _ | refine blk_drew ?_ | refine blk_alloc ?_ _)); refine blk_put (cs := #[.int .i64 0, .int .i64 0, .int .i64 0]) ?_ 0 _ rfl; (with_reducible repeat (first | refine blk_drewN ?_ _ | refine blk_drew ?_ | refine blk_alloc ?_ _)); exact BK261.out) Try.underlying50 rfl (by kernel_rfl)) rfl ?_
      exact ⟨by first | rfl | (simp [i64_w]; done) | (simp [errW_none, errW_some] <;> rfl) | (simp [*, errW_none, errW_some] <;> rfl), by repeat (first | (with_reducible first | exact HB.out | apply below_alloc | apply pw_below_drewN | apply below_drew1 | refine below_set ?_ GE261.out) | exact HB.out)⟩
     ·rw [if_neg c20] at H
      have c20b0 : (a0 == 3) = false := beq_eq_false_iff_ne.mpr c20
      have c20b1 : (a0 != 3) = true := bne_iff_ne.mpr c20
      have H' := Aside0.mk H
      clear H
      go_wp2_with (first | ((with_reducible refine gate_callee (f := 64) rfl ?_); refine gm_ (some 18) Try.func64 #[.int .i64 a0, .int .i64 x6_1] ?_; (with_reducible refine (trystref01_next.calls a0 x6_1 t264 _ A7.out).mono ?_); rintro e w' ⟨rfl, ⟨nd, rfl⟩⟩; refine ⟨_, rfl, ?_⟩))
      go_loopg [9] k1 (fun kq v9 w' => ∃ (x9_2 : Int), v9 = .int .i64 x9_2 ∧ Aside0 (trystref01_Date.l1 kq a0 a1 x6_1 x9_2 = some (r1, r2, r3, r4)) ∧ Aside0 (kq ≤ k1) ∧ Aside0 (w'.heap[gb261]? = some (.cells #[.int .i64 0, .int .i64 0, .int .i64 0] 50 (0, 0))) ∧ Aside0 (Below w.heap.size w w'))
      case atStart => exact ⟨(1), (by first | rfl | (simp; done) | (simp [*]; done)), H', ⟨Nat.le_refl _⟩, ⟨by (with_reducible repeat (first | refine blk_drewN ?_ _ | refine blk_drew ?_ | refine blk_alloc ?_ _)); exact BK261.out⟩, ⟨by repeat (first | (with_reducible first | exact HB.out | apply below_alloc | apply pw_below_drewN | apply below_drew1 | refine below_set ?_ GE261.out) | exact HB.out)⟩⟩
      case round =>
       clear H'
       try clear c1
       try clear c2
       try clear p2
       try clear c4
       try clear c5
       try clear c6
       try clear p6
       try clear c8
       try clear c8b0
       try clear c9
       try clear c11
       try clear c11b0
       try clear c11b1
       try clear c12
       try clear c13
       try clear c13b0
       try clear c13b1
       try clear c15
       try clear c15b0
       try clear c17
       try clear c17b0
       try clear c19
       try clear c19b0
       try clear c20
       try clear c20b0
       try clear c20b1
       try clear c22
       try clear hcz22_0
       try clear hcz22_1
       try clear hcz22_2
       try clear hcz24_0
       try clear hcz24_1
       try clear hcz24_2
       try clear hfz22_0
       try clear hfz22_1
       try clear hfz22_2
       try clear hfz24_0
       try clear hfz24_1
       try clear hfz24_2
       try clear p2
       try clear p6
       obtain ⟨x9_2, rfl, HA, HK2, BK261, HB⟩ := hrel
       cases gk with
       | zero => exact absurd HA.out (by simp [trystref01_Date.l1])
       | succ k2 =>
        have H := HA.out
        clear HA
        simp only [trystref01_Date.l1] at H
        replace H := Option.bind_eq_some_iff.mp H
        obtain ⟨t272, A250, H⟩ := H
        replace H : (if x9_2 < t272 then ((trystref01_Fixed.f k2 a0 x6_1 (wrap64 (x9_2 + 1)) 1).bind fun t273 => (if t273 ≤ a1 then (trystref01_Date.l1 k2 a0 a1 x6_1 (wrap64 (x9_2 + 1))) else ((trystref01_Fixed.f k2 a0 x6_1 x9_2 1).bind fun t274 => (some (x6_1, x9_2, wrap64 ((wrap64 (a1 - t274)) + 1), 0))))) else ((trystref01_Fixed.f k2 a0 x6_1 x9_2 1).bind fun t275 => (some (x6_1, x9_2, wrap64 ((wrap64 (a1 - t275)) + 1), 0)))) = some (r1, r2, r3, r4) := H
        have A25 := Aside0.mk A250
        clear A250
        by_cases c26 : x9_2 < t272
        ·rw [if_pos c26] at H
         have c26b0 : decide (x9_2 < t272) = true := decide_eq_true c26
         clear c26
         replace H := Option.bind_eq_some_iff.mp H
         obtain ⟨t273, A270, H⟩ := H
         replace H : (if t273 ≤ a1 then (trystref01_Date.l1 k2 a0 a1 x6_1 (wrap64 (x9_2 + 1))) else ((trystref01_Fixed.f k2 a0 x6_1 x9_2 1).bind fun t274 => (some (x6_1, x9_2, wrap64 ((wrap64 (a1 - t274)) + 1), 0)))) = some (r1, r2, r3, r4) := H
         have A27 := Aside0.mk A270
         clear A270
         by_cases c28 : t273 ≤ a1
         ·rw [if_pos c28] at H
          have c28b0 : decide (t273 ≤ a1) = true := decide_eq_true c28
          clear c28
          have H' := Aside0.mk H
          clear H
          go_wp2_with (first | ((with_reducible refine gate_callee (f := 61) rfl ?_); refine gm_ (some 48) Try.func61 #[.int .i64 a0, .int .i64 x6_1] ?_; (with_reducible refine (trystref01_Months.calls k2 a0 x6_1 t272 _ A25.out).mono ?_); rintro e w' ⟨rfl, ⟨nd, rfl⟩⟩; refine ⟨_, rfl, ?_⟩) | (go_at_call 25; (with_reducible refine (trystref01_Fixed.calls k2 a0 x6_1 (wrap64 (x9_2 + 1)) 1 t273 _ A27.out).mono ?_); rintro e w' ⟨rfl, ⟨nd, rfl⟩⟩))
          go_roundg k2
          case measure => have := HK1.out; have := HK2.out; omega
          case rel => exact ⟨(wrap64 (x9_2 + 1)), (by first | rfl | (simp; done) | (simp [*]; done)), H', ⟨by have := HK1.out; have := HK2.out; omega⟩, ⟨by (with_reducible repeat (first | refine blk_drewN ?_ _ | refine blk_drew ?_ | refine blk_alloc ?_ _)); exact BK261.out⟩, ⟨by repeat (first | (with_reducible first | exact HB.out | apply below_alloc | apply pw_below_drewN | apply below_drew1 | refine below_set ?_ GE261.out) | exact HB.out)⟩⟩
         ·rw [if_neg c28] at H
          have c28b0 : decide (t273 ≤ a1) = false := decide_eq_false c28
          clear c28
          replace H := Option.bind_eq_some_iff.mp H
          obtain ⟨t274, A290, H⟩ := H
          replace H : (some (x6_1, x9_2, wrap64 ((wrap64 (a1 - t274)) + 1), 0)) = some (r1, r2, r3, r4) := H
          have A29 := Aside0.mk A290
          clear A290
          simp only [Option.some.injEq, Prod.mk.injEq] at H
          obtain ⟨rfl, rfl, rfl, rfl⟩ := H
          go_wp2_with (first | ((with_reducible refine gate_callee (f := 61) rfl ?_); refine gm_ (some 48) Try.func61 #[.int .i64 a0, .int .i64 x6_1] ?_; (with_reducible refine (trystref01_Months.calls k2 a0 x6_1 t272 _ A25.out).mono ?_); rintro e w' ⟨rfl, ⟨nd, rfl⟩⟩; refine ⟨_, rfl, ?_⟩; (try (rw [drewN_self wr]; generalize hq_ : World.drewN wr _ = wr; have n0_ : Aside0 (wr.heap[gb261]? = some (.cells #[.int .i64 0, .int .i64 0, .int .i64 0] 50 (0, 0))) := ⟨by rw [← hq_]; exact (by (with_reducible repeat (first | refine blk_drewN ?_ _ | refine blk_drew ?_ | refine blk_alloc ?_ _)); exact BK261.out)⟩; have n1_ : Aside0 (Below w.heap.size w wr) := ⟨by rw [← hq_]; exact (by repeat (first | (with_reducible first | exact HB.out | apply below_alloc | apply pw_below_drewN | apply below_drew1 | refine below_set ?_ GE261.out) | exact HB.out))⟩; clear BK261 HB hq_; have BK261 := n0_; have HB := n1_; clear n0_ n1_)); (try (have hcz30_0 : wr.cell? ⟨gb261, 0, none⟩ = some (.int .i64 0) := (blk_cell BK261.out 0).trans rfl; have hcz30_1 : wr.cell? ⟨gb261, 1, none⟩ = some (.int .i64 0) := (blk_cell BK261.out 1).trans rfl; have hcz30_2 : wr.cell? ⟨gb261, 2, none⟩ = some (.int .i64 0) := (blk_cell BK261.out 2).trans rfl; have hfz30_0 := blk_frozen BK261.out 0; have hfz30_1 := blk_frozen BK261.out 1; have hfz30_2 := blk_frozen BK261.out 2))) | (go_at_call 25; (with_reducible refine (trystref01_Fixed.calls k2 a0 x6_1 (wrap64 (x9_2 + 1)) 1 t273 _ A27.out).mono ?_); rintro e w' ⟨rfl, ⟨nd, rfl⟩⟩; (try (rw [drewN_self wr]; generalize hq_ : World.drewN wr _ = wr; have n0_ : Aside0 (wr.heap[gb261]? = some (.cells #[.int .i64 0, .int .i64 0, .int .i64 0] 50 (0, 0))) := ⟨by rw [← hq_]; exact (by (with_reducible repeat (first | refine blk_drewN ?_ _ | refine blk_drew ?_ | refine blk_alloc ?_ _)); exact BK261.out)⟩; have n1_ : Aside0 (Below w.heap.size w wr) := ⟨by rw [← hq_]; exact (by repeat (first | (with_reducible first | exact HB.out | apply below_alloc | apply pw_below_drewN | apply below_drew1 | refine below_set ?_ GE261.out) | exact HB.out))⟩; clear BK261 HB hq_; have BK261 := n0_; have HB := n1_; clear n0_ n1_)); (try (have hcz31_0 : wr.cell? ⟨gb261, 0, none⟩ = some (.int .i64 0) := (blk_cell BK261.out 0).trans rfl; have hcz31_1 : wr.cell? ⟨gb261, 1, none⟩ = some (.int .i64 0) := (blk_cell BK261.out 1).trans rfl; have hcz31_2 : wr.cell? ⟨gb261, 2, none⟩ = some (.int .i64 0) := (blk_cell BK261.out 2).trans rfl; have hfz31_0 := blk_frozen BK261.out 0; have hfz31_1 := blk_frozen BK261.out 1; have hfz31_2 := blk_frozen BK261.out 2))) | ((with_reducible refine gate_callee (f := 25) rfl ?_); refine gm_ (some 67) Try.func25 #[.int .i64 a0, .int .i64 x6_1, .int .i64 x9_2, .int .i64 1] ?_; (with_reducible refine (trystref01_Fixed.calls k2 a0 x6_1 x9_2 1 t274 _ A29.out).mono ?_); rintro e w' ⟨rfl, ⟨nd, rfl⟩⟩; refine ⟨_, rfl, ?_⟩; (try (rw [drewN_self wr]; generalize hq_ : World.drewN wr _ = wr; have n0_ : Aside0 (wr.heap[gb261]? = some (.cells #[.int .i64 0, .int .i64 0, .int .i64 0] 50 (0, 0))) := ⟨by rw [← hq_]; exact (by (with_reducible repeat (first | refine blk_drewN ?_ _ | refine blk_drew ?_ | refine blk_alloc ?_ _)); exact BK261.out)⟩; have n1_ : Aside0 (Below w.heap.size w wr) := ⟨by rw [← hq_]; exact (by repeat (first | (with_reducible first | exact HB.out | apply below_alloc | apply pw_below_drewN | apply below_drew1 | refine below_set ?_ GE261.out) | exact HB.out))⟩; clear BK261 HB hq_; have BK261 := n0_; have HB := n1_; clear n0_ n1_)); (try (have hcz32_0 : wr.cell? ⟨gb261, 0, none⟩ = some (.int .i64 0) := (blk_cell BK261.out 0).trans rfl; have hcz32_1 : wr.cell? ⟨gb261, 1, none⟩ = some (.int .i64 0) := (blk_cell BK261.out 1).trans rfl; have hcz32_2 : wr.cell? ⟨gb261, 2, none⟩ = some (.int .i64 0) := (blk_cell BK261.out 2).trans rfl; have hfz32_0 := blk_frozen BK261.out 0; have hfz32_1 := blk_frozen BK261.out 1; have hfz32_2 := blk_frozen BK261.out 2)); have hcz33_0 : wr.cell? ⟨gb261, 0, none⟩ = some (.int .i64 0) := (blk_cell BK261.out 0).trans rfl; have hcz33_1 : wr.cell? ⟨gb261, 1, none⟩ = some (.int .i64 0) := (blk_cell BK261.out 1).trans rfl; have hcz33_2 : wr.cell? ⟨gb261, 2, none⟩ = some (.int .i64 0) := (blk_cell BK261.out 2).trans rfl; have hfz33_0 := blk_frozen BK261.out 0; have hfz33_1 := blk_frozen BK261.out 1; have hfz33_2 := blk_frozen BK261.out 2))
          refine bodyPost_ret (results_ct rfl _ _ gb261 50 #[.int .i64 x6_1, .int .i64 x9_2, .int .i64 (wrap64 ((wrap64 (a1 - t274)) + 1))] (0, 0) _ rfl (by (with_reducible repeat (first | refine blk_drewN ?_ _ | refine blk_drew ?_ | refine blk_alloc ?_ _)); refine blk_put (cs := #[.int .i64 x6_1, .int .i64 x9_2, .int .i64 0]) ?_ 2 _ rfl; (with_reducible repeat (first | refine blk_drewN ?_ _ | refine blk_drew ?_ | refine blk_alloc ?_ _)); refine blk_put (cs := #[.int .i64 x6_1, .int .i64 0, .int .i64 0]) ?_ 1 _ rfl; (with_reducible repeat (first | refine blk_drewN ?_ _ | refine blk_drew ?_ | refine blk_alloc ?_ _)); refine blk_put (cs := #[.int .i64 0, .int .i64 0, .int .i64 0]) ?_ 0 _ rfl; (with_reducible repeat (first | refine blk_drewN ?_ _ | refine blk_drew ?_ | refine blk_alloc ?_ _)); exact BK261.out) Try.underlying50 rfl (by kernel_rfl)) rfl ?_
          exact ⟨by first | rfl | (simp [i64_w]; done) | (simp [errW_none, errW_some] <;> rfl) | (simp [*, errW_none, errW_some] <;> rfl), by repeat (first | (with_reducible first | exact HB.out | apply below_alloc | apply pw_below_drewN | apply below_drew1 | refine below_set ?_ GE261.out) | exact HB.out)⟩
        ·rw [if_neg c26] at H
         have c26b0 : decide (x9_2 < t272) = false := decide_eq_false c26
         clear c26
         replace H := Option.bind_eq_some_iff.mp H
         obtain ⟨t275, A340, H⟩ := H
         replace H : (some (x6_1, x9_2, wrap64 ((wrap64 (a1 - t275)) + 1), 0)) = some (r1, r2, r3, r4) := H
         have A34 := Aside0.mk A340
         clear A340
         simp only [Option.some.injEq, Prod.mk.injEq] at H
         obtain ⟨rfl, rfl, rfl, rfl⟩ := H
         go_wp2_with (first | ((with_reducible refine gate_callee (f := 61) rfl ?_); refine gm_ (some 48) Try.func61 #[.int .i64 a0, .int .i64 x6_1] ?_; (with_reducible refine (trystref01_Months.calls k2 a0 x6_1 t272 _ A25.out).mono ?_); rintro e w' ⟨rfl, ⟨nd, rfl⟩⟩; refine ⟨_, rfl, ?_⟩; (try (rw [drewN_self wr]; generalize hq_ : World.drewN wr _ = wr; have n0_ : Aside0 (wr.heap[gb261]? = some (.cells #[.int .i64 0, .int .i64 0, .int .i64 0] 50 (0, 0))) := ⟨by rw [← hq_]; exact (by (with_reducible repeat (first | refine blk_drewN ?_ _ | refine blk_drew ?_ | refine blk_alloc ?_ _)); exact BK261.out)⟩; have n1_ : Aside0 (Below w.heap.size w wr) := ⟨by rw [← hq_]; exact (by repeat (first | (with_reducible first | exact HB.out | apply below_alloc | apply pw_below_drewN | apply below_drew1 | refine below_set ?_ GE261.out) | exact HB.out))⟩; clear BK261 HB hq_; have BK261 := n0_; have HB := n1_; clear n0_ n1_)); (try (have hcz35_0 : wr.cell? ⟨gb261, 0, none⟩ = some (.int .i64 0) := (blk_cell BK261.out 0).trans rfl; have hcz35_1 : wr.cell? ⟨gb261, 1, none⟩ = some (.int .i64 0) := (blk_cell BK261.out 1).trans rfl; have hcz35_2 : wr.cell? ⟨gb261, 2, none⟩ = some (.int .i64 0) := (blk_cell BK261.out 2).trans rfl; have hfz35_0 := blk_frozen BK261.out 0; have hfz35_1 := blk_frozen BK261.out 1; have hfz35_2 := blk_frozen BK261.out 2))) | ((with_reducible refine gate_callee (f := 25) rfl ?_); refine gm_ (some 67) Try.func25 #[.int .i64 a0, .int .i64 x6_1, .int .i64 x9_2, .int .i64 1] ?_; (with_reducible refine (trystref01_Fixed.calls k2 a0 x6_1 x9_2 1 t275 _ A34.out).mono ?_); rintro e w' ⟨rfl, ⟨nd, rfl⟩⟩; refine ⟨_, rfl, ?_⟩; (try (rw [drewN_self wr]; generalize hq_ : World.drewN wr _ = wr; have n0_ : Aside0 (wr.heap[gb261]? = some (.cells #[.int .i64 0, .int .i64 0, .int .i64 0] 50 (0, 0))) := ⟨by rw [← hq_]; exact (by (with_reducible repeat (first | refine blk_drewN ?_ _ | refine blk_drew ?_ | refine blk_alloc ?_ _)); exact BK261.out)⟩; have n1_ : Aside0 (Below w.heap.size w wr) := ⟨by rw [← hq_]; exact (by repeat (first | (with_reducible first | exact HB.out | apply below_alloc | apply pw_below_drewN | apply below_drew1 | refine below_set ?_ GE261.out) | exact HB.out))⟩; clear BK261 HB hq_; have BK261 := n0_; have HB := n1_; clear n0_ n1_)); (try (have hcz36_0 : wr.cell? ⟨gb261, 0, none⟩ = some (.int .i64 0) := (blk_cell BK261.out 0).trans rfl; have hcz36_1 : wr.cell? ⟨gb261, 1, none⟩ = some (.int .i64 0) := (blk_cell BK261.out 1).trans rfl; have hcz36_2 : wr.cell? ⟨gb261, 2, none⟩ = some (.int .i64 0) := (blk_cell BK261.out 2).trans rfl; have hfz36_0 := blk_frozen BK261.out 0; have hfz36_1 := blk_frozen BK261.out 1; have hfz36_2 := blk_frozen BK261.out 2)); have hcz37_0 : wr.cell? ⟨gb261, 0, none⟩ = some (.int .i64 0) := (blk_cell BK261.out 0).trans rfl; have hcz37_1 : wr.cell? ⟨gb261, 1, none⟩ = some (.int .i64 0) := (blk_cell BK261.out 1).trans rfl; have hcz37_2 : wr.cell? ⟨gb261, 2, none⟩ = some (.int .i64 0) := (blk_cell BK261.out 2).trans rfl; have hfz37_0 := blk_frozen BK261.out 0; have hfz37_1 := blk_frozen BK261.out 1; have hfz37_2 := blk_frozen BK261.out 2))
         refine bodyPost_ret (results_ct rfl _ _ gb261 50 #[.int .i64 x6_1, .int .i64 x9_2, .int .i64 (wrap64 ((wrap64 (a1 - t275)) + 1))] (0, 0) _ rfl (by (with_reducible repeat (first | refine blk_drewN ?_ _ | refine blk_drew ?_ | refine blk_alloc ?_ _)); refine blk_put (cs := #[.int .i64 x6_1, .int .i64 x9_2, .int .i64 0]) ?_ 2 _ rfl; (with_reducible repeat (first | refine blk_drewN ?_ _ | refine blk_drew ?_ | refine blk_alloc ?_ _)); refine blk_put (cs := #[.int .i64 x6_1, .int .i64 0, .int .i64 0]) ?_ 1 _ rfl; (with_reducible repeat (first | refine blk_drewN ?_ _ | refine blk_drew ?_ | refine blk_alloc ?_ _)); refine blk_put (cs := #[.int .i64 0, .int .i64 0, .int .i64 0]) ?_ 0 _ rfl; (with_reducible repeat (first | refine blk_drewN ?_ _ | refine blk_drew ?_ | refine blk_alloc ?_ _)); exact BK261.out) Try.underlying50 rfl (by kernel_rfl)) rfl ?_
         exact ⟨by first | rfl | (simp [i64_w]; done) | (simp [errW_none, errW_some] <;> rfl) | (simp [*, errW_none, errW_some] <;> rfl), by repeat (first | (with_reducible first | exact HB.out | apply below_alloc | apply pw_below_drewN | apply below_drew1 | refine below_set ?_ GE261.out) | exact HB.out)⟩
 ·replace c4 := Bool.eq_false_iff.mpr c4
  subst c4
  have H1 : (some (0, 0, 0, 2)) = some (r1, r2, r3, r4) := by rw [if_neg (show ¬ (false = true) by decide)] at H; exact H
  clear H
  have H := H1
  clear H1
  simp only [Option.some.injEq, Prod.mk.injEq] at H
  obtain ⟨rfl, rfl, rfl, rfl⟩ := H
  go_enter Try.func53, Try.ntmps53
  go_wp2_with (first | ((with_reducible refine gate_dst (N := 4) rfl ?_); refine box_event ?hg (N := 4) ?hd (cs := #[.int .i64 0, .int .i64 0, .int .i64 0]) (t := 50) ?hr ?_; (case hd => rfl); (case hg => rfl); (case hr => first | (go_simp; done) | (go_simp; rfl)); intro gb261 hg w38 hbox hb; have n0_ := Aside0.mk (below_step (by repeat (first | (with_reducible first | exact HB.out | apply below_alloc | apply pw_below_drewN | apply below_drew1) | exact HB.out)) hb); have n1_ := Aside0.mk (hbox); have n2_ := Aside0.mk ((by rw [hg]; exact (below_size (by repeat (first | (with_reducible first | exact HB.out | apply below_alloc | apply pw_below_drewN | apply below_drew1) | exact HB.out))) : w.heap.size ≤ gb261)); have n3_ := Aside0.mk ((by rw [hg]; exact (below_size (by repeat (first | (with_reducible first | exact HB.out | apply below_alloc | apply pw_below_drewN | apply below_drew1) | exact HB.out))) : w.heap.size ≤ gb261)); clear HB; have HB := n0_; have BK261 := n1_; have GW261 := n2_; have GE261 := n3_; clear n0_ n1_ n2_ n3_; clear hb hbox hg) | ((with_reducible refine gate_callee (f := 22) rfl ?_); refine gm_ (some 11) Try.func22 #[.int .i64 a1] ?_; (with_reducible refine (trystref01_In.calls a1 false _ A3.out).mono ?_); rintro e w' ⟨rfl, ⟨nd, rfl⟩⟩; refine ⟨_, rfl, ?_⟩; (try (rw [drewN_self w38]; generalize hq_ : World.drewN w38 _ = w38; have n0_ : Aside0 (w38.heap[gb261]? = some (.cells #[.int .i64 0, .int .i64 0, .int .i64 0] 50 (0, 0))) := ⟨by rw [← hq_]; exact (by (with_reducible repeat (first | refine blk_drewN ?_ _ | refine blk_drew ?_ | refine blk_alloc ?_ _)); exact BK261.out)⟩; have n1_ : Aside0 (Below w.heap.size w w38) := ⟨by rw [← hq_]; exact (by repeat (first | (with_reducible first | exact HB.out | apply below_alloc | apply pw_below_drewN | apply below_drew1 | refine below_set ?_ GE261.out) | exact HB.out))⟩; clear BK261 HB hq_; have BK261 := n0_; have HB := n1_; clear n0_ n1_)); (try (have hcz39_0 : w38.cell? ⟨gb261, 0, none⟩ = some (.int .i64 0) := (blk_cell BK261.out 0).trans rfl; have hcz39_1 : w38.cell? ⟨gb261, 1, none⟩ = some (.int .i64 0) := (blk_cell BK261.out 1).trans rfl; have hcz39_2 : w38.cell? ⟨gb261, 2, none⟩ = some (.int .i64 0) := (blk_cell BK261.out 2).trans rfl; have hfz39_0 := blk_frozen BK261.out 0; have hfz39_1 := blk_frozen BK261.out 1; have hfz39_2 := blk_frozen BK261.out 2)); have hcz40_0 : w38.cell? ⟨gb261, 0, none⟩ = some (.int .i64 0) := (blk_cell BK261.out 0).trans rfl; have hcz40_1 : w38.cell? ⟨gb261, 1, none⟩ = some (.int .i64 0) := (blk_cell BK261.out 1).trans rfl; have hcz40_2 : w38.cell? ⟨gb261, 2, none⟩ = some (.int .i64 0) := (blk_cell BK261.out 2).trans rfl; have hfz40_0 := blk_frozen BK261.out 0; have hfz40_1 := blk_frozen BK261.out 1; have hfz40_2 := blk_frozen BK261.out 2))
  refine bodyPost_ret (results_ct rfl _ _ gb261 50 #[.int .i64 0, .int .i64 0, .int .i64 0] (0, 0) _ rfl (by (with_reducible repeat (first | refine blk_drewN ?_ _ | refine blk_drew ?_ | refine blk_alloc ?_ _)); refine blk_put (cs := #[.int .i64 0, .int .i64 0, .int .i64 0]) ?_ 2 _ rfl; (with_reducible repeat (first | refine blk_drewN ?_ _ | refine blk_drew ?_ | refine blk_alloc ?_ _)); refine blk_put (cs := #[.int .i64 0, .int .i64 0, .int .i64 0]) ?_ 1 _ rfl; (with_reducible repeat (first | refine blk_drewN ?_ _ | refine blk_drew ?_ | refine blk_alloc ?_ _)); refine blk_put (cs := #[.int .i64 0, .int .i64 0, .int .i64 0]) ?_ 0 _ rfl; (with_reducible repeat (first | refine blk_drewN ?_ _ | refine blk_drew ?_ | refine blk_alloc ?_ _)); exact BK261.out) Try.underlying50 rfl (by kernel_rfl)) rfl ?_
  exact ⟨by first | rfl | (simp [i64_w]; done) | (simp [errW_none, errW_some] <;> rfl) | (simp [*, errW_none, errW_some] <;> rfl), by repeat (first | (with_reducible first | exact HB.out | apply below_alloc | apply pw_below_drewN | apply below_drew1 | refine below_set ?_ GE261.out) | exact HB.out)⟩

end Go.Proofs.Ytfdcldjoncednaa.M
