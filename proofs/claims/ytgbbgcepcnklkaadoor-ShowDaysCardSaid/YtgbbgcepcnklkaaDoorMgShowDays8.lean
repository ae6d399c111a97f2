/- Texts of this claim, merged: Qcop, FunK, Cal3. -/
import Derived.Test.YtgbbgcepcnklkaaDoorMgShowDays1
import Derived.Test.YtgbbgcepcnklkaaDoorMgShowDays7
-- written by a program of this session (wip/own_print.sh)
namespace Go.Proofs.YtgbbgcepcnklkaaDoor.Q
open Go.RowKit Go.Proofs.YtgbbgcepcnklkaaDoorW.PrintWords Go.Proofs.YtgbbgcepcnklkaaDoorW.PrintLast Go.Proofs.YtgbbgcepcnklkaaDoorW.PrintMore
attribute [local go_sem] max2_int min2_int max_two min_two max_three min_three max_four min_four   -- for this text's walks alone
set_option linter.unusedVariables false
set_option linter.unusedSimpArgs false
/-! ### julian_copticAhead: function 67 -/
def julian_copticAhead.f (a0 : Int) : Option (Int) := (rata_Floor.f a0 4).bind fun t197 => (some (wrap64 ((wrap64 (103605 + (wrap64 (365 * (wrap64 (a0 - 1)))))) + t197)))
set_option maxHeartbeats 8000000 in
set_option maxRecDepth 100000 in
theorem julian_copticAhead.calls (a0 : Int) (r : Int) (w : World) (h : julian_copticAhead.f a0 = some r) :
    Calls Tryd.prog 67 #[.int .i64 a0] w fun e w' => e = .returned (.int .i64 r) ∧ Drawn0 w w' := by
  have H : ((rata_Floor.f a0 4).bind fun t197 => (some (wrap64 ((wrap64 (103605 + (wrap64 (365 * (wrap64 (a0 - 1)))))) + t197)))) = some r := h
  clear h
  replace H := Option.bind_eq_some_iff.mp H
  obtain ⟨t197, A20, H⟩ := H
  replace H : (some (wrap64 ((wrap64 (103605 + (wrap64 (365 * (wrap64 (a0 - 1)))))) + t197))) = some r := H
  have A2 := Aside0.mk A20
  clear A20
  obtain rfl := Option.some.inj H
  go_enter Tryd.func67, Tryd.ntmps67
  go_wp2_with (first | ((with_reducible refine gate_callee (f := 53) rfl ?_); refine goesL_ (some 8) rfl rfl Tryd.func53 (by kernel_rfl) rfl #[.int .i64 a0, .int .i64 4] rfl (by (try simp only [List.map_toArray, List.map_cons, List.map_nil]); first | done | rfl | (simp only [List.length_drop, List.length_take]; rfl)) ?_; (with_reducible refine (rata_Floor.calls a0 4 t197 _ A2.out).mono ?_); rintro e w' ⟨rfl, ⟨nd, rfl⟩⟩; refine ⟨_, rfl, ?_⟩))
  go_ret
  exact ⟨by first | rfl | (simp; done) | (simp [*]; done) | (simp [bne_nil_]; done), by repeat (first | exact Drawn0.refl _ | apply Drawn0.step)⟩

/-! ### julian_Coptic: function 24 -/
-- NOT PRINTED: function 7 (show_Date)
/-! ### julian_copticLength: function 87 -/
def julian_copticLength.j0 : Nat → Int → Int → Bool → Option (Int)
  | 0, _, _, _ => none
  | k + 1, x0, x1, x5 => if x5 = true then (some 0) else (if x1 < 13 then (some 30) else ((rata_Mod.f x0 4).bind fun t263 => (if t263 = 3 then (some 6) else (some 5))))
def julian_copticLength.f (k : Nat) (a0 : Int) (a1 : Int) : Option (Int) := if a1 < 1 then (julian_copticLength.j0 k a0 a1 true) else (julian_copticLength.j0 k a0 a1 (decide (a1 > 13)))
set_option maxHeartbeats 8000000 in
set_option maxRecDepth 100000 in
theorem julian_copticLength.calls (k : Nat) (a0 : Int) (a1 : Int) (r : Int) (w : World) (h : julian_copticLength.f k a0 a1 = some r) :
    Calls Tryd.prog 87 #[.int .i64 a0, .int .i64 a1] w fun e w' => e = .returned (.int .i64 r) ∧ Drawn0 w w' := by
  have H : (if a1 < 1 then (julian_copticLength.j0 k a0 a1 true) else (julian_copticLength.j0 k a0 a1 (decide (a1 > 13)))) = some r := h
  clear h
  have HC3 := Aside0.mk H
  clear H
  go_enter Tryd.func87, Tryd.ntmps87
  go_upto_region 1 with (fail)
  go_cut [5] (fun v5 wc => ∃ (kq : Nat) (x5_2 : Bool), v5 = .bool x5_2 ∧ Aside0 (julian_copticLength.j0 kq a0 a1 x5_2 = some r) ∧ Aside0 (kq ≤ k) ∧ Drawn0 w wc)
  case first =>
    have H := HC3.out
    clear HC3
    by_cases c4 : a1 < 1
    · rw [if_pos c4] at H
      have c4b0 : decide (a1 < 1) = true := decide_eq_true c4
      clear c4
      (first | rw [c4b0] | (simp only [i64_w, i32_w]; rw [c4b0]) | skip)
      have H' := Aside0.mk H
      clear H
      go_wp2
      go_meet
      case rel => exact ⟨_, (true), (by first | rfl | (simp; done) | (simp [*]; done)), H', ⟨by first | omega | exact Nat.le_refl _⟩, by repeat (first | exact Drawn0.refl _ | apply Drawn0.step)⟩
    · rw [if_neg c4] at H
      have c4b0 : decide (a1 < 1) = false := decide_eq_false c4
      clear c4
      (first | rw [c4b0] | (simp only [i64_w, i32_w]; rw [c4b0]) | skip)
      have H' := Aside0.mk H
      clear H
      go_wp2
      go_meet
      case rel => exact ⟨_, (decide (a1 > 13)), (by first | rfl | (simp; done) | (simp [*]; done)), H', ⟨by first | omega | exact Nat.le_refl _⟩, by repeat (first | exact Drawn0.refl _ | apply Drawn0.step)⟩
  case rest =>
    clear HC3
    try clear p2
    try clear c4
    try clear c4b0
    obtain ⟨kq, x5_2, rfl, HA, HJ2, ⟨mc2, rfl⟩⟩ := hcut
    cases kq with
    | zero => exact absurd HA.out (by simp [julian_copticLength.j0])
    | succ kj2 =>
      have H := HA.out
      clear HA
      simp only [julian_copticLength.j0] at H
      by_cases c5 : x5_2 = true
      · subst c5
        have H1 : (some 0) = some r := by rw [if_pos rfl] at H; exact H
        clear H
        have H := H1
        clear H1
        obtain rfl := Option.some.inj H
        go_wp2
        go_ret
        exact ⟨by first | rfl | (simp; done) | (simp [*]; done) | (simp [bne_nil_]; done), by repeat (first | exact Drawn0.refl _ | apply Drawn0.step)⟩
      · replace c5 := Bool.eq_false_iff.mpr c5
        subst c5
        have H1 : (if a1 < 13 then (some 30) else ((rata_Mod.f a0 4).bind fun t263 => (if t263 = 3 then (some 6) else (some 5)))) = some r := by rw [if_neg (show ¬ (false = true) by decide)] at H; exact H
        clear H
        have H := H1
        clear H1
        by_cases c6 : a1 < 13
        · rw [if_pos c6] at H
          have c6b0 : decide (a1 < 13) = true := decide_eq_true c6
          clear c6
          obtain rfl := Option.some.inj H
          go_wp2
          go_ret
          exact ⟨by first | rfl | (simp; done) | (simp [*]; done) | (simp [bne_nil_]; done), by repeat (first | exact Drawn0.refl _ | apply Drawn0.step)⟩
        · rw [if_neg c6] at H
          have c6b0 : decide (a1 < 13) = false := decide_eq_false c6
          clear c6
          replace H := Option.bind_eq_some_iff.mp H
          obtain ⟨t263, A70, H⟩ := H
          replace H : (if t263 = 3 then (some 6) else (some 5)) = some r := H
          have A7 := Aside0.mk A70
          clear A70
          by_cases c8 : t263 = 3
          · rw [if_pos c8] at H
            have c8b0 : (t263 == 3) = true := beq_iff_eq.mpr c8
            have c8b1 : (t263 != 3) = false := bne_eq_false_iff_eq.mpr c8
            clear c8
            obtain rfl := Option.some.inj H
            go_wp2_with (first | ((with_reducible refine gate_callee (f := 57) rfl ?_); refine goesL_ (some 17) rfl rfl Tryd.func57 (by kernel_rfl) rfl #[.int .i64 a0, .int .i64 4] rfl (by (try simp only [List.map_toArray, List.map_cons, List.map_nil]); first | done | rfl | (simp only [List.length_drop, List.length_take]; rfl)) ?_; (with_reducible refine (rata_Mod.calls a0 4 t263 _ A7.out).mono ?_); rintro e w' ⟨rfl, ⟨nd, rfl⟩⟩; refine ⟨_, rfl, ?_⟩))
            go_ret
            exact ⟨by first | rfl | (simp; done) | (simp [*]; done) | (simp [bne_nil_]; done), by repeat (first | exact Drawn0.refl _ | apply Drawn0.step)⟩
          · rw [if_neg c8] at H
            have c8b0 : (t263 == 3) = false := beq_eq_false_iff_ne.mpr c8
            have c8b1 : (t263 != 3) = true := bne_iff_ne.mpr c8
            obtain rfl := Option.some.inj H
            go_wp2_with (first | ((with_reducible refine gate_callee (f := 57) rfl ?_); refine goesL_ (some 17) rfl rfl Tryd.func57 (by kernel_rfl) rfl #[.int .i64 a0, .int .i64 4] rfl (by (try simp only [List.map_toArray, List.map_cons, List.map_nil]); first | done | rfl | (simp only [List.length_drop, List.length_take]; rfl)) ?_; (with_reducible refine (rata_Mod.calls a0 4 t263 _ A7.out).mono ?_); rintro e w' ⟨rfl, ⟨nd, rfl⟩⟩; refine ⟨_, rfl, ?_⟩))
            go_ret
            exact ⟨by first | rfl | (simp; done) | (simp [*]; done) | (simp [bne_nil_]; done), by repeat (first | exact Drawn0.refl _ | apply Drawn0.step)⟩

/-! ### julian_FromCoptic: function 46 -/
def julian_FromCoptic.j0 : Nat → Bool → Int → Int → Int → Option (Int × Int)
  | 0, _, _, _, _ => none
  | k + 1, x26, x265000, x265001, x265002 => if x26 = true then (some (0, 2)) else ((julian_copticAhead.f x265000).bind fun t266 => ((julian_days.f (wrap64 ((wrap64 ((wrap64 (t266 + (wrap64 (30 * (wrap64 (x265001 - 1)))))) + x265002)) - 1))).bind fun bt267 => (some (bt267.1, bt267.2))))
def julian_FromCoptic.f (k : Nat) (a0_0 : Int) (a0_1 : Int) (a0_2 : Int) : Option (Int × Int) := if a0_0 < (-20000) then (julian_FromCoptic.j0 k true a0_0 a0_1 a0_2) else (if a0_0 > 20000 then (julian_FromCoptic.j0 k true a0_0 a0_1 a0_2) else (if a0_2 < 1 then (julian_FromCoptic.j0 k true a0_0 a0_1 a0_2) else ((julian_copticLength.f k a0_0 a0_1).bind fun t265 => (julian_FromCoptic.j0 k (decide (a0_2 > t265)) a0_0 a0_1 a0_2))))
set_option maxHeartbeats 8000000 in
set_option maxRecDepth 100000 in
theorem julian_FromCoptic.calls (k : Nat) (a0_0 : Int) (a0_1 : Int) (a0_2 : Int) (r1 : Int) (r2 : Int) (w : World) (h : julian_FromCoptic.f k a0_0 a0_1 a0_2 = some (r1, r2)) :
    Calls Tryd.prog 46 #[.agg #[.int .i64 a0_0, .int .i64 a0_1, .int .i64 a0_2]] w fun e w' => e = .returned (.tuple #[.int .i64 r1, .int .i64 r2]) ∧ Below w.heap.size w w' := by
  have hu24 := Tryd.underlying24
  have HB := Aside0.mk (Below.refl w.heap.size w)
  have H : (if a0_0 < (-20000) then (julian_FromCoptic.j0 k true a0_0 a0_1 a0_2) else (if a0_0 > 20000 then (julian_FromCoptic.j0 k true a0_0 a0_1 a0_2) else (if a0_2 < 1 then (julian_FromCoptic.j0 k true a0_0 a0_1 a0_2) else ((julian_copticLength.f k a0_0 a0_1).bind fun t265 => (julian_FromCoptic.j0 k (decide (a0_2 > t265)) a0_0 a0_1 a0_2))))) = some (r1, r2) := h
  clear h
  have HC2 := Aside0.mk H
  clear H
  go_enter Tryd.func46, Tryd.ntmps46
  go_upto_region 1 with (first | ((with_reducible refine gate_dst (N := 1) rfl ?_); refine box_event ?hg (N := 1) ?hd (cs := #[.int .i64 a0_0, .int .i64 a0_1, .int .i64 a0_2]) (t := 24) ?hr ?_; (case hd => rfl); (case hg => rfl); (case hr => first | (go_simp; done) | (go_simp; rfl)); intro gb264 hg w3 hbox hb; have n0_ := Aside0.mk (below_step (by repeat (first | (with_reducible first | exact HB.out | apply below_alloc | apply pw_below_drewN | apply below_drew1) | exact HB.out)) hb); have n1_ := Aside0.mk (hbox); have n2_ := Aside0.mk ((by rw [hg]; exact (below_size (by repeat (first | (with_reducible first | exact HB.out | apply below_alloc | apply pw_below_drewN | apply below_drew1) | exact HB.out))) : w.heap.size ≤ gb264)); have n3_ := Aside0.mk ((by rw [hg]; exact (below_size (by repeat (first | (with_reducible first | exact HB.out | apply below_alloc | apply pw_below_drewN | apply below_drew1) | exact HB.out))) : w.heap.size ≤ gb264)); clear HB; have HB := n0_; have BK264 := n1_; have GW264 := n2_; have GE264 := n3_; clear n0_ n1_ n2_ n3_; clear hb hbox hg))
  repeat (go_quiet (first | ((with_reducible refine gate_dst (N := 1) rfl ?_); refine box_event ?hg (N := 1) ?hd (cs := #[.int .i64 a0_0, .int .i64 a0_1, .int .i64 a0_2]) (t := 24) ?hr ?_; (case hd => rfl); (case hg => rfl); (case hr => first | (go_simp; done) | (go_simp; rfl)); intro gb264 hg w3 hbox hb; have n0_ := Aside0.mk (below_step (by repeat (first | (with_reducible first | exact HB.out | apply below_alloc | apply pw_below_drewN | apply below_drew1) | exact HB.out)) hb); have n1_ := Aside0.mk (hbox); have n2_ := Aside0.mk ((by rw [hg]; exact (below_size (by repeat (first | (with_reducible first | exact HB.out | apply below_alloc | apply pw_below_drewN | apply below_drew1) | exact HB.out))) : w.heap.size ≤ gb264)); have n3_ := Aside0.mk ((by rw [hg]; exact (below_size (by repeat (first | (with_reducible first | exact HB.out | apply below_alloc | apply pw_below_drewN | apply below_drew1) | exact HB.out))) : w.heap.size ≤ gb264)); clear HB; have HB := n0_; have BK264 := n1_; have GW264 := n2_; have GE264 := n3_; clear n0_ n1_ n2_ n3_; clear hb hbox hg)); go_upto_region 1 with (first | ((with_reducible refine gate_dst (N := 1) rfl ?_); refine box_event ?hg (N := 1) ?hd (cs := #[.int .i64 a0_0, .int .i64 a0_1, .int .i64 a0_2]) (t := 24) ?hr ?_; (case hd => rfl); (case hg => rfl); (case hr => first | (go_simp; done) | (go_simp; rfl)); intro gb264 hg w3 hbox hb; have n0_ := Aside0.mk (below_step (by repeat (first | (with_reducible first | exact HB.out | apply below_alloc | apply pw_below_drewN | apply below_drew1) | exact HB.out)) hb); have n1_ := Aside0.mk (hbox); have n2_ := Aside0.mk ((by rw [hg]; exact (below_size (by repeat (first | (with_reducible first | exact HB.out | apply below_alloc | apply pw_below_drewN | apply below_drew1) | exact HB.out))) : w.heap.size ≤ gb264)); have n3_ := Aside0.mk ((by rw [hg]; exact (below_size (by repeat (first | (with_reducible first | exact HB.out | apply below_alloc | apply pw_below_drewN | apply below_drew1) | exact HB.out))) : w.heap.size ≤ gb264)); clear HB; have HB := n0_; have BK264 := n1_; have GW264 := n2_; have GE264 := n3_; clear n0_ n1_ n2_ n3_; clear hb hbox hg)))
  (try simp only [Act.put, List.setIfInBounds_toArray, List.set_cons_zero, List.set_cons_succ])
  go_cut [26] (fun v26 wc => ∃ (kq : Nat) (x26_1 : Bool), v26 = .bool x26_1 ∧ Aside0 (julian_FromCoptic.j0 kq x26_1 a0_0 a0_1 a0_2 = some (r1, r2)) ∧ Aside0 (kq ≤ k) ∧ Aside0 (wc.heap[gb264]? = some (.cells #[.int .i64 a0_0, .int .i64 a0_1, .int .i64 a0_2] 24 (0, 0))) ∧ Aside0 (Below w.heap.size w wc))
  case first =>
    have H := HC2.out
    clear HC2
    by_cases c4 : a0_0 < (-20000)
    · rw [if_pos c4] at H
      have c4b0 : decide (a0_0 < (-20000)) = true := decide_eq_true c4
      clear c4
      (first | rw [c4b0] | (simp only [i64_w, i32_w]; rw [c4b0]) | skip)
      have H' := Aside0.mk H
      clear H
      have hcz5_0 : w3.cell? ⟨gb264, 0, none⟩ = some (.int .i64 a0_0) := (blk_cell BK264.out 0).trans rfl
      have hcz5_1 : w3.cell? ⟨gb264, 1, none⟩ = some (.int .i64 a0_1) := (blk_cell BK264.out 1).trans rfl
      have hcz5_2 : w3.cell? ⟨gb264, 2, none⟩ = some (.int .i64 a0_2) := (blk_cell BK264.out 2).trans rfl
      have hfz5_0 := blk_frozen BK264.out 0
      have hfz5_1 := blk_frozen BK264.out 1
      have hfz5_2 := blk_frozen BK264.out 2
      go_wp2
      repeat (go_quiet (fail); try go_wp2)
      go_meet
      case rel => exact ⟨_, (true), (by first | rfl | (simp; done) | (simp [*]; done)), H', ⟨by first | omega | exact Nat.le_refl _⟩, ⟨by (with_reducible repeat (first | refine blk_drewN ?_ _ | refine blk_drew ?_ | refine blk_alloc ?_ _)); exact BK264.out⟩, ⟨by repeat (first | (with_reducible first | exact HB.out | apply below_alloc | apply pw_below_drewN | apply below_drew1 | refine below_set ?_ GE264.out) | exact HB.out)⟩⟩
    · rw [if_neg c4] at H
      have c4b0 : decide (a0_0 < (-20000)) = false := decide_eq_false c4
      clear c4
      (first | rw [c4b0] | (simp only [i64_w, i32_w]; rw [c4b0]) | skip)
      by_cases c6 : a0_0 > 20000
      · rw [if_pos c6] at H
        have c6b0 : decide (20000 < a0_0) = true := decide_eq_true c6
        clear c6
        have H' := Aside0.mk H
        clear H
        have hcz7_0 : w3.cell? ⟨gb264, 0, none⟩ = some (.int .i64 a0_0) := (blk_cell BK264.out 0).trans rfl
        have hcz7_1 : w3.cell? ⟨gb264, 1, none⟩ = some (.int .i64 a0_1) := (blk_cell BK264.out 1).trans rfl
        have hcz7_2 : w3.cell? ⟨gb264, 2, none⟩ = some (.int .i64 a0_2) := (blk_cell BK264.out 2).trans rfl
        have hfz7_0 := blk_frozen BK264.out 0
        have hfz7_1 := blk_frozen BK264.out 1
        have hfz7_2 := blk_frozen BK264.out 2
        go_wp2
        repeat (go_quiet (fail); try go_wp2)
        go_meet
        case rel => exact ⟨_, (true), (by first | rfl | (simp; done) | (simp [*]; done)), H', ⟨by first | omega | exact Nat.le_refl _⟩, ⟨by (with_reducible repeat (first | refine blk_drewN ?_ _ | refine blk_drew ?_ | refine blk_alloc ?_ _)); exact BK264.out⟩, ⟨by repeat (first | (with_reducible first | exact HB.out | apply below_alloc | apply pw_below_drewN | apply below_drew1 | refine below_set ?_ GE264.out) | exact HB.out)⟩⟩
      · rw [if_neg c6] at H
        have c6b0 : decide (20000 < a0_0) = false := decide_eq_false c6
        clear c6
        by_cases c8 : a0_2 < 1
        · rw [if_pos c8] at H
          have c8b0 : decide (a0_2 < 1) = true := decide_eq_true c8
          clear c8
          have H' := Aside0.mk H
          clear H
          have hcz9_0 : w3.cell? ⟨gb264, 0, none⟩ = some (.int .i64 a0_0) := (blk_cell BK264.out 0).trans rfl
          have hcz9_1 : w3.cell? ⟨gb264, 1, none⟩ = some (.int .i64 a0_1) := (blk_cell BK264.out 1).trans rfl
          have hcz9_2 : w3.cell? ⟨gb264, 2, none⟩ = some (.int .i64 a0_2) := (blk_cell BK264.out 2).trans rfl
          have hfz9_0 := blk_frozen BK264.out 0
          have hfz9_1 := blk_frozen BK264.out 1
          have hfz9_2 := blk_frozen BK264.out 2
          go_wp2
          repeat (go_quiet (fail); try go_wp2)
          go_meet
          case rel => exact ⟨_, (true), (by first | rfl | (simp; done) | (simp [*]; done)), H', ⟨by first | omega | exact Nat.le_refl _⟩, ⟨by (with_reducible repeat (first | refine blk_drewN ?_ _ | refine blk_drew ?_ | refine blk_alloc ?_ _)); exact BK264.out⟩, ⟨by repeat (first | (with_reducible first | exact HB.out | apply below_alloc | apply pw_below_drewN | apply below_drew1 | refine below_set ?_ GE264.out) | exact HB.out)⟩⟩
        · rw [if_neg c8] at H
          have c8b0 : decide (a0_2 < 1) = false := decide_eq_false c8
          clear c8
          replace H := Option.bind_eq_some_iff.mp H
          obtain ⟨t265, A100, H⟩ := H
          replace H : (julian_FromCoptic.j0 k (decide (a0_2 > t265)) a0_0 a0_1 a0_2) = some (r1, r2) := H
          have A10 := Aside0.mk A100
          clear A100
          have H' := Aside0.mk H
          clear H
          have hcz11_0 : w3.cell? ⟨gb264, 0, none⟩ = some (.int .i64 a0_0) := (blk_cell BK264.out 0).trans rfl
          have hcz11_1 : w3.cell? ⟨gb264, 1, none⟩ = some (.int .i64 a0_1) := (blk_cell BK264.out 1).trans rfl
          have hcz11_2 : w3.cell? ⟨gb264, 2, none⟩ = some (.int .i64 a0_2) := (blk_cell BK264.out 2).trans rfl
          have hfz11_0 := blk_frozen BK264.out 0
          have hfz11_1 := blk_frozen BK264.out 1
          have hfz11_2 := blk_frozen BK264.out 2
          go_wp2_with (first | (go_at_call 87; (with_reducible refine (julian_copticLength.calls k a0_0 a0_1 t265 _ A10.out).mono ?_); rintro e w' ⟨rfl, ⟨nd, rfl⟩⟩; (try first | exact ⟨rfl, _, World.drewN_drewN _ _ _⟩ | exact ⟨rfl, _, Eq.trans (World.drewN_drewN _ _ _) (congrArg (World.drewN _) (Nat.add_assoc _ _ _))⟩)))
          repeat (go_quiet (first | (go_at_call 87; (with_reducible refine (julian_copticLength.calls k a0_0 a0_1 t265 _ A10.out).mono ?_); rintro e w' ⟨rfl, ⟨nd, rfl⟩⟩; (try first | exact ⟨rfl, _, World.drewN_drewN _ _ _⟩ | exact ⟨rfl, _, Eq.trans (World.drewN_drewN _ _ _) (congrArg (World.drewN _) (Nat.add_assoc _ _ _))⟩))); try go_wp2_with (first | (go_at_call 87; (with_reducible refine (julian_copticLength.calls k a0_0 a0_1 t265 _ A10.out).mono ?_); rintro e w' ⟨rfl, ⟨nd, rfl⟩⟩; (try first | exact ⟨rfl, _, World.drewN_drewN _ _ _⟩ | exact ⟨rfl, _, Eq.trans (World.drewN_drewN _ _ _) (congrArg (World.drewN _) (Nat.add_assoc _ _ _))⟩))))
          go_meet
          case rel => exact ⟨_, (decide (a0_2 > t265)), (by first | rfl | (simp; done) | (simp [*]; done)), H', ⟨by first | omega | exact Nat.le_refl _⟩, ⟨by (with_reducible repeat (first | refine blk_drewN ?_ _ | refine blk_drew ?_ | refine blk_alloc ?_ _)); exact BK264.out⟩, ⟨by repeat (first | (with_reducible first | exact HB.out | apply below_alloc | apply pw_below_drewN | apply below_drew1 | refine below_set ?_ GE264.out) | exact HB.out)⟩⟩
  case rest =>
    clear HC2
    try clear p2
    try clear c4
    try clear c4b0
    try clear c6
    try clear c6b0
    try clear c8
    try clear c8b0
    try clear hcz11_0
    try clear hcz11_1
    try clear hcz11_2
    try clear hcz5_0
    try clear hcz5_1
    try clear hcz5_2
    try clear hcz7_0
    try clear hcz7_1
    try clear hcz7_2
    try clear hcz9_0
    try clear hcz9_1
    try clear hcz9_2
    try clear hfz11_0
    try clear hfz11_1
    try clear hfz11_2
    try clear hfz5_0
    try clear hfz5_1
    try clear hfz5_2
    try clear hfz7_0
    try clear hfz7_1
    try clear hfz7_2
    try clear hfz9_0
    try clear hfz9_1
    try clear hfz9_2
    obtain ⟨kq, x26_1, rfl, HA, HJ1, BK264, HB⟩ := hcut
    cases kq with
    | zero => exact absurd HA.out (by simp [julian_FromCoptic.j0])
    | succ kj1 =>
      have H := HA.out
      clear HA
      simp only [julian_FromCoptic.j0] at H
      by_cases c12 : x26_1 = true
      · subst c12
        have H1 : (some (0, 2)) = some (r1, r2) := by rw [if_pos rfl] at H; exact H
        clear H
        have H := H1
        clear H1
        simp only [Option.some.injEq, Prod.mk.injEq] at H
        obtain ⟨rfl, rfl⟩ := H
        go_wp2
        repeat (go_quiet (fail); try go_wp2)
        go_ret2
        exact ⟨by first | rfl | (simp [errW_none, errW_some] <;> rfl) | (simp [*, errW_none, errW_some] <;> rfl), by repeat (first | (with_reducible first | exact HB.out | apply below_alloc | apply pw_below_drewN | apply below_drew1 | refine below_set ?_ GE264.out) | exact HB.out)⟩
      · replace c12 := Bool.eq_false_iff.mpr c12
        subst c12
        have H1 : ((julian_copticAhead.f a0_0).bind fun t266 => ((julian_days.f (wrap64 ((wrap64 ((wrap64 (t266 + (wrap64 (30 * (wrap64 (a0_1 - 1)))))) + a0_2)) - 1))).bind fun bt267 => (some (bt267.1, bt267.2)))) = some (r1, r2) := by rw [if_neg (show ¬ (false = true) by decide)] at H; exact H
        clear H
        have H := H1
        clear H1
        replace H := Option.bind_eq_some_iff.mp H
        obtain ⟨t266, A130, H⟩ := H
        replace H : ((julian_days.f (wrap64 ((wrap64 ((wrap64 (t266 + (wrap64 (30 * (wrap64 (a0_1 - 1)))))) + a0_2)) - 1))).bind fun bt267 => (some (bt267.1, bt267.2))) = some (r1, r2) := H
        have A13 := Aside0.mk A130
        clear A130
        replace H := Option.bind_eq_some_iff.mp H
        obtain ⟨⟨t267, t268⟩, A140, H⟩ := H
        replace H : (some (t267, t268)) = some (r1, r2) := H
        have A14 := Aside0.mk A140
        clear A140
        simp only [Option.some.injEq, Prod.mk.injEq] at H
        obtain ⟨rfl, rfl⟩ := H
        have hcz15_0 : wc.cell? ⟨gb264, 0, none⟩ = some (.int .i64 a0_0) := (blk_cell BK264.out 0).trans rfl
        have hcz15_1 : wc.cell? ⟨gb264, 1, none⟩ = some (.int .i64 a0_1) := (blk_cell BK264.out 1).trans rfl
        have hcz15_2 : wc.cell? ⟨gb264, 2, none⟩ = some (.int .i64 a0_2) := (blk_cell BK264.out 2).trans rfl
        have hfz15_0 := blk_frozen BK264.out 0
        have hfz15_1 := blk_frozen BK264.out 1
        have hfz15_2 := blk_frozen BK264.out 2
        go_wp2_with (first | (go_at_call 67; (with_reducible refine (julian_copticAhead.calls a0_0 t266 _ A13.out).mono ?_); rintro e w' ⟨rfl, ⟨nd, rfl⟩⟩; (try first | exact ⟨rfl, _, World.drewN_drewN _ _ _⟩ | exact ⟨rfl, _, Eq.trans (World.drewN_drewN _ _ _) (congrArg (World.drewN _) (Nat.add_assoc _ _ _))⟩)) | (go_at_call 83; (with_reducible refine (julian_days.calls (wrap64 ((wrap64 ((wrap64 (t266 + (wrap64 (30 * (wrap64 (a0_1 - 1)))))) + a0_2)) - 1)) t267 t268 _ A14.out).mono ?_); rintro e w' ⟨rfl, ⟨nd, rfl⟩⟩; (try first | exact ⟨rfl, _, World.drewN_drewN _ _ _⟩ | exact ⟨rfl, _, Eq.trans (World.drewN_drewN _ _ _) (congrArg (World.drewN _) (Nat.add_assoc _ _ _))⟩)))
        repeat (go_quiet (first | (go_at_call 67; (with_reducible refine (julian_copticAhead.calls a0_0 t266 _ A13.out).mono ?_); rintro e w' ⟨rfl, ⟨nd, rfl⟩⟩; (try first | exact ⟨rfl, _, World.drewN_drewN _ _ _⟩ | exact ⟨rfl, _, Eq.trans (World.drewN_drewN _ _ _) (congrArg (World.drewN _) (Nat.add_assoc _ _ _))⟩)) | (go_at_call 83; (with_reducible refine (julian_days.calls (wrap64 ((wrap64 ((wrap64 (t266 + (wrap64 (30 * (wrap64 (a0_1 - 1)))))) + a0_2)) - 1)) t267 t268 _ A14.out).mono ?_); rintro e w' ⟨rfl, ⟨nd, rfl⟩⟩; (try first | exact ⟨rfl, _, World.drewN_drewN _ _ _⟩ | exact ⟨rfl, _, Eq.trans (World.drewN_drewN _ _ _) (congrArg (World.drewN _) (Nat.add_assoc _ _ _))⟩))); try go_wp2_with (first | (go_at_call 67; (with_reducible refine (julian_copticAhead.calls a0_0 t266 _ A13.out).mono ?_); rintro e w' ⟨rfl, ⟨nd, rfl⟩⟩; (try first | exact ⟨rfl, _, World.drewN_drewN _ _ _⟩ | exact ⟨rfl, _, Eq.trans (World.drewN_drewN _ _ _) (congrArg (World.drewN _) (Nat.add_assoc _ _ _))⟩)) | (go_at_call 83; (with_reducible refine (julian_days.calls (wrap64 ((wrap64 ((wrap64 (t266 + (wrap64 (30 * (wrap64 (a0_1 - 1)))))) + a0_2)) - 1)) t267 t268 _ A14.out).mono ?_); rintro e w' ⟨rfl, ⟨nd, rfl⟩⟩; (try first | exact ⟨rfl, _, World.drewN_drewN _ _ _⟩ | exact ⟨rfl, _, Eq.trans (World.drewN_drewN _ _ _) (congrArg (World.drewN _) (Nat.add_assoc _ _ _))⟩))))
        go_ret2
        exact ⟨by first | rfl | (simp [errW_none, errW_some] <;> rfl) | (simp [*, errW_none, errW_some] <;> rfl), by repeat (first | (with_reducible first | exact HB.out | apply below_alloc | apply pw_below_drewN | apply below_drew1 | refine below_set ?_ GE264.out) | exact HB.out)⟩

-- NOT PRINTED: function 15 (show_Day)
end Go.Proofs.YtgbbgcepcnklkaaDoor.Q
/- What the program's Coptic dates (package julian) are, in plain numbers. -/
namespace Go.Proofs.YtgbbgcepcnklkaaDoor.FunK
open Go.RowKit Go.Proofs.YtgbbgcepcnklkaaDoorW.PrintWords Go.Proofs.YtgbbgcepcnklkaaDoorW.PrintLast Go.Proofs.YtgbbgcepcnklkaaDoor.Q Go.Proofs.YtgbbgcepcnklkaaDoor.Cal Go.Proofs.YtgbbgcepcnklkaaDoor.FunA Go.Proofs.YtgbbgcepcnklkaaDoor.FunC Go.Proofs.YtgbbgcepcnklkaaDoor.FunJ
theorem kbd (y : Int) (h : -40000 ≤ y) (h' : y ≤ 40000) : -15000000 ≤ cb y ∧ cb y ≤ 15000000 := by unfold cb; omega
theorem kAhead (y : Int) (h : -40000 ≤ y) (h' : y ≤ 40000) : julian_copticAhead.f y = some (cb y + 1) := by
  unfold julian_copticAhead.f
  rw [rFloor _ 4 (by omega) ⟨by omega, by omega⟩, Option.bind_some, w64 (x := y - 1) (by omega) (by omega)]
  congr 1
  unfold cb wrap64; omega
/-- Days of a Coptic month. -/
def clen (y m : Int) : Int := if m < 1 ∨ 13 < m then 0 else if m = 13 then lc y else 30
theorem clen_pos (y m : Int) (h : 0 < clen y m) : 1 ≤ m ∧ m ≤ 13 ∧ clen y m ≤ 30 := by
  have := lc_56 y
  unfold clen at h ⊢
  by_cases c : m < 1 ∨ 13 < m
  · rw [if_pos c] at h; omega
  · rw [if_neg c]; split <;> omega
theorem kLength (k : Nat) (hk : 1 ≤ k) (y m : Int) (hy : I64 y) : julian_copticLength.f k y m = some (clen y m) := by
  obtain ⟨k, rfl⟩ : ∃ j, k = j + 1 := ⟨k - 1, by omega⟩
  unfold julian_copticLength.f clen
  by_cases a : m < 1
  · rw [if_pos a, if_pos (Or.inl a)]; simp only [julian_copticLength.j0, if_true]
  · rw [if_neg a]
    by_cases b : m > 13
    · rw [decide_eq_true b, if_pos (Or.inr b)]; simp only [julian_copticLength.j0, if_true]
    · rw [decide_eq_false b, if_neg (by omega)]
      simp only [julian_copticLength.j0]
      rw [if_neg (by simp)]
      by_cases c : m < 13
      · rw [if_pos c, if_neg (by omega)]
      · rw [if_neg c, if_pos (by omega), rMod y 4 (by omega) (by omega) hy, Option.bind_some]
        unfold lc
        by_cases d : y % 4 = 3
        · rw [if_pos d, if_pos d]
        · rw [if_neg d, if_neg d]
/-- A Coptic date of the years that are asked. -/
def RightC (y m d : Int) : Prop := -20000 ≤ y ∧ y ≤ 20000 ∧ 1 ≤ d ∧ d ≤ clen y m
theorem kFrom_no (k : Nat) (hk : 2 ≤ k) (y m d : Int) (h : ¬ RightC y m d) : julian_FromCoptic.f k y m d = some (0, 2) := by
  have key : julian_FromCoptic.j0 k true y m d = some (0, 2) := by
    obtain ⟨k, rfl⟩ : ∃ j, k = j + 1 := ⟨k - 1, by omega⟩
    simp only [julian_FromCoptic.j0, if_true]
  unfold julian_FromCoptic.f
  by_cases a : y < -20000
  · rw [if_pos a, key]
  · by_cases b : y > 20000
    · rw [if_neg a, if_pos b, key]
    · by_cases c : d < 1
      · rw [if_neg a, if_neg b, if_pos c, key]
      · rw [if_neg a, if_neg b, if_neg c, kLength k (by omega) y m ⟨by omega, by omega⟩, Option.bind_some, decide_eq_true (show d > clen y m from by
          by_cases e : d ≤ clen y m
          · exact absurd ⟨by omega, by omega, by omega, e⟩ h
          · omega), key]
theorem kFrom_yes (k : Nat) (hk : 2 ≤ k) (y m d : Int) (h : RightC y m d) : julian_FromCoptic.f k y m d = some (dayOr (cb y + 30 * (m - 1) + d)) := by
  obtain ⟨h1, h2, h3, h4⟩ := h
  have hm := clen_pos y m (by omega)
  have hb := kbd y (by omega) (by omega)
  unfold julian_FromCoptic.f
  rw [if_neg (by omega), if_neg (by omega), if_neg (by omega), kLength k (by omega) y m ⟨by omega, by omega⟩, Option.bind_some, decide_eq_false (by omega)]
  obtain ⟨k, rfl⟩ : ∃ j, k = j + 1 := ⟨k - 1, by omega⟩
  simp only [julian_FromCoptic.j0]
  rw [if_neg (by simp), kAhead y (by omega) (by omega), Option.bind_some, w64 (x := m - 1) (by omega) (by omega), w64 (x := 30 * (m - 1)) (by omega) (by omega), w64 (x := cb y + 1 + 30 * (m - 1)) (by omega) (by omega), w64 (x := cb y + 1 + 30 * (m - 1) + d) (by omega) (by omega), w64 (x := cb y + 1 + 30 * (m - 1) + d - 1) (by omega) (by omega), jDays]
  have e : cb y + 1 + 30 * (m - 1) + d - 1 = cb y + 30 * (m - 1) + d := by omega
  rw [e]; rfl
end Go.Proofs.YtgbbgcepcnklkaaDoor.FunK
/- Plain laws of the Islamic and the Persian calendar over whole numbers: no program in sight. -/
namespace Go.Proofs.YtgbbgcepcnklkaaDoor.Cal3
open Go.RowKit Go.Proofs.YtgbbgcepcnklkaaDoor.Cal
/-- Days ahead of an Islamic year. -/
def ib (y : Int) : Int := 227014 + 354 * (y - 1) + (3 + 11 * y) / 30
def li (y : Int) : Int := if (14 + 11 * y) % 30 < 11 then 1 else 0
theorem li_01 (y : Int) : li y = 0 ∨ li y = 1 := by unfold li; split <;> simp
theorem ib_succ (y : Int) : ib (y + 1) = ib y + 354 + li y := by
  unfold ib li
  rw [show 3 + 11 * (y + 1) = 14 + 11 * y by omega, show 3 + 11 * y = 14 + 11 * y - 11 by omega]
  generalize 14 + 11 * y = t
  split <;> omega
/-- Days of an Islamic year ahead of a month. -/
def ic (m : Int) : Int := 29 * (m - 1) + (6 * m - 1) / 11
/-- Days of an Islamic month. -/
def il (l m : Int) : Int := if m < 1 ∨ 12 < m then 0 else if m % 2 = 1 then 30 else if m = 12 then 29 + l else 29
theorem ic_succ (l m : Int) (h1 : 1 ≤ m) (h2 : m < 12) : ic (m + 1) = ic m + il l m := by
  rcases (by omega : m = 1 ∨ m = 2 ∨ m = 3 ∨ m = 4 ∨ m = 5 ∨ m = 6 ∨ m = 7 ∨ m = 8 ∨ m = 9 ∨ m = 10 ∨ m = 11) with h | h | h | h | h | h | h | h | h | h | h <;> subst h <;> simp [ic, il]
theorem ic_end (l : Int) : ic 12 + il l 12 = 354 + l := by unfold ic il; simp; omega
theorem il_lo (l m : Int) (hl : l = 0 ∨ l = 1) (h1 : 1 ≤ m) (h2 : m ≤ 12) : 29 ≤ il l m ∧ il l m ≤ 30 := by
  unfold il; rw [if_neg (by omega)]; split
  · omega
  · split <;> omega
theorem il_pos (l m : Int) (h : 0 < il l m) : 1 ≤ m ∧ m ≤ 12 := by
  unfold il at h; split at h <;> omega
theorem ic_bd {m : Int} (h1 : 1 ≤ m) (h2 : m ≤ 13) : 0 ≤ ic m ∧ ic m ≤ 360 := by unfold ic; omega
structure IsI (y m d day : Int) : Prop where
  m1 : 1 ≤ m
  m2 : m ≤ 12
  d1 : 1 ≤ d
  d2 : d ≤ il (li y) m
  e : day = ib y + ic m + d
theorem ib_le {x y : Int} (h : x ≤ y) : ib x + 354 * (y - x) ≤ ib y := by unfold ib; omega
theorem IsI.year {y m d day : Int} (h : IsI y m d day) : ib y < day ∧ day ≤ ib (y + 1) := by
  have h1 := h.m1; have h2 := h.m2; have h3 := h.d1; have h4 := h.d2; have h5 := h.e
  have s := ib_succ y; have l := li_01 y
  have b := ic_bd h1 (by omega)
  have hx : ic m + il (li y) m ≤ 354 + li y := by
    by_cases c : m = 12
    · subst c; have := ic_end (li y); omega
    · have := ic_succ (li y) m h1 (by omega)
      have : ic (m + 1) ≤ 340 := by unfold ic; omega
      omega
  omega
theorem ic_mono {a b : Int} (h : a < b) (h1 : 1 ≤ a) (h2 : b ≤ 12) (l : Int) : ic a + il l a ≤ ic b := by
  have := ic_succ l a h1 (by omega)
  unfold ic at *; omega
theorem IsI.one {y m d y' m' d' day : Int} (h : IsI y m d day) (h' : IsI y' m' d' day) : y = y' ∧ m = m' ∧ d = d' := by
  have a := h.year; have a' := h'.year
  have ey : y = y' := by
    by_cases b : y < y'
    · have := ib_le (show y + 1 ≤ y' by omega); omega
    · by_cases b' : y' < y
      · have := ib_le (show y' + 1 ≤ y by omega); omega
      · omega
  subst ey
  have := h.e; have := h'.e; have := h.d1; have := h'.d1; have := h.d2; have := h'.d2; have := h.m1; have := h.m2; have := h'.m1; have := h'.m2
  have em : m = m' := by
    by_cases a : m < m'
    · have := ic_mono a (by omega) (by omega) (li y); omega
    · by_cases a' : m' < m
      · have := ic_mono a' (by omega) (by omega) (li y); omega
      · omega
  subst em
  exact ⟨rfl, rfl, by omega⟩
/-- A Persian year, counted without a year 0, from the base on. -/
def ps (y : Int) : Int := if y > 0 then y - 474 else y - 473
def pc (z : Int) : Int := z % 2820 + 474
/-- Days ahead of a Persian year, by its place. -/
def pz (z : Int) : Int := 226895 + 1029983 * (z / 2820) + 365 * (pc z - 1) + (31 * pc z - 5) / 128
def pl (z : Int) : Int := if ((pc z + 38) * 31) % 128 < 31 then 1 else 0
theorem pl_01 (z : Int) : pl z = 0 ∨ pl z = 1 := by unfold pl; split <;> simp
theorem pz_succ (z : Int) : pz (z + 1) = pz z + 365 + pl z := by
  have key : ∀ q r : Int, z = 2820 * q + r → 0 ≤ r → r < 2820 → pz (z + 1) = pz z + 365 + pl z := by
    intro q r h1 h2 h3
    have e1 : z / 2820 = q := by omega
    have e2 : z % 2820 = r := by omega
    unfold pz pl pc
    rw [e1, e2]
    by_cases c : r = 2819
    · subst c
      have e3 : (z + 1) / 2820 = q + 1 := by omega
      have e4 : (z + 1) % 2820 = 0 := by omega
      rw [e3, e4]
      simp
      omega
    · have e3 : (z + 1) / 2820 = q := by omega
      have e4 : (z + 1) % 2820 = r + 1 := by omega
      rw [e3, e4]
      rw [show (r + 474 + 38) * 31 = 31 * r + 14720 + 1152 by omega, show 31 * (r + 1 + 474) - 5 = 31 * r + 14720 by omega, show 31 * (r + 474) - 5 = 31 * r + 14720 - 31 by omega]
      generalize 31 * r + 14720 = t
      split <;> omega
  exact key (z / 2820) (z % 2820) (by omega) (by omega) (by omega)
theorem pz_mono (a : Int) : ∀ n : Nat, pz a + 365 * n ≤ pz (a + n)
  | 0 => by simp
  | n + 1 => by
    have h := pz_mono a n
    have h1 := pz_succ (a + n)
    have h2 := pl_01 (a + n)
    have e : a + ((n + 1 : Nat) : Int) = a + n + 1 := by omega
    rw [e]; omega
theorem pz_le {a b : Int} (h : a ≤ b) : pz a + 365 * (b - a) ≤ pz b := by
  have := pz_mono a (b - a).toNat
  have e : a + ((b - a).toNat : Int) = b := by omega
  rw [e] at this; omega
def pcum (m : Int) : Int := if m ≤ 7 then 31 * (m - 1) else 30 * (m - 1) + 6
def pdim (l m : Int) : Int := if m < 1 ∨ 12 < m then 0 else if m ≤ 6 then 31 else if m < 12 then 30 else 29 + l
theorem pcum_succ (l m : Int) (h1 : 1 ≤ m) (h2 : m < 12) : pcum (m + 1) = pcum m + pdim l m := by
  unfold pcum pdim; rw [if_neg (show ¬ (m < 1 ∨ 12 < m) by omega)]
  repeat' split
  all_goals omega
theorem pcum_end (l : Int) : pcum 12 + pdim l 12 = 365 + l := by unfold pcum pdim; simp; omega
theorem pdim_lo (l m : Int) (hl : l = 0 ∨ l = 1) (h1 : 1 ≤ m) (h2 : m ≤ 12) : 29 ≤ pdim l m ∧ pdim l m ≤ 31 := by
  unfold pdim; rw [if_neg (by omega)]
  repeat' split
  all_goals omega
theorem pdim_pos (l m : Int) (h : 0 < pdim l m) : 1 ≤ m ∧ m ≤ 12 := by
  unfold pdim at h; split at h <;> omega
theorem pcum_bd {m : Int} (h1 : 1 ≤ m) (h2 : m ≤ 13) : 0 ≤ pcum m ∧ pcum m ≤ 366 := by unfold pcum; split <;> omega
structure IsP (y m d day : Int) : Prop where
  m1 : 1 ≤ m
  m2 : m ≤ 12
  d1 : 1 ≤ d
  d2 : d ≤ pdim (pl (ps y)) m
  e : day = pz (ps y) + pcum m + d
theorem pcum_le {a b : Int} (h : a < b) (h1 : 1 ≤ a) (h2 : b ≤ 12) (l : Int) : pcum a + pdim l a ≤ pcum b := by
  have := pcum_succ l a h1 (by omega)
  unfold pcum at *
  repeat' split at *
  all_goals omega
theorem IsP.year {y m d day : Int} (h : IsP y m d day) : pz (ps y) < day ∧ day ≤ pz (ps y + 1) := by
  have h1 := h.m1; have h2 := h.m2; have h3 := h.d1; have h4 := h.d2; have h5 := h.e
  have s := pz_succ (ps y); have l := pl_01 (ps y)
  have b := pcum_bd h1 (by omega)
  have e := pcum_end (pl (ps y))
  by_cases c : m = 12
  · subst c; omega
  · have := pcum_le (show m < 12 by omega) h1 (by omega) (pl (ps y))
    have := (pdim_lo (pl (ps y)) 12 l (by omega) (by omega)).1
    omega
theorem ps_inj {y y' : Int} (h : y ≠ 0) (h' : y' ≠ 0) (e : ps y = ps y') : y = y' := by
  unfold ps at e; split at e <;> split at e <;> omega
theorem IsP.one {y m d y' m' d' day : Int} (n : y ≠ 0) (n' : y' ≠ 0) (h : IsP y m d day) (h' : IsP y' m' d' day) : y = y' ∧ m = m' ∧ d = d' := by
  have a := h.year; have a' := h'.year
  have ey : y = y' := by
    apply ps_inj n n'
    by_cases b : ps y < ps y'
    · have := pz_le (show ps y + 1 ≤ ps y' by omega); omega
    · by_cases b' : ps y' < ps y
      · have := pz_le (show ps y' + 1 ≤ ps y by omega); omega
      · omega
  subst ey
  have := h.e; have := h'.e; have := h.d1; have := h'.d1; have := h.d2; have := h'.d2; have := h.m1; have := h.m2; have := h'.m1; have := h'.m2
  have em : m = m' := by
    by_cases a : m < m'
    · have := pcum_le a (by omega) (by omega) (pl (ps y)); omega
    · by_cases a' : m' < m
      · have := pcum_le a' (by omega) (by omega) (pl (ps y)); omega
      · omega
  subst em
  exact ⟨rfl, rfl, by omega⟩
/-- The Persian year behind one. -/
def pn (y : Int) : Int := if y = -1 then 1 else y + 1
theorem pn_ps {y : Int} (h : y ≠ 0) : ps (pn y) = ps y + 1 ∧ pn y ≠ 0 := by
  unfold pn ps; repeat' split
  all_goals omega
end Go.Proofs.YtgbbgcepcnklkaaDoor.Cal3
