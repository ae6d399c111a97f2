/- Texts of this claim, merged: QjulB, FunJ, Cal3. -/
import Derived.Test.YtgbbgcepcnklkaaDoorMgShowLines1
import Derived.Test.YtgbbgcepcnklkaaDoorMgShowLines5
import Derived.Test.YtgbbgcepcnklkaaDoorMgShowLines3
-- written by a program of this session (wip/own_print.sh)
namespace Go.Proofs.YtgbbgcepcnklkaaDoor.Q
open Go.RowKit Go.Proofs.YtgbbgcepcnklkaaDoorW.PrintWords Go.Proofs.YtgbbgcepcnklkaaDoorW.PrintLast Go.Proofs.YtgbbgcepcnklkaaDoorW.PrintMore
attribute [local go_sem] max2_int min2_int max_two min_two
set_option linter.unusedVariables false
set_option linter.unusedSimpArgs false
/-! ### julian_Julian: function 19 -/
mutual
def julian_Julian.l0 : Nat → Int → Int → Int → Int → Option (Int × Int × Int × Int)
 | 0, _, _, _, _ => none
 | k + 1, x4, x122000, x122001, x122002 => (julian_ahead.f x122000).bind fun t122 => (if t122 > x4 then (julian_Julian.l0 k x4 (wrap64 (x122000 - 1)) x122001 x122002) else ((julian_ahead.f x122000).bind fun t123 => (julian_Julian.l1 k (wrap64 (x4 - t123)) x122000 x122001 x122002)))
def julian_Julian.l1 : Nat → Int → Int → Int → Int → Option (Int × Int × Int × Int)
 | 0, _, _, _, _ => none
 | k + 1, x4, x122000, x122001, x122002 => (julian_length.f k x122000 x122001).bind fun t124 => (if x4 ≥ t124 then ((julian_length.f k x122000 x122001).bind fun t125 => (julian_Julian.l1 k (wrap64 (x4 - t125)) x122000 (wrap64 (x122001 + 1)) x122002)) else (some (x122000, x122001, wrap64 (x4 + 1), 0)))
end
def julian_Julian.f (k : Nat) (a0 : Int) : Option (Int × Int × Int × Int) := (rata_Of.f a0).bind fun t119 => (if t119 = true then ((rata_Floor.f (wrap64 ((wrap64 (4 * (wrap64 (a0 + 1)))) + 1464)) 1461).bind fun t120 => (julian_Julian.l0 k (wrap64 (a0 + 1)) t120 1 0)) else (some (0, 0, 0, 2)))
set_option maxHeartbeats 8000000 in
set_option maxRecDepth 100000 in
theorem julian_Julian.calls (k : Nat) (a0 : Int) (r1 : Int) (r2 : Int) (r3 : Int) (r4 : Int) (w : World) (h : julian_Julian.f k a0 = some (r1, r2, r3, r4)) :
  Calls Tryd.prog 19 #[.int .i64 a0] w fun e w' => e = .returned (.tuple #[.agg #[.int .i64 r1, .int .i64 r2, .int .i64 r3], .int .i64 r4]) ∧ Below w.heap.size w w' := by
 have hu24 := Tryd.underlying24
 have HB := Aside0.mk (Below.refl w.heap.size w)
 have H : ((rata_Of.f a0).bind fun t119 => (if t119 = true then ((rata_Floor.f (wrap64 ((wrap64 (4 * (wrap64 (a0 + 1)))) + 1464)) 1461).bind fun t120 => (julian_Julian.l0 k (wrap64 (a0 + 1)) t120 1 0)) else (some (0, 0, 0, 2)))) = some (r1, r2, r3, r4) := h
 clear h
 replace H := Option.bind_eq_some_iff.mp H
 obtain ⟨t119, A20, H⟩ := H
 replace H : (if t119 = true then ((rata_Floor.f (wrap64 ((wrap64 (4 * (wrap64 (a0 + 1)))) + 1464)) 1461).bind fun t120 => (julian_Julian.l0 k (wrap64 (a0 + 1)) t120 1 0)) else (some (0, 0, 0, 2))) = some (r1, r2, r3, r4) := H
 have A2 := Aside0.mk A20
 clear A20
 by_cases c3 : t119 = true
 ·subst c3
  have H1 : ((rata_Floor.f (wrap64 ((wrap64 (4 * (wrap64 (a0 + 1)))) + 1464)) 1461).bind fun t120 => (julian_Julian.l0 k (wrap64 (a0 + 1)) t120 1 0)) = some (r1, r2, r3, r4) := by rw [if_pos rfl] at H; exact H
  clear H
  have H := H1
  clear H1
  replace H := Option.bind_eq_some_iff.mp H
  obtain ⟨t120, A40, H⟩ := H
  replace H : (julian_Julian.l0 k (wrap64 (a0 + 1)) t120 1 0) = some (r1, r2, r3, r4) := H
  have A4 := Aside0.mk A40
  clear A40
  have H' := Aside0.mk H
  clear H
  go_enter Tryd.func19, Tryd.ntmps19
  go_wp2_with (first | ((with_reducible refine gate_dst (N := 2) rfl ?_); refine box_event ?hg (N := 2) ?hd (cs := #[.int .i64 0, .int .i64 0, .int .i64 0]) (t := 24) ?hr ?_; (case hd => rfl); (case hg => rfl); (case hr => first | (go_simp; done) | (go_simp; rfl)); intro gb118 hg w5 hbox hb; have n0_ := Aside0.mk (below_step (by repeat (first | (with_reducible first | exact HB.out | apply below_alloc | apply pw_below_drewN | apply below_drew1) | exact HB.out)) hb); have n1_ := Aside0.mk (hbox); have n2_ := Aside0.mk ((by rw [hg]; exact (below_size (by repeat (first | (with_reducible first | exact HB.out | apply below_alloc | apply pw_below_drewN | apply below_drew1) | exact HB.out))) : w.heap.size ≤ gb118)); have n3_ := Aside0.mk ((by rw [hg]; exact (below_size (by repeat (first | (with_reducible first | exact HB.out | apply below_alloc | apply pw_below_drewN | apply below_drew1) | exact HB.out))) : w.heap.size ≤ gb118)); clear HB; have HB := n0_; have BK118 := n1_; have GW118 := n2_; have GE118 := n3_; clear n0_ n1_ n2_ n3_; clear hb hbox hg) | ((with_reducible refine gate_callee (f := 49) rfl ?_); refine goesL_ (some 7) rfl rfl Tryd.func49 (by kernel_rfl) rfl #[.int .i64 a0] rfl (by (try simp only [List.map_toArray, List.map_cons, List.map_nil]); first | done | rfl | (simp only [List.length_drop, List.length_take]; rfl)) ?_; (with_reducible refine (rata_Of.calls a0 true _ A2.out).mono ?_); rintro e w' ⟨rfl, ⟨nd, rfl⟩⟩; refine ⟨_, rfl, ?_⟩; (try (rw [drewN_self w5]; generalize hq_ : World.drewN w5 _ = w5; have n0_ : Aside0 (w5.heap[gb118]? = some (.cells #[.int .i64 0, .int .i64 0, .int .i64 0] 24 (0, 0))) := ⟨by rw [← hq_]; exact (by (with_reducible repeat (first | refine blk_drewN ?_ _ | refine blk_drew ?_ | refine blk_alloc ?_ _)); exact BK118.out)⟩; have n1_ : Aside0 (Below w.heap.size w w5) := ⟨by rw [← hq_]; exact (by repeat (first | (with_reducible first | exact HB.out | apply below_alloc | apply pw_below_drewN | apply below_drew1 | refine below_set ?_ GE118.out) | exact HB.out))⟩; clear BK118 HB hq_; have BK118 := n0_; have HB := n1_; clear n0_ n1_)); (try (have hcz6_0 : w5.cell? ⟨gb118, 0, none⟩ = some (.int .i64 0) := (blk_cell BK118.out 0).trans rfl; have hcz6_1 : w5.cell? ⟨gb118, 1, none⟩ = some (.int .i64 0) := (blk_cell BK118.out 1).trans rfl; have hcz6_2 : w5.cell? ⟨gb118, 2, none⟩ = some (.int .i64 0) := (blk_cell BK118.out 2).trans rfl; have hfz6_0 := blk_frozen BK118.out 0; have hfz6_1 := blk_frozen BK118.out 1; have hfz6_2 := blk_frozen BK118.out 2))) | ((with_reducible refine gate_callee (f := 53) rfl ?_); refine goesL_ (some 15) rfl rfl Tryd.func53 (by kernel_rfl) rfl #[.int .i64 (wrap64 ((wrap64 (4 * (wrap64 (a0 + 1)))) + 1464)), .int .i64 1461] rfl (by (try simp only [List.map_toArray, List.map_cons, List.map_nil]); first | done | rfl | (simp only [List.length_drop, List.length_take]; rfl)) ?_; (with_reducible refine (rata_Floor.calls (wrap64 ((wrap64 (4 * (wrap64 (a0 + 1)))) + 1464)) 1461 t120 _ A4.out).mono ?_); rintro e w' ⟨rfl, ⟨nd, rfl⟩⟩; refine ⟨_, rfl, ?_⟩; (try (rw [drewN_self w5]; generalize hq_ : World.drewN w5 _ = w5; have n0_ : Aside0 (w5.heap[gb118]? = some (.cells #[.int .i64 0, .int .i64 0, .int .i64 0] 24 (0, 0))) := ⟨by rw [← hq_]; exact (by (with_reducible repeat (first | refine blk_drewN ?_ _ | refine blk_drew ?_ | refine blk_alloc ?_ _)); exact BK118.out)⟩; have n1_ : Aside0 (Below w.heap.size w w5) := ⟨by rw [← hq_]; exact (by repeat (first | (with_reducible first | exact HB.out | apply below_alloc | apply pw_below_drewN | apply below_drew1 | refine below_set ?_ GE118.out) | exact HB.out))⟩; clear BK118 HB hq_; have BK118 := n0_; have HB := n1_; clear n0_ n1_)); (try (have hcz7_0 : w5.cell? ⟨gb118, 0, none⟩ = some (.int .i64 0) := (blk_cell BK118.out 0).trans rfl; have hcz7_1 : w5.cell? ⟨gb118, 1, none⟩ = some (.int .i64 0) := (blk_cell BK118.out 1).trans rfl; have hcz7_2 : w5.cell? ⟨gb118, 2, none⟩ = some (.int .i64 0) := (blk_cell BK118.out 2).trans rfl; have hfz7_0 := blk_frozen BK118.out 0; have hfz7_1 := blk_frozen BK118.out 1; have hfz7_2 := blk_frozen BK118.out 2))) | ((with_reducible refine gate_dst (N := 5) rfl ?_); refine box_event ?hg (N := 5) ?hd (cs := #[.int .i64 0, .int .i64 0, .int .i64 0]) (t := 24) ?hr ?_; (case hd => rfl); (case hg => rfl); (case hr => first | (go_simp; done) | (go_simp; rfl)); intro gb121 hg w8 hbox hb; have n0_ := Aside0.mk (blk_below (g := gb118) (o := .cells #[.int .i64 0, .int .i64 0, .int .i64 0] 24 (0, 0)) (by (with_reducible repeat (first | refine blk_drewN ?_ _ | refine blk_drew ?_ | refine blk_alloc ?_ _)); exact BK118.out) hb); have n1_ := Aside0.mk (below_step (by repeat (first | (with_reducible first | exact HB.out | apply below_alloc | apply pw_below_drewN | apply below_drew1 | refine below_set ?_ GE118.out) | exact HB.out)) hb); have n2_ := Aside0.mk (hbox); have n3_ := Aside0.mk ((by rw [hg]; exact (below_size (by repeat (first | (with_reducible first | exact HB.out | apply below_alloc | apply pw_below_drewN | apply below_drew1 | refine below_set ?_ GE118.out) | exact HB.out))) : w.heap.size ≤ gb121)); have n4_ := Aside0.mk ((by rw [hg]; exact (below_size (by repeat (first | (with_reducible first | exact HB.out | apply below_alloc | apply pw_below_drewN | apply below_drew1 | refine below_set ?_ GE118.out) | exact HB.out))) : w.heap.size ≤ gb121)); have n5_ := Aside0.mk ((by rw [hg]; exact Nat.ne_of_lt (blk_lt (g := gb118) (o := .cells #[.int .i64 0, .int .i64 0, .int .i64 0] 24 (0, 0)) (by (with_reducible repeat (first | refine blk_drewN ?_ _ | refine blk_drew ?_ | refine blk_alloc ?_ _)); exact BK118.out)) : gb118 ≠ gb121)); have n6_ := Aside0.mk ((by rw [hg]; exact Nat.ne_of_gt (blk_lt (g := gb118) (o := .cells #[.int .i64 0, .int .i64 0, .int .i64 0] 24 (0, 0)) (by (with_reducible repeat (first | refine blk_drewN ?_ _ | refine blk_drew ?_ | refine blk_alloc ?_ _)); exact BK118.out)) : gb121 ≠ gb118)); clear BK118; clear HB; have BK118 := n0_; have HB := n1_; have BK121 := n2_; have GW121 := n3_; have GE121 := n4_; have NB118_121 := n5_; have NB121_118 := n6_; clear n0_ n1_ n2_ n3_ n4_ n5_ n6_; clear hb hbox hg; have hnb9 := NB121_118.out; have hnc9 := NB118_121.out; have hcz10_0 : w8.cell? ⟨gb121, 0, none⟩ = some (.int .i64 0) := (blk_cell BK121.out 0).trans rfl; have hcz10_1 : w8.cell? ⟨gb121, 1, none⟩ = some (.int .i64 0) := (blk_cell BK121.out 1).trans rfl; have hcz10_2 : w8.cell? ⟨gb121, 2, none⟩ = some (.int .i64 0) := (blk_cell BK121.out 2).trans rfl; have hfz10_0 := blk_frozen BK121.out 0; have hfz10_1 := blk_frozen BK121.out 1; have hfz10_2 := blk_frozen BK121.out 2))
  go_loopg [] k (fun kq w' => ∃ (x122000_1 : Int), Aside0 (julian_Julian.l0 kq (wrap64 (a0 + 1)) x122000_1 1 0 = some (r1, r2, r3, r4)) ∧ Aside0 (kq ≤ k) ∧ Aside0 (w'.heap[gb118]? = some (.cells #[.int .i64 0, .int .i64 0, .int .i64 0] 24 (0, 0))) ∧ Aside0 (w'.heap[gb121]? = some (.cells #[.int .i64 x122000_1, .int .i64 1, .int .i64 0] 24 (0, 0))) ∧ Aside0 (Below w.heap.size w w'))
  case atStart => exact ⟨(t120), H', ⟨Nat.le_refl _⟩, ⟨by (with_reducible repeat (first | refine blk_drewN ?_ _ | refine blk_drew ?_ | refine blk_alloc ?_ _)); refine blk_far ?_ NB118_121.out _; (with_reducible repeat (first | refine blk_drewN ?_ _ | refine blk_drew ?_ | refine blk_alloc ?_ _)); refine blk_far ?_ NB118_121.out _; (with_reducible repeat (first | refine blk_drewN ?_ _ | refine blk_drew ?_ | refine blk_alloc ?_ _)); refine blk_far ?_ NB118_121.out _; (with_reducible repeat (first | refine blk_drewN ?_ _ | refine blk_drew ?_ | refine blk_alloc ?_ _)); exact BK118.out⟩, ⟨by (with_reducible repeat (first | refine blk_drewN ?_ _ | refine blk_drew ?_ | refine blk_alloc ?_ _)); refine blk_put (cs := #[.int .i64 t120, .int .i64 1, .int .i64 0]) ?_ 2 _ rfl; (with_reducible repeat (first | refine blk_drewN ?_ _ | refine blk_drew ?_ | refine blk_alloc ?_ _)); refine blk_put (cs := #[.int .i64 t120, .int .i64 0, .int .i64 0]) ?_ 1 _ rfl; (with_reducible repeat (first | refine blk_drewN ?_ _ | refine blk_drew ?_ | refine blk_alloc ?_ _)); refine blk_put (cs := #[.int .i64 0, .int .i64 0, .int .i64 0]) ?_ 0 _ rfl; (with_reducible repeat (first | refine blk_drewN ?_ _ | refine blk_drew ?_ | refine blk_alloc ?_ _)); exact BK121.out⟩, ⟨by repeat (first | (with_reducible first | exact HB.out | apply below_alloc | apply pw_below_drewN | apply below_drew1 | refine below_set ?_ GE118.out | refine below_set ?_ GE121.out) | exact HB.out)⟩⟩
  case round =>
   clear H'
   try clear c1
   try clear p2
   try clear c3
   try clear c4
   try clear c5
   try clear p6
   try clear c9
   try clear hcz10_0
   try clear hcz10_1
   try clear hcz10_2
   try clear hcz6_0
   try clear hcz6_1
   try clear hcz6_2
   try clear hcz7_0
   try clear hcz7_1
   try clear hcz7_2
   try clear hfz10_0
   try clear hfz10_1
   try clear hfz10_2
   try clear hfz6_0
   try clear hfz6_1
   try clear hfz6_2
   try clear hfz7_0
   try clear hfz7_1
   try clear hfz7_2
   obtain ⟨x122000_1, HA, HK1, BK118, BK121, HB⟩ := hrel
   cases gk with
   | zero => exact absurd HA.out (by simp [julian_Julian.l0])
   | succ k1 =>
    have H := HA.out
    clear HA
    simp only [julian_Julian.l0] at H
    replace H := Option.bind_eq_some_iff.mp H
    obtain ⟨t122, A110, H⟩ := H
    replace H : (if t122 > (wrap64 (a0 + 1)) then (julian_Julian.l0 k1 (wrap64 (a0 + 1)) (wrap64 (x122000_1 - 1)) 1 0) else ((julian_ahead.f x122000_1).bind fun t123 => (julian_Julian.l1 k1 (wrap64 ((wrap64 (a0 + 1)) - t123)) x122000_1 1 0))) = some (r1, r2, r3, r4) := H
    have A11 := Aside0.mk A110
    clear A110
    by_cases c12 : t122 > (wrap64 (a0 + 1))
    ·rw [if_pos c12] at H
     have c12b0 : decide ((wrap64 (a0 + 1)) < t122) = true := decide_eq_true c12
     clear c12
     have H' := Aside0.mk H
     clear H
     have hnb13 := NB121_118.out
     have hnc13 := NB118_121.out
     have hcz14_0 : wr.cell? ⟨gb121, 0, none⟩ = some (.int .i64 x122000_1) := (blk_cell BK121.out 0).trans rfl
     have hcz14_1 : wr.cell? ⟨gb121, 1, none⟩ = some (.int .i64 1) := (blk_cell BK121.out 1).trans rfl
     have hcz14_2 : wr.cell? ⟨gb121, 2, none⟩ = some (.int .i64 0) := (blk_cell BK121.out 2).trans rfl
     have hfz14_0 := blk_frozen BK121.out 0
     have hfz14_1 := blk_frozen BK121.out 1
     have hfz14_2 := blk_frozen BK121.out 2
     go_wp2_with (first | ((with_reducible refine gate_callee (f := 54) rfl ?_); refine goesL_ (some 19) rfl rfl Tryd.func54 (by kernel_rfl) rfl #[.int .i64 x122000_1] rfl (by (try simp only [List.map_toArray, List.map_cons, List.map_nil]); first | done | rfl | (simp only [List.length_drop, List.length_take]; rfl)) ?_; (with_reducible refine (julian_ahead.calls x122000_1 t122 _ A11.out).mono ?_); rintro e w' ⟨rfl, ⟨nd, rfl⟩⟩; refine ⟨_, rfl, ?_⟩; (try (rw [drewN_self wr]; generalize hq_ : World.drewN wr _ = wr; have n0_ : Aside0 (wr.heap[gb118]? = some (.cells #[.int .i64 0, .int .i64 0, .int .i64 0] 24 (0, 0))) := ⟨by rw [← hq_]; exact (by (with_reducible repeat (first | refine blk_drewN ?_ _ | refine blk_drew ?_ | refine blk_alloc ?_ _)); exact BK118.out)⟩; have n1_ : Aside0 (wr.heap[gb121]? = some (.cells #[.int .i64 x122000_1, .int .i64 1, .int .i64 0] 24 (0, 0))) := ⟨by rw [← hq_]; exact (by (with_reducible repeat (first | refine blk_drewN ?_ _ | refine blk_drew ?_ | refine blk_alloc ?_ _)); exact BK121.out)⟩; have n2_ : Aside0 (Below w.heap.size w wr) := ⟨by rw [← hq_]; exact (by repeat (first | (with_reducible first | exact HB.out | apply below_alloc | apply pw_below_drewN | apply below_drew1 | refine below_set ?_ GE118.out | refine below_set ?_ GE121.out) | exact HB.out))⟩; clear BK118 BK121 HB hq_; have BK118 := n0_; have BK121 := n1_; have HB := n2_; clear n0_ n1_ n2_)); (try (have hcz15_0 : wr.cell? ⟨gb118, 0, none⟩ = some (.int .i64 0) := (blk_cell BK118.out 0).trans rfl; have hcz15_1 : wr.cell? ⟨gb118, 1, none⟩ = some (.int .i64 0) := (blk_cell BK118.out 1).trans rfl; have hcz15_2 : wr.cell? ⟨gb118, 2, none⟩ = some (.int .i64 0) := (blk_cell BK118.out 2).trans rfl; have hfz15_0 := blk_frozen BK118.out 0; have hfz15_1 := blk_frozen BK118.out 1; have hfz15_2 := blk_frozen BK118.out 2; have hcz16_0 : wr.cell? ⟨gb121, 0, none⟩ = some (.int .i64 x122000_1) := (blk_cell BK121.out 0).trans rfl; have hcz16_1 : wr.cell? ⟨gb121, 1, none⟩ = some (.int .i64 1) := (blk_cell BK121.out 1).trans rfl; have hcz16_2 : wr.cell? ⟨gb121, 2, none⟩ = some (.int .i64 0) := (blk_cell BK121.out 2).trans rfl; have hfz16_0 := blk_frozen BK121.out 0; have hfz16_1 := blk_frozen BK121.out 1; have hfz16_2 := blk_frozen BK121.out 2))))
     go_roundg k1
     case measure => have := HK1.out; omega
     case rel => exact ⟨(wrap64 (x122000_1 - 1)), H', ⟨by have := HK1.out; omega⟩, ⟨by (with_reducible repeat (first | refine blk_drewN ?_ _ | refine blk_drew ?_ | refine blk_alloc ?_ _)); refine blk_far ?_ NB118_121.out _; (with_reducible repeat (first | refine blk_drewN ?_ _ | refine blk_drew ?_ | refine blk_alloc ?_ _)); exact BK118.out⟩, ⟨by (with_reducible repeat (first | refine blk_drewN ?_ _ | refine blk_drew ?_ | refine blk_alloc ?_ _)); refine blk_put (cs := #[.int .i64 x122000_1, .int .i64 1, .int .i64 0]) ?_ 0 _ rfl; (with_reducible repeat (first | refine blk_drewN ?_ _ | refine blk_drew ?_ | refine blk_alloc ?_ _)); exact BK121.out⟩, ⟨by repeat (first | (with_reducible first | exact HB.out | apply below_alloc | apply pw_below_drewN | apply below_drew1 | refine below_set ?_ GE118.out | refine below_set ?_ GE121.out) | exact HB.out)⟩⟩
    ·rw [if_neg c12] at H
     have c12b0 : decide ((wrap64 (a0 + 1)) < t122) = false := decide_eq_false c12
     clear c12
     replace H := Option.bind_eq_some_iff.mp H
     obtain ⟨t123, A170, H⟩ := H
     have A17d := Option.some.inj (A11.out.symm.trans A170)
     clear A170
     subst A17d
     replace H : (julian_Julian.l1 k1 (wrap64 ((wrap64 (a0 + 1)) - t122)) x122000_1 1 0) = some (r1, r2, r3, r4) := H
     have H' := Aside0.mk H
     clear H
     have hnb18 := NB121_118.out
     have hnc18 := NB118_121.out
     have hcz19_0 : wr.cell? ⟨gb121, 0, none⟩ = some (.int .i64 x122000_1) := (blk_cell BK121.out 0).trans rfl
     have hcz19_1 : wr.cell? ⟨gb121, 1, none⟩ = some (.int .i64 1) := (blk_cell BK121.out 1).trans rfl
     have hcz19_2 : wr.cell? ⟨gb121, 2, none⟩ = some (.int .i64 0) := (blk_cell BK121.out 2).trans rfl
     have hfz19_0 := blk_frozen BK121.out 0
     have hfz19_1 := blk_frozen BK121.out 1
     have hfz19_2 := blk_frozen BK121.out 2
     go_wp2_with (first | ((with_reducible refine gate_callee (f := 54) rfl ?_); refine goesL_ (some 19) rfl rfl Tryd.func54 (by kernel_rfl) rfl #[.int .i64 x122000_1] rfl (by (try simp only [List.map_toArray, List.map_cons, List.map_nil]); first | done | rfl | (simp only [List.length_drop, List.length_take]; rfl)) ?_; (with_reducible refine (julian_ahead.calls x122000_1 t122 _ A11.out).mono ?_); rintro e w' ⟨rfl, ⟨nd, rfl⟩⟩; refine ⟨_, rfl, ?_⟩) | ((with_reducible refine gate_callee (f := 54) rfl ?_); refine goesL_ (some 29) rfl rfl Tryd.func54 (by kernel_rfl) rfl #[.int .i64 x122000_1] rfl (by (try simp only [List.map_toArray, List.map_cons, List.map_nil]); first | done | rfl | (simp only [List.length_drop, List.length_take]; rfl)) ?_; (with_reducible refine (julian_ahead.calls x122000_1 t122 _ A11.out).mono ?_); rintro e w' ⟨rfl, ⟨nd, rfl⟩⟩; refine ⟨_, rfl, ?_⟩))
     go_loopg [4] k1 (fun kq v4 w' => ∃ (x4_2 : Int) (x122001_2 : Int), v4 = .int .i64 x4_2 ∧ Aside0 (julian_Julian.l1 kq x4_2 x122000_1 x122001_2 0 = some (r1, r2, r3, r4)) ∧ Aside0 (kq ≤ k1) ∧ Aside0 (w'.heap[gb118]? = some (.cells #[.int .i64 0, .int .i64 0, .int .i64 0] 24 (0, 0))) ∧ Aside0 (w'.heap[gb121]? = some (.cells #[.int .i64 x122000_1, .int .i64 x122001_2, .int .i64 0] 24 (0, 0))) ∧ Aside0 (Below w.heap.size w w'))
     case atStart => exact ⟨(wrap64 ((wrap64 (a0 + 1)) - t122)), (1), (by first | rfl | (simp; done) | (simp [*]; done)), H', ⟨Nat.le_refl _⟩, ⟨by (with_reducible repeat (first | refine blk_drewN ?_ _ | refine blk_drew ?_ | refine blk_alloc ?_ _)); exact BK118.out⟩, ⟨by (with_reducible repeat (first | refine blk_drewN ?_ _ | refine blk_drew ?_ | refine blk_alloc ?_ _)); exact BK121.out⟩, ⟨by repeat (first | (with_reducible first | exact HB.out | apply below_alloc | apply pw_below_drewN | apply below_drew1 | refine below_set ?_ GE118.out | refine below_set ?_ GE121.out) | exact HB.out)⟩⟩
     case round =>
      clear H'
      try clear c1
      try clear p2
      try clear c3
      try clear c4
      try clear c5
      try clear p6
      try clear c9
      try clear c12
      try clear c12b0
      try clear c13
      try clear c18
      try clear c19
      try clear hcz10_0
      try clear hcz10_1
      try clear hcz10_2
      try clear hcz14_0
      try clear hcz14_1
      try clear hcz14_2
      try clear hcz15_0
      try clear hcz15_1
      try clear hcz15_2
      try clear hcz16_0
      try clear hcz16_1
      try clear hcz16_2
      try clear hcz19_0
      try clear hcz19_1
      try clear hcz19_2
      try clear hcz6_0
      try clear hcz6_1
      try clear hcz6_2
      try clear hcz7_0
      try clear hcz7_1
      try clear hcz7_2
      try clear hfz10_0
      try clear hfz10_1
      try clear hfz10_2
      try clear hfz14_0
      try clear hfz14_1
      try clear hfz14_2
      try clear hfz15_0
      try clear hfz15_1
      try clear hfz15_2
      try clear hfz16_0
      try clear hfz16_1
      try clear hfz16_2
      try clear hfz19_0
      try clear hfz19_1
      try clear hfz19_2
      try clear hfz6_0
      try clear hfz6_1
      try clear hfz6_2
      try clear hfz7_0
      try clear hfz7_1
      try clear hfz7_2
      try clear p2
      try clear p6
      obtain ⟨x4_2, x122001_2, rfl, HA, HK2, BK118, BK121, HB⟩ := hrel
      cases gk with
      | zero => exact absurd HA.out (by simp [julian_Julian.l1])
      | succ k2 =>
       have H := HA.out
       clear HA
       simp only [julian_Julian.l1] at H
       replace H := Option.bind_eq_some_iff.mp H
       obtain ⟨t124, A200, H⟩ := H
       replace H : (if x4_2 ≥ t124 then ((julian_length.f k2 x122000_1 x122001_2).bind fun t125 => (julian_Julian.l1 k2 (wrap64 (x4_2 - t125)) x122000_1 (wrap64 (x122001_2 + 1)) 0)) else (some (x122000_1, x122001_2, wrap64 (x4_2 + 1), 0))) = some (r1, r2, r3, r4) := H
       have A20 := Aside0.mk A200
       clear A200
       by_cases c21 : x4_2 ≥ t124
       ·rw [if_pos c21] at H
        have c21b0 : decide (t124 ≤ x4_2) = true := decide_eq_true c21
        clear c21
        replace H := Option.bind_eq_some_iff.mp H
        obtain ⟨t125, A220, H⟩ := H
        have A22d := Option.some.inj (A20.out.symm.trans A220)
        clear A220
        subst A22d
        replace H : (julian_Julian.l1 k2 (wrap64 (x4_2 - t124)) x122000_1 (wrap64 (x122001_2 + 1)) 0) = some (r1, r2, r3, r4) := H
        have H' := Aside0.mk H
        clear H
        have hnb23 := NB121_118.out
        have hnc23 := NB118_121.out
        have hcz24_0 : wr.cell? ⟨gb121, 0, none⟩ = some (.int .i64 x122000_1) := (blk_cell BK121.out 0).trans rfl
        have hcz24_1 : wr.cell? ⟨gb121, 1, none⟩ = some (.int .i64 x122001_2) := (blk_cell BK121.out 1).trans rfl
        have hcz24_2 : wr.cell? ⟨gb121, 2, none⟩ = some (.int .i64 0) := (blk_cell BK121.out 2).trans rfl
        have hfz24_0 := blk_frozen BK121.out 0
        have hfz24_1 := blk_frozen BK121.out 1
        have hfz24_2 := blk_frozen BK121.out 2
        go_wp2_with (first | ((with_reducible refine gate_callee (f := 55) rfl ?_); refine goesL_ (some 36) rfl rfl Tryd.func55 (by kernel_rfl) rfl #[.int .i64 x122000_1, .int .i64 x122001_2] rfl (by (try simp only [List.map_toArray, List.map_cons, List.map_nil]); first | done | rfl | (simp only [List.length_drop, List.length_take]; rfl)) ?_; (with_reducible refine (julian_length.calls k2 x122000_1 x122001_2 t124 _ A20.out).mono ?_); rintro e w' ⟨rfl, ⟨nd, rfl⟩⟩; refine ⟨_, rfl, ?_⟩; (try (rw [drewN_self wr]; generalize hq_ : World.drewN wr _ = wr; have n0_ : Aside0 (wr.heap[gb118]? = some (.cells #[.int .i64 0, .int .i64 0, .int .i64 0] 24 (0, 0))) := ⟨by rw [← hq_]; exact (by (with_reducible repeat (first | refine blk_drewN ?_ _ | refine blk_drew ?_ | refine blk_alloc ?_ _)); exact BK118.out)⟩; have n1_ : Aside0 (wr.heap[gb121]? = some (.cells #[.int .i64 x122000_1, .int .i64 x122001_2, .int .i64 0] 24 (0, 0))) := ⟨by rw [← hq_]; exact (by (with_reducible repeat (first | refine blk_drewN ?_ _ | refine blk_drew ?_ | refine blk_alloc ?_ _)); exact BK121.out)⟩; have n2_ : Aside0 (Below w.heap.size w wr) := ⟨by rw [← hq_]; exact (by repeat (first | (with_reducible first | exact HB.out | apply below_alloc | apply pw_below_drewN | apply below_drew1 | refine below_set ?_ GE118.out | refine below_set ?_ GE121.out) | exact HB.out))⟩; clear BK118 BK121 HB hq_; have BK118 := n0_; have BK121 := n1_; have HB := n2_; clear n0_ n1_ n2_)); (try (have hcz25_0 : wr.cell? ⟨gb118, 0, none⟩ = some (.int .i64 0) := (blk_cell BK118.out 0).trans rfl; have hcz25_1 : wr.cell? ⟨gb118, 1, none⟩ = some (.int .i64 0) := (blk_cell BK118.out 1).trans rfl; have hcz25_2 : wr.cell? ⟨gb118, 2, none⟩ = some (.int .i64 0) := (blk_cell BK118.out 2).trans rfl; have hfz25_0 := blk_frozen BK118.out 0; have hfz25_1 := blk_frozen BK118.out 1; have hfz25_2 := blk_frozen BK118.out 2; have hcz26_0 : wr.cell? ⟨gb121, 0, none⟩ = some (.int .i64 x122000_1) := (blk_cell BK121.out 0).trans rfl; have hcz26_1 : wr.cell? ⟨gb121, 1, none⟩ = some (.int .i64 x122001_2) := (blk_cell BK121.out 1).trans rfl; have hcz26_2 : wr.cell? ⟨gb121, 2, none⟩ = some (.int .i64 0) := (blk_cell BK121.out 2).trans rfl; have hfz26_0 := blk_frozen BK121.out 0; have hfz26_1 := blk_frozen BK121.out 1; have hfz26_2 := blk_frozen BK121.out 2))) | ((with_reducible refine gate_callee (f := 55) rfl ?_); refine goesL_ (some 43) rfl rfl Tryd.func55 (by kernel_rfl) rfl #[.int .i64 x122000_1, .int .i64 x122001_2] rfl (by (try simp only [List.map_toArray, List.map_cons, List.map_nil]); first | done | rfl | (simp only [List.length_drop, List.length_take]; rfl)) ?_; (with_reducible refine (julian_length.calls k2 x122000_1 x122001_2 t124 _ A20.out).mono ?_); rintro e w' ⟨rfl, ⟨nd, rfl⟩⟩; refine ⟨_, rfl, ?_⟩; (try (rw [drewN_self wr]; generalize hq_ : World.drewN wr _ = wr; have n0_ : Aside0 (wr.heap[gb118]? = some (.cells #[.int .i64 0, .int .i64 0, .int .i64 0] 24 (0, 0))) := ⟨by rw [← hq_]; exact (by (with_reducible repeat (first | refine blk_drewN ?_ _ | refine blk_drew ?_ | refine blk_alloc ?_ _)); exact BK118.out)⟩; have n1_ : Aside0 (wr.heap[gb121]? = some (.cells #[.int .i64 x122000_1, .int .i64 x122001_2, .int .i64 0] 24 (0, 0))) := ⟨by rw [← hq_]; exact (by (with_reducible repeat (first | refine blk_drewN ?_ _ | refine blk_drew ?_ | refine blk_alloc ?_ _)); exact BK121.out)⟩; have n2_ : Aside0 (Below w.heap.size w wr) := ⟨by rw [← hq_]; exact (by repeat (first | (with_reducible first | exact HB.out | apply below_alloc | apply pw_below_drewN | apply below_drew1 | refine below_set ?_ GE118.out | refine below_set ?_ GE121.out) | exact HB.out))⟩; clear BK118 BK121 HB hq_; have BK118 := n0_; have BK121 := n1_; have HB := n2_; clear n0_ n1_ n2_)); (try (have hcz27_0 : wr.cell? ⟨gb118, 0, none⟩ = some (.int .i64 0) := (blk_cell BK118.out 0).trans rfl; have hcz27_1 : wr.cell? ⟨gb118, 1, none⟩ = some (.int .i64 0) := (blk_cell BK118.out 1).trans rfl; have hcz27_2 : wr.cell? ⟨gb118, 2, none⟩ = some (.int .i64 0) := (blk_cell BK118.out 2).trans rfl; have hfz27_0 := blk_frozen BK118.out 0; have hfz27_1 := blk_frozen BK118.out 1; have hfz27_2 := blk_frozen BK118.out 2; have hcz28_0 : wr.cell? ⟨gb121, 0, none⟩ = some (.int .i64 x122000_1) := (blk_cell BK121.out 0).trans rfl; have hcz28_1 : wr.cell? ⟨gb121, 1, none⟩ = some (.int .i64 x122001_2) := (blk_cell BK121.out 1).trans rfl; have hcz28_2 : wr.cell? ⟨gb121, 2, none⟩ = some (.int .i64 0) := (blk_cell BK121.out 2).trans rfl; have hfz28_0 := blk_frozen BK121.out 0; have hfz28_1 := blk_frozen BK121.out 1; have hfz28_2 := blk_frozen BK121.out 2))))
        go_roundg k2
        case measure => have := HK1.out; have := HK2.out; omega
        case rel => exact ⟨(wrap64 (x4_2 - t124)), (wrap64 (x122001_2 + 1)), (by first | rfl | (simp; done) | (simp [*]; done)), H', ⟨by have := HK1.out; have := HK2.out; omega⟩, ⟨by (with_reducible repeat (first | refine blk_drewN ?_ _ | refine blk_drew ?_ | refine blk_alloc ?_ _)); refine blk_far ?_ NB118_121.out _; (with_reducible repeat (first | refine blk_drewN ?_ _ | refine blk_drew ?_ | refine blk_alloc ?_ _)); exact BK118.out⟩, ⟨by (with_reducible repeat (first | refine blk_drewN ?_ _ | refine blk_drew ?_ | refine blk_alloc ?_ _)); refine blk_put (cs := #[.int .i64 x122000_1, .int .i64 x122001_2, .int .i64 0]) ?_ 1 _ rfl; (with_reducible repeat (first | refine blk_drewN ?_ _ | refine blk_drew ?_ | refine blk_alloc ?_ _)); exact BK121.out⟩, ⟨by repeat (first | (with_reducible first | exact HB.out | apply below_alloc | apply pw_below_drewN | apply below_drew1 | refine below_set ?_ GE118.out | refine below_set ?_ GE121.out) | exact HB.out)⟩⟩
       ·rw [if_neg c21] at H
        have c21b0 : decide (t124 ≤ x4_2) = false := decide_eq_false c21
        clear c21
        simp only [Option.some.injEq, Prod.mk.injEq] at H
        obtain ⟨rfl, rfl, rfl, rfl⟩ := H
        have hnb29 := NB121_118.out
        have hnc29 := NB118_121.out
        have hcz30_0 : wr.cell? ⟨gb121, 0, none⟩ = some (.int .i64 x122000_1) := (blk_cell BK121.out 0).trans rfl
        have hcz30_1 : wr.cell? ⟨gb121, 1, none⟩ = some (.int .i64 x122001_2) := (blk_cell BK121.out 1).trans rfl
        have hcz30_2 : wr.cell? ⟨gb121, 2, none⟩ = some (.int .i64 0) := (blk_cell BK121.out 2).trans rfl
        have hfz30_0 := blk_frozen BK121.out 0
        have hfz30_1 := blk_frozen BK121.out 1
        have hfz30_2 := blk_frozen BK121.out 2
        go_wp2_with (first | ((with_reducible refine gate_callee (f := 55) rfl ?_); refine goesL_ (some 36) rfl rfl Tryd.func55 (by kernel_rfl) rfl #[.int .i64 x122000_1, .int .i64 x122001_2] rfl (by (try simp only [List.map_toArray, List.map_cons, List.map_nil]); first | done | rfl | (simp only [List.length_drop, List.length_take]; rfl)) ?_; (with_reducible refine (julian_length.calls k2 x122000_1 x122001_2 t124 _ A20.out).mono ?_); rintro e w' ⟨rfl, ⟨nd, rfl⟩⟩; refine ⟨_, rfl, ?_⟩; (try (rw [drewN_self wr]; generalize hq_ : World.drewN wr _ = wr; have n0_ : Aside0 (wr.heap[gb118]? = some (.cells #[.int .i64 0, .int .i64 0, .int .i64 0] 24 (0, 0))) := ⟨by rw [← hq_]; exact (by (with_reducible repeat (first | refine blk_drewN ?_ _ | refine blk_drew ?_ | refine blk_alloc ?_ _)); exact BK118.out)⟩; have n1_ : Aside0 (wr.heap[gb121]? = some (.cells #[.int .i64 x122000_1, .int .i64 x122001_2, .int .i64 0] 24 (0, 0))) := ⟨by rw [← hq_]; exact (by (with_reducible repeat (first | refine blk_drewN ?_ _ | refine blk_drew ?_ | refine blk_alloc ?_ _)); exact BK121.out)⟩; have n2_ : Aside0 (Below w.heap.size w wr) := ⟨by rw [← hq_]; exact (by repeat (first | (with_reducible first | exact HB.out | apply below_alloc | apply pw_below_drewN | apply below_drew1 | refine below_set ?_ GE118.out | refine below_set ?_ GE121.out) | exact HB.out))⟩; clear BK118 BK121 HB hq_; have BK118 := n0_; have BK121 := n1_; have HB := n2_; clear n0_ n1_ n2_)); (try (have hcz31_0 : wr.cell? ⟨gb118, 0, none⟩ = some (.int .i64 0) := (blk_cell BK118.out 0).trans rfl; have hcz31_1 : wr.cell? ⟨gb118, 1, none⟩ = some (.int .i64 0) := (blk_cell BK118.out 1).trans rfl; have hcz31_2 : wr.cell? ⟨gb118, 2, none⟩ = some (.int .i64 0) := (blk_cell BK118.out 2).trans rfl; have hfz31_0 := blk_frozen BK118.out 0; have hfz31_1 := blk_frozen BK118.out 1; have hfz31_2 := blk_frozen BK118.out 2; have hcz32_0 : wr.cell? ⟨gb121, 0, none⟩ = some (.int .i64 x122000_1) := (blk_cell BK121.out 0).trans rfl; have hcz32_1 : wr.cell? ⟨gb121, 1, none⟩ = some (.int .i64 x122001_2) := (blk_cell BK121.out 1).trans rfl; have hcz32_2 : wr.cell? ⟨gb121, 2, none⟩ = some (.int .i64 0) := (blk_cell BK121.out 2).trans rfl; have hfz32_0 := blk_frozen BK121.out 0; have hfz32_1 := blk_frozen BK121.out 1; have hfz32_2 := blk_frozen BK121.out 2)); have hcz33_0 : wr.cell? ⟨gb118, 0, none⟩ = some (.int .i64 0) := (blk_cell BK118.out 0).trans rfl; have hcz33_1 : wr.cell? ⟨gb118, 1, none⟩ = some (.int .i64 0) := (blk_cell BK118.out 1).trans rfl; have hcz33_2 : wr.cell? ⟨gb118, 2, none⟩ = some (.int .i64 0) := (blk_cell BK118.out 2).trans rfl; have hfz33_0 := blk_frozen BK118.out 0; have hfz33_1 := blk_frozen BK118.out 1; have hfz33_2 := blk_frozen BK118.out 2))
        refine bodyPost_ret (results_ct rfl _ _ gb118 24 #[.int .i64 x122000_1, .int .i64 x122001_2, .int .i64 (wrap64 (x4_2 + 1))] (0, 0) _ rfl (by (with_reducible repeat (first | refine blk_drewN ?_ _ | refine blk_drew ?_ | refine blk_alloc ?_ _)); refine blk_put (cs := #[.int .i64 x122000_1, .int .i64 x122001_2, .int .i64 0]) ?_ 2 _ rfl; (with_reducible repeat (first | refine blk_drewN ?_ _ | refine blk_drew ?_ | refine blk_alloc ?_ _)); refine blk_put (cs := #[.int .i64 x122000_1, .int .i64 0, .int .i64 0]) ?_ 1 _ rfl; (with_reducible repeat (first | refine blk_drewN ?_ _ | refine blk_drew ?_ | refine blk_alloc ?_ _)); refine blk_put (cs := #[.int .i64 0, .int .i64 0, .int .i64 0]) ?_ 0 _ rfl; (with_reducible repeat (first | refine blk_drewN ?_ _ | refine blk_drew ?_ | refine blk_alloc ?_ _)); refine blk_far ?_ NB118_121.out _; (with_reducible repeat (first | refine blk_drewN ?_ _ | refine blk_drew ?_ | refine blk_alloc ?_ _)); exact BK118.out) Tryd.underlying24 rfl (by kernel_rfl)) rfl ?_
        exact ⟨by first | rfl | (simp [errW_none, errW_some] <;> rfl) | (simp [*, errW_none, errW_some] <;> rfl), by repeat (first | (with_reducible first | exact HB.out | apply below_alloc | apply pw_below_drewN | apply below_drew1 | refine below_set ?_ GE118.out | refine below_set ?_ GE121.out) | exact HB.out)⟩
 ·replace c3 := Bool.eq_false_iff.mpr c3
  subst c3
  have H1 : (some (0, 0, 0, 2)) = some (r1, r2, r3, r4) := by rw [if_neg (show ¬ (false = true) by decide)] at H; exact H
  clear H
  have H := H1
  clear H1
  simp only [Option.some.injEq, Prod.mk.injEq] at H
  obtain ⟨rfl, rfl, rfl, rfl⟩ := H
  go_enter Tryd.func19, Tryd.ntmps19
  go_wp2_with (first | ((with_reducible refine gate_dst (N := 2) rfl ?_); refine box_event ?hg (N := 2) ?hd (cs := #[.int .i64 0, .int .i64 0, .int .i64 0]) (t := 24) ?hr ?_; (case hd => rfl); (case hg => rfl); (case hr => first | (go_simp; done) | (go_simp; rfl)); intro gb118 hg w34 hbox hb; have n0_ := Aside0.mk (below_step (by repeat (first | (with_reducible first | exact HB.out | apply below_alloc | apply pw_below_drewN | apply below_drew1) | exact HB.out)) hb); have n1_ := Aside0.mk (hbox); have n2_ := Aside0.mk ((by rw [hg]; exact (below_size (by repeat (first | (with_reducible first | exact HB.out | apply below_alloc | apply pw_below_drewN | apply below_drew1) | exact HB.out))) : w.heap.size ≤ gb118)); have n3_ := Aside0.mk ((by rw [hg]; exact (below_size (by repeat (first | (with_reducible first | exact HB.out | apply below_alloc | apply pw_below_drewN | apply below_drew1) | exact HB.out))) : w.heap.size ≤ gb118)); clear HB; have HB := n0_; have BK118 := n1_; have GW118 := n2_; have GE118 := n3_; clear n0_ n1_ n2_ n3_; clear hb hbox hg) | ((with_reducible refine gate_callee (f := 49) rfl ?_); refine goesL_ (some 7) rfl rfl Tryd.func49 (by kernel_rfl) rfl #[.int .i64 a0] rfl (by (try simp only [List.map_toArray, List.map_cons, List.map_nil]); first | done | rfl | (simp only [List.length_drop, List.length_take]; rfl)) ?_; (with_reducible refine (rata_Of.calls a0 false _ A2.out).mono ?_); rintro e w' ⟨rfl, ⟨nd, rfl⟩⟩; refine ⟨_, rfl, ?_⟩; (try (rw [drewN_self w34]; generalize hq_ : World.drewN w34 _ = w34; have n0_ : Aside0 (w34.heap[gb118]? = some (.cells #[.int .i64 0, .int .i64 0, .int .i64 0] 24 (0, 0))) := ⟨by rw [← hq_]; exact (by (with_reducible repeat (first | refine blk_drewN ?_ _ | refine blk_drew ?_ | refine blk_alloc ?_ _)); exact BK118.out)⟩; have n1_ : Aside0 (Below w.heap.size w w34) := ⟨by rw [← hq_]; exact (by repeat (first | (with_reducible first | exact HB.out | apply below_alloc | apply pw_below_drewN | apply below_drew1 | refine below_set ?_ GE118.out) | exact HB.out))⟩; clear BK118 HB hq_; have BK118 := n0_; have HB := n1_; clear n0_ n1_)); (try (have hcz35_0 : w34.cell? ⟨gb118, 0, none⟩ = some (.int .i64 0) := (blk_cell BK118.out 0).trans rfl; have hcz35_1 : w34.cell? ⟨gb118, 1, none⟩ = some (.int .i64 0) := (blk_cell BK118.out 1).trans rfl; have hcz35_2 : w34.cell? ⟨gb118, 2, none⟩ = some (.int .i64 0) := (blk_cell BK118.out 2).trans rfl; have hfz35_0 := blk_frozen BK118.out 0; have hfz35_1 := blk_frozen BK118.out 1; have hfz35_2 := blk_frozen BK118.out 2)); have hcz36_0 : w34.cell? ⟨gb118, 0, none⟩ = some (.int .i64 0) := (blk_cell BK118.out 0).trans rfl; have hcz36_1 : w34.cell? ⟨gb118, 1, none⟩ = some (.int .i64 0) := (blk_cell BK118.out 1).trans rfl; have hcz36_2 : w34.cell? ⟨gb118, 2, none⟩ = some (.int .i64 0) := (blk_cell BK118.out 2).trans rfl; have hfz36_0 := blk_frozen BK118.out 0; have hfz36_1 := blk_frozen BK118.out 1; have hfz36_2 := blk_frozen BK118.out 2))
  refine bodyPost_ret (results_ct rfl _ _ gb118 24 #[.int .i64 0, .int .i64 0, .int .i64 0] (0, 0) _ rfl (by (with_reducible repeat (first | refine blk_drewN ?_ _ | refine blk_drew ?_ | refine blk_alloc ?_ _)); refine blk_put (cs := #[.int .i64 0, .int .i64 0, .int .i64 0]) ?_ 2 _ rfl; (with_reducible repeat (first | refine blk_drewN ?_ _ | refine blk_drew ?_ | refine blk_alloc ?_ _)); refine blk_put (cs := #[.int .i64 0, .int .i64 0, .int .i64 0]) ?_ 1 _ rfl; (with_reducible repeat (first | refine blk_drewN ?_ _ | refine blk_drew ?_ | refine blk_alloc ?_ _)); refine blk_put (cs := #[.int .i64 0, .int .i64 0, .int .i64 0]) ?_ 0 _ rfl; (with_reducible repeat (first | refine blk_drewN ?_ _ | refine blk_drew ?_ | refine blk_alloc ?_ _)); exact BK118.out) Tryd.underlying24 rfl (by kernel_rfl)) rfl ?_
  exact ⟨by first | rfl | (simp [errW_none, errW_some] <;> rfl) | (simp [*, errW_none, errW_some] <;> rfl), by repeat (first | (with_reducible first | exact HB.out | apply below_alloc | apply pw_below_drewN | apply below_drew1 | refine below_set ?_ GE118.out) | exact HB.out)⟩

end Go.Proofs.YtgbbgcepcnklkaaDoor.Q
/- What the program's package julian reckons, in plain numbers. -/
namespace Go.Proofs.YtgbbgcepcnklkaaDoor.FunJ
open Go.RowKit Go.Proofs.YtgbbgcepcnklkaaDoorW.PrintWords Go.Proofs.YtgbbgcepcnklkaaDoorW.PrintLast Go.Proofs.YtgbbgcepcnklkaaDoor.Q Go.Proofs.YtgbbgcepcnklkaaDoor.Cal Go.Proofs.YtgbbgcepcnklkaaDoor.FunA Go.Proofs.YtgbbgcepcnklkaaDoor.FunC
theorem jbd (y : Int) (h : -40000 ≤ y) (h' : y ≤ 40000) : -15000000 ≤ jb y ∧ jb y ≤ 15000000 := by unfold jb; omega
theorem jAhead (y : Int) (h : -40000 ≤ y) (h' : y ≤ 40000) : julian_ahead.f y = some (jb y + 2) := by
 unfold julian_ahead.f
 rw [w64 (x := y - 1) (by omega) (by omega), rFloor _ 4 (by omega) ⟨by omega, by omega⟩, Option.bind_some]
 congr 1
 unfold jb wrap64; omega
theorem dim_any (a b m : Int) (h : m ≠ 2) : dim a m = dim b m := by
 unfold dim; rw [if_neg h, if_neg h]
theorem jLength (k : Nat) (hk : 2 ≤ k) (y m : Int) (hy : I64 y) : julian_length.f k y m = some (dim (lj y) m) := by
 unfold julian_length.f
 by_cases h : m = 2
 ·subst h
  rw [if_pos rfl, rMod y 4 (by omega) (by omega) hy, Option.bind_some]
  unfold dim lj
  by_cases c : y % 4 = 0
  ·simp [c]
  ·simp [c]
 ·rw [if_neg h, rLength k hk, Option.bind_some, dim_any _ (lj y) m h]
theorem jDate0 (y : Int) (hy : I64 y) : ∀ (j k : Nat) (n m : Int), 1 ≤ m → m ≤ 12 → 12 - m = j → j + 3 < k → 0 ≤ n → n + cum (lj y) m < 365 + lj y →
  ∃ m' d, julian_Julian.l1 k n y m 0 = some (y, m', d, 0) ∧ m ≤ m' ∧ m' ≤ 12 ∧ 1 ≤ d ∧ d ≤ dim (lj y) m' ∧ n + 1 + cum (lj y) m = cum (lj y) m' + d := by
 intro j
 induction j with
 | zero =>
  intro k n m h1 h2 h3 h4 h5 h6
  obtain ⟨k, rfl⟩ : ∃ j, k = j + 1 := ⟨k - 1, by omega⟩
  have : m = 12 := by omega
  subst this
  have e := cum_succ (lj y) 12 (by omega) (by omega)
  have e' := cum_end (lj y)
  have e2 : (12 : Int) + 1 = 13 := rfl
  have hl := lj_01 y
  rw [e2, e'] at e
  have hd := dim_lo (lj y) 12 (lj_01 y) (by omega) (by omega)
  refine ⟨12, n + 1, ?_, by omega, by omega, by omega, by omega, by omega⟩
  simp only [julian_Julian.l1]
  rw [jLength k (by omega) y 12 hy, Option.bind_some, if_neg (by omega), w64 (by omega) (by omega)]
 | succ j ih =>
  intro k n m h1 h2 h3 h4 h5 h6
  obtain ⟨k, rfl⟩ : ∃ j, k = j + 1 := ⟨k - 1, by omega⟩
  have e := cum_succ (lj y) m h1 h2
  have hd := dim_lo (lj y) m (lj_01 y) h1 h2
  have hl := lj_01 y
  have hc := cum_bd (lj_01 y) h1 (show m ≤ 13 by omega)
  simp only [julian_Julian.l1]
  rw [jLength k (by omega) y m hy, Option.bind_some]
  by_cases c : n ≥ dim (lj y) m
  ·rw [if_pos c, Option.bind_some, w64 (x := n - dim (lj y) m) (by omega) (by omega), w64 (x := m + 1) (by omega) (by omega)]
   obtain ⟨m', d, h7, h8, h9, h10, h11, h12⟩ := ih k (n - dim (lj y) m) (m + 1) (by omega) (by omega) (by omega) (by omega) (by omega) (by omega)
   exact ⟨m', d, h7, by omega, h9, h10, h11, by omega⟩
  ·rw [if_neg c, w64 (by omega) (by omega)]
   exact ⟨m, n + 1, rfl, by omega, h2, by omega, by omega, by omega⟩
theorem jDate_yes (k : Nat) (hk : 20 ≤ k) (day : Int) (h : In day) : ∃ y m d, julian_Julian.f k day = some (y, m, d, 0) ∧ Is jb lj y m d day ∧ 1 ≤ y ∧ y ≤ 20000 := by
 obtain ⟨h1, h2⟩ := h
 have hy : jb ((4 * (day + 1) + 1464) / 1461) < day ∧ day ≤ jb ((4 * (day + 1) + 1464) / 1461 + 1) ∧ 1 ≤ (4 * (day + 1) + 1464) / 1461 ∧ (4 * (day + 1) + 1464) / 1461 ≤ 20000 := by
  unfold jb; omega
 have e : julian_Julian.f k day = julian_Julian.l0 k (day + 1) ((4 * (day + 1) + 1464) / 1461) 1 0 := by
  unfold julian_Julian.f
  rw [rOf_yes ⟨h1, h2⟩, Option.bind_some, if_pos rfl, w64 (x := day + 1) (by omega) (by omega), w64 (x := 4 * (day + 1)) (by omega) (by omega), w64 (x := 4 * (day + 1) + 1464) (by omega) (by omega), rFloor _ 1461 (by omega) ⟨by omega, by omega⟩, Option.bind_some]
 rw [e]
 generalize (4 * (day + 1) + 1464) / 1461 = y at *
 obtain ⟨a1, a2, a3, a4⟩ := hy
 have hb := jbd y (by omega) (by omega)
 have hs := jul.succ y
 obtain ⟨k, rfl⟩ : ∃ j, k = j + 1 := ⟨k - 1, by omega⟩
 simp only [julian_Julian.l0]
 rw [jAhead y (by omega) (by omega), Option.bind_some, if_neg (by omega), Option.bind_some, w64 (by omega) (by omega)]
 obtain ⟨m, d, r1, r2, r3, r4, r5, r6⟩ := jDate0 y ⟨by omega, by omega⟩ 11 k (day + 1 - (jb y + 2)) 1 (by omega) (by omega) (by omega) (by omega) (by omega) (by rw [cum_one]; omega)
 rw [cum_one] at r6
 exact ⟨y, m, d, r1, ⟨r2, r3, r4, r5, by omega⟩, a3, a4⟩
theorem jDate_no (k : Nat) (day : Int) (h : ¬ In day) : julian_Julian.f k day = some (0, 0, 0, 2) := by
 unfold julian_Julian.f
 rw [rOf_no h, Option.bind_some, if_neg (by simp)]
end Go.Proofs.YtgbbgcepcnklkaaDoor.FunJ
/- Plain laws of the Islamic and the Persian calendar over whole numbers: no program in sight. -/
namespace Go.Proofs.YtgbbgcepcnklkaaDoor.Cal3
open Go.RowKit Go.Proofs.YtgbbgcepcnklkaaDoor.Cal
/-- Days ahead of an Islamic year. -/
def ib (y : Int) : Int := 227014 + 354 * (y - 1) + (3 + 11 * y) / 30
def li (y : Int) : Int := if (14 + 11 * y) % 30 < 11 then 1 else 0
theorem li_01 (y : Int) : li y = 0 ∨ li y = 1 := by unfold li; split <;> simp
theorem ib_succ (y : Int) : ib (y + 1) = ib y + 354 + li y := by
 unfold ib li
 rw [show 3 + 11 * (y + 1) = 14 + 11 * y by omega, show 3 + 11 * y = 14 + 11 * y - 11 by omega]
 generalize 14 + 11 * y = t
 split <;> omega
/-- Days of an Islamic year ahead of a month. -/
def ic (m : Int) : Int := 29 * (m - 1) + (6 * m - 1) / 11
/-- Days of an Islamic month. -/
def il (l m : Int) : Int := if m < 1 ∨ 12 < m then 0 else if m % 2 = 1 then 30 else if m = 12 then 29 + l else 29
theorem ic_succ (l m : Int) (h1 : 1 ≤ m) (h2 : m < 12) : ic (m + 1) = ic m + il l m := by
 rcases (by omega : m = 1 ∨ m = 2 ∨ m = 3 ∨ m = 4 ∨ m = 5 ∨ m = 6 ∨ m = 7 ∨ m = 8 ∨ m = 9 ∨ m = 10 ∨ m = 11) with h | h | h | h | h | h | h | h | h | h | h <;> subst h <;> simp [ic, il]
theorem ic_end (l : Int) : ic 12 + il l 12 = 354 + l := by unfold ic il; simp; omega
theorem il_lo (l m : Int) (hl : l = 0 ∨ l = 1) (h1 : 1 ≤ m) (h2 : m ≤ 12) : 29 ≤ il l m ∧ il l m ≤ 30 := by
 unfold il; rw [if_neg (by omega)]; split
 ·omega
 ·split <;> omega
theorem ic_bd {m : Int} (h1 : 1 ≤ m) (h2 : m ≤ 13) : 0 ≤ ic m ∧ ic m ≤ 360 := by unfold ic; omega
structure IsI (y m d day : Int) : Prop where
 m1 : 1 ≤ m
 m2 : m ≤ 12
 d1 : 1 ≤ d
 d2 : d ≤ il (li y) m
 e : day = ib y + ic m + d
theorem ib_le {x y : Int} (h : x ≤ y) : ib x + 354 * (y - x) ≤ ib y := by unfold ib; omega
theorem IsI.year {y m d day : Int} (h : IsI y m d day) : ib y < day ∧ day ≤ ib (y + 1) := by
 have h1 := h.m1; have h2 := h.m2; have h3 := h.d1; have h4 := h.d2; have h5 := h.e
 have s := ib_succ y; have l := li_01 y
 have b := ic_bd h1 (by omega)
 have hx : ic m + il (li y) m ≤ 354 + li y := by
  by_cases c : m = 12
  ·subst c; have := ic_end (li y); omega
  ·have := ic_succ (li y) m h1 (by omega)
   have : ic (m + 1) ≤ 340 := by unfold ic; omega
   omega
 omega
theorem ic_mono {a b : Int} (h : a < b) (h1 : 1 ≤ a) (h2 : b ≤ 12) (l : Int) : ic a + il l a ≤ ic b := by
 have := ic_succ l a h1 (by omega)
 unfold ic at *; omega
theorem IsI.one {y m d y' m' d' day : Int} (h : IsI y m d day) (h' : IsI y' m' d' day) : y = y' ∧ m = m' ∧ d = d' := by
 have a := h.year; have a' := h'.year
 have ey : y = y' := by
  by_cases b : y < y'
  ·have := ib_le (show y + 1 ≤ y' by omega); omega
  ·by_cases b' : y' < y
   ·have := ib_le (show y' + 1 ≤ y by omega); omega
   ·omega
 subst ey
 have := h.e; have := h'.e; have := h.d1; have := h'.d1; have := h.d2; have := h'.d2; have := h.m1; have := h.m2; have := h'.m1; have := h'.m2
 have em : m = m' := by
  by_cases a : m < m'
  ·have := ic_mono a (by omega) (by omega) (li y); omega
  ·by_cases a' : m' < m
   ·have := ic_mono a' (by omega) (by omega) (li y); omega
   ·omega
 subst em
 exact ⟨rfl, rfl, by omega⟩
/-- A day's Islamic year. -/
theorem iyear (day : Int) : ib ((30 * (day - 227015) + 10646) / 10631) < day ∧ day ≤ ib ((30 * (day - 227015) + 10646) / 10631 + 1) := by
 unfold ib; omega

/-- A Persian year, counted without a year 0, from the base on. -/
def ps (y : Int) : Int := if y > 0 then y - 474 else y - 473
def pc (z : Int) : Int := z % 2820 + 474
/-- Days ahead of a Persian year, by its place. -/
def pz (z : Int) : Int := 226895 + 1029983 * (z / 2820) + 365 * (pc z - 1) + (31 * pc z - 5) / 128
def pl (z : Int) : Int := if ((pc z + 38) * 31) % 128 < 31 then 1 else 0
theorem pl_01 (z : Int) : pl z = 0 ∨ pl z = 1 := by unfold pl; split <;> simp
theorem pz_succ (z : Int) : pz (z + 1) = pz z + 365 + pl z := by
 have key : ∀ q r : Int, z = 2820 * q + r → 0 ≤ r → r < 2820 → pz (z + 1) = pz z + 365 + pl z := by
  intro q r h1 h2 h3
  have e1 : z / 2820 = q := by omega
  have e2 : z % 2820 = r := by omega
  unfold pz pl pc
  rw [e1, e2]
  by_cases c : r = 2819
  ·subst c
   have e3 : (z + 1) / 2820 = q + 1 := by omega
   have e4 : (z + 1) % 2820 = 0 := by omega
   rw [e3, e4]
   simp
   omega
  ·have e3 : (z + 1) / 2820 = q := by omega
   have e4 : (z + 1) % 2820 = r + 1 := by omega
   rw [e3, e4]
   rw [show (r + 474 + 38) * 31 = 31 * r + 14720 + 1152 by omega, show 31 * (r + 1 + 474) - 5 = 31 * r + 14720 by omega, show 31 * (r + 474) - 5 = 31 * r + 14720 - 31 by omega]
   generalize 31 * r + 14720 = t
   split <;> omega
 exact key (z / 2820) (z % 2820) (by omega) (by omega) (by omega)
theorem pz_mono (a : Int) : ∀ n : Nat, pz a + 365 * n ≤ pz (a + n)
 | 0 => by simp
 | n + 1 => by
  have h := pz_mono a n
  have h1 := pz_succ (a + n)
  have h2 := pl_01 (a + n)
  have e : a + ((n + 1 : Nat) : Int) = a + n + 1 := by omega
  rw [e]; omega
theorem pz_le {a b : Int} (h : a ≤ b) : pz a + 365 * (b - a) ≤ pz b := by
 have := pz_mono a (b - a).toNat
 have e : a + ((b - a).toNat : Int) = b := by omega
 rw [e] at this; omega
def pcum (m : Int) : Int := if m ≤ 7 then 31 * (m - 1) else 30 * (m - 1) + 6
def pdim (l m : Int) : Int := if m < 1 ∨ 12 < m then 0 else if m ≤ 6 then 31 else if m < 12 then 30 else 29 + l
theorem pcum_succ (l m : Int) (h1 : 1 ≤ m) (h2 : m < 12) : pcum (m + 1) = pcum m + pdim l m := by
 unfold pcum pdim; rw [if_neg (show ¬ (m < 1 ∨ 12 < m) by omega)]
 repeat' split
 all_goals omega
theorem pcum_end (l : Int) : pcum 12 + pdim l 12 = 365 + l := by unfold pcum pdim; simp; omega
theorem pdim_lo (l m : Int) (hl : l = 0 ∨ l = 1) (h1 : 1 ≤ m) (h2 : m ≤ 12) : 29 ≤ pdim l m ∧ pdim l m ≤ 31 := by
 unfold pdim; rw [if_neg (by omega)]
 repeat' split
 all_goals omega
theorem pcum_bd {m : Int} (h1 : 1 ≤ m) (h2 : m ≤ 13) : 0 ≤ pcum m ∧ pcum m ≤ 366 := by unfold pcum; split <;> omega
structure IsP (y m d day : Int) : Prop where
 m1 : 1 ≤ m
 m2 : m ≤ 12
 d1 : 1 ≤ d
 d2 : d ≤ pdim (pl (ps y)) m
 e : day = pz (ps y) + pcum m + d
theorem pcum_le {a b : Int} (h : a < b) (h1 : 1 ≤ a) (h2 : b ≤ 12) (l : Int) : pcum a + pdim l a ≤ pcum b := by
 have := pcum_succ l a h1 (by omega)
 unfold pcum at *
 repeat' split at *
 all_goals omega
theorem IsP.year {y m d day : Int} (h : IsP y m d day) : pz (ps y) < day ∧ day ≤ pz (ps y + 1) := by
 have h1 := h.m1; have h2 := h.m2; have h3 := h.d1; have h4 := h.d2; have h5 := h.e
 have s := pz_succ (ps y); have l := pl_01 (ps y)
 have b := pcum_bd h1 (by omega)
 have e := pcum_end (pl (ps y))
 by_cases c : m = 12
 ·subst c; omega
 ·have := pcum_le (show m < 12 by omega) h1 (by omega) (pl (ps y))
  have := (pdim_lo (pl (ps y)) 12 l (by omega) (by omega)).1
  omega
theorem ps_inj {y y' : Int} (h : y ≠ 0) (h' : y' ≠ 0) (e : ps y = ps y') : y = y' := by
 unfold ps at e; split at e <;> split at e <;> omega
theorem IsP.one {y m d y' m' d' day : Int} (n : y ≠ 0) (n' : y' ≠ 0) (h : IsP y m d day) (h' : IsP y' m' d' day) : y = y' ∧ m = m' ∧ d = d' := by
 have a := h.year; have a' := h'.year
 have ey : y = y' := by
  apply ps_inj n n'
  by_cases b : ps y < ps y'
  ·have := pz_le (show ps y + 1 ≤ ps y' by omega); omega
  ·by_cases b' : ps y' < ps y
   ·have := pz_le (show ps y' + 1 ≤ ps y by omega); omega
   ·omega
 subst ey
 have := h.e; have := h'.e; have := h.d1; have := h'.d1; have := h.d2; have := h'.d2; have := h.m1; have := h.m2; have := h'.m1; have := h'.m2
 have em : m = m' := by
  by_cases a : m < m'
  ·have := pcum_le a (by omega) (by omega) (pl (ps y)); omega
  ·by_cases a' : m' < m
   ·have := pcum_le a' (by omega) (by omega) (pl (ps y)); omega
   ·omega
 subst em
 exact ⟨rfl, rfl, by omega⟩
/-- The Persian year behind one. -/
def pn (y : Int) : Int := if y = -1 then 1 else y + 1
theorem pn_ps {y : Int} (h : y ≠ 0) : ps (pn y) = ps y + 1 ∧ pn y ≠ 0 := by
 unfold pn ps; repeat' split
 all_goals omega
end Go.Proofs.YtgbbgcepcnklkaaDoor.Cal3
