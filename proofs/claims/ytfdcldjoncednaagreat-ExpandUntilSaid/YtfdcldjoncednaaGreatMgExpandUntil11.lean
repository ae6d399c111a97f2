/- Texts of this claim, merged: MmatC. -/
import Derived.Test.YtfdcldjoncednaaGreatMgExpandUntil7
import Derived.Test.YtfdcldjoncednaaGreatMgExpandUntil8
import Derived.Test.YtfdcldjoncednaaGreatMgExpandUntil9
namespace Go.Proofs.YtfdcldjoncednaaGreat.M
open Go.RowKit Go.Proofs.YtfdcldjoncednaaGreatW.PrintWords Go.Proofs.YtfdcldjoncednaaGreatW.PrintLast Go.Proofs.YtfdcldjoncednaaGreatW.PrintMore
attribute [local go_sem] max2_int min2_int max_two min_two
set_option linter.unusedVariables false
set_option linter.unusedSimpArgs false
/-! ### match_of: function 27 -/
def match_of.f (k : Nat) (a0 : Int) : Option (Int × Int × Int × Int × Int × Int × Int × Int × Int) := (rata_Date.f k a0).bind fun bt155 => ((rata_InYear.f a0).bind fun bt160 => ((rata_Leap.f bt155.1).bind fun t162 => (if t162 = true then ((rata_Weekday.f a0).bind fun t163 => ((rata_Length.f k bt155.1 bt155.2.1).bind fun t164 => (some (a0, bt155.1, bt155.2.1, bt155.2.2.1, t163, bt155.2.2.1, t164, bt160.1, 365 + 1)))) else ((rata_Weekday.f a0).bind fun t165 => ((rata_Length.f k bt155.1 bt155.2.1).bind fun t166 => (some (a0, bt155.1, bt155.2.1, bt155.2.2.1, t165, bt155.2.2.1, t166, bt160.1, 365)))))))
def match_of.T6 : Bool × List (List Nat × List Nat) := (true, [([], []), ([], []), ([], []), ([2], [2]), ([], []), ([4], [4]), ([], []), ([6], [6]), ([], []), ([8], [8]), ([7, 9, 3], [7, 9]), ([5, 10], [5, 10]), ([], []), ([], []), ([12, 13], [12, 13]), ([0, 1, 3, 11, 14], [0, 1, 3, 11, 14]), ([15, 10, 0, 1, 2, 3, 4, 5, 6, 7, 8, 9, 10, 11, 12, 13, 14, 15], [15])])
def match_of.B6 : List Nat := [0, 0, 0, 4, 0, 16, 0, 64, 0, 256, 972, 2044, 0, 0, 12288, 32767, 65535]
theorem match_of.tab6 : rtab .any (opsOf Tryz.f27 6) = match_of.T6 := by kernel_rfl
theorem match_of.bits6 : waitsOk match_of.T6.2 match_of.B6 = true := by kernel_rfl
set_option maxHeartbeats 8000000 in
set_option maxRecDepth 100000 in
theorem match_of.calls (k : Nat) (a0 : Int) (r1 : Int) (r2 : Int) (r3 : Int) (r4 : Int) (r5 : Int) (r6 : Int) (r7 : Int) (r8 : Int) (r9 : Int) (w : World) (h : match_of.f k a0 = some (r1, r2, r3, r4, r5, r6, r7, r8, r9)) :
  Calls Tryz.prog 27 #[.int .i64 a0] w fun e w' => e = .returned (.agg #[.int .i64 r1, .int .i64 r2, .int .i64 r3, .int .i64 r4, .int .i64 r5, .int .i64 r6, .int .i64 r7, .int .i64 r8, .int .i64 r9]) ∧ Below w.heap.size w w' := by
 have hu65 := Tryz.underlying65
 have hu61 := Tryz.underlying61
 have hu63 := Tryz.underlying63
 have HB := Aside0.mk (Below.refl w.heap.size w)
 have H : ((rata_Date.f k a0).bind fun bt155 => ((rata_InYear.f a0).bind fun bt160 => ((rata_Leap.f bt155.1).bind fun t162 => (if t162 = true then ((rata_Weekday.f a0).bind fun t163 => ((rata_Length.f k bt155.1 bt155.2.1).bind fun t164 => (some (a0, bt155.1, bt155.2.1, bt155.2.2.1, t163, bt155.2.2.1, t164, bt160.1, 365 + 1)))) else ((rata_Weekday.f a0).bind fun t165 => ((rata_Length.f k bt155.1 bt155.2.1).bind fun t166 => (some (a0, bt155.1, bt155.2.1, bt155.2.2.1, t165, bt155.2.2.1, t166, bt160.1, 365)))))))) = some (r1, r2, r3, r4, r5, r6, r7, r8, r9) := h
 clear h
 replace H := Option.bind_eq_some_iff.mp H
 obtain ⟨⟨t155, t156, t157, t158⟩, A20, H⟩ := H
 replace H : ((rata_InYear.f a0).bind fun bt160 => ((rata_Leap.f t155).bind fun t162 => (if t162 = true then ((rata_Weekday.f a0).bind fun t163 => ((rata_Length.f k t155 t156).bind fun t164 => (some (a0, t155, t156, t157, t163, t157, t164, bt160.1, 365 + 1)))) else ((rata_Weekday.f a0).bind fun t165 => ((rata_Length.f k t155 t156).bind fun t166 => (some (a0, t155, t156, t157, t165, t157, t166, bt160.1, 365))))))) = some (r1, r2, r3, r4, r5, r6, r7, r8, r9) := H
 have A2 := Aside0.mk A20
 clear A20
 replace H := Option.bind_eq_some_iff.mp H
 obtain ⟨⟨t160, t161⟩, A30, H⟩ := H
 replace H : ((rata_Leap.f t155).bind fun t162 => (if t162 = true then ((rata_Weekday.f a0).bind fun t163 => ((rata_Length.f k t155 t156).bind fun t164 => (some (a0, t155, t156, t157, t163, t157, t164, t160, 365 + 1)))) else ((rata_Weekday.f a0).bind fun t165 => ((rata_Length.f k t155 t156).bind fun t166 => (some (a0, t155, t156, t157, t165, t157, t166, t160, 365)))))) = some (r1, r2, r3, r4, r5, r6, r7, r8, r9) := H
 have A3 := Aside0.mk A30
 clear A30
 replace H := Option.bind_eq_some_iff.mp H
 obtain ⟨t162, A40, H⟩ := H
 replace H : (if t162 = true then ((rata_Weekday.f a0).bind fun t163 => ((rata_Length.f k t155 t156).bind fun t164 => (some (a0, t155, t156, t157, t163, t157, t164, t160, 365 + 1)))) else ((rata_Weekday.f a0).bind fun t165 => ((rata_Length.f k t155 t156).bind fun t166 => (some (a0, t155, t156, t157, t165, t157, t166, t160, 365))))) = some (r1, r2, r3, r4, r5, r6, r7, r8, r9) := H
 have A4 := Aside0.mk A40
 clear A40
 by_cases c5 : t162 = true
 ·subst c5
  have H1 : ((rata_Weekday.f a0).bind fun t163 => ((rata_Length.f k t155 t156).bind fun t164 => (some (a0, t155, t156, t157, t163, t157, t164, t160, 365 + 1)))) = some (r1, r2, r3, r4, r5, r6, r7, r8, r9) := by rw [if_pos rfl] at H; exact H
  clear H
  have H := H1
  clear H1
  replace H := Option.bind_eq_some_iff.mp H
  obtain ⟨t163, A60, H⟩ := H
  replace H : ((rata_Length.f k t155 t156).bind fun t164 => (some (a0, t155, t156, t157, t163, t157, t164, t160, 365 + 1))) = some (r1, r2, r3, r4, r5, r6, r7, r8, r9) := H
  have A6 := Aside0.mk A60
  clear A60
  replace H := Option.bind_eq_some_iff.mp H
  obtain ⟨t164, A70, H⟩ := H
  replace H : (some (a0, t155, t156, t157, t163, t157, t164, t160, 365 + 1)) = some (r1, r2, r3, r4, r5, r6, r7, r8, r9) := H
  have A7 := Aside0.mk A70
  clear A70
  simp only [Option.some.injEq, Prod.mk.injEq] at H
  obtain ⟨rfl, rfl, rfl, rfl, rfl, rfl, rfl, rfl, rfl⟩ := H
  go_enter Tryz.func27, Tryz.ntmps27
  try go_wp2_with (first | ((with_reducible refine gate_dst (N := 2) rfl ?_); refine box_event ?hg (N := 2) ?hd (cs := #[.int .i64 0, .int .i64 0, .int .i64 0, .int .i64 0, .int .i64 0, .int .i64 0, .int .i64 0, .int .i64 0, .int .i64 0]) (t := 65) ?hr ?_; (case hd => rfl); (case hg => rfl); (case hr => first | (go_simp; done) | (go_simp; rfl)); intro gb154 hg w8 hbox hb; have n0_ := Aside0.mk (below_step (by repeat (first | (with_reducible first | exact HB.out | apply below_alloc | apply pw_below_drewN | apply below_drew1) | exact HB.out)) hb); have n1_ := Aside0.mk (hbox); have n2_ := Aside0.mk ((by rw [hg]; exact (below_size (by repeat (first | (with_reducible first | exact HB.out | apply below_alloc | apply pw_below_drewN | apply below_drew1) | exact HB.out))) : w.heap.size ≤ gb154)); have n3_ := Aside0.mk ((by rw [hg]; exact (below_size (by repeat (first | (with_reducible first | exact HB.out | apply below_alloc | apply pw_below_drewN | apply below_drew1) | exact HB.out))) : w.heap.size ≤ gb154)); clear HB; have HB := n0_; have BK154 := n1_; have GW154 := n2_; have GE154 := n3_; clear n0_ n1_ n2_ n3_; clear hb hbox hg) | ((with_reducible refine gate_callee (f := 50) rfl ?_); refine gm_ (some 10) Tryz.func50 #[.int .i64 a0] ?_; (with_reducible refine (rata_Date.calls k a0 t155 t156 t157 t158 _ A2.out).mono ?_); rintro e w9 ⟨rfl, hb⟩; refine ⟨_, rfl, ?_⟩; have n0_ := Aside0.mk (blk_below (g := gb154) (o := .cells #[.int .i64 0, .int .i64 0, .int .i64 0, .int .i64 0, .int .i64 0, .int .i64 0, .int .i64 0, .int .i64 0, .int .i64 0] 65 (0, 0)) (by (with_reducible repeat (first | refine blk_drewN ?_ _ | refine blk_drew ?_ | refine blk_alloc ?_ _)); exact BK154.out) hb); have n1_ := Aside0.mk (below_step (by repeat (first | (with_reducible first | exact HB.out | apply below_alloc | apply pw_below_drewN | apply below_drew1 | refine below_set ?_ GE154.out) | exact HB.out)) hb); clear BK154; clear HB; have BK154 := n0_; have HB := n1_; clear n0_ n1_; (try clear hb); (try clear hb2); (try clear hk); (try clear hi)) | ((with_reducible refine gate_dst (N := 3) rfl ?_); refine box_event ?hg (N := 3) ?hd (cs := #[.int .i64 0, .int .i64 0, .int .i64 0]) (t := 61) ?hr ?_; (case hd => rfl); (case hg => rfl); (case hr => first | (go_simp; done) | (go_simp; rfl)); intro gb159 hg w10 hbox hb; have n0_ := Aside0.mk (blk_below (g := gb154) (o := .cells #[.int .i64 0, .int .i64 0, .int .i64 0, .int .i64 0, .int .i64 0, .int .i64 0, .int .i64 0, .int .i64 0, .int .i64 0] 65 (0, 0)) (by (with_reducible repeat (first | refine blk_drewN ?_ _ | refine blk_drew ?_ | refine blk_alloc ?_ _)); exact BK154.out) hb); have n1_ := Aside0.mk (below_step (by repeat (first | (with_reducible first | exact HB.out | apply below_alloc | apply pw_below_drewN | apply below_drew1 | refine below_set ?_ GE154.out) | exact HB.out)) hb); have n2_ := Aside0.mk (hbox); have n3_ := Aside0.mk ((by rw [hg]; exact (below_size (by repeat (first | (with_reducible first | exact HB.out | apply below_alloc | apply pw_below_drewN | apply below_drew1 | refine below_set ?_ GE154.out) | exact HB.out))) : w.heap.size ≤ gb159)); have n4_ := Aside0.mk ((by rw [hg]; exact (below_size (by repeat (first | (with_reducible first | exact HB.out | apply below_alloc | apply pw_below_drewN | apply below_drew1 | refine below_set ?_ GE154.out) | exact HB.out))) : w.heap.size ≤ gb159)); have n5_ := Aside0.mk ((by rw [hg]; exact Nat.ne_of_lt (blk_lt (g := gb154) (o := .cells #[.int .i64 0, .int .i64 0, .int .i64 0, .int .i64 0, .int .i64 0, .int .i64 0, .int .i64 0, .int .i64 0, .int .i64 0] 65 (0, 0)) (by (with_reducible repeat (first | refine blk_drewN ?_ _ | refine blk_drew ?_ | refine blk_alloc ?_ _)); exact BK154.out)) : gb154 ≠ gb159)); have n6_ := Aside0.mk ((by rw [hg]; exact Nat.ne_of_gt (blk_lt (g := gb154) (o := .cells #[.int .i64 0, .int .i64 0, .int .i64 0, .int .i64 0, .int .i64 0, .int .i64 0, .int .i64 0, .int .i64 0, .int .i64 0] 65 (0, 0)) (by (with_reducible repeat (first | refine blk_drewN ?_ _ | refine blk_drew ?_ | refine blk_alloc ?_ _)); exact BK154.out)) : gb159 ≠ gb154)); clear BK154; clear HB; have BK154 := n0_; have HB := n1_; have BK159 := n2_; have GW159 := n3_; have GE159 := n4_; have NB154_159 := n5_; have NB159_154 := n6_; clear n0_ n1_ n2_ n3_ n4_ n5_ n6_; clear hb hbox hg; have hnb11 := NB159_154.out; have hnc11 := NB154_159.out; have hcz12_0 : w10.cell? ⟨gb159, 0, none⟩ = some (.int .i64 0) := (blk_cell BK159.out 0).trans rfl; have hcz12_1 : w10.cell? ⟨gb159, 1, none⟩ = some (.int .i64 0) := (blk_cell BK159.out 1).trans rfl; have hcz12_2 : w10.cell? ⟨gb159, 2, none⟩ = some (.int .i64 0) := (blk_cell BK159.out 2).trans rfl; have hfz12_0 := blk_frozen BK159.out 0; have hfz12_1 := blk_frozen BK159.out 1; have hfz12_2 := blk_frozen BK159.out 2) | ((with_reducible refine gate_callee (f := 51) rfl ?_); refine gm_ (some 15) Tryz.func51 #[.int .i64 a0] ?_; (with_reducible refine (rata_InYear.calls a0 t160 t161 _ A3.out).mono ?_); rintro e w13 ⟨rfl, hb⟩; refine ⟨_, rfl, ?_⟩; have n0_ := Aside0.mk (blk_below (g := gb154) (o := .cells #[.int .i64 0, .int .i64 0, .int .i64 0, .int .i64 0, .int .i64 0, .int .i64 0, .int .i64 0, .int .i64 0, .int .i64 0] 65 (0, 0)) (by (with_reducible repeat (first | refine blk_drewN ?_ _ | refine blk_drew ?_ | refine blk_alloc ?_ _)); refine blk_far ?_ NB154_159.out _; (with_reducible repeat (first | refine blk_drewN ?_ _ | refine blk_drew ?_ | refine blk_alloc ?_ _)); refine blk_far ?_ NB154_159.out _; (with_reducible repeat (first | refine blk_drewN ?_ _ | refine blk_drew ?_ | refine blk_alloc ?_ _)); refine blk_far ?_ NB154_159.out _; (with_reducible repeat (first | refine blk_drewN ?_ _ | refine blk_drew ?_ | refine blk_alloc ?_ _)); exact BK154.out) hb); have n1_ := Aside0.mk (blk_below (g := gb159) (o := .cells #[.int .i64 t155, .int .i64 t156, .int .i64 t157] 61 (0, 0)) (by (with_reducible repeat (first | refine blk_drewN ?_ _ | refine blk_drew ?_ | refine blk_alloc ?_ _)); refine blk_put (cs := #[.int .i64 t155, .int .i64 t156, .int .i64 0]) ?_ 2 _ rfl; (with_reducible repeat (first | refine blk_drewN ?_ _ | refine blk_drew ?_ | refine blk_alloc ?_ _)); refine blk_put (cs := #[.int .i64 t155, .int .i64 0, .int .i64 0]) ?_ 1 _ rfl; (with_reducible repeat (first | refine blk_drewN ?_ _ | refine blk_drew ?_ | refine blk_alloc ?_ _)); refine blk_put (cs := #[.int .i64 0, .int .i64 0, .int .i64 0]) ?_ 0 _ rfl; (with_reducible repeat (first | refine blk_drewN ?_ _ | refine blk_drew ?_ | refine blk_alloc ?_ _)); exact BK159.out) hb); have n2_ := Aside0.mk (below_step (by repeat (first | (with_reducible first | exact HB.out | apply below_alloc | apply pw_below_drewN | apply below_drew1 | refine below_set ?_ GE154.out | refine below_set ?_ GE159.out) | exact HB.out)) hb); clear BK154; clear BK159; clear HB; have BK154 := n0_; have BK159 := n1_; have HB := n2_; clear n0_ n1_ n2_; (try clear hb); (try clear hb2); (try clear hk); (try clear hi); have hcz14_0 : w13.cell? ⟨gb159, 0, none⟩ = some (.int .i64 t155) := (blk_cell BK159.out 0).trans rfl; have hcz14_1 : w13.cell? ⟨gb159, 1, none⟩ = some (.int .i64 t156) := (blk_cell BK159.out 1).trans rfl; have hcz14_2 : w13.cell? ⟨gb159, 2, none⟩ = some (.int .i64 t157) := (blk_cell BK159.out 2).trans rfl; have hfz14_0 := blk_frozen BK159.out 0; have hfz14_1 := blk_frozen BK159.out 1; have hfz14_2 := blk_frozen BK159.out 2) | ((with_reducible refine gate_callee (f := 52) rfl ?_); refine gm_ (some 20) Tryz.func52 #[.int .i64 t155] ?_; (with_reducible refine (rata_Leap.calls t155 true _ A4.out).mono ?_); rintro e w' ⟨rfl, ⟨nd, rfl⟩⟩; refine ⟨_, rfl, ?_⟩; (try (rw [drewN_self w13]; generalize hq_ : World.drewN w13 _ = w13; have n0_ : Aside0 (w13.heap[gb154]? = some (.cells #[.int .i64 0, .int .i64 0, .int .i64 0, .int .i64 0, .int .i64 0, .int .i64 0, .int .i64 0, .int .i64 0, .int .i64 0] 65 (0, 0))) := ⟨by rw [← hq_]; exact (by (with_reducible repeat (first | refine blk_drewN ?_ _ | refine blk_drew ?_ | refine blk_alloc ?_ _)); exact BK154.out)⟩; have n1_ : Aside0 (w13.heap[gb159]? = some (.cells #[.int .i64 t155, .int .i64 t156, .int .i64 t157] 61 (0, 0))) := ⟨by rw [← hq_]; exact (by (with_reducible repeat (first | refine blk_drewN ?_ _ | refine blk_drew ?_ | refine blk_alloc ?_ _)); exact BK159.out)⟩; have n2_ : Aside0 (Below w.heap.size w w13) := ⟨by rw [← hq_]; exact (by repeat (first | (with_reducible first | exact HB.out | apply below_alloc | apply pw_below_drewN | apply below_drew1 | refine below_set ?_ GE154.out | refine below_set ?_ GE159.out) | exact HB.out))⟩; clear BK154 BK159 HB hq_; have BK154 := n0_; have BK159 := n1_; have HB := n2_; clear n0_ n1_ n2_)); (try (have hcz15_0 : w13.cell? ⟨gb154, 0, none⟩ = some (.int .i64 0) := (blk_cell BK154.out 0).trans rfl; have hcz15_1 : w13.cell? ⟨gb154, 1, none⟩ = some (.int .i64 0) := (blk_cell BK154.out 1).trans rfl; have hcz15_2 : w13.cell? ⟨gb154, 2, none⟩ = some (.int .i64 0) := (blk_cell BK154.out 2).trans rfl; have hcz15_3 : w13.cell? ⟨gb154, 3, none⟩ = some (.int .i64 0) := (blk_cell BK154.out 3).trans rfl; have hcz15_4 : w13.cell? ⟨gb154, 4, none⟩ = some (.int .i64 0) := (blk_cell BK154.out 4).trans rfl; have hcz15_5 : w13.cell? ⟨gb154, 5, none⟩ = some (.int .i64 0) := (blk_cell BK154.out 5).trans rfl; have hcz15_6 : w13.cell? ⟨gb154, 6, none⟩ = some (.int .i64 0) := (blk_cell BK154.out 6).trans rfl; have hcz15_7 : w13.cell? ⟨gb154, 7, none⟩ = some (.int .i64 0) := (blk_cell BK154.out 7).trans rfl; have hcz15_8 : w13.cell? ⟨gb154, 8, none⟩ = some (.int .i64 0) := (blk_cell BK154.out 8).trans rfl; have hfz15_0 := blk_frozen BK154.out 0; have hfz15_1 := blk_frozen BK154.out 1; have hfz15_2 := blk_frozen BK154.out 2; have hfz15_3 := blk_frozen BK154.out 3; have hfz15_4 := blk_frozen BK154.out 4; have hfz15_5 := blk_frozen BK154.out 5; have hfz15_6 := blk_frozen BK154.out 6; have hfz15_7 := blk_frozen BK154.out 7; have hfz15_8 := blk_frozen BK154.out 8; have hcz16_0 : w13.cell? ⟨gb159, 0, none⟩ = some (.int .i64 t155) := (blk_cell BK159.out 0).trans rfl; have hcz16_1 : w13.cell? ⟨gb159, 1, none⟩ = some (.int .i64 t156) := (blk_cell BK159.out 1).trans rfl; have hcz16_2 : w13.cell? ⟨gb159, 2, none⟩ = some (.int .i64 t157) := (blk_cell BK159.out 2).trans rfl; have hfz16_0 := blk_frozen BK159.out 0; have hfz16_1 := blk_frozen BK159.out 1; have hfz16_2 := blk_frozen BK159.out 2))))
  have n0_ := Aside0.mk (blk_drew BK154.out)
  have n1_ := Aside0.mk (blk_drew BK159.out)
  have n2_ := Aside0.mk (below_drew1 HB.out)
  clear BK154
  clear BK159
  clear HB
  have BK154 := n0_
  have BK159 := n1_
  have HB := n2_
  clear n0_ n1_ n2_
  refine start_ (n := 17) (S := fun w' => w'.cell? ⟨gb159, 0, none⟩ = some (.int .i64 t155) ∧ w'.cell? ⟨gb159, 1, none⟩ = some (.int .i64 t156) ∧ w'.cell? ⟨gb159, 2, none⟩ = some (.int .i64 t157)) (ds := []) (fl 17 0) (by kernel_rfl) rfl rfl ⟨(blk_cell BK159.out 0).trans rfl, (blk_cell BK159.out 1).trans rfl, (blk_cell BK159.out 2).trans rfl⟩ (fun hHeld => ?_); refine with_tabW match_of.tab6 match_of.bits6 (fun HT_ HW_ => ?_)
  generalize w13.drew = w17 at BK154 BK159 HB hHeld ⊢
  refine pu 0 (some 23) (fl 17 1) HT_ ?_
  refine pu 2 (some 25) #[true, false, true, false, false, false, false, false, false, false, false, false, false, false, false, false, false] HT_ ?_
  refine pu 4 (some 27) #[true, false, true, false, true, false, false, false, false, false, false, false, false, false, false, false, false] HT_ ?_
  refine pu 6 (some 29) #[true, false, true, false, true, false, true, false, false, false, false, false, false, false, false, false, false] HT_ ?_
  refine pu 8 (some 31) #[true, false, true, false, true, false, true, false, true, false, false, false, false, false, false, false, false] HT_ ?_
  refine pu 12 (some 35) #[true, false, true, false, true, false, true, false, true, false, false, false, true, false, false, false, false] HT_ ?_
  refine pu 13 (some 36) #[true, false, true, false, true, false, true, false, true, false, false, false, true, true, false, false, false] HT_ ?_
  refine pu 14 (some 37) #[true, false, true, false, true, false, true, false, true, false, false, false, true, true, true, false, false] HT_ ?_
  refine take_ (i := 1) (N := some 24) (v := ?_) (a' := ?_) #[true, true, true, false, true, false, true, false, true, false, false, false, true, true, true, false, false] rfl rfl (take_ofW HT_.out HW_.out (by kernel_rfl)) (fun _ _ _ h => h) (Or.inl ⟨by rfl, ?_⟩) hHeld ?_ ?_
  rotate_left
  ·rintro w' ⟨s0, s1, s2⟩
   go_simp
   with_reducible rfl
  rotate_left
  ·simp only [Act.put, sA, sB, sC, i64_w, i32_w]
   rfl
  refine take_ (i := 5) (N := some 28) (v := ?_) (a' := ?_) #[true, true, true, false, true, true, true, false, true, false, false, false, true, true, true, false, false] rfl rfl (take_ofW HT_.out HW_.out (by kernel_rfl)) (fun _ _ _ h => h) (Or.inl ⟨by rfl, ?_⟩) hHeld ?_ ?_
  rotate_left
  ·rintro w' ⟨s0, s1, s2⟩
   go_simp
   with_reducible rfl
  rotate_left
  ·simp only [Act.put, sA, sB, sC, i64_w, i32_w]
   rfl
  refine take_ (i := 7) (N := some 30) (v := ?_) (a' := ?_) #[true, true, true, false, true, true, true, true, true, false, false, false, true, true, true, false, false] rfl rfl (take_ofW HT_.out HW_.out (by kernel_rfl)) (fun _ _ _ h => h) (Or.inl ⟨by rfl, ?_⟩) hHeld ?_ ?_
  rotate_left
  ·rintro w' ⟨s0, s1, s2⟩
   go_simp
   with_reducible rfl
  rotate_left
  ·simp only [Act.put, sA, sB, sC, i64_w, i32_w]
   rfl
  refine take_ (i := 9) (N := some 32) (v := ?_) (a' := ?_) #[true, true, true, false, true, true, true, true, true, true, false, false, true, true, true, false, false] rfl rfl (take_ofW HT_.out HW_.out (by kernel_rfl)) (fun _ _ _ h => h) (Or.inl ⟨by rfl, ?_⟩) hHeld ?_ ?_
  rotate_left
  ·rintro w' ⟨s0, s1, s2⟩
   go_simp
   with_reducible rfl
  rotate_left
  ·simp only [Act.put, sA, sB, sC, i64_w, i32_w]
   rfl
  refine one_ (i := 3) (N := some 26) #[true, true, true, true, true, true, true, true, true, true, false, false, true, true, true, false, false] rfl rfl (one_of HT_.out (by kernel_rfl)) (by decide) (fun K hK => ?_)
  refine goes_ Tryz.func53 (by kernel_rfl) rfl #[.int .i64 a0] (by rfl) rfl rfl (by (try simp only [mA, mB, mC]); first | done | rfl) ?_
  with_reducible refine (rata_Weekday.calls a0 t163 _ A6.out).mono ?_
  rintro e w' ⟨rfl, ⟨nd, rfl⟩⟩
  refine ⟨_, rfl, ?_⟩
  refine hK.out _ _ ⟨(blk_cell BK159.out 0).trans rfl, (blk_cell BK159.out 1).trans rfl, (blk_cell BK159.out 2).trans rfl⟩ (fun hHeld => ?_)
  clear hK K
  refine norm_ (a' := ?_) ?_ ?_
  rotate_left
  ·show Act.put _ (some 26) _ = _
   simp only [Act.put, sA, sB, sC, i64_w, i32_w]
   rfl
  refine one_ (i := 10) (N := some 33) #[true, true, true, true, true, true, true, true, true, true, true, false, true, true, true, false, false] rfl rfl (one_of HT_.out (by kernel_rfl)) (by decide) (fun K hK => ?_)
  refine goes_ Tryz.func54 (by kernel_rfl) rfl #[.int .i64 t155, .int .i64 t156] (by rfl) rfl rfl (by (try simp only [mA, mB, mC]); first | done | rfl) ?_
  with_reducible refine (rata_Length.calls k t155 t156 t164 _ A7.out).mono ?_
  rintro e w' ⟨rfl, ⟨nd, rfl⟩⟩
  refine ⟨_, rfl, ?_⟩
  refine hK.out _ _ ⟨(blk_cell BK159.out 0).trans rfl, (blk_cell BK159.out 1).trans rfl, (blk_cell BK159.out 2).trans rfl⟩ (fun hHeld => ?_)
  clear hK K
  refine norm_ (a' := ?_) ?_ ?_
  rotate_left
  ·show Act.put _ (some 33) _ = _
   simp only [Act.put, sA, sB, sC, i64_w, i32_w]
   rfl
  refine pu 11 (some 34) (fl 17 15) HT_ ?_
  refine pu 15 (some 38) (fl 17 16) HT_ ?_
  refine one_ (i := 16) (N := none) (fl 17 17) rfl rfl (one_of HT_.out (by kernel_rfl)) (by decide) (fun K hK => ?_)
  have hs18 : w17.cell? ⟨gb154, 0, none⟩ = some (.int .i64 0) := (blk_cell BK154.out 0).trans rfl
  have hfs18 := blk_frozen BK154.out 0
  have hns18_1 := NB159_154.out
  have hms18_1 := NB154_159.out
  have hs19 : w17.cell? ⟨gb154, 1, none⟩ = some (.int .i64 0) := (blk_cell BK154.out 1).trans rfl
  have hfs19 := blk_frozen BK154.out 1
  have hns19_1 := NB159_154.out
  have hms19_1 := NB154_159.out
  have hs20 : w17.cell? ⟨gb154, 2, none⟩ = some (.int .i64 0) := (blk_cell BK154.out 2).trans rfl
  have hfs20 := blk_frozen BK154.out 2
  have hns20_1 := NB159_154.out
  have hms20_1 := NB154_159.out
  have hs21 : w17.cell? ⟨gb154, 3, none⟩ = some (.int .i64 0) := (blk_cell BK154.out 3).trans rfl
  have hfs21 := blk_frozen BK154.out 3
  have hns21_1 := NB159_154.out
  have hms21_1 := NB154_159.out
  have hs22 : w17.cell? ⟨gb154, 4, none⟩ = some (.int .i64 0) := (blk_cell BK154.out 4).trans rfl
  have hfs22 := blk_frozen BK154.out 4
  have hns22_1 := NB159_154.out
  have hms22_1 := NB154_159.out
  have hs23 : w17.cell? ⟨gb154, 5, none⟩ = some (.int .i64 0) := (blk_cell BK154.out 5).trans rfl
  have hfs23 := blk_frozen BK154.out 5
  have hns23_1 := NB159_154.out
  have hms23_1 := NB154_159.out
  have hs24 : w17.cell? ⟨gb154, 6, none⟩ = some (.int .i64 0) := (blk_cell BK154.out 6).trans rfl
  have hfs24 := blk_frozen BK154.out 6
  have hns24_1 := NB159_154.out
  have hms24_1 := NB154_159.out
  have hs25 : w17.cell? ⟨gb154, 7, none⟩ = some (.int .i64 0) := (blk_cell BK154.out 7).trans rfl
  have hfs25 := blk_frozen BK154.out 7
  have hns25_1 := NB159_154.out
  have hms25_1 := NB154_159.out
  have hs26 : w17.cell? ⟨gb154, 8, none⟩ = some (.int .i64 0) := (blk_cell BK154.out 8).trans rfl
  have hfs26 := blk_frozen BK154.out 8
  have hns26_1 := NB159_154.out
  have hms26_1 := NB154_159.out
  refine skip_ (w1 := ?_) (by rfl) rfl ?_ ?_
  rotate_left
  ·go_simp
   rfl
  refine hK.out _ _ ⟨((cell_far (p := ⟨gb154, _, none⟩) NB159_154.out _).trans (((cell_far (p := ⟨gb154, _, none⟩) NB159_154.out _).trans (((cell_far (p := ⟨gb154, _, none⟩) NB159_154.out _).trans (((cell_far (p := ⟨gb154, _, none⟩) NB159_154.out _).trans (((cell_far (p := ⟨gb154, _, none⟩) NB159_154.out _).trans (((cell_far (p := ⟨gb154, _, none⟩) NB159_154.out _).trans (((cell_far (p := ⟨gb154, _, none⟩) NB159_154.out _).trans (((cell_far (p := ⟨gb154, _, none⟩) NB159_154.out _).trans (((cell_far (p := ⟨gb154, _, none⟩) NB159_154.out _).trans (hHeld.1)))))))))))))))))), ((cell_far (p := ⟨gb154, _, none⟩) NB159_154.out _).trans (((cell_far (p := ⟨gb154, _, none⟩) NB159_154.out _).trans (((cell_far (p := ⟨gb154, _, none⟩) NB159_154.out _).trans (((cell_far (p := ⟨gb154, _, none⟩) NB159_154.out _).trans (((cell_far (p := ⟨gb154, _, none⟩) NB159_154.out _).trans (((cell_far (p := ⟨gb154, _, none⟩) NB159_154.out _).trans (((cell_far (p := ⟨gb154, _, none⟩) NB159_154.out _).trans (((cell_far (p := ⟨gb154, _, none⟩) NB159_154.out _).trans (((cell_far (p := ⟨gb154, _, none⟩) NB159_154.out _).trans (hHeld.2.1)))))))))))))))))), ((cell_far (p := ⟨gb154, _, none⟩) NB159_154.out _).trans (((cell_far (p := ⟨gb154, _, none⟩) NB159_154.out _).trans (((cell_far (p := ⟨gb154, _, none⟩) NB159_154.out _).trans (((cell_far (p := ⟨gb154, _, none⟩) NB159_154.out _).trans (((cell_far (p := ⟨gb154, _, none⟩) NB159_154.out _).trans (((cell_far (p := ⟨gb154, _, none⟩) NB159_154.out _).trans (((cell_far (p := ⟨gb154, _, none⟩) NB159_154.out _).trans (((cell_far (p := ⟨gb154, _, none⟩) NB159_154.out _).trans (((cell_far (p := ⟨gb154, _, none⟩) NB159_154.out _).trans (hHeld.2.2))))))))))))))))))⟩ (fun hHeld => ?_)
  clear hK K
  refine done_ (done_of HT_.out (by kernel_rfl)) ?_
  try go_wp2
  refine bodyPost_ret (results_cell_row rfl _ _ gb154 65 #[.int .i64 a0, .int .i64 t155, .int .i64 t156, .int .i64 t157, .int .i64 t163, .int .i64 t157, .int .i64 t164, .int .i64 t160, .int .i64 (365 + 1)] (0, 0) _ rfl (by (with_reducible repeat (first | refine blk_drewN ?_ _ | refine blk_drew ?_ | refine blk_alloc ?_ _)); refine blk_put (cs := #[.int .i64 a0, .int .i64 t155, .int .i64 t156, .int .i64 t157, .int .i64 t163, .int .i64 t157, .int .i64 t164, .int .i64 t160, .int .i64 0]) ?_ 8 _ rfl; (with_reducible repeat (first | refine blk_drewN ?_ _ | refine blk_drew ?_ | refine blk_alloc ?_ _)); refine blk_put (cs := #[.int .i64 a0, .int .i64 t155, .int .i64 t156, .int .i64 t157, .int .i64 t163, .int .i64 t157, .int .i64 t164, .int .i64 0, .int .i64 0]) ?_ 7 _ rfl; (with_reducible repeat (first | refine blk_drewN ?_ _ | refine blk_drew ?_ | refine blk_alloc ?_ _)); refine blk_put (cs := #[.int .i64 a0, .int .i64 t155, .int .i64 t156, .int .i64 t157, .int .i64 t163, .int .i64 t157, .int .i64 0, .int .i64 0, .int .i64 0]) ?_ 6 _ rfl; (with_reducible repeat (first | refine blk_drewN ?_ _ | refine blk_drew ?_ | refine blk_alloc ?_ _)); refine blk_put (cs := #[.int .i64 a0, .int .i64 t155, .int .i64 t156, .int .i64 t157, .int .i64 t163, .int .i64 0, .int .i64 0, .int .i64 0, .int .i64 0]) ?_ 5 _ rfl; (with_reducible repeat (first | refine blk_drewN ?_ _ | refine blk_drew ?_ | refine blk_alloc ?_ _)); refine blk_put (cs := #[.int .i64 a0, .int .i64 t155, .int .i64 t156, .int .i64 t157, .int .i64 0, .int .i64 0, .int .i64 0, .int .i64 0, .int .i64 0]) ?_ 4 _ rfl; (with_reducible repeat (first | refine blk_drewN ?_ _ | refine blk_drew ?_ | refine blk_alloc ?_ _)); refine blk_put (cs := #[.int .i64 a0, .int .i64 t155, .int .i64 t156, .int .i64 0, .int .i64 0, .int .i64 0, .int .i64 0, .int .i64 0, .int .i64 0]) ?_ 3 _ rfl; (with_reducible repeat (first | refine blk_drewN ?_ _ | refine blk_drew ?_ | refine blk_alloc ?_ _)); refine blk_put (cs := #[.int .i64 a0, .int .i64 t155, .int .i64 0, .int .i64 0, .int .i64 0, .int .i64 0, .int .i64 0, .int .i64 0, .int .i64 0]) ?_ 2 _ rfl; (with_reducible repeat (first | refine blk_drewN ?_ _ | refine blk_drew ?_ | refine blk_alloc ?_ _)); refine blk_put (cs := #[.int .i64 a0, .int .i64 0, .int .i64 0, .int .i64 0, .int .i64 0, .int .i64 0, .int .i64 0, .int .i64 0, .int .i64 0]) ?_ 1 _ rfl; (with_reducible repeat (first | refine blk_drewN ?_ _ | refine blk_drew ?_ | refine blk_alloc ?_ _)); refine blk_put (cs := #[.int .i64 0, .int .i64 0, .int .i64 0, .int .i64 0, .int .i64 0, .int .i64 0, .int .i64 0, .int .i64 0, .int .i64 0]) ?_ 0 _ rfl; (with_reducible repeat (first | refine blk_drewN ?_ _ | refine blk_drew ?_ | refine blk_alloc ?_ _)); exact BK154.out) Tryz.underlying65 rfl (by kernel_rfl)) rfl ?_
  exact ⟨by first | rfl | (simp [i64_w]; done) | (simp [errW_none, errW_some] <;> rfl) | (simp [*, errW_none, errW_some] <;> rfl), by repeat (first | (with_reducible first | exact HB.out | apply below_alloc | apply pw_below_drewN | apply below_drew1 | refine below_set ?_ GE154.out | refine below_set ?_ GE159.out) | exact HB.out)⟩
 ·replace c5 := Bool.eq_false_iff.mpr c5
  subst c5
  have H1 : ((rata_Weekday.f a0).bind fun t165 => ((rata_Length.f k t155 t156).bind fun t166 => (some (a0, t155, t156, t157, t165, t157, t166, t160, 365)))) = some (r1, r2, r3, r4, r5, r6, r7, r8, r9) := by rw [if_neg (show ¬ (false = true) by decide)] at H; exact H
  clear H
  have H := H1
  clear H1
  replace H := Option.bind_eq_some_iff.mp H
  obtain ⟨t165, A270, H⟩ := H
  replace H : ((rata_Length.f k t155 t156).bind fun t166 => (some (a0, t155, t156, t157, t165, t157, t166, t160, 365))) = some (r1, r2, r3, r4, r5, r6, r7, r8, r9) := H
  have A27 := Aside0.mk A270
  clear A270
  replace H := Option.bind_eq_some_iff.mp H
  obtain ⟨t166, A280, H⟩ := H
  replace H : (some (a0, t155, t156, t157, t165, t157, t166, t160, 365)) = some (r1, r2, r3, r4, r5, r6, r7, r8, r9) := H
  have A28 := Aside0.mk A280
  clear A280
  simp only [Option.some.injEq, Prod.mk.injEq] at H
  obtain ⟨rfl, rfl, rfl, rfl, rfl, rfl, rfl, rfl, rfl⟩ := H
  go_enter Tryz.func27, Tryz.ntmps27
  try go_wp2_with (first | ((with_reducible refine gate_dst (N := 2) rfl ?_); refine box_event ?hg (N := 2) ?hd (cs := #[.int .i64 0, .int .i64 0, .int .i64 0, .int .i64 0, .int .i64 0, .int .i64 0, .int .i64 0, .int .i64 0, .int .i64 0]) (t := 65) ?hr ?_; (case hd => rfl); (case hg => rfl); (case hr => first | (go_simp; done) | (go_simp; rfl)); intro gb154 hg w29 hbox hb; have n0_ := Aside0.mk (below_step (by repeat (first | (with_reducible first | exact HB.out | apply below_alloc | apply pw_below_drewN | apply below_drew1) | exact HB.out)) hb); have n1_ := Aside0.mk (hbox); have n2_ := Aside0.mk ((by rw [hg]; exact (below_size (by repeat (first | (with_reducible first | exact HB.out | apply below_alloc | apply pw_below_drewN | apply below_drew1) | exact HB.out))) : w.heap.size ≤ gb154)); have n3_ := Aside0.mk ((by rw [hg]; exact (below_size (by repeat (first | (with_reducible first | exact HB.out | apply below_alloc | apply pw_below_drewN | apply below_drew1) | exact HB.out))) : w.heap.size ≤ gb154)); clear HB; have HB := n0_; have BK154 := n1_; have GW154 := n2_; have GE154 := n3_; clear n0_ n1_ n2_ n3_; clear hb hbox hg) | ((with_reducible refine gate_callee (f := 50) rfl ?_); refine gm_ (some 10) Tryz.func50 #[.int .i64 a0] ?_; (with_reducible refine (rata_Date.calls k a0 t155 t156 t157 t158 _ A2.out).mono ?_); rintro e w30 ⟨rfl, hb⟩; refine ⟨_, rfl, ?_⟩; have n0_ := Aside0.mk (blk_below (g := gb154) (o := .cells #[.int .i64 0, .int .i64 0, .int .i64 0, .int .i64 0, .int .i64 0, .int .i64 0, .int .i64 0, .int .i64 0, .int .i64 0] 65 (0, 0)) (by (with_reducible repeat (first | refine blk_drewN ?_ _ | refine blk_drew ?_ | refine blk_alloc ?_ _)); exact BK154.out) hb); have n1_ := Aside0.mk (below_step (by repeat (first | (with_reducible first | exact HB.out | apply below_alloc | apply pw_below_drewN | apply below_drew1 | refine below_set ?_ GE154.out) | exact HB.out)) hb); clear BK154; clear HB; have BK154 := n0_; have HB := n1_; clear n0_ n1_; (try clear hb); (try clear hb2); (try clear hk); (try clear hi)) | ((with_reducible refine gate_dst (N := 3) rfl ?_); refine box_event ?hg (N := 3) ?hd (cs := #[.int .i64 0, .int .i64 0, .int .i64 0]) (t := 61) ?hr ?_; (case hd => rfl); (case hg => rfl); (case hr => first | (go_simp; done) | (go_simp; rfl)); intro gb159 hg w31 hbox hb; have n0_ := Aside0.mk (blk_below (g := gb154) (o := .cells #[.int .i64 0, .int .i64 0, .int .i64 0, .int .i64 0, .int .i64 0, .int .i64 0, .int .i64 0, .int .i64 0, .int .i64 0] 65 (0, 0)) (by (with_reducible repeat (first | refine blk_drewN ?_ _ | refine blk_drew ?_ | refine blk_alloc ?_ _)); exact BK154.out) hb); have n1_ := Aside0.mk (below_step (by repeat (first | (with_reducible first | exact HB.out | apply below_alloc | apply pw_below_drewN | apply below_drew1 | refine below_set ?_ GE154.out) | exact HB.out)) hb); have n2_ := Aside0.mk (hbox); have n3_ := Aside0.mk ((by rw [hg]; exact (below_size (by repeat (first | (with_reducible first | exact HB.out | apply below_alloc | apply pw_below_drewN | apply below_drew1 | refine below_set ?_ GE154.out) | exact HB.out))) : w.heap.size ≤ gb159)); have n4_ := Aside0.mk ((by rw [hg]; exact (below_size (by repeat (first | (with_reducible first | exact HB.out | apply below_alloc | apply pw_below_drewN | apply below_drew1 | refine below_set ?_ GE154.out) | exact HB.out))) : w.heap.size ≤ gb159)); have n5_ := Aside0.mk ((by rw [hg]; exact Nat.ne_of_lt (blk_lt (g := gb154) (o := .cells #[.int .i64 0, .int .i64 0, .int .i64 0, .int .i64 0, .int .i64 0, .int .i64 0, .int .i64 0, .int .i64 0, .int .i64 0] 65 (0, 0)) (by (with_reducible repeat (first | refine blk_drewN ?_ _ | refine blk_drew ?_ | refine blk_alloc ?_ _)); exact BK154.out)) : gb154 ≠ gb159)); have n6_ := Aside0.mk ((by rw [hg]; exact Nat.ne_of_gt (blk_lt (g := gb154) (o := .cells #[.int .i64 0, .int .i64 0, .int .i64 0, .int .i64 0, .int .i64 0, .int .i64 0, .int .i64 0, .int .i64 0, .int .i64 0] 65 (0, 0)) (by (with_reducible repeat (first | refine blk_drewN ?_ _ | refine blk_drew ?_ | refine blk_alloc ?_ _)); exact BK154.out)) : gb159 ≠ gb154)); clear BK154; clear HB; have BK154 := n0_; have HB := n1_; have BK159 := n2_; have GW159 := n3_; have GE159 := n4_; have NB154_159 := n5_; have NB159_154 := n6_; clear n0_ n1_ n2_ n3_ n4_ n5_ n6_; clear hb hbox hg; have hnb32 := NB159_154.out; have hnc32 := NB154_159.out; have hcz33_0 : w31.cell? ⟨gb159, 0, none⟩ = some (.int .i64 0) := (blk_cell BK159.out 0).trans rfl; have hcz33_1 : w31.cell? ⟨gb159, 1, none⟩ = some (.int .i64 0) := (blk_cell BK159.out 1).trans rfl; have hcz33_2 : w31.cell? ⟨gb159, 2, none⟩ = some (.int .i64 0) := (blk_cell BK159.out 2).trans rfl; have hfz33_0 := blk_frozen BK159.out 0; have hfz33_1 := blk_frozen BK159.out 1; have hfz33_2 := blk_frozen BK159.out 2) | ((with_reducible refine gate_callee (f := 51) rfl ?_); refine gm_ (some 15) Tryz.func51 #[.int .i64 a0] ?_; (with_reducible refine (rata_InYear.calls a0 t160 t161 _ A3.out).mono ?_); rintro e w34 ⟨rfl, hb⟩; refine ⟨_, rfl, ?_⟩; have n0_ := Aside0.mk (blk_below (g := gb154) (o := .cells #[.int .i64 0, .int .i64 0, .int .i64 0, .int .i64 0, .int .i64 0, .int .i64 0, .int .i64 0, .int .i64 0, .int .i64 0] 65 (0, 0)) (by (with_reducible repeat (first | refine blk_drewN ?_ _ | refine blk_drew ?_ | refine blk_alloc ?_ _)); refine blk_far ?_ NB154_159.out _; (with_reducible repeat (first | refine blk_drewN ?_ _ | refine blk_drew ?_ | refine blk_alloc ?_ _)); refine blk_far ?_ NB154_159.out _; (with_reducible repeat (first | refine blk_drewN ?_ _ | refine blk_drew ?_ | refine blk_alloc ?_ _)); refine blk_far ?_ NB154_159.out _; (with_reducible repeat (first | refine blk_drewN ?_ _ | refine blk_drew ?_ | refine blk_alloc ?_ _)); exact BK154.out) hb); have n1_ := Aside0.mk (blk_below (g := gb159) (o := .cells #[.int .i64 t155, .int .i64 t156, .int .i64 t157] 61 (0, 0)) (by (with_reducible repeat (first | refine blk_drewN ?_ _ | refine blk_drew ?_ | refine blk_alloc ?_ _)); refine blk_put (cs := #[.int .i64 t155, .int .i64 t156, .int .i64 0]) ?_ 2 _ rfl; (with_reducible repeat (first | refine blk_drewN ?_ _ | refine blk_drew ?_ | refine blk_alloc ?_ _)); refine blk_put (cs := #[.int .i64 t155, .int .i64 0, .int .i64 0]) ?_ 1 _ rfl; (with_reducible repeat (first | refine blk_drewN ?_ _ | refine blk_drew ?_ | refine blk_alloc ?_ _)); refine blk_put (cs := #[.int .i64 0, .int .i64 0, .int .i64 0]) ?_ 0 _ rfl; (with_reducible repeat (first | refine blk_drewN ?_ _ | refine blk_drew ?_ | refine blk_alloc ?_ _)); exact BK159.out) hb); have n2_ := Aside0.mk (below_step (by repeat (first | (with_reducible first | exact HB.out | apply below_alloc | apply pw_below_drewN | apply below_drew1 | refine below_set ?_ GE154.out | refine below_set ?_ GE159.out) | exact HB.out)) hb); clear BK154; clear BK159; clear HB; have BK154 := n0_; have BK159 := n1_; have HB := n2_; clear n0_ n1_ n2_; (try clear hb); (try clear hb2); (try clear hk); (try clear hi); have hcz35_0 : w34.cell? ⟨gb159, 0, none⟩ = some (.int .i64 t155) := (blk_cell BK159.out 0).trans rfl; have hcz35_1 : w34.cell? ⟨gb159, 1, none⟩ = some (.int .i64 t156) := (blk_cell BK159.out 1).trans rfl; have hcz35_2 : w34.cell? ⟨gb159, 2, none⟩ = some (.int .i64 t157) := (blk_cell BK159.out 2).trans rfl; have hfz35_0 := blk_frozen BK159.out 0; have hfz35_1 := blk_frozen BK159.out 1; have hfz35_2 := blk_frozen BK159.out 2) | ((with_reducible refine gate_callee (f := 52) rfl ?_); refine gm_ (some 20) Tryz.func52 #[.int .i64 t155] ?_; (with_reducible refine (rata_Leap.calls t155 false _ A4.out).mono ?_); rintro e w' ⟨rfl, ⟨nd, rfl⟩⟩; refine ⟨_, rfl, ?_⟩; (try (rw [drewN_self w34]; generalize hq_ : World.drewN w34 _ = w34; have n0_ : Aside0 (w34.heap[gb154]? = some (.cells #[.int .i64 0, .int .i64 0, .int .i64 0, .int .i64 0, .int .i64 0, .int .i64 0, .int .i64 0, .int .i64 0, .int .i64 0] 65 (0, 0))) := ⟨by rw [← hq_]; exact (by (with_reducible repeat (first | refine blk_drewN ?_ _ | refine blk_drew ?_ | refine blk_alloc ?_ _)); exact BK154.out)⟩; have n1_ : Aside0 (w34.heap[gb159]? = some (.cells #[.int .i64 t155, .int .i64 t156, .int .i64 t157] 61 (0, 0))) := ⟨by rw [← hq_]; exact (by (with_reducible repeat (first | refine blk_drewN ?_ _ | refine blk_drew ?_ | refine blk_alloc ?_ _)); exact BK159.out)⟩; have n2_ : Aside0 (Below w.heap.size w w34) := ⟨by rw [← hq_]; exact (by repeat (first | (with_reducible first | exact HB.out | apply below_alloc | apply pw_below_drewN | apply below_drew1 | refine below_set ?_ GE154.out | refine below_set ?_ GE159.out) | exact HB.out))⟩; clear BK154 BK159 HB hq_; have BK154 := n0_; have BK159 := n1_; have HB := n2_; clear n0_ n1_ n2_)); (try (have hcz36_0 : w34.cell? ⟨gb154, 0, none⟩ = some (.int .i64 0) := (blk_cell BK154.out 0).trans rfl; have hcz36_1 : w34.cell? ⟨gb154, 1, none⟩ = some (.int .i64 0) := (blk_cell BK154.out 1).trans rfl; have hcz36_2 : w34.cell? ⟨gb154, 2, none⟩ = some (.int .i64 0) := (blk_cell BK154.out 2).trans rfl; have hcz36_3 : w34.cell? ⟨gb154, 3, none⟩ = some (.int .i64 0) := (blk_cell BK154.out 3).trans rfl; have hcz36_4 : w34.cell? ⟨gb154, 4, none⟩ = some (.int .i64 0) := (blk_cell BK154.out 4).trans rfl; have hcz36_5 : w34.cell? ⟨gb154, 5, none⟩ = some (.int .i64 0) := (blk_cell BK154.out 5).trans rfl; have hcz36_6 : w34.cell? ⟨gb154, 6, none⟩ = some (.int .i64 0) := (blk_cell BK154.out 6).trans rfl; have hcz36_7 : w34.cell? ⟨gb154, 7, none⟩ = some (.int .i64 0) := (blk_cell BK154.out 7).trans rfl; have hcz36_8 : w34.cell? ⟨gb154, 8, none⟩ = some (.int .i64 0) := (blk_cell BK154.out 8).trans rfl; have hfz36_0 := blk_frozen BK154.out 0; have hfz36_1 := blk_frozen BK154.out 1; have hfz36_2 := blk_frozen BK154.out 2; have hfz36_3 := blk_frozen BK154.out 3; have hfz36_4 := blk_frozen BK154.out 4; have hfz36_5 := blk_frozen BK154.out 5; have hfz36_6 := blk_frozen BK154.out 6; have hfz36_7 := blk_frozen BK154.out 7; have hfz36_8 := blk_frozen BK154.out 8; have hcz37_0 : w34.cell? ⟨gb159, 0, none⟩ = some (.int .i64 t155) := (blk_cell BK159.out 0).trans rfl; have hcz37_1 : w34.cell? ⟨gb159, 1, none⟩ = some (.int .i64 t156) := (blk_cell BK159.out 1).trans rfl; have hcz37_2 : w34.cell? ⟨gb159, 2, none⟩ = some (.int .i64 t157) := (blk_cell BK159.out 2).trans rfl; have hfz37_0 := blk_frozen BK159.out 0; have hfz37_1 := blk_frozen BK159.out 1; have hfz37_2 := blk_frozen BK159.out 2))))
  have n0_ := Aside0.mk (blk_drew BK154.out)
  have n1_ := Aside0.mk (blk_drew BK159.out)
  have n2_ := Aside0.mk (below_drew1 HB.out)
  clear BK154
  clear BK159
  clear HB
  have BK154 := n0_
  have BK159 := n1_
  have HB := n2_
  clear n0_ n1_ n2_
  refine start_ (n := 17) (S := fun w' => w'.cell? ⟨gb159, 0, none⟩ = some (.int .i64 t155) ∧ w'.cell? ⟨gb159, 1, none⟩ = some (.int .i64 t156) ∧ w'.cell? ⟨gb159, 2, none⟩ = some (.int .i64 t157)) (ds := []) (fl 17 0) (by kernel_rfl) rfl rfl ⟨(blk_cell BK159.out 0).trans rfl, (blk_cell BK159.out 1).trans rfl, (blk_cell BK159.out 2).trans rfl⟩ (fun hHeld => ?_); refine with_tabW match_of.tab6 match_of.bits6 (fun HT_ HW_ => ?_)
  generalize w34.drew = w38 at BK154 BK159 HB hHeld ⊢
  refine pu 0 (some 23) (fl 17 1) HT_ ?_
  refine pu 2 (some 25) #[true, false, true, false, false, false, false, false, false, false, false, false, false, false, false, false, false] HT_ ?_
  refine pu 4 (some 27) #[true, false, true, false, true, false, false, false, false, false, false, false, false, false, false, false, false] HT_ ?_
  refine pu 6 (some 29) #[true, false, true, false, true, false, true, false, false, false, false, false, false, false, false, false, false] HT_ ?_
  refine pu 8 (some 31) #[true, false, true, false, true, false, true, false, true, false, false, false, false, false, false, false, false] HT_ ?_
  refine pu 12 (some 35) #[true, false, true, false, true, false, true, false, true, false, false, false, true, false, false, false, false] HT_ ?_
  refine pu 13 (some 36) #[true, false, true, false, true, false, true, false, true, false, false, false, true, true, false, false, false] HT_ ?_
  refine pu 14 (some 37) #[true, false, true, false, true, false, true, false, true, false, false, false, true, true, true, false, false] HT_ ?_
  refine take_ (i := 1) (N := some 24) (v := ?_) (a' := ?_) #[true, true, true, false, true, false, true, false, true, false, false, false, true, true, true, false, false] rfl rfl (take_ofW HT_.out HW_.out (by kernel_rfl)) (fun _ _ _ h => h) (Or.inl ⟨by rfl, ?_⟩) hHeld ?_ ?_
  rotate_left
  ·rintro w' ⟨s0, s1, s2⟩
   go_simp
   with_reducible rfl
  rotate_left
  ·simp only [Act.put, sA, sB, sC, i64_w, i32_w]
   rfl
  refine take_ (i := 5) (N := some 28) (v := ?_) (a' := ?_) #[true, true, true, false, true, true, true, false, true, false, false, false, true, true, true, false, false] rfl rfl (take_ofW HT_.out HW_.out (by kernel_rfl)) (fun _ _ _ h => h) (Or.inl ⟨by rfl, ?_⟩) hHeld ?_ ?_
  rotate_left
  ·rintro w' ⟨s0, s1, s2⟩
   go_simp
   with_reducible rfl
  rotate_left
  ·simp only [Act.put, sA, sB, sC, i64_w, i32_w]
   rfl
  refine take_ (i := 7) (N := some 30) (v := ?_) (a' := ?_) #[true, true, true, false, true, true, true, true, true, false, false, false, true, true, true, false, false] rfl rfl (take_ofW HT_.out HW_.out (by kernel_rfl)) (fun _ _ _ h => h) (Or.inl ⟨by rfl, ?_⟩) hHeld ?_ ?_
  rotate_left
  ·rintro w' ⟨s0, s1, s2⟩
   go_simp
   with_reducible rfl
  rotate_left
  ·simp only [Act.put, sA, sB, sC, i64_w, i32_w]
   rfl
  refine take_ (i := 9) (N := some 32) (v := ?_) (a' := ?_) #[true, true, true, false, true, true, true, true, true, true, false, false, true, true, true, false, false] rfl rfl (take_ofW HT_.out HW_.out (by kernel_rfl)) (fun _ _ _ h => h) (Or.inl ⟨by rfl, ?_⟩) hHeld ?_ ?_
  rotate_left
  ·rintro w' ⟨s0, s1, s2⟩
   go_simp
   with_reducible rfl
  rotate_left
  ·simp only [Act.put, sA, sB, sC, i64_w, i32_w]
   rfl
  refine one_ (i := 3) (N := some 26) #[true, true, true, true, true, true, true, true, true, true, false, false, true, true, true, false, false] rfl rfl (one_of HT_.out (by kernel_rfl)) (by decide) (fun K hK => ?_)
  refine goes_ Tryz.func53 (by kernel_rfl) rfl #[.int .i64 a0] (by rfl) rfl rfl (by (try simp only [mA, mB, mC]); first | done | rfl) ?_
  with_reducible refine (rata_Weekday.calls a0 t165 _ A27.out).mono ?_
  rintro e w' ⟨rfl, ⟨nd, rfl⟩⟩
  refine ⟨_, rfl, ?_⟩
  refine hK.out _ _ ⟨(blk_cell BK159.out 0).trans rfl, (blk_cell BK159.out 1).trans rfl, (blk_cell BK159.out 2).trans rfl⟩ (fun hHeld => ?_)
  clear hK K
  refine norm_ (a' := ?_) ?_ ?_
  rotate_left
  ·show Act.put _ (some 26) _ = _
   simp only [Act.put, sA, sB, sC, i64_w, i32_w]
   rfl
  refine one_ (i := 10) (N := some 33) #[true, true, true, true, true, true, true, true, true, true, true, false, true, true, true, false, false] rfl rfl (one_of HT_.out (by kernel_rfl)) (by decide) (fun K hK => ?_)
  refine goes_ Tryz.func54 (by kernel_rfl) rfl #[.int .i64 t155, .int .i64 t156] (by rfl) rfl rfl (by (try simp only [mA, mB, mC]); first | done | rfl) ?_
  with_reducible refine (rata_Length.calls k t155 t156 t166 _ A28.out).mono ?_
  rintro e w' ⟨rfl, ⟨nd, rfl⟩⟩
  refine ⟨_, rfl, ?_⟩
  refine hK.out _ _ ⟨(blk_cell BK159.out 0).trans rfl, (blk_cell BK159.out 1).trans rfl, (blk_cell BK159.out 2).trans rfl⟩ (fun hHeld => ?_)
  clear hK K
  refine norm_ (a' := ?_) ?_ ?_
  rotate_left
  ·show Act.put _ (some 33) _ = _
   simp only [Act.put, sA, sB, sC, i64_w, i32_w]
   rfl
  refine pu 11 (some 34) (fl 17 15) HT_ ?_
  refine pu 15 (some 38) (fl 17 16) HT_ ?_
  refine one_ (i := 16) (N := none) (fl 17 17) rfl rfl (one_of HT_.out (by kernel_rfl)) (by decide) (fun K hK => ?_)
  have hs39 : w38.cell? ⟨gb154, 0, none⟩ = some (.int .i64 0) := (blk_cell BK154.out 0).trans rfl
  have hfs39 := blk_frozen BK154.out 0
  have hns39_1 := NB159_154.out
  have hms39_1 := NB154_159.out
  have hs40 : w38.cell? ⟨gb154, 1, none⟩ = some (.int .i64 0) := (blk_cell BK154.out 1).trans rfl
  have hfs40 := blk_frozen BK154.out 1
  have hns40_1 := NB159_154.out
  have hms40_1 := NB154_159.out
  have hs41 : w38.cell? ⟨gb154, 2, none⟩ = some (.int .i64 0) := (blk_cell BK154.out 2).trans rfl
  have hfs41 := blk_frozen BK154.out 2
  have hns41_1 := NB159_154.out
  have hms41_1 := NB154_159.out
  have hs42 : w38.cell? ⟨gb154, 3, none⟩ = some (.int .i64 0) := (blk_cell BK154.out 3).trans rfl
  have hfs42 := blk_frozen BK154.out 3
  have hns42_1 := NB159_154.out
  have hms42_1 := NB154_159.out
  have hs43 : w38.cell? ⟨gb154, 4, none⟩ = some (.int .i64 0) := (blk_cell BK154.out 4).trans rfl
  have hfs43 := blk_frozen BK154.out 4
  have hns43_1 := NB159_154.out
  have hms43_1 := NB154_159.out
  have hs44 : w38.cell? ⟨gb154, 5, none⟩ = some (.int .i64 0) := (blk_cell BK154.out 5).trans rfl
  have hfs44 := blk_frozen BK154.out 5
  have hns44_1 := NB159_154.out
  have hms44_1 := NB154_159.out
  have hs45 : w38.cell? ⟨gb154, 6, none⟩ = some (.int .i64 0) := (blk_cell BK154.out 6).trans rfl
  have hfs45 := blk_frozen BK154.out 6
  have hns45_1 := NB159_154.out
  have hms45_1 := NB154_159.out
  have hs46 : w38.cell? ⟨gb154, 7, none⟩ = some (.int .i64 0) := (blk_cell BK154.out 7).trans rfl
  have hfs46 := blk_frozen BK154.out 7
  have hns46_1 := NB159_154.out
  have hms46_1 := NB154_159.out
  have hs47 : w38.cell? ⟨gb154, 8, none⟩ = some (.int .i64 0) := (blk_cell BK154.out 8).trans rfl
  have hfs47 := blk_frozen BK154.out 8
  have hns47_1 := NB159_154.out
  have hms47_1 := NB154_159.out
  refine skip_ (w1 := ?_) (by rfl) rfl ?_ ?_
  rotate_left
  ·go_simp
   rfl
  refine hK.out _ _ ⟨((cell_far (p := ⟨gb154, _, none⟩) NB159_154.out _).trans (((cell_far (p := ⟨gb154, _, none⟩) NB159_154.out _).trans (((cell_far (p := ⟨gb154, _, none⟩) NB159_154.out _).trans (((cell_far (p := ⟨gb154, _, none⟩) NB159_154.out _).trans (((cell_far (p := ⟨gb154, _, none⟩) NB159_154.out _).trans (((cell_far (p := ⟨gb154, _, none⟩) NB159_154.out _).trans (((cell_far (p := ⟨gb154, _, none⟩) NB159_154.out _).trans (((cell_far (p := ⟨gb154, _, none⟩) NB159_154.out _).trans (((cell_far (p := ⟨gb154, _, none⟩) NB159_154.out _).trans (hHeld.1)))))))))))))))))), ((cell_far (p := ⟨gb154, _, none⟩) NB159_154.out _).trans (((cell_far (p := ⟨gb154, _, none⟩) NB159_154.out _).trans (((cell_far (p := ⟨gb154, _, none⟩) NB159_154.out _).trans (((cell_far (p := ⟨gb154, _, none⟩) NB159_154.out _).trans (((cell_far (p := ⟨gb154, _, none⟩) NB159_154.out _).trans (((cell_far (p := ⟨gb154, _, none⟩) NB159_154.out _).trans (((cell_far (p := ⟨gb154, _, none⟩) NB159_154.out _).trans (((cell_far (p := ⟨gb154, _, none⟩) NB159_154.out _).trans (((cell_far (p := ⟨gb154, _, none⟩) NB159_154.out _).trans (hHeld.2.1)))))))))))))))))), ((cell_far (p := ⟨gb154, _, none⟩) NB159_154.out _).trans (((cell_far (p := ⟨gb154, _, none⟩) NB159_154.out _).trans (((cell_far (p := ⟨gb154, _, none⟩) NB159_154.out _).trans (((cell_far (p := ⟨gb154, _, none⟩) NB159_154.out _).trans (((cell_far (p := ⟨gb154, _, none⟩) NB159_154.out _).trans (((cell_far (p := ⟨gb154, _, none⟩) NB159_154.out _).trans (((cell_far (p := ⟨gb154, _, none⟩) NB159_154.out _).trans (((cell_far (p := ⟨gb154, _, none⟩) NB159_154.out _).trans (((cell_far (p := ⟨gb154, _, none⟩) NB159_154.out _).trans (hHeld.2.2))))))))))))))))))⟩ (fun hHeld => ?_)
  clear hK K
  refine done_ (done_of HT_.out (by kernel_rfl)) ?_
  try go_wp2
  refine bodyPost_ret (results_cell_row rfl _ _ gb154 65 #[.int .i64 a0, .int .i64 t155, .int .i64 t156, .int .i64 t157, .int .i64 t165, .int .i64 t157, .int .i64 t166, .int .i64 t160, .int .i64 365] (0, 0) _ rfl (by (with_reducible repeat (first | refine blk_drewN ?_ _ | refine blk_drew ?_ | refine blk_alloc ?_ _)); refine blk_put (cs := #[.int .i64 a0, .int .i64 t155, .int .i64 t156, .int .i64 t157, .int .i64 t165, .int .i64 t157, .int .i64 t166, .int .i64 t160, .int .i64 0]) ?_ 8 _ rfl; (with_reducible repeat (first | refine blk_drewN ?_ _ | refine blk_drew ?_ | refine blk_alloc ?_ _)); refine blk_put (cs := #[.int .i64 a0, .int .i64 t155, .int .i64 t156, .int .i64 t157, .int .i64 t165, .int .i64 t157, .int .i64 t166, .int .i64 0, .int .i64 0]) ?_ 7 _ rfl; (with_reducible repeat (first | refine blk_drewN ?_ _ | refine blk_drew ?_ | refine blk_alloc ?_ _)); refine blk_put (cs := #[.int .i64 a0, .int .i64 t155, .int .i64 t156, .int .i64 t157, .int .i64 t165, .int .i64 t157, .int .i64 0, .int .i64 0, .int .i64 0]) ?_ 6 _ rfl; (with_reducible repeat (first | refine blk_drewN ?_ _ | refine blk_drew ?_ | refine blk_alloc ?_ _)); refine blk_put (cs := #[.int .i64 a0, .int .i64 t155, .int .i64 t156, .int .i64 t157, .int .i64 t165, .int .i64 0, .int .i64 0, .int .i64 0, .int .i64 0]) ?_ 5 _ rfl; (with_reducible repeat (first | refine blk_drewN ?_ _ | refine blk_drew ?_ | refine blk_alloc ?_ _)); refine blk_put (cs := #[.int .i64 a0, .int .i64 t155, .int .i64 t156, .int .i64 t157, .int .i64 0, .int .i64 0, .int .i64 0, .int .i64 0, .int .i64 0]) ?_ 4 _ rfl; (with_reducible repeat (first | refine blk_drewN ?_ _ | refine blk_drew ?_ | refine blk_alloc ?_ _)); refine blk_put (cs := #[.int .i64 a0, .int .i64 t155, .int .i64 t156, .int .i64 0, .int .i64 0, .int .i64 0, .int .i64 0, .int .i64 0, .int .i64 0]) ?_ 3 _ rfl; (with_reducible repeat (first | refine blk_drewN ?_ _ | refine blk_drew ?_ | refine blk_alloc ?_ _)); refine blk_put (cs := #[.int .i64 a0, .int .i64 t155, .int .i64 0, .int .i64 0, .int .i64 0, .int .i64 0, .int .i64 0, .int .i64 0, .int .i64 0]) ?_ 2 _ rfl; (with_reducible repeat (first | refine blk_drewN ?_ _ | refine blk_drew ?_ | refine blk_alloc ?_ _)); refine blk_put (cs := #[.int .i64 a0, .int .i64 0, .int .i64 0, .int .i64 0, .int .i64 0, .int .i64 0, .int .i64 0, .int .i64 0, .int .i64 0]) ?_ 1 _ rfl; (with_reducible repeat (first | refine blk_drewN ?_ _ | refine blk_drew ?_ | refine blk_alloc ?_ _)); refine blk_put (cs := #[.int .i64 0, .int .i64 0, .int .i64 0, .int .i64 0, .int .i64 0, .int .i64 0, .int .i64 0, .int .i64 0, .int .i64 0]) ?_ 0 _ rfl; (with_reducible repeat (first | refine blk_drewN ?_ _ | refine blk_drew ?_ | refine blk_alloc ?_ _)); exact BK154.out) Tryz.underlying65 rfl (by kernel_rfl)) rfl ?_
  exact ⟨by first | rfl | (simp [i64_w]; done) | (simp [errW_none, errW_some] <;> rfl) | (simp [*, errW_none, errW_some] <;> rfl), by repeat (first | (with_reducible first | exact HB.out | apply below_alloc | apply pw_below_drewN | apply below_drew1 | refine below_set ?_ GE154.out | refine below_set ?_ GE159.out) | exact HB.out)⟩

end Go.Proofs.YtfdcldjoncednaaGreat.M
