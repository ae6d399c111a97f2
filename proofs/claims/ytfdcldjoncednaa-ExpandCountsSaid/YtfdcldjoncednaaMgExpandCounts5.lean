/- Texts of this claim, merged: MmatC. -/
import Derived.Test.YtfdcldjoncednaaMgExpandCounts1
import Derived.Test.YtfdcldjoncednaaMgExpandCounts3
import Derived.Test.YtfdcldjoncednaaMgExpandCounts2
namespace Go.Proofs.Ytfdcldjoncednaa.M
open Go.RowKit Go.Proofs.YtfdcldjoncednaaW.PrintWords Go.Proofs.YtfdcldjoncednaaW.PrintLast Go.Proofs.YtfdcldjoncednaaW.PrintMore
attribute [local go_sem] max2_int min2_int max_two min_two
set_option linter.unusedVariables false
set_option linter.unusedSimpArgs false
/-! ### match_of: function 21 -/
def match_of.f (k : Nat) (a0 : Int) : Option (Int × Int × Int × Int × Int × Int × Int × Int × Int) := (rata_Date.f k a0).bind fun bt201 => ((rata_InYear.f a0).bind fun bt206 => ((rata_Leap.f bt201.1).bind fun t208 => (if t208 = true then ((rata_Weekday.f a0).bind fun t209 => ((rata_Length.f k bt201.1 bt201.2.1).bind fun t210 => (some (a0, bt201.1, bt201.2.1, bt201.2.2.1, t209, bt201.2.2.1, t210, bt206.1, 365 + 1)))) else ((rata_Weekday.f a0).bind fun t211 => ((rata_Length.f k bt201.1 bt201.2.1).bind fun t212 => (some (a0, bt201.1, bt201.2.1, bt201.2.2.1, t211, bt201.2.2.1, t212, bt206.1, 365)))))))
def match_of.T6 : Bool × List (List Nat × List Nat) := (true, [([], []), ([], []), ([], []), ([2], [2]), ([], []), ([4], [4]), ([], []), ([6], [6]), ([], []), ([8], [8]), ([7, 9, 3], [7, 9]), ([5, 10], [5, 10]), ([], []), ([], []), ([12, 13], [12, 13]), ([0, 1, 3, 11, 14], [0, 1, 3, 11, 14]), ([15, 10, 0, 1, 2, 3, 4, 5, 6, 7, 8, 9, 10, 11, 12, 13, 14, 15], [15])])
def match_of.B6 : List Nat := [0, 0, 0, 4, 0, 16, 0, 64, 0, 256, 972, 2044, 0, 0, 12288, 32767, 65535]
theorem match_of.tab6 : rtab .any (opsOf Try.f21 6) = match_of.T6 := by kernel_rfl
theorem match_of.bits6 : waitsOk match_of.T6.2 match_of.B6 = true := by kernel_rfl
set_option maxHeartbeats 8000000 in
set_option maxRecDepth 100000 in
theorem match_of.calls (k : Nat) (a0 : Int) (r1 : Int) (r2 : Int) (r3 : Int) (r4 : Int) (r5 : Int) (r6 : Int) (r7 : Int) (r8 : Int) (r9 : Int) (w : World) (h : match_of.f k a0 = some (r1, r2, r3, r4, r5, r6, r7, r8, r9)) :
  Calls Try.prog 21 #[.int .i64 a0] w fun e w' => e = .returned (.agg #[.int .i64 r1, .int .i64 r2, .int .i64 r3, .int .i64 r4, .int .i64 r5, .int .i64 r6, .int .i64 r7, .int .i64 r8, .int .i64 r9]) ∧ Below w.heap.size w w' := by
 have hu54 := Try.underlying54
 have hu50 := Try.underlying50
 have hu52 := Try.underlying52
 have HB := Aside0.mk (Below.refl w.heap.size w)
 have H : ((rata_Date.f k a0).bind fun bt201 => ((rata_InYear.f a0).bind fun bt206 => ((rata_Leap.f bt201.1).bind fun t208 => (if t208 = true then ((rata_Weekday.f a0).bind fun t209 => ((rata_Length.f k bt201.1 bt201.2.1).bind fun t210 => (some (a0, bt201.1, bt201.2.1, bt201.2.2.1, t209, bt201.2.2.1, t210, bt206.1, 365 + 1)))) else ((rata_Weekday.f a0).bind fun t211 => ((rata_Length.f k bt201.1 bt201.2.1).bind fun t212 => (some (a0, bt201.1, bt201.2.1, bt201.2.2.1, t211, bt201.2.2.1, t212, bt206.1, 365)))))))) = some (r1, r2, r3, r4, r5, r6, r7, r8, r9) := h
 clear h
 replace H := Option.bind_eq_some_iff.mp H
 obtain ⟨⟨t201, t202, t203, t204⟩, A20, H⟩ := H
 replace H : ((rata_InYear.f a0).bind fun bt206 => ((rata_Leap.f t201).bind fun t208 => (if t208 = true then ((rata_Weekday.f a0).bind fun t209 => ((rata_Length.f k t201 t202).bind fun t210 => (some (a0, t201, t202, t203, t209, t203, t210, bt206.1, 365 + 1)))) else ((rata_Weekday.f a0).bind fun t211 => ((rata_Length.f k t201 t202).bind fun t212 => (some (a0, t201, t202, t203, t211, t203, t212, bt206.1, 365))))))) = some (r1, r2, r3, r4, r5, r6, r7, r8, r9) := H
 have A2 := Aside0.mk A20
 clear A20
 replace H := Option.bind_eq_some_iff.mp H
 obtain ⟨⟨t206, t207⟩, A30, H⟩ := H
 replace H : ((rata_Leap.f t201).bind fun t208 => (if t208 = true then ((rata_Weekday.f a0).bind fun t209 => ((rata_Length.f k t201 t202).bind fun t210 => (some (a0, t201, t202, t203, t209, t203, t210, t206, 365 + 1)))) else ((rata_Weekday.f a0).bind fun t211 => ((rata_Length.f k t201 t202).bind fun t212 => (some (a0, t201, t202, t203, t211, t203, t212, t206, 365)))))) = some (r1, r2, r3, r4, r5, r6, r7, r8, r9) := H
 have A3 := Aside0.mk A30
 clear A30
 replace H := Option.bind_eq_some_iff.mp H
 obtain ⟨t208, A40, H⟩ := H
 replace H : (if t208 = true then ((rata_Weekday.f a0).bind fun t209 => ((rata_Length.f k t201 t202).bind fun t210 => (some (a0, t201, t202, t203, t209, t203, t210, t206, 365 + 1)))) else ((rata_Weekday.f a0).bind fun t211 => ((rata_Length.f k t201 t202).bind fun t212 => (some (a0, t201, t202, t203, t211, t203, t212, t206, 365))))) = some (r1, r2, r3, r4, r5, r6, r7, r8, r9) := H
 have A4 := Aside0.mk A40
 clear A40
 by_cases c5 : t208 = true
 ·subst c5
  have H1 : ((rata_Weekday.f a0).bind fun t209 => ((rata_Length.f k t201 t202).bind fun t210 => (some (a0, t201, t202, t203, t209, t203, t210, t206, 365 + 1)))) = some (r1, r2, r3, r4, r5, r6, r7, r8, r9) := by rw [if_pos rfl] at H; exact H
  clear H
  have H := H1
  clear H1
  replace H := Option.bind_eq_some_iff.mp H
  obtain ⟨t209, A60, H⟩ := H
  replace H : ((rata_Length.f k t201 t202).bind fun t210 => (some (a0, t201, t202, t203, t209, t203, t210, t206, 365 + 1))) = some (r1, r2, r3, r4, r5, r6, r7, r8, r9) := H
  have A6 := Aside0.mk A60
  clear A60
  replace H := Option.bind_eq_some_iff.mp H
  obtain ⟨t210, A70, H⟩ := H
  replace H : (some (a0, t201, t202, t203, t209, t203, t210, t206, 365 + 1)) = some (r1, r2, r3, r4, r5, r6, r7, r8, r9) := H
  have A7 := Aside0.mk A70
  clear A70
  simp only [Option.some.injEq, Prod.mk.injEq] at H
  obtain ⟨rfl, rfl, rfl, rfl, rfl, rfl, rfl, rfl, rfl⟩ := H
  go_enter Try.func21, Try.ntmps21
  try go_wp2_with (first | ((with_reducible refine gate_dst (N := 2) rfl ?_); refine box_event ?hg (N := 2) ?hd (cs := #[.int .i64 0, .int .i64 0, .int .i64 0, .int .i64 0, .int .i64 0, .int .i64 0, .int .i64 0, .int .i64 0, .int .i64 0]) (t := 54) ?hr ?_; (case hd => rfl); (case hg => rfl); (case hr => first | (go_simp; done) | (go_simp; rfl)); intro gb200 hg w8 hbox hb; have n0_ := Aside0.mk (below_step (by repeat (first | (with_reducible first | exact HB.out | apply below_alloc | apply pw_below_drewN | apply below_drew1) | exact HB.out)) hb); have n1_ := Aside0.mk (hbox); have n2_ := Aside0.mk ((by rw [hg]; exact (below_size (by repeat (first | (with_reducible first | exact HB.out | apply below_alloc | apply pw_below_drewN | apply below_drew1) | exact HB.out))) : w.heap.size ≤ gb200)); have n3_ := Aside0.mk ((by rw [hg]; exact (below_size (by repeat (first | (with_reducible first | exact HB.out | apply below_alloc | apply pw_below_drewN | apply below_drew1) | exact HB.out))) : w.heap.size ≤ gb200)); clear HB; have HB := n0_; have BK200 := n1_; have GW200 := n2_; have GE200 := n3_; clear n0_ n1_ n2_ n3_; clear hb hbox hg) | ((with_reducible refine gate_callee (f := 47) rfl ?_); refine gm_ (some 10) Try.func47 #[.int .i64 a0] ?_; (with_reducible refine (rata_Date.calls k a0 t201 t202 t203 t204 _ A2.out).mono ?_); rintro e w9 ⟨rfl, hb⟩; refine ⟨_, rfl, ?_⟩; have n0_ := Aside0.mk (blk_below (g := gb200) (o := .cells #[.int .i64 0, .int .i64 0, .int .i64 0, .int .i64 0, .int .i64 0, .int .i64 0, .int .i64 0, .int .i64 0, .int .i64 0] 54 (0, 0)) (by (with_reducible repeat (first | refine blk_drewN ?_ _ | refine blk_drew ?_ | refine blk_alloc ?_ _)); exact BK200.out) hb); have n1_ := Aside0.mk (below_step (by repeat (first | (with_reducible first | exact HB.out | apply below_alloc | apply pw_below_drewN | apply below_drew1 | refine below_set ?_ GE200.out) | exact HB.out)) hb); clear BK200; clear HB; have BK200 := n0_; have HB := n1_; clear n0_ n1_; (try clear hb); (try clear hb2); (try clear hk); (try clear hi)) | ((with_reducible refine gate_dst (N := 3) rfl ?_); refine box_event ?hg (N := 3) ?hd (cs := #[.int .i64 0, .int .i64 0, .int .i64 0]) (t := 50) ?hr ?_; (case hd => rfl); (case hg => rfl); (case hr => first | (go_simp; done) | (go_simp; rfl)); intro gb205 hg w10 hbox hb; have n0_ := Aside0.mk (blk_below (g := gb200) (o := .cells #[.int .i64 0, .int .i64 0, .int .i64 0, .int .i64 0, .int .i64 0, .int .i64 0, .int .i64 0, .int .i64 0, .int .i64 0] 54 (0, 0)) (by (with_reducible repeat (first | refine blk_drewN ?_ _ | refine blk_drew ?_ | refine blk_alloc ?_ _)); exact BK200.out) hb); have n1_ := Aside0.mk (below_step (by repeat (first | (with_reducible first | exact HB.out | apply below_alloc | apply pw_below_drewN | apply below_drew1 | refine below_set ?_ GE200.out) | exact HB.out)) hb); have n2_ := Aside0.mk (hbox); have n3_ := Aside0.mk ((by rw [hg]; exact (below_size (by repeat (first | (with_reducible first | exact HB.out | apply below_alloc | apply pw_below_drewN | apply below_drew1 | refine below_set ?_ GE200.out) | exact HB.out))) : w.heap.size ≤ gb205)); have n4_ := Aside0.mk ((by rw [hg]; exact (below_size (by repeat (first | (with_reducible first | exact HB.out | apply below_alloc | apply pw_below_drewN | apply below_drew1 | refine below_set ?_ GE200.out) | exact HB.out))) : w.heap.size ≤ gb205)); have n5_ := Aside0.mk ((by rw [hg]; exact Nat.ne_of_lt (blk_lt (g := gb200) (o := .cells #[.int .i64 0, .int .i64 0, .int .i64 0, .int .i64 0, .int .i64 0, .int .i64 0, .int .i64 0, .int .i64 0, .int .i64 0] 54 (0, 0)) (by (with_reducible repeat (first | refine blk_drewN ?_ _ | refine blk_drew ?_ | refine blk_alloc ?_ _)); exact BK200.out)) : gb200 ≠ gb205)); have n6_ := Aside0.mk ((by rw [hg]; exact Nat.ne_of_gt (blk_lt (g := gb200) (o := .cells #[.int .i64 0, .int .i64 0, .int .i64 0, .int .i64 0, .int .i64 0, .int .i64 0, .int .i64 0, .int .i64 0, .int .i64 0] 54 (0, 0)) (by (with_reducible repeat (first | refine blk_drewN ?_ _ | refine blk_drew ?_ | refine blk_alloc ?_ _)); exact BK200.out)) : gb205 ≠ gb200)); clear BK200; clear HB; have BK200 := n0_; have HB := n1_; have BK205 := n2_; have GW205 := n3_; have GE205 := n4_; have NB200_205 := n5_; have NB205_200 := n6_; clear n0_ n1_ n2_ n3_ n4_ n5_ n6_; clear hb hbox hg; have hnb11 := NB205_200.out; have hnc11 := NB200_205.out; have hcz12_0 : w10.cell? ⟨gb205, 0, none⟩ = some (.int .i64 0) := (blk_cell BK205.out 0).trans rfl; have hcz12_1 : w10.cell? ⟨gb205, 1, none⟩ = some (.int .i64 0) := (blk_cell BK205.out 1).trans rfl; have hcz12_2 : w10.cell? ⟨gb205, 2, none⟩ = some (.int .i64 0) := (blk_cell BK205.out 2).trans rfl; have hfz12_0 := blk_frozen BK205.out 0; have hfz12_1 := blk_frozen BK205.out 1; have hfz12_2 := blk_frozen BK205.out 2) | ((with_reducible refine gate_callee (f := 48) rfl ?_); refine gm_ (some 15) Try.func48 #[.int .i64 a0] ?_; (with_reducible refine (rata_InYear.calls a0 t206 t207 _ A3.out).mono ?_); rintro e w13 ⟨rfl, hb⟩; refine ⟨_, rfl, ?_⟩; have n0_ := Aside0.mk (blk_below (g := gb200) (o := .cells #[.int .i64 0, .int .i64 0, .int .i64 0, .int .i64 0, .int .i64 0, .int .i64 0, .int .i64 0, .int .i64 0, .int .i64 0] 54 (0, 0)) (by (with_reducible repeat (first | refine blk_drewN ?_ _ | refine blk_drew ?_ | refine blk_alloc ?_ _)); refine blk_far ?_ NB200_205.out _; (with_reducible repeat (first | refine blk_drewN ?_ _ | refine blk_drew ?_ | refine blk_alloc ?_ _)); refine blk_far ?_ NB200_205.out _; (with_reducible repeat (first | refine blk_drewN ?_ _ | refine blk_drew ?_ | refine blk_alloc ?_ _)); refine blk_far ?_ NB200_205.out _; (with_reducible repeat (first | refine blk_drewN ?_ _ | refine blk_drew ?_ | refine blk_alloc ?_ _)); exact BK200.out) hb); have n1_ := Aside0.mk (blk_below (g := gb205) (o := .cells #[.int .i64 t201, .int .i64 t202, .int .i64 t203] 50 (0, 0)) (by (with_reducible repeat (first | refine blk_drewN ?_ _ | refine blk_drew ?_ | refine blk_alloc ?_ _)); refine blk_put (cs := #[.int .i64 t201, .int .i64 t202, .int .i64 0]) ?_ 2 _ rfl; (with_reducible repeat (first | refine blk_drewN ?_ _ | refine blk_drew ?_ | refine blk_alloc ?_ _)); refine blk_put (cs := #[.int .i64 t201, .int .i64 0, .int .i64 0]) ?_ 1 _ rfl; (with_reducible repeat (first | refine blk_drewN ?_ _ | refine blk_drew ?_ | refine blk_alloc ?_ _)); refine blk_put (cs := #[.int .i64 0, .int .i64 0, .int .i64 0]) ?_ 0 _ rfl; (with_reducible repeat (first | refine blk_drewN ?_ _ | refine blk_drew ?_ | refine blk_alloc ?_ _)); exact BK205.out) hb); have n2_ := Aside0.mk (below_step (by repeat (first | (with_reducible first | exact HB.out | apply below_alloc | apply pw_below_drewN | apply below_drew1 | refine below_set ?_ GE200.out | refine below_set ?_ GE205.out) | exact HB.out)) hb); clear BK200; clear BK205; clear HB; have BK200 := n0_; have BK205 := n1_; have HB := n2_; clear n0_ n1_ n2_; (try clear hb); (try clear hb2); (try clear hk); (try clear hi); have hcz14_0 : w13.cell? ⟨gb205, 0, none⟩ = some (.int .i64 t201) := (blk_cell BK205.out 0).trans rfl; have hcz14_1 : w13.cell? ⟨gb205, 1, none⟩ = some (.int .i64 t202) := (blk_cell BK205.out 1).trans rfl; have hcz14_2 : w13.cell? ⟨gb205, 2, none⟩ = some (.int .i64 t203) := (blk_cell BK205.out 2).trans rfl; have hfz14_0 := blk_frozen BK205.out 0; have hfz14_1 := blk_frozen BK205.out 1; have hfz14_2 := blk_frozen BK205.out 2) | ((with_reducible refine gate_callee (f := 49) rfl ?_); refine gm_ (some 20) Try.func49 #[.int .i64 t201] ?_; (with_reducible refine (rata_Leap.calls t201 true _ A4.out).mono ?_); rintro e w' ⟨rfl, ⟨nd, rfl⟩⟩; refine ⟨_, rfl, ?_⟩; (try (rw [drewN_self w13]; generalize hq_ : World.drewN w13 _ = w13; have n0_ : Aside0 (w13.heap[gb200]? = some (.cells #[.int .i64 0, .int .i64 0, .int .i64 0, .int .i64 0, .int .i64 0, .int .i64 0, .int .i64 0, .int .i64 0, .int .i64 0] 54 (0, 0))) := ⟨by rw [← hq_]; exact (by (with_reducible repeat (first | refine blk_drewN ?_ _ | refine blk_drew ?_ | refine blk_alloc ?_ _)); exact BK200.out)⟩; have n1_ : Aside0 (w13.heap[gb205]? = some (.cells #[.int .i64 t201, .int .i64 t202, .int .i64 t203] 50 (0, 0))) := ⟨by rw [← hq_]; exact (by (with_reducible repeat (first | refine blk_drewN ?_ _ | refine blk_drew ?_ | refine blk_alloc ?_ _)); exact BK205.out)⟩; have n2_ : Aside0 (Below w.heap.size w w13) := ⟨by rw [← hq_]; exact (by repeat (first | (with_reducible first | exact HB.out | apply below_alloc | apply pw_below_drewN | apply below_drew1 | refine below_set ?_ GE200.out | refine below_set ?_ GE205.out) | exact HB.out))⟩; clear BK200 BK205 HB hq_; have BK200 := n0_; have BK205 := n1_; have HB := n2_; clear n0_ n1_ n2_)); (try (have hcz15_0 : w13.cell? ⟨gb200, 0, none⟩ = some (.int .i64 0) := (blk_cell BK200.out 0).trans rfl; have hcz15_1 : w13.cell? ⟨gb200, 1, none⟩ = some (.int .i64 0) := (blk_cell BK200.out 1).trans rfl; have hcz15_2 : w13.cell? ⟨gb200, 2, none⟩ = some (.int .i64 0) := (blk_cell BK200.out 2).trans rfl; have hcz15_3 : w13.cell? ⟨gb200, 3, none⟩ = some (.int .i64 0) := (blk_cell BK200.out 3).trans rfl; have hcz15_4 : w13.cell? ⟨gb200, 4, none⟩ = some (.int .i64 0) := (blk_cell BK200.out 4).trans rfl; have hcz15_5 : w13.cell? ⟨gb200, 5, none⟩ = some (.int .i64 0) := (blk_cell BK200.out 5).trans rfl; have hcz15_6 : w13.cell? ⟨gb200, 6, none⟩ = some (.int .i64 0) := (blk_cell BK200.out 6).trans rfl; have hcz15_7 : w13.cell? ⟨gb200, 7, none⟩ = some (.int .i64 0) := (blk_cell BK200.out 7).trans rfl; have hcz15_8 : w13.cell? ⟨gb200, 8, none⟩ = some (.int .i64 0) := (blk_cell BK200.out 8).trans rfl; have hfz15_0 := blk_frozen BK200.out 0; have hfz15_1 := blk_frozen BK200.out 1; have hfz15_2 := blk_frozen BK200.out 2; have hfz15_3 := blk_frozen BK200.out 3; have hfz15_4 := blk_frozen BK200.out 4; have hfz15_5 := blk_frozen BK200.out 5; have hfz15_6 := blk_frozen BK200.out 6; have hfz15_7 := blk_frozen BK200.out 7; have hfz15_8 := blk_frozen BK200.out 8; have hcz16_0 : w13.cell? ⟨gb205, 0, none⟩ = some (.int .i64 t201) := (blk_cell BK205.out 0).trans rfl; have hcz16_1 : w13.cell? ⟨gb205, 1, none⟩ = some (.int .i64 t202) := (blk_cell BK205.out 1).trans rfl; have hcz16_2 : w13.cell? ⟨gb205, 2, none⟩ = some (.int .i64 t203) := (blk_cell BK205.out 2).trans rfl; have hfz16_0 := blk_frozen BK205.out 0; have hfz16_1 := blk_frozen BK205.out 1; have hfz16_2 := blk_frozen BK205.out 2))))
  have n0_ := Aside0.mk (blk_drew BK200.out)
  have n1_ := Aside0.mk (blk_drew BK205.out)
  have n2_ := Aside0.mk (below_drew1 HB.out)
  clear BK200
  clear BK205
  clear HB
  have BK200 := n0_
  have BK205 := n1_
  have HB := n2_
  clear n0_ n1_ n2_
  refine start_ (n := 17) (S := fun w' => w'.cell? ⟨gb205, 0, none⟩ = some (.int .i64 t201) ∧ w'.cell? ⟨gb205, 1, none⟩ = some (.int .i64 t202) ∧ w'.cell? ⟨gb205, 2, none⟩ = some (.int .i64 t203)) (ds := []) #[false, false, false, false, false, false, false, false, false, false, false, false, false, false, false, false, false] (by kernel_rfl) rfl rfl ⟨(blk_cell BK205.out 0).trans rfl, (blk_cell BK205.out 1).trans rfl, (blk_cell BK205.out 2).trans rfl⟩ (fun hHeld => ?_); refine with_tabW match_of.tab6 match_of.bits6 (fun HT_ HW_ => ?_)
  generalize w13.drew = w17 at BK200 BK205 HB hHeld ⊢
  refine pure_ (i := 0) (N := some 23) (v := ?_) (a' := ?_) #[true, false, false, false, false, false, false, false, false, false, false, false, false, false, false, false, false] rfl rfl (any_of HT_.out (by kernel_rfl)) (fun _ _ _ h => h) (Or.inl ⟨by rfl, ?_⟩) ?_ ?_
  rotate_left
  ·intro w'
   go_simp
   with_reducible rfl
  rotate_left
  ·simp only [Act.put, sA, sB, sC, i64_w, i32_w]
   rfl
  refine pure_ (i := 2) (N := some 25) (v := ?_) (a' := ?_) #[true, false, true, false, false, false, false, false, false, false, false, false, false, false, false, false, false] rfl rfl (any_of HT_.out (by kernel_rfl)) (fun _ _ _ h => h) (Or.inl ⟨by rfl, ?_⟩) ?_ ?_
  rotate_left
  ·intro w'
   go_simp
   with_reducible rfl
  rotate_left
  ·simp only [Act.put, sA, sB, sC, i64_w, i32_w]
   rfl
  refine pure_ (i := 4) (N := some 27) (v := ?_) (a' := ?_) #[true, false, true, false, true, false, false, false, false, false, false, false, false, false, false, false, false] rfl rfl (any_of HT_.out (by kernel_rfl)) (fun _ _ _ h => h) (Or.inl ⟨by rfl, ?_⟩) ?_ ?_
  rotate_left
  ·intro w'
   go_simp
   with_reducible rfl
  rotate_left
  ·simp only [Act.put, sA, sB, sC, i64_w, i32_w]
   rfl
  refine pure_ (i := 6) (N := some 29) (v := ?_) (a' := ?_) #[true, false, true, false, true, false, true, false, false, false, false, false, false, false, false, false, false] rfl rfl (any_of HT_.out (by kernel_rfl)) (fun _ _ _ h => h) (Or.inl ⟨by rfl, ?_⟩) ?_ ?_
  rotate_left
  ·intro w'
   go_simp
   with_reducible rfl
  rotate_left
  ·simp only [Act.put, sA, sB, sC, i64_w, i32_w]
   rfl
  refine pure_ (i := 8) (N := some 31) (v := ?_) (a' := ?_) #[true, false, true, false, true, false, true, false, true, false, false, false, false, false, false, false, false] rfl rfl (any_of HT_.out (by kernel_rfl)) (fun _ _ _ h => h) (Or.inl ⟨by rfl, ?_⟩) ?_ ?_
  rotate_left
  ·intro w'
   go_simp
   with_reducible rfl
  rotate_left
  ·simp only [Act.put, sA, sB, sC, i64_w, i32_w]
   rfl
  refine pure_ (i := 12) (N := some 35) (v := ?_) (a' := ?_) #[true, false, true, false, true, false, true, false, true, false, false, false, true, false, false, false, false] rfl rfl (any_of HT_.out (by kernel_rfl)) (fun _ _ _ h => h) (Or.inl ⟨by rfl, ?_⟩) ?_ ?_
  rotate_left
  ·intro w'
   go_simp
   with_reducible rfl
  rotate_left
  ·simp only [Act.put, sA, sB, sC, i64_w, i32_w]
   rfl
  refine pure_ (i := 13) (N := some 36) (v := ?_) (a' := ?_) #[true, false, true, false, true, false, true, false, true, false, false, false, true, true, false, false, false] rfl rfl (any_of HT_.out (by kernel_rfl)) (fun _ _ _ h => h) (Or.inl ⟨by rfl, ?_⟩) ?_ ?_
  rotate_left
  ·intro w'
   go_simp
   with_reducible rfl
  rotate_left
  ·simp only [Act.put, sA, sB, sC, i64_w, i32_w]
   rfl
  refine pure_ (i := 14) (N := some 37) (v := ?_) (a' := ?_) #[true, false, true, false, true, false, true, false, true, false, false, false, true, true, true, false, false] rfl rfl (any_of HT_.out (by kernel_rfl)) (fun _ _ _ h => h) (Or.inl ⟨by rfl, ?_⟩) ?_ ?_
  rotate_left
  ·intro w'
   go_simp
   with_reducible rfl
  rotate_left
  ·simp only [Act.put, sA, sB, sC, i64_w, i32_w]
   rfl
  refine take_ (i := 1) (N := some 24) (v := ?_) (a' := ?_) #[true, true, true, false, true, false, true, false, true, false, false, false, true, true, true, false, false] rfl rfl (take_ofW HT_.out HW_.out (by kernel_rfl)) (fun _ _ _ h => h) (Or.inl ⟨by rfl, ?_⟩) hHeld ?_ ?_
  rotate_left
  ·rintro w' ⟨s0, s1, s2⟩
   go_simp
   with_reducible rfl
  rotate_left
  ·simp only [Act.put, sA, sB, sC, i64_w, i32_w]
   rfl
  refine take_ (i := 5) (N := some 28) (v := ?_) (a' := ?_) #[true, true, true, false, true, true, true, false, true, false, false, false, true, true, true, false, false] rfl rfl (take_ofW HT_.out HW_.out (by kernel_rfl)) (fun _ _ _ h => h) (Or.inl ⟨by rfl, ?_⟩) hHeld ?_ ?_
  rotate_left
  ·rintro w' ⟨s0, s1, s2⟩
   go_simp
   with_reducible rfl
  rotate_left
  ·simp only [Act.put, sA, sB, sC, i64_w, i32_w]
   rfl
  refine take_ (i := 7) (N := some 30) (v := ?_) (a' := ?_) #[true, true, true, false, true, true, true, true, true, false, false, false, true, true, true, false, false] rfl rfl (take_ofW HT_.out HW_.out (by kernel_rfl)) (fun _ _ _ h => h) (Or.inl ⟨by rfl, ?_⟩) hHeld ?_ ?_
  rotate_left
  ·rintro w' ⟨s0, s1, s2⟩
   go_simp
   with_reducible rfl
  rotate_left
  ·simp only [Act.put, sA, sB, sC, i64_w, i32_w]
   rfl
  refine take_ (i := 9) (N := some 32) (v := ?_) (a' := ?_) #[true, true, true, false, true, true, true, true, true, true, false, false, true, true, true, false, false] rfl rfl (take_ofW HT_.out HW_.out (by kernel_rfl)) (fun _ _ _ h => h) (Or.inl ⟨by rfl, ?_⟩) hHeld ?_ ?_
  rotate_left
  ·rintro w' ⟨s0, s1, s2⟩
   go_simp
   with_reducible rfl
  rotate_left
  ·simp only [Act.put, sA, sB, sC, i64_w, i32_w]
   rfl
  refine one_ (i := 3) (N := some 26) #[true, true, true, true, true, true, true, true, true, true, false, false, true, true, true, false, false] rfl rfl (one_of HT_.out (by kernel_rfl)) (by decide) (fun K hK => ?_)
  refine goes_ Try.func50 (by kernel_rfl) rfl #[.int .i64 a0] (by rfl) rfl rfl (by (try simp only [mA, mB, mC]); first | done | rfl) ?_
  with_reducible refine (rata_Weekday.calls a0 t209 _ A6.out).mono ?_
  rintro e w' ⟨rfl, ⟨nd, rfl⟩⟩
  refine ⟨_, rfl, ?_⟩
  refine hK.out _ _ ⟨(blk_cell BK205.out 0).trans rfl, (blk_cell BK205.out 1).trans rfl, (blk_cell BK205.out 2).trans rfl⟩ (fun hHeld => ?_)
  clear hK K
  refine norm_ (a' := ?_) ?_ ?_
  rotate_left
  ·show Act.put _ (some 26) _ = _
   simp only [Act.put, sA, sB, sC, i64_w, i32_w]
   rfl
  refine one_ (i := 10) (N := some 33) #[true, true, true, true, true, true, true, true, true, true, true, false, true, true, true, false, false] rfl rfl (one_of HT_.out (by kernel_rfl)) (by decide) (fun K hK => ?_)
  refine goes_ Try.func51 (by kernel_rfl) rfl #[.int .i64 t201, .int .i64 t202] (by rfl) rfl rfl (by (try simp only [mA, mB, mC]); first | done | rfl) ?_
  with_reducible refine (rata_Length.calls k t201 t202 t210 _ A7.out).mono ?_
  rintro e w' ⟨rfl, ⟨nd, rfl⟩⟩
  refine ⟨_, rfl, ?_⟩
  refine hK.out _ _ ⟨(blk_cell BK205.out 0).trans rfl, (blk_cell BK205.out 1).trans rfl, (blk_cell BK205.out 2).trans rfl⟩ (fun hHeld => ?_)
  clear hK K
  refine norm_ (a' := ?_) ?_ ?_
  rotate_left
  ·show Act.put _ (some 33) _ = _
   simp only [Act.put, sA, sB, sC, i64_w, i32_w]
   rfl
  refine pure_ (i := 11) (N := some 34) (v := ?_) (a' := ?_) #[true, true, true, true, true, true, true, true, true, true, true, true, true, true, true, false, false] rfl rfl (any_of HT_.out (by kernel_rfl)) (fun _ _ _ h => h) (Or.inl ⟨by rfl, ?_⟩) ?_ ?_
  rotate_left
  ·intro w'
   go_simp
   with_reducible rfl
  rotate_left
  ·simp only [Act.put, sA, sB, sC, i64_w, i32_w]
   rfl
  refine pure_ (i := 15) (N := some 38) (v := ?_) (a' := ?_) #[true, true, true, true, true, true, true, true, true, true, true, true, true, true, true, true, false] rfl rfl (any_of HT_.out (by kernel_rfl)) (fun _ _ _ h => h) (Or.inl ⟨by rfl, ?_⟩) ?_ ?_
  rotate_left
  ·intro w'
   go_simp
   with_reducible rfl
  rotate_left
  ·simp only [Act.put, sA, sB, sC, i64_w, i32_w]
   rfl
  refine one_ (i := 16) (N := none) #[true, true, true, true, true, true, true, true, true, true, true, true, true, true, true, true, true] rfl rfl (one_of HT_.out (by kernel_rfl)) (by decide) (fun K hK => ?_)
  have hs18 : w17.cell? ⟨gb200, 0, none⟩ = some (.int .i64 0) := (blk_cell BK200.out 0).trans rfl
  have hfs18 := blk_frozen BK200.out 0
  have hns18_1 := NB205_200.out
  have hms18_1 := NB200_205.out
  have hs19 : w17.cell? ⟨gb200, 1, none⟩ = some (.int .i64 0) := (blk_cell BK200.out 1).trans rfl
  have hfs19 := blk_frozen BK200.out 1
  have hns19_1 := NB205_200.out
  have hms19_1 := NB200_205.out
  have hs20 : w17.cell? ⟨gb200, 2, none⟩ = some (.int .i64 0) := (blk_cell BK200.out 2).trans rfl
  have hfs20 := blk_frozen BK200.out 2
  have hns20_1 := NB205_200.out
  have hms20_1 := NB200_205.out
  have hs21 : w17.cell? ⟨gb200, 3, none⟩ = some (.int .i64 0) := (blk_cell BK200.out 3).trans rfl
  have hfs21 := blk_frozen BK200.out 3
  have hns21_1 := NB205_200.out
  have hms21_1 := NB200_205.out
  have hs22 : w17.cell? ⟨gb200, 4, none⟩ = some (.int .i64 0) := (blk_cell BK200.out 4).trans rfl
  have hfs22 := blk_frozen BK200.out 4
  have hns22_1 := NB205_200.out
  have hms22_1 := NB200_205.out
  have hs23 : w17.cell? ⟨gb200, 5, none⟩ = some (.int .i64 0) := (blk_cell BK200.out 5).trans rfl
  have hfs23 := blk_frozen BK200.out 5
  have hns23_1 := NB205_200.out
  have hms23_1 := NB200_205.out
  have hs24 : w17.cell? ⟨gb200, 6, none⟩ = some (.int .i64 0) := (blk_cell BK200.out 6).trans rfl
  have hfs24 := blk_frozen BK200.out 6
  have hns24_1 := NB205_200.out
  have hms24_1 := NB200_205.out
  have hs25 : w17.cell? ⟨gb200, 7, none⟩ = some (.int .i64 0) := (blk_cell BK200.out 7).trans rfl
  have hfs25 := blk_frozen BK200.out 7
  have hns25_1 := NB205_200.out
  have hms25_1 := NB200_205.out
  have hs26 : w17.cell? ⟨gb200, 8, none⟩ = some (.int .i64 0) := (blk_cell BK200.out 8).trans rfl
  have hfs26 := blk_frozen BK200.out 8
  have hns26_1 := NB205_200.out
  have hms26_1 := NB200_205.out
  refine skip_ (w1 := ?_) (by rfl) rfl ?_ ?_
  rotate_left
  ·go_simp
   rfl
  refine hK.out _ _ ⟨((cell_far (p := ⟨gb200, _, none⟩) NB205_200.out _).trans (((cell_far (p := ⟨gb200, _, none⟩) NB205_200.out _).trans (((cell_far (p := ⟨gb200, _, none⟩) NB205_200.out _).trans (((cell_far (p := ⟨gb200, _, none⟩) NB205_200.out _).trans (((cell_far (p := ⟨gb200, _, none⟩) NB205_200.out _).trans (((cell_far (p := ⟨gb200, _, none⟩) NB205_200.out _).trans (((cell_far (p := ⟨gb200, _, none⟩) NB205_200.out _).trans (((cell_far (p := ⟨gb200, _, none⟩) NB205_200.out _).trans (((cell_far (p := ⟨gb200, _, none⟩) NB205_200.out _).trans (hHeld.1)))))))))))))))))), ((cell_far (p := ⟨gb200, _, none⟩) NB205_200.out _).trans (((cell_far (p := ⟨gb200, _, none⟩) NB205_200.out _).trans (((cell_far (p := ⟨gb200, _, none⟩) NB205_200.out _).trans (((cell_far (p := ⟨gb200, _, none⟩) NB205_200.out _).trans (((cell_far (p := ⟨gb200, _, none⟩) NB205_200.out _).trans (((cell_far (p := ⟨gb200, _, none⟩) NB205_200.out _).trans (((cell_far (p := ⟨gb200, _, none⟩) NB205_200.out _).trans (((cell_far (p := ⟨gb200, _, none⟩) NB205_200.out _).trans (((cell_far (p := ⟨gb200, _, none⟩) NB205_200.out _).trans (hHeld.2.1)))))))))))))))))), ((cell_far (p := ⟨gb200, _, none⟩) NB205_200.out _).trans (((cell_far (p := ⟨gb200, _, none⟩) NB205_200.out _).trans (((cell_far (p := ⟨gb200, _, none⟩) NB205_200.out _).trans (((cell_far (p := ⟨gb200, _, none⟩) NB205_200.out _).trans (((cell_far (p := ⟨gb200, _, none⟩) NB205_200.out _).trans (((cell_far (p := ⟨gb200, _, none⟩) NB205_200.out _).trans (((cell_far (p := ⟨gb200, _, none⟩) NB205_200.out _).trans (((cell_far (p := ⟨gb200, _, none⟩) NB205_200.out _).trans (((cell_far (p := ⟨gb200, _, none⟩) NB205_200.out _).trans (hHeld.2.2))))))))))))))))))⟩ (fun hHeld => ?_)
  clear hK K
  refine done_ (done_of HT_.out (by kernel_rfl)) ?_
  try go_wp2
  refine bodyPost_ret (results_cell_row rfl _ _ gb200 54 #[.int .i64 a0, .int .i64 t201, .int .i64 t202, .int .i64 t203, .int .i64 t209, .int .i64 t203, .int .i64 t210, .int .i64 t206, .int .i64 (365 + 1)] (0, 0) _ rfl (by (with_reducible repeat (first | refine blk_drewN ?_ _ | refine blk_drew ?_ | refine blk_alloc ?_ _)); refine blk_put (cs := #[.int .i64 a0, .int .i64 t201, .int .i64 t202, .int .i64 t203, .int .i64 t209, .int .i64 t203, .int .i64 t210, .int .i64 t206, .int .i64 0]) ?_ 8 _ rfl; (with_reducible repeat (first | refine blk_drewN ?_ _ | refine blk_drew ?_ | refine blk_alloc ?_ _)); refine blk_put (cs := #[.int .i64 a0, .int .i64 t201, .int .i64 t202, .int .i64 t203, .int .i64 t209, .int .i64 t203, .int .i64 t210, .int .i64 0, .int .i64 0]) ?_ 7 _ rfl; (with_reducible repeat (first | refine blk_drewN ?_ _ | refine blk_drew ?_ | refine blk_alloc ?_ _)); refine blk_put (cs := #[.int .i64 a0, .int .i64 t201, .int .i64 t202, .int .i64 t203, .int .i64 t209, .int .i64 t203, .int .i64 0, .int .i64 0, .int .i64 0]) ?_ 6 _ rfl; (with_reducible repeat (first | refine blk_drewN ?_ _ | refine blk_drew ?_ | refine blk_alloc ?_ _)); refine blk_put (cs := #[.int .i64 a0, .int .i64 t201, .int .i64 t202, .int .i64 t203, .int .i64 t209, .int .i64 0, .int .i64 0, .int .i64 0, .int .i64 0]) ?_ 5 _ rfl; (with_reducible repeat (first | refine blk_drewN ?_ _ | refine blk_drew ?_ | refine blk_alloc ?_ _)); refine blk_put (cs := #[.int .i64 a0, .int .i64 t201, .int .i64 t202, .int .i64 t203, .int .i64 0, .int .i64 0, .int .i64 0, .int .i64 0, .int .i64 0]) ?_ 4 _ rfl; (with_reducible repeat (first | refine blk_drewN ?_ _ | refine blk_drew ?_ | refine blk_alloc ?_ _)); refine blk_put (cs := #[.int .i64 a0, .int .i64 t201, .int .i64 t202, .int .i64 0, .int .i64 0, .int .i64 0, .int .i64 0, .int .i64 0, .int .i64 0]) ?_ 3 _ rfl; (with_reducible repeat (first | refine blk_drewN ?_ _ | refine blk_drew ?_ | refine blk_alloc ?_ _)); refine blk_put (cs := #[.int .i64 a0, .int .i64 t201, .int .i64 0, .int .i64 0, .int .i64 0, .int .i64 0, .int .i64 0, .int .i64 0, .int .i64 0]) ?_ 2 _ rfl; (with_reducible repeat (first | refine blk_drewN ?_ _ | refine blk_drew ?_ | refine blk_alloc ?_ _)); refine blk_put (cs := #[.int .i64 a0, .int .i64 0, .int .i64 0, .int .i64 0, .int .i64 0, .int .i64 0, .int .i64 0, .int .i64 0, .int .i64 0]) ?_ 1 _ rfl; (with_reducible repeat (first | refine blk_drewN ?_ _ | refine blk_drew ?_ | refine blk_alloc ?_ _)); refine blk_put (cs := #[.int .i64 0, .int .i64 0, .int .i64 0, .int .i64 0, .int .i64 0, .int .i64 0, .int .i64 0, .int .i64 0, .int .i64 0]) ?_ 0 _ rfl; (with_reducible repeat (first | refine blk_drewN ?_ _ | refine blk_drew ?_ | refine blk_alloc ?_ _)); exact BK200.out) Try.underlying54 rfl (by kernel_rfl)) rfl ?_
  exact ⟨by first | rfl | (simp [i64_w]; done) | (simp [errW_none, errW_some] <;> rfl) | (simp [*, errW_none, errW_some] <;> rfl), by repeat (first | (with_reducible first | exact HB.out | apply below_alloc | apply pw_below_drewN | apply below_drew1 | refine below_set ?_ GE200.out | refine below_set ?_ GE205.out) | exact HB.out)⟩
 ·replace c5 := Bool.eq_false_iff.mpr c5
  subst c5
  have H1 : ((rata_Weekday.f a0).bind fun t211 => ((rata_Length.f k t201 t202).bind fun t212 => (some (a0, t201, t202, t203, t211, t203, t212, t206, 365)))) = some (r1, r2, r3, r4, r5, r6, r7, r8, r9) := by rw [if_neg (show ¬ (false = true) by decide)] at H; exact H
  clear H
  have H := H1
  clear H1
  replace H := Option.bind_eq_some_iff.mp H
  obtain ⟨t211, A270, H⟩ := H
  replace H : ((rata_Length.f k t201 t202).bind fun t212 => (some (a0, t201, t202, t203, t211, t203, t212, t206, 365))) = some (r1, r2, r3, r4, r5, r6, r7, r8, r9) := H
  have A27 := Aside0.mk A270
  clear A270
  replace H := Option.bind_eq_some_iff.mp H
  obtain ⟨t212, A280, H⟩ := H
  replace H : (some (a0, t201, t202, t203, t211, t203, t212, t206, 365)) = some (r1, r2, r3, r4, r5, r6, r7, r8, r9) := H
  have A28 := Aside0.mk A280
  clear A280
  simp only [Option.some.injEq, Prod.mk.injEq] at H
  obtain ⟨rfl, rfl, rfl, rfl, rfl, rfl, rfl, rfl, rfl⟩ := H
  go_enter Try.func21, Try.ntmps21
  try go_wp2_with (first | ((with_reducible refine gate_dst (N := 2) rfl ?_); refine box_event ?hg (N := 2) ?hd (cs := #[.int .i64 0, .int .i64 0, .int .i64 0, .int .i64 0, .int .i64 0, .int .i64 0, .int .i64 0, .int .i64 0, .int .i64 0]) (t := 54) ?hr ?_; (case hd => rfl); (case hg => rfl); (case hr => first | (go_simp; done) | (go_simp; rfl)); intro gb200 hg w29 hbox hb; have n0_ := Aside0.mk (below_step (by repeat (first | (with_reducible first | exact HB.out | apply below_alloc | apply pw_below_drewN | apply below_drew1) | exact HB.out)) hb); have n1_ := Aside0.mk (hbox); have n2_ := Aside0.mk ((by rw [hg]; exact (below_size (by repeat (first | (with_reducible first | exact HB.out | apply below_alloc | apply pw_below_drewN | apply below_drew1) | exact HB.out))) : w.heap.size ≤ gb200)); have n3_ := Aside0.mk ((by rw [hg]; exact (below_size (by repeat (first | (with_reducible first | exact HB.out | apply below_alloc | apply pw_below_drewN | apply below_drew1) | exact HB.out))) : w.heap.size ≤ gb200)); clear HB; have HB := n0_; have BK200 := n1_; have GW200 := n2_; have GE200 := n3_; clear n0_ n1_ n2_ n3_; clear hb hbox hg) | ((with_reducible refine gate_callee (f := 47) rfl ?_); refine gm_ (some 10) Try.func47 #[.int .i64 a0] ?_; (with_reducible refine (rata_Date.calls k a0 t201 t202 t203 t204 _ A2.out).mono ?_); rintro e w30 ⟨rfl, hb⟩; refine ⟨_, rfl, ?_⟩; have n0_ := Aside0.mk (blk_below (g := gb200) (o := .cells #[.int .i64 0, .int .i64 0, .int .i64 0, .int .i64 0, .int .i64 0, .int .i64 0, .int .i64 0, .int .i64 0, .int .i64 0] 54 (0, 0)) (by (with_reducible repeat (first | refine blk_drewN ?_ _ | refine blk_drew ?_ | refine blk_alloc ?_ _)); exact BK200.out) hb); have n1_ := Aside0.mk (below_step (by repeat (first | (with_reducible first | exact HB.out | apply below_alloc | apply pw_below_drewN | apply below_drew1 | refine below_set ?_ GE200.out) | exact HB.out)) hb); clear BK200; clear HB; have BK200 := n0_; have HB := n1_; clear n0_ n1_; (try clear hb); (try clear hb2); (try clear hk); (try clear hi)) | ((with_reducible refine gate_dst (N := 3) rfl ?_); refine box_event ?hg (N := 3) ?hd (cs := #[.int .i64 0, .int .i64 0, .int .i64 0]) (t := 50) ?hr ?_; (case hd => rfl); (case hg => rfl); (case hr => first | (go_simp; done) | (go_simp; rfl)); intro gb205 hg w31 hbox hb; have n0_ := Aside0.mk (blk_below (g := gb200) (o := .cells #[.int .i64 0, .int .i64 0, .int .i64 0, .int .i64 0, .int .i64 0, .int .i64 0, .int .i64 0, .int .i64 0, .int .i64 0] 54 (0, 0)) (by (with_reducible repeat (first | refine blk_drewN ?_ _ | refine blk_drew ?_ | refine blk_alloc ?_ _)); exact BK200.out) hb); have n1_ := Aside0.mk (below_step (by repeat (first | (with_reducible first | exact HB.out | apply below_alloc | apply pw_below_drewN | apply below_drew1 | refine below_set ?_ GE200.out) | exact HB.out)) hb); have n2_ := Aside0.mk (hbox); have n3_ := Aside0.mk ((by rw [hg]; exact (below_size (by repeat (first | (with_reducible first | exact HB.out | apply below_alloc | apply pw_below_drewN | apply below_drew1 | refine below_set ?_ GE200.out) | exact HB.out))) : w.heap.size ≤ gb205)); have n4_ := Aside0.mk ((by rw [hg]; exact (below_size (by repeat (first | (with_reducible first | exact HB.out | apply below_alloc | apply pw_below_drewN | apply below_drew1 | refine below_set ?_ GE200.out) | exact HB.out))) : w.heap.size ≤ gb205)); have n5_ := Aside0.mk ((by rw [hg]; exact Nat.ne_of_lt (blk_lt (g := gb200) (o := .cells #[.int .i64 0, .int .i64 0, .int .i64 0, .int .i64 0, .int .i64 0, .int .i64 0, .int .i64 0, .int .i64 0, .int .i64 0] 54 (0, 0)) (by (with_reducible repeat (first | refine blk_drewN ?_ _ | refine blk_drew ?_ | refine blk_alloc ?_ _)); exact BK200.out)) : gb200 ≠ gb205)); have n6_ := Aside0.mk ((by rw [hg]; exact Nat.ne_of_gt (blk_lt (g := gb200) (o := .cells #[.int .i64 0, .int .i64 0, .int .i64 0, .int .i64 0, .int .i64 0, .int .i64 0, .int .i64 0, .int .i64 0, .int .i64 0] 54 (0, 0)) (by (with_reducible repeat (first | refine blk_drewN ?_ _ | refine blk_drew ?_ | refine blk_alloc ?_ _)); exact BK200.out)) : gb205 ≠ gb200)); clear BK200; clear HB; have BK200 := n0_; have HB := n1_; have BK205 := n2_; have GW205 := n3_; have GE205 := n4_; have NB200_205 := n5_; have NB205_200 := n6_; clear n0_ n1_ n2_ n3_ n4_ n5_ n6_; clear hb hbox hg; have hnb32 := NB205_200.out; have hnc32 := NB200_205.out; have hcz33_0 : w31.cell? ⟨gb205, 0, none⟩ = some (.int .i64 0) := (blk_cell BK205.out 0).trans rfl; have hcz33_1 : w31.cell? ⟨gb205, 1, none⟩ = some (.int .i64 0) := (blk_cell BK205.out 1).trans rfl; have hcz33_2 : w31.cell? ⟨gb205, 2, none⟩ = some (.int .i64 0) := (blk_cell BK205.out 2).trans rfl; have hfz33_0 := blk_frozen BK205.out 0; have hfz33_1 := blk_frozen BK205.out 1; have hfz33_2 := blk_frozen BK205.out 2) | ((with_reducible refine gate_callee (f := 48) rfl ?_); refine gm_ (some 15) Try.func48 #[.int .i64 a0] ?_; (with_reducible refine (rata_InYear.calls a0 t206 t207 _ A3.out).mono ?_); rintro e w34 ⟨rfl, hb⟩; refine ⟨_, rfl, ?_⟩; have n0_ := Aside0.mk (blk_below (g := gb200) (o := .cells #[.int .i64 0, .int .i64 0, .int .i64 0, .int .i64 0, .int .i64 0, .int .i64 0, .int .i64 0, .int .i64 0, .int .i64 0] 54 (0, 0)) (by (with_reducible repeat (first | refine blk_drewN ?_ _ | refine blk_drew ?_ | refine blk_alloc ?_ _)); refine blk_far ?_ NB200_205.out _; (with_reducible repeat (first | refine blk_drewN ?_ _ | refine blk_drew ?_ | refine blk_alloc ?_ _)); refine blk_far ?_ NB200_205.out _; (with_reducible repeat (first | refine blk_drewN ?_ _ | refine blk_drew ?_ | refine blk_alloc ?_ _)); refine blk_far ?_ NB200_205.out _; (with_reducible repeat (first | refine blk_drewN ?_ _ | refine blk_drew ?_ | refine blk_alloc ?_ _)); exact BK200.out) hb); have n1_ := Aside0.mk (blk_below (g := gb205) (o := .cells #[.int .i64 t201, .int .i64 t202, .int .i64 t203] 50 (0, 0)) (by (with_reducible repeat (first | refine blk_drewN ?_ _ | refine blk_drew ?_ | refine blk_alloc ?_ _)); refine blk_put (cs := #[.int .i64 t201, .int .i64 t202, .int .i64 0]) ?_ 2 _ rfl; (with_reducible repeat (first | refine blk_drewN ?_ _ | refine blk_drew ?_ | refine blk_alloc ?_ _)); refine blk_put (cs := #[.int .i64 t201, .int .i64 0, .int .i64 0]) ?_ 1 _ rfl; (with_reducible repeat (first | refine blk_drewN ?_ _ | refine blk_drew ?_ | refine blk_alloc ?_ _)); refine blk_put (cs := #[.int .i64 0, .int .i64 0, .int .i64 0]) ?_ 0 _ rfl; (with_reducible repeat (first | refine blk_drewN ?_ _ | refine blk_drew ?_ | refine blk_alloc ?_ _)); exact BK205.out) hb); have n2_ := Aside0.mk (below_step (by repeat (first | (with_reducible first | exact HB.out | apply below_alloc | apply pw_below_drewN | apply below_drew1 | refine below_set ?_ GE200.out | refine below_set ?_ GE205.out) | exact HB.out)) hb); clear BK200; clear BK205; clear HB; have BK200 := n0_; have BK205 := n1_; have HB := n2_; clear n0_ n1_ n2_; (try clear hb); (try clear hb2); (try clear hk); (try clear hi); have hcz35_0 : w34.cell? ⟨gb205, 0, none⟩ = some (.int .i64 t201) := (blk_cell BK205.out 0).trans rfl; have hcz35_1 : w34.cell? ⟨gb205, 1, none⟩ = some (.int .i64 t202) := (blk_cell BK205.out 1).trans rfl; have hcz35_2 : w34.cell? ⟨gb205, 2, none⟩ = some (.int .i64 t203) := (blk_cell BK205.out 2).trans rfl; have hfz35_0 := blk_frozen BK205.out 0; have hfz35_1 := blk_frozen BK205.out 1; have hfz35_2 := blk_frozen BK205.out 2) | ((with_reducible refine gate_callee (f := 49) rfl ?_); refine gm_ (some 20) Try.func49 #[.int .i64 t201] ?_; (with_reducible refine (rata_Leap.calls t201 false _ A4.out).mono ?_); rintro e w' ⟨rfl, ⟨nd, rfl⟩⟩; refine ⟨_, rfl, ?_⟩; (try (rw [drewN_self w34]; generalize hq_ : World.drewN w34 _ = w34; have n0_ : Aside0 (w34.heap[gb200]? = some (.cells #[.int .i64 0, .int .i64 0, .int .i64 0, .int .i64 0, .int .i64 0, .int .i64 0, .int .i64 0, .int .i64 0, .int .i64 0] 54 (0, 0))) := ⟨by rw [← hq_]; exact (by (with_reducible repeat (first | refine blk_drewN ?_ _ | refine blk_drew ?_ | refine blk_alloc ?_ _)); exact BK200.out)⟩; have n1_ : Aside0 (w34.heap[gb205]? = some (.cells #[.int .i64 t201, .int .i64 t202, .int .i64 t203] 50 (0, 0))) := ⟨by rw [← hq_]; exact (by (with_reducible repeat (first | refine blk_drewN ?_ _ | refine blk_drew ?_ | refine blk_alloc ?_ _)); exact BK205.out)⟩; have n2_ : Aside0 (Below w.heap.size w w34) := ⟨by rw [← hq_]; exact (by repeat (first | (with_reducible first | exact HB.out | apply below_alloc | apply pw_below_drewN | apply below_drew1 | refine below_set ?_ GE200.out | refine below_set ?_ GE205.out) | exact HB.out))⟩; clear BK200 BK205 HB hq_; have BK200 := n0_; have BK205 := n1_; have HB := n2_; clear n0_ n1_ n2_)); (try (have hcz36_0 : w34.cell? ⟨gb200, 0, none⟩ = some (.int .i64 0) := (blk_cell BK200.out 0).trans rfl; have hcz36_1 : w34.cell? ⟨gb200, 1, none⟩ = some (.int .i64 0) := (blk_cell BK200.out 1).trans rfl; have hcz36_2 : w34.cell? ⟨gb200, 2, none⟩ = some (.int .i64 0) := (blk_cell BK200.out 2).trans rfl; have hcz36_3 : w34.cell? ⟨gb200, 3, none⟩ = some (.int .i64 0) := (blk_cell BK200.out 3).trans rfl; have hcz36_4 : w34.cell? ⟨gb200, 4, none⟩ = some (.int .i64 0) := (blk_cell BK200.out 4).trans rfl; have hcz36_5 : w34.cell? ⟨gb200, 5, none⟩ = some (.int .i64 0) := (blk_cell BK200.out 5).trans rfl; have hcz36_6 : w34.cell? ⟨gb200, 6, none⟩ = some (.int .i64 0) := (blk_cell BK200.out 6).trans rfl; have hcz36_7 : w34.cell? ⟨gb200, 7, none⟩ = some (.int .i64 0) := (blk_cell BK200.out 7).trans rfl; have hcz36_8 : w34.cell? ⟨gb200, 8, none⟩ = some (.int .i64 0) := (blk_cell BK200.out 8).trans rfl; have hfz36_0 := blk_frozen BK200.out 0; have hfz36_1 := blk_frozen BK200.out 1; have hfz36_2 := blk_frozen BK200.out 2; have hfz36_3 := blk_frozen BK200.out 3; have hfz36_4 := blk_frozen BK200.out 4; have hfz36_5 := blk_frozen BK200.out 5; have hfz36_6 := blk_frozen BK200.out 6; have hfz36_7 := blk_frozen BK200.out 7; have hfz36_8 := blk_frozen BK200.out 8; have hcz37_0 : w34.cell? ⟨gb205, 0, none⟩ = some (.int .i64 t201) := (blk_cell BK205.out 0).trans rfl; have hcz37_1 : w34.cell? ⟨gb205, 1, none⟩ = some (.int .i64 t202) := (blk_cell BK205.out 1).trans rfl; have hcz37_2 : w34.cell? ⟨gb205, 2, none⟩ = some (.int .i64 t203) := (blk_cell BK205.out 2).trans rfl; have hfz37_0 := blk_frozen BK205.out 0; have hfz37_1 := blk_frozen BK205.out 1; have hfz37_2 := blk_frozen BK205.out 2))))
  have n0_ := Aside0.mk (blk_drew BK200.out)
  have n1_ := Aside0.mk (blk_drew BK205.out)
  have n2_ := Aside0.mk (below_drew1 HB.out)
  clear BK200
  clear BK205
  clear HB
  have BK200 := n0_
  have BK205 := n1_
  have HB := n2_
  clear n0_ n1_ n2_
  refine start_ (n := 17) (S := fun w' => w'.cell? ⟨gb205, 0, none⟩ = some (.int .i64 t201) ∧ w'.cell? ⟨gb205, 1, none⟩ = some (.int .i64 t202) ∧ w'.cell? ⟨gb205, 2, none⟩ = some (.int .i64 t203)) (ds := []) #[false, false, false, false, false, false, false, false, false, false, false, false, false, false, false, false, false] (by kernel_rfl) rfl rfl ⟨(blk_cell BK205.out 0).trans rfl, (blk_cell BK205.out 1).trans rfl, (blk_cell BK205.out 2).trans rfl⟩ (fun hHeld => ?_); refine with_tabW match_of.tab6 match_of.bits6 (fun HT_ HW_ => ?_)
  generalize w34.drew = w38 at BK200 BK205 HB hHeld ⊢
  refine pure_ (i := 0) (N := some 23) (v := ?_) (a' := ?_) #[true, false, false, false, false, false, false, false, false, false, false, false, false, false, false, false, false] rfl rfl (any_of HT_.out (by kernel_rfl)) (fun _ _ _ h => h) (Or.inl ⟨by rfl, ?_⟩) ?_ ?_
  rotate_left
  ·intro w'
   go_simp
   with_reducible rfl
  rotate_left
  ·simp only [Act.put, sA, sB, sC, i64_w, i32_w]
   rfl
  refine pure_ (i := 2) (N := some 25) (v := ?_) (a' := ?_) #[true, false, true, false, false, false, false, false, false, false, false, false, false, false, false, false, false] rfl rfl (any_of HT_.out (by kernel_rfl)) (fun _ _ _ h => h) (Or.inl ⟨by rfl, ?_⟩) ?_ ?_
  rotate_left
  ·intro w'
   go_simp
   with_reducible rfl
  rotate_left
  ·simp only [Act.put, sA, sB, sC, i64_w, i32_w]
   rfl
  refine pure_ (i := 4) (N := some 27) (v := ?_) (a' := ?_) #[true, false, true, false, true, false, false, false, false, false, false, false, false, false, false, false, false] rfl rfl (any_of HT_.out (by kernel_rfl)) (fun _ _ _ h => h) (Or.inl ⟨by rfl, ?_⟩) ?_ ?_
  rotate_left
  ·intro w'
   go_simp
   with_reducible rfl
  rotate_left
  ·simp only [Act.put, sA, sB, sC, i64_w, i32_w]
   rfl
  refine pure_ (i := 6) (N := some 29) (v := ?_) (a' := ?_) #[true, false, true, false, true, false, true, false, false, false, false, false, false, false, false, false, false] rfl rfl (any_of HT_.out (by kernel_rfl)) (fun _ _ _ h => h) (Or.inl ⟨by rfl, ?_⟩) ?_ ?_
  rotate_left
  ·intro w'
   go_simp
   with_reducible rfl
  rotate_left
  ·simp only [Act.put, sA, sB, sC, i64_w, i32_w]
   rfl
  refine pure_ (i := 8) (N := some 31) (v := ?_) (a' := ?_) #[true, false, true, false, true, false, true, false, true, false, false, false, false, false, false, false, false] rfl rfl (any_of HT_.out (by kernel_rfl)) (fun _ _ _ h => h) (Or.inl ⟨by rfl, ?_⟩) ?_ ?_
  rotate_left
  ·intro w'
   go_simp
   with_reducible rfl
  rotate_left
  ·simp only [Act.put, sA, sB, sC, i64_w, i32_w]
   rfl
  refine pure_ (i := 12) (N := some 35) (v := ?_) (a' := ?_) #[true, false, true, false, true, false, true, false, true, false, false, false, true, false, false, false, false] rfl rfl (any_of HT_.out (by kernel_rfl)) (fun _ _ _ h => h) (Or.inl ⟨by rfl, ?_⟩) ?_ ?_
  rotate_left
  ·intro w'
   go_simp
   with_reducible rfl
  rotate_left
  ·simp only [Act.put, sA, sB, sC, i64_w, i32_w]
   rfl
  refine pure_ (i := 13) (N := some 36) (v := ?_) (a' := ?_) #[true, false, true, false, true, false, true, false, true, false, false, false, true, true, false, false, false] rfl rfl (any_of HT_.out (by kernel_rfl)) (fun _ _ _ h => h) (Or.inl ⟨by rfl, ?_⟩) ?_ ?_
  rotate_left
  ·intro w'
   go_simp
   with_reducible rfl
  rotate_left
  ·simp only [Act.put, sA, sB, sC, i64_w, i32_w]
   rfl
  refine pure_ (i := 14) (N := some 37) (v := ?_) (a' := ?_) #[true, false, true, false, true, false, true, false, true, false, false, false, true, true, true, false, false] rfl rfl (any_of HT_.out (by kernel_rfl)) (fun _ _ _ h => h) (Or.inl ⟨by rfl, ?_⟩) ?_ ?_
  rotate_left
  ·intro w'
   go_simp
   with_reducible rfl
  rotate_left
  ·simp only [Act.put, sA, sB, sC, i64_w, i32_w]
   rfl
  refine take_ (i := 1) (N := some 24) (v := ?_) (a' := ?_) #[true, true, true, false, true, false, true, false, true, false, false, false, true, true, true, false, false] rfl rfl (take_ofW HT_.out HW_.out (by kernel_rfl)) (fun _ _ _ h => h) (Or.inl ⟨by rfl, ?_⟩) hHeld ?_ ?_
  rotate_left
  ·rintro w' ⟨s0, s1, s2⟩
   go_simp
   with_reducible rfl
  rotate_left
  ·simp only [Act.put, sA, sB, sC, i64_w, i32_w]
   rfl
  refine take_ (i := 5) (N := some 28) (v := ?_) (a' := ?_) #[true, true, true, false, true, true, true, false, true, false, false, false, true, true, true, false, false] rfl rfl (take_ofW HT_.out HW_.out (by kernel_rfl)) (fun _ _ _ h => h) (Or.inl ⟨by rfl, ?_⟩) hHeld ?_ ?_
  rotate_left
  ·rintro w' ⟨s0, s1, s2⟩
   go_simp
   with_reducible rfl
  rotate_left
  ·simp only [Act.put, sA, sB, sC, i64_w, i32_w]
   rfl
  refine take_ (i := 7) (N := some 30) (v := ?_) (a' := ?_) #[true, true, true, false, true, true, true, true, true, false, false, false, true, true, true, false, false] rfl rfl (take_ofW HT_.out HW_.out (by kernel_rfl)) (fun _ _ _ h => h) (Or.inl ⟨by rfl, ?_⟩) hHeld ?_ ?_
  rotate_left
  ·rintro w' ⟨s0, s1, s2⟩
   go_simp
   with_reducible rfl
  rotate_left
  ·simp only [Act.put, sA, sB, sC, i64_w, i32_w]
   rfl
  refine take_ (i := 9) (N := some 32) (v := ?_) (a' := ?_) #[true, true, true, false, true, true, true, true, true, true, false, false, true, true, true, false, false] rfl rfl (take_ofW HT_.out HW_.out (by kernel_rfl)) (fun _ _ _ h => h) (Or.inl ⟨by rfl, ?_⟩) hHeld ?_ ?_
  rotate_left
  ·rintro w' ⟨s0, s1, s2⟩
   go_simp
   with_reducible rfl
  rotate_left
  ·simp only [Act.put, sA, sB, sC, i64_w, i32_w]
   rfl
  refine one_ (i := 3) (N := some 26) #[true, true, true, true, true, true, true, true, true, true, false, false, true, true, true, false, false] rfl rfl (one_of HT_.out (by kernel_rfl)) (by decide) (fun K hK => ?_)
  refine goes_ Try.func50 (by kernel_rfl) rfl #[.int .i64 a0] (by rfl) rfl rfl (by (try simp only [mA, mB, mC]); first | done | rfl) ?_
  with_reducible refine (rata_Weekday.calls a0 t211 _ A27.out).mono ?_
  rintro e w' ⟨rfl, ⟨nd, rfl⟩⟩
  refine ⟨_, rfl, ?_⟩
  refine hK.out _ _ ⟨(blk_cell BK205.out 0).trans rfl, (blk_cell BK205.out 1).trans rfl, (blk_cell BK205.out 2).trans rfl⟩ (fun hHeld => ?_)
  clear hK K
  refine norm_ (a' := ?_) ?_ ?_
  rotate_left
  ·show Act.put _ (some 26) _ = _
   simp only [Act.put, sA, sB, sC, i64_w, i32_w]
   rfl
  refine one_ (i := 10) (N := some 33) #[true, true, true, true, true, true, true, true, true, true, true, false, true, true, true, false, false] rfl rfl (one_of HT_.out (by kernel_rfl)) (by decide) (fun K hK => ?_)
  refine goes_ Try.func51 (by kernel_rfl) rfl #[.int .i64 t201, .int .i64 t202] (by rfl) rfl rfl (by (try simp only [mA, mB, mC]); first | done | rfl) ?_
  with_reducible refine (rata_Length.calls k t201 t202 t212 _ A28.out).mono ?_
  rintro e w' ⟨rfl, ⟨nd, rfl⟩⟩
  refine ⟨_, rfl, ?_⟩
  refine hK.out _ _ ⟨(blk_cell BK205.out 0).trans rfl, (blk_cell BK205.out 1).trans rfl, (blk_cell BK205.out 2).trans rfl⟩ (fun hHeld => ?_)
  clear hK K
  refine norm_ (a' := ?_) ?_ ?_
  rotate_left
  ·show Act.put _ (some 33) _ = _
   simp only [Act.put, sA, sB, sC, i64_w, i32_w]
   rfl
  refine pure_ (i := 11) (N := some 34) (v := ?_) (a' := ?_) #[true, true, true, true, true, true, true, true, true, true, true, true, true, true, true, false, false] rfl rfl (any_of HT_.out (by kernel_rfl)) (fun _ _ _ h => h) (Or.inl ⟨by rfl, ?_⟩) ?_ ?_
  rotate_left
  ·intro w'
   go_simp
   with_reducible rfl
  rotate_left
  ·simp only [Act.put, sA, sB, sC, i64_w, i32_w]
   rfl
  refine pure_ (i := 15) (N := some 38) (v := ?_) (a' := ?_) #[true, true, true, true, true, true, true, true, true, true, true, true, true, true, true, true, false] rfl rfl (any_of HT_.out (by kernel_rfl)) (fun _ _ _ h => h) (Or.inl ⟨by rfl, ?_⟩) ?_ ?_
  rotate_left
  ·intro w'
   go_simp
   with_reducible rfl
  rotate_left
  ·simp only [Act.put, sA, sB, sC, i64_w, i32_w]
   rfl
  refine one_ (i := 16) (N := none) #[true, true, true, true, true, true, true, true, true, true, true, true, true, true, true, true, true] rfl rfl (one_of HT_.out (by kernel_rfl)) (by decide) (fun K hK => ?_)
  have hs39 : w38.cell? ⟨gb200, 0, none⟩ = some (.int .i64 0) := (blk_cell BK200.out 0).trans rfl
  have hfs39 := blk_frozen BK200.out 0
  have hns39_1 := NB205_200.out
  have hms39_1 := NB200_205.out
  have hs40 : w38.cell? ⟨gb200, 1, none⟩ = some (.int .i64 0) := (blk_cell BK200.out 1).trans rfl
  have hfs40 := blk_frozen BK200.out 1
  have hns40_1 := NB205_200.out
  have hms40_1 := NB200_205.out
  have hs41 : w38.cell? ⟨gb200, 2, none⟩ = some (.int .i64 0) := (blk_cell BK200.out 2).trans rfl
  have hfs41 := blk_frozen BK200.out 2
  have hns41_1 := NB205_200.out
  have hms41_1 := NB200_205.out
  have hs42 : w38.cell? ⟨gb200, 3, none⟩ = some (.int .i64 0) := (blk_cell BK200.out 3).trans rfl
  have hfs42 := blk_frozen BK200.out 3
  have hns42_1 := NB205_200.out
  have hms42_1 := NB200_205.out
  have hs43 : w38.cell? ⟨gb200, 4, none⟩ = some (.int .i64 0) := (blk_cell BK200.out 4).trans rfl
  have hfs43 := blk_frozen BK200.out 4
  have hns43_1 := NB205_200.out
  have hms43_1 := NB200_205.out
  have hs44 : w38.cell? ⟨gb200, 5, none⟩ = some (.int .i64 0) := (blk_cell BK200.out 5).trans rfl
  have hfs44 := blk_frozen BK200.out 5
  have hns44_1 := NB205_200.out
  have hms44_1 := NB200_205.out
  have hs45 : w38.cell? ⟨gb200, 6, none⟩ = some (.int .i64 0) := (blk_cell BK200.out 6).trans rfl
  have hfs45 := blk_frozen BK200.out 6
  have hns45_1 := NB205_200.out
  have hms45_1 := NB200_205.out
  have hs46 : w38.cell? ⟨gb200, 7, none⟩ = some (.int .i64 0) := (blk_cell BK200.out 7).trans rfl
  have hfs46 := blk_frozen BK200.out 7
  have hns46_1 := NB205_200.out
  have hms46_1 := NB200_205.out
  have hs47 : w38.cell? ⟨gb200, 8, none⟩ = some (.int .i64 0) := (blk_cell BK200.out 8).trans rfl
  have hfs47 := blk_frozen BK200.out 8
  have hns47_1 := NB205_200.out
  have hms47_1 := NB200_205.out
  refine skip_ (w1 := ?_) (by rfl) rfl ?_ ?_
  rotate_left
  ·go_simp
   rfl
  refine hK.out _ _ ⟨((cell_far (p := ⟨gb200, _, none⟩) NB205_200.out _).trans (((cell_far (p := ⟨gb200, _, none⟩) NB205_200.out _).trans (((cell_far (p := ⟨gb200, _, none⟩) NB205_200.out _).trans (((cell_far (p := ⟨gb200, _, none⟩) NB205_200.out _).trans (((cell_far (p := ⟨gb200, _, none⟩) NB205_200.out _).trans (((cell_far (p := ⟨gb200, _, none⟩) NB205_200.out _).trans (((cell_far (p := ⟨gb200, _, none⟩) NB205_200.out _).trans (((cell_far (p := ⟨gb200, _, none⟩) NB205_200.out _).trans (((cell_far (p := ⟨gb200, _, none⟩) NB205_200.out _).trans (hHeld.1)))))))))))))))))), ((cell_far (p := ⟨gb200, _, none⟩) NB205_200.out _).trans (((cell_far (p := ⟨gb200, _, none⟩) NB205_200.out _).trans (((cell_far (p := ⟨gb200, _, none⟩) NB205_200.out _).trans (((cell_far (p := ⟨gb200, _, none⟩) NB205_200.out _).trans (((cell_far (p := ⟨gb200, _, none⟩) NB205_200.out _).trans (((cell_far (p := ⟨gb200, _, none⟩) NB205_200.out _).trans (((cell_far (p := ⟨gb200, _, none⟩) NB205_200.out _).trans (((cell_far (p := ⟨gb200, _, none⟩) NB205_200.out _).trans (((cell_far (p := ⟨gb200, _, none⟩) NB205_200.out _).trans (hHeld.2.1)))))))))))))))))), ((cell_far (p := ⟨gb200, _, none⟩) NB205_200.out _).trans (((cell_far (p := ⟨gb200, _, none⟩) NB205_200.out _).trans (((cell_far (p := ⟨gb200, _, none⟩) NB205_200.out _).trans (((cell_far (p := ⟨gb200, _, none⟩) NB205_200.out _).trans (((cell_far (p := ⟨gb200, _, none⟩) NB205_200.out _).trans (((cell_far (p := ⟨gb200, _, none⟩) NB205_200.out _).trans (((cell_far (p := ⟨gb200, _, none⟩) NB205_200.out _).trans (((cell_far (p := ⟨gb200, _, none⟩) NB205_200.out _).trans (((cell_far (p := ⟨gb200, _, none⟩) NB205_200.out _).trans (hHeld.2.2))))))))))))))))))⟩ (fun hHeld => ?_)
  clear hK K
  refine done_ (done_of HT_.out (by kernel_rfl)) ?_
  try go_wp2
  refine bodyPost_ret (results_cell_row rfl _ _ gb200 54 #[.int .i64 a0, .int .i64 t201, .int .i64 t202, .int .i64 t203, .int .i64 t211, .int .i64 t203, .int .i64 t212, .int .i64 t206, .int .i64 365] (0, 0) _ rfl (by (with_reducible repeat (first | refine blk_drewN ?_ _ | refine blk_drew ?_ | refine blk_alloc ?_ _)); refine blk_put (cs := #[.int .i64 a0, .int .i64 t201, .int .i64 t202, .int .i64 t203, .int .i64 t211, .int .i64 t203, .int .i64 t212, .int .i64 t206, .int .i64 0]) ?_ 8 _ rfl; (with_reducible repeat (first | refine blk_drewN ?_ _ | refine blk_drew ?_ | refine blk_alloc ?_ _)); refine blk_put (cs := #[.int .i64 a0, .int .i64 t201, .int .i64 t202, .int .i64 t203, .int .i64 t211, .int .i64 t203, .int .i64 t212, .int .i64 0, .int .i64 0]) ?_ 7 _ rfl; (with_reducible repeat (first | refine blk_drewN ?_ _ | refine blk_drew ?_ | refine blk_alloc ?_ _)); refine blk_put (cs := #[.int .i64 a0, .int .i64 t201, .int .i64 t202, .int .i64 t203, .int .i64 t211, .int .i64 t203, .int .i64 0, .int .i64 0, .int .i64 0]) ?_ 6 _ rfl; (with_reducible repeat (first | refine blk_drewN ?_ _ | refine blk_drew ?_ | refine blk_alloc ?_ _)); refine blk_put (cs := #[.int .i64 a0, .int .i64 t201, .int .i64 t202, .int .i64 t203, .int .i64 t211, .int .i64 0, .int .i64 0, .int .i64 0, .int .i64 0]) ?_ 5 _ rfl; (with_reducible repeat (first | refine blk_drewN ?_ _ | refine blk_drew ?_ | refine blk_alloc ?_ _)); refine blk_put (cs := #[.int .i64 a0, .int .i64 t201, .int .i64 t202, .int .i64 t203, .int .i64 0, .int .i64 0, .int .i64 0, .int .i64 0, .int .i64 0]) ?_ 4 _ rfl; (with_reducible repeat (first | refine blk_drewN ?_ _ | refine blk_drew ?_ | refine blk_alloc ?_ _)); refine blk_put (cs := #[.int .i64 a0, .int .i64 t201, .int .i64 t202, .int .i64 0, .int .i64 0, .int .i64 0, .int .i64 0, .int .i64 0, .int .i64 0]) ?_ 3 _ rfl; (with_reducible repeat (first | refine blk_drewN ?_ _ | refine blk_drew ?_ | refine blk_alloc ?_ _)); refine blk_put (cs := #[.int .i64 a0, .int .i64 t201, .int .i64 0, .int .i64 0, .int .i64 0, .int .i64 0, .int .i64 0, .int .i64 0, .int .i64 0]) ?_ 2 _ rfl; (with_reducible repeat (first | refine blk_drewN ?_ _ | refine blk_drew ?_ | refine blk_alloc ?_ _)); refine blk_put (cs := #[.int .i64 a0, .int .i64 0, .int .i64 0, .int .i64 0, .int .i64 0, .int .i64 0, .int .i64 0, .int .i64 0, .int .i64 0]) ?_ 1 _ rfl; (with_reducible repeat (first | refine blk_drewN ?_ _ | refine blk_drew ?_ | refine blk_alloc ?_ _)); refine blk_put (cs := #[.int .i64 0, .int .i64 0, .int .i64 0, .int .i64 0, .int .i64 0, .int .i64 0, .int .i64 0, .int .i64 0, .int .i64 0]) ?_ 0 _ rfl; (with_reducible repeat (first | refine blk_drewN ?_ _ | refine blk_drew ?_ | refine blk_alloc ?_ _)); exact BK200.out) Try.underlying54 rfl (by kernel_rfl)) rfl ?_
  exact ⟨by first | rfl | (simp [i64_w]; done) | (simp [errW_none, errW_some] <;> rfl) | (simp [*, errW_none, errW_some] <;> rfl), by repeat (first | (with_reducible first | exact HB.out | apply below_alloc | apply pw_below_drewN | apply below_drew1 | refine below_set ?_ GE200.out | refine below_set ?_ GE205.out) | exact HB.out)⟩

end Go.Proofs.Ytfdcldjoncednaa.M
