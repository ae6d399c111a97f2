/- Texts of this claim, merged: QperB. -/
import Derived.Test.YtgbbgcepcnklkaaGreatDoorMgShowParses1
import Derived.Test.YtgbbgcepcnklkaaGreatDoorMgShowParses8
namespace Go.Proofs.YtgbbgcepcnklkaaGreatDoor.Q
open Go.RowKit Go.Proofs.YtgbbgcepcnklkaaGreatDoorW.PrintWords Go.Proofs.YtgbbgcepcnklkaaGreatDoorW.PrintLast Go.Proofs.YtgbbgcepcnklkaaGreatDoorW.PrintMore
attribute [local go_sem] max2_int min2_int max_two min_two
set_option linter.unusedVariables false
set_option linter.unusedSimpArgs false
/-! ### persian_Persian: function 43 -/
mutual
def persian_Persian.j0 : Nat → Int → Int → Int → Int → Option (Int × Int × Int × Int)
 | 0, _, _, _, _ => none
 | k + 1, x0, x191000, x191001, x191002 => persian_Persian.l0 k x0 x191000 x191001 x191002
def persian_Persian.l0 : Nat → Int → Int → Int → Int → Option (Int × Int × Int × Int)
 | 0, _, _, _, _ => none
 | k + 1, x0, x191000, x191001, x191002 => (persian_next.f x191000).bind fun t191 => ((persian_first.f t191).bind fun t192 => (if t192 ≤ x0 then ((persian_next.f x191000).bind fun t193 => (persian_Persian.l0 k x0 t193 x191001 x191002)) else ((persian_first.f x191000).bind fun t194 => (persian_Persian.l1 k (wrap64 (x0 - t194)) x191000 x191001 x191002))))
def persian_Persian.l1 : Nat → Int → Int → Int → Int → Option (Int × Int × Int × Int)
 | 0, _, _, _, _ => none
 | k + 1, x5, x191000, x191001, x191002 => (persian_length.f k x191000 x191001).bind fun t195 => (if x5 ≥ t195 then ((persian_length.f k x191000 x191001).bind fun t196 => (persian_Persian.l1 k (wrap64 (x5 - t196)) x191000 (wrap64 (x191001 + 1)) x191002)) else (some (x191000, x191001, wrap64 (x5 + 1), 0)))
end
def persian_Persian.f (k : Nat) (a0 : Int) : Option (Int × Int × Int × Int) := (rata_Of.f a0).bind fun t188 => (if t188 = true then ((rata_Floor.f (wrap64 (a0 - 226896)) 366).bind fun t189 => (if t189 < 1 then (persian_Persian.j0 k a0 (wrap64 (t189 - 3)) 1 0) else (persian_Persian.j0 k a0 t189 1 0))) else (some (0, 0, 0, 2)))
set_option maxHeartbeats 8000000 in
set_option maxRecDepth 100000 in
theorem persian_Persian.calls (k : Nat) (a0 : Int) (r1 : Int) (r2 : Int) (r3 : Int) (r4 : Int) (w : World) (h : persian_Persian.f k a0 = some (r1, r2, r3, r4)) :
  Calls Tryz.prog 43 #[.int .i64 a0] w fun e w' => e = .returned (.tuple #[.agg #[.int .i64 r1, .int .i64 r2, .int .i64 r3], .int .i64 r4]) ∧ Below w.heap.size w w' := by
 have hu41 := Tryz.underlying41
 have HB := Aside0.mk (Below.refl w.heap.size w)
 have H : ((rata_Of.f a0).bind fun t188 => (if t188 = true then ((rata_Floor.f (wrap64 (a0 - 226896)) 366).bind fun t189 => (if t189 < 1 then (persian_Persian.j0 k a0 (wrap64 (t189 - 3)) 1 0) else (persian_Persian.j0 k a0 t189 1 0))) else (some (0, 0, 0, 2)))) = some (r1, r2, r3, r4) := h
 clear h
 replace H := Option.bind_eq_some_iff.mp H
 obtain ⟨t188, A20, H⟩ := H
 replace H : (if t188 = true then ((rata_Floor.f (wrap64 (a0 - 226896)) 366).bind fun t189 => (if t189 < 1 then (persian_Persian.j0 k a0 (wrap64 (t189 - 3)) 1 0) else (persian_Persian.j0 k a0 t189 1 0))) else (some (0, 0, 0, 2))) = some (r1, r2, r3, r4) := H
 have A2 := Aside0.mk A20
 clear A20
 by_cases c3 : t188 = true
 ·subst c3
  have H1 : ((rata_Floor.f (wrap64 (a0 - 226896)) 366).bind fun t189 => (if t189 < 1 then (persian_Persian.j0 k a0 (wrap64 (t189 - 3)) 1 0) else (persian_Persian.j0 k a0 t189 1 0))) = some (r1, r2, r3, r4) := by rw [if_pos rfl] at H; exact H
  clear H
  have H := H1
  clear H1
  replace H := Option.bind_eq_some_iff.mp H
  obtain ⟨t189, A40, H⟩ := H
  replace H : (if t189 < 1 then (persian_Persian.j0 k a0 (wrap64 (t189 - 3)) 1 0) else (persian_Persian.j0 k a0 t189 1 0)) = some (r1, r2, r3, r4) := H
  have A4 := Aside0.mk A40
  clear A40
  have HC5 := Aside0.mk H
  clear H
  go_enter Tryz.func43, Tryz.ntmps43
  go_upto_if 16 with (first | ((with_reducible refine gate_dst (N := 2) rfl ?_); refine box_event ?hg (N := 2) ?hd (cs := #[.int .i64 0, .int .i64 0, .int .i64 0]) (t := 41) ?hr ?_; (case hd => rfl); (case hg => rfl); (case hr => first | (go_simp; done) | (go_simp; rfl)); intro gb187 hg w6 hbox hb; have n0_ := Aside0.mk (below_step (by repeat (first | (with_reducible first | exact HB.out | apply below_alloc | apply pw_below_drewN | apply below_drew1) | exact HB.out)) hb); have n1_ := Aside0.mk (hbox); have n2_ := Aside0.mk ((by rw [hg]; exact (below_size (by repeat (first | (with_reducible first | exact HB.out | apply below_alloc | apply pw_below_drewN | apply below_drew1) | exact HB.out))) : w.heap.size ≤ gb187)); have n3_ := Aside0.mk ((by rw [hg]; exact (below_size (by repeat (first | (with_reducible first | exact HB.out | apply below_alloc | apply pw_below_drewN | apply below_drew1) | exact HB.out))) : w.heap.size ≤ gb187)); clear HB; have HB := n0_; have BK187 := n1_; have GW187 := n2_; have GE187 := n3_; clear n0_ n1_ n2_ n3_; clear hb hbox hg) | ((with_reducible refine gate_callee (f := 60) rfl ?_); refine gm_ (some 7) Tryz.func60 #[.int .i64 a0] ?_; (with_reducible refine (rata_Of.calls a0 true _ A2.out).mono ?_); rintro e w' ⟨rfl, ⟨nd, rfl⟩⟩; refine ⟨_, rfl, ?_⟩; (try (rw [drewN_self w6]; generalize hq_ : World.drewN w6 _ = w6; have n0_ : Aside0 (w6.heap[gb187]? = some (.cells #[.int .i64 0, .int .i64 0, .int .i64 0] 41 (0, 0))) := ⟨by rw [← hq_]; exact (by (with_reducible repeat (first | refine blk_drewN ?_ _ | refine blk_drew ?_ | refine blk_alloc ?_ _)); exact BK187.out)⟩; have n1_ : Aside0 (Below w.heap.size w w6) := ⟨by rw [← hq_]; exact (by repeat (first | (with_reducible first | exact HB.out | apply below_alloc | apply pw_below_drewN | apply below_drew1 | refine below_set ?_ GE187.out) | exact HB.out))⟩; clear BK187 HB hq_; have BK187 := n0_; have HB := n1_; clear n0_ n1_)); (try (have hcz7_0 : w6.cell? ⟨gb187, 0, none⟩ = some (.int .i64 0) := (blk_cell BK187.out 0).trans rfl; have hcz7_1 : w6.cell? ⟨gb187, 1, none⟩ = some (.int .i64 0) := (blk_cell BK187.out 1).trans rfl; have hcz7_2 : w6.cell? ⟨gb187, 2, none⟩ = some (.int .i64 0) := (blk_cell BK187.out 2).trans rfl; have hfz7_0 := blk_frozen BK187.out 0; have hfz7_1 := blk_frozen BK187.out 1; have hfz7_2 := blk_frozen BK187.out 2))) | ((with_reducible refine gate_callee (f := 83) rfl ?_); refine gm_ (some 12) Tryz.func83 #[.int .i64 (wrap64 (a0 - 226896)), .int .i64 366] ?_; (with_reducible refine (rata_Floor.calls (wrap64 (a0 - 226896)) 366 t189 _ A4.out).mono ?_); rintro e w' ⟨rfl, ⟨nd, rfl⟩⟩; refine ⟨_, rfl, ?_⟩; (try (rw [drewN_self w6]; generalize hq_ : World.drewN w6 _ = w6; have n0_ : Aside0 (w6.heap[gb187]? = some (.cells #[.int .i64 0, .int .i64 0, .int .i64 0] 41 (0, 0))) := ⟨by rw [← hq_]; exact (by (with_reducible repeat (first | refine blk_drewN ?_ _ | refine blk_drew ?_ | refine blk_alloc ?_ _)); exact BK187.out)⟩; have n1_ : Aside0 (Below w.heap.size w w6) := ⟨by rw [← hq_]; exact (by repeat (first | (with_reducible first | exact HB.out | apply below_alloc | apply pw_below_drewN | apply below_drew1 | refine below_set ?_ GE187.out) | exact HB.out))⟩; clear BK187 HB hq_; have BK187 := n0_; have HB := n1_; clear n0_ n1_)); (try (have hcz8_0 : w6.cell? ⟨gb187, 0, none⟩ = some (.int .i64 0) := (blk_cell BK187.out 0).trans rfl; have hcz8_1 : w6.cell? ⟨gb187, 1, none⟩ = some (.int .i64 0) := (blk_cell BK187.out 1).trans rfl; have hcz8_2 : w6.cell? ⟨gb187, 2, none⟩ = some (.int .i64 0) := (blk_cell BK187.out 2).trans rfl; have hfz8_0 := blk_frozen BK187.out 0; have hfz8_1 := blk_frozen BK187.out 1; have hfz8_2 := blk_frozen BK187.out 2))) | ((with_reducible refine gate_dst (N := 4) rfl ?_); refine box_event ?hg (N := 4) ?hd (cs := #[.int .i64 0, .int .i64 0, .int .i64 0]) (t := 41) ?hr ?_; (case hd => rfl); (case hg => rfl); (case hr => first | (go_simp; done) | (go_simp; rfl)); intro gb190 hg w9 hbox hb; have n0_ := Aside0.mk (blk_below (g := gb187) (o := .cells #[.int .i64 0, .int .i64 0, .int .i64 0] 41 (0, 0)) (by (with_reducible repeat (first | refine blk_drewN ?_ _ | refine blk_drew ?_ | refine blk_alloc ?_ _)); exact BK187.out) hb); have n1_ := Aside0.mk (below_step (by repeat (first | (with_reducible first | exact HB.out | apply below_alloc | apply pw_below_drewN | apply below_drew1 | refine below_set ?_ GE187.out) | exact HB.out)) hb); have n2_ := Aside0.mk (hbox); have n3_ := Aside0.mk ((by rw [hg]; exact (below_size (by repeat (first | (with_reducible first | exact HB.out | apply below_alloc | apply pw_below_drewN | apply below_drew1 | refine below_set ?_ GE187.out) | exact HB.out))) : w.heap.size ≤ gb190)); have n4_ := Aside0.mk ((by rw [hg]; exact (below_size (by repeat (first | (with_reducible first | exact HB.out | apply below_alloc | apply pw_below_drewN | apply below_drew1 | refine below_set ?_ GE187.out) | exact HB.out))) : w.heap.size ≤ gb190)); have n5_ := Aside0.mk ((by rw [hg]; exact Nat.ne_of_lt (blk_lt (g := gb187) (o := .cells #[.int .i64 0, .int .i64 0, .int .i64 0] 41 (0, 0)) (by (with_reducible repeat (first | refine blk_drewN ?_ _ | refine blk_drew ?_ | refine blk_alloc ?_ _)); exact BK187.out)) : gb187 ≠ gb190)); have n6_ := Aside0.mk ((by rw [hg]; exact Nat.ne_of_gt (blk_lt (g := gb187) (o := .cells #[.int .i64 0, .int .i64 0, .int .i64 0] 41 (0, 0)) (by (with_reducible repeat (first | refine blk_drewN ?_ _ | refine blk_drew ?_ | refine blk_alloc ?_ _)); exact BK187.out)) : gb190 ≠ gb187)); clear BK187; clear HB; have BK187 := n0_; have HB := n1_; have BK190 := n2_; have GW190 := n3_; have GE190 := n4_; have NB187_190 := n5_; have NB190_187 := n6_; clear n0_ n1_ n2_ n3_ n4_ n5_ n6_; clear hb hbox hg; have hnb10 := NB190_187.out; have hnc10 := NB187_190.out; have hcz11_0 : w9.cell? ⟨gb190, 0, none⟩ = some (.int .i64 0) := (blk_cell BK190.out 0).trans rfl; have hcz11_1 : w9.cell? ⟨gb190, 1, none⟩ = some (.int .i64 0) := (blk_cell BK190.out 1).trans rfl; have hcz11_2 : w9.cell? ⟨gb190, 2, none⟩ = some (.int .i64 0) := (blk_cell BK190.out 2).trans rfl; have hfz11_0 := blk_frozen BK190.out 0; have hfz11_1 := blk_frozen BK190.out 1; have hfz11_2 := blk_frozen BK190.out 2))
  (try simp only [Act.put, List.setIfInBounds_toArray, List.set_cons_zero, List.set_cons_succ])
  go_cut [] (fun wc => ∃ (kq : Nat) (x191000_4 : Int), Aside0 (persian_Persian.j0 kq a0 x191000_4 1 0 = some (r1, r2, r3, r4)) ∧ Aside0 (kq ≤ k) ∧ Aside0 (wc.heap[gb187]? = some (.cells #[.int .i64 0, .int .i64 0, .int .i64 0] 41 (0, 0))) ∧ Aside0 (wc.heap[gb190]? = some (.cells #[.int .i64 x191000_4, .int .i64 1, .int .i64 0] 41 (0, 0))) ∧ Aside0 (Below w.heap.size w wc))
  case first =>
   have H := HC5.out
   clear HC5
   by_cases c12 : t189 < 1
   ·rw [if_pos c12] at H
    have c12b0 : decide (t189 < 1) = true := decide_eq_true c12
    clear c12
    (first | rw [c12b0] | (simp only [i64_w, i32_w]; rw [c12b0]) | skip)
    have H' := Aside0.mk H
    clear H
    have hnb13 := NB190_187.out
    have hnc13 := NB187_190.out
    have hcz14_0 : w9.cell? ⟨gb190, 0, none⟩ = some (.int .i64 0) := (blk_cell BK190.out 0).trans rfl
    have hcz14_1 : w9.cell? ⟨gb190, 1, none⟩ = some (.int .i64 0) := (blk_cell BK190.out 1).trans rfl
    have hcz14_2 : w9.cell? ⟨gb190, 2, none⟩ = some (.int .i64 0) := (blk_cell BK190.out 2).trans rfl
    have hfz14_0 := blk_frozen BK190.out 0
    have hfz14_1 := blk_frozen BK190.out 1
    have hfz14_2 := blk_frozen BK190.out 2
    go_wp2
    go_meet
    case rel => exact ⟨_, (wrap64 (t189 - 3)), H', ⟨by first | omega | exact Nat.le_refl _⟩, ⟨by (with_reducible repeat (first | refine blk_drewN ?_ _ | refine blk_drew ?_ | refine blk_alloc ?_ _)); refine blk_far ?_ NB187_190.out _; (with_reducible repeat (first | refine blk_drewN ?_ _ | refine blk_drew ?_ | refine blk_alloc ?_ _)); refine blk_far ?_ NB187_190.out _; (with_reducible repeat (first | refine blk_drewN ?_ _ | refine blk_drew ?_ | refine blk_alloc ?_ _)); refine blk_far ?_ NB187_190.out _; (with_reducible repeat (first | refine blk_drewN ?_ _ | refine blk_drew ?_ | refine blk_alloc ?_ _)); refine blk_far ?_ NB187_190.out _; (with_reducible repeat (first | refine blk_drewN ?_ _ | refine blk_drew ?_ | refine blk_alloc ?_ _)); exact BK187.out⟩, ⟨by (with_reducible repeat (first | refine blk_drewN ?_ _ | refine blk_drew ?_ | refine blk_alloc ?_ _)); refine blk_put (cs := #[.int .i64 t189, .int .i64 1, .int .i64 0]) ?_ 0 _ rfl; (with_reducible repeat (first | refine blk_drewN ?_ _ | refine blk_drew ?_ | refine blk_alloc ?_ _)); refine blk_put (cs := #[.int .i64 t189, .int .i64 1, .int .i64 0]) ?_ 2 _ rfl; (with_reducible repeat (first | refine blk_drewN ?_ _ | refine blk_drew ?_ | refine blk_alloc ?_ _)); refine blk_put (cs := #[.int .i64 t189, .int .i64 0, .int .i64 0]) ?_ 1 _ rfl; (with_reducible repeat (first | refine blk_drewN ?_ _ | refine blk_drew ?_ | refine blk_alloc ?_ _)); refine blk_put (cs := #[.int .i64 0, .int .i64 0, .int .i64 0]) ?_ 0 _ rfl; (with_reducible repeat (first | refine blk_drewN ?_ _ | refine blk_drew ?_ | refine blk_alloc ?_ _)); exact BK190.out⟩, ⟨by repeat (first | (with_reducible first | exact HB.out | apply below_alloc | apply pw_below_drewN | apply below_drew1 | refine below_set ?_ GE187.out | refine below_set ?_ GE190.out) | exact HB.out)⟩⟩
   ·rw [if_neg c12] at H
    have c12b0 : decide (t189 < 1) = false := decide_eq_false c12
    clear c12
    (first | rw [c12b0] | (simp only [i64_w, i32_w]; rw [c12b0]) | skip)
    have H' := Aside0.mk H
    clear H
    go_wp2
    go_meet
    case rel => exact ⟨_, (t189), H', ⟨by first | omega | exact Nat.le_refl _⟩, ⟨by (with_reducible repeat (first | refine blk_drewN ?_ _ | refine blk_drew ?_ | refine blk_alloc ?_ _)); refine blk_far ?_ NB187_190.out _; (with_reducible repeat (first | refine blk_drewN ?_ _ | refine blk_drew ?_ | refine blk_alloc ?_ _)); refine blk_far ?_ NB187_190.out _; (with_reducible repeat (first | refine blk_drewN ?_ _ | refine blk_drew ?_ | refine blk_alloc ?_ _)); refine blk_far ?_ NB187_190.out _; (with_reducible repeat (first | refine blk_drewN ?_ _ | refine blk_drew ?_ | refine blk_alloc ?_ _)); exact BK187.out⟩, ⟨by (with_reducible repeat (first | refine blk_drewN ?_ _ | refine blk_drew ?_ | refine blk_alloc ?_ _)); refine blk_put (cs := #[.int .i64 t189, .int .i64 1, .int .i64 0]) ?_ 2 _ rfl; (with_reducible repeat (first | refine blk_drewN ?_ _ | refine blk_drew ?_ | refine blk_alloc ?_ _)); refine blk_put (cs := #[.int .i64 t189, .int .i64 0, .int .i64 0]) ?_ 1 _ rfl; (with_reducible repeat (first | refine blk_drewN ?_ _ | refine blk_drew ?_ | refine blk_alloc ?_ _)); refine blk_put (cs := #[.int .i64 0, .int .i64 0, .int .i64 0]) ?_ 0 _ rfl; (with_reducible repeat (first | refine blk_drewN ?_ _ | refine blk_drew ?_ | refine blk_alloc ?_ _)); exact BK190.out⟩, ⟨by repeat (first | (with_reducible first | exact HB.out | apply below_alloc | apply pw_below_drewN | apply below_drew1 | refine below_set ?_ GE187.out | refine below_set ?_ GE190.out) | exact HB.out)⟩⟩
  case rest =>
   clear HC5
   try clear c1
   try clear p2
   try clear c3
   try clear c4
   try clear c6
   try clear p6
   try clear c8
   try clear c10
   try clear c12
   try clear c12b0
   try clear c13
   try clear hcz11_0
   try clear hcz11_1
   try clear hcz11_2
   try clear hcz14_0
   try clear hcz14_1
   try clear hcz14_2
   try clear hcz7_0
   try clear hcz7_1
   try clear hcz7_2
   try clear hcz8_0
   try clear hcz8_1
   try clear hcz8_2
   try clear hfz11_0
   try clear hfz11_1
   try clear hfz11_2
   try clear hfz14_0
   try clear hfz14_1
   try clear hfz14_2
   try clear hfz7_0
   try clear hfz7_1
   try clear hfz7_2
   try clear hfz8_0
   try clear hfz8_1
   try clear hfz8_2
   obtain ⟨kq, x191000_4, HA, HJ4, BK187, BK190, HB⟩ := hcut
   cases kq with
   | zero => exact absurd HA.out (by simp [persian_Persian.j0])
   | succ kj4 =>
    have H := HA.out
    clear HA
    simp only [persian_Persian.j0] at H
    have H' := Aside0.mk H
    clear H
    go_wp2
    go_loopg [] kj4 (fun kq w' => ∃ (x191000_2 : Int), Aside0 (persian_Persian.l0 kq a0 x191000_2 1 0 = some (r1, r2, r3, r4)) ∧ Aside0 (kq ≤ kj4) ∧ Aside0 (w'.heap[gb187]? = some (.cells #[.int .i64 0, .int .i64 0, .int .i64 0] 41 (0, 0))) ∧ Aside0 (w'.heap[gb190]? = some (.cells #[.int .i64 x191000_2, .int .i64 1, .int .i64 0] 41 (0, 0))) ∧ Aside0 (Below w.heap.size w w'))
    case atStart => exact ⟨(x191000_4), H', ⟨Nat.le_refl _⟩, ⟨by (with_reducible repeat (first | refine blk_drewN ?_ _ | refine blk_drew ?_ | refine blk_alloc ?_ _)); exact BK187.out⟩, ⟨by (with_reducible repeat (first | refine blk_drewN ?_ _ | refine blk_drew ?_ | refine blk_alloc ?_ _)); exact BK190.out⟩, ⟨by repeat (first | (with_reducible first | exact HB.out | apply below_alloc | apply pw_below_drewN | apply below_drew1 | refine below_set ?_ GE187.out | refine below_set ?_ GE190.out) | exact HB.out)⟩⟩
    case round =>
     clear H'
     try clear c1
     try clear p2
     try clear c3
     try clear c4
     try clear c6
     try clear p6
     try clear c8
     try clear c10
     try clear c12
     try clear c12b0
     try clear c13
     try clear hcz11_0
     try clear hcz11_1
     try clear hcz11_2
     try clear hcz14_0
     try clear hcz14_1
     try clear hcz14_2
     try clear hcz7_0
     try clear hcz7_1
     try clear hcz7_2
     try clear hcz8_0
     try clear hcz8_1
     try clear hcz8_2
     try clear hfz11_0
     try clear hfz11_1
     try clear hfz11_2
     try clear hfz14_0
     try clear hfz14_1
     try clear hfz14_2
     try clear hfz7_0
     try clear hfz7_1
     try clear hfz7_2
     try clear hfz8_0
     try clear hfz8_1
     try clear hfz8_2
     try clear p2
     try clear p6
     obtain ⟨x191000_2, HA, HK2, BK187, BK190, HB⟩ := hrel
     cases gk with
     | zero => exact absurd HA.out (by simp [persian_Persian.l0])
     | succ k2 =>
      have H := HA.out
      clear HA
      simp only [persian_Persian.l0] at H
      replace H := Option.bind_eq_some_iff.mp H
      obtain ⟨t191, A150, H⟩ := H
      replace H : ((persian_first.f t191).bind fun t192 => (if t192 ≤ a0 then ((persian_next.f x191000_2).bind fun t193 => (persian_Persian.l0 k2 a0 t193 1 0)) else ((persian_first.f x191000_2).bind fun t194 => (persian_Persian.l1 k2 (wrap64 (a0 - t194)) x191000_2 1 0)))) = some (r1, r2, r3, r4) := H
      have A15 := Aside0.mk A150
      clear A150
      replace H := Option.bind_eq_some_iff.mp H
      obtain ⟨t192, A160, H⟩ := H
      replace H : (if t192 ≤ a0 then ((persian_next.f x191000_2).bind fun t193 => (persian_Persian.l0 k2 a0 t193 1 0)) else ((persian_first.f x191000_2).bind fun t194 => (persian_Persian.l1 k2 (wrap64 (a0 - t194)) x191000_2 1 0))) = some (r1, r2, r3, r4) := H
      have A16 := Aside0.mk A160
      clear A160
      by_cases c17 : t192 ≤ a0
      ·rw [if_pos c17] at H
       have c17b0 : decide (t192 ≤ a0) = true := decide_eq_true c17
       clear c17
       replace H := Option.bind_eq_some_iff.mp H
       obtain ⟨t193, A180, H⟩ := H
       have A18d := Option.some.inj (A15.out.symm.trans A180)
       clear A180
       subst A18d
       replace H : (persian_Persian.l0 k2 a0 t191 1 0) = some (r1, r2, r3, r4) := H
       have H' := Aside0.mk H
       clear H
       have hnb19 := NB190_187.out
       have hnc19 := NB187_190.out
       have hcz20_0 : wr.cell? ⟨gb190, 0, none⟩ = some (.int .i64 x191000_2) := (blk_cell BK190.out 0).trans rfl
       have hcz20_1 : wr.cell? ⟨gb190, 1, none⟩ = some (.int .i64 1) := (blk_cell BK190.out 1).trans rfl
       have hcz20_2 : wr.cell? ⟨gb190, 2, none⟩ = some (.int .i64 0) := (blk_cell BK190.out 2).trans rfl
       have hfz20_0 := blk_frozen BK190.out 0
       have hfz20_1 := blk_frozen BK190.out 1
       have hfz20_2 := blk_frozen BK190.out 2
       go_wp2_with (first | ((with_reducible refine gate_callee (f := 87) rfl ?_); refine gm_ (some 23) Tryz.func87 #[.int .i64 x191000_2] ?_; (with_reducible refine (persian_next.calls x191000_2 t191 _ A15.out).mono ?_); rintro e w' ⟨rfl, ⟨nd, rfl⟩⟩; refine ⟨_, rfl, ?_⟩; (try (rw [drewN_self wr]; generalize hq_ : World.drewN wr _ = wr; have n0_ : Aside0 (wr.heap[gb187]? = some (.cells #[.int .i64 0, .int .i64 0, .int .i64 0] 41 (0, 0))) := ⟨by rw [← hq_]; exact (by (with_reducible repeat (first | refine blk_drewN ?_ _ | refine blk_drew ?_ | refine blk_alloc ?_ _)); exact BK187.out)⟩; have n1_ : Aside0 (wr.heap[gb190]? = some (.cells #[.int .i64 x191000_2, .int .i64 1, .int .i64 0] 41 (0, 0))) := ⟨by rw [← hq_]; exact (by (with_reducible repeat (first | refine blk_drewN ?_ _ | refine blk_drew ?_ | refine blk_alloc ?_ _)); exact BK190.out)⟩; have n2_ : Aside0 (Below w.heap.size w wr) := ⟨by rw [← hq_]; exact (by repeat (first | (with_reducible first | exact HB.out | apply below_alloc | apply pw_below_drewN | apply below_drew1 | refine below_set ?_ GE187.out | refine below_set ?_ GE190.out) | exact HB.out))⟩; clear BK187 BK190 HB hq_; have BK187 := n0_; have BK190 := n1_; have HB := n2_; clear n0_ n1_ n2_)); (try (have hcz21_0 : wr.cell? ⟨gb187, 0, none⟩ = some (.int .i64 0) := (blk_cell BK187.out 0).trans rfl; have hcz21_1 : wr.cell? ⟨gb187, 1, none⟩ = some (.int .i64 0) := (blk_cell BK187.out 1).trans rfl; have hcz21_2 : wr.cell? ⟨gb187, 2, none⟩ = some (.int .i64 0) := (blk_cell BK187.out 2).trans rfl; have hfz21_0 := blk_frozen BK187.out 0; have hfz21_1 := blk_frozen BK187.out 1; have hfz21_2 := blk_frozen BK187.out 2; have hcz22_0 : wr.cell? ⟨gb190, 0, none⟩ = some (.int .i64 x191000_2) := (blk_cell BK190.out 0).trans rfl; have hcz22_1 : wr.cell? ⟨gb190, 1, none⟩ = some (.int .i64 1) := (blk_cell BK190.out 1).trans rfl; have hcz22_2 : wr.cell? ⟨gb190, 2, none⟩ = some (.int .i64 0) := (blk_cell BK190.out 2).trans rfl; have hfz22_0 := blk_frozen BK190.out 0; have hfz22_1 := blk_frozen BK190.out 1; have hfz22_2 := blk_frozen BK190.out 2))) | ((with_reducible refine gate_callee (f := 68) rfl ?_); refine gm_ (some 24) Tryz.func68 #[.int .i64 t191] ?_; (with_reducible refine (persian_first.calls t191 t192 _ A16.out).mono ?_); rintro e w' ⟨rfl, ⟨nd, rfl⟩⟩; refine ⟨_, rfl, ?_⟩; (try (rw [drewN_self wr]; generalize hq_ : World.drewN wr _ = wr; have n0_ : Aside0 (wr.heap[gb187]? = some (.cells #[.int .i64 0, .int .i64 0, .int .i64 0] 41 (0, 0))) := ⟨by rw [← hq_]; exact (by (with_reducible repeat (first | refine blk_drewN ?_ _ | refine blk_drew ?_ | refine blk_alloc ?_ _)); exact BK187.out)⟩; have n1_ : Aside0 (wr.heap[gb190]? = some (.cells #[.int .i64 x191000_2, .int .i64 1, .int .i64 0] 41 (0, 0))) := ⟨by rw [← hq_]; exact (by (with_reducible repeat (first | refine blk_drewN ?_ _ | refine blk_drew ?_ | refine blk_alloc ?_ _)); exact BK190.out)⟩; have n2_ : Aside0 (Below w.heap.size w wr) := ⟨by rw [← hq_]; exact (by repeat (first | (with_reducible first | exact HB.out | apply below_alloc | apply pw_below_drewN | apply below_drew1 | refine below_set ?_ GE187.out | refine below_set ?_ GE190.out) | exact HB.out))⟩; clear BK187 BK190 HB hq_; have BK187 := n0_; have BK190 := n1_; have HB := n2_; clear n0_ n1_ n2_)); (try (have hcz23_0 : wr.cell? ⟨gb187, 0, none⟩ = some (.int .i64 0) := (blk_cell BK187.out 0).trans rfl; have hcz23_1 : wr.cell? ⟨gb187, 1, none⟩ = some (.int .i64 0) := (blk_cell BK187.out 1).trans rfl; have hcz23_2 : wr.cell? ⟨gb187, 2, none⟩ = some (.int .i64 0) := (blk_cell BK187.out 2).trans rfl; have hfz23_0 := blk_frozen BK187.out 0; have hfz23_1 := blk_frozen BK187.out 1; have hfz23_2 := blk_frozen BK187.out 2; have hcz24_0 : wr.cell? ⟨gb190, 0, none⟩ = some (.int .i64 x191000_2) := (blk_cell BK190.out 0).trans rfl; have hcz24_1 : wr.cell? ⟨gb190, 1, none⟩ = some (.int .i64 1) := (blk_cell BK190.out 1).trans rfl; have hcz24_2 : wr.cell? ⟨gb190, 2, none⟩ = some (.int .i64 0) := (blk_cell BK190.out 2).trans rfl; have hfz24_0 := blk_frozen BK190.out 0; have hfz24_1 := blk_frozen BK190.out 1; have hfz24_2 := blk_frozen BK190.out 2))) | ((with_reducible refine gate_callee (f := 87) rfl ?_); refine gm_ (some 29) Tryz.func87 #[.int .i64 x191000_2] ?_; (with_reducible refine (persian_next.calls x191000_2 t191 _ A15.out).mono ?_); rintro e w' ⟨rfl, ⟨nd, rfl⟩⟩; refine ⟨_, rfl, ?_⟩; (try (rw [drewN_self wr]; generalize hq_ : World.drewN wr _ = wr; have n0_ : Aside0 (wr.heap[gb187]? = some (.cells #[.int .i64 0, .int .i64 0, .int .i64 0] 41 (0, 0))) := ⟨by rw [← hq_]; exact (by (with_reducible repeat (first | refine blk_drewN ?_ _ | refine blk_drew ?_ | refine blk_alloc ?_ _)); exact BK187.out)⟩; have n1_ : Aside0 (wr.heap[gb190]? = some (.cells #[.int .i64 x191000_2, .int .i64 1, .int .i64 0] 41 (0, 0))) := ⟨by rw [← hq_]; exact (by (with_reducible repeat (first | refine blk_drewN ?_ _ | refine blk_drew ?_ | refine blk_alloc ?_ _)); exact BK190.out)⟩; have n2_ : Aside0 (Below w.heap.size w wr) := ⟨by rw [← hq_]; exact (by repeat (first | (with_reducible first | exact HB.out | apply below_alloc | apply pw_below_drewN | apply below_drew1 | refine below_set ?_ GE187.out | refine below_set ?_ GE190.out) | exact HB.out))⟩; clear BK187 BK190 HB hq_; have BK187 := n0_; have BK190 := n1_; have HB := n2_; clear n0_ n1_ n2_)); (try (have hcz25_0 : wr.cell? ⟨gb187, 0, none⟩ = some (.int .i64 0) := (blk_cell BK187.out 0).trans rfl; have hcz25_1 : wr.cell? ⟨gb187, 1, none⟩ = some (.int .i64 0) := (blk_cell BK187.out 1).trans rfl; have hcz25_2 : wr.cell? ⟨gb187, 2, none⟩ = some (.int .i64 0) := (blk_cell BK187.out 2).trans rfl; have hfz25_0 := blk_frozen BK187.out 0; have hfz25_1 := blk_frozen BK187.out 1; have hfz25_2 := blk_frozen BK187.out 2; have hcz26_0 : wr.cell? ⟨gb190, 0, none⟩ = some (.int .i64 x191000_2) := (blk_cell BK190.out 0).trans rfl; have hcz26_1 : wr.cell? ⟨gb190, 1, none⟩ = some (.int .i64 1) := (blk_cell BK190.out 1).trans rfl; have hcz26_2 : wr.cell? ⟨gb190, 2, none⟩ = some (.int .i64 0) := (blk_cell BK190.out 2).trans rfl; have hfz26_0 := blk_frozen BK190.out 0; have hfz26_1 := blk_frozen BK190.out 1; have hfz26_2 := blk_frozen BK190.out 2))))
       go_roundg k2
       case measure => have := HJ4.out; have := HK2.out; omega
       case rel => exact ⟨(t191), H', ⟨by have := HJ4.out; have := HK2.out; omega⟩, ⟨by (with_reducible repeat (first | refine blk_drewN ?_ _ | refine blk_drew ?_ | refine blk_alloc ?_ _)); refine blk_far ?_ NB187_190.out _; (with_reducible repeat (first | refine blk_drewN ?_ _ | refine blk_drew ?_ | refine blk_alloc ?_ _)); exact BK187.out⟩, ⟨by (with_reducible repeat (first | refine blk_drewN ?_ _ | refine blk_drew ?_ | refine blk_alloc ?_ _)); refine blk_put (cs := #[.int .i64 x191000_2, .int .i64 1, .int .i64 0]) ?_ 0 _ rfl; (with_reducible repeat (first | refine blk_drewN ?_ _ | refine blk_drew ?_ | refine blk_alloc ?_ _)); exact BK190.out⟩, ⟨by repeat (first | (with_reducible first | exact HB.out | apply below_alloc | apply pw_below_drewN | apply below_drew1 | refine below_set ?_ GE187.out | refine below_set ?_ GE190.out) | exact HB.out)⟩⟩
      ·rw [if_neg c17] at H
       have c17b0 : decide (t192 ≤ a0) = false := decide_eq_false c17
       clear c17
       replace H := Option.bind_eq_some_iff.mp H
       obtain ⟨t194, A270, H⟩ := H
       replace H : (persian_Persian.l1 k2 (wrap64 (a0 - t194)) x191000_2 1 0) = some (r1, r2, r3, r4) := H
       have A27 := Aside0.mk A270
       clear A270
       have H' := Aside0.mk H
       clear H
       have hnb28 := NB190_187.out
       have hnc28 := NB187_190.out
       have hcz29_0 : wr.cell? ⟨gb190, 0, none⟩ = some (.int .i64 x191000_2) := (blk_cell BK190.out 0).trans rfl
       have hcz29_1 : wr.cell? ⟨gb190, 1, none⟩ = some (.int .i64 1) := (blk_cell BK190.out 1).trans rfl
       have hcz29_2 : wr.cell? ⟨gb190, 2, none⟩ = some (.int .i64 0) := (blk_cell BK190.out 2).trans rfl
       have hfz29_0 := blk_frozen BK190.out 0
       have hfz29_1 := blk_frozen BK190.out 1
       have hfz29_2 := blk_frozen BK190.out 2
       go_wp2_with (first | ((with_reducible refine gate_callee (f := 87) rfl ?_); refine gm_ (some 23) Tryz.func87 #[.int .i64 x191000_2] ?_; (with_reducible refine (persian_next.calls x191000_2 t191 _ A15.out).mono ?_); rintro e w' ⟨rfl, ⟨nd, rfl⟩⟩; refine ⟨_, rfl, ?_⟩) | ((with_reducible refine gate_callee (f := 68) rfl ?_); refine gm_ (some 24) Tryz.func68 #[.int .i64 t191] ?_; (with_reducible refine (persian_first.calls t191 t192 _ A16.out).mono ?_); rintro e w' ⟨rfl, ⟨nd, rfl⟩⟩; refine ⟨_, rfl, ?_⟩) | ((with_reducible refine gate_callee (f := 68) rfl ?_); refine gm_ (some 34) Tryz.func68 #[.int .i64 x191000_2] ?_; (with_reducible refine (persian_first.calls x191000_2 t194 _ A27.out).mono ?_); rintro e w' ⟨rfl, ⟨nd, rfl⟩⟩; refine ⟨_, rfl, ?_⟩))
       go_loopg [5] k2 (fun kq v5 w' => ∃ (x5_3 : Int) (x191001_3 : Int), v5 = .int .i64 x5_3 ∧ Aside0 (persian_Persian.l1 kq x5_3 x191000_2 x191001_3 0 = some (r1, r2, r3, r4)) ∧ Aside0 (kq ≤ k2) ∧ Aside0 (w'.heap[gb187]? = some (.cells #[.int .i64 0, .int .i64 0, .int .i64 0] 41 (0, 0))) ∧ Aside0 (w'.heap[gb190]? = some (.cells #[.int .i64 x191000_2, .int .i64 x191001_3, .int .i64 0] 41 (0, 0))) ∧ Aside0 (Below w.heap.size w w'))
       case atStart => exact ⟨(wrap64 (a0 - t194)), (1), (by first | rfl | (simp; done) | (simp [*]; done)), H', ⟨Nat.le_refl _⟩, ⟨by (with_reducible repeat (first | refine blk_drewN ?_ _ | refine blk_drew ?_ | refine blk_alloc ?_ _)); exact BK187.out⟩, ⟨by (with_reducible repeat (first | refine blk_drewN ?_ _ | refine blk_drew ?_ | refine blk_alloc ?_ _)); exact BK190.out⟩, ⟨by repeat (first | (with_reducible first | exact HB.out | apply below_alloc | apply pw_below_drewN | apply below_drew1 | refine below_set ?_ GE187.out | refine below_set ?_ GE190.out) | exact HB.out)⟩⟩
       case round =>
        clear H'
        try clear c1
        try clear c2
        try clear p2
        try clear c3
        try clear c4
        try clear c6
        try clear p6
        try clear c8
        try clear c10
        try clear c12
        try clear c12b0
        try clear c13
        try clear c17
        try clear c17b0
        try clear c19
        try clear c28
        try clear hcz11_0
        try clear hcz11_1
        try clear hcz11_2
        try clear hcz14_0
        try clear hcz14_1
        try clear hcz14_2
        try clear hcz20_0
        try clear hcz20_1
        try clear hcz20_2
        try clear hcz21_0
        try clear hcz21_1
        try clear hcz21_2
        try clear hcz22_0
        try clear hcz22_1
        try clear hcz22_2
        try clear hcz23_0
        try clear hcz23_1
        try clear hcz23_2
        try clear hcz24_0
        try clear hcz24_1
        try clear hcz24_2
        try clear hcz25_0
        try clear hcz25_1
        try clear hcz25_2
        try clear hcz26_0
        try clear hcz26_1
        try clear hcz26_2
        try clear hcz29_0
        try clear hcz29_1
        try clear hcz29_2
        try clear hcz7_0
        try clear hcz7_1
        try clear hcz7_2
        try clear hcz8_0
        try clear hcz8_1
        try clear hcz8_2
        try clear hfz11_0
        try clear hfz11_1
        try clear hfz11_2
        try clear hfz14_0
        try clear hfz14_1
        try clear hfz14_2
        try clear hfz20_0
        try clear hfz20_1
        try clear hfz20_2
        try clear hfz21_0
        try clear hfz21_1
        try clear hfz21_2
        try clear hfz22_0
        try clear hfz22_1
        try clear hfz22_2
        try clear hfz23_0
        try clear hfz23_1
        try clear hfz23_2
        try clear hfz24_0
        try clear hfz24_1
        try clear hfz24_2
        try clear hfz25_0
        try clear hfz25_1
        try clear hfz25_2
        try clear hfz26_0
        try clear hfz26_1
        try clear hfz26_2
        try clear hfz29_0
        try clear hfz29_1
        try clear hfz29_2
        try clear hfz7_0
        try clear hfz7_1
        try clear hfz7_2
        try clear hfz8_0
        try clear hfz8_1
        try clear hfz8_2
        try clear p2
        try clear p6
        obtain ⟨x5_3, x191001_3, rfl, HA, HK3, BK187, BK190, HB⟩ := hrel
        cases gk with
        | zero => exact absurd HA.out (by simp [persian_Persian.l1])
        | succ k3 =>
         have H := HA.out
         clear HA
         simp only [persian_Persian.l1] at H
         replace H := Option.bind_eq_some_iff.mp H
         obtain ⟨t195, A300, H⟩ := H
         replace H : (if x5_3 ≥ t195 then ((persian_length.f k3 x191000_2 x191001_3).bind fun t196 => (persian_Persian.l1 k3 (wrap64 (x5_3 - t196)) x191000_2 (wrap64 (x191001_3 + 1)) 0)) else (some (x191000_2, x191001_3, wrap64 (x5_3 + 1), 0))) = some (r1, r2, r3, r4) := H
         have A30 := Aside0.mk A300
         clear A300
         by_cases c31 : x5_3 ≥ t195
         ·rw [if_pos c31] at H
          have c31b0 : decide (t195 ≤ x5_3) = true := decide_eq_true c31
          clear c31
          replace H := Option.bind_eq_some_iff.mp H
          obtain ⟨t196, A320, H⟩ := H
          have A32d := Option.some.inj (A30.out.symm.trans A320)
          clear A320
          subst A32d
          replace H : (persian_Persian.l1 k3 (wrap64 (x5_3 - t195)) x191000_2 (wrap64 (x191001_3 + 1)) 0) = some (r1, r2, r3, r4) := H
          have H' := Aside0.mk H
          clear H
          have hnb33 := NB190_187.out
          have hnc33 := NB187_190.out
          have hcz34_0 : wr.cell? ⟨gb190, 0, none⟩ = some (.int .i64 x191000_2) := (blk_cell BK190.out 0).trans rfl
          have hcz34_1 : wr.cell? ⟨gb190, 1, none⟩ = some (.int .i64 x191001_3) := (blk_cell BK190.out 1).trans rfl
          have hcz34_2 : wr.cell? ⟨gb190, 2, none⟩ = some (.int .i64 0) := (blk_cell BK190.out 2).trans rfl
          have hfz34_0 := blk_frozen BK190.out 0
          have hfz34_1 := blk_frozen BK190.out 1
          have hfz34_2 := blk_frozen BK190.out 2
          go_wp2_with (first | ((with_reducible refine gate_callee (f := 67) rfl ?_); refine gm_ (some 41) Tryz.func67 #[.int .i64 x191000_2, .int .i64 x191001_3] ?_; (with_reducible refine (persian_length.calls k3 x191000_2 x191001_3 t195 _ A30.out).mono ?_); rintro e w' ⟨rfl, ⟨nd, rfl⟩⟩; refine ⟨_, rfl, ?_⟩; (try (rw [drewN_self wr]; generalize hq_ : World.drewN wr _ = wr; have n0_ : Aside0 (wr.heap[gb187]? = some (.cells #[.int .i64 0, .int .i64 0, .int .i64 0] 41 (0, 0))) := ⟨by rw [← hq_]; exact (by (with_reducible repeat (first | refine blk_drewN ?_ _ | refine blk_drew ?_ | refine blk_alloc ?_ _)); exact BK187.out)⟩; have n1_ : Aside0 (wr.heap[gb190]? = some (.cells #[.int .i64 x191000_2, .int .i64 x191001_3, .int .i64 0] 41 (0, 0))) := ⟨by rw [← hq_]; exact (by (with_reducible repeat (first | refine blk_drewN ?_ _ | refine blk_drew ?_ | refine blk_alloc ?_ _)); exact BK190.out)⟩; have n2_ : Aside0 (Below w.heap.size w wr) := ⟨by rw [← hq_]; exact (by repeat (first | (with_reducible first | exact HB.out | apply below_alloc | apply pw_below_drewN | apply below_drew1 | refine below_set ?_ GE187.out | refine below_set ?_ GE190.out) | exact HB.out))⟩; clear BK187 BK190 HB hq_; have BK187 := n0_; have BK190 := n1_; have HB := n2_; clear n0_ n1_ n2_)); (try (have hcz35_0 : wr.cell? ⟨gb187, 0, none⟩ = some (.int .i64 0) := (blk_cell BK187.out 0).trans rfl; have hcz35_1 : wr.cell? ⟨gb187, 1, none⟩ = some (.int .i64 0) := (blk_cell BK187.out 1).trans rfl; have hcz35_2 : wr.cell? ⟨gb187, 2, none⟩ = some (.int .i64 0) := (blk_cell BK187.out 2).trans rfl; have hfz35_0 := blk_frozen BK187.out 0; have hfz35_1 := blk_frozen BK187.out 1; have hfz35_2 := blk_frozen BK187.out 2; have hcz36_0 : wr.cell? ⟨gb190, 0, none⟩ = some (.int .i64 x191000_2) := (blk_cell BK190.out 0).trans rfl; have hcz36_1 : wr.cell? ⟨gb190, 1, none⟩ = some (.int .i64 x191001_3) := (blk_cell BK190.out 1).trans rfl; have hcz36_2 : wr.cell? ⟨gb190, 2, none⟩ = some (.int .i64 0) := (blk_cell BK190.out 2).trans rfl; have hfz36_0 := blk_frozen BK190.out 0; have hfz36_1 := blk_frozen BK190.out 1; have hfz36_2 := blk_frozen BK190.out 2))) | ((with_reducible refine gate_callee (f := 67) rfl ?_); refine gm_ (some 48) Tryz.func67 #[.int .i64 x191000_2, .int .i64 x191001_3] ?_; (with_reducible refine (persian_length.calls k3 x191000_2 x191001_3 t195 _ A30.out).mono ?_); rintro e w' ⟨rfl, ⟨nd, rfl⟩⟩; refine ⟨_, rfl, ?_⟩; (try (rw [drewN_self wr]; generalize hq_ : World.drewN wr _ = wr; have n0_ : Aside0 (wr.heap[gb187]? = some (.cells #[.int .i64 0, .int .i64 0, .int .i64 0] 41 (0, 0))) := ⟨by rw [← hq_]; exact (by (with_reducible repeat (first | refine blk_drewN ?_ _ | refine blk_drew ?_ | refine blk_alloc ?_ _)); exact BK187.out)⟩; have n1_ : Aside0 (wr.heap[gb190]? = some (.cells #[.int .i64 x191000_2, .int .i64 x191001_3, .int .i64 0] 41 (0, 0))) := ⟨by rw [← hq_]; exact (by (with_reducible repeat (first | refine blk_drewN ?_ _ | refine blk_drew ?_ | refine blk_alloc ?_ _)); exact BK190.out)⟩; have n2_ : Aside0 (Below w.heap.size w wr) := ⟨by rw [← hq_]; exact (by repeat (first | (with_reducible first | exact HB.out | apply below_alloc | apply pw_below_drewN | apply below_drew1 | refine below_set ?_ GE187.out | refine below_set ?_ GE190.out) | exact HB.out))⟩; clear BK187 BK190 HB hq_; have BK187 := n0_; have BK190 := n1_; have HB := n2_; clear n0_ n1_ n2_)); (try (have hcz37_0 : wr.cell? ⟨gb187, 0, none⟩ = some (.int .i64 0) := (blk_cell BK187.out 0).trans rfl; have hcz37_1 : wr.cell? ⟨gb187, 1, none⟩ = some (.int .i64 0) := (blk_cell BK187.out 1).trans rfl; have hcz37_2 : wr.cell? ⟨gb187, 2, none⟩ = some (.int .i64 0) := (blk_cell BK187.out 2).trans rfl; have hfz37_0 := blk_frozen BK187.out 0; have hfz37_1 := blk_frozen BK187.out 1; have hfz37_2 := blk_frozen BK187.out 2; have hcz38_0 : wr.cell? ⟨gb190, 0, none⟩ = some (.int .i64 x191000_2) := (blk_cell BK190.out 0).trans rfl; have hcz38_1 : wr.cell? ⟨gb190, 1, none⟩ = some (.int .i64 x191001_3) := (blk_cell BK190.out 1).trans rfl; have hcz38_2 : wr.cell? ⟨gb190, 2, none⟩ = some (.int .i64 0) := (blk_cell BK190.out 2).trans rfl; have hfz38_0 := blk_frozen BK190.out 0; have hfz38_1 := blk_frozen BK190.out 1; have hfz38_2 := blk_frozen BK190.out 2))))
          go_roundg k3
          case measure => have := HJ4.out; have := HK2.out; have := HK3.out; omega
          case rel => exact ⟨(wrap64 (x5_3 - t195)), (wrap64 (x191001_3 + 1)), (by first | rfl | (simp; done) | (simp [*]; done)), H', ⟨by have := HJ4.out; have := HK2.out; have := HK3.out; omega⟩, ⟨by (with_reducible repeat (first | refine blk_drewN ?_ _ | refine blk_drew ?_ | refine blk_alloc ?_ _)); refine blk_far ?_ NB187_190.out _; (with_reducible repeat (first | refine blk_drewN ?_ _ | refine blk_drew ?_ | refine blk_alloc ?_ _)); exact BK187.out⟩, ⟨by (with_reducible repeat (first | refine blk_drewN ?_ _ | refine blk_drew ?_ | refine blk_alloc ?_ _)); refine blk_put (cs := #[.int .i64 x191000_2, .int .i64 x191001_3, .int .i64 0]) ?_ 1 _ rfl; (with_reducible repeat (first | refine blk_drewN ?_ _ | refine blk_drew ?_ | refine blk_alloc ?_ _)); exact BK190.out⟩, ⟨by repeat (first | (with_reducible first | exact HB.out | apply below_alloc | apply pw_below_drewN | apply below_drew1 | refine below_set ?_ GE187.out | refine below_set ?_ GE190.out) | exact HB.out)⟩⟩
         ·rw [if_neg c31] at H
          have c31b0 : decide (t195 ≤ x5_3) = false := decide_eq_false c31
          clear c31
          simp only [Option.some.injEq, Prod.mk.injEq] at H
          obtain ⟨rfl, rfl, rfl, rfl⟩ := H
          have hnb39 := NB190_187.out
          have hnc39 := NB187_190.out
          have hcz40_0 : wr.cell? ⟨gb190, 0, none⟩ = some (.int .i64 x191000_2) := (blk_cell BK190.out 0).trans rfl
          have hcz40_1 : wr.cell? ⟨gb190, 1, none⟩ = some (.int .i64 x191001_3) := (blk_cell BK190.out 1).trans rfl
          have hcz40_2 : wr.cell? ⟨gb190, 2, none⟩ = some (.int .i64 0) := (blk_cell BK190.out 2).trans rfl
          have hfz40_0 := blk_frozen BK190.out 0
          have hfz40_1 := blk_frozen BK190.out 1
          have hfz40_2 := blk_frozen BK190.out 2
          go_wp2_with (first | ((with_reducible refine gate_callee (f := 67) rfl ?_); refine gm_ (some 41) Tryz.func67 #[.int .i64 x191000_2, .int .i64 x191001_3] ?_; (with_reducible refine (persian_length.calls k3 x191000_2 x191001_3 t195 _ A30.out).mono ?_); rintro e w' ⟨rfl, ⟨nd, rfl⟩⟩; refine ⟨_, rfl, ?_⟩; (try (rw [drewN_self wr]; generalize hq_ : World.drewN wr _ = wr; have n0_ : Aside0 (wr.heap[gb187]? = some (.cells #[.int .i64 0, .int .i64 0, .int .i64 0] 41 (0, 0))) := ⟨by rw [← hq_]; exact (by (with_reducible repeat (first | refine blk_drewN ?_ _ | refine blk_drew ?_ | refine blk_alloc ?_ _)); exact BK187.out)⟩; have n1_ : Aside0 (wr.heap[gb190]? = some (.cells #[.int .i64 x191000_2, .int .i64 x191001_3, .int .i64 0] 41 (0, 0))) := ⟨by rw [← hq_]; exact (by (with_reducible repeat (first | refine blk_drewN ?_ _ | refine blk_drew ?_ | refine blk_alloc ?_ _)); exact BK190.out)⟩; have n2_ : Aside0 (Below w.heap.size w wr) := ⟨by rw [← hq_]; exact (by repeat (first | (with_reducible first | exact HB.out | apply below_alloc | apply pw_below_drewN | apply below_drew1 | refine below_set ?_ GE187.out | refine below_set ?_ GE190.out) | exact HB.out))⟩; clear BK187 BK190 HB hq_; have BK187 := n0_; have BK190 := n1_; have HB := n2_; clear n0_ n1_ n2_)); (try (have hcz41_0 : wr.cell? ⟨gb187, 0, none⟩ = some (.int .i64 0) := (blk_cell BK187.out 0).trans rfl; have hcz41_1 : wr.cell? ⟨gb187, 1, none⟩ = some (.int .i64 0) := (blk_cell BK187.out 1).trans rfl; have hcz41_2 : wr.cell? ⟨gb187, 2, none⟩ = some (.int .i64 0) := (blk_cell BK187.out 2).trans rfl; have hfz41_0 := blk_frozen BK187.out 0; have hfz41_1 := blk_frozen BK187.out 1; have hfz41_2 := blk_frozen BK187.out 2; have hcz42_0 : wr.cell? ⟨gb190, 0, none⟩ = some (.int .i64 x191000_2) := (blk_cell BK190.out 0).trans rfl; have hcz42_1 : wr.cell? ⟨gb190, 1, none⟩ = some (.int .i64 x191001_3) := (blk_cell BK190.out 1).trans rfl; have hcz42_2 : wr.cell? ⟨gb190, 2, none⟩ = some (.int .i64 0) := (blk_cell BK190.out 2).trans rfl; have hfz42_0 := blk_frozen BK190.out 0; have hfz42_1 := blk_frozen BK190.out 1; have hfz42_2 := blk_frozen BK190.out 2)); have hcz43_0 : wr.cell? ⟨gb187, 0, none⟩ = some (.int .i64 0) := (blk_cell BK187.out 0).trans rfl; have hcz43_1 : wr.cell? ⟨gb187, 1, none⟩ = some (.int .i64 0) := (blk_cell BK187.out 1).trans rfl; have hcz43_2 : wr.cell? ⟨gb187, 2, none⟩ = some (.int .i64 0) := (blk_cell BK187.out 2).trans rfl; have hfz43_0 := blk_frozen BK187.out 0; have hfz43_1 := blk_frozen BK187.out 1; have hfz43_2 := blk_frozen BK187.out 2))
          refine bodyPost_ret (results_ct rfl _ _ gb187 41 #[.int .i64 x191000_2, .int .i64 x191001_3, .int .i64 (wrap64 (x5_3 + 1))] (0, 0) _ rfl (by (with_reducible repeat (first | refine blk_drewN ?_ _ | refine blk_drew ?_ | refine blk_alloc ?_ _)); refine blk_put (cs := #[.int .i64 x191000_2, .int .i64 x191001_3, .int .i64 0]) ?_ 2 _ rfl; (with_reducible repeat (first | refine blk_drewN ?_ _ | refine blk_drew ?_ | refine blk_alloc ?_ _)); refine blk_put (cs := #[.int .i64 x191000_2, .int .i64 0, .int .i64 0]) ?_ 1 _ rfl; (with_reducible repeat (first | refine blk_drewN ?_ _ | refine blk_drew ?_ | refine blk_alloc ?_ _)); refine blk_put (cs := #[.int .i64 0, .int .i64 0, .int .i64 0]) ?_ 0 _ rfl; (with_reducible repeat (first | refine blk_drewN ?_ _ | refine blk_drew ?_ | refine blk_alloc ?_ _)); refine blk_far ?_ NB187_190.out _; (with_reducible repeat (first | refine blk_drewN ?_ _ | refine blk_drew ?_ | refine blk_alloc ?_ _)); exact BK187.out) Tryz.underlying41 rfl (by kernel_rfl)) rfl ?_
          exact ⟨by first | rfl | (simp [*, errW_none, errW_some] <;> rfl), by repeat (first | (with_reducible first | exact HB.out | apply below_alloc | apply pw_below_drewN | apply below_drew1 | refine below_set ?_ GE187.out | refine below_set ?_ GE190.out) | exact HB.out)⟩
 ·replace c3 := Bool.eq_false_iff.mpr c3
  subst c3
  have H1 : (some (0, 0, 0, 2)) = some (r1, r2, r3, r4) := by rw [if_neg (show ¬ (false = true) by decide)] at H; exact H
  clear H
  have H := H1
  clear H1
  simp only [Option.some.injEq, Prod.mk.injEq] at H
  obtain ⟨rfl, rfl, rfl, rfl⟩ := H
  go_enter Tryz.func43, Tryz.ntmps43
  go_wp2_with (first | ((with_reducible refine gate_dst (N := 2) rfl ?_); refine box_event ?hg (N := 2) ?hd (cs := #[.int .i64 0, .int .i64 0, .int .i64 0]) (t := 41) ?hr ?_; (case hd => rfl); (case hg => rfl); (case hr => first | (go_simp; done) | (go_simp; rfl)); intro gb187 hg w44 hbox hb; have n0_ := Aside0.mk (below_step (by repeat (first | (with_reducible first | exact HB.out | apply below_alloc | apply pw_below_drewN | apply below_drew1) | exact HB.out)) hb); have n1_ := Aside0.mk (hbox); have n2_ := Aside0.mk ((by rw [hg]; exact (below_size (by repeat (first | (with_reducible first | exact HB.out | apply below_alloc | apply pw_below_drewN | apply below_drew1) | exact HB.out))) : w.heap.size ≤ gb187)); have n3_ := Aside0.mk ((by rw [hg]; exact (below_size (by repeat (first | (with_reducible first | exact HB.out | apply below_alloc | apply pw_below_drewN | apply below_drew1) | exact HB.out))) : w.heap.size ≤ gb187)); clear HB; have HB := n0_; have BK187 := n1_; have GW187 := n2_; have GE187 := n3_; clear n0_ n1_ n2_ n3_; clear hb hbox hg) | ((with_reducible refine gate_callee (f := 60) rfl ?_); refine gm_ (some 7) Tryz.func60 #[.int .i64 a0] ?_; (with_reducible refine (rata_Of.calls a0 false _ A2.out).mono ?_); rintro e w' ⟨rfl, ⟨nd, rfl⟩⟩; refine ⟨_, rfl, ?_⟩; (try (rw [drewN_self w44]; generalize hq_ : World.drewN w44 _ = w44; have n0_ : Aside0 (w44.heap[gb187]? = some (.cells #[.int .i64 0, .int .i64 0, .int .i64 0] 41 (0, 0))) := ⟨by rw [← hq_]; exact (by (with_reducible repeat (first | refine blk_drewN ?_ _ | refine blk_drew ?_ | refine blk_alloc ?_ _)); exact BK187.out)⟩; have n1_ : Aside0 (Below w.heap.size w w44) := ⟨by rw [← hq_]; exact (by repeat (first | (with_reducible first | exact HB.out | apply below_alloc | apply pw_below_drewN | apply below_drew1 | refine below_set ?_ GE187.out) | exact HB.out))⟩; clear BK187 HB hq_; have BK187 := n0_; have HB := n1_; clear n0_ n1_)); (try (have hcz45_0 : w44.cell? ⟨gb187, 0, none⟩ = some (.int .i64 0) := (blk_cell BK187.out 0).trans rfl; have hcz45_1 : w44.cell? ⟨gb187, 1, none⟩ = some (.int .i64 0) := (blk_cell BK187.out 1).trans rfl; have hcz45_2 : w44.cell? ⟨gb187, 2, none⟩ = some (.int .i64 0) := (blk_cell BK187.out 2).trans rfl; have hfz45_0 := blk_frozen BK187.out 0; have hfz45_1 := blk_frozen BK187.out 1; have hfz45_2 := blk_frozen BK187.out 2)); have hcz46_0 : w44.cell? ⟨gb187, 0, none⟩ = some (.int .i64 0) := (blk_cell BK187.out 0).trans rfl; have hcz46_1 : w44.cell? ⟨gb187, 1, none⟩ = some (.int .i64 0) := (blk_cell BK187.out 1).trans rfl; have hcz46_2 : w44.cell? ⟨gb187, 2, none⟩ = some (.int .i64 0) := (blk_cell BK187.out 2).trans rfl; have hfz46_0 := blk_frozen BK187.out 0; have hfz46_1 := blk_frozen BK187.out 1; have hfz46_2 := blk_frozen BK187.out 2))
  refine bodyPost_ret (results_ct rfl _ _ gb187 41 #[.int .i64 0, .int .i64 0, .int .i64 0] (0, 0) _ rfl (by (with_reducible repeat (first | refine blk_drewN ?_ _ | refine blk_drew ?_ | refine blk_alloc ?_ _)); refine blk_put (cs := #[.int .i64 0, .int .i64 0, .int .i64 0]) ?_ 2 _ rfl; (with_reducible repeat (first | refine blk_drewN ?_ _ | refine blk_drew ?_ | refine blk_alloc ?_ _)); refine blk_put (cs := #[.int .i64 0, .int .i64 0, .int .i64 0]) ?_ 1 _ rfl; (with_reducible repeat (first | refine blk_drewN ?_ _ | refine blk_drew ?_ | refine blk_alloc ?_ _)); refine blk_put (cs := #[.int .i64 0, .int .i64 0, .int .i64 0]) ?_ 0 _ rfl; (with_reducible repeat (first | refine blk_drewN ?_ _ | refine blk_drew ?_ | refine blk_alloc ?_ _)); exact BK187.out) Tryz.underlying41 rfl (by kernel_rfl)) rfl ?_
  exact ⟨by first | rfl | (simp [*, errW_none, errW_some] <;> rfl), by repeat (first | (with_reducible first | exact HB.out | apply below_alloc | apply pw_below_drewN | apply below_drew1 | refine below_set ?_ GE187.out) | exact HB.out)⟩

end Go.Proofs.YtgbbgcepcnklkaaGreatDoor.Q
