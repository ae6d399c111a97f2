/- Texts of this claim, merged: QrataC, FunC, Qjul. -/
import Derived.Test.YtgbbgcepcnklkaaDoorMgShowDates1
import Derived.Test.YtgbbgcepcnklkaaDoorMgShowDates3
-- written by a program of this session (wip/own_print.sh)
namespace Go.Proofs.YtgbbgcepcnklkaaDoor.Q
open Go.RowKit Go.Proofs.YtgbbgcepcnklkaaDoorW.PrintWords Go.Proofs.YtgbbgcepcnklkaaDoorW.PrintLast Go.Proofs.YtgbbgcepcnklkaaDoorW.PrintMore
attribute [local go_sem] max2_int min2_int max_two min_two max_three min_three max_four min_four   -- for this text's walks alone
set_option linter.unusedVariables false
set_option linter.unusedSimpArgs false
/-! ### rata_Year: function 50 -/
def rata_Year.f (a0 : Int) : Option (Int) := (rata_Floor.f (wrap64 (a0 - 1)) 146097).bind fun t102 => ((rata_Mod.f (wrap64 (a0 - 1)) 146097).bind fun t103 => (some (wrap64 ((wrap64 ((wrap64 ((wrap64 ((wrap64 (400 * t102)) + (wrap64 (100 * (mn (wrap64 (Int.tdiv t103 36524)) 3))))) + (wrap64 (4 * (wrap64 (Int.tdiv (wrap64 (t103 - (wrap64 (36524 * (mn (wrap64 (Int.tdiv t103 36524)) 3))))) 1461)))))) + (mn (wrap64 (Int.tdiv (Int.tmod (wrap64 (t103 - (wrap64 (36524 * (mn (wrap64 (Int.tdiv t103 36524)) 3))))) 1461) 365)) 3))) + 1))))
set_option maxHeartbeats 8000000 in
set_option maxRecDepth 100000 in
theorem rata_Year.calls (a0 : Int) (r : Int) (w : World) (h : rata_Year.f a0 = some r) :
  Calls Tryd.prog 50 #[.int .i64 a0] w fun e w' => e = .returned (.int .i64 r) ∧ Below w.heap.size w w' := by
 have HB := Aside0.mk (Below.refl w.heap.size w)
 have H : ((rata_Floor.f (wrap64 (a0 - 1)) 146097).bind fun t102 => ((rata_Mod.f (wrap64 (a0 - 1)) 146097).bind fun t103 => (some (wrap64 ((wrap64 ((wrap64 ((wrap64 ((wrap64 (400 * t102)) + (wrap64 (100 * (mn (wrap64 (Int.tdiv t103 36524)) 3))))) + (wrap64 (4 * (wrap64 (Int.tdiv (wrap64 (t103 - (wrap64 (36524 * (mn (wrap64 (Int.tdiv t103 36524)) 3))))) 1461)))))) + (mn (wrap64 (Int.tdiv (Int.tmod (wrap64 (t103 - (wrap64 (36524 * (mn (wrap64 (Int.tdiv t103 36524)) 3))))) 1461) 365)) 3))) + 1))))) = some r := h
 clear h
 replace H := Option.bind_eq_some_iff.mp H
 obtain ⟨t102, A20, H⟩ := H
 replace H : ((rata_Mod.f (wrap64 (a0 - 1)) 146097).bind fun t103 => (some (wrap64 ((wrap64 ((wrap64 ((wrap64 ((wrap64 (400 * t102)) + (wrap64 (100 * (mn (wrap64 (Int.tdiv t103 36524)) 3))))) + (wrap64 (4 * (wrap64 (Int.tdiv (wrap64 (t103 - (wrap64 (36524 * (mn (wrap64 (Int.tdiv t103 36524)) 3))))) 1461)))))) + (mn (wrap64 (Int.tdiv (Int.tmod (wrap64 (t103 - (wrap64 (36524 * (mn (wrap64 (Int.tdiv t103 36524)) 3))))) 1461) 365)) 3))) + 1)))) = some r := H
 have A2 := Aside0.mk A20
 clear A20
 replace H := Option.bind_eq_some_iff.mp H
 obtain ⟨t103, A30, H⟩ := H
 replace H : (some (wrap64 ((wrap64 ((wrap64 ((wrap64 ((wrap64 (400 * t102)) + (wrap64 (100 * (mn (wrap64 (Int.tdiv t103 36524)) 3))))) + (wrap64 (4 * (wrap64 (Int.tdiv (wrap64 (t103 - (wrap64 (36524 * (mn (wrap64 (Int.tdiv t103 36524)) 3))))) 1461)))))) + (mn (wrap64 (Int.tdiv (Int.tmod (wrap64 (t103 - (wrap64 (36524 * (mn (wrap64 (Int.tdiv t103 36524)) 3))))) 1461) 365)) 3))) + 1))) = some r := H
 have A3 := Aside0.mk A30
 clear A30
 obtain ⟨ji4, hji4⟩ : ∃ j_ : Int, (mn (wrap64 (Int.tdiv t103 36524)) 3) = j_ := ⟨_, rfl⟩
 replace H : (some (wrap64 ((wrap64 ((wrap64 ((wrap64 ((wrap64 (400 * t102)) + (wrap64 (100 * (ji4))))) + (wrap64 (4 * (wrap64 (Int.tdiv (wrap64 (t103 - (wrap64 (36524 * (ji4))))) 1461)))))) + (mn (wrap64 (Int.tdiv (Int.tmod (wrap64 (t103 - (wrap64 (36524 * (ji4))))) 1461) 365)) 3))) + 1))) = some r := by first | (rw [hji4] at H; exact H) | (simp only [hji4] at H ⊢; exact H)
 (try rw [hji4] at A2)
 (try rw [hji4] at A3)
 (try (have hji4h : ji4 ≤ 3 := by (rw [← hji4]; unfold mn; (repeat' split) <;> omega)))
 (try (have hji4g : ji4 ≤ 64 := by omega))
 have hji4_ : (if 3 < (wrap64 (Int.tdiv t103 36524)) then 3 else (wrap64 (Int.tdiv t103 36524))) = ji4 := hji4
 obtain ⟨ji5, hji5⟩ : ∃ j_ : Int, (mn (wrap64 (Int.tdiv (Int.tmod (wrap64 (t103 - (wrap64 (36524 * (ji4))))) 1461) 365)) 3) = j_ := ⟨_, rfl⟩
 replace H : (some (wrap64 ((wrap64 ((wrap64 ((wrap64 ((wrap64 (400 * t102)) + (wrap64 (100 * (ji4))))) + (wrap64 (4 * (wrap64 (Int.tdiv (wrap64 (t103 - (wrap64 (36524 * (ji4))))) 1461)))))) + (ji5))) + 1))) = some r := by first | (rw [hji5] at H; exact H) | (simp only [hji5] at H ⊢; exact H)
 (try rw [hji5] at A2)
 (try rw [hji5] at A3)
 have hji5_ : (if 3 < (wrap64 (Int.tdiv (Int.tmod (wrap64 (t103 - (wrap64 (36524 * (ji4))))) 1461) 365)) then 3 else (wrap64 (Int.tdiv (Int.tmod (wrap64 (t103 - (wrap64 (36524 * (ji4))))) 1461) 365))) = ji5 := hji5
 obtain rfl := Option.some.inj H
 go_enter Tryd.func50, Tryd.ntmps50
 go_wp2_with (first | ((with_reducible refine gate_callee (f := 53) rfl ?_); refine goesL_ (some 10) rfl rfl Tryd.func53 (by kernel_rfl) rfl #[.int .i64 (wrap64 (a0 - 1)), .int .i64 146097] rfl (by (try simp only [List.map_toArray, List.map_cons, List.map_nil]); first | done | rfl | (simp only [List.length_drop, List.length_take]; rfl)) ?_; (with_reducible refine (rata_Floor.calls (wrap64 (a0 - 1)) 146097 t102 _ A2.out).mono ?_); rintro e w' ⟨rfl, ⟨nd, rfl⟩⟩; refine ⟨_, rfl, ?_⟩) | ((with_reducible refine gate_callee (f := 57) rfl ?_); refine goesL_ (some 12) rfl rfl Tryd.func57 (by kernel_rfl) rfl #[.int .i64 (wrap64 (a0 - 1)), .int .i64 146097] rfl (by (try simp only [List.map_toArray, List.map_cons, List.map_nil]); first | done | rfl | (simp only [List.length_drop, List.length_take]; rfl)) ?_; (with_reducible refine (rata_Mod.calls (wrap64 (a0 - 1)) 146097 t103 _ A3.out).mono ?_); rintro e w' ⟨rfl, ⟨nd, rfl⟩⟩; refine ⟨_, rfl, ?_⟩))
 go_ret
 exact ⟨by first | rfl | (simp [errW_none, errW_some] <;> rfl) | (simp only [← hji4, ← hji5]; first | rfl | (simp [errW_none, errW_some] <;> rfl)) | (simp [*, errW_none, errW_some] <;> rfl), by repeat (first | (with_reducible first | exact HB.out | apply below_alloc | apply pw_below_drewN | apply below_drew1) | exact HB.out)⟩

/-! ### rata_Date: function 18 -/
def rata_Date.l0 : Nat → Int → Int → Int → Int → Option (Int × Int × Int × Int)
 | 0, _, _, _, _ => none
 | k + 1, x5, x112000, x112001, x112002 => (rata_Length.f k x112000 x112001).bind fun t113 => (if x5 > t113 then ((rata_Length.f k x112000 x112001).bind fun t114 => (rata_Date.l0 k (wrap64 (x5 - t114)) x112000 (wrap64 (x112001 + 1)) x112002)) else (some (x112000, x112001, x5, 0)))
def rata_Date.f (k : Nat) (a0 : Int) : Option (Int × Int × Int × Int) := (rata_Of.f a0).bind fun t109 => (if t109 = true then ((rata_Year.f a0).bind fun t110 => ((rata_ahead.f t110).bind fun t112 => (rata_Date.l0 k (wrap64 (a0 - t112)) t110 1 0))) else (some (0, 0, 0, 2)))
set_option maxHeartbeats 8000000 in
set_option maxRecDepth 100000 in
theorem rata_Date.calls (k : Nat) (a0 : Int) (r1 : Int) (r2 : Int) (r3 : Int) (r4 : Int) (w : World) (h : rata_Date.f k a0 = some (r1, r2, r3, r4)) :
  Calls Tryd.prog 18 #[.int .i64 a0] w fun e w' => e = .returned (.tuple #[.agg #[.int .i64 r1, .int .i64 r2, .int .i64 r3], .int .i64 r4]) ∧ Below w.heap.size w w' := by
 have hu24 := Tryd.underlying24
 have HB := Aside0.mk (Below.refl w.heap.size w)
 have H : ((rata_Of.f a0).bind fun t109 => (if t109 = true then ((rata_Year.f a0).bind fun t110 => ((rata_ahead.f t110).bind fun t112 => (rata_Date.l0 k (wrap64 (a0 - t112)) t110 1 0))) else (some (0, 0, 0, 2)))) = some (r1, r2, r3, r4) := h
 clear h
 replace H := Option.bind_eq_some_iff.mp H
 obtain ⟨t109, A20, H⟩ := H
 replace H : (if t109 = true then ((rata_Year.f a0).bind fun t110 => ((rata_ahead.f t110).bind fun t112 => (rata_Date.l0 k (wrap64 (a0 - t112)) t110 1 0))) else (some (0, 0, 0, 2))) = some (r1, r2, r3, r4) := H
 have A2 := Aside0.mk A20
 clear A20
 by_cases c3 : t109 = true
 ·subst c3
  have H1 : ((rata_Year.f a0).bind fun t110 => ((rata_ahead.f t110).bind fun t112 => (rata_Date.l0 k (wrap64 (a0 - t112)) t110 1 0))) = some (r1, r2, r3, r4) := by rw [if_pos rfl] at H; exact H
  clear H
  have H := H1
  clear H1
  replace H := Option.bind_eq_some_iff.mp H
  obtain ⟨t110, A40, H⟩ := H
  replace H : ((rata_ahead.f t110).bind fun t112 => (rata_Date.l0 k (wrap64 (a0 - t112)) t110 1 0)) = some (r1, r2, r3, r4) := H
  have A4 := Aside0.mk A40
  clear A40
  replace H := Option.bind_eq_some_iff.mp H
  obtain ⟨t112, A50, H⟩ := H
  replace H : (rata_Date.l0 k (wrap64 (a0 - t112)) t110 1 0) = some (r1, r2, r3, r4) := H
  have A5 := Aside0.mk A50
  clear A50
  have H' := Aside0.mk H
  clear H
  go_enter Tryd.func18, Tryd.ntmps18
  go_wp2_with (first | ((with_reducible refine gate_dst (N := 2) rfl ?_); refine box_event ?hg (N := 2) ?hd (cs := #[.int .i64 0, .int .i64 0, .int .i64 0]) (t := 24) ?hr ?_; (case hd => rfl); (case hg => rfl); (case hr => first | (go_simp; done) | (go_simp; rfl)); intro gb108 hg w6 hbox hb; have n0_ := Aside0.mk (below_step (by repeat (first | (with_reducible first | exact HB.out | apply below_alloc | apply pw_below_drewN | apply below_drew1) | exact HB.out)) hb); have n1_ := Aside0.mk (hbox); have n2_ := Aside0.mk ((by rw [hg]; exact (below_size (by repeat (first | (with_reducible first | exact HB.out | apply below_alloc | apply pw_below_drewN | apply below_drew1) | exact HB.out))) : w.heap.size ≤ gb108)); have n3_ := Aside0.mk ((by rw [hg]; exact (below_size (by repeat (first | (with_reducible first | exact HB.out | apply below_alloc | apply pw_below_drewN | apply below_drew1) | exact HB.out))) : w.heap.size ≤ gb108)); clear HB; have HB := n0_; have BK108 := n1_; have GW108 := n2_; have GE108 := n3_; clear n0_ n1_ n2_ n3_; clear hb hbox hg) | ((with_reducible refine gate_callee (f := 49) rfl ?_); refine goesL_ (some 7) rfl rfl Tryd.func49 (by kernel_rfl) rfl #[.int .i64 a0] rfl (by (try simp only [List.map_toArray, List.map_cons, List.map_nil]); first | done | rfl | (simp only [List.length_drop, List.length_take]; rfl)) ?_; (with_reducible refine (rata_Of.calls a0 true _ A2.out).mono ?_); rintro e w' ⟨rfl, ⟨nd, rfl⟩⟩; refine ⟨_, rfl, ?_⟩; (try (rw [drewN_self w6]; generalize hq_ : World.drewN w6 _ = w6; have n0_ : Aside0 (w6.heap[gb108]? = some (.cells #[.int .i64 0, .int .i64 0, .int .i64 0] 24 (0, 0))) := ⟨by rw [← hq_]; exact (by (with_reducible repeat (first | refine blk_drewN ?_ _ | refine blk_drew ?_ | refine blk_alloc ?_ _)); exact BK108.out)⟩; have n1_ : Aside0 (Below w.heap.size w w6) := ⟨by rw [← hq_]; exact (by repeat (first | (with_reducible first | exact HB.out | apply below_alloc | apply pw_below_drewN | apply below_drew1 | refine below_set ?_ GE108.out) | exact HB.out))⟩; clear BK108 HB hq_; have BK108 := n0_; have HB := n1_; clear n0_ n1_)); (try (have hcz7_0 : w6.cell? ⟨gb108, 0, none⟩ = some (.int .i64 0) := (blk_cell BK108.out 0).trans rfl; have hcz7_1 : w6.cell? ⟨gb108, 1, none⟩ = some (.int .i64 0) := (blk_cell BK108.out 1).trans rfl; have hcz7_2 : w6.cell? ⟨gb108, 2, none⟩ = some (.int .i64 0) := (blk_cell BK108.out 2).trans rfl; have hfz7_0 := blk_frozen BK108.out 0; have hfz7_1 := blk_frozen BK108.out 1; have hfz7_2 := blk_frozen BK108.out 2))) | ((with_reducible refine gate_callee (f := 50) rfl ?_); refine goesL_ (some 11) rfl rfl Tryd.func50 (by kernel_rfl) rfl #[.int .i64 a0] rfl (by (try simp only [List.map_toArray, List.map_cons, List.map_nil]); first | done | rfl | (simp only [List.length_drop, List.length_take]; rfl)) ?_; (with_reducible refine (rata_Year.calls a0 t110 _ A4.out).mono ?_); rintro e w8 ⟨rfl, hb⟩; refine ⟨_, rfl, ?_⟩; have n0_ := Aside0.mk (blk_below (g := gb108) (o := .cells #[.int .i64 0, .int .i64 0, .int .i64 0] 24 (0, 0)) (by (with_reducible repeat (first | refine blk_drewN ?_ _ | refine blk_drew ?_ | refine blk_alloc ?_ _)); exact BK108.out) hb); have n1_ := Aside0.mk (below_step (by repeat (first | (with_reducible first | exact HB.out | apply below_alloc | apply pw_below_drewN | apply below_drew1 | refine below_set ?_ GE108.out) | exact HB.out)) hb); clear BK108; clear HB; have BK108 := n0_; have HB := n1_; clear n0_ n1_; (try clear hb); (try clear hb2); (try clear hk); (try clear hi)) | ((with_reducible refine gate_dst (N := 4) rfl ?_); refine box_event ?hg (N := 4) ?hd (cs := #[.int .i64 0, .int .i64 0, .int .i64 0]) (t := 24) ?hr ?_; (case hd => rfl); (case hg => rfl); (case hr => first | (go_simp; done) | (go_simp; rfl)); intro gb111 hg w9 hbox hb; have n0_ := Aside0.mk (blk_below (g := gb108) (o := .cells #[.int .i64 0, .int .i64 0, .int .i64 0] 24 (0, 0)) (by (with_reducible repeat (first | refine blk_drewN ?_ _ | refine blk_drew ?_ | refine blk_alloc ?_ _)); exact BK108.out) hb); have n1_ := Aside0.mk (below_step (by repeat (first | (with_reducible first | exact HB.out | apply below_alloc | apply pw_below_drewN | apply below_drew1 | refine below_set ?_ GE108.out) | exact HB.out)) hb); have n2_ := Aside0.mk (hbox); have n3_ := Aside0.mk ((by rw [hg]; exact (below_size (by repeat (first | (with_reducible first | exact HB.out | apply below_alloc | apply pw_below_drewN | apply below_drew1 | refine below_set ?_ GE108.out) | exact HB.out))) : w.heap.size ≤ gb111)); have n4_ := Aside0.mk ((by rw [hg]; exact (below_size (by repeat (first | (with_reducible first | exact HB.out | apply below_alloc | apply pw_below_drewN | apply below_drew1 | refine below_set ?_ GE108.out) | exact HB.out))) : w.heap.size ≤ gb111)); have n5_ := Aside0.mk ((by rw [hg]; exact Nat.ne_of_lt (blk_lt (g := gb108) (o := .cells #[.int .i64 0, .int .i64 0, .int .i64 0] 24 (0, 0)) (by (with_reducible repeat (first | refine blk_drewN ?_ _ | refine blk_drew ?_ | refine blk_alloc ?_ _)); exact BK108.out)) : gb108 ≠ gb111)); have n6_ := Aside0.mk ((by rw [hg]; exact Nat.ne_of_gt (blk_lt (g := gb108) (o := .cells #[.int .i64 0, .int .i64 0, .int .i64 0] 24 (0, 0)) (by (with_reducible repeat (first | refine blk_drewN ?_ _ | refine blk_drew ?_ | refine blk_alloc ?_ _)); exact BK108.out)) : gb111 ≠ gb108)); clear BK108; clear HB; have BK108 := n0_; have HB := n1_; have BK111 := n2_; have GW111 := n3_; have GE111 := n4_; have NB108_111 := n5_; have NB111_108 := n6_; clear n0_ n1_ n2_ n3_ n4_ n5_ n6_; clear hb hbox hg; have hnb10 := NB111_108.out; have hnc10 := NB108_111.out; have hcz11_0 : w9.cell? ⟨gb111, 0, none⟩ = some (.int .i64 0) := (blk_cell BK111.out 0).trans rfl; have hcz11_1 : w9.cell? ⟨gb111, 1, none⟩ = some (.int .i64 0) := (blk_cell BK111.out 1).trans rfl; have hcz11_2 : w9.cell? ⟨gb111, 2, none⟩ = some (.int .i64 0) := (blk_cell BK111.out 2).trans rfl; have hfz11_0 := blk_frozen BK111.out 0; have hfz11_1 := blk_frozen BK111.out 1; have hfz11_2 := blk_frozen BK111.out 2) | ((with_reducible refine gate_callee (f := 51) rfl ?_); refine goesL_ (some 16) rfl rfl Tryd.func51 (by kernel_rfl) rfl #[.int .i64 t110] rfl (by (try simp only [List.map_toArray, List.map_cons, List.map_nil]); first | done | rfl | (simp only [List.length_drop, List.length_take]; rfl)) ?_; (with_reducible refine (rata_ahead.calls t110 t112 _ A5.out).mono ?_); rintro e w' ⟨rfl, ⟨nd, rfl⟩⟩; refine ⟨_, rfl, ?_⟩))
  go_loopg [5] k (fun kq v5 w' => ∃ (x5_1 : Int) (x112001_1 : Int), v5 = .int .i64 x5_1 ∧ Aside0 (rata_Date.l0 kq x5_1 t110 x112001_1 0 = some (r1, r2, r3, r4)) ∧ Aside0 (kq ≤ k) ∧ Aside0 (w'.heap[gb108]? = some (.cells #[.int .i64 0, .int .i64 0, .int .i64 0] 24 (0, 0))) ∧ Aside0 (w'.heap[gb111]? = some (.cells #[.int .i64 t110, .int .i64 x112001_1, .int .i64 0] 24 (0, 0))) ∧ Aside0 (Below w.heap.size w w'))
  case atStart => exact ⟨(wrap64 (a0 - t112)), (1), (by first | rfl | (simp; done) | (simp [*]; done)), H', ⟨Nat.le_refl _⟩, ⟨by (with_reducible repeat (first | refine blk_drewN ?_ _ | refine blk_drew ?_ | refine blk_alloc ?_ _)); refine blk_far ?_ NB108_111.out _; (with_reducible repeat (first | refine blk_drewN ?_ _ | refine blk_drew ?_ | refine blk_alloc ?_ _)); refine blk_far ?_ NB108_111.out _; (with_reducible repeat (first | refine blk_drewN ?_ _ | refine blk_drew ?_ | refine blk_alloc ?_ _)); refine blk_far ?_ NB108_111.out _; (with_reducible repeat (first | refine blk_drewN ?_ _ | refine blk_drew ?_ | refine blk_alloc ?_ _)); exact BK108.out⟩, ⟨by (with_reducible repeat (first | refine blk_drewN ?_ _ | refine blk_drew ?_ | refine blk_alloc ?_ _)); refine blk_put (cs := #[.int .i64 t110, .int .i64 1, .int .i64 0]) ?_ 2 _ rfl; (with_reducible repeat (first | refine blk_drewN ?_ _ | refine blk_drew ?_ | refine blk_alloc ?_ _)); refine blk_put (cs := #[.int .i64 t110, .int .i64 0, .int .i64 0]) ?_ 1 _ rfl; (with_reducible repeat (first | refine blk_drewN ?_ _ | refine blk_drew ?_ | refine blk_alloc ?_ _)); refine blk_put (cs := #[.int .i64 0, .int .i64 0, .int .i64 0]) ?_ 0 _ rfl; (with_reducible repeat (first | refine blk_drewN ?_ _ | refine blk_drew ?_ | refine blk_alloc ?_ _)); exact BK111.out⟩, ⟨by repeat (first | (with_reducible first | exact HB.out | apply below_alloc | apply pw_below_drewN | apply below_drew1 | refine below_set ?_ GE108.out | refine below_set ?_ GE111.out) | exact HB.out)⟩⟩
  case round =>
   clear H'
   try clear c1
   try clear p2
   try clear c3
   try clear c4
   try clear c5
   try clear p6
   try clear c10
   try clear hcz11_0
   try clear hcz11_1
   try clear hcz11_2
   try clear hcz7_0
   try clear hcz7_1
   try clear hcz7_2
   try clear hfz11_0
   try clear hfz11_1
   try clear hfz11_2
   try clear hfz7_0
   try clear hfz7_1
   try clear hfz7_2
   obtain ⟨x5_1, x112001_1, rfl, HA, HK1, BK108, BK111, HB⟩ := hrel
   cases gk with
   | zero => exact absurd HA.out (by simp [rata_Date.l0])
   | succ k1 =>
    have H := HA.out
    clear HA
    simp only [rata_Date.l0] at H
    replace H := Option.bind_eq_some_iff.mp H
    obtain ⟨t113, A120, H⟩ := H
    replace H : (if x5_1 > t113 then ((rata_Length.f k1 t110 x112001_1).bind fun t114 => (rata_Date.l0 k1 (wrap64 (x5_1 - t114)) t110 (wrap64 (x112001_1 + 1)) 0)) else (some (t110, x112001_1, x5_1, 0))) = some (r1, r2, r3, r4) := H
    have A12 := Aside0.mk A120
    clear A120
    by_cases c13 : x5_1 > t113
    ·rw [if_pos c13] at H
     have c13b0 : decide (t113 < x5_1) = true := decide_eq_true c13
     clear c13
     replace H := Option.bind_eq_some_iff.mp H
     obtain ⟨t114, A140, H⟩ := H
     have A14d := Option.some.inj (A12.out.symm.trans A140)
     clear A140
     subst A14d
     replace H : (rata_Date.l0 k1 (wrap64 (x5_1 - t113)) t110 (wrap64 (x112001_1 + 1)) 0) = some (r1, r2, r3, r4) := H
     have H' := Aside0.mk H
     clear H
     have hnb15 := NB111_108.out
     have hnc15 := NB108_111.out
     have hcz16_0 : wr.cell? ⟨gb111, 0, none⟩ = some (.int .i64 t110) := (blk_cell BK111.out 0).trans rfl
     have hcz16_1 : wr.cell? ⟨gb111, 1, none⟩ = some (.int .i64 x112001_1) := (blk_cell BK111.out 1).trans rfl
     have hcz16_2 : wr.cell? ⟨gb111, 2, none⟩ = some (.int .i64 0) := (blk_cell BK111.out 2).trans rfl
     have hfz16_0 := blk_frozen BK111.out 0
     have hfz16_1 := blk_frozen BK111.out 1
     have hfz16_2 := blk_frozen BK111.out 2
     go_wp2_with (first | ((with_reducible refine gate_callee (f := 52) rfl ?_); refine goesL_ (some 23) rfl rfl Tryd.func52 (by kernel_rfl) rfl #[.int .i64 t110, .int .i64 x112001_1] rfl (by (try simp only [List.map_toArray, List.map_cons, List.map_nil]); first | done | rfl | (simp only [List.length_drop, List.length_take]; rfl)) ?_; (with_reducible refine (rata_Length.calls k1 t110 x112001_1 t113 _ A12.out).mono ?_); rintro e w' ⟨rfl, ⟨nd, rfl⟩⟩; refine ⟨_, rfl, ?_⟩; (try (rw [drewN_self wr]; generalize hq_ : World.drewN wr _ = wr; have n0_ : Aside0 (wr.heap[gb108]? = some (.cells #[.int .i64 0, .int .i64 0, .int .i64 0] 24 (0, 0))) := ⟨by rw [← hq_]; exact (by (with_reducible repeat (first | refine blk_drewN ?_ _ | refine blk_drew ?_ | refine blk_alloc ?_ _)); exact BK108.out)⟩; have n1_ : Aside0 (wr.heap[gb111]? = some (.cells #[.int .i64 t110, .int .i64 x112001_1, .int .i64 0] 24 (0, 0))) := ⟨by rw [← hq_]; exact (by (with_reducible repeat (first | refine blk_drewN ?_ _ | refine blk_drew ?_ | refine blk_alloc ?_ _)); exact BK111.out)⟩; have n2_ : Aside0 (Below w.heap.size w wr) := ⟨by rw [← hq_]; exact (by repeat (first | (with_reducible first | exact HB.out | apply below_alloc | apply pw_below_drewN | apply below_drew1 | refine below_set ?_ GE108.out | refine below_set ?_ GE111.out) | exact HB.out))⟩; clear BK108 BK111 HB hq_; have BK108 := n0_; have BK111 := n1_; have HB := n2_; clear n0_ n1_ n2_)); (try (have hcz17_0 : wr.cell? ⟨gb108, 0, none⟩ = some (.int .i64 0) := (blk_cell BK108.out 0).trans rfl; have hcz17_1 : wr.cell? ⟨gb108, 1, none⟩ = some (.int .i64 0) := (blk_cell BK108.out 1).trans rfl; have hcz17_2 : wr.cell? ⟨gb108, 2, none⟩ = some (.int .i64 0) := (blk_cell BK108.out 2).trans rfl; have hfz17_0 := blk_frozen BK108.out 0; have hfz17_1 := blk_frozen BK108.out 1; have hfz17_2 := blk_frozen BK108.out 2; have hcz18_0 : wr.cell? ⟨gb111, 0, none⟩ = some (.int .i64 t110) := (blk_cell BK111.out 0).trans rfl; have hcz18_1 : wr.cell? ⟨gb111, 1, none⟩ = some (.int .i64 x112001_1) := (blk_cell BK111.out 1).trans rfl; have hcz18_2 : wr.cell? ⟨gb111, 2, none⟩ = some (.int .i64 0) := (blk_cell BK111.out 2).trans rfl; have hfz18_0 := blk_frozen BK111.out 0; have hfz18_1 := blk_frozen BK111.out 1; have hfz18_2 := blk_frozen BK111.out 2))) | ((with_reducible refine gate_callee (f := 52) rfl ?_); refine goesL_ (some 30) rfl rfl Tryd.func52 (by kernel_rfl) rfl #[.int .i64 t110, .int .i64 x112001_1] rfl (by (try simp only [List.map_toArray, List.map_cons, List.map_nil]); first | done | rfl | (simp only [List.length_drop, List.length_take]; rfl)) ?_; (with_reducible refine (rata_Length.calls k1 t110 x112001_1 t113 _ A12.out).mono ?_); rintro e w' ⟨rfl, ⟨nd, rfl⟩⟩; refine ⟨_, rfl, ?_⟩; (try (rw [drewN_self wr]; generalize hq_ : World.drewN wr _ = wr; have n0_ : Aside0 (wr.heap[gb108]? = some (.cells #[.int .i64 0, .int .i64 0, .int .i64 0] 24 (0, 0))) := ⟨by rw [← hq_]; exact (by (with_reducible repeat (first | refine blk_drewN ?_ _ | refine blk_drew ?_ | refine blk_alloc ?_ _)); exact BK108.out)⟩; have n1_ : Aside0 (wr.heap[gb111]? = some (.cells #[.int .i64 t110, .int .i64 x112001_1, .int .i64 0] 24 (0, 0))) := ⟨by rw [← hq_]; exact (by (with_reducible repeat (first | refine blk_drewN ?_ _ | refine blk_drew ?_ | refine blk_alloc ?_ _)); exact BK111.out)⟩; have n2_ : Aside0 (Below w.heap.size w wr) := ⟨by rw [← hq_]; exact (by repeat (first | (with_reducible first | exact HB.out | apply below_alloc | apply pw_below_drewN | apply below_drew1 | refine below_set ?_ GE108.out | refine below_set ?_ GE111.out) | exact HB.out))⟩; clear BK108 BK111 HB hq_; have BK108 := n0_; have BK111 := n1_; have HB := n2_; clear n0_ n1_ n2_)); (try (have hcz19_0 : wr.cell? ⟨gb108, 0, none⟩ = some (.int .i64 0) := (blk_cell BK108.out 0).trans rfl; have hcz19_1 : wr.cell? ⟨gb108, 1, none⟩ = some (.int .i64 0) := (blk_cell BK108.out 1).trans rfl; have hcz19_2 : wr.cell? ⟨gb108, 2, none⟩ = some (.int .i64 0) := (blk_cell BK108.out 2).trans rfl; have hfz19_0 := blk_frozen BK108.out 0; have hfz19_1 := blk_frozen BK108.out 1; have hfz19_2 := blk_frozen BK108.out 2; have hcz20_0 : wr.cell? ⟨gb111, 0, none⟩ = some (.int .i64 t110) := (blk_cell BK111.out 0).trans rfl; have hcz20_1 : wr.cell? ⟨gb111, 1, none⟩ = some (.int .i64 x112001_1) := (blk_cell BK111.out 1).trans rfl; have hcz20_2 : wr.cell? ⟨gb111, 2, none⟩ = some (.int .i64 0) := (blk_cell BK111.out 2).trans rfl; have hfz20_0 := blk_frozen BK111.out 0; have hfz20_1 := blk_frozen BK111.out 1; have hfz20_2 := blk_frozen BK111.out 2))))
     go_roundg k1
     case measure => have := HK1.out; omega
     case rel => exact ⟨(wrap64 (x5_1 - t113)), (wrap64 (x112001_1 + 1)), (by first | rfl | (simp; done) | (simp [*]; done)), H', ⟨by have := HK1.out; omega⟩, ⟨by (with_reducible repeat (first | refine blk_drewN ?_ _ | refine blk_drew ?_ | refine blk_alloc ?_ _)); refine blk_far ?_ NB108_111.out _; (with_reducible repeat (first | refine blk_drewN ?_ _ | refine blk_drew ?_ | refine blk_alloc ?_ _)); exact BK108.out⟩, ⟨by (with_reducible repeat (first | refine blk_drewN ?_ _ | refine blk_drew ?_ | refine blk_alloc ?_ _)); refine blk_put (cs := #[.int .i64 t110, .int .i64 x112001_1, .int .i64 0]) ?_ 1 _ rfl; (with_reducible repeat (first | refine blk_drewN ?_ _ | refine blk_drew ?_ | refine blk_alloc ?_ _)); exact BK111.out⟩, ⟨by repeat (first | (with_reducible first | exact HB.out | apply below_alloc | apply pw_below_drewN | apply below_drew1 | refine below_set ?_ GE108.out | refine below_set ?_ GE111.out) | exact HB.out)⟩⟩
    ·rw [if_neg c13] at H
     have c13b0 : decide (t113 < x5_1) = false := decide_eq_false c13
     clear c13
     simp only [Option.some.injEq, Prod.mk.injEq] at H
     obtain ⟨rfl, rfl, rfl, rfl⟩ := H
     have hnb21 := NB111_108.out
     have hnc21 := NB108_111.out
     have hcz22_0 : wr.cell? ⟨gb111, 0, none⟩ = some (.int .i64 t110) := (blk_cell BK111.out 0).trans rfl
     have hcz22_1 : wr.cell? ⟨gb111, 1, none⟩ = some (.int .i64 x112001_1) := (blk_cell BK111.out 1).trans rfl
     have hcz22_2 : wr.cell? ⟨gb111, 2, none⟩ = some (.int .i64 0) := (blk_cell BK111.out 2).trans rfl
     have hfz22_0 := blk_frozen BK111.out 0
     have hfz22_1 := blk_frozen BK111.out 1
     have hfz22_2 := blk_frozen BK111.out 2
     go_wp2_with (first | ((with_reducible refine gate_callee (f := 52) rfl ?_); refine goesL_ (some 23) rfl rfl Tryd.func52 (by kernel_rfl) rfl #[.int .i64 t110, .int .i64 x112001_1] rfl (by (try simp only [List.map_toArray, List.map_cons, List.map_nil]); first | done | rfl | (simp only [List.length_drop, List.length_take]; rfl)) ?_; (with_reducible refine (rata_Length.calls k1 t110 x112001_1 t113 _ A12.out).mono ?_); rintro e w' ⟨rfl, ⟨nd, rfl⟩⟩; refine ⟨_, rfl, ?_⟩; (try (rw [drewN_self wr]; generalize hq_ : World.drewN wr _ = wr; have n0_ : Aside0 (wr.heap[gb108]? = some (.cells #[.int .i64 0, .int .i64 0, .int .i64 0] 24 (0, 0))) := ⟨by rw [← hq_]; exact (by (with_reducible repeat (first | refine blk_drewN ?_ _ | refine blk_drew ?_ | refine blk_alloc ?_ _)); exact BK108.out)⟩; have n1_ : Aside0 (wr.heap[gb111]? = some (.cells #[.int .i64 t110, .int .i64 x112001_1, .int .i64 0] 24 (0, 0))) := ⟨by rw [← hq_]; exact (by (with_reducible repeat (first | refine blk_drewN ?_ _ | refine blk_drew ?_ | refine blk_alloc ?_ _)); exact BK111.out)⟩; have n2_ : Aside0 (Below w.heap.size w wr) := ⟨by rw [← hq_]; exact (by repeat (first | (with_reducible first | exact HB.out | apply below_alloc | apply pw_below_drewN | apply below_drew1 | refine below_set ?_ GE108.out | refine below_set ?_ GE111.out) | exact HB.out))⟩; clear BK108 BK111 HB hq_; have BK108 := n0_; have BK111 := n1_; have HB := n2_; clear n0_ n1_ n2_)); (try (have hcz23_0 : wr.cell? ⟨gb108, 0, none⟩ = some (.int .i64 0) := (blk_cell BK108.out 0).trans rfl; have hcz23_1 : wr.cell? ⟨gb108, 1, none⟩ = some (.int .i64 0) := (blk_cell BK108.out 1).trans rfl; have hcz23_2 : wr.cell? ⟨gb108, 2, none⟩ = some (.int .i64 0) := (blk_cell BK108.out 2).trans rfl; have hfz23_0 := blk_frozen BK108.out 0; have hfz23_1 := blk_frozen BK108.out 1; have hfz23_2 := blk_frozen BK108.out 2; have hcz24_0 : wr.cell? ⟨gb111, 0, none⟩ = some (.int .i64 t110) := (blk_cell BK111.out 0).trans rfl; have hcz24_1 : wr.cell? ⟨gb111, 1, none⟩ = some (.int .i64 x112001_1) := (blk_cell BK111.out 1).trans rfl; have hcz24_2 : wr.cell? ⟨gb111, 2, none⟩ = some (.int .i64 0) := (blk_cell BK111.out 2).trans rfl; have hfz24_0 := blk_frozen BK111.out 0; have hfz24_1 := blk_frozen BK111.out 1; have hfz24_2 := blk_frozen BK111.out 2)); have hcz25_0 : wr.cell? ⟨gb108, 0, none⟩ = some (.int .i64 0) := (blk_cell BK108.out 0).trans rfl; have hcz25_1 : wr.cell? ⟨gb108, 1, none⟩ = some (.int .i64 0) := (blk_cell BK108.out 1).trans rfl; have hcz25_2 : wr.cell? ⟨gb108, 2, none⟩ = some (.int .i64 0) := (blk_cell BK108.out 2).trans rfl; have hfz25_0 := blk_frozen BK108.out 0; have hfz25_1 := blk_frozen BK108.out 1; have hfz25_2 := blk_frozen BK108.out 2))
     refine bodyPost_ret (results_ct rfl _ _ gb108 24 #[.int .i64 t110, .int .i64 x112001_1, .int .i64 x5_1] (0, 0) _ rfl (by (with_reducible repeat (first | refine blk_drewN ?_ _ | refine blk_drew ?_ | refine blk_alloc ?_ _)); refine blk_put (cs := #[.int .i64 t110, .int .i64 x112001_1, .int .i64 0]) ?_ 2 _ rfl; (with_reducible repeat (first | refine blk_drewN ?_ _ | refine blk_drew ?_ | refine blk_alloc ?_ _)); refine blk_put (cs := #[.int .i64 t110, .int .i64 0, .int .i64 0]) ?_ 1 _ rfl; (with_reducible repeat (first | refine blk_drewN ?_ _ | refine blk_drew ?_ | refine blk_alloc ?_ _)); refine blk_put (cs := #[.int .i64 0, .int .i64 0, .int .i64 0]) ?_ 0 _ rfl; (with_reducible repeat (first | refine blk_drewN ?_ _ | refine blk_drew ?_ | refine blk_alloc ?_ _)); refine blk_far ?_ NB108_111.out _; (with_reducible repeat (first | refine blk_drewN ?_ _ | refine blk_drew ?_ | refine blk_alloc ?_ _)); exact BK108.out) Tryd.underlying24 rfl (by kernel_rfl)) rfl ?_
     exact ⟨by first | rfl | (simp [errW_none, errW_some] <;> rfl) | (simp [*, errW_none, errW_some] <;> rfl), by repeat (first | (with_reducible first | exact HB.out | apply below_alloc | apply pw_below_drewN | apply below_drew1 | refine below_set ?_ GE108.out | refine below_set ?_ GE111.out) | exact HB.out)⟩
 ·replace c3 := Bool.eq_false_iff.mpr c3
  subst c3
  have H1 : (some (0, 0, 0, 2)) = some (r1, r2, r3, r4) := by rw [if_neg (show ¬ (false = true) by decide)] at H; exact H
  clear H
  have H := H1
  clear H1
  simp only [Option.some.injEq, Prod.mk.injEq] at H
  obtain ⟨rfl, rfl, rfl, rfl⟩ := H
  go_enter Tryd.func18, Tryd.ntmps18
  go_wp2_with (first | ((with_reducible refine gate_dst (N := 2) rfl ?_); refine box_event ?hg (N := 2) ?hd (cs := #[.int .i64 0, .int .i64 0, .int .i64 0]) (t := 24) ?hr ?_; (case hd => rfl); (case hg => rfl); (case hr => first | (go_simp; done) | (go_simp; rfl)); intro gb108 hg w26 hbox hb; have n0_ := Aside0.mk (below_step (by repeat (first | (with_reducible first | exact HB.out | apply below_alloc | apply pw_below_drewN | apply below_drew1) | exact HB.out)) hb); have n1_ := Aside0.mk (hbox); have n2_ := Aside0.mk ((by rw [hg]; exact (below_size (by repeat (first | (with_reducible first | exact HB.out | apply below_alloc | apply pw_below_drewN | apply below_drew1) | exact HB.out))) : w.heap.size ≤ gb108)); have n3_ := Aside0.mk ((by rw [hg]; exact (below_size (by repeat (first | (with_reducible first | exact HB.out | apply below_alloc | apply pw_below_drewN | apply below_drew1) | exact HB.out))) : w.heap.size ≤ gb108)); clear HB; have HB := n0_; have BK108 := n1_; have GW108 := n2_; have GE108 := n3_; clear n0_ n1_ n2_ n3_; clear hb hbox hg) | ((with_reducible refine gate_callee (f := 49) rfl ?_); refine goesL_ (some 7) rfl rfl Tryd.func49 (by kernel_rfl) rfl #[.int .i64 a0] rfl (by (try simp only [List.map_toArray, List.map_cons, List.map_nil]); first | done | rfl | (simp only [List.length_drop, List.length_take]; rfl)) ?_; (with_reducible refine (rata_Of.calls a0 false _ A2.out).mono ?_); rintro e w' ⟨rfl, ⟨nd, rfl⟩⟩; refine ⟨_, rfl, ?_⟩; (try (rw [drewN_self w26]; generalize hq_ : World.drewN w26 _ = w26; have n0_ : Aside0 (w26.heap[gb108]? = some (.cells #[.int .i64 0, .int .i64 0, .int .i64 0] 24 (0, 0))) := ⟨by rw [← hq_]; exact (by (with_reducible repeat (first | refine blk_drewN ?_ _ | refine blk_drew ?_ | refine blk_alloc ?_ _)); exact BK108.out)⟩; have n1_ : Aside0 (Below w.heap.size w w26) := ⟨by rw [← hq_]; exact (by repeat (first | (with_reducible first | exact HB.out | apply below_alloc | apply pw_below_drewN | apply below_drew1 | refine below_set ?_ GE108.out) | exact HB.out))⟩; clear BK108 HB hq_; have BK108 := n0_; have HB := n1_; clear n0_ n1_)); (try (have hcz27_0 : w26.cell? ⟨gb108, 0, none⟩ = some (.int .i64 0) := (blk_cell BK108.out 0).trans rfl; have hcz27_1 : w26.cell? ⟨gb108, 1, none⟩ = some (.int .i64 0) := (blk_cell BK108.out 1).trans rfl; have hcz27_2 : w26.cell? ⟨gb108, 2, none⟩ = some (.int .i64 0) := (blk_cell BK108.out 2).trans rfl; have hfz27_0 := blk_frozen BK108.out 0; have hfz27_1 := blk_frozen BK108.out 1; have hfz27_2 := blk_frozen BK108.out 2)); have hcz28_0 : w26.cell? ⟨gb108, 0, none⟩ = some (.int .i64 0) := (blk_cell BK108.out 0).trans rfl; have hcz28_1 : w26.cell? ⟨gb108, 1, none⟩ = some (.int .i64 0) := (blk_cell BK108.out 1).trans rfl; have hcz28_2 : w26.cell? ⟨gb108, 2, none⟩ = some (.int .i64 0) := (blk_cell BK108.out 2).trans rfl; have hfz28_0 := blk_frozen BK108.out 0; have hfz28_1 := blk_frozen BK108.out 1; have hfz28_2 := blk_frozen BK108.out 2))
  refine bodyPost_ret (results_ct rfl _ _ gb108 24 #[.int .i64 0, .int .i64 0, .int .i64 0] (0, 0) _ rfl (by (with_reducible repeat (first | refine blk_drewN ?_ _ | refine blk_drew ?_ | refine blk_alloc ?_ _)); refine blk_put (cs := #[.int .i64 0, .int .i64 0, .int .i64 0]) ?_ 2 _ rfl; (with_reducible repeat (first | refine blk_drewN ?_ _ | refine blk_drew ?_ | refine blk_alloc ?_ _)); refine blk_put (cs := #[.int .i64 0, .int .i64 0, .int .i64 0]) ?_ 1 _ rfl; (with_reducible repeat (first | refine blk_drewN ?_ _ | refine blk_drew ?_ | refine blk_alloc ?_ _)); refine blk_put (cs := #[.int .i64 0, .int .i64 0, .int .i64 0]) ?_ 0 _ rfl; (with_reducible repeat (first | refine blk_drewN ?_ _ | refine blk_drew ?_ | refine blk_alloc ?_ _)); exact BK108.out) Tryd.underlying24 rfl (by kernel_rfl)) rfl ?_
  exact ⟨by first | rfl | (simp [errW_none, errW_some] <;> rfl) | (simp [*, errW_none, errW_some] <;> rfl), by repeat (first | (with_reducible first | exact HB.out | apply below_alloc | apply pw_below_drewN | apply below_drew1 | refine below_set ?_ GE108.out) | exact HB.out)⟩

end Go.Proofs.YtgbbgcepcnklkaaDoor.Q
/- What the program's package rata reckons of dates, in plain numbers. -/
namespace Go.Proofs.YtgbbgcepcnklkaaDoor.FunC
open Go.RowKit Go.Proofs.YtgbbgcepcnklkaaDoorW.PrintWords Go.Proofs.YtgbbgcepcnklkaaDoorW.PrintLast Go.Proofs.YtgbbgcepcnklkaaDoor.Q Go.Proofs.YtgbbgcepcnklkaaDoor.Cal Go.Proofs.YtgbbgcepcnklkaaDoor.FunA
theorem rLeap (y : Int) : rata_Leap.f y = some (decide (lp y = 1)) := by
 unfold rata_Leap.f lp
 by_cases a : y % 4 = 0
 ·rw [if_pos ((rem0 y 4).2 a), if_pos a]
  by_cases b : y % 100 = 0
  ·rw [if_pos ((rem0 y 100).2 b), if_pos b]
   by_cases c : y % 400 = 0
   ·rw [if_pos c, (rem0 y 400).2 c]; rfl
   ·rw [if_neg c]
    have : ¬ Int.tmod y 400 = 0 := fun h => c ((rem0 y 400).1 h)
    simp [this]
  ·rw [if_neg (fun h => b ((rem0 y 100).1 h)), if_neg b]; simp
 ·rw [if_neg (fun h => a ((rem0 y 4).1 h)), if_neg a]; simp
theorem rLength (k : Nat) (hk : 2 ≤ k) (y m : Int) : rata_Length.f k y m = some (dim (lp y) m) := by
 obtain ⟨k, rfl⟩ : ∃ j, k = j + 2 := ⟨k - 2, by omega⟩
 have hl := lp_01 y
 by_cases h : 1 ≤ m ∧ m ≤ 12
 ·rcases months h.1 h.2 with e | e | e | e | e | e | e | e | e | e | e | e <;> subst e <;> simp [rata_Length.f, rata_Length.j0, rata_Length.j1, dim, rLeap]
  rcases hl with e | e <;> simp [e]
 ·rw [dim_none _ _ (by omega)]
  unfold rata_Length.f
  rw [if_neg (by omega), if_neg (by omega), if_neg (by omega), if_neg (by omega), if_neg (by omega), if_neg (by omega)]
  have e12 : (m == 12) = false := beq_eq_false_iff_ne.2 (by omega)
  have e11 : (m == 11) = false := beq_eq_false_iff_ne.2 (by omega)
  rw [e12]
  simp only [rata_Length.j0]
  rw [if_neg (by simp), if_neg (by omega), if_neg (by omega), if_neg (by omega), e11]
  simp only [rata_Length.j1]
  rw [if_neg (by simp), if_neg (by omega)]
/-- A right Gregorian date. -/
def Right (y m d : Int) : Prop := 1 ≤ y ∧ y ≤ 9999 ∧ 1 ≤ d ∧ d ≤ dim (lp y) m
theorem rYear (day : Int) (h : -10000000 ≤ day) (h' : day ≤ 10000000) : rata_Year.f day = some (yr day) := by
 unfold rata_Year.f
 rw [w64 (x := day - 1) (by omega) (by omega), rFloor _ 146097 (by omega) ⟨by omega, by omega⟩, rMod _ 146097 (by omega) (by omega) ⟨by omega, by omega⟩]
 simp only [Option.bind_some]
 have hn : 0 ≤ (day - 1) % 146097 ∧ (day - 1) % 146097 < 146097 := by omega
 have hq : -100 ≤ (day - 1) / 146097 ∧ (day - 1) / 146097 ≤ 100 := by omega
 unfold yr
 generalize (day - 1) % 146097 = n at *
 generalize (day - 1) / 146097 = q at *
 have e1 : mn (wrap64 (Int.tdiv n 36524)) 3 = yrC n := by
  rw [Int.tdiv_eq_ediv_of_nonneg (by omega), w64 (by omega) (by omega)]; unfold mn yrC; split <;> omega
 have c0 : 0 ≤ yrC n ∧ yrC n ≤ 3 ∧ 36524 * yrC n ≤ n := by unfold yrC; omega
 rw [e1, w64 (x := 36524 * yrC n) (by omega) (by omega), w64 (x := n - 36524 * yrC n) (by omega) (by omega)]
 have e2 : n - 36524 * yrC n = yrR n := rfl
 rw [e2]
 have r0 : 0 ≤ yrR n ∧ yrR n ≤ 146097 := by unfold yrR; omega
 generalize yrR n = r at *
 generalize yrC n = c at *
 rw [Int.tdiv_eq_ediv_of_nonneg (a := r) (by omega), Int.tmod_eq_emod_of_nonneg (a := r) (by omega), Int.tdiv_eq_ediv_of_nonneg (a := r % 1461) (by omega)]
 have e3 : mn (wrap64 (r % 1461 / 365)) 3 = min (r % 1461 / 365) 3 := by
  rw [w64 (by omega) (by omega)]; unfold mn; split <;> omega
 rw [e3, w64 (x := r / 1461) (by omega) (by omega)]
 congr 1
 have m0 : 0 ≤ min (r % 1461 / 365) 3 ∧ min (r % 1461 / 365) 3 ≤ 3 := by omega
 generalize min (r % 1461 / 365) 3 = z at *
 have f0 : 0 ≤ r / 1461 ∧ r / 1461 ≤ 100 := by omega
 generalize r / 1461 = f at *
 clear e1 e2 e3
 unfold wrap64; omega
theorem yr_In {day : Int} (h : In day) : 1 ≤ yr day ∧ yr day ≤ 9999 := by
 obtain ⟨h1, h2⟩ := yr_ok day
 obtain ⟨h3, h4⟩ := h
 constructor
 ·by_cases c : yr day ≤ 0
  ·have := ah_le (show yr day + 1 ≤ 1 by omega)
   have e : ah 1 = 0 := by decide
   omega
  ·omega
 ·by_cases c : 10000 ≤ yr day
  ·have := ah_le c
   have e : ah 10000 = 3652059 := by decide
   omega
  ·omega
theorem rDate0 (y : Int) : ∀ (j k : Nat) (n m : Int), 1 ≤ m → m ≤ 12 → 12 - m = j → j + 3 < k → 1 ≤ n → n + cum (lp y) m ≤ 365 + lp y →
  ∃ m' d, rata_Date.l0 k n y m 0 = some (y, m', d, 0) ∧ m ≤ m' ∧ m' ≤ 12 ∧ 1 ≤ d ∧ d ≤ dim (lp y) m' ∧ n + cum (lp y) m = cum (lp y) m' + d := by
 intro j
 induction j with
 | zero =>
  intro k n m h1 h2 h3 h4 h5 h6
  obtain ⟨k, rfl⟩ : ∃ j, k = j + 1 := ⟨k - 1, by omega⟩
  have : m = 12 := by omega
  subst this
  have e := cum_succ (lp y) 12 (by omega) (by omega)
  have e' := cum_end (lp y)
  have e2 : (12 : Int) + 1 = 13 := rfl
  rw [e2, e'] at e
  refine ⟨12, n, ?_, by omega, by omega, by omega, by omega, by omega⟩
  simp only [rata_Date.l0]
  rw [rLength k (by omega), Option.bind_some, if_neg (by omega)]
 | succ j ih =>
  intro k n m h1 h2 h3 h4 h5 h6
  obtain ⟨k, rfl⟩ : ∃ j, k = j + 1 := ⟨k - 1, by omega⟩
  have e := cum_succ (lp y) m h1 h2
  have hd := dim_lo (lp y) m (lp_01 y) h1 h2
  have hl := lp_01 y
  have hc := cum_bd (lp_01 y) h1 (show m ≤ 13 by omega)
  simp only [rata_Date.l0]
  rw [rLength k (by omega), Option.bind_some]
  by_cases c : n > dim (lp y) m
  ·rw [if_pos c, Option.bind_some, w64 (by omega) (by omega), w64 (by omega) (by omega)]
   obtain ⟨m', d, h7, h8, h9, h10, h11, h12⟩ := ih k (n - dim (lp y) m) (m + 1) (by omega) (by omega) (by omega) (by omega) (by omega) (by omega)
   exact ⟨m', d, h7, by omega, h9, h10, h11, by omega⟩
  ·rw [if_neg c]
   exact ⟨m, n, rfl, by omega, h2, h5, by omega, by omega⟩
theorem rDate_yes (k : Nat) (hk : 20 ≤ k) (day : Int) (h : In day) : ∃ m d, rata_Date.f k day = some (yr day, m, d, 0) ∧ Is ah lp (yr day) m d day := by
 have hy := yr_In h
 obtain ⟨h1, h2⟩ := yr_ok day
 have hs := ah_succ (yr day)
 have hb := ah_bd (yr day) (by omega) (by omega)
 obtain ⟨m, d, h3, h4, h5, h6, h7, h8⟩ := rDate0 (yr day) 11 k (day - ah (yr day)) 1 (by omega) (by omega) (by omega) (by omega) (by omega) (by rw [cum_one]; omega)
 rw [cum_one] at h8
 refine ⟨m, d, ?_, ⟨h4, h5, h6, h7, by omega⟩⟩
 unfold rata_Date.f
 rw [rOf_yes h, Option.bind_some, if_pos rfl, rYear day (by have := h.1; omega) (by have := h.2; omega), Option.bind_some, rAhead _ (by omega) (by omega), Option.bind_some, w64 (by have := h.1; omega) (by have := h.2; omega), h3]
theorem rDate_no (k : Nat) (day : Int) (h : ¬ In day) : rata_Date.f k day = some (0, 0, 0, 2) := by
 unfold rata_Date.f
 rw [rOf_no h, Option.bind_some, if_neg (by simp)]
theorem Is.right {y m d day : Int} (h : Is ah lp y m d day) (hy : 1 ≤ y) (hy' : y ≤ 9999) : Right y m d := ⟨hy, hy', h.d1, h.d2⟩
end Go.Proofs.YtgbbgcepcnklkaaDoor.FunC
-- written by a program of this session (wip/own_print.sh)
namespace Go.Proofs.YtgbbgcepcnklkaaDoor.Q
open Go.RowKit Go.Proofs.YtgbbgcepcnklkaaDoorW.PrintWords Go.Proofs.YtgbbgcepcnklkaaDoorW.PrintLast Go.Proofs.YtgbbgcepcnklkaaDoorW.PrintMore
attribute [local go_sem] max2_int min2_int max_two min_two max_three min_three max_four min_four   -- for this text's walks alone
set_option linter.unusedVariables false
set_option linter.unusedSimpArgs false
/-! ### julian_ahead: function 54 -/
def julian_ahead.f (a0 : Int) : Option (Int) := (rata_Floor.f (wrap64 (a0 - 1)) 4).bind fun t115 => (some (wrap64 ((wrap64 (365 * (wrap64 (a0 - 1)))) + t115)))
set_option maxHeartbeats 8000000 in
set_option maxRecDepth 100000 in
theorem julian_ahead.calls (a0 : Int) (r : Int) (w : World) (h : julian_ahead.f a0 = some r) :
  Calls Tryd.prog 54 #[.int .i64 a0] w fun e w' => e = .returned (.int .i64 r) ∧ Drawn0 w w' := by
 have H : ((rata_Floor.f (wrap64 (a0 - 1)) 4).bind fun t115 => (some (wrap64 ((wrap64 (365 * (wrap64 (a0 - 1)))) + t115)))) = some r := h
 clear h
 replace H := Option.bind_eq_some_iff.mp H
 obtain ⟨t115, A20, H⟩ := H
 replace H : (some (wrap64 ((wrap64 (365 * (wrap64 (a0 - 1)))) + t115))) = some r := H
 have A2 := Aside0.mk A20
 clear A20
 obtain rfl := Option.some.inj H
 go_enter Tryd.func54, Tryd.ntmps54
 go_wp2_with (first | ((with_reducible refine gate_callee (f := 53) rfl ?_); refine goesL_ (some 8) rfl rfl Tryd.func53 (by kernel_rfl) rfl #[.int .i64 (wrap64 (a0 - 1)), .int .i64 4] rfl (by (try simp only [List.map_toArray, List.map_cons, List.map_nil]); first | done | rfl | (simp only [List.length_drop, List.length_take]; rfl)) ?_; (with_reducible refine (rata_Floor.calls (wrap64 (a0 - 1)) 4 t115 _ A2.out).mono ?_); rintro e w' ⟨rfl, ⟨nd, rfl⟩⟩; refine ⟨_, rfl, ?_⟩))
 go_ret
 exact ⟨by first | rfl | (simp; done) | (simp [*]; done) | (simp [bne_nil_]; done), by repeat (first | exact Drawn0.refl _ | apply Drawn0.step)⟩

/-! ### julian_length: function 55 -/
def julian_length.f (k : Nat) (a0 : Int) (a1 : Int) : Option (Int) := if a1 = 2 then ((rata_Mod.f a0 4).bind fun t116 => (if t116 = 0 then (some 29) else (some 28))) else ((rata_Length.f k 1 a1).bind fun t117 => (some t117))
set_option maxHeartbeats 8000000 in
set_option maxRecDepth 100000 in
theorem julian_length.calls (k : Nat) (a0 : Int) (a1 : Int) (r : Int) (w : World) (h : julian_length.f k a0 a1 = some r) :
  Calls Tryd.prog 55 #[.int .i64 a0, .int .i64 a1] w fun e w' => e = .returned (.int .i64 r) ∧ Drawn0 w w' := by
 have H : (if a1 = 2 then ((rata_Mod.f a0 4).bind fun t116 => (if t116 = 0 then (some 29) else (some 28))) else ((rata_Length.f k 1 a1).bind fun t117 => (some t117))) = some r := h
 clear h
 by_cases c3 : a1 = 2
 ·rw [if_pos c3] at H
  have c3b0 : (a1 == 2) = true := beq_iff_eq.mpr c3
  have c3b1 : (a1 != 2) = false := bne_eq_false_iff_eq.mpr c3
  clear c3
  replace H := Option.bind_eq_some_iff.mp H
  obtain ⟨t116, A40, H⟩ := H
  replace H : (if t116 = 0 then (some 29) else (some 28)) = some r := H
  have A4 := Aside0.mk A40
  clear A40
  by_cases c5 : t116 = 0
  ·rw [if_pos c5] at H
   have c5b0 : (t116 == 0) = true := beq_iff_eq.mpr c5
   have c5b1 : (t116 != 0) = false := bne_eq_false_iff_eq.mpr c5
   clear c5
   obtain rfl := Option.some.inj H
   go_enter Tryd.func55, Tryd.ntmps55
   go_wp2_with (first | ((with_reducible refine gate_callee (f := 57) rfl ?_); refine goesL_ (some 8) rfl rfl Tryd.func57 (by kernel_rfl) rfl #[.int .i64 a0, .int .i64 4] rfl (by (try simp only [List.map_toArray, List.map_cons, List.map_nil]); first | done | rfl | (simp only [List.length_drop, List.length_take]; rfl)) ?_; (with_reducible refine (rata_Mod.calls a0 4 t116 _ A4.out).mono ?_); rintro e w' ⟨rfl, ⟨nd, rfl⟩⟩; refine ⟨_, rfl, ?_⟩))
   go_ret
   exact ⟨by first | rfl | (simp; done) | (simp [*]; done) | (simp [bne_nil_]; done), by repeat (first | exact Drawn0.refl _ | apply Drawn0.step)⟩
  ·rw [if_neg c5] at H
   have c5b0 : (t116 == 0) = false := beq_eq_false_iff_ne.mpr c5
   have c5b1 : (t116 != 0) = true := bne_iff_ne.mpr c5
   obtain rfl := Option.some.inj H
   go_enter Tryd.func55, Tryd.ntmps55
   go_wp2_with (first | ((with_reducible refine gate_callee (f := 57) rfl ?_); refine goesL_ (some 8) rfl rfl Tryd.func57 (by kernel_rfl) rfl #[.int .i64 a0, .int .i64 4] rfl (by (try simp only [List.map_toArray, List.map_cons, List.map_nil]); first | done | rfl | (simp only [List.length_drop, List.length_take]; rfl)) ?_; (with_reducible refine (rata_Mod.calls a0 4 t116 _ A4.out).mono ?_); rintro e w' ⟨rfl, ⟨nd, rfl⟩⟩; refine ⟨_, rfl, ?_⟩))
   go_ret
   exact ⟨by first | rfl | (simp; done) | (simp [*]; done) | (simp [bne_nil_]; done), by repeat (first | exact Drawn0.refl _ | apply Drawn0.step)⟩
 ·rw [if_neg c3] at H
  have c3b0 : (a1 == 2) = false := beq_eq_false_iff_ne.mpr c3
  have c3b1 : (a1 != 2) = true := bne_iff_ne.mpr c3
  replace H := Option.bind_eq_some_iff.mp H
  obtain ⟨t117, A60, H⟩ := H
  replace H : (some t117) = some r := H
  have A6 := Aside0.mk A60
  clear A60
  obtain rfl := Option.some.inj H
  go_enter Tryd.func55, Tryd.ntmps55
  go_wp2_with (first | ((with_reducible refine gate_callee (f := 52) rfl ?_); refine goesL_ (some 11) rfl rfl Tryd.func52 (by kernel_rfl) rfl #[.int .i64 1, .int .i64 a1] rfl (by (try simp only [List.map_toArray, List.map_cons, List.map_nil]); first | done | rfl | (simp only [List.length_drop, List.length_take]; rfl)) ?_; (with_reducible refine (rata_Length.calls k 1 a1 t117 _ A6.out).mono ?_); rintro e w' ⟨rfl, ⟨nd, rfl⟩⟩; refine ⟨_, rfl, ?_⟩))
  go_ret
  exact ⟨by first | rfl | (simp; done) | (simp [*]; done) | (simp [bne_nil_]; done), by repeat (first | exact Drawn0.refl _ | apply Drawn0.step)⟩

/-! ### julian_days: function 83 -/
/-! ### julian_FromJulian: function 41 -/
end Go.Proofs.YtgbbgcepcnklkaaDoor.Q
