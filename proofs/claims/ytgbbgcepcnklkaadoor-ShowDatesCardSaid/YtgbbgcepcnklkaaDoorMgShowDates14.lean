/- Texts of this claim, merged: FunI, Qcop, FunK, FunZ, Qshowis, ShelfIt, ShowAw. -/
import Derived.Test.YtgbbgcepcnklkaaDoorMgShowDates4
import Derived.Test.YtgbbgcepcnklkaaDoorMgShowDates13
import Derived.Test.YtgbbgcepcnklkaaDoorMgShowDates1
import Derived.Test.YtgbbgcepcnklkaaDoorMgShowDates5
import Derived.Shelf.Strconv.Itoa0
import Derived.Shelf.Strconv.Itoa1
import Derived.Shelf.LaysM
import Derived.Shelf.Strconv.Itoa2
import Derived.Shelf.Strconv.Itoa3
import Derived.Test.YtgbbgcepcnklkaaDoorProg
import Derived.Test.YtgbbgcepcnklkaaDoorWTab
import Derived.Lib.Hide
import Derived.Lib.AppendIntMem
/- What the program's package iso reckons, in plain numbers. -/
namespace Go.Proofs.YtgbbgcepcnklkaaDoor.FunI
open Go.RowKit Go.Proofs.YtgbbgcepcnklkaaDoorW.PrintWords Go.Proofs.YtgbbgcepcnklkaaDoorW.PrintLast Go.Proofs.YtgbbgcepcnklkaaDoor.Q Go.Proofs.YtgbbgcepcnklkaaDoor.Cal Go.Proofs.YtgbbgcepcnklkaaDoor.FunA Go.Proofs.YtgbbgcepcnklkaaDoor.FunC
theorem wk_rng (y s : Int) (h : -40000 ≤ y) (h' : y ≤ 40000) : -15000002 ≤ wk y s ∧ wk y s ≤ 15000004 := by
 have := ah_bd y h h'; have := wk_bd y s; omega
theorem iFirst (y s : Int) (h : -40000 ≤ y) (h' : y ≤ 40000) (hs : 0 ≤ s) (hs' : s ≤ 6) : iso_first.f y s = some (wk y s) := by
 have hb := ah_bd y h h'
 unfold iso_first.f
 rw [rBegins y h h', Option.bind_some, w64 (x := ah y + 1 + 3) (by omega) (by omega), rWeekday _ ⟨by omega, by omega⟩, Option.bind_some, w64 (x := (ah y + 1 + 3) % 7 - s) (by omega) (by omega), rMod _ 7 (by omega) (by omega) ⟨by omega, by omega⟩, Option.bind_some, w64 (by omega) (by omega)]
 congr 1
 unfold wk; omega
def Wday (s : Int) : Prop := 0 ≤ s ∧ s ≤ 6
theorem iRight_yes (s : Int) (h : Wday s) : iso_right.f s = some true := by
 unfold iso_right.f; rw [if_pos h.1, decide_eq_true (by have := h.2; omega)]
theorem iWeek0 (day s : Int) (hd : In day) (hs : Wday s) : ∀ (j k : Nat) (y : Int), y - (yr day - 1) = j → j + 1 ≤ k → y ≤ yr day + 1 → day < wk (y + 1) s →
  ∃ z, yr day - 1 ≤ z ∧ z ≤ yr day + 1 ∧ wk z s ≤ day ∧ day < wk (z + 1) s ∧ iso_Week.l0 k day s y = some (z, (day - wk z s) / 7 + 1, 0) := by
 have hy := yr_In hd
 have ho := yr_ok day
 intro j
 induction j with
 | zero =>
  intro k y h1 h2 h3 h4
  obtain ⟨k, rfl⟩ : ∃ j, k = j + 1 := ⟨k - 1, by omega⟩
  have e : y = yr day - 1 := by omega
  subst e
  have hw := wk_bd (yr day - 1) s
  have ha := ah_le (show yr day - 1 ≤ yr day by omega)
  have hr := wk_rng (yr day - 1) s (by omega) (by omega)
  have hm := hd.1; have hm' := hd.2
  refine ⟨yr day - 1, by omega, by omega, by omega, h4, ?_⟩
  simp only [iso_Week.l0]
  rw [iFirst _ s (by omega) (by omega) hs.1 hs.2, Option.bind_some, if_neg (by omega), Option.bind_some, w64 (x := day - wk (yr day - 1) s) (by omega) (by omega), Int.tdiv_eq_ediv_of_nonneg (by omega), w64 (x := (day - wk (yr day - 1) s) / 7) (by omega) (by omega), w64 (by omega) (by omega)]
 | succ j ih =>
  intro k y h1 h2 h3 h4
  obtain ⟨k, rfl⟩ : ∃ j, k = j + 1 := ⟨k - 1, by omega⟩
  have hr := wk_rng y s (by omega) (by omega)
  have hm := hd.1; have hm' := hd.2
  simp only [iso_Week.l0]
  rw [iFirst _ s (by omega) (by omega) hs.1 hs.2, Option.bind_some]
  by_cases c : day < wk y s
  ·rw [if_pos c, w64 (by omega) (by omega)]
   exact ih k (y - 1) (by omega) (by omega) (by omega) (by rw [show y - 1 + 1 = y by omega]; exact c)
  ·refine ⟨y, by omega, h3, by omega, h4, ?_⟩
   rw [if_neg c, Option.bind_some, w64 (x := day - wk y s) (by omega) (by omega), Int.tdiv_eq_ediv_of_nonneg (by omega), w64 (x := (day - wk y s) / 7) (by omega) (by omega), w64 (by omega) (by omega)]
theorem iWeek_yes (k : Nat) (hk : 4 ≤ k) (day s : Int) (hd : In day) (hs : Wday s) : ∃ z, 0 ≤ z ∧ z ≤ 10000 ∧ wk z s ≤ day ∧ day < wk (z + 1) s ∧ iso_Week.f k day s = some (z, (day - wk z s) / 7 + 1, 0) := by
 have hy := yr_In hd
 have ho := yr_ok day
 have hw := wk_bd (yr day + 1 + 1) s
 have ha := ah_le (show yr day + 1 ≤ yr day + 1 + 1 by omega)
 obtain ⟨z, h1, h2, h3, h4, h5⟩ := iWeek0 day s hd hs 2 k (yr day + 1) (by omega) (by omega) (by omega) (by omega)
 refine ⟨z, by omega, by omega, h3, h4, ?_⟩
 unfold iso_Week.f
 rw [rOf_yes hd, Option.bind_some, if_pos rfl, iRight_yes s hs, Option.bind_some, if_pos rfl, rYear day (by have := hd.1; omega) (by have := hd.2; omega), Option.bind_some, w64 (by omega) (by omega), h5]
theorem iWeek_range (k : Nat) (day s : Int) (hd : ¬ In day) : iso_Week.f k day s = some (0, 0, 2) := by
 unfold iso_Week.f
 rw [rOf_no hd, Option.bind_some, if_neg (by simp)]
theorem wk_le {x y : Int} (s : Int) (h : x ≤ y) : wk x s + 359 * (y - x) ≤ wk y s := by
 by_cases e : x = y
 ·subst e; omega
 ·have := ah_le h; have := wk_bd x s; have := wk_bd y s; omega
theorem wk_one {x y s day : Int} (hx : wk x s ≤ day) (hx' : day < wk (x + 1) s) (hy : wk y s ≤ day) (hy' : day < wk (y + 1) s) : x = y := by
 by_cases a : x < y
 ·have := wk_le s (show x + 1 ≤ y by omega); omega
 ·by_cases b : y < x
  ·have := wk_le s (show y + 1 ≤ x by omega); omega
  ·omega
/-- The ISO date of a day. -/
theorem iISO_yes (k : Nat) (hk : 4 ≤ k) (day : Int) (hd : In day) : ∃ z, 0 ≤ z ∧ z ≤ 10000 ∧ wk z 1 ≤ day ∧ day < wk (z + 1) 1 ∧ iso_ISO.f k day = some (z, (day - wk z 1) / 7 + 1, (day - wk z 1) % 7 + 1, 0) := by
 obtain ⟨z, h1, h2, h3, h4, h5⟩ := iWeek_yes k hk day 1 hd ⟨by omega, by omega⟩
 have hw := wk_bd z 1
 have hm := hd.1; have hm' := hd.2
 refine ⟨z, h1, h2, h3, h4, ?_⟩
 unfold iso_ISO.f
 rw [h5]
 simp only [Option.bind_some, if_true]
 rw [rWeekday day ⟨by omega, by omega⟩, Option.bind_some, w64 (x := day % 7 - 1) (by omega) (by omega), rMod _ 7 (by omega) (by omega) ⟨by omega, by omega⟩, Option.bind_some, w64 (by omega) (by omega)]
 have e : (day % 7 - 1) % 7 = (day - wk z 1) % 7 := by omega
 rw [e]
theorem iISO_no (k : Nat) (day : Int) (hd : ¬ In day) : iso_ISO.f k day = some (0, 0, 0, 2) := by
 unfold iso_ISO.f
 rw [iWeek_range k day 1 hd]; simp
end Go.Proofs.YtgbbgcepcnklkaaDoor.FunI
-- written by a program of this session (wip/own_print.sh)
namespace Go.Proofs.YtgbbgcepcnklkaaDoor.Q
open Go.RowKit Go.Proofs.YtgbbgcepcnklkaaDoorW.PrintWords Go.Proofs.YtgbbgcepcnklkaaDoorW.PrintLast Go.Proofs.YtgbbgcepcnklkaaDoorW.PrintMore
attribute [local go_sem] max2_int min2_int max_two min_two max_three min_three max_four min_four   -- for this text's walks alone
set_option linter.unusedVariables false
set_option linter.unusedSimpArgs false
/-! ### julian_copticAhead: function 67 -/
def julian_copticAhead.f (a0 : Int) : Option (Int) := (rata_Floor.f a0 4).bind fun t197 => (some (wrap64 ((wrap64 (103605 + (wrap64 (365 * (wrap64 (a0 - 1)))))) + t197)))
set_option maxHeartbeats 8000000 in
set_option maxRecDepth 100000 in
theorem julian_copticAhead.calls (a0 : Int) (r : Int) (w : World) (h : julian_copticAhead.f a0 = some r) :
  Calls Tryd.prog 67 #[.int .i64 a0] w fun e w' => e = .returned (.int .i64 r) ∧ Drawn0 w w' := by
 have H : ((rata_Floor.f a0 4).bind fun t197 => (some (wrap64 ((wrap64 (103605 + (wrap64 (365 * (wrap64 (a0 - 1)))))) + t197)))) = some r := h
 clear h
 replace H := Option.bind_eq_some_iff.mp H
 obtain ⟨t197, A20, H⟩ := H
 replace H : (some (wrap64 ((wrap64 (103605 + (wrap64 (365 * (wrap64 (a0 - 1)))))) + t197))) = some r := H
 have A2 := Aside0.mk A20
 clear A20
 obtain rfl := Option.some.inj H
 go_enter Tryd.func67, Tryd.ntmps67
 go_wp2_with (first | ((with_reducible refine gate_callee (f := 53) rfl ?_); refine goesL_ (some 8) rfl rfl Tryd.func53 (by kernel_rfl) rfl #[.int .i64 a0, .int .i64 4] rfl (by (try simp only [List.map_toArray, List.map_cons, List.map_nil]); first | done | rfl | (simp only [List.length_drop, List.length_take]; rfl)) ?_; (with_reducible refine (rata_Floor.calls a0 4 t197 _ A2.out).mono ?_); rintro e w' ⟨rfl, ⟨nd, rfl⟩⟩; refine ⟨_, rfl, ?_⟩))
 go_ret
 exact ⟨by first | rfl | (simp; done) | (simp [*]; done) | (simp [bne_nil_]; done), by repeat (first | exact Drawn0.refl _ | apply Drawn0.step)⟩

/-! ### julian_Coptic: function 24 -/
def julian_Coptic.f (a0 : Int) : Option (Int × Int × Int × Int) := (rata_Of.f a0).bind fun t199 => (if t199 = true then ((rata_Floor.f (wrap64 ((wrap64 (4 * (wrap64 (a0 - 103605)))) + 1463)) 1461).bind fun t200 => ((julian_copticAhead.f t200).bind fun t201 => (some (t200, wrap64 ((wrap64 (Int.tdiv (wrap64 (a0 - t201)) 30)) + 1), wrap64 ((Int.tmod (wrap64 (a0 - t201)) 30) + 1), 0)))) else (some (0, 0, 0, 2)))
set_option maxHeartbeats 8000000 in
set_option maxRecDepth 100000 in
theorem julian_Coptic.calls (a0 : Int) (r1 : Int) (r2 : Int) (r3 : Int) (r4 : Int) (w : World) (h : julian_Coptic.f a0 = some (r1, r2, r3, r4)) :
  Calls Tryd.prog 24 #[.int .i64 a0] w fun e w' => e = .returned (.tuple #[.agg #[.int .i64 r1, .int .i64 r2, .int .i64 r3], .int .i64 r4]) ∧ Below w.heap.size w w' := by
 have hu24 := Tryd.underlying24
 have HB := Aside0.mk (Below.refl w.heap.size w)
 have H : ((rata_Of.f a0).bind fun t199 => (if t199 = true then ((rata_Floor.f (wrap64 ((wrap64 (4 * (wrap64 (a0 - 103605)))) + 1463)) 1461).bind fun t200 => ((julian_copticAhead.f t200).bind fun t201 => (some (t200, wrap64 ((wrap64 (Int.tdiv (wrap64 (a0 - t201)) 30)) + 1), wrap64 ((Int.tmod (wrap64 (a0 - t201)) 30) + 1), 0)))) else (some (0, 0, 0, 2)))) = some (r1, r2, r3, r4) := h
 clear h
 replace H := Option.bind_eq_some_iff.mp H
 obtain ⟨t199, A20, H⟩ := H
 replace H : (if t199 = true then ((rata_Floor.f (wrap64 ((wrap64 (4 * (wrap64 (a0 - 103605)))) + 1463)) 1461).bind fun t200 => ((julian_copticAhead.f t200).bind fun t201 => (some (t200, wrap64 ((wrap64 (Int.tdiv (wrap64 (a0 - t201)) 30)) + 1), wrap64 ((Int.tmod (wrap64 (a0 - t201)) 30) + 1), 0)))) else (some (0, 0, 0, 2))) = some (r1, r2, r3, r4) := H
 have A2 := Aside0.mk A20
 clear A20
 by_cases c3 : t199 = true
 ·subst c3
  have H1 : ((rata_Floor.f (wrap64 ((wrap64 (4 * (wrap64 (a0 - 103605)))) + 1463)) 1461).bind fun t200 => ((julian_copticAhead.f t200).bind fun t201 => (some (t200, wrap64 ((wrap64 (Int.tdiv (wrap64 (a0 - t201)) 30)) + 1), wrap64 ((Int.tmod (wrap64 (a0 - t201)) 30) + 1), 0)))) = some (r1, r2, r3, r4) := by rw [if_pos rfl] at H; exact H
  clear H
  have H := H1
  clear H1
  replace H := Option.bind_eq_some_iff.mp H
  obtain ⟨t200, A40, H⟩ := H
  replace H : ((julian_copticAhead.f t200).bind fun t201 => (some (t200, wrap64 ((wrap64 (Int.tdiv (wrap64 (a0 - t201)) 30)) + 1), wrap64 ((Int.tmod (wrap64 (a0 - t201)) 30) + 1), 0))) = some (r1, r2, r3, r4) := H
  have A4 := Aside0.mk A40
  clear A40
  replace H := Option.bind_eq_some_iff.mp H
  obtain ⟨t201, A50, H⟩ := H
  replace H : (some (t200, wrap64 ((wrap64 (Int.tdiv (wrap64 (a0 - t201)) 30)) + 1), wrap64 ((Int.tmod (wrap64 (a0 - t201)) 30) + 1), 0)) = some (r1, r2, r3, r4) := H
  have A5 := Aside0.mk A50
  clear A50
  simp only [Option.some.injEq, Prod.mk.injEq] at H
  obtain ⟨rfl, rfl, rfl, rfl⟩ := H
  go_enter Tryd.func24, Tryd.ntmps24
  go_wp2_with (first | ((with_reducible refine gate_dst (N := 2) rfl ?_); refine box_event ?hg (N := 2) ?hd (cs := #[.int .i64 0, .int .i64 0, .int .i64 0]) (t := 24) ?hr ?_; (case hd => rfl); (case hg => rfl); (case hr => first | (go_simp; done) | (go_simp; rfl)); intro gb198 hg w6 hbox hb; have n0_ := Aside0.mk (below_step (by repeat (first | (with_reducible first | exact HB.out | apply below_alloc | apply pw_below_drewN | apply below_drew1) | exact HB.out)) hb); have n1_ := Aside0.mk (hbox); have n2_ := Aside0.mk ((by rw [hg]; exact (below_size (by repeat (first | (with_reducible first | exact HB.out | apply below_alloc | apply pw_below_drewN | apply below_drew1) | exact HB.out))) : w.heap.size ≤ gb198)); have n3_ := Aside0.mk ((by rw [hg]; exact (below_size (by repeat (first | (with_reducible first | exact HB.out | apply below_alloc | apply pw_below_drewN | apply below_drew1) | exact HB.out))) : w.heap.size ≤ gb198)); clear HB; have HB := n0_; have BK198 := n1_; have GW198 := n2_; have GE198 := n3_; clear n0_ n1_ n2_ n3_; clear hb hbox hg) | ((with_reducible refine gate_callee (f := 49) rfl ?_); refine goesL_ (some 7) rfl rfl Tryd.func49 (by kernel_rfl) rfl #[.int .i64 a0] rfl (by (try simp only [List.map_toArray, List.map_cons, List.map_nil]); first | done | rfl | (simp only [List.length_drop, List.length_take]; rfl)) ?_; (with_reducible refine (rata_Of.calls a0 true _ A2.out).mono ?_); rintro e w' ⟨rfl, ⟨nd, rfl⟩⟩; refine ⟨_, rfl, ?_⟩; (try (rw [drewN_self w6]; generalize hq_ : World.drewN w6 _ = w6; have n0_ : Aside0 (w6.heap[gb198]? = some (.cells #[.int .i64 0, .int .i64 0, .int .i64 0] 24 (0, 0))) := ⟨by rw [← hq_]; exact (by (with_reducible repeat (first | refine blk_drewN ?_ _ | refine blk_drew ?_ | refine blk_alloc ?_ _)); exact BK198.out)⟩; have n1_ : Aside0 (Below w.heap.size w w6) := ⟨by rw [← hq_]; exact (by repeat (first | (with_reducible first | exact HB.out | apply below_alloc | apply pw_below_drewN | apply below_drew1 | refine below_set ?_ GE198.out) | exact HB.out))⟩; clear BK198 HB hq_; have BK198 := n0_; have HB := n1_; clear n0_ n1_)); (try (have hcz7_0 : w6.cell? ⟨gb198, 0, none⟩ = some (.int .i64 0) := (blk_cell BK198.out 0).trans rfl; have hcz7_1 : w6.cell? ⟨gb198, 1, none⟩ = some (.int .i64 0) := (blk_cell BK198.out 1).trans rfl; have hcz7_2 : w6.cell? ⟨gb198, 2, none⟩ = some (.int .i64 0) := (blk_cell BK198.out 2).trans rfl; have hfz7_0 := blk_frozen BK198.out 0; have hfz7_1 := blk_frozen BK198.out 1; have hfz7_2 := blk_frozen BK198.out 2))) | ((with_reducible refine gate_callee (f := 53) rfl ?_); refine goesL_ (some 14) rfl rfl Tryd.func53 (by kernel_rfl) rfl #[.int .i64 (wrap64 ((wrap64 (4 * (wrap64 (a0 - 103605)))) + 1463)), .int .i64 1461] rfl (by (try simp only [List.map_toArray, List.map_cons, List.map_nil]); first | done | rfl | (simp only [List.length_drop, List.length_take]; rfl)) ?_; (with_reducible refine (rata_Floor.calls (wrap64 ((wrap64 (4 * (wrap64 (a0 - 103605)))) + 1463)) 1461 t200 _ A4.out).mono ?_); rintro e w' ⟨rfl, ⟨nd, rfl⟩⟩; refine ⟨_, rfl, ?_⟩; (try (rw [drewN_self w6]; generalize hq_ : World.drewN w6 _ = w6; have n0_ : Aside0 (w6.heap[gb198]? = some (.cells #[.int .i64 0, .int .i64 0, .int .i64 0] 24 (0, 0))) := ⟨by rw [← hq_]; exact (by (with_reducible repeat (first | refine blk_drewN ?_ _ | refine blk_drew ?_ | refine blk_alloc ?_ _)); exact BK198.out)⟩; have n1_ : Aside0 (Below w.heap.size w w6) := ⟨by rw [← hq_]; exact (by repeat (first | (with_reducible first | exact HB.out | apply below_alloc | apply pw_below_drewN | apply below_drew1 | refine below_set ?_ GE198.out) | exact HB.out))⟩; clear BK198 HB hq_; have BK198 := n0_; have HB := n1_; clear n0_ n1_)); (try (have hcz8_0 : w6.cell? ⟨gb198, 0, none⟩ = some (.int .i64 0) := (blk_cell BK198.out 0).trans rfl; have hcz8_1 : w6.cell? ⟨gb198, 1, none⟩ = some (.int .i64 0) := (blk_cell BK198.out 1).trans rfl; have hcz8_2 : w6.cell? ⟨gb198, 2, none⟩ = some (.int .i64 0) := (blk_cell BK198.out 2).trans rfl; have hfz8_0 := blk_frozen BK198.out 0; have hfz8_1 := blk_frozen BK198.out 1; have hfz8_2 := blk_frozen BK198.out 2))) | ((with_reducible refine gate_callee (f := 67) rfl ?_); refine goesL_ (some 17) rfl rfl Tryd.func67 (by kernel_rfl) rfl #[.int .i64 t200] rfl (by (try simp only [List.map_toArray, List.map_cons, List.map_nil]); first | done | rfl | (simp only [List.length_drop, List.length_take]; rfl)) ?_; (with_reducible refine (julian_copticAhead.calls t200 t201 _ A5.out).mono ?_); rintro e w' ⟨rfl, ⟨nd, rfl⟩⟩; refine ⟨_, rfl, ?_⟩; (try (rw [drewN_self w6]; generalize hq_ : World.drewN w6 _ = w6; have n0_ : Aside0 (w6.heap[gb198]? = some (.cells #[.int .i64 0, .int .i64 0, .int .i64 0] 24 (0, 0))) := ⟨by rw [← hq_]; exact (by (with_reducible repeat (first | refine blk_drewN ?_ _ | refine blk_drew ?_ | refine blk_alloc ?_ _)); exact BK198.out)⟩; have n1_ : Aside0 (Below w.heap.size w w6) := ⟨by rw [← hq_]; exact (by repeat (first | (with_reducible first | exact HB.out | apply below_alloc | apply pw_below_drewN | apply below_drew1 | refine below_set ?_ GE198.out) | exact HB.out))⟩; clear BK198 HB hq_; have BK198 := n0_; have HB := n1_; clear n0_ n1_)); (try (have hcz9_0 : w6.cell? ⟨gb198, 0, none⟩ = some (.int .i64 0) := (blk_cell BK198.out 0).trans rfl; have hcz9_1 : w6.cell? ⟨gb198, 1, none⟩ = some (.int .i64 0) := (blk_cell BK198.out 1).trans rfl; have hcz9_2 : w6.cell? ⟨gb198, 2, none⟩ = some (.int .i64 0) := (blk_cell BK198.out 2).trans rfl; have hfz9_0 := blk_frozen BK198.out 0; have hfz9_1 := blk_frozen BK198.out 1; have hfz9_2 := blk_frozen BK198.out 2)); have hcz10_0 : w6.cell? ⟨gb198, 0, none⟩ = some (.int .i64 0) := (blk_cell BK198.out 0).trans rfl; have hcz10_1 : w6.cell? ⟨gb198, 1, none⟩ = some (.int .i64 0) := (blk_cell BK198.out 1).trans rfl; have hcz10_2 : w6.cell? ⟨gb198, 2, none⟩ = some (.int .i64 0) := (blk_cell BK198.out 2).trans rfl; have hfz10_0 := blk_frozen BK198.out 0; have hfz10_1 := blk_frozen BK198.out 1; have hfz10_2 := blk_frozen BK198.out 2))
  refine bodyPost_ret (results_ct rfl _ _ gb198 24 #[.int .i64 t200, .int .i64 (wrap64 ((wrap64 (Int.tdiv (wrap64 (a0 - t201)) 30)) + 1)), .int .i64 (wrap64 ((Int.tmod (wrap64 (a0 - t201)) 30) + 1))] (0, 0) _ rfl (by (with_reducible repeat (first | refine blk_drewN ?_ _ | refine blk_drew ?_ | refine blk_alloc ?_ _)); refine blk_put (cs := #[.int .i64 t200, .int .i64 (wrap64 ((wrap64 (Int.tdiv (wrap64 (a0 - t201)) 30)) + 1)), .int .i64 0]) ?_ 2 _ rfl; (with_reducible repeat (first | refine blk_drewN ?_ _ | refine blk_drew ?_ | refine blk_alloc ?_ _)); refine blk_put (cs := #[.int .i64 t200, .int .i64 0, .int .i64 0]) ?_ 1 _ rfl; (with_reducible repeat (first | refine blk_drewN ?_ _ | refine blk_drew ?_ | refine blk_alloc ?_ _)); refine blk_put (cs := #[.int .i64 0, .int .i64 0, .int .i64 0]) ?_ 0 _ rfl; (with_reducible repeat (first | refine blk_drewN ?_ _ | refine blk_drew ?_ | refine blk_alloc ?_ _)); exact BK198.out) Tryd.underlying24 rfl (by kernel_rfl)) rfl ?_
  exact ⟨by first | rfl | (simp [errW_none, errW_some] <;> rfl) | (simp [*, errW_none, errW_some] <;> rfl), by repeat (first | (with_reducible first | exact HB.out | apply below_alloc | apply pw_below_drewN | apply below_drew1 | refine below_set ?_ GE198.out) | exact HB.out)⟩
 ·replace c3 := Bool.eq_false_iff.mpr c3
  subst c3
  have H1 : (some (0, 0, 0, 2)) = some (r1, r2, r3, r4) := by rw [if_neg (show ¬ (false = true) by decide)] at H; exact H
  clear H
  have H := H1
  clear H1
  simp only [Option.some.injEq, Prod.mk.injEq] at H
  obtain ⟨rfl, rfl, rfl, rfl⟩ := H
  go_enter Tryd.func24, Tryd.ntmps24
  go_wp2_with (first | ((with_reducible refine gate_dst (N := 2) rfl ?_); refine box_event ?hg (N := 2) ?hd (cs := #[.int .i64 0, .int .i64 0, .int .i64 0]) (t := 24) ?hr ?_; (case hd => rfl); (case hg => rfl); (case hr => first | (go_simp; done) | (go_simp; rfl)); intro gb198 hg w11 hbox hb; have n0_ := Aside0.mk (below_step (by repeat (first | (with_reducible first | exact HB.out | apply below_alloc | apply pw_below_drewN | apply below_drew1) | exact HB.out)) hb); have n1_ := Aside0.mk (hbox); have n2_ := Aside0.mk ((by rw [hg]; exact (below_size (by repeat (first | (with_reducible first | exact HB.out | apply below_alloc | apply pw_below_drewN | apply below_drew1) | exact HB.out))) : w.heap.size ≤ gb198)); have n3_ := Aside0.mk ((by rw [hg]; exact (below_size (by repeat (first | (with_reducible first | exact HB.out | apply below_alloc | apply pw_below_drewN | apply below_drew1) | exact HB.out))) : w.heap.size ≤ gb198)); clear HB; have HB := n0_; have BK198 := n1_; have GW198 := n2_; have GE198 := n3_; clear n0_ n1_ n2_ n3_; clear hb hbox hg) | ((with_reducible refine gate_callee (f := 49) rfl ?_); refine goesL_ (some 7) rfl rfl Tryd.func49 (by kernel_rfl) rfl #[.int .i64 a0] rfl (by (try simp only [List.map_toArray, List.map_cons, List.map_nil]); first | done | rfl | (simp only [List.length_drop, List.length_take]; rfl)) ?_; (with_reducible refine (rata_Of.calls a0 false _ A2.out).mono ?_); rintro e w' ⟨rfl, ⟨nd, rfl⟩⟩; refine ⟨_, rfl, ?_⟩; (try (rw [drewN_self w11]; generalize hq_ : World.drewN w11 _ = w11; have n0_ : Aside0 (w11.heap[gb198]? = some (.cells #[.int .i64 0, .int .i64 0, .int .i64 0] 24 (0, 0))) := ⟨by rw [← hq_]; exact (by (with_reducible repeat (first | refine blk_drewN ?_ _ | refine blk_drew ?_ | refine blk_alloc ?_ _)); exact BK198.out)⟩; have n1_ : Aside0 (Below w.heap.size w w11) := ⟨by rw [← hq_]; exact (by repeat (first | (with_reducible first | exact HB.out | apply below_alloc | apply pw_below_drewN | apply below_drew1 | refine below_set ?_ GE198.out) | exact HB.out))⟩; clear BK198 HB hq_; have BK198 := n0_; have HB := n1_; clear n0_ n1_)); (try (have hcz12_0 : w11.cell? ⟨gb198, 0, none⟩ = some (.int .i64 0) := (blk_cell BK198.out 0).trans rfl; have hcz12_1 : w11.cell? ⟨gb198, 1, none⟩ = some (.int .i64 0) := (blk_cell BK198.out 1).trans rfl; have hcz12_2 : w11.cell? ⟨gb198, 2, none⟩ = some (.int .i64 0) := (blk_cell BK198.out 2).trans rfl; have hfz12_0 := blk_frozen BK198.out 0; have hfz12_1 := blk_frozen BK198.out 1; have hfz12_2 := blk_frozen BK198.out 2)); have hcz13_0 : w11.cell? ⟨gb198, 0, none⟩ = some (.int .i64 0) := (blk_cell BK198.out 0).trans rfl; have hcz13_1 : w11.cell? ⟨gb198, 1, none⟩ = some (.int .i64 0) := (blk_cell BK198.out 1).trans rfl; have hcz13_2 : w11.cell? ⟨gb198, 2, none⟩ = some (.int .i64 0) := (blk_cell BK198.out 2).trans rfl; have hfz13_0 := blk_frozen BK198.out 0; have hfz13_1 := blk_frozen BK198.out 1; have hfz13_2 := blk_frozen BK198.out 2))
  refine bodyPost_ret (results_ct rfl _ _ gb198 24 #[.int .i64 0, .int .i64 0, .int .i64 0] (0, 0) _ rfl (by (with_reducible repeat (first | refine blk_drewN ?_ _ | refine blk_drew ?_ | refine blk_alloc ?_ _)); refine blk_put (cs := #[.int .i64 0, .int .i64 0, .int .i64 0]) ?_ 2 _ rfl; (with_reducible repeat (first | refine blk_drewN ?_ _ | refine blk_drew ?_ | refine blk_alloc ?_ _)); refine blk_put (cs := #[.int .i64 0, .int .i64 0, .int .i64 0]) ?_ 1 _ rfl; (with_reducible repeat (first | refine blk_drewN ?_ _ | refine blk_drew ?_ | refine blk_alloc ?_ _)); refine blk_put (cs := #[.int .i64 0, .int .i64 0, .int .i64 0]) ?_ 0 _ rfl; (with_reducible repeat (first | refine blk_drewN ?_ _ | refine blk_drew ?_ | refine blk_alloc ?_ _)); exact BK198.out) Tryd.underlying24 rfl (by kernel_rfl)) rfl ?_
  exact ⟨by first | rfl | (simp [errW_none, errW_some] <;> rfl) | (simp [*, errW_none, errW_some] <;> rfl), by repeat (first | (with_reducible first | exact HB.out | apply below_alloc | apply pw_below_drewN | apply below_drew1 | refine below_set ?_ GE198.out) | exact HB.out)⟩

-- NOT PRINTED: function 7 (show_Date)
/-! ### julian_copticLength: function 87 -/
/-! ### julian_FromCoptic: function 46 -/
-- NOT PRINTED: function 15 (show_Day)
end Go.Proofs.YtgbbgcepcnklkaaDoor.Q
/- What the program's Coptic dates (package julian) are, in plain numbers. -/
namespace Go.Proofs.YtgbbgcepcnklkaaDoor.FunK
open Go.RowKit Go.Proofs.YtgbbgcepcnklkaaDoorW.PrintWords Go.Proofs.YtgbbgcepcnklkaaDoorW.PrintLast Go.Proofs.YtgbbgcepcnklkaaDoor.Q Go.Proofs.YtgbbgcepcnklkaaDoor.Cal Go.Proofs.YtgbbgcepcnklkaaDoor.FunA Go.Proofs.YtgbbgcepcnklkaaDoor.FunC Go.Proofs.YtgbbgcepcnklkaaDoor.FunJ
theorem kbd (y : Int) (h : -40000 ≤ y) (h' : y ≤ 40000) : -15000000 ≤ cb y ∧ cb y ≤ 15000000 := by unfold cb; omega
theorem kAhead (y : Int) (h : -40000 ≤ y) (h' : y ≤ 40000) : julian_copticAhead.f y = some (cb y + 1) := by
 unfold julian_copticAhead.f
 rw [rFloor _ 4 (by omega) ⟨by omega, by omega⟩, Option.bind_some, w64 (x := y - 1) (by omega) (by omega)]
 congr 1
 unfold cb wrap64; omega
theorem kDate_yes (day : Int) (h : In day) : ∃ y m d, julian_Coptic.f day = some (y, m, d, 0) ∧ IsC y m d day ∧ -20000 ≤ y ∧ y ≤ 20000 := by
 obtain ⟨h1, h2⟩ := h
 have hy : cb ((4 * (day - 103605) + 1463) / 1461) < day ∧ day ≤ cb ((4 * (day - 103605) + 1463) / 1461 + 1) ∧ -20000 ≤ (4 * (day - 103605) + 1463) / 1461 ∧ (4 * (day - 103605) + 1463) / 1461 ≤ 20000 := by
  unfold cb; omega
 have e : julian_Coptic.f day = (julian_copticAhead.f ((4 * (day - 103605) + 1463) / 1461)).bind fun t => some ((4 * (day - 103605) + 1463) / 1461, wrap64 ((wrap64 (Int.tdiv (wrap64 (day - t)) 30)) + 1), wrap64 ((Int.tmod (wrap64 (day - t)) 30) + 1), 0) := by
  unfold julian_Coptic.f
  rw [rOf_yes ⟨h1, h2⟩, Option.bind_some, if_pos rfl, w64 (x := day - 103605) (by omega) (by omega), w64 (x := 4 * (day - 103605)) (by omega) (by omega), w64 (x := 4 * (day - 103605) + 1463) (by omega) (by omega), rFloor _ 1461 (by omega) ⟨by omega, by omega⟩, Option.bind_some]
 rw [e]
 generalize (4 * (day - 103605) + 1463) / 1461 = y at *
 obtain ⟨a1, a2, a3, a4⟩ := hy
 have hb := kbd y (by omega) (by omega)
 have hs := cb_succ y
 have hl := lc_56 y
 rw [kAhead y (by omega) (by omega), Option.bind_some, w64 (x := day - (cb y + 1)) (by omega) (by omega), Int.tdiv_eq_ediv_of_nonneg (by omega), Int.tmod_eq_emod_of_nonneg (by omega)]
 have e0 : 0 ≤ day - (cb y + 1) ∧ day - (cb y + 1) < 366 := by omega
 rw [w64 (x := (day - (cb y + 1)) / 30) (by omega) (by omega), w64 (x := (day - (cb y + 1)) / 30 + 1) (by omega) (by omega), w64 (x := (day - (cb y + 1)) % 30 + 1) (by omega) (by omega)]
 exact ⟨y, _, _, rfl, ⟨by omega, by omega, by omega, by omega, by omega, by omega⟩, a3, a4⟩
theorem kDate_no (day : Int) (h : ¬ In day) : julian_Coptic.f day = some (0, 0, 0, 2) := by
 unfold julian_Coptic.f
 rw [rOf_no h, Option.bind_some, if_neg (by simp)]
end Go.Proofs.YtgbbgcepcnklkaaDoor.FunK
/- Each calendar's date of a day, as the program tells it, is the reference's. -/
namespace Go.Proofs.YtgbbgcepcnklkaaDoor.FunZ
open Go.RowKit Go.Proofs.YtgbbgcepcnklkaaDoorW.PrintWords Go.Proofs.YtgbbgcepcnklkaaDoorW.PrintLast Go.Proofs.YtgbbgcepcnklkaaDoor.Q Go.Proofs.YtgbbgcepcnklkaaDoor.Cal Go.Proofs.YtgbbgcepcnklkaaDoor.FunA Go.Proofs.YtgbbgcepcnklkaaDoor.FunB Go.Proofs.YtgbbgcepcnklkaaDoor.FunC Go.Proofs.YtgbbgcepcnklkaaDoor.FunD Go.Proofs.YtgbbgcepcnklkaaDoor.FunI Go.Proofs.YtgbbgcepcnklkaaDoor.FunJ Go.Proofs.YtgbbgcepcnklkaaDoor.FunK Go.Proofs.YtgbbgcepcnklkaaDoor.Cal3
set_option linter.unusedVariables false
set_option linter.unusedSimpArgs false
/-- The rounds that are enough. -/
abbrev K : Nat := 50000
theorem date0 (a : Int) : ∃ y m d e, rata_Date.f K a = some (y, m, d, e) ∧ trystref01_Date.f K 0 a = some (y, m, d, e) ∧ -20000 ≤ y ∧ y ≤ 20000 ∧ (e = 0 ∨ e = 2) ∧ (e = 0 → 1 ≤ m ∧ m ≤ 60 ∧ 1 ≤ d ∧ d ≤ 60) := by
 by_cases h : In a
 ·obtain ⟨m, d, e, hd⟩ := rDate_yes K (by decide) a h
  obtain ⟨y', m', d', e', hd'⟩ := fDate0 K (by decide) a h
  obtain ⟨r1, r2, r3⟩ := Is.one greg hd hd'
  rw [← r1, ← r2, ← r3] at e'
  have hy := yr_In h
  have hm := hd.m1; have hm2 := hd.m2; have h1 := hd.d1; have h2 := hd.d2
  have hl := dim_lo (lp (yr a)) m (lp_01 _) hm hm2
  exact ⟨_, m, d, 0, e, e', by omega, by omega, Or.inl rfl, fun _ => by omega⟩
 ·exact ⟨0, 0, 0, 2, rDate_no _ a h, fDate_no _ _ a h, by omega, by omega, Or.inr rfl, fun q => by omega⟩
theorem date1 (a : Int) : ∃ y m d e, julian_Julian.f K a = some (y, m, d, e) ∧ trystref01_Date.f K 1 a = some (y, m, d, e) ∧ -20000 ≤ y ∧ y ≤ 20000 ∧ (e = 0 ∨ e = 2) ∧ (e = 0 → 1 ≤ m ∧ m ≤ 60 ∧ 1 ≤ d ∧ d ≤ 60) := by
 by_cases h : In a
 ·obtain ⟨y, m, d, e, hd, h3, h4⟩ := jDate_yes K (by decide) a h
  obtain ⟨y', m', d', e', hd'⟩ := fDate1 K (by decide) a h
  obtain ⟨r1, r2, r3⟩ := Is.one jul hd hd'
  rw [← r1, ← r2, ← r3] at e'
  have hm := hd.m1; have hm2 := hd.m2; have h1 := hd.d1; have h2 := hd.d2
  have hl := dim_lo (lj y) m (lj_01 _) hm hm2
  exact ⟨y, m, d, 0, e, e', by omega, by omega, Or.inl rfl, fun _ => by omega⟩
 ·exact ⟨0, 0, 0, 2, jDate_no _ a h, fDate_no _ _ a h, by omega, by omega, Or.inr rfl, fun q => by omega⟩
theorem date2 (a : Int) : ∃ y m d e, iso_ISO.f K a = some (y, m, d, e) ∧ trystref01_Date.f K 2 a = some (y, m, d, e) ∧ -20000 ≤ y ∧ y ≤ 20000 ∧ (e = 0 ∨ e = 2) ∧ (e = 0 → 1 ≤ m ∧ m ≤ 60 ∧ 1 ≤ d ∧ d ≤ 60) := by
 by_cases h : In a
 ·obtain ⟨y, y1, y2, h1, h2, e⟩ := iISO_yes K (by decide) a h
  obtain ⟨y', m', d', e', z1, z2, h3, h4, h5, h6⟩ := fDate2 K (by decide) a h
  have r := wk_one h1 h2 h3 h4
  subst r
  obtain ⟨n, hn, hw⟩ := wks y 1
  rw [h5, h6] at e'
  exact ⟨y, _, _, 0, e, e', by omega, by omega, Or.inl rfl, fun _ => by omega⟩
 ·exact ⟨0, 0, 0, 2, iISO_no _ a h, fDate_no _ _ a h, by omega, by omega, Or.inr rfl, fun q => by omega⟩
theorem date6 (a : Int) : ∃ y m d e, julian_Coptic.f a = some (y, m, d, e) ∧ trystref01_Date.f K 6 a = some (y, m, d, e) ∧ -20000 ≤ y ∧ y ≤ 20000 ∧ (e = 0 ∨ e = 2) ∧ (e = 0 → 1 ≤ m ∧ m ≤ 60 ∧ 1 ≤ d ∧ d ≤ 60) := by
 by_cases h : In a
 ·obtain ⟨y, m, d, e, hd, h3, h4⟩ := kDate_yes a h
  obtain ⟨y', m', d', e', hd'⟩ := fDate6 K (by decide) a h
  obtain ⟨r1, r2, r3⟩ := IsC.one hd hd'
  rw [← r1, ← r2, ← r3] at e'
  obtain ⟨a1, a2, a3, a4, a5, a6⟩ := hd
  exact ⟨y, m, d, 0, e, e', by omega, by omega, Or.inl rfl, fun _ => by omega⟩
 ·exact ⟨0, 0, 0, 2, kDate_no a h, fDate_no _ _ a h, by omega, by omega, Or.inr rfl, fun q => by omega⟩
theorem date4 (a : Int) : ∃ y m d e, islam_Islamic.f K a = some (y, m, d, e) ∧ trystref01_Date.f K 4 a = some (y, m, d, e) ∧ -20000 ≤ y ∧ y ≤ 20000 ∧ (e = 0 ∨ e = 2) ∧ (e = 0 → 1 ≤ m ∧ m ≤ 60 ∧ 1 ≤ d ∧ d ≤ 60) := by
 by_cases h : In a
 ·obtain ⟨y, m, d, e, hd⟩ := FunMd.mDate_yes K (by decide) a h
  obtain ⟨y', m', d', e', hd'⟩ := FunRd.date4 K (by decide) a h
  obtain ⟨r1, r2, r3⟩ := IsI.one hd hd'
  rw [← r1, ← r2, ← r3] at e'
  have hyy := hd.year
  have hm := hd.m1; have hm2 := hd.m2; have h1 := hd.d1; have h2 := hd.d2
  have hl := il_lo (li y) m (li_01 _) hm hm2
  obtain ⟨a1, a2⟩ := h
  have hy1 : -20000 ≤ y := by
   by_cases q : -20000 ≤ y
   ·exact q
   ·have := ib_le (show y + 1 ≤ -19999 by omega); have e0 : ib (-19999) < 0 := by decide
    omega
  have hy2 : y ≤ 20000 := by
   by_cases q : y ≤ 20000
   ·exact q
   ·have := ib_le (show 20000 ≤ y by omega); have e0 : 3652059 < ib 20000 := by decide
    omega
  exact ⟨y, m, d, 0, e, e', hy1, hy2, Or.inl rfl, fun _ => by omega⟩
 ·exact ⟨0, 0, 0, 2, FunMd.mDate_no _ a h, fDate_no _ _ a h, by omega, by omega, Or.inr rfl, fun q => by omega⟩
theorem date5 (a : Int) : ∃ y m d e, persian_Persian.f K a = some (y, m, d, e) ∧ trystref01_Date.f K 5 a = some (y, m, d, e) ∧ -20000 ≤ y ∧ y ≤ 20000 ∧ (e = 0 ∨ e = 2) ∧ (e = 0 → 1 ≤ m ∧ m ≤ 60 ∧ 1 ≤ d ∧ d ≤ 60) := by
 by_cases h : In a
 ·obtain ⟨y, m, d, e, z, hd⟩ := FunMd.sDate_yes K (by decide) a h
  obtain ⟨y', m', d', e', z', hd'⟩ := FunRd.date5 K (by decide) a h
  obtain ⟨r1, r2, r3⟩ := IsP.one z z' hd hd'
  rw [← r1, ← r2, ← r3] at e'
  have hyy := hd.year
  have hm := hd.m1; have hm2 := hd.m2; have h1 := hd.d1; have h2 := hd.d2
  have hl := pdim_lo (pl (ps y)) m (pl_01 _) hm hm2
  obtain ⟨a1, a2⟩ := h
  have hz1 : -19000 ≤ ps y := by
   by_cases q : -19000 ≤ ps y
   ·exact q
   ·have := pz_le (show ps y + 1 ≤ -18999 by omega); have e0 : pz (-18999) < 0 := by decide
    omega
  have hz2 : ps y ≤ 19000 := by
   by_cases q : ps y ≤ 19000
   ·exact q
   ·have := pz_le (show 19000 ≤ ps y by omega); have e0 : 3652059 < pz 19000 := by decide
    omega
  have hy12 : -20000 ≤ y ∧ y ≤ 20000 := by unfold ps at hz1 hz2; split at hz1 <;> omega
  exact ⟨y, m, d, 0, e, e', hy12.1, hy12.2, Or.inl rfl, fun _ => by omega⟩
 ·exact ⟨0, 0, 0, 2, FunMd.sDate_no _ a h, fDate_no _ _ a h, by omega, by omega, Or.inr rfl, fun q => by omega⟩
theorem date3 (a : Int) : ∃ y m d e, hebrew_Hebrew.f K a = some (y, m, d, e) ∧ trystref01_Date.f K 3 a = some (y, m, d, e) ∧ -20000 ≤ y ∧ y ≤ 20000 ∧ (e = 0 ∨ e = 2) ∧ (e = 0 → 1 ≤ m ∧ m ≤ 60 ∧ 1 ≤ d ∧ d ≤ 60) := by
 by_cases h : In a
 ·obtain ⟨y, m, d, e, z1, z2, hd⟩ := FunMd.hDate_yes K (by decide) a h
  obtain ⟨y', m', d', e', z1', z2', hd'⟩ := FunRd.date3 K (by decide) a h
  obtain ⟨r1, r2, r3⟩ := FunMd.IsH.one hd hd' z1 (by omega) z1' (by omega)
  rw [← r1, ← r2, ← r3] at e'
  have l01 := CalH.hl_01 y
  have hm := hd.m1; have hm2 := hd.m2; have h1 := hd.d1; have h2 := hd.d2
  have hl := CalH.hx_bd (CalH.hl y) (CalH.hd y) m
  exact ⟨y, m, d, 0, e, e', by omega, by omega, Or.inl rfl, fun _ => by omega⟩
 ·exact ⟨0, 0, 0, 2, FunMd.hDate_no _ a h, fDate_no _ _ a h, by omega, by omega, Or.inr rfl, fun q => by omega⟩
end Go.Proofs.YtgbbgcepcnklkaaDoor.FunZ
-- written by a program of this session (wip/own_print.sh)
namespace Go.Proofs.YtgbbgcepcnklkaaDoor.Q
open Go.RowKit Go.Proofs.YtgbbgcepcnklkaaDoorW.PrintWords Go.Proofs.YtgbbgcepcnklkaaDoorW.PrintLast Go.Proofs.YtgbbgcepcnklkaaDoorW.PrintMore
attribute [local go_sem] max2_int min2_int max_two min_two max_three min_three max_four min_four   -- for this text's walks alone
set_option linter.unusedVariables false
set_option linter.unusedSimpArgs false
/-! ### show_is: function 17 -/
def show_is.f (a0 : Int) : Option (Bool) := if a0 ≥ 0 then (some (decide (a0 < 7))) else (some false)
set_option maxHeartbeats 8000000 in
set_option maxRecDepth 100000 in
theorem show_is.calls (a0 : Int) (r : Bool) (w : World) (h : show_is.f a0 = some r) :
  Calls Tryd.prog 17 #[.int .i64 a0] w fun e w' => e = .returned (.bool r) ∧ Drawn0 w w' := by
 have H : (if a0 ≥ 0 then (some (decide (a0 < 7))) else (some false)) = some r := h
 clear h
 by_cases c2 : a0 ≥ 0
 ·rw [if_pos c2] at H
  have c2b0 : decide (0 ≤ a0) = true := decide_eq_true c2
  clear c2
  obtain rfl := Option.some.inj H
  go_enter Tryd.func17, Tryd.ntmps17
  go_wp2
  go_ret
  exact ⟨by first | rfl | (simp; done) | (simp [*]; done) | (simp [bne_nil_]; done), by repeat (first | exact Drawn0.refl _ | apply Drawn0.step)⟩
 ·rw [if_neg c2] at H
  have c2b0 : decide (0 ≤ a0) = false := decide_eq_false c2
  clear c2
  obtain rfl := Option.some.inj H
  go_enter Tryd.func17, Tryd.ntmps17
  go_wp2
  go_ret
  exact ⟨by first | rfl | (simp; done) | (simp [*]; done) | (simp [bne_nil_]; done), by repeat (first | exact Drawn0.refl _ | apply Drawn0.step)⟩

end Go.Proofs.YtgbbgcepcnklkaaDoor.Q
/- Contracts of Go's library at this seat: written by the kit's lay-shelf.mjs and lay-plain.mjs, picked by shelf_pick.py. -/
namespace Go.Proofs.YtgbbgcepcnklkaaDoor.Shelf
open Go.Shelf Go.Proofs
set_option linter.unusedVariables false
def laysM171_ren : Go.Shelf.Ren := ⟨fun | 171 => 68 | 243 => 99 | 246 => 104 | 283 => 105 | 284 => 106 | 285 => 107 | 286 => 108 | 129 => 110 | 317 => 109 | 318 => 111 | 319 => 112 | 320 => 113 | 337 => 114 | 338 => 115 | n => n, fun | 3 => 3 | 9 => 9 | 2 => 2 | 4 => 4 | 171 => 67 | 0 => 0 | 53 => 68 | 37 => 38 | 5 => 5 | 173 => 71 | 212 => 74 | 51 => 75 | 20 => 20 | 213 => 76 | 46 => 77 | 232 => 80 | 233 => 81 | n => n, fun | 17 => 1 | 18 => 2 | 19 => 3 | n => n⟩
theorem laysM171 : Go.Proofs.LaysM.n171 Tryd.prog laysM171_ren := {
 mixed := by kernel_rfl
 f129 := Tryd.func110.trans (congrArg some (by kernel_rfl))
 f171 := Tryd.func68.trans (congrArg some (by kernel_rfl))
 f243 := Tryd.func99.trans (congrArg some (by kernel_rfl))
 f246 := Tryd.func104.trans (congrArg some (by kernel_rfl))
 f283 := Tryd.func105.trans (congrArg some (by kernel_rfl))
 f284 := Tryd.func106.trans (congrArg some (by kernel_rfl))
 f285 := Tryd.func107.trans (congrArg some (by kernel_rfl))
 f286 := Tryd.func108.trans (congrArg some (by kernel_rfl))
 f317 := Tryd.func109.trans (congrArg some (by kernel_rfl))
 f318 := Tryd.func111.trans (congrArg some (by kernel_rfl))
 f319 := Tryd.func112.trans (congrArg some (by kernel_rfl))
 f320 := Tryd.func113.trans (congrArg some (by kernel_rfl))
 f337 := Tryd.func114.trans (congrArg some (by kernel_rfl))
 f338 := Tryd.func115.trans (congrArg some (by kernel_rfl))
 t0 := Tryd.underlying0
 a0 := Tryd.isAgg0
 z0 := Tryd.sizeOf0
 v0 := Tryd.zeroValue0
 t2 := Tryd.underlying2
 a2 := Tryd.isAgg2
 z2 := Tryd.sizeOf2
 v2 := Tryd.zeroValue2
 t3 := Tryd.underlying3
 a3 := Tryd.isAgg3
 z3 := Tryd.sizeOf3
 v3 := Tryd.zeroValue3
 t4 := Tryd.underlying4
 a4 := Tryd.isAgg4
 z4 := Tryd.sizeOf4
 v4 := Tryd.zeroValue4
 t5 := Tryd.underlying5
 a5 := Tryd.isAgg5
 z5 := Tryd.sizeOf5
 v5 := Tryd.zeroValue5
 t9 := Tryd.underlying9
 a9 := Tryd.isAgg9
 z9 := Tryd.sizeOf9
 v9 := Tryd.zeroValue9
 t20 := Tryd.underlying20
 a20 := Tryd.isAgg20
 z20 := Tryd.sizeOf20
 v20 := Tryd.zeroValue20
 t37 := Tryd.underlying38
 a37 := Tryd.isAgg38
 z37 := Tryd.sizeOf38
 v37 := Tryd.zeroValue38
 t46 := Tryd.underlying77
 a46 := Tryd.isAgg77
 z46 := Tryd.sizeOf77
 v46 := Tryd.zeroValue77
 t51 := Tryd.underlying75
 a51 := Tryd.isAgg75
 z51 := Tryd.sizeOf75
 v51 := Tryd.zeroValue75
 t53 := Tryd.underlying68
 a53 := Tryd.isAgg68
 z53 := Tryd.sizeOf68
 v53 := Tryd.zeroValue68
 t171 := Tryd.underlying67
 a171 := Tryd.isAgg67
 z171 := Tryd.sizeOf67
 v171 := Tryd.zeroValue67
 t173 := Tryd.underlying71
 a173 := Tryd.isAgg71
 z173 := Tryd.sizeOf71
 v173 := Tryd.zeroValue71
 t212 := Tryd.underlying74
 a212 := Tryd.isAgg74
 z212 := Tryd.sizeOf74
 v212 := Tryd.zeroValue74
 t213 := Tryd.underlying76
 a213 := Tryd.isAgg76
 z213 := Tryd.sizeOf76
 t232 := Tryd.underlying80
 a232 := Tryd.isAgg80
 z232 := Tryd.sizeOf80
 v232 := Tryd.zeroValue80
 t233 := Tryd.underlying81
 a233 := Tryd.isAgg81
 z233 := Tryd.sizeOf81
 v233 := Tryd.zeroValue81
 g17 := by kernel_rfl
 g18 := by kernel_rfl
 g19 := by kernel_rfl
 i0 := by kernel_rfl
 i2 := by kernel_rfl
 i3 := by kernel_rfl
 i4 := by kernel_rfl
 i5 := by kernel_rfl
 i9 := by kernel_rfl
 i20 := by kernel_rfl
 i37 := by kernel_rfl
 i46 := by kernel_rfl
 i51 := by kernel_rfl
 i53 := by kernel_rfl
 i171 := by kernel_rfl
 i173 := by kernel_rfl
 i212 := by kernel_rfl
 i232 := by kernel_rfl
 i233 := by kernel_rfl
 m17 := by kernel_rfl
 m18 := by kernel_rfl
 m19 := by kernel_rfl }
open Go.RowKit Go.Sort Go.Lib in
theorem strconv_Itoa (n : Int) (h0 : -9223372036854775808 ≤ n) (h1 : n ≤ 9223372036854775807) (w : World) (htab : Lib.TabIs Tryd.prog w "internal/strconv.uint64pow10" .u64 Lib.pow10Tab) :
  Calls Tryd.prog 68 #[.int .i64 n] w fun e w' => e = .returned (.string ⟨(Lib.itoa n).toArray⟩) ∧ ∃ k os, w' = grow (w.drewN k) os := Any.strconv_Itoa laysM171 n h0 h1 w htab
end Go.Proofs.YtgbbgcepcnklkaaDoor.Shelf
/- trystlaw27.awake, walked: the text of one day; the table of powers is a premise. (Written by gen_showaw.py.) -/
namespace Go.Proofs.YtgbbgcepcnklkaaDoor.ShowAw
open Go.RowKit Go.Proofs.YtgbbgcepcnklkaaDoorW.PrintWords Go.Proofs.YtgbbgcepcnklkaaDoorW.PrintLast Go.Proofs.YtgbbgcepcnklkaaDoor.Q
set_option linter.unusedVariables false
set_option linter.unusedSimpArgs false
abbrev Tab (w : World) : Prop := Lib.TabIs Tryd.prog w "internal/strconv.uint64pow10" .u64 Lib.pow10Tab
theorem tab_below {w w' : World} (h : Tab w) (hb : Below w.heap.size w w') : Tab w' := by
 unfold Tab Lib.TabIs World.var? at h ⊢
 cases hg : Program.globalNamed Tryd.prog "internal/strconv.uint64pow10" with
 | none => rw [hg] at h; cases h
 | some g =>
  rw [hg] at h
  simp only [Option.bind_some] at h ⊢
  have hlt : g < w.heap.size := by
   rcases Nat.lt_or_ge g w.heap.size with q | q
   ·exact q
   ·rw [Array.getElem?_eq_none q] at h; cases h
  rw [hb.block g hlt]
  exact h
theorem below_grow (w : World) (k : Nat) (os : Array Obj) : Below w.heap.size w (Sort.grow (w.drewN k) os) :=
 ⟨rfl, rfl, rfl, by simp [Sort.grow], fun i hi => by show (w.heap ++ os)[i]? = w.heap[i]?; rw [Array.getElem?_append_left hi]⟩
theorem itoa (n : Int) (s : ByteArray) (w : World) (h0 : -9223372036854775808 ≤ n) (h1 : n ≤ 9223372036854775807) (hs : (⟨(Lib.itoa n).toArray⟩ : ByteArray) = s) (ht : Tab w) :
  Calls Tryd.prog 68 #[.int .i64 n] w fun e w' => e = .returned (.string s) ∧ Below w.heap.size w w' := by
 refine (Shelf.strconv_Itoa n h0 h1 w ht).mono ?_
 rintro e w' ⟨rfl, k, os, rfl⟩
 exact ⟨by rw [hs], below_grow w k os⟩
theorem i1 : (⟨(Lib.itoa 2026).toArray⟩ : ByteArray) = ⟨#[50, 48, 50, 54]⟩ := by kernel_rfl
theorem i2 : (⟨(Lib.itoa 11).toArray⟩ : ByteArray) = ⟨#[49, 49]⟩ := by kernel_rfl
theorem i3 : (⟨(Lib.itoa 15).toArray⟩ : ByteArray) = ⟨#[49, 53]⟩ := by kernel_rfl
theorem ix (w : World) : (Instr.index 46 (.agg #[.func (.func 18) #[] #[], .func (.func 19) #[] #[], .func (.func 20) #[] #[], .func (.func 21) #[] #[], .func (.func 22) #[] #[], .func (.func 23) #[] #[], .func (.func 24) #[] #[]]) (.int .i64 0)).run Tryd.prog w = .ok (.func (.func 18) #[] #[]) w := by kernel_rfl
attribute [local go_sem] ix
theorem rd : rata_Date.f 40 739935 = some (2026, 11, 15, 0) := by kernel_rfl
set_option maxHeartbeats 4000000 in
set_option maxRecDepth 100000 in
theorem date (w : World) : Calls Tryd.prog 7 #[.int .i64 0, .int .i64 739935] w fun e w' => e = .returned (.tuple #[.agg #[.int .i64 2026, .int .i64 11, .int .i64 15], .int .i64 0]) ∧ Below w.heap.size w w' := by
 go_enter Tryd.func7, Tryd.ntmps7
 go_wp2_with fail
 refine (show_is.calls 0 true _ (by decide)).mono ?_
 rintro e w1 ⟨rfl, ⟨nd, rfl⟩⟩
 go_wp2_with fail
 refine (rata_Date.calls 40 739935 _ _ _ _ _ rd).mono ?_
 rintro e w2 ⟨rfl, hB⟩
 have B : Below w.heap.size w w2 := below_then (by repeat (with_reducible first | exact Below.refl _ _ | apply below_drew | apply pw_below_drewN | apply below_alloc)) (by simp) hB
 have hk : w2.heap[w.heap.size]? = some (.cells #[.int .i64 0, .int .i64 0, .int .i64 0] 24 (0, 0)) := (hB.block _ (by simp)).trans (by first | exact blk_drewN (blk_new w _) nd | exact blk_new w _ | (simp [World.alloc]; done))
 have c0 : w2.cell? ⟨w.heap.size, 0, none⟩ = some (.int .i64 0) := (blk_cell hk 0).trans rfl
 have c1 : w2.cell? ⟨w.heap.size, 1, none⟩ = some (.int .i64 0) := (blk_cell hk 1).trans rfl
 have c2 : w2.cell? ⟨w.heap.size, 2, none⟩ = some (.int .i64 0) := (blk_cell hk 2).trans rfl
 have f0 := blk_frozen hk 0; have f1 := blk_frozen hk 1; have f2 := blk_frozen hk 2
 clear hB hk
 go_wp2_with fail
 refine bodyPost_ret (v := .tuple #[.agg #[.int .i64 2026, .int .i64 11, .int .i64 15], .int .i64 0]) (by simp [results, Tryd.results7, go_sem, c0, c1, c2, f0, f1, f2]) rfl ⟨rfl, ?_⟩
 repeat (with_reducible first | exact B | apply pw_below_drewN | apply below_drew | refine below_set ?_ (by simp; done))

def T4 : Bool × List (List Nat × List Nat) := (true, [([], []), ([0], [0]), ([1], [1]), ([], []), ([2, 3], [2, 3]), ([], []), ([5], [5]), ([6, 2], [6]), ([4, 7], [4, 7]), ([8], [8]), ([], []), ([10], [10]), ([11, 7], [11]), ([9, 12], [9, 12]), ([13, 12, 0, 1, 2, 3, 4, 5, 6, 7, 8, 9, 10, 11, 12, 13], [13])])
def B4 : List Nat := [0, 1, 3, 0, 15, 0, 32, 103, 255, 511, 0, 1024, 3303, 8191, 16383]
theorem tab4 : rtab .any (opsOf Tryd.f25 4) = T4 := by kernel_rfl
theorem bits4 : waitsOk T4.2 B4 = true := by kernel_rfl

set_option maxHeartbeats 4000000 in
set_option maxRecDepth 100000 in
theorem written (w : World) (ht : Tab w) : Calls Tryd.prog 25 #[.int .i64 0, .agg #[.int .i64 2026, .int .i64 11, .int .i64 15]] w fun e w' => e = .returned (.string ⟨#[50, 48, 50, 54, 45, 49, 49, 45, 49, 53]⟩) ∧ Below w.heap.size w w' := by
 have T := Lib.hid ht
 clear ht
 go_enter Tryd.func25, Tryd.ntmps25
 go_wp2_with fail
 refine start_ (n := 15) (S := fun w' => w'.cell? ⟨w.heap.size, 0, none⟩ = some (.int .i64 2026) ∧ w'.cell? ⟨w.heap.size, 1, none⟩ = some (.int .i64 11) ∧ w'.cell? ⟨w.heap.size, 2, none⟩ = some (.int .i64 15)) (ds := []) #[false, false, false, false, false, false, false, false, false, false, false, false, false, false, false] (by kernel_rfl) rfl rfl ⟨by go_simp, by go_simp, by go_simp⟩ (fun hHeld => ?_)
 refine with_tabW tab4 bits4 (fun HT_ HW_ => ?_)
 have B : Below w.heap.size w _ := (by repeat (with_reducible first | exact Below.refl _ _ | apply below_drew | apply pw_below_drewN | apply below_alloc) : Below w.heap.size w ((w.alloc (.cells #[.int .i64 2026, .int .i64 11, .int .i64 15] 24 (0, 0))).drew))
 generalize (w.alloc (.cells #[.int .i64 2026, .int .i64 11, .int .i64 15] 24 (0, 0))).drew = w1 at B hHeld ⊢
 replace B := Lib.hid B
 refine pure_ (i := 0) (N := some 8) (v := ?_) (a' := ?_) #[true, false, false, false, false, false, false, false, false, false, false, false, false, false, false] rfl rfl (any_of HT_.out (by kernel_rfl)) (fun _ _ _ h => h) (Or.inl ⟨by rfl, ?_⟩) ?_ ?_
 rotate_left
 ·intro w'
  go_simp
  with_reducible rfl
 rotate_left
 ·simp only [Act.put, List.setIfInBounds_toArray, List.set_cons_zero, List.set_cons_succ, i64_w, i32_w]
  rfl
 refine pure_ (i := 5) (N := some 13) (v := ?_) (a' := ?_) #[true, false, false, false, false, true, false, false, false, false, false, false, false, false, false] rfl rfl (any_of HT_.out (by kernel_rfl)) (fun _ _ _ h => h) (Or.inl ⟨by rfl, ?_⟩) ?_ ?_
 rotate_left
 ·intro w'
  go_simp
  with_reducible rfl
 rotate_left
 ·simp only [Act.put, List.setIfInBounds_toArray, List.set_cons_zero, List.set_cons_succ, i64_w, i32_w]
  rfl
 refine pure_ (i := 10) (N := some 18) (v := ?_) (a' := ?_) #[true, false, false, false, false, true, false, false, false, false, true, false, false, false, false] rfl rfl (any_of HT_.out (by kernel_rfl)) (fun _ _ _ h => h) (Or.inl ⟨by rfl, ?_⟩) ?_ ?_
 rotate_left
 ·intro w'
  go_simp
  with_reducible rfl
 rotate_left
 ·simp only [Act.put, List.setIfInBounds_toArray, List.set_cons_zero, List.set_cons_succ, i64_w, i32_w]
  rfl
 refine pure_ (i := 3) (N := some 11) (v := ?_) (a' := ?_) #[true, false, false, true, false, true, false, false, false, false, true, false, false, false, false] rfl rfl (any_of HT_.out (by kernel_rfl)) (fun _ _ _ h => h) (Or.inl ⟨by rfl, ?_⟩) ?_ ?_
 rotate_left
 ·intro w'
  go_simp
  with_reducible rfl
 rotate_left
 ·simp only [Act.put, List.setIfInBounds_toArray, List.set_cons_zero, List.set_cons_succ, i64_w, i32_w]
  rfl
 refine take_ (i := 1) (N := some 9) (v := ?_) (a' := ?_) #[true, true, false, true, false, true, false, false, false, false, true, false, false, false, false] rfl rfl (take_ofW HT_.out HW_.out (by kernel_rfl)) (fun _ _ _ h => h) (Or.inl ⟨by rfl, ?_⟩) hHeld ?_ ?_
 rotate_left
 ·rintro w' ⟨s0, s1, s2⟩
  go_simp
  with_reducible rfl
 rotate_left
 ·simp only [Act.put, List.setIfInBounds_toArray, List.set_cons_zero, List.set_cons_succ, i64_w, i32_w]
  rfl
 refine take_ (i := 6) (N := some 14) (v := ?_) (a' := ?_) #[true, true, false, true, false, true, true, false, false, false, true, false, false, false, false] rfl rfl (take_ofW HT_.out HW_.out (by kernel_rfl)) (fun _ _ _ h => h) (Or.inl ⟨by rfl, ?_⟩) hHeld ?_ ?_
 rotate_left
 ·rintro w' ⟨s0, s1, s2⟩
  go_simp
  with_reducible rfl
 rotate_left
 ·simp only [Act.put, List.setIfInBounds_toArray, List.set_cons_zero, List.set_cons_succ, i64_w, i32_w]
  rfl
 refine take_ (i := 11) (N := some 19) (v := ?_) (a' := ?_) #[true, true, false, true, false, true, true, false, false, false, true, true, false, false, false] rfl rfl (take_ofW HT_.out HW_.out (by kernel_rfl)) (fun _ _ _ h => h) (Or.inl ⟨by rfl, ?_⟩) hHeld ?_ ?_
 rotate_left
 ·rintro w' ⟨s0, s1, s2⟩
  go_simp
  with_reducible rfl
 rotate_left
 ·simp only [Act.put, List.setIfInBounds_toArray, List.set_cons_zero, List.set_cons_succ, i64_w, i32_w]
  rfl
 refine one_ (i := 2) (N := some 10) #[true, true, true, true, false, true, true, false, false, false, true, true, false, false, false] rfl rfl (one_of HT_.out (by kernel_rfl)) (by decide) (fun K hK => ?_)
 refine goes_ Tryd.func68 (by kernel_rfl) rfl #[.int .i64 2026] (by rfl) rfl rfl (by (try simp only [List.map_toArray, List.map_cons, List.map_nil]); first | done | rfl) ?_
 refine (itoa 2026 ⟨#[50, 48, 50, 54]⟩ _ (by omega) (by omega) i1 (tab_below T.out B.out)).mono ?_
 rintro e w2 ⟨rfl, hb⟩
 refine ⟨_, rfl, ?_⟩
 replace B := Lib.hid (below_then B.out B.out.size hb)
 refine hK.out _ _ ⟨pw_cell_below hb hHeld.1, pw_cell_below hb hHeld.2.1, pw_cell_below hb hHeld.2.2⟩ (fun hHeld => ?_)
 clear hK K hb
 refine norm_ (a' := ?_) ?_ ?_
 rotate_left
 ·show Act.put _ (some 10) _ = _
  simp only [Act.put, List.setIfInBounds_toArray, List.set_cons_zero, List.set_cons_succ, i64_w, i32_w]
  rfl
 refine pure_ (i := 4) (N := some 12) (v := ?_) (a' := ?_) #[true, true, true, true, true, true, true, false, false, false, true, true, false, false, false] rfl rfl (any_of HT_.out (by kernel_rfl)) (fun _ _ _ h => h) (Or.inl ⟨by rfl, ?_⟩) ?_ ?_
 rotate_left
 ·intro w'
  go_simp
  with_reducible rfl
 rotate_left
 ·simp only [Act.put, List.setIfInBounds_toArray, List.set_cons_zero, List.set_cons_succ, i64_w, i32_w]
  rfl
 refine one_ (i := 7) (N := some 15) #[true, true, true, true, true, true, true, true, false, false, true, true, false, false, false] rfl rfl (one_of HT_.out (by kernel_rfl)) (by decide) (fun K hK => ?_)
 refine goes_ Tryd.func68 (by kernel_rfl) rfl #[.int .i64 11] (by rfl) rfl rfl (by (try simp only [List.map_toArray, List.map_cons, List.map_nil]); first | done | rfl) ?_
 refine (itoa 11 ⟨#[49, 49]⟩ _ (by omega) (by omega) i2 (tab_below T.out B.out)).mono ?_
 rintro e w3 ⟨rfl, hb⟩
 refine ⟨_, rfl, ?_⟩
 replace B := Lib.hid (below_then B.out B.out.size hb)
 refine hK.out _ _ ⟨pw_cell_below hb hHeld.1, pw_cell_below hb hHeld.2.1, pw_cell_below hb hHeld.2.2⟩ (fun hHeld => ?_)
 clear hK K hb
 refine norm_ (a' := ?_) ?_ ?_
 rotate_left
 ·show Act.put _ (some 15) _ = _
  simp only [Act.put, List.setIfInBounds_toArray, List.set_cons_zero, List.set_cons_succ, i64_w, i32_w]
  rfl
 refine pure_ (i := 8) (N := some 16) (v := ?_) (a' := ?_) #[true, true, true, true, true, true, true, true, true, false, true, true, false, false, false] rfl rfl (any_of HT_.out (by kernel_rfl)) (fun _ _ _ h => h) (Or.inl ⟨by rfl, ?_⟩) ?_ ?_
 rotate_left
 ·intro w'
  go_simp
  with_reducible rfl
 rotate_left
 ·simp only [Act.put, List.setIfInBounds_toArray, List.set_cons_zero, List.set_cons_succ, i64_w, i32_w]
  rfl
 refine pure_ (i := 9) (N := some 17) (v := ?_) (a' := ?_) #[true, true, true, true, true, true, true, true, true, true, true, true, false, false, false] rfl rfl (any_of HT_.out (by kernel_rfl)) (fun _ _ _ h => h) (Or.inl ⟨by rfl, ?_⟩) ?_ ?_
 rotate_left
 ·intro w'
  go_simp
  with_reducible rfl
 rotate_left
 ·simp only [Act.put, List.setIfInBounds_toArray, List.set_cons_zero, List.set_cons_succ, i64_w, i32_w]
  rfl
 refine one_ (i := 12) (N := some 20) #[true, true, true, true, true, true, true, true, true, true, true, true, true, false, false] rfl rfl (one_of HT_.out (by kernel_rfl)) (by decide) (fun K hK => ?_)
 refine goes_ Tryd.func68 (by kernel_rfl) rfl #[.int .i64 15] (by rfl) rfl rfl (by (try simp only [List.map_toArray, List.map_cons, List.map_nil]); first | done | rfl) ?_
 refine (itoa 15 ⟨#[49, 53]⟩ _ (by omega) (by omega) i3 (tab_below T.out B.out)).mono ?_
 rintro e w4 ⟨rfl, hb⟩
 refine ⟨_, rfl, ?_⟩
 replace B := Lib.hid (below_then B.out B.out.size hb)
 refine hK.out _ _ ⟨pw_cell_below hb hHeld.1, pw_cell_below hb hHeld.2.1, pw_cell_below hb hHeld.2.2⟩ (fun hHeld => ?_)
 clear hK K hb
 refine norm_ (a' := ?_) ?_ ?_
 rotate_left
 ·show Act.put _ (some 20) _ = _
  simp only [Act.put, List.setIfInBounds_toArray, List.set_cons_zero, List.set_cons_succ, i64_w, i32_w]
  rfl
 refine pure_ (i := 13) (N := some 21) (v := ?_) (a' := ?_) #[true, true, true, true, true, true, true, true, true, true, true, true, true, true, false] rfl rfl (any_of HT_.out (by kernel_rfl)) (fun _ _ _ h => h) (Or.inl ⟨by rfl, ?_⟩) ?_ ?_
 rotate_left
 ·intro w'
  go_simp
  with_reducible rfl
 rotate_left
 ·simp only [Act.put, List.setIfInBounds_toArray, List.set_cons_zero, List.set_cons_succ, i64_w, i32_w]
  rfl
 refine pure_ (i := 14) (N := some 4) (v := ?_) (a' := ?_) #[true, true, true, true, true, true, true, true, true, true, true, true, true, true, true] rfl rfl (any_of HT_.out (by kernel_rfl)) (fun _ _ _ h => h) (Or.inl ⟨by rfl, ?_⟩) ?_ ?_
 rotate_left
 ·intro w'
  go_simp
  with_reducible rfl
 rotate_left
 ·simp only [Act.put, List.setIfInBounds_toArray, List.set_cons_zero, List.set_cons_succ, i64_w, i32_w]
  rfl
 refine done_ (done_of HT_.out (by kernel_rfl)) ?_
 clear HT_ HW_
 go_wp2_with fail
 go_ret
 exact ⟨by kernel_rfl, B.out⟩
set_option maxHeartbeats 4000000 in
set_option maxRecDepth 100000 in
theorem text (w : World) (ht : Tab w) : Calls Tryd.prog 8 #[.int .i64 0, .int .i64 739935] w fun e w' => e = .returned (.tuple #[.string ⟨#[50, 48, 50, 54, 45, 49, 49, 45, 49, 53]⟩, .int .i64 0]) ∧ Below w.heap.size w w' := by
 have T := Lib.hid ht
 clear ht
 go_enter Tryd.func8, Tryd.ntmps8
 go_wp2_with fail
 refine (date _).mono ?_
 rintro e w1 ⟨rfl, hB⟩
 have B := Lib.hid hB
 clear hB
 go_wp2_with fail
 refine (written _ (tab_below T.out (by repeat (with_reducible first | exact B.out | apply pw_below_drewN | apply below_drew | apply below_alloc | refine below_set ?_ (by have := B.out.size; simp; omega))))).mono ?_
 rintro e w2 ⟨rfl, hB⟩
 have B2 : Below w.heap.size w w2 := below_then (by repeat (with_reducible first | exact B.out | apply pw_below_drewN | apply below_drew | apply below_alloc | refine below_set ?_ (by have := B.out.size; simp; omega))) (by have := B.out.size; simp; omega) hB
 clear hB
 go_wp2_with fail
 go_ret2
 exact ⟨rfl, B2⟩
set_option maxHeartbeats 4000000 in
theorem awake (w : World) (ht : Tab w) : Calls Tryd.prog 6 #[] w fun e w' => e = .returned (.bool true) ∧ Below w.heap.size w w' := by
 have T := Lib.hid ht
 clear ht
 go_enter Tryd.func6, Tryd.ntmps6
 go_wp2_with fail
 refine (text _ T.out).mono ?_
 rintro e w1 ⟨rfl, hB⟩
 have B := Lib.hid hB
 clear hB
 go_wp2_with fail
 go_ret
 exact ⟨rfl, B.out⟩
end Go.Proofs.YtgbbgcepcnklkaaDoor.ShowAw
