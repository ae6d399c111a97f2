/- Texts of this claim, merged: FunI, Qcop, FunK, FunZ. -/
import Derived.Test.YtgbbgcepcnklkaaDoorMgShowLines5
import Derived.Test.YtgbbgcepcnklkaaDoorMgShowLines14
import Derived.Test.YtgbbgcepcnklkaaDoorMgShowLines1
import Derived.Test.YtgbbgcepcnklkaaDoorMgShowLines6
/- What the program's package iso reckons, in plain numbers. -/
namespace Go.Proofs.YtgbbgcepcnklkaaDoor.FunI
open Go.RowKit Go.Proofs.YtgbbgcepcnklkaaDoorW.PrintWords Go.Proofs.YtgbbgcepcnklkaaDoorW.PrintLast Go.Proofs.YtgbbgcepcnklkaaDoor.Q Go.Proofs.YtgbbgcepcnklkaaDoor.Cal Go.Proofs.YtgbbgcepcnklkaaDoor.FunA Go.Proofs.YtgbbgcepcnklkaaDoor.FunC
theorem wk_rng (y s : Int) (h : -40000 ≤ y) (h' : y ≤ 40000) : -15000002 ≤ wk y s ∧ wk y s ≤ 15000004 := by
 have := ah_bd y h h'; have := wk_bd y s; omega
theorem iFirst (y s : Int) (h : -40000 ≤ y) (h' : y ≤ 40000) (hs : 0 ≤ s) (hs' : s ≤ 6) : iso_first.f y s = some (wk y s) := by
 have hb := ah_bd y h h'
 unfold iso_first.f
 rw [rBegins y h h', Option.bind_some, w64 (x := ah y + 1 + 3) (by omega) (by omega), rWeekday _ ⟨by omega, by omega⟩, Option.bind_some, w64 (x := (ah y + 1 + 3) % 7 - s) (by omega) (by omega), rMod _ 7 (by omega) (by omega) ⟨by omega, by omega⟩, Option.bind_some, w64 (by omega) (by omega)]
 congr 1
 unfold wk; omega
def Wday (s : Int) : Prop := 0 ≤ s ∧ s ≤ 6
theorem iRight_yes (s : Int) (h : Wday s) : iso_right.f s = some true := by
 unfold iso_right.f; rw [if_pos h.1, decide_eq_true (by have := h.2; omega)]
theorem iWeek0 (day s : Int) (hd : In day) (hs : Wday s) : ∀ (j k : Nat) (y : Int), y - (yr day - 1) = j → j + 1 ≤ k → y ≤ yr day + 1 → day < wk (y + 1) s →
  ∃ z, yr day - 1 ≤ z ∧ z ≤ yr day + 1 ∧ wk z s ≤ day ∧ day < wk (z + 1) s ∧ iso_Week.l0 k day s y = some (z, (day - wk z s) / 7 + 1, 0) := by
 have hy := yr_In hd
 have ho := yr_ok day
 intro j
 induction j with
 | zero =>
  intro k y h1 h2 h3 h4
  obtain ⟨k, rfl⟩ : ∃ j, k = j + 1 := ⟨k - 1, by omega⟩
  have e : y = yr day - 1 := by omega
  subst e
  have hw := wk_bd (yr day - 1) s
  have ha := ah_le (show yr day - 1 ≤ yr day by omega)
  have hr := wk_rng (yr day - 1) s (by omega) (by omega)
  have hm := hd.1; have hm' := hd.2
  refine ⟨yr day - 1, by omega, by omega, by omega, h4, ?_⟩
  simp only [iso_Week.l0]
  rw [iFirst _ s (by omega) (by omega) hs.1 hs.2, Option.bind_some, if_neg (by omega), Option.bind_some, w64 (x := day - wk (yr day - 1) s) (by omega) (by omega), Int.tdiv_eq_ediv_of_nonneg (by omega), w64 (x := (day - wk (yr day - 1) s) / 7) (by omega) (by omega), w64 (by omega) (by omega)]
 | succ j ih =>
  intro k y h1 h2 h3 h4
  obtain ⟨k, rfl⟩ : ∃ j, k = j + 1 := ⟨k - 1, by omega⟩
  have hr := wk_rng y s (by omega) (by omega)
  have hm := hd.1; have hm' := hd.2
  simp only [iso_Week.l0]
  rw [iFirst _ s (by omega) (by omega) hs.1 hs.2, Option.bind_some]
  by_cases c : day < wk y s
  ·rw [if_pos c, w64 (by omega) (by omega)]
   exact ih k (y - 1) (by omega) (by omega) (by omega) (by rw [show y - 1 + 1 = y by omega]; exact c)
  ·refine ⟨y, by omega, h3, by omega, h4, ?_⟩
   rw [if_neg c, Option.bind_some, w64 (x := day - wk y s) (by omega) (by omega), Int.tdiv_eq_ediv_of_nonneg (by omega), w64 (x := (day - wk y s) / 7) (by omega) (by omega), w64 (by omega) (by omega)]
theorem iWeek_yes (k : Nat) (hk : 4 ≤ k) (day s : Int) (hd : In day) (hs : Wday s) : ∃ z, 0 ≤ z ∧ z ≤ 10000 ∧ wk z s ≤ day ∧ day < wk (z + 1) s ∧ iso_Week.f k day s = some (z, (day - wk z s) / 7 + 1, 0) := by
 have hy := yr_In hd
 have ho := yr_ok day
 have hw := wk_bd (yr day + 1 + 1) s
 have ha := ah_le (show yr day + 1 ≤ yr day + 1 + 1 by omega)
 obtain ⟨z, h1, h2, h3, h4, h5⟩ := iWeek0 day s hd hs 2 k (yr day + 1) (by omega) (by omega) (by omega) (by omega)
 refine ⟨z, by omega, by omega, h3, h4, ?_⟩
 unfold iso_Week.f
 rw [rOf_yes hd, Option.bind_some, if_pos rfl, iRight_yes s hs, Option.bind_some, if_pos rfl, rYear day (by have := hd.1; omega) (by have := hd.2; omega), Option.bind_some, w64 (by omega) (by omega), h5]
theorem iWeek_range (k : Nat) (day s : Int) (hd : ¬ In day) : iso_Week.f k day s = some (0, 0, 2) := by
 unfold iso_Week.f
 rw [rOf_no hd, Option.bind_some, if_neg (by simp)]
theorem wk_le {x y : Int} (s : Int) (h : x ≤ y) : wk x s + 359 * (y - x) ≤ wk y s := by
 by_cases e : x = y
 ·subst e; omega
 ·have := ah_le h; have := wk_bd x s; have := wk_bd y s; omega
theorem wk_one {x y s day : Int} (hx : wk x s ≤ day) (hx' : day < wk (x + 1) s) (hy : wk y s ≤ day) (hy' : day < wk (y + 1) s) : x = y := by
 by_cases a : x < y
 ·have := wk_le s (show x + 1 ≤ y by omega); omega
 ·by_cases b : y < x
  ·have := wk_le s (show y + 1 ≤ x by omega); omega
  ·omega
/-- The ISO date of a day. -/
theorem iISO_yes (k : Nat) (hk : 4 ≤ k) (day : Int) (hd : In day) : ∃ z, 0 ≤ z ∧ z ≤ 10000 ∧ wk z 1 ≤ day ∧ day < wk (z + 1) 1 ∧ iso_ISO.f k day = some (z, (day - wk z 1) / 7 + 1, (day - wk z 1) % 7 + 1, 0) := by
 obtain ⟨z, h1, h2, h3, h4, h5⟩ := iWeek_yes k hk day 1 hd ⟨by omega, by omega⟩
 have hw := wk_bd z 1
 have hm := hd.1; have hm' := hd.2
 refine ⟨z, h1, h2, h3, h4, ?_⟩
 unfold iso_ISO.f
 rw [h5]
 simp only [Option.bind_some, if_true]
 rw [rWeekday day ⟨by omega, by omega⟩, Option.bind_some, w64 (x := day % 7 - 1) (by omega) (by omega), rMod _ 7 (by omega) (by omega) ⟨by omega, by omega⟩, Option.bind_some, w64 (by omega) (by omega)]
 have e : (day % 7 - 1) % 7 = (day - wk z 1) % 7 := by omega
 rw [e]
theorem iISO_no (k : Nat) (day : Int) (hd : ¬ In day) : iso_ISO.f k day = some (0, 0, 0, 2) := by
 unfold iso_ISO.f
 rw [iWeek_range k day 1 hd]; simp
end Go.Proofs.YtgbbgcepcnklkaaDoor.FunI
-- written by a program of this session (wip/own_print.sh)
namespace Go.Proofs.YtgbbgcepcnklkaaDoor.Q
open Go.RowKit Go.Proofs.YtgbbgcepcnklkaaDoorW.PrintWords Go.Proofs.YtgbbgcepcnklkaaDoorW.PrintLast Go.Proofs.YtgbbgcepcnklkaaDoorW.PrintMore
attribute [local go_sem] max2_int min2_int max_two min_two
set_option linter.unusedVariables false
set_option linter.unusedSimpArgs false
/-! ### julian_copticAhead: function 67 -/
def julian_copticAhead.f (a0 : Int) : Option (Int) := (rata_Floor.f a0 4).bind fun t197 => (some (wrap64 ((wrap64 (103605 + (wrap64 (365 * (wrap64 (a0 - 1)))))) + t197)))
set_option maxHeartbeats 8000000 in
set_option maxRecDepth 100000 in
theorem julian_copticAhead.calls (a0 : Int) (r : Int) (w : World) (h : julian_copticAhead.f a0 = some r) :
  Calls Tryd.prog 67 #[.int .i64 a0] w fun e w' => e = .returned (.int .i64 r) ∧ Drawn0 w w' := by
 have H : ((rata_Floor.f a0 4).bind fun t197 => (some (wrap64 ((wrap64 (103605 + (wrap64 (365 * (wrap64 (a0 - 1)))))) + t197)))) = some r := h
 clear h
 replace H := Option.bind_eq_some_iff.mp H
 obtain ⟨t197, A20, H⟩ := H
 replace H : (some (wrap64 ((wrap64 (103605 + (wrap64 (365 * (wrap64 (a0 - 1)))))) + t197))) = some r := H
 have A2 := Aside0.mk A20
 clear A20
 obtain rfl := Option.some.inj H
 go_enter Tryd.func67, Tryd.ntmps67
 go_wp2_with (first | ((with_reducible refine gate_callee (f := 53) rfl ?_); refine goesL_ (some 8) rfl rfl Tryd.func53 (by kernel_rfl) rfl #[.int .i64 a0, .int .i64 4] rfl (by (try simp only [List.map_toArray, List.map_cons, List.map_nil]); first | done | rfl | (simp only [List.length_drop, List.length_take]; rfl)) ?_; (with_reducible refine (rata_Floor.calls a0 4 t197 _ A2.out).mono ?_); rintro e w' ⟨rfl, ⟨nd, rfl⟩⟩; refine ⟨_, rfl, ?_⟩))
 go_ret
 exact ⟨by first | rfl | (simp; done) | (simp [*]; done) | (simp [bne_nil_]; done), by repeat (first | exact Drawn0.refl _ | apply Drawn0.step)⟩

/-! ### julian_Coptic: function 24 -/
def julian_Coptic.f (a0 : Int) : Option (Int × Int × Int × Int) := (rata_Of.f a0).bind fun t199 => (if t199 = true then ((rata_Floor.f (wrap64 ((wrap64 (4 * (wrap64 (a0 - 103605)))) + 1463)) 1461).bind fun t200 => ((julian_copticAhead.f t200).bind fun t201 => (some (t200, wrap64 ((wrap64 (Int.tdiv (wrap64 (a0 - t201)) 30)) + 1), wrap64 ((Int.tmod (wrap64 (a0 - t201)) 30) + 1), 0)))) else (some (0, 0, 0, 2)))
set_option maxHeartbeats 8000000 in
set_option maxRecDepth 100000 in
theorem julian_Coptic.calls (a0 : Int) (r1 : Int) (r2 : Int) (r3 : Int) (r4 : Int) (w : World) (h : julian_Coptic.f a0 = some (r1, r2, r3, r4)) :
  Calls Tryd.prog 24 #[.int .i64 a0] w fun e w' => e = .returned (.tuple #[.agg #[.int .i64 r1, .int .i64 r2, .int .i64 r3], .int .i64 r4]) ∧ Below w.heap.size w w' := by
 have hu24 := Tryd.underlying24
 have HB := Aside0.mk (Below.refl w.heap.size w)
 have H : ((rata_Of.f a0).bind fun t199 => (if t199 = true then ((rata_Floor.f (wrap64 ((wrap64 (4 * (wrap64 (a0 - 103605)))) + 1463)) 1461).bind fun t200 => ((julian_copticAhead.f t200).bind fun t201 => (some (t200, wrap64 ((wrap64 (Int.tdiv (wrap64 (a0 - t201)) 30)) + 1), wrap64 ((Int.tmod (wrap64 (a0 - t201)) 30) + 1), 0)))) else (some (0, 0, 0, 2)))) = some (r1, r2, r3, r4) := h
 clear h
 replace H := Option.bind_eq_some_iff.mp H
 obtain ⟨t199, A20, H⟩ := H
 replace H : (if t199 = true then ((rata_Floor.f (wrap64 ((wrap64 (4 * (wrap64 (a0 - 103605)))) + 1463)) 1461).bind fun t200 => ((julian_copticAhead.f t200).bind fun t201 => (some (t200, wrap64 ((wrap64 (Int.tdiv (wrap64 (a0 - t201)) 30)) + 1), wrap64 ((Int.tmod (wrap64 (a0 - t201)) 30) + 1), 0)))) else (some (0, 0, 0, 2))) = some (r1, r2, r3, r4) := H
 have A2 := Aside0.mk A20
 clear A20
 by_cases c3 : t199 = true
 ·subst c3
  have H1 : ((rata_Floor.f (wrap64 ((wrap64 (4 * (wrap64 (a0 - 103605)))) + 1463)) 1461).bind fun t200 => ((julian_copticAhead.f t200).bind fun t201 => (some (t200, wrap64 ((wrap64 (Int.tdiv (wrap64 (a0 - t201)) 30)) + 1), wrap64 ((Int.tmod (wrap64 (a0 - t201)) 30) + 1), 0)))) = some (r1, r2, r3, r4) := by rw [if_pos rfl] at H; exact H
  clear H
  have H := H1
  clear H1
  replace H := Option.bind_eq_some_iff.mp H
  obtain ⟨t200, A40, H⟩ := H
  replace H : ((julian_copticAhead.f t200).bind fun t201 => (some (t200, wrap64 ((wrap64 (Int.tdiv (wrap64 (a0 - t201)) 30)) + 1), wrap64 ((Int.tmod (wrap64 (a0 - t201)) 30) + 1), 0))) = some (r1, r2, r3, r4) := H
  have A4 := Aside0.mk A40
  clear A40
  replace H := Option.bind_eq_some_iff.mp H
  obtain ⟨t201, A50, H⟩ := H
  replace H : (some (t200, wrap64 ((wrap64 (Int.tdiv (wrap64 (a0 - t201)) 30)) + 1), wrap64 ((Int.tmod (wrap64 (a0 - t201)) 30) + 1), 0)) = some (r1, r2, r3, r4) := H
  have A5 := Aside0.mk A50
  clear A50
  simp only [Option.some.injEq, Prod.mk.injEq] at H
  obtain ⟨rfl, rfl, rfl, rfl⟩ := H
  go_enter Tryd.func24, Tryd.ntmps24
  go_wp2_with (first | ((with_reducible refine gate_dst (N := 2) rfl ?_); refine box_event ?hg (N := 2) ?hd (cs := #[.int .i64 0, .int .i64 0, .int .i64 0]) (t := 24) ?hr ?_; (case hd => rfl); (case hg => rfl); (case hr => first | (go_simp; done) | (go_simp; rfl)); intro gb198 hg w6 hbox hb; have n0_ := Aside0.mk (below_step (by repeat (first | (with_reducible first | exact HB.out | apply below_alloc | apply pw_below_drewN | apply below_drew1) | exact HB.out)) hb); have n1_ := Aside0.mk (hbox); have n2_ := Aside0.mk ((by rw [hg]; exact (below_size (by repeat (first | (with_reducible first | exact HB.out | apply below_alloc | apply pw_below_drewN | apply below_drew1) | exact HB.out))) : w.heap.size ≤ gb198)); have n3_ := Aside0.mk ((by rw [hg]; exact (below_size (by repeat (first | (with_reducible first | exact HB.out | apply below_alloc | apply pw_below_drewN | apply below_drew1) | exact HB.out))) : w.heap.size ≤ gb198)); clear HB; have HB := n0_; have BK198 := n1_; have GW198 := n2_; have GE198 := n3_; clear n0_ n1_ n2_ n3_; clear hb hbox hg) | ((with_reducible refine gate_callee (f := 49) rfl ?_); refine goesL_ (some 7) rfl rfl Tryd.func49 (by kernel_rfl) rfl #[.int .i64 a0] rfl (by (try simp only [List.map_toArray, List.map_cons, List.map_nil]); first | done | rfl | (simp only [List.length_drop, List.length_take]; rfl)) ?_; (with_reducible refine (rata_Of.calls a0 true _ A2.out).mono ?_); rintro e w' ⟨rfl, ⟨nd, rfl⟩⟩; refine ⟨_, rfl, ?_⟩; (try (rw [drewN_self w6]; generalize hq_ : World.drewN w6 _ = w6; have n0_ : Aside0 (w6.heap[gb198]? = some (.cells #[.int .i64 0, .int .i64 0, .int .i64 0] 24 (0, 0))) := ⟨by rw [← hq_]; exact (by (with_reducible repeat (first | refine blk_drewN ?_ _ | refine blk_drew ?_ | refine blk_alloc ?_ _)); exact BK198.out)⟩; have n1_ : Aside0 (Below w.heap.size w w6) := ⟨by rw [← hq_]; exact (by repeat (first | (with_reducible first | exact HB.out | apply below_alloc | apply pw_below_drewN | apply below_drew1 | refine below_set ?_ GE198.out) | exact HB.out))⟩; clear BK198 HB hq_; have BK198 := n0_; have HB := n1_; clear n0_ n1_)); (try (have hcz7_0 : w6.cell? ⟨gb198, 0, none⟩ = some (.int .i64 0) := (blk_cell BK198.out 0).trans rfl; have hcz7_1 : w6.cell? ⟨gb198, 1, none⟩ = some (.int .i64 0) := (blk_cell BK198.out 1).trans rfl; have hcz7_2 : w6.cell? ⟨gb198, 2, none⟩ = some (.int .i64 0) := (blk_cell BK198.out 2).trans rfl; have hfz7_0 := blk_frozen BK198.out 0; have hfz7_1 := blk_frozen BK198.out 1; have hfz7_2 := blk_frozen BK198.out 2))) | ((with_reducible refine gate_callee (f := 53) rfl ?_); refine goesL_ (some 14) rfl rfl Tryd.func53 (by kernel_rfl) rfl #[.int .i64 (wrap64 ((wrap64 (4 * (wrap64 (a0 - 103605)))) + 1463)), .int .i64 1461] rfl (by (try simp only [List.map_toArray, List.map_cons, List.map_nil]); first | done | rfl | (simp only [List.length_drop, List.length_take]; rfl)) ?_; (with_reducible refine (rata_Floor.calls (wrap64 ((wrap64 (4 * (wrap64 (a0 - 103605)))) + 1463)) 1461 t200 _ A4.out).mono ?_); rintro e w' ⟨rfl, ⟨nd, rfl⟩⟩; refine ⟨_, rfl, ?_⟩; (try (rw [drewN_self w6]; generalize hq_ : World.drewN w6 _ = w6; have n0_ : Aside0 (w6.heap[gb198]? = some (.cells #[.int .i64 0, .int .i64 0, .int .i64 0] 24 (0, 0))) := ⟨by rw [← hq_]; exact (by (with_reducible repeat (first | refine blk_drewN ?_ _ | refine blk_drew ?_ | refine blk_alloc ?_ _)); exact BK198.out)⟩; have n1_ : Aside0 (Below w.heap.size w w6) := ⟨by rw [← hq_]; exact (by repeat (first | (with_reducible first | exact HB.out | apply below_alloc | apply pw_below_drewN | apply below_drew1 | refine below_set ?_ GE198.out) | exact HB.out))⟩; clear BK198 HB hq_; have BK198 := n0_; have HB := n1_; clear n0_ n1_)); (try (have hcz8_0 : w6.cell? ⟨gb198, 0, none⟩ = some (.int .i64 0) := (blk_cell BK198.out 0).trans rfl; have hcz8_1 : w6.cell? ⟨gb198, 1, none⟩ = some (.int .i64 0) := (blk_cell BK198.out 1).trans rfl; have hcz8_2 : w6.cell? ⟨gb198, 2, none⟩ = some (.int .i64 0) := (blk_cell BK198.out 2).trans rfl; have hfz8_0 := blk_frozen BK198.out 0; have hfz8_1 := blk_frozen BK198.out 1; have hfz8_2 := blk_frozen BK198.out 2))) | ((with_reducible refine gate_callee (f := 67) rfl ?_); refine goesL_ (some 17) rfl rfl Tryd.func67 (by kernel_rfl) rfl #[.int .i64 t200] rfl (by (try simp only [List.map_toArray, List.map_cons, List.map_nil]); first | done | rfl | (simp only [List.length_drop, List.length_take]; rfl)) ?_; (with_reducible refine (julian_copticAhead.calls t200 t201 _ A5.out).mono ?_); rintro e w' ⟨rfl, ⟨nd, rfl⟩⟩; refine ⟨_, rfl, ?_⟩; (try (rw [drewN_self w6]; generalize hq_ : World.drewN w6 _ = w6; have n0_ : Aside0 (w6.heap[gb198]? = some (.cells #[.int .i64 0, .int .i64 0, .int .i64 0] 24 (0, 0))) := ⟨by rw [← hq_]; exact (by (with_reducible repeat (first | refine blk_drewN ?_ _ | refine blk_drew ?_ | refine blk_alloc ?_ _)); exact BK198.out)⟩; have n1_ : Aside0 (Below w.heap.size w w6) := ⟨by rw [← hq_]; exact (by repeat (first | (with_reducible first | exact HB.out | apply below_alloc | apply pw_below_drewN | apply below_drew1 | refine below_set ?_ GE198.out) | exact HB.out))⟩; clear BK198 HB hq_; have BK198 := n0_; have HB := n1_; clear n0_ n1_)); (try (have hcz9_0 : w6.cell? ⟨gb198, 0, none⟩ = some (.int .i64 0) := (blk_cell BK198.out 0).trans rfl; have hcz9_1 : w6.cell? ⟨gb198, 1, none⟩ = some (.int .i64 0) := (blk_cell BK198.out 1).trans rfl; have hcz9_2 : w6.cell? ⟨gb198, 2, none⟩ = some (.int .i64 0) := (blk_cell BK198.out 2).trans rfl; have hfz9_0 := blk_frozen BK198.out 0; have hfz9_1 := blk_frozen BK198.out 1; have hfz9_2 := blk_frozen BK198.out 2)); have hcz10_0 : w6.cell? ⟨gb198, 0, none⟩ = some (.int .i64 0) := (blk_cell BK198.out 0).trans rfl; have hcz10_1 : w6.cell? ⟨gb198, 1, none⟩ = some (.int .i64 0) := (blk_cell BK198.out 1).trans rfl; have hcz10_2 : w6.cell? ⟨gb198, 2, none⟩ = some (.int .i64 0) := (blk_cell BK198.out 2).trans rfl; have hfz10_0 := blk_frozen BK198.out 0; have hfz10_1 := blk_frozen BK198.out 1; have hfz10_2 := blk_frozen BK198.out 2))
  refine bodyPost_ret (results_ct rfl _ _ gb198 24 #[.int .i64 t200, .int .i64 (wrap64 ((wrap64 (Int.tdiv (wrap64 (a0 - t201)) 30)) + 1)), .int .i64 (wrap64 ((Int.tmod (wrap64 (a0 - t201)) 30) + 1))] (0, 0) _ rfl (by (with_reducible repeat (first | refine blk_drewN ?_ _ | refine blk_drew ?_ | refine blk_alloc ?_ _)); refine blk_put (cs := #[.int .i64 t200, .int .i64 (wrap64 ((wrap64 (Int.tdiv (wrap64 (a0 - t201)) 30)) + 1)), .int .i64 0]) ?_ 2 _ rfl; (with_reducible repeat (first | refine blk_drewN ?_ _ | refine blk_drew ?_ | refine blk_alloc ?_ _)); refine blk_put (cs := #[.int .i64 t200, .int .i64 0, .int .i64 0]) ?_ 1 _ rfl; (with_reducible repeat (first | refine blk_drewN ?_ _ | refine blk_drew ?_ | refine blk_alloc ?_ _)); refine blk_put (cs := #[.int .i64 0, .int .i64 0, .int .i64 0]) ?_ 0 _ rfl; (with_reducible repeat (first | refine blk_drewN ?_ _ | refine blk_drew ?_ | refine blk_alloc ?_ _)); exact BK198.out) Tryd.underlying24 rfl (by kernel_rfl)) rfl ?_
  exact ⟨by first | rfl | (simp [errW_none, errW_some] <;> rfl) | (simp [*, errW_none, errW_some] <;> rfl), by repeat (first | (with_reducible first | exact HB.out | apply below_alloc | apply pw_below_drewN | apply below_drew1 | refine below_set ?_ GE198.out) | exact HB.out)⟩
 ·replace c3 := Bool.eq_false_iff.mpr c3
  subst c3
  have H1 : (some (0, 0, 0, 2)) = some (r1, r2, r3, r4) := by rw [if_neg (show ¬ (false = true) by decide)] at H; exact H
  clear H
  have H := H1
  clear H1
  simp only [Option.some.injEq, Prod.mk.injEq] at H
  obtain ⟨rfl, rfl, rfl, rfl⟩ := H
  go_enter Tryd.func24, Tryd.ntmps24
  go_wp2_with (first | ((with_reducible refine gate_dst (N := 2) rfl ?_); refine box_event ?hg (N := 2) ?hd (cs := #[.int .i64 0, .int .i64 0, .int .i64 0]) (t := 24) ?hr ?_; (case hd => rfl); (case hg => rfl); (case hr => first | (go_simp; done) | (go_simp; rfl)); intro gb198 hg w11 hbox hb; have n0_ := Aside0.mk (below_step (by repeat (first | (with_reducible first | exact HB.out | apply below_alloc | apply pw_below_drewN | apply below_drew1) | exact HB.out)) hb); have n1_ := Aside0.mk (hbox); have n2_ := Aside0.mk ((by rw [hg]; exact (below_size (by repeat (first | (with_reducible first | exact HB.out | apply below_alloc | apply pw_below_drewN | apply below_drew1) | exact HB.out))) : w.heap.size ≤ gb198)); have n3_ := Aside0.mk ((by rw [hg]; exact (below_size (by repeat (first | (with_reducible first | exact HB.out | apply below_alloc | apply pw_below_drewN | apply below_drew1) | exact HB.out))) : w.heap.size ≤ gb198)); clear HB; have HB := n0_; have BK198 := n1_; have GW198 := n2_; have GE198 := n3_; clear n0_ n1_ n2_ n3_; clear hb hbox hg) | ((with_reducible refine gate_callee (f := 49) rfl ?_); refine goesL_ (some 7) rfl rfl Tryd.func49 (by kernel_rfl) rfl #[.int .i64 a0] rfl (by (try simp only [List.map_toArray, List.map_cons, List.map_nil]); first | done | rfl | (simp only [List.length_drop, List.length_take]; rfl)) ?_; (with_reducible refine (rata_Of.calls a0 false _ A2.out).mono ?_); rintro e w' ⟨rfl, ⟨nd, rfl⟩⟩; refine ⟨_, rfl, ?_⟩; (try (rw [drewN_self w11]; generalize hq_ : World.drewN w11 _ = w11; have n0_ : Aside0 (w11.heap[gb198]? = some (.cells #[.int .i64 0, .int .i64 0, .int .i64 0] 24 (0, 0))) := ⟨by rw [← hq_]; exact (by (with_reducible repeat (first | refine blk_drewN ?_ _ | refine blk_drew ?_ | refine blk_alloc ?_ _)); exact BK198.out)⟩; have n1_ : Aside0 (Below w.heap.size w w11) := ⟨by rw [← hq_]; exact (by repeat (first | (with_reducible first | exact HB.out | apply below_alloc | apply pw_below_drewN | apply below_drew1 | refine below_set ?_ GE198.out) | exact HB.out))⟩; clear BK198 HB hq_; have BK198 := n0_; have HB := n1_; clear n0_ n1_)); (try (have hcz12_0 : w11.cell? ⟨gb198, 0, none⟩ = some (.int .i64 0) := (blk_cell BK198.out 0).trans rfl; have hcz12_1 : w11.cell? ⟨gb198, 1, none⟩ = some (.int .i64 0) := (blk_cell BK198.out 1).trans rfl; have hcz12_2 : w11.cell? ⟨gb198, 2, none⟩ = some (.int .i64 0) := (blk_cell BK198.out 2).trans rfl; have hfz12_0 := blk_frozen BK198.out 0; have hfz12_1 := blk_frozen BK198.out 1; have hfz12_2 := blk_frozen BK198.out 2)); have hcz13_0 : w11.cell? ⟨gb198, 0, none⟩ = some (.int .i64 0) := (blk_cell BK198.out 0).trans rfl; have hcz13_1 : w11.cell? ⟨gb198, 1, none⟩ = some (.int .i64 0) := (blk_cell BK198.out 1).trans rfl; have hcz13_2 : w11.cell? ⟨gb198, 2, none⟩ = some (.int .i64 0) := (blk_cell BK198.out 2).trans rfl; have hfz13_0 := blk_frozen BK198.out 0; have hfz13_1 := blk_frozen BK198.out 1; have hfz13_2 := blk_frozen BK198.out 2))
  refine bodyPost_ret (results_ct rfl _ _ gb198 24 #[.int .i64 0, .int .i64 0, .int .i64 0] (0, 0) _ rfl (by (with_reducible repeat (first | refine blk_drewN ?_ _ | refine blk_drew ?_ | refine blk_alloc ?_ _)); refine blk_put (cs := #[.int .i64 0, .int .i64 0, .int .i64 0]) ?_ 2 _ rfl; (with_reducible repeat (first | refine blk_drewN ?_ _ | refine blk_drew ?_ | refine blk_alloc ?_ _)); refine blk_put (cs := #[.int .i64 0, .int .i64 0, .int .i64 0]) ?_ 1 _ rfl; (with_reducible repeat (first | refine blk_drewN ?_ _ | refine blk_drew ?_ | refine blk_alloc ?_ _)); refine blk_put (cs := #[.int .i64 0, .int .i64 0, .int .i64 0]) ?_ 0 _ rfl; (with_reducible repeat (first | refine blk_drewN ?_ _ | refine blk_drew ?_ | refine blk_alloc ?_ _)); exact BK198.out) Tryd.underlying24 rfl (by kernel_rfl)) rfl ?_
  exact ⟨by first | rfl | (simp [errW_none, errW_some] <;> rfl) | (simp [*, errW_none, errW_some] <;> rfl), by repeat (first | (with_reducible first | exact HB.out | apply below_alloc | apply pw_below_drewN | apply below_drew1 | refine below_set ?_ GE198.out) | exact HB.out)⟩

-- NOT PRINTED: function 7 (show_Date)
/-! ### julian_copticLength: function 87 -/
/-! ### julian_FromCoptic: function 46 -/
-- NOT PRINTED: function 15 (show_Day)
end Go.Proofs.YtgbbgcepcnklkaaDoor.Q
/- What the program's Coptic dates (package julian) are, in plain numbers. -/
namespace Go.Proofs.YtgbbgcepcnklkaaDoor.FunK
open Go.RowKit Go.Proofs.YtgbbgcepcnklkaaDoorW.PrintWords Go.Proofs.YtgbbgcepcnklkaaDoorW.PrintLast Go.Proofs.YtgbbgcepcnklkaaDoor.Q Go.Proofs.YtgbbgcepcnklkaaDoor.Cal Go.Proofs.YtgbbgcepcnklkaaDoor.FunA Go.Proofs.YtgbbgcepcnklkaaDoor.FunC Go.Proofs.YtgbbgcepcnklkaaDoor.FunJ
theorem kbd (y : Int) (h : -40000 ≤ y) (h' : y ≤ 40000) : -15000000 ≤ cb y ∧ cb y ≤ 15000000 := by unfold cb; omega
theorem kAhead (y : Int) (h : -40000 ≤ y) (h' : y ≤ 40000) : julian_copticAhead.f y = some (cb y + 1) := by
 unfold julian_copticAhead.f
 rw [rFloor _ 4 (by omega) ⟨by omega, by omega⟩, Option.bind_some, w64 (x := y - 1) (by omega) (by omega)]
 congr 1
 unfold cb wrap64; omega
theorem kDate_yes (day : Int) (h : In day) : ∃ y m d, julian_Coptic.f day = some (y, m, d, 0) ∧ IsC y m d day ∧ -20000 ≤ y ∧ y ≤ 20000 := by
 obtain ⟨h1, h2⟩ := h
 have hy : cb ((4 * (day - 103605) + 1463) / 1461) < day ∧ day ≤ cb ((4 * (day - 103605) + 1463) / 1461 + 1) ∧ -20000 ≤ (4 * (day - 103605) + 1463) / 1461 ∧ (4 * (day - 103605) + 1463) / 1461 ≤ 20000 := by
  unfold cb; omega
 have e : julian_Coptic.f day = (julian_copticAhead.f ((4 * (day - 103605) + 1463) / 1461)).bind fun t => some ((4 * (day - 103605) + 1463) / 1461, wrap64 ((wrap64 (Int.tdiv (wrap64 (day - t)) 30)) + 1), wrap64 ((Int.tmod (wrap64 (day - t)) 30) + 1), 0) := by
  unfold julian_Coptic.f
  rw [rOf_yes ⟨h1, h2⟩, Option.bind_some, if_pos rfl, w64 (x := day - 103605) (by omega) (by omega), w64 (x := 4 * (day - 103605)) (by omega) (by omega), w64 (x := 4 * (day - 103605) + 1463) (by omega) (by omega), rFloor _ 1461 (by omega) ⟨by omega, by omega⟩, Option.bind_some]
 rw [e]
 generalize (4 * (day - 103605) + 1463) / 1461 = y at *
 obtain ⟨a1, a2, a3, a4⟩ := hy
 have hb := kbd y (by omega) (by omega)
 have hs := cb_succ y
 have hl := lc_56 y
 rw [kAhead y (by omega) (by omega), Option.bind_some, w64 (x := day - (cb y + 1)) (by omega) (by omega), Int.tdiv_eq_ediv_of_nonneg (by omega), Int.tmod_eq_emod_of_nonneg (by omega)]
 have e0 : 0 ≤ day - (cb y + 1) ∧ day - (cb y + 1) < 366 := by omega
 rw [w64 (x := (day - (cb y + 1)) / 30) (by omega) (by omega), w64 (x := (day - (cb y + 1)) / 30 + 1) (by omega) (by omega), w64 (x := (day - (cb y + 1)) % 30 + 1) (by omega) (by omega)]
 exact ⟨y, _, _, rfl, ⟨by omega, by omega, by omega, by omega, by omega, by omega⟩, a3, a4⟩
theorem kDate_no (day : Int) (h : ¬ In day) : julian_Coptic.f day = some (0, 0, 0, 2) := by
 unfold julian_Coptic.f
 rw [rOf_no h, Option.bind_some, if_neg (by simp)]
end Go.Proofs.YtgbbgcepcnklkaaDoor.FunK
/- Each calendar's date of a day, as the program tells it, is the reference's. -/
namespace Go.Proofs.YtgbbgcepcnklkaaDoor.FunZ
open Go.RowKit Go.Proofs.YtgbbgcepcnklkaaDoorW.PrintWords Go.Proofs.YtgbbgcepcnklkaaDoorW.PrintLast Go.Proofs.YtgbbgcepcnklkaaDoor.Q Go.Proofs.YtgbbgcepcnklkaaDoor.Cal Go.Proofs.YtgbbgcepcnklkaaDoor.FunA Go.Proofs.YtgbbgcepcnklkaaDoor.FunB Go.Proofs.YtgbbgcepcnklkaaDoor.FunC Go.Proofs.YtgbbgcepcnklkaaDoor.FunD Go.Proofs.YtgbbgcepcnklkaaDoor.FunI Go.Proofs.YtgbbgcepcnklkaaDoor.FunJ Go.Proofs.YtgbbgcepcnklkaaDoor.FunK Go.Proofs.YtgbbgcepcnklkaaDoor.Cal3
set_option linter.unusedVariables false
set_option linter.unusedSimpArgs false
/-- The rounds that are enough. -/
abbrev K : Nat := 50000
theorem date0 (a : Int) : ∃ y m d e, rata_Date.f K a = some (y, m, d, e) ∧ trystref01_Date.f K 0 a = some (y, m, d, e) ∧ -20000 ≤ y ∧ y ≤ 20000 ∧ (e = 0 ∨ e = 2) ∧ (e = 0 → 1 ≤ m ∧ m ≤ 60 ∧ 1 ≤ d ∧ d ≤ 60) := by
 by_cases h : In a
 ·obtain ⟨m, d, e, hd⟩ := rDate_yes K (by decide) a h
  obtain ⟨y', m', d', e', hd'⟩ := fDate0 K (by decide) a h
  obtain ⟨r1, r2, r3⟩ := Is.one greg hd hd'
  rw [← r1, ← r2, ← r3] at e'
  have hy := yr_In h
  have hm := hd.m1; have hm2 := hd.m2; have h1 := hd.d1; have h2 := hd.d2
  have hl := dim_lo (lp (yr a)) m (lp_01 _) hm hm2
  exact ⟨_, m, d, 0, e, e', by omega, by omega, Or.inl rfl, fun _ => by omega⟩
 ·exact ⟨0, 0, 0, 2, rDate_no _ a h, fDate_no _ _ a h, by omega, by omega, Or.inr rfl, fun q => by omega⟩
theorem date1 (a : Int) : ∃ y m d e, julian_Julian.f K a = some (y, m, d, e) ∧ trystref01_Date.f K 1 a = some (y, m, d, e) ∧ -20000 ≤ y ∧ y ≤ 20000 ∧ (e = 0 ∨ e = 2) ∧ (e = 0 → 1 ≤ m ∧ m ≤ 60 ∧ 1 ≤ d ∧ d ≤ 60) := by
 by_cases h : In a
 ·obtain ⟨y, m, d, e, hd, h3, h4⟩ := jDate_yes K (by decide) a h
  obtain ⟨y', m', d', e', hd'⟩ := fDate1 K (by decide) a h
  obtain ⟨r1, r2, r3⟩ := Is.one jul hd hd'
  rw [← r1, ← r2, ← r3] at e'
  have hm := hd.m1; have hm2 := hd.m2; have h1 := hd.d1; have h2 := hd.d2
  have hl := dim_lo (lj y) m (lj_01 _) hm hm2
  exact ⟨y, m, d, 0, e, e', by omega, by omega, Or.inl rfl, fun _ => by omega⟩
 ·exact ⟨0, 0, 0, 2, jDate_no _ a h, fDate_no _ _ a h, by omega, by omega, Or.inr rfl, fun q => by omega⟩
theorem date2 (a : Int) : ∃ y m d e, iso_ISO.f K a = some (y, m, d, e) ∧ trystref01_Date.f K 2 a = some (y, m, d, e) ∧ -20000 ≤ y ∧ y ≤ 20000 ∧ (e = 0 ∨ e = 2) ∧ (e = 0 → 1 ≤ m ∧ m ≤ 60 ∧ 1 ≤ d ∧ d ≤ 60) := by
 by_cases h : In a
 ·obtain ⟨y, y1, y2, h1, h2, e⟩ := iISO_yes K (by decide) a h
  obtain ⟨y', m', d', e', z1, z2, h3, h4, h5, h6⟩ := fDate2 K (by decide) a h
  have r := wk_one h1 h2 h3 h4
  subst r
  obtain ⟨n, hn, hw⟩ := wks y 1
  rw [h5, h6] at e'
  exact ⟨y, _, _, 0, e, e', by omega, by omega, Or.inl rfl, fun _ => by omega⟩
 ·exact ⟨0, 0, 0, 2, iISO_no _ a h, fDate_no _ _ a h, by omega, by omega, Or.inr rfl, fun q => by omega⟩
theorem date6 (a : Int) : ∃ y m d e, julian_Coptic.f a = some (y, m, d, e) ∧ trystref01_Date.f K 6 a = some (y, m, d, e) ∧ -20000 ≤ y ∧ y ≤ 20000 ∧ (e = 0 ∨ e = 2) ∧ (e = 0 → 1 ≤ m ∧ m ≤ 60 ∧ 1 ≤ d ∧ d ≤ 60) := by
 by_cases h : In a
 ·obtain ⟨y, m, d, e, hd, h3, h4⟩ := kDate_yes a h
  obtain ⟨y', m', d', e', hd'⟩ := fDate6 K (by decide) a h
  obtain ⟨r1, r2, r3⟩ := IsC.one hd hd'
  rw [← r1, ← r2, ← r3] at e'
  obtain ⟨a1, a2, a3, a4, a5, a6⟩ := hd
  exact ⟨y, m, d, 0, e, e', by omega, by omega, Or.inl rfl, fun _ => by omega⟩
 ·exact ⟨0, 0, 0, 2, kDate_no a h, fDate_no _ _ a h, by omega, by omega, Or.inr rfl, fun q => by omega⟩
theorem date4 (a : Int) : ∃ y m d e, islam_Islamic.f K a = some (y, m, d, e) ∧ trystref01_Date.f K 4 a = some (y, m, d, e) ∧ -20000 ≤ y ∧ y ≤ 20000 ∧ (e = 0 ∨ e = 2) ∧ (e = 0 → 1 ≤ m ∧ m ≤ 60 ∧ 1 ≤ d ∧ d ≤ 60) := by
 by_cases h : In a
 ·obtain ⟨y, m, d, e, hd⟩ := FunMd.mDate_yes K (by decide) a h
  obtain ⟨y', m', d', e', hd'⟩ := FunRd.date4 K (by decide) a h
  obtain ⟨r1, r2, r3⟩ := IsI.one hd hd'
  rw [← r1, ← r2, ← r3] at e'
  have hyy := hd.year
  have hm := hd.m1; have hm2 := hd.m2; have h1 := hd.d1; have h2 := hd.d2
  have hl := il_lo (li y) m (li_01 _) hm hm2
  obtain ⟨a1, a2⟩ := h
  have hy1 : -20000 ≤ y := by
   by_cases q : -20000 ≤ y
   ·exact q
   ·have := ib_le (show y + 1 ≤ -19999 by omega); have e0 : ib (-19999) < 0 := by decide
    omega
  have hy2 : y ≤ 20000 := by
   by_cases q : y ≤ 20000
   ·exact q
   ·have := ib_le (show 20000 ≤ y by omega); have e0 : 3652059 < ib 20000 := by decide
    omega
  exact ⟨y, m, d, 0, e, e', hy1, hy2, Or.inl rfl, fun _ => by omega⟩
 ·exact ⟨0, 0, 0, 2, FunMd.mDate_no _ a h, fDate_no _ _ a h, by omega, by omega, Or.inr rfl, fun q => by omega⟩
theorem date5 (a : Int) : ∃ y m d e, persian_Persian.f K a = some (y, m, d, e) ∧ trystref01_Date.f K 5 a = some (y, m, d, e) ∧ -20000 ≤ y ∧ y ≤ 20000 ∧ (e = 0 ∨ e = 2) ∧ (e = 0 → 1 ≤ m ∧ m ≤ 60 ∧ 1 ≤ d ∧ d ≤ 60) := by
 by_cases h : In a
 ·obtain ⟨y, m, d, e, z, hd⟩ := FunMd.sDate_yes K (by decide) a h
  obtain ⟨y', m', d', e', z', hd'⟩ := FunRd.date5 K (by decide) a h
  obtain ⟨r1, r2, r3⟩ := IsP.one z z' hd hd'
  rw [← r1, ← r2, ← r3] at e'
  have hyy := hd.year
  have hm := hd.m1; have hm2 := hd.m2; have h1 := hd.d1; have h2 := hd.d2
  have hl := pdim_lo (pl (ps y)) m (pl_01 _) hm hm2
  obtain ⟨a1, a2⟩ := h
  have hz1 : -19000 ≤ ps y := by
   by_cases q : -19000 ≤ ps y
   ·exact q
   ·have := pz_le (show ps y + 1 ≤ -18999 by omega); have e0 : pz (-18999) < 0 := by decide
    omega
  have hz2 : ps y ≤ 19000 := by
   by_cases q : ps y ≤ 19000
   ·exact q
   ·have := pz_le (show 19000 ≤ ps y by omega); have e0 : 3652059 < pz 19000 := by decide
    omega
  have hy12 : -20000 ≤ y ∧ y ≤ 20000 := by unfold ps at hz1 hz2; split at hz1 <;> omega
  exact ⟨y, m, d, 0, e, e', hy12.1, hy12.2, Or.inl rfl, fun _ => by omega⟩
 ·exact ⟨0, 0, 0, 2, FunMd.sDate_no _ a h, fDate_no _ _ a h, by omega, by omega, Or.inr rfl, fun q => by omega⟩
theorem date3 (a : Int) : ∃ y m d e, hebrew_Hebrew.f K a = some (y, m, d, e) ∧ trystref01_Date.f K 3 a = some (y, m, d, e) ∧ -20000 ≤ y ∧ y ≤ 20000 ∧ (e = 0 ∨ e = 2) ∧ (e = 0 → 1 ≤ m ∧ m ≤ 60 ∧ 1 ≤ d ∧ d ≤ 60) := by
 by_cases h : In a
 ·obtain ⟨y, m, d, e, z1, z2, hd⟩ := FunMd.hDate_yes K (by decide) a h
  obtain ⟨y', m', d', e', z1', z2', hd'⟩ := FunRd.date3 K (by decide) a h
  obtain ⟨r1, r2, r3⟩ := FunMd.IsH.one hd hd' z1 (by omega) z1' (by omega)
  rw [← r1, ← r2, ← r3] at e'
  have l01 := CalH.hl_01 y
  have hm := hd.m1; have hm2 := hd.m2; have h1 := hd.d1; have h2 := hd.d2
  have hl := CalH.hx_bd (CalH.hl y) (CalH.hd y) m
  exact ⟨y, m, d, 0, e, e', by omega, by omega, Or.inl rfl, fun _ => by omega⟩
 ·exact ⟨0, 0, 0, 2, FunMd.hDate_no _ a h, fDate_no _ _ a h, by omega, by omega, Or.inr rfl, fun q => by omega⟩
end Go.Proofs.YtgbbgcepcnklkaaDoor.FunZ
