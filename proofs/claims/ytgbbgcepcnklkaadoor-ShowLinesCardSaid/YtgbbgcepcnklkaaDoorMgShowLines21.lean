/- Texts of this claim, merged: Ltrystlaw27ShowLines. -/
import Derived.Test.YtgbbgcepcnklkaaDoorMgShowLines1
import Derived.Test.YtgbbgcepcnklkaaDoorMgShowLines2
import Derived.Test.YtgbbgcepcnklkaaDoorMgShowLines18
import Derived.Test.YtgbbgcepcnklkaaDoorMgShowLines19
import Derived.Test.YtgbbgcepcnklkaaDoorMgShowLines20
-- written by a program of this session (wip/own_print.sh)
namespace Go.Proofs.YtgbbgcepcnklkaaDoor.L
open Go.RowKit Go.Proofs.YtgbbgcepcnklkaaDoorW.PrintWords Go.Proofs.YtgbbgcepcnklkaaDoorW.PrintLast Go.Proofs.YtgbbgcepcnklkaaDoorW.PrintMore
attribute [local go_sem] max2_int min2_int max_two min_two
set_option linter.unusedVariables false
set_option linter.unusedSimpArgs false
/-! ### trystlaw27_ShowLines: function 4 -/
mutual
def trystlaw27_ShowLines.j0 : Nat → Int → Bool → Int → Int → Int → ByteArray → Int → Option (Bool)
 | 0, _, _, _, _, _, _, _ => none
 | k + 1, x1, x18, x314000, x314001, x314002, x314003, x314004 => if x18 = true then ((trystlaw27_awake.f).bind fun t315 => (some t315)) else ((show_Line.f x314000 x314001 x314002 x314003 x314004 x1).bind fun bt316 => (if x1 < 0 then (trystlaw27_ShowLines.j1 k x1 bt316.1 bt316.2 true x314000 x314001 x314002 x314003 x314004) else (trystlaw27_ShowLines.j1 k x1 bt316.1 bt316.2 (decide (x1 > 6)) x314000 x314001 x314002 x314003 x314004)))
def trystlaw27_ShowLines.j1 : Nat → Int → ByteArray → Int → Bool → Int → Int → Int → ByteArray → Int → Option (Bool)
 | 0, _, _, _, _, _, _, _, _, _ => none
 | k + 1, x1, x5, x6, x26, x314000, x314001, x314002, x314003, x314004 => if x26 = true then (if x6 = 1 then (some (x5.toList == ([] : List UInt8))) else (some false)) else ((trystref01_Right.f x314000).bind fun t318 => (if t318 = true then ((trystref01_Right.f x314001).bind fun t319 => (if t319 = true then (trystlaw27_ShowLines.l0 k x1 x5 x6 ([] : List Int) (x314003.size : Int) 0 x314000 x314001 x314002 x314003 x314004) else (if x6 = 2 then (some (x5.toList == ([] : List UInt8))) else (some false)))) else (if x6 = 2 then (some (x5.toList == ([] : List UInt8))) else (some false))))
def trystlaw27_ShowLines.l0 : Nat → Int → ByteArray → Int → List Int → Int → Int → Int → Int → Int → ByteArray → Int → Option (Bool)
 | 0, _, _, _, _, _, _, _, _, _, _, _ => none
 | k + 1, x1, x5, x6, x7, x58, x59, x314000, x314001, x314002, x314003, x314004 => if x59 < x58 then (if 0 ≤ x59 then (if x59 < (x314003.size : Int) then (if (bt x314003 x59) < 32 then (if x7.length < 140737488355328 then (trystlaw27_ShowLines.l0 k x1 x5 x6 (x7 ++ [32]) x58 (wrap64 (x59 + 1)) x314000 x314001 x314002 x314003 x314004) else (none)) else (if (bt x314003 x59) = 127 then (if x7.length < 140737488355328 then (trystlaw27_ShowLines.l0 k x1 x5 x6 (x7 ++ [32]) x58 (wrap64 (x59 + 1)) x314000 x314001 x314002 x314003 x314004) else (none)) else (if x7.length < 140737488355328 then (trystlaw27_ShowLines.l0 k x1 x5 x6 (x7 ++ [bt x314003 x59]) x58 (wrap64 (x59 + 1)) x314000 x314001 x314002 x314003 x314004) else (none)))) else (none)) else (none)) else ((trystref01_Text.f x1 (wrap64 (Int.tdiv x314000 86400))).bind fun t329 => (if t329.size + 1 ≤ 9223372036854775807 then ((trystlaw27_hours.f k x314000).bind fun t330 => (if (t329 ++ (⟨#[32]⟩ : ByteArray)).size + t330.size ≤ 9223372036854775807 then (if ((t329 ++ (⟨#[32]⟩ : ByteArray)) ++ t330).size + 1 ≤ 9223372036854775807 then ((trystlaw27_hours.f k x314001).bind fun t331 => (if (((t329 ++ (⟨#[32]⟩ : ByteArray)) ++ t330) ++ (⟨#[45]⟩ : ByteArray)).size + t331.size ≤ 9223372036854775807 then (if ((((t329 ++ (⟨#[32]⟩ : ByteArray)) ++ t330) ++ (⟨#[45]⟩ : ByteArray)) ++ t331).size + 1 ≤ 9223372036854775807 then (if (((((t329 ++ (⟨#[32]⟩ : ByteArray)) ++ t330) ++ (⟨#[45]⟩ : ByteArray)) ++ t331) ++ (⟨#[32]⟩ : ByteArray)).size + (strOfNums x7).size ≤ 9223372036854775807 then (if x314004 = 1 then (if ((((((t329 ++ (⟨#[32]⟩ : ByteArray)) ++ t330) ++ (⟨#[45]⟩ : ByteArray)) ++ t331) ++ (⟨#[32]⟩ : ByteArray)) ++ (strOfNums x7)).size + 12 ≤ 9223372036854775807 then (if x6 = 0 then (some (x5.toList == (((((((t329 ++ (⟨#[32]⟩ : ByteArray)) ++ t330) ++ (⟨#[45]⟩ : ByteArray)) ++ t331) ++ (⟨#[32]⟩ : ByteArray)) ++ (strOfNums x7)) ++ (⟨#[32, 40, 116, 101, 110, 116, 97, 116, 105, 118, 101, 41]⟩ : ByteArray)).toList)) else (some false)) else (none)) else (if x314004 = 3 then (if ((((((t329 ++ (⟨#[32]⟩ : ByteArray)) ++ t330) ++ (⟨#[45]⟩ : ByteArray)) ++ t331) ++ (⟨#[32]⟩ : ByteArray)) ++ (strOfNums x7)).size + 12 ≤ 9223372036854775807 then (if x6 = 0 then (some (x5.toList == (((((((t329 ++ (⟨#[32]⟩ : ByteArray)) ++ t330) ++ (⟨#[45]⟩ : ByteArray)) ++ t331) ++ (⟨#[32]⟩ : ByteArray)) ++ (strOfNums x7)) ++ (⟨#[32, 40, 99, 97, 110, 99, 101, 108, 108, 101, 100, 41]⟩ : ByteArray)).toList)) else (some false)) else (none)) else (if x6 = 0 then (some (x5.toList == ((((((t329 ++ (⟨#[32]⟩ : ByteArray)) ++ t330) ++ (⟨#[45]⟩ : ByteArray)) ++ t331) ++ (⟨#[32]⟩ : ByteArray)) ++ (strOfNums x7)).toList)) else (some false)))) else (none)) else (none)) else (none))) else (none)) else (none))) else (none)))
end
def trystlaw27_ShowLines.f (k : Nat) (a0_0 : Int) (a0_1 : Int) (a0_2 : Int) (a0_3 : ByteArray) (a0_4 : Int) (a1 : Int) : Option (Bool) := (trystlaw27_awake.f).bind fun t314 => (if t314 = true then (trystlaw27_ShowLines.j0 k a1 (decide ((a0_3.size : Int) > 1000)) a0_0 a0_1 a0_2 a0_3 a0_4) else (trystlaw27_ShowLines.j0 k a1 true a0_0 a0_1 a0_2 a0_3 a0_4))
def trystlaw27_ShowLines.T17 : Bool × List (List Nat × List Nat) := (true, [([], []), ([], []), ([1], [1]), ([2], [2]), ([0, 3], [0, 3]), ([4], [4]), ([], []), ([6], [6]), ([7, 4], [7]), ([5, 8], [5, 8]), ([9], [9]), ([], []), ([11], [11]), ([12, 8], [12]), ([10, 13], [10, 13]), ([14], [14]), ([], []), ([16], [16]), ([15, 17], [15, 17]), ([18, 13, 0, 1, 2, 3, 4, 5, 6, 7, 8, 9, 10, 11, 12, 13, 14, 15, 16, 17, 18], [18])])
def trystlaw27_ShowLines.B17 : List Nat := [0, 0, 2, 6, 15, 31, 0, 64, 223, 511, 1023, 0, 2048, 6623, 16383, 32767, 0, 65536, 262143, 524287]
theorem trystlaw27_ShowLines.tab17 : rtab .any (opsOf Tryd.f4 17) = trystlaw27_ShowLines.T17 := by kernel_rfl
theorem trystlaw27_ShowLines.bits17 : waitsOk trystlaw27_ShowLines.T17.2 trystlaw27_ShowLines.B17 = true := by kernel_rfl
set_option maxHeartbeats 8000000 in
set_option maxRecDepth 100000 in
theorem trystlaw27_ShowLines.calls (k : Nat) (a0_0 : Int) (a0_1 : Int) (a0_2 : Int) (a0_3 : ByteArray) (a0_4 : Int) (a1 : Int) (r : Bool) (w : World) (h : trystlaw27_ShowLines.f k a0_0 a0_1 a0_2 a0_3 a0_4 a1 = some r) (ht : ShowAw.Tab w) :
  Calls Tryd.prog 4 #[.agg #[.int .i64 a0_0, .int .i64 a0_1, .int .i64 a0_2, .string a0_3, .int .i64 a0_4], .int .i64 a1] w fun e w' => e = .returned (.bool r) ∧ Below w.heap.size w w' := by
 have TB_ := Aside0.mk ht
 clear ht
 have hu35 := Tryd.underlying35
 have HB := Aside0.mk (Below.refl w.heap.size w)
 have H : ((trystlaw27_awake.f).bind fun t314 => (if t314 = true then (trystlaw27_ShowLines.j0 k a1 (decide ((a0_3.size : Int) > 1000)) a0_0 a0_1 a0_2 a0_3 a0_4) else (trystlaw27_ShowLines.j0 k a1 true a0_0 a0_1 a0_2 a0_3 a0_4))) = some r := h
 clear h
 have HC3 := Aside0.mk H
 clear H
 go_enter Tryd.func4, Tryd.ntmps4
 go_upto_region 1 with (first | ((with_reducible refine gate_dst (N := 2) rfl ?_); (try (refine gate_guard (by rfl) ?_; dsimp only)); refine box_event ?hg (N := 2) ?hd (cs := #[.int .i64 a0_0, .int .i64 a0_1, .int .i64 a0_2, .string a0_3, .int .i64 a0_4]) (t := 35) ?hr ?_; (case hd => rfl); (case hg => rfl); (case hr => first | (go_simp; done) | (go_simp; rfl)); intro gb313 hg w4 hbox hb; have n0_ := Aside0.mk (below_step (by repeat (first | (with_reducible first | exact HB.out | apply below_alloc | apply pw_below_drewN | apply below_drew1) | exact HB.out)) hb); have n1_ := Aside0.mk (hbox); have n2_ := Aside0.mk ((by rw [hg]; exact (below_size (by repeat (first | (with_reducible first | exact HB.out | apply below_alloc | apply pw_below_drewN | apply below_drew1) | exact HB.out))) : w.heap.size ≤ gb313)); have n3_ := Aside0.mk ((by rw [hg]; exact (below_size (by repeat (first | (with_reducible first | exact HB.out | apply below_alloc | apply pw_below_drewN | apply below_drew1) | exact HB.out))) : w.heap.size ≤ gb313)); clear HB; have HB := n0_; have BK313 := n1_; have GW313 := n2_; have GE313 := n3_; clear n0_ n1_ n2_ n3_; clear hb hbox hg))
 (try simp only [Act.put, List.setIfInBounds_toArray, List.set_cons_zero, List.set_cons_succ])
 go_cut [18] (fun v18 wc => ∃ (kq : Nat) (x18_2 : Bool), v18 = .bool x18_2 ∧ Aside0 (trystlaw27_ShowLines.j0 kq a1 x18_2 a0_0 a0_1 a0_2 a0_3 a0_4 = some r) ∧ Aside0 (kq ≤ k) ∧ Aside0 (wc.heap[gb313]? = some (.cells #[.int .i64 a0_0, .int .i64 a0_1, .int .i64 a0_2, .string a0_3, .int .i64 a0_4] 35 (0, 0))) ∧ Aside0 (Below w.heap.size w wc))
 case first =>
  have H := HC3.out
  clear HC3
  replace H := Option.bind_eq_some_iff.mp H
  obtain ⟨t314, A50, H⟩ := H
  replace H : (if t314 = true then (trystlaw27_ShowLines.j0 k a1 (decide ((a0_3.size : Int) > 1000)) a0_0 a0_1 a0_2 a0_3 a0_4) else (trystlaw27_ShowLines.j0 k a1 true a0_0 a0_1 a0_2 a0_3 a0_4)) = some r := H
  have A5 := Aside0.mk A50
  clear A50
  by_cases c6 : t314 = true
  ·subst c6
   have H1 : (trystlaw27_ShowLines.j0 k a1 (decide ((a0_3.size : Int) > 1000)) a0_0 a0_1 a0_2 a0_3 a0_4) = some r := by rw [if_pos rfl] at H; exact H
   clear H
   have H := H1
   clear H1
   have H' := Aside0.mk H
   clear H
   go_wp2_with (first | ((with_reducible refine gate_callee (f := 6) rfl ?_); refine goesL_ (some 11) rfl rfl Tryd.func6 (by kernel_rfl) rfl #[] rfl (by (try simp only [List.map_toArray, List.map_cons, List.map_nil]); first | done | rfl | (simp only [List.length_drop, List.length_take]; rfl)) ?_; (with_reducible refine (trystlaw27_awake.calls  true _ A5.out (ShowAw.tab_below TB_.out (by repeat (first | (with_reducible first | exact HB.out | apply below_alloc | apply pw_below_drewN | apply below_drew1 | apply below_drew) | exact HB.out)))).mono ?_); rintro e w7 ⟨rfl, hb⟩; refine ⟨_, rfl, ?_⟩; have n0_ := Aside0.mk (blk_below (g := gb313) (o := .cells #[.int .i64 a0_0, .int .i64 a0_1, .int .i64 a0_2, .string a0_3, .int .i64 a0_4] 35 (0, 0)) (by (with_reducible repeat (first | refine blk_drewN ?_ _ | refine blk_drew ?_ | refine blk_alloc ?_ _)); exact BK313.out) hb); have n1_ := Aside0.mk (below_step (by repeat (first | (with_reducible first | exact HB.out | apply below_alloc | apply pw_below_drewN | apply below_drew1 | refine below_set ?_ GE313.out) | exact HB.out)) hb); clear BK313; clear HB; have BK313 := n0_; have HB := n1_; clear n0_ n1_; (try clear hb); (try clear hb2); (try clear hk); (try clear hi); have hcz8_0 : w7.cell? ⟨gb313, 0, none⟩ = some (.int .i64 a0_0) := (blk_cell BK313.out 0).trans rfl; have hcz8_1 : w7.cell? ⟨gb313, 1, none⟩ = some (.int .i64 a0_1) := (blk_cell BK313.out 1).trans rfl; have hcz8_2 : w7.cell? ⟨gb313, 2, none⟩ = some (.int .i64 a0_2) := (blk_cell BK313.out 2).trans rfl; have hcz8_3 : w7.cell? ⟨gb313, 3, none⟩ = some (.string a0_3) := (blk_cell BK313.out 3).trans rfl; have hcz8_4 : w7.cell? ⟨gb313, 4, none⟩ = some (.int .i64 a0_4) := (blk_cell BK313.out 4).trans rfl; have hfz8_0 := blk_frozen BK313.out 0; have hfz8_1 := blk_frozen BK313.out 1; have hfz8_2 := blk_frozen BK313.out 2; have hfz8_3 := blk_frozen BK313.out 3; have hfz8_4 := blk_frozen BK313.out 4))
   go_meet
   case rel => exact ⟨_, (decide ((a0_3.size : Int) > 1000)), (by first | rfl | (simp; done) | (simp [*]; done)), H', ⟨by first | omega | exact Nat.le_refl _⟩, ⟨by (with_reducible repeat (first | refine blk_drewN ?_ _ | refine blk_drew ?_ | refine blk_alloc ?_ _)); exact BK313.out⟩, ⟨by repeat (first | (with_reducible first | exact HB.out | apply below_alloc | apply pw_below_drewN | apply below_drew1 | refine below_set ?_ GE313.out) | exact HB.out)⟩⟩
  ·replace c6 := Bool.eq_false_iff.mpr c6
   subst c6
   have H1 : (trystlaw27_ShowLines.j0 k a1 true a0_0 a0_1 a0_2 a0_3 a0_4) = some r := by rw [if_neg (show ¬ (false = true) by decide)] at H; exact H
   clear H
   have H := H1
   clear H1
   have H' := Aside0.mk H
   clear H
   go_wp2_with (first | ((with_reducible refine gate_callee (f := 6) rfl ?_); refine goesL_ (some 11) rfl rfl Tryd.func6 (by kernel_rfl) rfl #[] rfl (by (try simp only [List.map_toArray, List.map_cons, List.map_nil]); first | done | rfl | (simp only [List.length_drop, List.length_take]; rfl)) ?_; (with_reducible refine (trystlaw27_awake.calls  false _ A5.out (ShowAw.tab_below TB_.out (by repeat (first | (with_reducible first | exact HB.out | apply below_alloc | apply pw_below_drewN | apply below_drew1 | apply below_drew) | exact HB.out)))).mono ?_); rintro e w9 ⟨rfl, hb⟩; refine ⟨_, rfl, ?_⟩; have n0_ := Aside0.mk (blk_below (g := gb313) (o := .cells #[.int .i64 a0_0, .int .i64 a0_1, .int .i64 a0_2, .string a0_3, .int .i64 a0_4] 35 (0, 0)) (by (with_reducible repeat (first | refine blk_drewN ?_ _ | refine blk_drew ?_ | refine blk_alloc ?_ _)); exact BK313.out) hb); have n1_ := Aside0.mk (below_step (by repeat (first | (with_reducible first | exact HB.out | apply below_alloc | apply pw_below_drewN | apply below_drew1 | refine below_set ?_ GE313.out) | exact HB.out)) hb); clear BK313; clear HB; have BK313 := n0_; have HB := n1_; clear n0_ n1_; (try clear hb); (try clear hb2); (try clear hk); (try clear hi)))
   go_meet
   case rel => exact ⟨_, (true), (by first | rfl | (simp; done) | (simp [*]; done)), H', ⟨by first | omega | exact Nat.le_refl _⟩, ⟨by (with_reducible repeat (first | refine blk_drewN ?_ _ | refine blk_drew ?_ | refine blk_alloc ?_ _)); exact BK313.out⟩, ⟨by repeat (first | (with_reducible first | exact HB.out | apply below_alloc | apply pw_below_drewN | apply below_drew1 | refine below_set ?_ GE313.out) | exact HB.out)⟩⟩
 case rest =>
  clear HC3
  try clear p2
  try clear c4
  try clear c6
  try clear hcz8_0
  try clear hcz8_1
  try clear hcz8_2
  try clear hcz8_3
  try clear hcz8_4
  try clear hfz8_0
  try clear hfz8_1
  try clear hfz8_2
  try clear hfz8_3
  try clear hfz8_4
  obtain ⟨kq, x18_2, rfl, HA, HJ2, BK313, HB⟩ := hcut
  cases kq with
  | zero => exact absurd HA.out (by simp [trystlaw27_ShowLines.j0])
  | succ kj2 =>
   have H := HA.out
   clear HA
   simp only [trystlaw27_ShowLines.j0] at H
   by_cases c10 : x18_2 = true
   ·subst c10
    have H1 : ((trystlaw27_awake.f).bind fun t315 => (some t315)) = some r := by rw [if_pos rfl] at H; exact H
    clear H
    have H := H1
    clear H1
    replace H := Option.bind_eq_some_iff.mp H
    obtain ⟨t315, A110, H⟩ := H
    replace H : (some t315) = some r := H
    have A11 := Aside0.mk A110
    clear A110
    obtain rfl := Option.some.inj H
    go_wp2_with (first | ((with_reducible refine gate_callee (f := 6) rfl ?_); refine goesL_ (some 19) rfl rfl Tryd.func6 (by kernel_rfl) rfl #[] rfl (by (try simp only [List.map_toArray, List.map_cons, List.map_nil]); first | done | rfl | (simp only [List.length_drop, List.length_take]; rfl)) ?_; (with_reducible refine (trystlaw27_awake.calls  t315 _ A11.out (ShowAw.tab_below TB_.out (by repeat (first | (with_reducible first | exact HB.out | apply below_alloc | apply pw_below_drewN | apply below_drew1 | apply below_drew) | exact HB.out)))).mono ?_); rintro e w12 ⟨rfl, hb⟩; refine ⟨_, rfl, ?_⟩; have n0_ := Aside0.mk (blk_below (g := gb313) (o := .cells #[.int .i64 a0_0, .int .i64 a0_1, .int .i64 a0_2, .string a0_3, .int .i64 a0_4] 35 (0, 0)) (by (with_reducible repeat (first | refine blk_drewN ?_ _ | refine blk_drew ?_ | refine blk_alloc ?_ _)); exact BK313.out) hb); have n1_ := Aside0.mk (below_step (by repeat (first | (with_reducible first | exact HB.out | apply below_alloc | apply pw_below_drewN | apply below_drew1 | refine below_set ?_ GE313.out) | exact HB.out)) hb); clear BK313; clear HB; have BK313 := n0_; have HB := n1_; clear n0_ n1_; (try clear hb); (try clear hb2); (try clear hk); (try clear hi)))
    go_ret
    exact ⟨by first | rfl | (simp [errW_none, errW_some] <;> rfl) | (simp [*, errW_none, errW_some] <;> rfl), by repeat (first | (with_reducible first | exact HB.out | apply below_alloc | apply pw_below_drewN | apply below_drew1 | refine below_set ?_ GE313.out) | exact HB.out)⟩
   ·replace c10 := Bool.eq_false_iff.mpr c10
    subst c10
    have H1 : ((show_Line.f a0_0 a0_1 a0_2 a0_3 a0_4 a1).bind fun bt316 => (if a1 < 0 then (trystlaw27_ShowLines.j1 kj2 a1 bt316.1 bt316.2 true a0_0 a0_1 a0_2 a0_3 a0_4) else (trystlaw27_ShowLines.j1 kj2 a1 bt316.1 bt316.2 (decide (a1 > 6)) a0_0 a0_1 a0_2 a0_3 a0_4))) = some r := by rw [if_neg (show ¬ (false = true) by decide)] at H; exact H
    clear H
    have H := H1
    clear H1
    replace H := Option.bind_eq_some_iff.mp H
    obtain ⟨⟨t316, t317⟩, A130, H⟩ := H
    replace H : (if a1 < 0 then (trystlaw27_ShowLines.j1 kj2 a1 t316 t317 true a0_0 a0_1 a0_2 a0_3 a0_4) else (trystlaw27_ShowLines.j1 kj2 a1 t316 t317 (decide (a1 > 6)) a0_0 a0_1 a0_2 a0_3 a0_4)) = some r := H
    have A13 := Aside0.mk A130
    clear A130
    have HC14 := Aside0.mk H
    clear H
    have hcz15_0 : wc.cell? ⟨gb313, 0, none⟩ = some (.int .i64 a0_0) := (blk_cell BK313.out 0).trans rfl
    have hcz15_1 : wc.cell? ⟨gb313, 1, none⟩ = some (.int .i64 a0_1) := (blk_cell BK313.out 1).trans rfl
    have hcz15_2 : wc.cell? ⟨gb313, 2, none⟩ = some (.int .i64 a0_2) := (blk_cell BK313.out 2).trans rfl
    have hcz15_3 : wc.cell? ⟨gb313, 3, none⟩ = some (.string a0_3) := (blk_cell BK313.out 3).trans rfl
    have hcz15_4 : wc.cell? ⟨gb313, 4, none⟩ = some (.int .i64 a0_4) := (blk_cell BK313.out 4).trans rfl
    have hfz15_0 := blk_frozen BK313.out 0
    have hfz15_1 := blk_frozen BK313.out 1
    have hfz15_2 := blk_frozen BK313.out 2
    have hfz15_3 := blk_frozen BK313.out 3
    have hfz15_4 := blk_frozen BK313.out 4
    go_upto_region 4 with (first | ((with_reducible refine gate_callee (f := 12) rfl ?_); refine goesL_ (some 23) rfl rfl Tryd.func12 (by kernel_rfl) rfl #[.agg #[.int .i64 a0_0, .int .i64 a0_1, .int .i64 a0_2, .string a0_3, .int .i64 a0_4], .int .i64 a1] rfl (by (try simp only [List.map_toArray, List.map_cons, List.map_nil]); first | done | rfl | (simp only [List.length_drop, List.length_take]; rfl)) ?_; (with_reducible refine (show_Line.calls a0_0 a0_1 a0_2 a0_3 a0_4 a1 t316 t317 _ A13.out (ShowAw.tab_below TB_.out (by repeat (first | (with_reducible first | exact HB.out | apply below_alloc | apply pw_below_drewN | apply below_drew1 | apply below_drew) | exact HB.out)))).mono ?_); rintro e w16 ⟨rfl, hb⟩; refine ⟨_, rfl, ?_⟩; have n0_ := Aside0.mk (blk_below (g := gb313) (o := .cells #[.int .i64 a0_0, .int .i64 a0_1, .int .i64 a0_2, .string a0_3, .int .i64 a0_4] 35 (0, 0)) (by (with_reducible repeat (first | refine blk_drewN ?_ _ | refine blk_drew ?_ | refine blk_alloc ?_ _)); exact BK313.out) hb); have n1_ := Aside0.mk (below_step (by repeat (first | (with_reducible first | exact HB.out | apply below_alloc | apply pw_below_drewN | apply below_drew1 | refine below_set ?_ GE313.out) | exact HB.out)) hb); clear BK313; clear HB; have BK313 := n0_; have HB := n1_; clear n0_ n1_; (try clear hb); (try clear hb2); (try clear hk); (try clear hi)))
    (try simp only [Act.put, List.setIfInBounds_toArray, List.set_cons_zero, List.set_cons_succ])
    go_cut [26] (fun v26 wc => ∃ (kq : Nat) (x26_13 : Bool), v26 = .bool x26_13 ∧ Aside0 (trystlaw27_ShowLines.j1 kq a1 t316 t317 x26_13 a0_0 a0_1 a0_2 a0_3 a0_4 = some r) ∧ Aside0 (kq ≤ kj2) ∧ Aside0 (wc.heap[gb313]? = some (.cells #[.int .i64 a0_0, .int .i64 a0_1, .int .i64 a0_2, .string a0_3, .int .i64 a0_4] 35 (0, 0))) ∧ Aside0 (Below w.heap.size w wc))
    case first =>
     have H := HC14.out
     clear HC14
     by_cases c17 : a1 < 0
     ·rw [if_pos c17] at H
      have c17b0 : decide (a1 < 0) = true := decide_eq_true c17
      clear c17
      (first | rw [c17b0] | (simp only [i64_w, i32_w]; rw [c17b0]) | skip)
      have H' := Aside0.mk H
      clear H
      go_wp2
      go_meet
      case rel => exact ⟨_, (true), (by first | rfl | (simp; done) | (simp [*]; done)), H', ⟨by have := HJ2.out; first | omega | exact Nat.le_refl _⟩, ⟨by (with_reducible repeat (first | refine blk_drewN ?_ _ | refine blk_drew ?_ | refine blk_alloc ?_ _)); exact BK313.out⟩, ⟨by repeat (first | (with_reducible first | exact HB.out | apply below_alloc | apply pw_below_drewN | apply below_drew1 | refine below_set ?_ GE313.out) | exact HB.out)⟩⟩
     ·rw [if_neg c17] at H
      have c17b0 : decide (a1 < 0) = false := decide_eq_false c17
      clear c17
      (first | rw [c17b0] | (simp only [i64_w, i32_w]; rw [c17b0]) | skip)
      have H' := Aside0.mk H
      clear H
      go_wp2
      go_meet
      case rel => exact ⟨_, (decide (a1 > 6)), (by first | rfl | (simp; done) | (simp [*]; done)), H', ⟨by have := HJ2.out; first | omega | exact Nat.le_refl _⟩, ⟨by (with_reducible repeat (first | refine blk_drewN ?_ _ | refine blk_drew ?_ | refine blk_alloc ?_ _)); exact BK313.out⟩, ⟨by repeat (first | (with_reducible first | exact HB.out | apply below_alloc | apply pw_below_drewN | apply below_drew1 | refine below_set ?_ GE313.out) | exact HB.out)⟩⟩
    case rest =>
     clear HC14
     try clear c1
     try clear p2
     try clear c4
     try clear c6
     try clear c10
     try clear c12
     try clear c17
     try clear c17b0
     try clear hcz15_0
     try clear hcz15_1
     try clear hcz15_2
     try clear hcz15_3
     try clear hcz15_4
     try clear hcz8_0
     try clear hcz8_1
     try clear hcz8_2
     try clear hcz8_3
     try clear hcz8_4
     try clear hfz15_0
     try clear hfz15_1
     try clear hfz15_2
     try clear hfz15_3
     try clear hfz15_4
     try clear hfz8_0
     try clear hfz8_1
     try clear hfz8_2
     try clear hfz8_3
     try clear hfz8_4
     try clear p2
     obtain ⟨kq, x26_13, rfl, HA, HJ13, BK313, HB⟩ := hcut
     cases kq with
     | zero => exact absurd HA.out (by simp [trystlaw27_ShowLines.j1])
     | succ kj13 =>
      have H := HA.out
      clear HA
      simp only [trystlaw27_ShowLines.j1] at H
      by_cases c18 : x26_13 = true
      ·subst c18
       have H1 : (if t317 = 1 then (some (t316.toList == ([] : List UInt8))) else (some false)) = some r := by rw [if_pos rfl] at H; exact H
       clear H
       have H := H1
       clear H1
       by_cases c19 : t317 = 1
       ·rw [if_pos c19] at H
        have c19b0 : (t317 == 1) = true := beq_iff_eq.mpr c19
        have c19b1 : (t317 != 1) = false := bne_eq_false_iff_eq.mpr c19
        clear c19
        obtain rfl := Option.some.inj H
        go_wp2
        go_ret
        exact ⟨by first | rfl | (simp [errW_none, errW_some] <;> rfl) | (simp [*, errW_none, errW_some] <;> rfl), by repeat (first | (with_reducible first | exact HB.out | apply below_alloc | apply pw_below_drewN | apply below_drew1 | refine below_set ?_ GE313.out) | exact HB.out)⟩
       ·rw [if_neg c19] at H
        have c19b0 : (t317 == 1) = false := beq_eq_false_iff_ne.mpr c19
        have c19b1 : (t317 != 1) = true := bne_iff_ne.mpr c19
        obtain rfl := Option.some.inj H
        go_wp2
        go_ret
        exact ⟨by first | rfl | (simp [errW_none, errW_some] <;> rfl) | (simp [*, errW_none, errW_some] <;> rfl), by repeat (first | (with_reducible first | exact HB.out | apply below_alloc | apply pw_below_drewN | apply below_drew1 | refine below_set ?_ GE313.out) | exact HB.out)⟩
      ·replace c18 := Bool.eq_false_iff.mpr c18
       subst c18
       have H1 : ((trystref01_Right.f a0_0).bind fun t318 => (if t318 = true then ((trystref01_Right.f a0_1).bind fun t319 => (if t319 = true then (trystlaw27_ShowLines.l0 kj13 a1 t316 t317 ([] : List Int) (a0_3.size : Int) 0 a0_0 a0_1 a0_2 a0_3 a0_4) else (if t317 = 2 then (some (t316.toList == ([] : List UInt8))) else (some false)))) else (if t317 = 2 then (some (t316.toList == ([] : List UInt8))) else (some false)))) = some r := by rw [if_neg (show ¬ (false = true) by decide)] at H; exact H
       clear H
       have H := H1
       clear H1
       replace H := Option.bind_eq_some_iff.mp H
       obtain ⟨t318, A200, H⟩ := H
       replace H : (if t318 = true then ((trystref01_Right.f a0_1).bind fun t319 => (if t319 = true then (trystlaw27_ShowLines.l0 kj13 a1 t316 t317 ([] : List Int) (a0_3.size : Int) 0 a0_0 a0_1 a0_2 a0_3 a0_4) else (if t317 = 2 then (some (t316.toList == ([] : List UInt8))) else (some false)))) else (if t317 = 2 then (some (t316.toList == ([] : List UInt8))) else (some false))) = some r := H
       have A20 := Aside0.mk A200
       clear A200
       by_cases c21 : t318 = true
       ·subst c21
        have H1 : ((trystref01_Right.f a0_1).bind fun t319 => (if t319 = true then (trystlaw27_ShowLines.l0 kj13 a1 t316 t317 ([] : List Int) (a0_3.size : Int) 0 a0_0 a0_1 a0_2 a0_3 a0_4) else (if t317 = 2 then (some (t316.toList == ([] : List UInt8))) else (some false)))) = some r := by rw [if_pos rfl] at H; exact H
        clear H
        have H := H1
        clear H1
        replace H := Option.bind_eq_some_iff.mp H
        obtain ⟨t319, A220, H⟩ := H
        replace H : (if t319 = true then (trystlaw27_ShowLines.l0 kj13 a1 t316 t317 ([] : List Int) (a0_3.size : Int) 0 a0_0 a0_1 a0_2 a0_3 a0_4) else (if t317 = 2 then (some (t316.toList == ([] : List UInt8))) else (some false))) = some r := H
        have A22 := Aside0.mk A220
        clear A220
        by_cases c23 : t319 = true
        ·subst c23
         have H1 : (trystlaw27_ShowLines.l0 kj13 a1 t316 t317 ([] : List Int) (a0_3.size : Int) 0 a0_0 a0_1 a0_2 a0_3 a0_4) = some r := by rw [if_pos rfl] at H; exact H
         clear H
         have H := H1
         clear H1
         have H' := Aside0.mk H
         clear H
         have hcz24_0 : wc.cell? ⟨gb313, 0, none⟩ = some (.int .i64 a0_0) := (blk_cell BK313.out 0).trans rfl
         have hcz24_1 : wc.cell? ⟨gb313, 1, none⟩ = some (.int .i64 a0_1) := (blk_cell BK313.out 1).trans rfl
         have hcz24_2 : wc.cell? ⟨gb313, 2, none⟩ = some (.int .i64 a0_2) := (blk_cell BK313.out 2).trans rfl
         have hcz24_3 : wc.cell? ⟨gb313, 3, none⟩ = some (.string a0_3) := (blk_cell BK313.out 3).trans rfl
         have hcz24_4 : wc.cell? ⟨gb313, 4, none⟩ = some (.int .i64 a0_4) := (blk_cell BK313.out 4).trans rfl
         have hfz24_0 := blk_frozen BK313.out 0
         have hfz24_1 := blk_frozen BK313.out 1
         have hfz24_2 := blk_frozen BK313.out 2
         have hfz24_3 := blk_frozen BK313.out 3
         have hfz24_4 := blk_frozen BK313.out 4
         go_wp2_with (first | ((with_reducible refine gate_callee (f := 13) rfl ?_); refine goesL_ (some 42) rfl rfl Tryd.func13 (by kernel_rfl) rfl #[.int .i64 a0_0] rfl (by (try simp only [List.map_toArray, List.map_cons, List.map_nil]); first | done | rfl | (simp only [List.length_drop, List.length_take]; rfl)) ?_; (with_reducible refine (trystref01_Right.calls a0_0 true _ A20.out).mono ?_); rintro e w' ⟨rfl, ⟨nd, rfl⟩⟩; refine ⟨_, rfl, ?_⟩) | (go_at_call 13; (with_reducible refine (trystref01_Right.calls a0_1 true _ A22.out).mono ?_); rintro e w' ⟨rfl, ⟨nd, rfl⟩⟩))
         go_loopg [7, 59] kj13 (fun kq v7 v59 w' => ∃ (x7_3 : List Int) (x59_3 : Int), v59 = .int .i64 x59_3 ∧ Aside0 (trystlaw27_ShowLines.l0 kq a1 t316 t317 x7_3 (a0_3.size : Int) x59_3 a0_0 a0_1 a0_2 a0_3 a0_4 = some r) ∧ Aside0 (kq ≤ kj13) ∧ Aside0 (Kd.R (Kd.int .u8) 5 w' w.heap.size (fun _ => True) v7 x7_3) ∧ Aside0 (w'.heap[gb313]? = some (.cells #[.int .i64 a0_0, .int .i64 a0_1, .int .i64 a0_2, .string a0_3, .int .i64 a0_4] 35 (0, 0))) ∧ Aside0 (Below w.heap.size w w'))
         case atStart => exact ⟨(([] : List Int)), (0), (by first | rfl | (simp; done) | (simp [*]; done)), H', ⟨Nat.le_refl _⟩, ⟨by first | exact Kd.R_nil _ _ _ _ _ | exact Kd.N_nil _ _ _ _ _ | exact Kd.V_nil _ _ _ _ _ | exact Kd.Q_nil _ _ _ _ _ | exact Kd.S_nil _ _ _ _ _⟩, ⟨by (with_reducible repeat (first | refine blk_drewN ?_ _ | refine blk_drew ?_ | refine blk_alloc ?_ _)); exact BK313.out⟩, ⟨by repeat (first | (with_reducible first | exact HB.out | apply below_alloc | apply pw_below_drewN | apply below_drew1 | refine below_set ?_ GE313.out) | exact HB.out)⟩⟩
         case round =>
          clear H'
          try clear c1
          try clear c2
          try clear p2
          try clear c4
          try clear c6
          try clear c10
          try clear c12
          try clear c13
          try clear c17
          try clear c17b0
          try clear c18
          try clear c19
          try clear c19b0
          try clear c19b1
          try clear c21
          try clear c23
          try clear hcz15_0
          try clear hcz15_1
          try clear hcz15_2
          try clear hcz15_3
          try clear hcz15_4
          try clear hcz24_0
          try clear hcz24_1
          try clear hcz24_2
          try clear hcz24_3
          try clear hcz24_4
          try clear hcz8_0
          try clear hcz8_1
          try clear hcz8_2
          try clear hcz8_3
          try clear hcz8_4
          try clear hfz15_0
          try clear hfz15_1
          try clear hfz15_2
          try clear hfz15_3
          try clear hfz15_4
          try clear hfz24_0
          try clear hfz24_1
          try clear hfz24_2
          try clear hfz24_3
          try clear hfz24_4
          try clear hfz8_0
          try clear hfz8_1
          try clear hfz8_2
          try clear hfz8_3
          try clear hfz8_4
          try clear p2
          obtain ⟨x7_3, x59_3, rfl, HA, HK3, HO_7, BK313, HB⟩ := hrel
          cases gk with
          | zero => exact absurd HA.out (by simp [trystlaw27_ShowLines.l0])
          | succ k3 =>
           have H := HA.out
           clear HA
           simp only [trystlaw27_ShowLines.l0] at H
           by_cases c25 : x59_3 < (a0_3.size : Int)
           ·rw [if_pos c25] at H
            have c25b0 : decide (x59_3 < (a0_3.size : Int)) = true := decide_eq_true c25
            clear c25
            by_cases c26 : 0 ≤ x59_3
            ·rw [if_pos c26] at H
             have c26b0 : decide (0 ≤ x59_3) = true := decide_eq_true c26
             clear c26
             by_cases c27 : x59_3 < (a0_3.size : Int)
             ·rw [if_pos c27] at H
              have c27b0 : decide (x59_3 < (a0_3.size : Int)) = true := decide_eq_true c27
              clear c27
              by_cases c29 : (bt a0_3 x59_3) < 32
              ·rw [if_pos c29] at H
               have c29b0 : decide ((bt a0_3 x59_3) < 32) = true := decide_eq_true c29
               clear c29
               by_cases c30 : x7_3.length < 140737488355328
               ·rw [if_pos c30] at H
                have LMc30 := Aside0.mk c30
                clear c30
                obtain ⟨y320, hy320⟩ : ∃ y_ : List Int, y_ = (x7_3 ++ [32]) := ⟨_, rfl⟩
                replace H : (trystlaw27_ShowLines.l0 k3 a1 t316 t317 y320 (a0_3.size : Int) (wrap64 (x59_3 + 1)) a0_0 a0_1 a0_2 a0_3 a0_4) = some r := by first | (rw [hy320]; with_reducible exact H) | (have H2_ := (Option.bind_some _ _).symm.trans H; rw [hy320]; with_reducible exact H2_) | (have H2_ := (Option.bind_some _ _).symm.trans H; with_reducible exact H2_) | with_reducible exact H | (rw [hy320]; exact H) | exact H
                have Ny320 := Aside0.mk hy320
                clear hy320
                have H' := Aside0.mk H
                clear H
                have hcz31_0 : wr.cell? ⟨gb313, 0, none⟩ = some (.int .i64 a0_0) := (blk_cell BK313.out 0).trans rfl
                have hcz31_1 : wr.cell? ⟨gb313, 1, none⟩ = some (.int .i64 a0_1) := (blk_cell BK313.out 1).trans rfl
                have hcz31_2 : wr.cell? ⟨gb313, 2, none⟩ = some (.int .i64 a0_2) := (blk_cell BK313.out 2).trans rfl
                have hcz31_3 : wr.cell? ⟨gb313, 3, none⟩ = some (.string a0_3) := (blk_cell BK313.out 3).trans rfl
                have hcz31_4 : wr.cell? ⟨gb313, 4, none⟩ = some (.int .i64 a0_4) := (blk_cell BK313.out 4).trans rfl
                have hfz31_0 := blk_frozen BK313.out 0
                have hfz31_1 := blk_frozen BK313.out 1
                have hfz31_2 := blk_frozen BK313.out 2
                have hfz31_3 := blk_frozen BK313.out 3
                have hfz31_4 := blk_frozen BK313.out 4
                have p28 : 0 ≤ (x59_3 : Int) := of_decide_eq_true (by first | (with_reducible assumption) | assumption)
                have q28 : x59_3 < (a0_3.size : Int) := of_decide_eq_true (by first | (with_reducible assumption) | assumption)
                have hx28 := bt_at a0_3 x59_3
                replace p28 := eq_true p28
                replace q28 := eq_true q28
                go_wp2_with (first | ((with_reducible refine gate_builtin (b := .append) (xs := #[.tmp 72, .tmp 74]) rfl ?_); (try (refine gate_guard (by rfl) ?_; dsimp only)); at_builtin; refine Kd.R_append (Kd.int .u8) (w0 := w) w.heap.size rfl (.tmp 72) (.tmp 74) 38 5 (.int .u8 0) 1 rfl Tryd.underlying38 info5 rfl (by decide) (by omega) u7 x7_3 32 [.int .u8 32] (fun _ => True) (fun _ => False) rfl rfl ?aP (fun _ hk => hk.elim) ?aF ?aO ?aB ?aS ?aL ?_; (case aP => exact rfl); (case aB => exact (by repeat (first | (with_reducible first | exact HB.out | apply below_alloc | apply pw_below_drewN | apply below_drew1 | refine below_set ?_ GE313.out) | exact HB.out))); (case aF => exact (fun _ _ => trivial)); (case aO => exact (by (with_reducible repeat (first | apply Kd.R_alloc | apply Kd.R_drewN | apply Kd.R_drew)); exact HO_7.out)); (case aS => exact (below_size (by repeat (first | (with_reducible first | exact HB.out | apply below_alloc | apply pw_below_drewN | apply below_drew1 | refine below_set ?_ GE313.out) | exact HB.out)))); (case aL => have := LMc30.out; omega); intro v321 w32 ho hb hg hat; rw [← Ny320.out] at ho; have n0_ := Aside0.mk (blk_grown (g := gb313) (o := .cells #[.int .i64 a0_0, .int .i64 a0_1, .int .i64 a0_2, .string a0_3, .int .i64 a0_4] 35 (0, 0)) (by (with_reducible repeat (first | refine blk_drewN ?_ _ | refine blk_drew ?_ | refine blk_alloc ?_ _)); exact BK313.out) hg (Kd.R_ne HO_7.out BK313.out (by decide))); have n1_ := Aside0.mk (hb); have n2_ := Aside0.mk (ho); clear BK313; clear HB; clear HO_7; have BK313 := n0_; have HB := n1_; have HO322 := n2_; clear n0_ n1_ n2_; clear ho hb hg hat))
                go_roundg k3
                case measure => have := HJ2.out; have := HJ13.out; have := HK3.out; omega
                case rel => exact ⟨(y320), (wrap64 (x59_3 + 1)), (by first | rfl | (simp; done) | (simp [*]; done)), H', ⟨by have := HJ2.out; have := HJ13.out; have := HK3.out; omega⟩, ⟨by (with_reducible repeat (first | apply Kd.R_alloc | apply Kd.R_drewN | apply Kd.R_drew)); exact HO322.out⟩, ⟨by (with_reducible repeat (first | refine blk_drewN ?_ _ | refine blk_drew ?_ | refine blk_alloc ?_ _)); exact BK313.out⟩, ⟨by repeat (first | (with_reducible first | exact HB.out | apply below_alloc | apply pw_below_drewN | apply below_drew1 | refine below_set ?_ GE313.out) | exact HB.out)⟩⟩
               ·rw [if_neg c30] at H
                exact absurd H (by simp)
              ·rw [if_neg c29] at H
               have c29b0 : decide ((bt a0_3 x59_3) < 32) = false := decide_eq_false c29
               clear c29
               by_cases c33 : (bt a0_3 x59_3) = 127
               ·rw [if_pos c33] at H
                have c33b0 : ((bt a0_3 x59_3) == 127) = true := beq_iff_eq.mpr c33
                have c33b1 : ((bt a0_3 x59_3) != 127) = false := bne_eq_false_iff_eq.mpr c33
                clear c33
                by_cases c34 : x7_3.length < 140737488355328
                ·rw [if_pos c34] at H
                 have LMc34 := Aside0.mk c34
                 clear c34
                 obtain ⟨y323, hy323⟩ : ∃ y_ : List Int, y_ = (x7_3 ++ [32]) := ⟨_, rfl⟩
                 replace H : (trystlaw27_ShowLines.l0 k3 a1 t316 t317 y323 (a0_3.size : Int) (wrap64 (x59_3 + 1)) a0_0 a0_1 a0_2 a0_3 a0_4) = some r := by first | (rw [hy323]; with_reducible exact H) | (have H2_ := (Option.bind_some _ _).symm.trans H; rw [hy323]; with_reducible exact H2_) | (have H2_ := (Option.bind_some _ _).symm.trans H; with_reducible exact H2_) | with_reducible exact H | (rw [hy323]; exact H) | exact H
                 have Ny323 := Aside0.mk hy323
                 clear hy323
                 have H' := Aside0.mk H
                 clear H
                 have hcz35_0 : wr.cell? ⟨gb313, 0, none⟩ = some (.int .i64 a0_0) := (blk_cell BK313.out 0).trans rfl
                 have hcz35_1 : wr.cell? ⟨gb313, 1, none⟩ = some (.int .i64 a0_1) := (blk_cell BK313.out 1).trans rfl
                 have hcz35_2 : wr.cell? ⟨gb313, 2, none⟩ = some (.int .i64 a0_2) := (blk_cell BK313.out 2).trans rfl
                 have hcz35_3 : wr.cell? ⟨gb313, 3, none⟩ = some (.string a0_3) := (blk_cell BK313.out 3).trans rfl
                 have hcz35_4 : wr.cell? ⟨gb313, 4, none⟩ = some (.int .i64 a0_4) := (blk_cell BK313.out 4).trans rfl
                 have hfz35_0 := blk_frozen BK313.out 0
                 have hfz35_1 := blk_frozen BK313.out 1
                 have hfz35_2 := blk_frozen BK313.out 2
                 have hfz35_3 := blk_frozen BK313.out 3
                 have hfz35_4 := blk_frozen BK313.out 4
                 have p28 : 0 ≤ (x59_3 : Int) := of_decide_eq_true (by first | (with_reducible assumption) | assumption)
                 have q28 : x59_3 < (a0_3.size : Int) := of_decide_eq_true (by first | (with_reducible assumption) | assumption)
                 have hx28 := bt_at a0_3 x59_3
                 replace p28 := eq_true p28
                 replace q28 := eq_true q28
                 go_wp2_with (first | ((with_reducible refine gate_builtin (b := .append) (xs := #[.tmp 72, .tmp 74]) rfl ?_); (try (refine gate_guard (by rfl) ?_; dsimp only)); at_builtin; refine Kd.R_append (Kd.int .u8) (w0 := w) w.heap.size rfl (.tmp 72) (.tmp 74) 38 5 (.int .u8 0) 1 rfl Tryd.underlying38 info5 rfl (by decide) (by omega) u7 x7_3 32 [.int .u8 32] (fun _ => True) (fun _ => False) rfl rfl ?aP (fun _ hk => hk.elim) ?aF ?aO ?aB ?aS ?aL ?_; (case aP => exact rfl); (case aB => exact (by repeat (first | (with_reducible first | exact HB.out | apply below_alloc | apply pw_below_drewN | apply below_drew1 | refine below_set ?_ GE313.out) | exact HB.out))); (case aF => exact (fun _ _ => trivial)); (case aO => exact (by (with_reducible repeat (first | apply Kd.R_alloc | apply Kd.R_drewN | apply Kd.R_drew)); exact HO_7.out)); (case aS => exact (below_size (by repeat (first | (with_reducible first | exact HB.out | apply below_alloc | apply pw_below_drewN | apply below_drew1 | refine below_set ?_ GE313.out) | exact HB.out)))); (case aL => have := LMc34.out; omega); intro v324 w36 ho hb hg hat; rw [← Ny323.out] at ho; have n0_ := Aside0.mk (blk_grown (g := gb313) (o := .cells #[.int .i64 a0_0, .int .i64 a0_1, .int .i64 a0_2, .string a0_3, .int .i64 a0_4] 35 (0, 0)) (by (with_reducible repeat (first | refine blk_drewN ?_ _ | refine blk_drew ?_ | refine blk_alloc ?_ _)); exact BK313.out) hg (Kd.R_ne HO_7.out BK313.out (by decide))); have n1_ := Aside0.mk (hb); have n2_ := Aside0.mk (ho); clear BK313; clear HB; clear HO_7; have BK313 := n0_; have HB := n1_; have HO325 := n2_; clear n0_ n1_ n2_; clear ho hb hg hat))
                 go_roundg k3
                 case measure => have := HJ2.out; have := HJ13.out; have := HK3.out; omega
                 case rel => exact ⟨(y323), (wrap64 (x59_3 + 1)), (by first | rfl | (simp; done) | (simp [*]; done)), H', ⟨by have := HJ2.out; have := HJ13.out; have := HK3.out; omega⟩, ⟨by (with_reducible repeat (first | apply Kd.R_alloc | apply Kd.R_drewN | apply Kd.R_drew)); exact HO325.out⟩, ⟨by (with_reducible repeat (first | refine blk_drewN ?_ _ | refine blk_drew ?_ | refine blk_alloc ?_ _)); exact BK313.out⟩, ⟨by repeat (first | (with_reducible first | exact HB.out | apply below_alloc | apply pw_below_drewN | apply below_drew1 | refine below_set ?_ GE313.out) | exact HB.out)⟩⟩
                ·rw [if_neg c34] at H
                 exact absurd H (by simp)
               ·rw [if_neg c33] at H
                have c33b0 : ((bt a0_3 x59_3) == 127) = false := beq_eq_false_iff_ne.mpr c33
                have c33b1 : ((bt a0_3 x59_3) != 127) = true := bne_iff_ne.mpr c33
                by_cases c37 : x7_3.length < 140737488355328
                ·rw [if_pos c37] at H
                 have LMc37 := Aside0.mk c37
                 clear c37
                 obtain ⟨y326, hy326⟩ : ∃ y_ : List Int, y_ = (x7_3 ++ [bt a0_3 x59_3]) := ⟨_, rfl⟩
                 replace H : (trystlaw27_ShowLines.l0 k3 a1 t316 t317 y326 (a0_3.size : Int) (wrap64 (x59_3 + 1)) a0_0 a0_1 a0_2 a0_3 a0_4) = some r := by first | (rw [hy326]; with_reducible exact H) | (have H2_ := (Option.bind_some _ _).symm.trans H; rw [hy326]; with_reducible exact H2_) | (have H2_ := (Option.bind_some _ _).symm.trans H; with_reducible exact H2_) | with_reducible exact H | (rw [hy326]; exact H) | exact H
                 have Ny326 := Aside0.mk hy326
                 clear hy326
                 have H' := Aside0.mk H
                 clear H
                 have hcz38_0 : wr.cell? ⟨gb313, 0, none⟩ = some (.int .i64 a0_0) := (blk_cell BK313.out 0).trans rfl
                 have hcz38_1 : wr.cell? ⟨gb313, 1, none⟩ = some (.int .i64 a0_1) := (blk_cell BK313.out 1).trans rfl
                 have hcz38_2 : wr.cell? ⟨gb313, 2, none⟩ = some (.int .i64 a0_2) := (blk_cell BK313.out 2).trans rfl
                 have hcz38_3 : wr.cell? ⟨gb313, 3, none⟩ = some (.string a0_3) := (blk_cell BK313.out 3).trans rfl
                 have hcz38_4 : wr.cell? ⟨gb313, 4, none⟩ = some (.int .i64 a0_4) := (blk_cell BK313.out 4).trans rfl
                 have hfz38_0 := blk_frozen BK313.out 0
                 have hfz38_1 := blk_frozen BK313.out 1
                 have hfz38_2 := blk_frozen BK313.out 2
                 have hfz38_3 := blk_frozen BK313.out 3
                 have hfz38_4 := blk_frozen BK313.out 4
                 have p28 : 0 ≤ (x59_3 : Int) := of_decide_eq_true (by first | (with_reducible assumption) | assumption)
                 have q28 : x59_3 < (a0_3.size : Int) := of_decide_eq_true (by first | (with_reducible assumption) | assumption)
                 have hx28 := bt_at a0_3 x59_3
                 replace p28 := eq_true p28
                 replace q28 := eq_true q28
                 go_wp2_with (first | ((with_reducible refine gate_builtin (b := .append) (xs := #[.tmp 72, .tmp 74]) rfl ?_); (try (refine gate_guard (by rfl) ?_; dsimp only)); at_builtin; refine Kd.R_append (Kd.int .u8) (w0 := w) w.heap.size rfl (.tmp 72) (.tmp 74) 38 5 (.int .u8 0) 1 rfl Tryd.underlying38 info5 rfl (by decide) (by omega) u7 x7_3 (bt a0_3 x59_3) [.int .u8 (bt a0_3 x59_3)] (fun _ => True) (fun _ => False) rfl rfl ?aP (fun _ hk => hk.elim) ?aF ?aO ?aB ?aS ?aL ?_; (case aP => exact rfl); (case aB => exact (by repeat (first | (with_reducible first | exact HB.out | apply below_alloc | apply pw_below_drewN | apply below_drew1 | refine below_set ?_ GE313.out) | exact HB.out))); (case aF => exact (fun _ _ => trivial)); (case aO => exact (by (with_reducible repeat (first | apply Kd.R_alloc | apply Kd.R_drewN | apply Kd.R_drew)); exact HO_7.out)); (case aS => exact (below_size (by repeat (first | (with_reducible first | exact HB.out | apply below_alloc | apply pw_below_drewN | apply below_drew1 | refine below_set ?_ GE313.out) | exact HB.out)))); (case aL => have := LMc37.out; omega); intro v327 w39 ho hb hg hat; rw [← Ny326.out] at ho; have n0_ := Aside0.mk (blk_grown (g := gb313) (o := .cells #[.int .i64 a0_0, .int .i64 a0_1, .int .i64 a0_2, .string a0_3, .int .i64 a0_4] 35 (0, 0)) (by (with_reducible repeat (first | refine blk_drewN ?_ _ | refine blk_drew ?_ | refine blk_alloc ?_ _)); exact BK313.out) hg (Kd.R_ne HO_7.out BK313.out (by decide))); have n1_ := Aside0.mk (hb); have n2_ := Aside0.mk (ho); clear BK313; clear HB; clear HO_7; have BK313 := n0_; have HB := n1_; have HO328 := n2_; clear n0_ n1_ n2_; clear ho hb hg hat))
                 go_roundg k3
                 case measure => have := HJ2.out; have := HJ13.out; have := HK3.out; omega
                 case rel => exact ⟨(y326), (wrap64 (x59_3 + 1)), (by first | rfl | (simp; done) | (simp [*]; done)), H', ⟨by have := HJ2.out; have := HJ13.out; have := HK3.out; omega⟩, ⟨by (with_reducible repeat (first | apply Kd.R_alloc | apply Kd.R_drewN | apply Kd.R_drew)); exact HO328.out⟩, ⟨by (with_reducible repeat (first | refine blk_drewN ?_ _ | refine blk_drew ?_ | refine blk_alloc ?_ _)); exact BK313.out⟩, ⟨by repeat (first | (with_reducible first | exact HB.out | apply below_alloc | apply pw_below_drewN | apply below_drew1 | refine below_set ?_ GE313.out) | exact HB.out)⟩⟩
                ·rw [if_neg c37] at H
                 exact absurd H (by simp)
             ·rw [if_neg c27] at H
              exact absurd H (by simp)
            ·rw [if_neg c26] at H
             exact absurd H (by simp)
           ·rw [if_neg c25] at H
            have c25b0 : decide (x59_3 < (a0_3.size : Int)) = false := decide_eq_false c25
            clear c25
            replace H := Option.bind_eq_some_iff.mp H
            obtain ⟨t329, A400, H⟩ := H
            replace H : (if t329.size + 1 ≤ 9223372036854775807 then ((trystlaw27_hours.f k3 a0_0).bind fun t330 => (if (t329 ++ (⟨#[32]⟩ : ByteArray)).size + t330.size ≤ 9223372036854775807 then (if ((t329 ++ (⟨#[32]⟩ : ByteArray)) ++ t330).size + 1 ≤ 9223372036854775807 then ((trystlaw27_hours.f k3 a0_1).bind fun t331 => (if (((t329 ++ (⟨#[32]⟩ : ByteArray)) ++ t330) ++ (⟨#[45]⟩ : ByteArray)).size + t331.size ≤ 9223372036854775807 then (if ((((t329 ++ (⟨#[32]⟩ : ByteArray)) ++ t330) ++ (⟨#[45]⟩ : ByteArray)) ++ t331).size + 1 ≤ 9223372036854775807 then (if (((((t329 ++ (⟨#[32]⟩ : ByteArray)) ++ t330) ++ (⟨#[45]⟩ : ByteArray)) ++ t331) ++ (⟨#[32]⟩ : ByteArray)).size + (strOfNums x7_3).size ≤ 9223372036854775807 then (if a0_4 = 1 then (if ((((((t329 ++ (⟨#[32]⟩ : ByteArray)) ++ t330) ++ (⟨#[45]⟩ : ByteArray)) ++ t331) ++ (⟨#[32]⟩ : ByteArray)) ++ (strOfNums x7_3)).size + 12 ≤ 9223372036854775807 then (if t317 = 0 then (some (t316.toList == (((((((t329 ++ (⟨#[32]⟩ : ByteArray)) ++ t330) ++ (⟨#[45]⟩ : ByteArray)) ++ t331) ++ (⟨#[32]⟩ : ByteArray)) ++ (strOfNums x7_3)) ++ (⟨#[32, 40, 116, 101, 110, 116, 97, 116, 105, 118, 101, 41]⟩ : ByteArray)).toList)) else (some false)) else (none)) else (if a0_4 = 3 then (if ((((((t329 ++ (⟨#[32]⟩ : ByteArray)) ++ t330) ++ (⟨#[45]⟩ : ByteArray)) ++ t331) ++ (⟨#[32]⟩ : ByteArray)) ++ (strOfNums x7_3)).size + 12 ≤ 9223372036854775807 then (if t317 = 0 then (some (t316.toList == (((((((t329 ++ (⟨#[32]⟩ : ByteArray)) ++ t330) ++ (⟨#[45]⟩ : ByteArray)) ++ t331) ++ (⟨#[32]⟩ : ByteArray)) ++ (strOfNums x7_3)) ++ (⟨#[32, 40, 99, 97, 110, 99, 101, 108, 108, 101, 100, 41]⟩ : ByteArray)).toList)) else (some false)) else (none)) else (if t317 = 0 then (some (t316.toList == ((((((t329 ++ (⟨#[32]⟩ : ByteArray)) ++ t330) ++ (⟨#[45]⟩ : ByteArray)) ++ t331) ++ (⟨#[32]⟩ : ByteArray)) ++ (strOfNums x7_3)).toList)) else (some false)))) else (none)) else (none)) else (none))) else (none)) else (none))) else (none)) = some r := H
            have A40 := Aside0.mk A400
            clear A400
            by_cases c41 : t329.size + 1 ≤ 9223372036854775807
            ·rw [if_pos c41] at H
             have c41b0 := eq_true c41
             have c41b1 : decide (t329.size + 1 ≤ 9223372036854775807) = true := decide_eq_true c41
             try have c41b2 : (9223372036854775807 < t329.size + 1) = False := eq_false (Nat.not_lt.2 c41)
             try (have c41b3 := c41b2; simp only [ByteArray.size_append, bs1_] at c41b3)
             replace H := Option.bind_eq_some_iff.mp H
             obtain ⟨t330, A420, H⟩ := H
             replace H : (if (t329 ++ (⟨#[32]⟩ : ByteArray)).size + t330.size ≤ 9223372036854775807 then (if ((t329 ++ (⟨#[32]⟩ : ByteArray)) ++ t330).size + 1 ≤ 9223372036854775807 then ((trystlaw27_hours.f k3 a0_1).bind fun t331 => (if (((t329 ++ (⟨#[32]⟩ : ByteArray)) ++ t330) ++ (⟨#[45]⟩ : ByteArray)).size + t331.size ≤ 9223372036854775807 then (if ((((t329 ++ (⟨#[32]⟩ : ByteArray)) ++ t330) ++ (⟨#[45]⟩ : ByteArray)) ++ t331).size + 1 ≤ 9223372036854775807 then (if (((((t329 ++ (⟨#[32]⟩ : ByteArray)) ++ t330) ++ (⟨#[45]⟩ : ByteArray)) ++ t331) ++ (⟨#[32]⟩ : ByteArray)).size + (strOfNums x7_3).size ≤ 9223372036854775807 then (if a0_4 = 1 then (if ((((((t329 ++ (⟨#[32]⟩ : ByteArray)) ++ t330) ++ (⟨#[45]⟩ : ByteArray)) ++ t331) ++ (⟨#[32]⟩ : ByteArray)) ++ (strOfNums x7_3)).size + 12 ≤ 9223372036854775807 then (if t317 = 0 then (some (t316.toList == (((((((t329 ++ (⟨#[32]⟩ : ByteArray)) ++ t330) ++ (⟨#[45]⟩ : ByteArray)) ++ t331) ++ (⟨#[32]⟩ : ByteArray)) ++ (strOfNums x7_3)) ++ (⟨#[32, 40, 116, 101, 110, 116, 97, 116, 105, 118, 101, 41]⟩ : ByteArray)).toList)) else (some false)) else (none)) else (if a0_4 = 3 then (if ((((((t329 ++ (⟨#[32]⟩ : ByteArray)) ++ t330) ++ (⟨#[45]⟩ : ByteArray)) ++ t331) ++ (⟨#[32]⟩ : ByteArray)) ++ (strOfNums x7_3)).size + 12 ≤ 9223372036854775807 then (if t317 = 0 then (some (t316.toList == (((((((t329 ++ (⟨#[32]⟩ : ByteArray)) ++ t330) ++ (⟨#[45]⟩ : ByteArray)) ++ t331) ++ (⟨#[32]⟩ : ByteArray)) ++ (strOfNums x7_3)) ++ (⟨#[32, 40, 99, 97, 110, 99, 101, 108, 108, 101, 100, 41]⟩ : ByteArray)).toList)) else (some false)) else (none)) else (if t317 = 0 then (some (t316.toList == ((((((t329 ++ (⟨#[32]⟩ : ByteArray)) ++ t330) ++ (⟨#[45]⟩ : ByteArray)) ++ t331) ++ (⟨#[32]⟩ : ByteArray)) ++ (strOfNums x7_3)).toList)) else (some false)))) else (none)) else (none)) else (none))) else (none)) else (none)) = some r := H
             have A42 := Aside0.mk A420
             clear A420
             by_cases c43 : (t329 ++ (⟨#[32]⟩ : ByteArray)).size + t330.size ≤ 9223372036854775807
             ·rw [if_pos c43] at H
              have c43b0 := eq_true c43
              have c43b1 : decide ((t329 ++ (⟨#[32]⟩ : ByteArray)).size + t330.size ≤ 9223372036854775807) = true := decide_eq_true c43
              try have c43b2 : (9223372036854775807 < (t329 ++ (⟨#[32]⟩ : ByteArray)).size + t330.size) = False := eq_false (Nat.not_lt.2 c43)
              try (have c43b3 := c43b2; simp only [ByteArray.size_append, bs1_] at c43b3)
              by_cases c44 : ((t329 ++ (⟨#[32]⟩ : ByteArray)) ++ t330).size + 1 ≤ 9223372036854775807
              ·rw [if_pos c44] at H
               have c44b0 := eq_true c44
               have c44b1 : decide (((t329 ++ (⟨#[32]⟩ : ByteArray)) ++ t330).size + 1 ≤ 9223372036854775807) = true := decide_eq_true c44
               try have c44b2 : (9223372036854775807 < ((t329 ++ (⟨#[32]⟩ : ByteArray)) ++ t330).size + 1) = False := eq_false (Nat.not_lt.2 c44)
               try (have c44b3 := c44b2; simp only [ByteArray.size_append, bs1_] at c44b3)
               replace H := Option.bind_eq_some_iff.mp H
               obtain ⟨t331, A450, H⟩ := H
               replace H : (if (((t329 ++ (⟨#[32]⟩ : ByteArray)) ++ t330) ++ (⟨#[45]⟩ : ByteArray)).size + t331.size ≤ 9223372036854775807 then (if ((((t329 ++ (⟨#[32]⟩ : ByteArray)) ++ t330) ++ (⟨#[45]⟩ : ByteArray)) ++ t331).size + 1 ≤ 9223372036854775807 then (if (((((t329 ++ (⟨#[32]⟩ : ByteArray)) ++ t330) ++ (⟨#[45]⟩ : ByteArray)) ++ t331) ++ (⟨#[32]⟩ : ByteArray)).size + (strOfNums x7_3).size ≤ 9223372036854775807 then (if a0_4 = 1 then (if ((((((t329 ++ (⟨#[32]⟩ : ByteArray)) ++ t330) ++ (⟨#[45]⟩ : ByteArray)) ++ t331) ++ (⟨#[32]⟩ : ByteArray)) ++ (strOfNums x7_3)).size + 12 ≤ 9223372036854775807 then (if t317 = 0 then (some (t316.toList == (((((((t329 ++ (⟨#[32]⟩ : ByteArray)) ++ t330) ++ (⟨#[45]⟩ : ByteArray)) ++ t331) ++ (⟨#[32]⟩ : ByteArray)) ++ (strOfNums x7_3)) ++ (⟨#[32, 40, 116, 101, 110, 116, 97, 116, 105, 118, 101, 41]⟩ : ByteArray)).toList)) else (some false)) else (none)) else (if a0_4 = 3 then (if ((((((t329 ++ (⟨#[32]⟩ : ByteArray)) ++ t330) ++ (⟨#[45]⟩ : ByteArray)) ++ t331) ++ (⟨#[32]⟩ : ByteArray)) ++ (strOfNums x7_3)).size + 12 ≤ 9223372036854775807 then (if t317 = 0 then (some (t316.toList == (((((((t329 ++ (⟨#[32]⟩ : ByteArray)) ++ t330) ++ (⟨#[45]⟩ : ByteArray)) ++ t331) ++ (⟨#[32]⟩ : ByteArray)) ++ (strOfNums x7_3)) ++ (⟨#[32, 40, 99, 97, 110, 99, 101, 108, 108, 101, 100, 41]⟩ : ByteArray)).toList)) else (some false)) else (none)) else (if t317 = 0 then (some (t316.toList == ((((((t329 ++ (⟨#[32]⟩ : ByteArray)) ++ t330) ++ (⟨#[45]⟩ : ByteArray)) ++ t331) ++ (⟨#[32]⟩ : ByteArray)) ++ (strOfNums x7_3)).toList)) else (some false)))) else (none)) else (none)) else (none)) = some r := H
               have A45 := Aside0.mk A450
               clear A450
               by_cases c46 : (((t329 ++ (⟨#[32]⟩ : ByteArray)) ++ t330) ++ (⟨#[45]⟩ : ByteArray)).size + t331.size ≤ 9223372036854775807
               ·rw [if_pos c46] at H
                have c46b0 := eq_true c46
                have c46b1 : decide ((((t329 ++ (⟨#[32]⟩ : ByteArray)) ++ t330) ++ (⟨#[45]⟩ : ByteArray)).size + t331.size ≤ 9223372036854775807) = true := decide_eq_true c46
                try have c46b2 : (9223372036854775807 < (((t329 ++ (⟨#[32]⟩ : ByteArray)) ++ t330) ++ (⟨#[45]⟩ : ByteArray)).size + t331.size) = False := eq_false (Nat.not_lt.2 c46)
                try (have c46b3 := c46b2; simp only [ByteArray.size_append, bs1_] at c46b3)
                by_cases c47 : ((((t329 ++ (⟨#[32]⟩ : ByteArray)) ++ t330) ++ (⟨#[45]⟩ : ByteArray)) ++ t331).size + 1 ≤ 9223372036854775807
                ·rw [if_pos c47] at H
                 have c47b0 := eq_true c47
                 have c47b1 : decide (((((t329 ++ (⟨#[32]⟩ : ByteArray)) ++ t330) ++ (⟨#[45]⟩ : ByteArray)) ++ t331).size + 1 ≤ 9223372036854775807) = true := decide_eq_true c47
                 try have c47b2 : (9223372036854775807 < ((((t329 ++ (⟨#[32]⟩ : ByteArray)) ++ t330) ++ (⟨#[45]⟩ : ByteArray)) ++ t331).size + 1) = False := eq_false (Nat.not_lt.2 c47)
                 try (have c47b3 := c47b2; simp only [ByteArray.size_append, bs1_] at c47b3)
                 by_cases c48 : (((((t329 ++ (⟨#[32]⟩ : ByteArray)) ++ t330) ++ (⟨#[45]⟩ : ByteArray)) ++ t331) ++ (⟨#[32]⟩ : ByteArray)).size + (strOfNums x7_3).size ≤ 9223372036854775807
                 ·rw [if_pos c48] at H
                  have c48b0 := eq_true c48
                  have c48b1 : decide ((((((t329 ++ (⟨#[32]⟩ : ByteArray)) ++ t330) ++ (⟨#[45]⟩ : ByteArray)) ++ t331) ++ (⟨#[32]⟩ : ByteArray)).size + (strOfNums x7_3).size ≤ 9223372036854775807) = true := decide_eq_true c48
                  try have c48b2 : (9223372036854775807 < (((((t329 ++ (⟨#[32]⟩ : ByteArray)) ++ t330) ++ (⟨#[45]⟩ : ByteArray)) ++ t331) ++ (⟨#[32]⟩ : ByteArray)).size + (strOfNums x7_3).size) = False := eq_false (Nat.not_lt.2 c48)
                  try (have c48b3 := c48b2; simp only [ByteArray.size_append, bs1_] at c48b3)
                  try go_wp2
                  have n0_ := Aside0.mk (Kd.R_drew HO_7.out)
                  have n1_ := Aside0.mk (blk_drew BK313.out)
                  have n2_ := Aside0.mk (below_drew1 HB.out)
                  clear HO_7
                  clear BK313
                  clear HB
                  have HO_7 := n0_
                  have BK313 := n1_
                  have HB := n2_
                  clear n0_ n1_ n2_
                  refine start_ (n := 20) (S := fun w' => w'.cell? ⟨gb313, 0, none⟩ = some (.int .i64 a0_0) ∧ w'.cell? ⟨gb313, 1, none⟩ = some (.int .i64 a0_1) ∧ w'.cell? ⟨gb313, 2, none⟩ = some (.int .i64 a0_2) ∧ w'.cell? ⟨gb313, 3, none⟩ = some (.string a0_3) ∧ w'.cell? ⟨gb313, 4, none⟩ = some (.int .i64 a0_4) ∧ (convert 38 9 u7).run Tryd.prog w' = .ok (.string (strOfNums x7_3)) w') (ds := []) #[false, false, false, false, false, false, false, false, false, false, false, false, false, false, false, false, false, false, false, false] (by kernel_rfl) rfl rfl ⟨(blk_cell BK313.out 0).trans rfl, (blk_cell BK313.out 1).trans rfl, (blk_cell BK313.out 2).trans rfl, (blk_cell BK313.out 3).trans rfl, (blk_cell BK313.out 4).trans rfl, own_string (P := Tryd.prog) Tryd.underlying38 Tryd.underlying5 Tryd.underlying9 (Kd.own_of_R HO_7.out)⟩ (fun hHeld => ?_); refine with_tabW trystlaw27_ShowLines.tab17 trystlaw27_ShowLines.bits17 (fun HT_ HW_ => ?_)
                  generalize wr.drew = w52 at HO_7 BK313 HB hHeld ⊢
                  refine pure_ (i := 0) (N := some 77) (v := ?_) (a' := ?_) #[true, false, false, false, false, false, false, false, false, false, false, false, false, false, false, false, false, false, false, false] rfl rfl (any_of HT_.out (by kernel_rfl)) (fun _ _ _ h => h) (Or.inl ⟨by rfl, ?_⟩) ?_ ?_
                  rotate_left
                  ·intro w'
                   go_simp
                   with_reducible rfl
                  rotate_left
                  ·simp only [Act.put, List.setIfInBounds_toArray, List.set_cons_zero, List.set_cons_succ, i64_w, i32_w]
                   rfl
                  refine pure_ (i := 1) (N := some 78) (v := ?_) (a' := ?_) #[true, true, false, false, false, false, false, false, false, false, false, false, false, false, false, false, false, false, false, false] rfl rfl (any_of HT_.out (by kernel_rfl)) (fun _ _ _ h => h) (Or.inl ⟨by rfl, ?_⟩) ?_ ?_
                  rotate_left
                  ·intro w'
                   go_simp
                   with_reducible rfl
                  rotate_left
                  ·simp only [Act.put, List.setIfInBounds_toArray, List.set_cons_zero, List.set_cons_succ, i64_w, i32_w]
                   rfl
                  refine pure_ (i := 6) (N := some 83) (v := ?_) (a' := ?_) #[true, true, false, false, false, false, true, false, false, false, false, false, false, false, false, false, false, false, false, false] rfl rfl (any_of HT_.out (by kernel_rfl)) (fun _ _ _ h => h) (Or.inl ⟨by rfl, ?_⟩) ?_ ?_
                  rotate_left
                  ·intro w'
                   go_simp
                   with_reducible rfl
                  rotate_left
                  ·simp only [Act.put, List.setIfInBounds_toArray, List.set_cons_zero, List.set_cons_succ, i64_w, i32_w]
                   rfl
                  refine pure_ (i := 11) (N := some 88) (v := ?_) (a' := ?_) #[true, true, false, false, false, false, true, false, false, false, false, true, false, false, false, false, false, false, false, false] rfl rfl (any_of HT_.out (by kernel_rfl)) (fun _ _ _ h => h) (Or.inl ⟨by rfl, ?_⟩) ?_ ?_
                  rotate_left
                  ·intro w'
                   go_simp
                   with_reducible rfl
                  rotate_left
                  ·simp only [Act.put, List.setIfInBounds_toArray, List.set_cons_zero, List.set_cons_succ, i64_w, i32_w]
                   rfl
                  refine pure_ (i := 16) (N := some 93) (v := ?_) (a' := ?_) #[true, true, false, false, false, false, true, false, false, false, false, true, false, false, false, false, true, false, false, false] rfl rfl (any_of HT_.out (by kernel_rfl)) (fun _ _ _ h => h) (Or.inl ⟨by rfl, ?_⟩) ?_ ?_
                  rotate_left
                  ·intro w'
                   go_simp
                   with_reducible rfl
                  rotate_left
                  ·simp only [Act.put, List.setIfInBounds_toArray, List.set_cons_zero, List.set_cons_succ, i64_w, i32_w]
                   rfl
                  refine take_ (i := 17) (N := some 94) (v := ?_) (a' := ?_) #[true, true, false, false, false, false, true, false, false, false, false, true, false, false, false, false, true, true, false, false] rfl rfl (take_ofW HT_.out HW_.out (by kernel_rfl)) (fun _ _ _ h => h) (Or.inl ⟨by rfl, ?_⟩) hHeld ?_ ?_
                  rotate_left
                  ·rintro w' ⟨s0, s1, s2, s3, s4, s5⟩
                   go_simp
                   with_reducible rfl
                  rotate_left
                  ·simp only [Act.put, List.setIfInBounds_toArray, List.set_cons_zero, List.set_cons_succ, i64_w, i32_w]
                   rfl
                  refine take_ (i := 2) (N := some 79) (v := ?_) (a' := ?_) #[true, true, true, false, false, false, true, false, false, false, false, true, false, false, false, false, true, true, false, false] rfl rfl (take_ofW HT_.out HW_.out (by kernel_rfl)) (fun _ _ _ h => h) (Or.inl ⟨by rfl, ?_⟩) hHeld ?_ ?_
                  rotate_left
                  ·rintro w' ⟨s0, s1, s2, s3, s4, s5⟩
                   go_simp
                   with_reducible rfl
                  rotate_left
                  ·simp only [Act.put, List.setIfInBounds_toArray, List.set_cons_zero, List.set_cons_succ, i64_w, i32_w]
                   rfl
                  refine pure_ (i := 3) (N := some 80) (v := ?_) (a' := ?_) #[true, true, true, true, false, false, true, false, false, false, false, true, false, false, false, false, true, true, false, false] rfl rfl (any_of HT_.out (by kernel_rfl)) (fun _ _ _ h => h) (Or.inl ⟨by rfl, ?_⟩) ?_ ?_
                  rotate_left
                  ·intro w'
                   go_simp
                   with_reducible rfl
                  rotate_left
                  ·simp only [Act.put, List.setIfInBounds_toArray, List.set_cons_zero, List.set_cons_succ, i64_w, i32_w]
                   rfl
                  refine take_ (i := 7) (N := some 84) (v := ?_) (a' := ?_) #[true, true, true, true, false, false, true, true, false, false, false, true, false, false, false, false, true, true, false, false] rfl rfl (take_ofW HT_.out HW_.out (by kernel_rfl)) (fun _ _ _ h => h) (Or.inl ⟨by rfl, ?_⟩) hHeld ?_ ?_
                  rotate_left
                  ·rintro w' ⟨s0, s1, s2, s3, s4, s5⟩
                   go_simp
                   with_reducible rfl
                  rotate_left
                  ·simp only [Act.put, List.setIfInBounds_toArray, List.set_cons_zero, List.set_cons_succ, i64_w, i32_w]
                   rfl
                  refine take_ (i := 12) (N := some 89) (v := ?_) (a' := ?_) #[true, true, true, true, false, false, true, true, false, false, false, true, true, false, false, false, true, true, false, false] rfl rfl (take_ofW HT_.out HW_.out (by kernel_rfl)) (fun _ _ _ h => h) (Or.inl ⟨by rfl, ?_⟩) hHeld ?_ ?_
                  rotate_left
                  ·rintro w' ⟨s0, s1, s2, s3, s4, s5⟩
                   go_simp
                   with_reducible rfl
                  rotate_left
                  ·simp only [Act.put, List.setIfInBounds_toArray, List.set_cons_zero, List.set_cons_succ, i64_w, i32_w]
                   rfl
                  refine one_ (i := 4) (N := some 81) #[true, true, true, true, true, false, true, true, false, false, false, true, true, false, false, false, true, true, false, false] rfl rfl (one_of HT_.out (by kernel_rfl)) (by decide) (fun K hK => ?_)
                  refine goes_ Tryd.func11 (by kernel_rfl) rfl #[.int .i64 a1, .int .i64 (wrap64 (Int.tdiv a0_0 86400))] (by rfl) rfl rfl (by (try simp only [List.map_toArray, List.map_cons, List.map_nil]); first | done | rfl | (simp only [List.length_drop, List.length_take]; rfl)) ?_
                  with_reducible refine (trystref01_Text.calls a1 (wrap64 (Int.tdiv a0_0 86400)) t329 _ A40.out).mono ?_
                  rintro e w53 ⟨rfl, hb⟩
                  refine ⟨_, rfl, ?_⟩
                  have n0_ := Aside0.mk (Kd.R_below (by (with_reducible repeat (first | apply Kd.R_alloc | apply Kd.R_drewN | apply Kd.R_drew)); exact HO_7.out) hb)
                  have n1_ := Aside0.mk (blk_below (g := gb313) (o := .cells #[.int .i64 a0_0, .int .i64 a0_1, .int .i64 a0_2, .string a0_3, .int .i64 a0_4] 35 (0, 0)) (by (with_reducible repeat (first | refine blk_drewN ?_ _ | refine blk_drew ?_ | refine blk_alloc ?_ _)); exact BK313.out) hb)
                  have n2_ := Aside0.mk (below_step (by repeat (first | (with_reducible first | exact HB.out | apply below_alloc | apply pw_below_drewN | apply below_drew1 | refine below_set ?_ GE313.out) | exact HB.out)) hb)
                  clear HO_7
                  clear BK313
                  clear HB
                  have HO_7 := n0_
                  have BK313 := n1_
                  have HB := n2_
                  clear n0_ n1_ n2_
                  (try clear hb)
                  (try clear hb2)
                  (try clear hk)
                  (try clear hi)
                  refine hK.out _ _ ⟨(blk_cell BK313.out 0).trans rfl, (blk_cell BK313.out 1).trans rfl, (blk_cell BK313.out 2).trans rfl, (blk_cell BK313.out 3).trans rfl, (blk_cell BK313.out 4).trans rfl, own_string (P := Tryd.prog) Tryd.underlying38 Tryd.underlying5 Tryd.underlying9 (Kd.own_of_R HO_7.out)⟩ (fun hHeld => ?_)
                  clear hK K
                  refine norm_ (a' := ?_) ?_ ?_
                  rotate_left
                  ·show Act.put _ (some 81) _ = _
                   simp only [Act.put, List.setIfInBounds_toArray, List.set_cons_zero, List.set_cons_succ, i64_w, i32_w]
                   rfl
                  refine pure_ (i := 5) (N := some 82) (v := ?_) (a' := ?_) #[true, true, true, true, true, true, true, true, false, false, false, true, true, false, false, false, true, true, false, false] rfl rfl (any_of HT_.out (by kernel_rfl)) (fun _ _ _ h => h) (Or.inl ⟨by rfl, ?_⟩) ?_ ?_
                  rotate_left
                  ·intro w'
                   go_simp
                   with_reducible rfl
                  rotate_left
                  ·simp only [Act.put, List.setIfInBounds_toArray, List.set_cons_zero, List.set_cons_succ, i64_w, i32_w]
                   rfl
                  refine one_ (i := 8) (N := some 85) #[true, true, true, true, true, true, true, true, true, false, false, true, true, false, false, false, true, true, false, false] rfl rfl (one_of HT_.out (by kernel_rfl)) (by decide) (fun K hK => ?_)
                  refine goes_ Tryd.func14 (by kernel_rfl) rfl #[.int .i64 a0_0] (by rfl) rfl rfl (by (try simp only [List.map_toArray, List.map_cons, List.map_nil]); first | done | rfl | (simp only [List.length_drop, List.length_take]; rfl)) ?_
                  with_reducible refine (trystlaw27_hours.calls k3 a0_0 t330 _ A42.out).mono ?_
                  rintro e w54 ⟨rfl, hb⟩
                  refine ⟨_, rfl, ?_⟩
                  have n0_ := Aside0.mk (Kd.R_below (by (with_reducible repeat (first | apply Kd.R_alloc | apply Kd.R_drewN | apply Kd.R_drew)); exact HO_7.out) hb)
                  have n1_ := Aside0.mk (blk_below (g := gb313) (o := .cells #[.int .i64 a0_0, .int .i64 a0_1, .int .i64 a0_2, .string a0_3, .int .i64 a0_4] 35 (0, 0)) (by (with_reducible repeat (first | refine blk_drewN ?_ _ | refine blk_drew ?_ | refine blk_alloc ?_ _)); exact BK313.out) hb)
                  have n2_ := Aside0.mk (below_step (by repeat (first | (with_reducible first | exact HB.out | apply below_alloc | apply pw_below_drewN | apply below_drew1 | refine below_set ?_ GE313.out) | exact HB.out)) hb)
                  clear HO_7
                  clear BK313
                  clear HB
                  have HO_7 := n0_
                  have BK313 := n1_
                  have HB := n2_
                  clear n0_ n1_ n2_
                  (try clear hb)
                  (try clear hb2)
                  (try clear hk)
                  (try clear hi)
                  refine hK.out _ _ ⟨(blk_cell BK313.out 0).trans rfl, (blk_cell BK313.out 1).trans rfl, (blk_cell BK313.out 2).trans rfl, (blk_cell BK313.out 3).trans rfl, (blk_cell BK313.out 4).trans rfl, own_string (P := Tryd.prog) Tryd.underlying38 Tryd.underlying5 Tryd.underlying9 (Kd.own_of_R HO_7.out)⟩ (fun hHeld => ?_)
                  clear hK K
                  refine norm_ (a' := ?_) ?_ ?_
                  rotate_left
                  ·show Act.put _ (some 85) _ = _
                   simp only [Act.put, List.setIfInBounds_toArray, List.set_cons_zero, List.set_cons_succ, i64_w, i32_w]
                   rfl
                  refine pure_ (i := 9) (N := some 86) (v := ?_) (a' := ?_) #[true, true, true, true, true, true, true, true, true, true, false, true, true, false, false, false, true, true, false, false] rfl rfl (any_of HT_.out (by kernel_rfl)) (fun _ _ _ h => h) (Or.inl ⟨by rfl, ?_⟩) ?_ ?_
                  rotate_left
                  ·intro w'
                   go_simp
                   with_reducible rfl
                  rotate_left
                  ·simp only [Act.put, List.setIfInBounds_toArray, List.set_cons_zero, List.set_cons_succ, i64_w, i32_w]
                   rfl
                  refine pure_ (i := 10) (N := some 87) (v := ?_) (a' := ?_) #[true, true, true, true, true, true, true, true, true, true, true, true, true, false, false, false, true, true, false, false] rfl rfl (any_of HT_.out (by kernel_rfl)) (fun _ _ _ h => h) (Or.inl ⟨by rfl, ?_⟩) ?_ ?_
                  rotate_left
                  ·intro w'
                   go_simp
                   with_reducible rfl
                  rotate_left
                  ·simp only [Act.put, List.setIfInBounds_toArray, List.set_cons_zero, List.set_cons_succ, i64_w, i32_w]
                   rfl
                  refine one_ (i := 13) (N := some 90) #[true, true, true, true, true, true, true, true, true, true, true, true, true, true, false, false, true, true, false, false] rfl rfl (one_of HT_.out (by kernel_rfl)) (by decide) (fun K hK => ?_)
                  refine goes_ Tryd.func14 (by kernel_rfl) rfl #[.int .i64 a0_1] (by rfl) rfl rfl (by (try simp only [List.map_toArray, List.map_cons, List.map_nil]); first | done | rfl | (simp only [List.length_drop, List.length_take]; rfl)) ?_
                  with_reducible refine (trystlaw27_hours.calls k3 a0_1 t331 _ A45.out).mono ?_
                  rintro e w55 ⟨rfl, hb⟩
                  refine ⟨_, rfl, ?_⟩
                  have n0_ := Aside0.mk (Kd.R_below (by (with_reducible repeat (first | apply Kd.R_alloc | apply Kd.R_drewN | apply Kd.R_drew)); exact HO_7.out) hb)
                  have n1_ := Aside0.mk (blk_below (g := gb313) (o := .cells #[.int .i64 a0_0, .int .i64 a0_1, .int .i64 a0_2, .string a0_3, .int .i64 a0_4] 35 (0, 0)) (by (with_reducible repeat (first | refine blk_drewN ?_ _ | refine blk_drew ?_ | refine blk_alloc ?_ _)); exact BK313.out) hb)
                  have n2_ := Aside0.mk (below_step (by repeat (first | (with_reducible first | exact HB.out | apply below_alloc | apply pw_below_drewN | apply below_drew1 | refine below_set ?_ GE313.out) | exact HB.out)) hb)
                  clear HO_7
                  clear BK313
                  clear HB
                  have HO_7 := n0_
                  have BK313 := n1_
                  have HB := n2_
                  clear n0_ n1_ n2_
                  (try clear hb)
                  (try clear hb2)
                  (try clear hk)
                  (try clear hi)
                  have hcv56 := own_string (P := Tryd.prog) Tryd.underlying38 Tryd.underlying5 Tryd.underlying9 (Kd.own_of_R HO_7.out)
                  refine hK.out _ _ ⟨(blk_cell BK313.out 0).trans rfl, (blk_cell BK313.out 1).trans rfl, (blk_cell BK313.out 2).trans rfl, (blk_cell BK313.out 3).trans rfl, (blk_cell BK313.out 4).trans rfl, own_string (P := Tryd.prog) Tryd.underlying38 Tryd.underlying5 Tryd.underlying9 (Kd.own_of_R HO_7.out)⟩ (fun hHeld => ?_)
                  clear hK K
                  refine norm_ (a' := ?_) ?_ ?_
                  rotate_left
                  ·show Act.put _ (some 90) _ = _
                   simp only [Act.put, List.setIfInBounds_toArray, List.set_cons_zero, List.set_cons_succ, i64_w, i32_w]
                   rfl
                  refine pure_ (i := 14) (N := some 91) (v := ?_) (a' := ?_) #[true, true, true, true, true, true, true, true, true, true, true, true, true, true, true, false, true, true, false, false] rfl rfl (any_of HT_.out (by kernel_rfl)) (fun _ _ _ h => h) (Or.inl ⟨by rfl, ?_⟩) ?_ ?_
                  rotate_left
                  ·intro w'
                   go_simp
                   with_reducible rfl
                  rotate_left
                  ·simp only [Act.put, List.setIfInBounds_toArray, List.set_cons_zero, List.set_cons_succ, i64_w, i32_w]
                   rfl
                  refine pure_ (i := 15) (N := some 92) (v := ?_) (a' := ?_) #[true, true, true, true, true, true, true, true, true, true, true, true, true, true, true, true, true, true, false, false] rfl rfl (any_of HT_.out (by kernel_rfl)) (fun _ _ _ h => h) (Or.inl ⟨by rfl, ?_⟩) ?_ ?_
                  rotate_left
                  ·intro w'
                   go_simp
                   with_reducible rfl
                  rotate_left
                  ·simp only [Act.put, List.setIfInBounds_toArray, List.set_cons_zero, List.set_cons_succ, i64_w, i32_w]
                   rfl
                  refine pure_ (i := 18) (N := some 95) (v := ?_) (a' := ?_) #[true, true, true, true, true, true, true, true, true, true, true, true, true, true, true, true, true, true, true, false] rfl rfl (any_of HT_.out (by kernel_rfl)) (fun _ _ _ h => h) (Or.inl ⟨by rfl, ?_⟩) ?_ ?_
                  rotate_left
                  ·intro w'
                   go_simp
                   with_reducible rfl
                  rotate_left
                  ·simp only [Act.put, List.setIfInBounds_toArray, List.set_cons_zero, List.set_cons_succ, i64_w, i32_w]
                   rfl
                  refine pure_ (i := 19) (N := some 10) (v := ?_) (a' := ?_) #[true, true, true, true, true, true, true, true, true, true, true, true, true, true, true, true, true, true, true, true] rfl rfl (any_of HT_.out (by kernel_rfl)) (fun _ _ _ h => h) (Or.inl ⟨by rfl, ?_⟩) ?_ ?_
                  rotate_left
                  ·intro w'
                   go_simp
                   with_reducible rfl
                  rotate_left
                  ·simp only [Act.put, List.setIfInBounds_toArray, List.set_cons_zero, List.set_cons_succ, i64_w, i32_w]
                   rfl
                  refine done_ (done_of HT_.out (by kernel_rfl)) ?_
                  have hcz58_0 : w55.cell? ⟨gb313, 0, none⟩ = some (.int .i64 a0_0) := (blk_cell BK313.out 0).trans rfl
                  have hcz58_1 : w55.cell? ⟨gb313, 1, none⟩ = some (.int .i64 a0_1) := (blk_cell BK313.out 1).trans rfl
                  have hcz58_2 : w55.cell? ⟨gb313, 2, none⟩ = some (.int .i64 a0_2) := (blk_cell BK313.out 2).trans rfl
                  have hcz58_3 : w55.cell? ⟨gb313, 3, none⟩ = some (.string a0_3) := (blk_cell BK313.out 3).trans rfl
                  have hcz58_4 : w55.cell? ⟨gb313, 4, none⟩ = some (.int .i64 a0_4) := (blk_cell BK313.out 4).trans rfl
                  have hfz58_0 := blk_frozen BK313.out 0
                  have hfz58_1 := blk_frozen BK313.out 1
                  have hfz58_2 := blk_frozen BK313.out 2
                  have hfz58_3 := blk_frozen BK313.out 3
                  have hfz58_4 := blk_frozen BK313.out 4
                  by_cases c49 : a0_4 = 1
                  ·rw [if_pos c49] at H
                   have c49b0 : (a0_4 == 1) = true := beq_iff_eq.mpr c49
                   have c49b1 : (a0_4 != 1) = false := bne_eq_false_iff_eq.mpr c49
                   clear c49
                   by_cases c50 : ((((((t329 ++ (⟨#[32]⟩ : ByteArray)) ++ t330) ++ (⟨#[45]⟩ : ByteArray)) ++ t331) ++ (⟨#[32]⟩ : ByteArray)) ++ (strOfNums x7_3)).size + 12 ≤ 9223372036854775807
                   ·rw [if_pos c50] at H
                    have c50b0 := eq_true c50
                    have c50b1 : decide (((((((t329 ++ (⟨#[32]⟩ : ByteArray)) ++ t330) ++ (⟨#[45]⟩ : ByteArray)) ++ t331) ++ (⟨#[32]⟩ : ByteArray)) ++ (strOfNums x7_3)).size + 12 ≤ 9223372036854775807) = true := decide_eq_true c50
                    try have c50b2 : (9223372036854775807 < ((((((t329 ++ (⟨#[32]⟩ : ByteArray)) ++ t330) ++ (⟨#[45]⟩ : ByteArray)) ++ t331) ++ (⟨#[32]⟩ : ByteArray)) ++ (strOfNums x7_3)).size + 12) = False := eq_false (Nat.not_lt.2 c50)
                    try (have c50b3 := c50b2; simp only [ByteArray.size_append, bs1_] at c50b3)
                    by_cases c51 : t317 = 0
                    ·rw [if_pos c51] at H
                     have c51b0 : (t317 == 0) = true := beq_iff_eq.mpr c51
                     have c51b1 : (t317 != 0) = false := bne_eq_false_iff_eq.mpr c51
                     clear c51
                     obtain rfl := Option.some.inj H
                     try go_wp2
                     go_ret
                     exact ⟨by first | rfl | (simp [errW_none, errW_some] <;> rfl) | (simp [*, errW_none, errW_some] <;> rfl), by repeat (first | (with_reducible first | exact HB.out | apply below_alloc | apply pw_below_drewN | apply below_drew1 | refine below_set ?_ GE313.out) | exact HB.out)⟩
                    ·rw [if_neg c51] at H
                     have c51b0 : (t317 == 0) = false := beq_eq_false_iff_ne.mpr c51
                     have c51b1 : (t317 != 0) = true := bne_iff_ne.mpr c51
                     obtain rfl := Option.some.inj H
                     try go_wp2
                     go_ret
                     exact ⟨by first | rfl | (simp [errW_none, errW_some] <;> rfl) | (simp [*, errW_none, errW_some] <;> rfl), by repeat (first | (with_reducible first | exact HB.out | apply below_alloc | apply pw_below_drewN | apply below_drew1 | refine below_set ?_ GE313.out) | exact HB.out)⟩
                   ·rw [if_neg c50] at H
                    exact absurd H (by simp)
                  ·rw [if_neg c49] at H
                   have c49b0 : (a0_4 == 1) = false := beq_eq_false_iff_ne.mpr c49
                   have c49b1 : (a0_4 != 1) = true := bne_iff_ne.mpr c49
                   by_cases c66 : a0_4 = 3
                   ·rw [if_pos c66] at H
                    have c66b0 : (a0_4 == 3) = true := beq_iff_eq.mpr c66
                    have c66b1 : (a0_4 != 3) = false := bne_eq_false_iff_eq.mpr c66
                    clear c66
                    by_cases c67 : ((((((t329 ++ (⟨#[32]⟩ : ByteArray)) ++ t330) ++ (⟨#[45]⟩ : ByteArray)) ++ t331) ++ (⟨#[32]⟩ : ByteArray)) ++ (strOfNums x7_3)).size + 12 ≤ 9223372036854775807
                    ·rw [if_pos c67] at H
                     have c67b0 := eq_true c67
                     have c67b1 : decide (((((((t329 ++ (⟨#[32]⟩ : ByteArray)) ++ t330) ++ (⟨#[45]⟩ : ByteArray)) ++ t331) ++ (⟨#[32]⟩ : ByteArray)) ++ (strOfNums x7_3)).size + 12 ≤ 9223372036854775807) = true := decide_eq_true c67
                     try have c67b2 : (9223372036854775807 < ((((((t329 ++ (⟨#[32]⟩ : ByteArray)) ++ t330) ++ (⟨#[45]⟩ : ByteArray)) ++ t331) ++ (⟨#[32]⟩ : ByteArray)) ++ (strOfNums x7_3)).size + 12) = False := eq_false (Nat.not_lt.2 c67)
                     try (have c67b3 := c67b2; simp only [ByteArray.size_append, bs1_] at c67b3)
                     by_cases c68 : t317 = 0
                     ·rw [if_pos c68] at H
                      have c68b0 : (t317 == 0) = true := beq_iff_eq.mpr c68
                      have c68b1 : (t317 != 0) = false := bne_eq_false_iff_eq.mpr c68
                      clear c68
                      obtain rfl := Option.some.inj H
                      try go_wp2
                      go_ret
                      exact ⟨by first | rfl | (simp [errW_none, errW_some] <;> rfl) | (simp [*, errW_none, errW_some] <;> rfl), by repeat (first | (with_reducible first | exact HB.out | apply below_alloc | apply pw_below_drewN | apply below_drew1 | refine below_set ?_ GE313.out) | exact HB.out)⟩
                     ·rw [if_neg c68] at H
                      have c68b0 : (t317 == 0) = false := beq_eq_false_iff_ne.mpr c68
                      have c68b1 : (t317 != 0) = true := bne_iff_ne.mpr c68
                      obtain rfl := Option.some.inj H
                      try go_wp2
                      go_ret
                      exact ⟨by first | rfl | (simp [errW_none, errW_some] <;> rfl) | (simp [*, errW_none, errW_some] <;> rfl), by repeat (first | (with_reducible first | exact HB.out | apply below_alloc | apply pw_below_drewN | apply below_drew1 | refine below_set ?_ GE313.out) | exact HB.out)⟩
                    ·rw [if_neg c67] at H
                     exact absurd H (by simp)
                   ·rw [if_neg c66] at H
                    have c66b0 : (a0_4 == 3) = false := beq_eq_false_iff_ne.mpr c66
                    have c66b1 : (a0_4 != 3) = true := bne_iff_ne.mpr c66
                    by_cases c83 : t317 = 0
                    ·rw [if_pos c83] at H
                     have c83b0 : (t317 == 0) = true := beq_iff_eq.mpr c83
                     have c83b1 : (t317 != 0) = false := bne_eq_false_iff_eq.mpr c83
                     clear c83
                     obtain rfl := Option.some.inj H
                     try go_wp2
                     go_ret
                     exact ⟨by first | rfl | (simp [errW_none, errW_some] <;> rfl) | (simp [*, errW_none, errW_some] <;> rfl), by repeat (first | (with_reducible first | exact HB.out | apply below_alloc | apply pw_below_drewN | apply below_drew1 | refine below_set ?_ GE313.out) | exact HB.out)⟩
                    ·rw [if_neg c83] at H
                     have c83b0 : (t317 == 0) = false := beq_eq_false_iff_ne.mpr c83
                     have c83b1 : (t317 != 0) = true := bne_iff_ne.mpr c83
                     obtain rfl := Option.some.inj H
                     try go_wp2
                     go_ret
                     exact ⟨by first | rfl | (simp [errW_none, errW_some] <;> rfl) | (simp [*, errW_none, errW_some] <;> rfl), by repeat (first | (with_reducible first | exact HB.out | apply below_alloc | apply pw_below_drewN | apply below_drew1 | refine below_set ?_ GE313.out) | exact HB.out)⟩
                 ·rw [if_neg c48] at H
                  exact absurd H (by simp)
                ·rw [if_neg c47] at H
                 exact absurd H (by simp)
               ·rw [if_neg c46] at H
                exact absurd H (by simp)
              ·rw [if_neg c44] at H
               exact absurd H (by simp)
             ·rw [if_neg c43] at H
              exact absurd H (by simp)
            ·rw [if_neg c41] at H
             exact absurd H (by simp)
        ·replace c23 := Bool.eq_false_iff.mpr c23
         subst c23
         have H1 : (if t317 = 2 then (some (t316.toList == ([] : List UInt8))) else (some false)) = some r := by rw [if_neg (show ¬ (false = true) by decide)] at H; exact H
         clear H
         have H := H1
         clear H1
         by_cases c98 : t317 = 2
         ·rw [if_pos c98] at H
          have c98b0 : (t317 == 2) = true := beq_iff_eq.mpr c98
          have c98b1 : (t317 != 2) = false := bne_eq_false_iff_eq.mpr c98
          clear c98
          obtain rfl := Option.some.inj H
          have hcz99_0 : wc.cell? ⟨gb313, 0, none⟩ = some (.int .i64 a0_0) := (blk_cell BK313.out 0).trans rfl
          have hcz99_1 : wc.cell? ⟨gb313, 1, none⟩ = some (.int .i64 a0_1) := (blk_cell BK313.out 1).trans rfl
          have hcz99_2 : wc.cell? ⟨gb313, 2, none⟩ = some (.int .i64 a0_2) := (blk_cell BK313.out 2).trans rfl
          have hcz99_3 : wc.cell? ⟨gb313, 3, none⟩ = some (.string a0_3) := (blk_cell BK313.out 3).trans rfl
          have hcz99_4 : wc.cell? ⟨gb313, 4, none⟩ = some (.int .i64 a0_4) := (blk_cell BK313.out 4).trans rfl
          have hfz99_0 := blk_frozen BK313.out 0
          have hfz99_1 := blk_frozen BK313.out 1
          have hfz99_2 := blk_frozen BK313.out 2
          have hfz99_3 := blk_frozen BK313.out 3
          have hfz99_4 := blk_frozen BK313.out 4
          go_wp2_with (first | ((with_reducible refine gate_callee (f := 13) rfl ?_); refine goesL_ (some 42) rfl rfl Tryd.func13 (by kernel_rfl) rfl #[.int .i64 a0_0] rfl (by (try simp only [List.map_toArray, List.map_cons, List.map_nil]); first | done | rfl | (simp only [List.length_drop, List.length_take]; rfl)) ?_; (with_reducible refine (trystref01_Right.calls a0_0 true _ A20.out).mono ?_); rintro e w' ⟨rfl, ⟨nd, rfl⟩⟩; refine ⟨_, rfl, ?_⟩) | (go_at_call 13; (with_reducible refine (trystref01_Right.calls a0_1 false _ A22.out).mono ?_); rintro e w' ⟨rfl, ⟨nd, rfl⟩⟩))
          go_ret
          exact ⟨by first | rfl | (simp [errW_none, errW_some] <;> rfl) | (simp [*, errW_none, errW_some] <;> rfl), by repeat (first | (with_reducible first | exact HB.out | apply below_alloc | apply pw_below_drewN | apply below_drew1 | refine below_set ?_ GE313.out) | exact HB.out)⟩
         ·rw [if_neg c98] at H
          have c98b0 : (t317 == 2) = false := beq_eq_false_iff_ne.mpr c98
          have c98b1 : (t317 != 2) = true := bne_iff_ne.mpr c98
          obtain rfl := Option.some.inj H
          have hcz100_0 : wc.cell? ⟨gb313, 0, none⟩ = some (.int .i64 a0_0) := (blk_cell BK313.out 0).trans rfl
          have hcz100_1 : wc.cell? ⟨gb313, 1, none⟩ = some (.int .i64 a0_1) := (blk_cell BK313.out 1).trans rfl
          have hcz100_2 : wc.cell? ⟨gb313, 2, none⟩ = some (.int .i64 a0_2) := (blk_cell BK313.out 2).trans rfl
          have hcz100_3 : wc.cell? ⟨gb313, 3, none⟩ = some (.string a0_3) := (blk_cell BK313.out 3).trans rfl
          have hcz100_4 : wc.cell? ⟨gb313, 4, none⟩ = some (.int .i64 a0_4) := (blk_cell BK313.out 4).trans rfl
          have hfz100_0 := blk_frozen BK313.out 0
          have hfz100_1 := blk_frozen BK313.out 1
          have hfz100_2 := blk_frozen BK313.out 2
          have hfz100_3 := blk_frozen BK313.out 3
          have hfz100_4 := blk_frozen BK313.out 4
          go_wp2_with (first | ((with_reducible refine gate_callee (f := 13) rfl ?_); refine goesL_ (some 42) rfl rfl Tryd.func13 (by kernel_rfl) rfl #[.int .i64 a0_0] rfl (by (try simp only [List.map_toArray, List.map_cons, List.map_nil]); first | done | rfl | (simp only [List.length_drop, List.length_take]; rfl)) ?_; (with_reducible refine (trystref01_Right.calls a0_0 true _ A20.out).mono ?_); rintro e w' ⟨rfl, ⟨nd, rfl⟩⟩; refine ⟨_, rfl, ?_⟩) | (go_at_call 13; (with_reducible refine (trystref01_Right.calls a0_1 false _ A22.out).mono ?_); rintro e w' ⟨rfl, ⟨nd, rfl⟩⟩))
          go_ret
          exact ⟨by first | rfl | (simp [errW_none, errW_some] <;> rfl) | (simp [*, errW_none, errW_some] <;> rfl), by repeat (first | (with_reducible first | exact HB.out | apply below_alloc | apply pw_below_drewN | apply below_drew1 | refine below_set ?_ GE313.out) | exact HB.out)⟩
       ·replace c21 := Bool.eq_false_iff.mpr c21
        subst c21
        have H1 : (if t317 = 2 then (some (t316.toList == ([] : List UInt8))) else (some false)) = some r := by rw [if_neg (show ¬ (false = true) by decide)] at H; exact H
        clear H
        have H := H1
        clear H1
        by_cases c101 : t317 = 2
        ·rw [if_pos c101] at H
         have c101b0 : (t317 == 2) = true := beq_iff_eq.mpr c101
         have c101b1 : (t317 != 2) = false := bne_eq_false_iff_eq.mpr c101
         clear c101
         obtain rfl := Option.some.inj H
         have hcz102_0 : wc.cell? ⟨gb313, 0, none⟩ = some (.int .i64 a0_0) := (blk_cell BK313.out 0).trans rfl
         have hcz102_1 : wc.cell? ⟨gb313, 1, none⟩ = some (.int .i64 a0_1) := (blk_cell BK313.out 1).trans rfl
         have hcz102_2 : wc.cell? ⟨gb313, 2, none⟩ = some (.int .i64 a0_2) := (blk_cell BK313.out 2).trans rfl
         have hcz102_3 : wc.cell? ⟨gb313, 3, none⟩ = some (.string a0_3) := (blk_cell BK313.out 3).trans rfl
         have hcz102_4 : wc.cell? ⟨gb313, 4, none⟩ = some (.int .i64 a0_4) := (blk_cell BK313.out 4).trans rfl
         have hfz102_0 := blk_frozen BK313.out 0
         have hfz102_1 := blk_frozen BK313.out 1
         have hfz102_2 := blk_frozen BK313.out 2
         have hfz102_3 := blk_frozen BK313.out 3
         have hfz102_4 := blk_frozen BK313.out 4
         go_wp2_with (first | ((with_reducible refine gate_callee (f := 13) rfl ?_); refine goesL_ (some 42) rfl rfl Tryd.func13 (by kernel_rfl) rfl #[.int .i64 a0_0] rfl (by (try simp only [List.map_toArray, List.map_cons, List.map_nil]); first | done | rfl | (simp only [List.length_drop, List.length_take]; rfl)) ?_; (with_reducible refine (trystref01_Right.calls a0_0 false _ A20.out).mono ?_); rintro e w' ⟨rfl, ⟨nd, rfl⟩⟩; refine ⟨_, rfl, ?_⟩))
         go_ret
         exact ⟨by first | rfl | (simp [errW_none, errW_some] <;> rfl) | (simp [*, errW_none, errW_some] <;> rfl), by repeat (first | (with_reducible first | exact HB.out | apply below_alloc | apply pw_below_drewN | apply below_drew1 | refine below_set ?_ GE313.out) | exact HB.out)⟩
        ·rw [if_neg c101] at H
         have c101b0 : (t317 == 2) = false := beq_eq_false_iff_ne.mpr c101
         have c101b1 : (t317 != 2) = true := bne_iff_ne.mpr c101
         obtain rfl := Option.some.inj H
         have hcz103_0 : wc.cell? ⟨gb313, 0, none⟩ = some (.int .i64 a0_0) := (blk_cell BK313.out 0).trans rfl
         have hcz103_1 : wc.cell? ⟨gb313, 1, none⟩ = some (.int .i64 a0_1) := (blk_cell BK313.out 1).trans rfl
         have hcz103_2 : wc.cell? ⟨gb313, 2, none⟩ = some (.int .i64 a0_2) := (blk_cell BK313.out 2).trans rfl
         have hcz103_3 : wc.cell? ⟨gb313, 3, none⟩ = some (.string a0_3) := (blk_cell BK313.out 3).trans rfl
         have hcz103_4 : wc.cell? ⟨gb313, 4, none⟩ = some (.int .i64 a0_4) := (blk_cell BK313.out 4).trans rfl
         have hfz103_0 := blk_frozen BK313.out 0
         have hfz103_1 := blk_frozen BK313.out 1
         have hfz103_2 := blk_frozen BK313.out 2
         have hfz103_3 := blk_frozen BK313.out 3
         have hfz103_4 := blk_frozen BK313.out 4
         go_wp2_with (first | ((with_reducible refine gate_callee (f := 13) rfl ?_); refine goesL_ (some 42) rfl rfl Tryd.func13 (by kernel_rfl) rfl #[.int .i64 a0_0] rfl (by (try simp only [List.map_toArray, List.map_cons, List.map_nil]); first | done | rfl | (simp only [List.length_drop, List.length_take]; rfl)) ?_; (with_reducible refine (trystref01_Right.calls a0_0 false _ A20.out).mono ?_); rintro e w' ⟨rfl, ⟨nd, rfl⟩⟩; refine ⟨_, rfl, ?_⟩))
         go_ret
         exact ⟨by first | rfl | (simp [errW_none, errW_some] <;> rfl) | (simp [*, errW_none, errW_some] <;> rfl), by repeat (first | (with_reducible first | exact HB.out | apply below_alloc | apply pw_below_drewN | apply below_drew1 | refine below_set ?_ GE313.out) | exact HB.out)⟩

end Go.Proofs.YtgbbgcepcnklkaaDoor.L
