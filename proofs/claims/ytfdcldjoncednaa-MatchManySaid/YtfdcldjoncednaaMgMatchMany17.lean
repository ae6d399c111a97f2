/- Texts of this claim, merged: Mr14A, RefK, MrefL. -/
import Derived.Test.YtfdcldjoncednaaMgMatchMany1
import Derived.Test.YtfdcldjoncednaaMgMatchMany8
import Derived.Test.YtfdcldjoncednaaMgMatchMany16
import Derived.Test.YtfdcldjoncednaaWWords
import Derived.Test.YtfdcldjoncednaaWLast
namespace Go.Proofs.Ytfdcldjoncednaa.M
open Go.RowKit Go.Proofs.YtfdcldjoncednaaW.PrintWords Go.Proofs.YtfdcldjoncednaaW.PrintLast Go.Proofs.YtfdcldjoncednaaW.PrintMore
attribute [local go_sem] max2_int min2_int max_two min_two
set_option linter.unusedVariables false
set_option linter.unusedSimpArgs false
/-! ### trystref14_date: function 24 -/
def trystref14_date.f (k : Nat) (a0 : Int) : Option (Int × Int × Int) := (trystref01_Date.f k 0 a0).bind fun bt277 => (some (bt277.1, bt277.2.1, bt277.2.2.1))
set_option maxHeartbeats 8000000 in
set_option maxRecDepth 100000 in
theorem trystref14_date.calls (k : Nat) (a0 : Int) (r1 : Int) (r2 : Int) (r3 : Int) (w : World) (h : trystref14_date.f k a0 = some (r1, r2, r3)) :
  Calls Try.prog 24 #[.int .i64 a0] w fun e w' => e = .returned (.agg #[.int .i64 r1, .int .i64 r2, .int .i64 r3]) ∧ Below w.heap.size w w' := by
 have hu50 := Try.underlying50
 have HB := Aside0.mk (Below.refl w.heap.size w)
 have H : ((trystref01_Date.f k 0 a0).bind fun bt277 => (some (bt277.1, bt277.2.1, bt277.2.2.1))) = some (r1, r2, r3) := h
 clear h
 replace H := Option.bind_eq_some_iff.mp H
 obtain ⟨⟨t277, t278, t279, t280⟩, A20, H⟩ := H
 replace H : (some (t277, t278, t279)) = some (r1, r2, r3) := H
 have A2 := Aside0.mk A20
 clear A20
 simp only [Option.some.injEq, Prod.mk.injEq] at H
 obtain ⟨rfl, rfl, rfl⟩ := H
 go_enter Try.func24, Try.ntmps24
 go_wp2_with (first | ((with_reducible refine gate_dst (N := 2) rfl ?_); refine box_event ?hg (N := 2) ?hd (cs := #[.int .i64 0, .int .i64 0, .int .i64 0]) (t := 50) ?hr ?_; (case hd => rfl); (case hg => rfl); (case hr => first | (go_simp; done) | (go_simp; rfl)); intro gb276 hg w3 hbox hb; have n0_ := Aside0.mk (below_step (by repeat (first | (with_reducible first | exact HB.out | apply below_alloc | apply pw_below_drewN | apply below_drew1) | exact HB.out)) hb); have n1_ := Aside0.mk (hbox); have n2_ := Aside0.mk ((by rw [hg]; exact (below_size (by repeat (first | (with_reducible first | exact HB.out | apply below_alloc | apply pw_below_drewN | apply below_drew1) | exact HB.out))) : w.heap.size ≤ gb276)); have n3_ := Aside0.mk ((by rw [hg]; exact (below_size (by repeat (first | (with_reducible first | exact HB.out | apply below_alloc | apply pw_below_drewN | apply below_drew1) | exact HB.out))) : w.heap.size ≤ gb276)); clear HB; have HB := n0_; have BK276 := n1_; have GW276 := n2_; have GE276 := n3_; clear n0_ n1_ n2_ n3_; clear hb hbox hg) | ((with_reducible refine gate_callee (f := 53) rfl ?_); refine gm_ (some 7) Try.func53 #[.int .i64 0, .int .i64 a0] ?_; (with_reducible refine (trystref01_Date.calls k 0 a0 t277 t278 t279 t280 _ A2.out).mono ?_); rintro e w4 ⟨rfl, hb⟩; refine ⟨_, rfl, ?_⟩; have n0_ := Aside0.mk (blk_below (g := gb276) (o := .cells #[.int .i64 0, .int .i64 0, .int .i64 0] 50 (0, 0)) (by (with_reducible repeat (first | refine blk_drewN ?_ _ | refine blk_drew ?_ | refine blk_alloc ?_ _)); exact BK276.out) hb); have n1_ := Aside0.mk (below_step (by repeat (first | (with_reducible first | exact HB.out | apply below_alloc | apply pw_below_drewN | apply below_drew1 | refine below_set ?_ GE276.out) | exact HB.out)) hb); clear BK276; clear HB; have BK276 := n0_; have HB := n1_; clear n0_ n1_; (try clear hb); (try clear hb2); (try clear hk); (try clear hi)) | ((with_reducible refine gate_dst (N := 3) rfl ?_); refine box_event ?hg (N := 3) ?hd (cs := #[.int .i64 0, .int .i64 0, .int .i64 0]) (t := 50) ?hr ?_; (case hd => rfl); (case hg => rfl); (case hr => first | (go_simp; done) | (go_simp; rfl)); intro gb281 hg w5 hbox hb; have n0_ := Aside0.mk (blk_below (g := gb276) (o := .cells #[.int .i64 0, .int .i64 0, .int .i64 0] 50 (0, 0)) (by (with_reducible repeat (first | refine blk_drewN ?_ _ | refine blk_drew ?_ | refine blk_alloc ?_ _)); exact BK276.out) hb); have n1_ := Aside0.mk (below_step (by repeat (first | (with_reducible first | exact HB.out | apply below_alloc | apply pw_below_drewN | apply below_drew1 | refine below_set ?_ GE276.out) | exact HB.out)) hb); have n2_ := Aside0.mk (hbox); have n3_ := Aside0.mk ((by rw [hg]; exact (below_size (by repeat (first | (with_reducible first | exact HB.out | apply below_alloc | apply pw_below_drewN | apply below_drew1 | refine below_set ?_ GE276.out) | exact HB.out))) : w.heap.size ≤ gb281)); have n4_ := Aside0.mk ((by rw [hg]; exact (below_size (by repeat (first | (with_reducible first | exact HB.out | apply below_alloc | apply pw_below_drewN | apply below_drew1 | refine below_set ?_ GE276.out) | exact HB.out))) : w.heap.size ≤ gb281)); have n5_ := Aside0.mk ((by rw [hg]; exact Nat.ne_of_lt (blk_lt (g := gb276) (o := .cells #[.int .i64 0, .int .i64 0, .int .i64 0] 50 (0, 0)) (by (with_reducible repeat (first | refine blk_drewN ?_ _ | refine blk_drew ?_ | refine blk_alloc ?_ _)); exact BK276.out)) : gb276 ≠ gb281)); have n6_ := Aside0.mk ((by rw [hg]; exact Nat.ne_of_gt (blk_lt (g := gb276) (o := .cells #[.int .i64 0, .int .i64 0, .int .i64 0] 50 (0, 0)) (by (with_reducible repeat (first | refine blk_drewN ?_ _ | refine blk_drew ?_ | refine blk_alloc ?_ _)); exact BK276.out)) : gb281 ≠ gb276)); clear BK276; clear HB; have BK276 := n0_; have HB := n1_; have BK281 := n2_; have GW281 := n3_; have GE281 := n4_; have NB276_281 := n5_; have NB281_276 := n6_; clear n0_ n1_ n2_ n3_ n4_ n5_ n6_; clear hb hbox hg; have hnb6 := NB281_276.out; have hnc6 := NB276_281.out; have hcz7_0 : w5.cell? ⟨gb281, 0, none⟩ = some (.int .i64 0) := (blk_cell BK281.out 0).trans rfl; have hcz7_1 : w5.cell? ⟨gb281, 1, none⟩ = some (.int .i64 0) := (blk_cell BK281.out 1).trans rfl; have hcz7_2 : w5.cell? ⟨gb281, 2, none⟩ = some (.int .i64 0) := (blk_cell BK281.out 2).trans rfl; have hfz7_0 := blk_frozen BK281.out 0; have hfz7_1 := blk_frozen BK281.out 1; have hfz7_2 := blk_frozen BK281.out 2; have hcz8_0 : w5.cell? ⟨gb276, 0, none⟩ = some (.int .i64 0) := (blk_cell BK276.out 0).trans rfl; have hcz8_1 : w5.cell? ⟨gb276, 1, none⟩ = some (.int .i64 0) := (blk_cell BK276.out 1).trans rfl; have hcz8_2 : w5.cell? ⟨gb276, 2, none⟩ = some (.int .i64 0) := (blk_cell BK276.out 2).trans rfl; have hfz8_0 := blk_frozen BK276.out 0; have hfz8_1 := blk_frozen BK276.out 1; have hfz8_2 := blk_frozen BK276.out 2))
 refine bodyPost_ret (results_cell_row rfl _ _ gb276 50 #[.int .i64 t277, .int .i64 t278, .int .i64 t279] (0, 0) _ rfl (by (with_reducible repeat (first | refine blk_drewN ?_ _ | refine blk_drew ?_ | refine blk_alloc ?_ _)); refine blk_put (cs := #[.int .i64 t277, .int .i64 t278, .int .i64 0]) ?_ 2 _ rfl; (with_reducible repeat (first | refine blk_drewN ?_ _ | refine blk_drew ?_ | refine blk_alloc ?_ _)); refine blk_put (cs := #[.int .i64 t277, .int .i64 0, .int .i64 0]) ?_ 1 _ rfl; (with_reducible repeat (first | refine blk_drewN ?_ _ | refine blk_drew ?_ | refine blk_alloc ?_ _)); refine blk_put (cs := #[.int .i64 0, .int .i64 0, .int .i64 0]) ?_ 0 _ rfl; (with_reducible repeat (first | refine blk_drewN ?_ _ | refine blk_drew ?_ | refine blk_alloc ?_ _)); refine blk_far ?_ NB276_281.out _; (with_reducible repeat (first | refine blk_drewN ?_ _ | refine blk_drew ?_ | refine blk_alloc ?_ _)); refine blk_far ?_ NB276_281.out _; (with_reducible repeat (first | refine blk_drewN ?_ _ | refine blk_drew ?_ | refine blk_alloc ?_ _)); refine blk_far ?_ NB276_281.out _; (with_reducible repeat (first | refine blk_drewN ?_ _ | refine blk_drew ?_ | refine blk_alloc ?_ _)); exact BK276.out) Try.underlying50 rfl (by kernel_rfl)) rfl ?_
 exact ⟨by first | rfl | (simp [i64_w]; done) | (simp [errW_none, errW_some] <;> rfl) | (simp [*, errW_none, errW_some] <;> rfl), by repeat (first | (with_reducible first | exact HB.out | apply below_alloc | apply pw_below_drewN | apply below_drew1 | refine below_set ?_ GE276.out | refine below_set ?_ GE281.out) | exact HB.out)⟩

/-! ### trystref14_weekday: function 32 -/
def trystref14_weekday.f (a0 : Int) : Option (Int) := (trystref01_Mod.f a0 7).bind fun t282 => (some t282)
set_option maxHeartbeats 8000000 in
set_option maxRecDepth 100000 in
theorem trystref14_weekday.calls (a0 : Int) (r : Int) (w : World) (h : trystref14_weekday.f a0 = some r) :
  Calls Try.prog 32 #[.int .i64 a0] w fun e w' => e = .returned (.int .i64 r) ∧ Drawn0 w w' := by
 have H : ((trystref01_Mod.f a0 7).bind fun t282 => (some t282)) = some r := h
 clear h
 replace H := Option.bind_eq_some_iff.mp H
 obtain ⟨t282, A20, H⟩ := H
 replace H : (some t282) = some r := H
 have A2 := Aside0.mk A20
 clear A20
 obtain rfl := Option.some.inj H
 go_enter Try.func32, Try.ntmps32
 go_wp2_with (first | ((with_reducible refine gate_callee (f := 65) rfl ?_); refine gm_ (some 4) Try.func65 #[.int .i64 a0, .int .i64 7] ?_; (with_reducible refine (trystref01_Mod.calls a0 7 t282 _ A2.out).mono ?_); rintro e w' ⟨rfl, ⟨nd, rfl⟩⟩; refine ⟨_, rfl, ?_⟩))
 go_ret
 exact ⟨by first | rfl | simp | simp [*] | simp [bne_nil_], by repeat (first | exact Drawn0.refl _ | apply Drawn0.step)⟩

/-! ### trystref14_Begin: function 52 -/
def trystref14_Begin.l0 : Nat → Int → Int → Option (Int)
 | 0, _, _ => none
 | k + 1, x0, x1 => (trystref14_weekday.f x0).bind fun t283 => (if t283 = x1 then (some x0) else (trystref14_Begin.l0 k (wrap64 (x0 - 1)) x1))
def trystref14_Begin.f (k : Nat) (a0 : Int) (a1 : Int) : Option (Int) := trystref14_Begin.l0 k a0 a1
set_option maxHeartbeats 8000000 in
set_option maxRecDepth 100000 in
theorem trystref14_Begin.calls (k : Nat) (a0 : Int) (a1 : Int) (r : Int) (w : World) (h : trystref14_Begin.f k a0 a1 = some r) :
  Calls Try.prog 52 #[.int .i64 a0, .int .i64 a1] w fun e w' => e = .returned (.int .i64 r) ∧ Drawn0 w w' := by
 have H : (trystref14_Begin.l0 k a0 a1) = some r := h
 clear h
 have H' := Aside0.mk H
 clear H
 go_enter Try.func52, Try.ntmps52
 go_wp2
 go_loopg [0] k (fun kq v0 w' => ∃ (x0_1 : Int), v0 = .int .i64 x0_1 ∧ Aside0 (trystref14_Begin.l0 kq x0_1 a1 = some r) ∧ Aside0 (kq ≤ k) ∧ Drawn0 w w')
 case atStart => exact ⟨(a0), (by first | rfl | (simp; done) | (simp [*]; done)), H', ⟨Nat.le_refl _⟩, by repeat (first | exact Drawn0.refl _ | apply Drawn0.step)⟩
 case round =>
  clear H'
  try clear p2
  obtain ⟨x0_1, rfl, HA, HK1, ⟨m1, rfl⟩⟩ := hrel
  cases gk with
  | zero => exact absurd HA.out (by simp [trystref14_Begin.l0])
  | succ k1 =>
   have H := HA.out
   clear HA
   simp only [trystref14_Begin.l0] at H
   replace H := Option.bind_eq_some_iff.mp H
   obtain ⟨t283, A30, H⟩ := H
   replace H : (if t283 = a1 then (some x0_1) else (trystref14_Begin.l0 k1 (wrap64 (x0_1 - 1)) a1)) = some r := H
   have A3 := Aside0.mk A30
   clear A30
   by_cases c4 : t283 = a1
   ·rw [if_pos c4] at H
    have c4b0 : (t283 == a1) = true := beq_iff_eq.mpr c4
    have c4b1 : (t283 != a1) = false := bne_eq_false_iff_eq.mpr c4
    clear c4
    obtain rfl := Option.some.inj H
    go_wp2_with (first | ((with_reducible refine gate_callee (f := 32) rfl ?_); refine gm_ (some 6) Try.func32 #[.int .i64 x0_1] ?_; (with_reducible refine (trystref14_weekday.calls x0_1 t283 _ A3.out).mono ?_); rintro e w' ⟨rfl, ⟨nd, rfl⟩⟩; refine ⟨_, rfl, ?_⟩))
    go_ret
    exact ⟨by first | rfl | simp | simp [*] | simp [bne_nil_], by repeat (first | exact Drawn0.refl _ | apply Drawn0.step)⟩
   ·rw [if_neg c4] at H
    have c4b0 : (t283 == a1) = false := beq_eq_false_iff_ne.mpr c4
    have c4b1 : (t283 != a1) = true := bne_iff_ne.mpr c4
    have H' := Aside0.mk H
    clear H
    go_wp2_with (first | ((with_reducible refine gate_callee (f := 32) rfl ?_); refine gm_ (some 6) Try.func32 #[.int .i64 x0_1] ?_; (with_reducible refine (trystref14_weekday.calls x0_1 t283 _ A3.out).mono ?_); rintro e w' ⟨rfl, ⟨nd, rfl⟩⟩; refine ⟨_, rfl, ?_⟩))
    go_roundg k1
    case measure => have := HK1.out; omega
    case rel => exact ⟨(wrap64 (x0_1 - 1)), (by first | rfl | (simp; done) | (simp [*]; done)), H', ⟨by have := HK1.out; omega⟩, by repeat (first | exact Drawn0.refl _ | apply Drawn0.step)⟩

/-! ### trystref14_has: function 26 -/
def trystref14_has.l0 : Nat → List Int → Int → Int → Int → Option (Bool)
 | 0, _, _, _, _ => none
 | k + 1, x0, x1, x7, x8 => if x8 < x7 then (if 0 ≤ x8 then (if x8 < (x0.length : Int) then (if (rd x0 x8) = x1 then (some true) else (trystref14_has.l0 k x0 x1 x7 (wrap64 (x8 + 1)))) else (none)) else (none)) else (some false)
def trystref14_has.f (k : Nat) (l0 : List Int) (a1 : Int) : Option (Bool) := trystref14_has.l0 k l0 a1 (l0.length : Int) 0
set_option maxHeartbeats 8000000 in
set_option maxRecDepth 100000 in
theorem trystref14_has.calls (k : Nat) (A0 : Option Addr) (c0 : Nat) (l0 : List Int) (a1 : Int) (r : Bool) (w : World) (hr0 : Kd.C (Kd.int .i64) w A0 l0.length l0) (hc0 : l0.length ≤ c0) (h : trystref14_has.f k l0 a1 = some r) :
  Calls Try.prog 26 #[.slice A0 l0.length c0, .int .i64 a1] w fun e w' => e = .returned (.bool r) ∧ Drawn0 w w' := by
 have HR0 := Aside0.mk hr0
 have HC0 := Aside0.mk hc0
 clear hr0 hc0
 have H : (trystref14_has.l0 k l0 a1 (l0.length : Int) 0) = some r := h
 clear h
 have H' := Aside0.mk H
 clear H
 go_enter Try.func26, Try.ntmps26
 go_wp2
 go_loopg [8] k (fun kq v8 w' => ∃ (x8_1 : Int), v8 = .int .i64 x8_1 ∧ Aside0 (trystref14_has.l0 kq l0 a1 (l0.length : Int) x8_1 = some r) ∧ Aside0 (kq ≤ k) ∧ Drawn0 w w')
 case atStart => exact ⟨(0), (by first | rfl | (simp; done) | (simp [*]; done)), H', ⟨Nat.le_refl _⟩, by repeat (first | exact Drawn0.refl _ | apply Drawn0.step)⟩
 case round =>
  clear H'
  try clear c2
  try clear p2
  obtain ⟨x8_1, rfl, HA, HK1, ⟨m1, rfl⟩⟩ := hrel
  cases gk with
  | zero => exact absurd HA.out (by simp [trystref14_has.l0])
  | succ k1 =>
   have H := HA.out
   clear HA
   simp only [trystref14_has.l0] at H
   by_cases c3 : x8_1 < (l0.length : Int)
   ·rw [if_pos c3] at H
    have c3b0 : decide (x8_1 < (l0.length : Int)) = true := decide_eq_true c3
    clear c3
    by_cases c4 : 0 ≤ x8_1
    ·rw [if_pos c4] at H
     have c4b0 : decide (0 ≤ x8_1) = true := decide_eq_true c4
     clear c4
     by_cases c5 : x8_1 < (l0.length : Int)
     ·rw [if_pos c5] at H
      have c5b0 : decide (x8_1 < (l0.length : Int)) = true := decide_eq_true c5
      clear c5
      by_cases c6 : (rd l0 x8_1) = a1
      ·rw [if_pos c6] at H
       have c6b0 : ((rd l0 x8_1) == a1) = true := beq_iff_eq.mpr c6
       have c6b1 : ((rd l0 x8_1) != a1) = false := bne_eq_false_iff_eq.mpr c6
       clear c6
       obtain rfl := Option.some.inj H
       have p295 : 0 ≤ (x8_1 : Int) := of_decide_eq_true (by first | (with_reducible assumption) | assumption)
       have q295 : x8_1 < (l0.length : Int) := of_decide_eq_true (by first | (with_reducible assumption) | assumption)
       obtain ⟨ad295, e295, hx295_0⟩ := Kd.at_int HR0.out x8_1 p295 q295
       cases e295
       replace p295 := eq_true p295
       replace q295 := eq_true q295
       go_wp2
       go_ret
       exact ⟨by first | rfl | simp | simp [*] | simp [bne_nil_], by repeat (first | exact Drawn0.refl _ | apply Drawn0.step)⟩
      ·rw [if_neg c6] at H
       have c6b0 : ((rd l0 x8_1) == a1) = false := beq_eq_false_iff_ne.mpr c6
       have c6b1 : ((rd l0 x8_1) != a1) = true := bne_iff_ne.mpr c6
       have H' := Aside0.mk H
       clear H
       have p295 : 0 ≤ (x8_1 : Int) := of_decide_eq_true (by first | (with_reducible assumption) | assumption)
       have q295 : x8_1 < (l0.length : Int) := of_decide_eq_true (by first | (with_reducible assumption) | assumption)
       obtain ⟨ad295, e295, hx295_0⟩ := Kd.at_int HR0.out x8_1 p295 q295
       cases e295
       replace p295 := eq_true p295
       replace q295 := eq_true q295
       go_wp2
       go_roundg k1
       case measure => have := HK1.out; omega
       case rel => exact ⟨(wrap64 (x8_1 + 1)), (by first | rfl | (simp; done) | (simp [*]; done)), H', ⟨by have := HK1.out; omega⟩, by repeat (first | exact Drawn0.refl _ | apply Drawn0.step)⟩
     ·rw [if_neg c5] at H
      exact absurd H (by simp)
    ·rw [if_neg c4] at H
     exact absurd H (by simp)
   ·rw [if_neg c3] at H
    have c3b0 : decide (x8_1 < (l0.length : Int)) = false := decide_eq_false c3
    clear c3
    obtain rfl := Option.some.inj H
    go_wp2
    go_ret
    exact ⟨by first | rfl | simp | simp [*] | simp [bne_nil_], by repeat (first | exact Drawn0.refl _ | apply Drawn0.step)⟩

/-! ### trystref14_counted: function 28 -/
def trystref14_counted.f (k : Nat) (l0 : List Int) (a1 : Int) (a2 : Int) : Option (Bool) := (trystref14_has.f k l0 a1).bind fun t296 => (if t296 = true then (some true) else ((trystref14_has.f k l0 (wrap64 ((wrap64 (a1 - a2)) - 1))).bind fun t297 => (some t297)))
set_option maxHeartbeats 8000000 in
set_option maxRecDepth 100000 in
theorem trystref14_counted.calls (k : Nat) (A0 : Option Addr) (c0 : Nat) (l0 : List Int) (a1 : Int) (a2 : Int) (r : Bool) (w : World) (hr0 : Kd.C (Kd.int .i64) w A0 l0.length l0) (hc0 : l0.length ≤ c0) (h : trystref14_counted.f k l0 a1 a2 = some r) :
  Calls Try.prog 28 #[.slice A0 l0.length c0, .int .i64 a1, .int .i64 a2] w fun e w' => e = .returned (.bool r) ∧ Drawn0 w w' := by
 have HR0 := Aside0.mk hr0
 have HC0 := Aside0.mk hc0
 clear hr0 hc0
 have H : ((trystref14_has.f k l0 a1).bind fun t296 => (if t296 = true then (some true) else ((trystref14_has.f k l0 (wrap64 ((wrap64 (a1 - a2)) - 1))).bind fun t297 => (some t297)))) = some r := h
 clear h
 replace H := Option.bind_eq_some_iff.mp H
 obtain ⟨t296, A40, H⟩ := H
 replace H : (if t296 = true then (some true) else ((trystref14_has.f k l0 (wrap64 ((wrap64 (a1 - a2)) - 1))).bind fun t297 => (some t297))) = some r := H
 have A4 := Aside0.mk A40
 clear A40
 by_cases c5 : t296 = true
 ·subst c5
  have H1 : (some true) = some r := by rw [if_pos rfl] at H; exact H
  clear H
  have H := H1
  clear H1
  obtain rfl := Option.some.inj H
  go_enter Try.func28, Try.ntmps28
  go_wp2_with (first | ((with_reducible refine gate_callee (f := 26) rfl ?_); refine gm_ (some 9) Try.func26 #[.slice A0 l0.length c0, .int .i64 a1] ?_; (with_reducible refine (trystref14_has.calls k _ _ l0 a1 true _ ?side1 ?side2 A4.out).mono ?_); (case side1 => repeat (first | exact HR0.out | (with_reducible refine Kd.C_alloc ?_ _) | (with_reducible refine Kd.C_drewN ?_ _) | (with_reducible refine Kd.C_drew ?_))); (case side2 => exact HC0.out); rintro e w' ⟨rfl, ⟨nd, rfl⟩⟩; refine ⟨_, rfl, ?_⟩))
  go_ret
  exact ⟨by first | rfl | simp | simp [*] | simp [bne_nil_], by repeat (first | exact Drawn0.refl _ | apply Drawn0.step)⟩
 ·replace c5 := Bool.eq_false_iff.mpr c5
  subst c5
  have H1 : ((trystref14_has.f k l0 (wrap64 ((wrap64 (a1 - a2)) - 1))).bind fun t297 => (some t297)) = some r := by rw [if_neg (show ¬ (false = true) by decide)] at H; exact H
  clear H
  have H := H1
  clear H1
  replace H := Option.bind_eq_some_iff.mp H
  obtain ⟨t297, A60, H⟩ := H
  replace H : (some t297) = some r := H
  have A6 := Aside0.mk A60
  clear A60
  obtain rfl := Option.some.inj H
  go_enter Try.func28, Try.ntmps28
  go_wp2_with (first | ((with_reducible refine gate_callee (f := 26) rfl ?_); refine gm_ (some 9) Try.func26 #[.slice A0 l0.length c0, .int .i64 a1] ?_; (with_reducible refine (trystref14_has.calls k _ _ l0 a1 false _ ?side1 ?side2 A4.out).mono ?_); (case side1 => repeat (first | exact HR0.out | (with_reducible refine Kd.C_alloc ?_ _) | (with_reducible refine Kd.C_drewN ?_ _) | (with_reducible refine Kd.C_drew ?_))); (case side2 => exact HC0.out); rintro e w' ⟨rfl, ⟨nd, rfl⟩⟩; refine ⟨_, rfl, ?_⟩) | (go_at_call 26; (with_reducible refine (trystref14_has.calls k _ _ l0 (wrap64 ((wrap64 (a1 - a2)) - 1)) t297 _ ?side1 ?side2 A6.out).mono ?_); (case side1 => repeat (first | exact HR0.out | (with_reducible refine Kd.C_alloc ?_ _) | (with_reducible refine Kd.C_drewN ?_ _) | (with_reducible refine Kd.C_drew ?_))); (case side2 => exact HC0.out); rintro e w' ⟨rfl, ⟨nd, rfl⟩⟩))
  go_ret
  exact ⟨by first | rfl | simp | simp [*] | simp [bne_nil_], by repeat (first | exact Drawn0.refl _ | apply Drawn0.step)⟩

/-! ### trystref14_year: function 29 -/
def trystref14_year.f (k : Nat) (a0 : Int) : Option (Int) := (trystref01_Fixed.f k 0 (wrap64 (a0 + 1)) 1 1).bind fun t305 => ((trystref01_Fixed.f k 0 a0 1 1).bind fun t306 => (some (wrap64 (t305 - t306))))
set_option maxHeartbeats 8000000 in
set_option maxRecDepth 100000 in
theorem trystref14_year.calls (k : Nat) (a0 : Int) (r : Int) (w : World) (h : trystref14_year.f k a0 = some r) :
  Calls Try.prog 29 #[.int .i64 a0] w fun e w' => e = .returned (.int .i64 r) ∧ Drawn0 w w' := by
 have H : ((trystref01_Fixed.f k 0 (wrap64 (a0 + 1)) 1 1).bind fun t305 => ((trystref01_Fixed.f k 0 a0 1 1).bind fun t306 => (some (wrap64 (t305 - t306))))) = some r := h
 clear h
 replace H := Option.bind_eq_some_iff.mp H
 obtain ⟨t305, A20, H⟩ := H
 replace H : ((trystref01_Fixed.f k 0 a0 1 1).bind fun t306 => (some (wrap64 (t305 - t306)))) = some r := H
 have A2 := Aside0.mk A20
 clear A20
 replace H := Option.bind_eq_some_iff.mp H
 obtain ⟨t306, A30, H⟩ := H
 replace H : (some (wrap64 (t305 - t306))) = some r := H
 have A3 := Aside0.mk A30
 clear A30
 obtain rfl := Option.some.inj H
 go_enter Try.func29, Try.ntmps29
 go_wp2_with (first | ((with_reducible refine gate_callee (f := 25) rfl ?_); refine gm_ (some 5) Try.func25 #[.int .i64 0, .int .i64 (wrap64 (a0 + 1)), .int .i64 1, .int .i64 1] ?_; (with_reducible refine (trystref01_Fixed.calls k 0 (wrap64 (a0 + 1)) 1 1 t305 _ A2.out).mono ?_); rintro e w' ⟨rfl, ⟨nd, rfl⟩⟩; refine ⟨_, rfl, ?_⟩) | ((with_reducible refine gate_callee (f := 25) rfl ?_); refine gm_ (some 7) Try.func25 #[.int .i64 0, .int .i64 a0, .int .i64 1, .int .i64 1] ?_; (with_reducible refine (trystref01_Fixed.calls k 0 a0 1 1 t306 _ A3.out).mono ?_); rintro e w' ⟨rfl, ⟨nd, rfl⟩⟩; refine ⟨_, rfl, ?_⟩))
 go_ret
 exact ⟨by first | rfl | simp | simp [*] | simp [bne_nil_], by repeat (first | exact Drawn0.refl _ | apply Drawn0.step)⟩

end Go.Proofs.Ytfdcldjoncednaa.M
/- trystref14.inWeek: is a day's week one of the rule's? -/
namespace Go.Proofs.Ytfdcldjoncednaa.RefK
open Go.RowKit Go.Proofs.YtfdcldjoncednaaW.PrintWords Go.Proofs.YtfdcldjoncednaaW.PrintLast Go.Proofs.YtfdcldjoncednaaW.PrintMore Go.Proofs.Ytfdcldjoncednaa.M Go.Proofs.Ytfdcldjoncednaa.Ru
set_option linter.unusedVariables false
set_option linter.unusedSimpArgs false
theorem fld0 (x y z : Int) (w : World) : (Instr.field 50 (.agg #[.int .i64 x, .int .i64 y, .int .i64 z]) 0).run Try.prog w = .ok (.int .i64 x) w := by kernel_rfl
attribute [local go_sem] fld0
set_option maxHeartbeats 4000000 in
set_option maxRecDepth 100000 in
theorem inWeek (k : Nat) (r : Ru) (p : Rp) (day y m d y1 f1 f2 q1 q2 : Int) (b : Bool) (w : World) (ok : Ok r p w) (hd : trystref14_date.f k day = some (y, m, d)) (hy : wrap64 (y + 1) = y1)
  (h1 : trystref01_Week1.f k y r.a7 = some f1) (h2 : trystref01_Week1.f k y1 r.a7 = some f2) (hq1 : wrap64 (wrap64 (Int.tdiv (wrap64 (day - f1)) 7) + 1) = q1) (hq2 : wrap64 (Int.tdiv (wrap64 (f2 - f1)) 7) = q2) (hb : trystref14_counted.f k r.l14 q1 q2 = some b) :
  Calls Try.prog 27 #[.agg (agg r p), .int .i64 day] w fun e w' => e = .returned (.bool (decide (f1 ≤ day) && decide (day < f2) && b)) ∧ Below w.heap.size w w' := by
 have HO := Aside0.mk ok; clear ok
 have D := Aside0.mk hd; clear hd
 have W1 := Aside0.mk h1; clear h1
 have W2 := Aside0.mk h2; clear h2
 have CB := Aside0.mk hb; clear hb
 have Q1 := Aside0.mk hq1; clear hq1
 have Q2 := Aside0.mk hq2; clear hq2
 have HK := Aside0.mk (blk_new w (obj r p))
 have HB := Aside0.mk (below_alloc (Below.refl w.heap.size w) (obj r p))
 have hyw : IntKind.i64.wrap (y + 1) = y1 := (i64_w _).trans hy
 go_enter Try.func27, Try.ntmps27
 go_wp2_with fail
 generalize w.alloc (obj r p) = w0 at HK HB ⊢
 generalize hB : w.heap.size = B at HK ⊢
 refine (trystref14_date.calls k day y m d _ D.out).mono ?_
 rintro e w1 ⟨rfl, hb⟩
 replace HK := Aside0.mk (blk_below HK.out hb)
 replace HB := Aside0.mk (below_then HB.out HB.out.size hb)
 clear hb
 obtain ⟨b0, b1, b2, b3, b4, b5, b6, b7, b8, b9, b10, b11, b12, b13, b14, b15, b16⟩ := cells HK.out
 go_wp2_with fail
 go_quiet (first | (go_at_call 56; ((with_reducible refine (trystref01_Week1.calls k y r.a7 f1 _ W1.out).mono ?_); rintro e w' ⟨rfl, ⟨nd, rfl⟩⟩; (first | exact ⟨rfl, _, World.drewN_drewN _ _ _⟩ | exact ⟨rfl, _, Eq.trans (World.drewN_drewN _ _ _) (congrArg (World.drewN _) (Nat.add_assoc _ _ _))⟩))) | (go_at_call 56; ((with_reducible refine (trystref01_Week1.calls k y1 r.a7 f2 _ W2.out).mono ?_); rintro e w' ⟨rfl, ⟨nd, rfl⟩⟩; (first | exact ⟨rfl, _, World.drewN_drewN _ _ _⟩ | exact ⟨rfl, _, Eq.trans (World.drewN_drewN _ _ _) (congrArg (World.drewN _) (Nat.add_assoc _ _ _))⟩))))
 rename_i nq
 replace HK := Aside0.mk (blk_drewN HK.out nq)
 replace HB := Aside0.mk (pw_below_drewN HB.out nq)
 clear b0 b1 b2 b3 b4 b5 b6 b7 b8 b9 b10 b11 b12 b13 b14 b15 b16 hyw hy
 generalize w1.drewN nq = w2 at HK HB ⊢
 obtain ⟨b0, b1, b2, b3, b4, b5, b6, b7, b8, b9, b10, b11, b12, b13, b14, b15, b16⟩ := cells HK.out
 by_cases g1 : f1 ≤ day
 ·have e1 : decide (day ≥ f1) = true := decide_eq_true g1
  have G1 := Aside0.mk (show decide (f1 ≤ day) = true from decide_eq_true g1)
  clear g1
  by_cases g2 : day < f2
  ·have e2 : decide (day < f2) = true := decide_eq_true g2
   have G2 := Aside0.mk e2
   clear g2
   have q1 := Q1.out
   have q2 := Q2.out
   go_wp2_with fail
   refine (trystref14_counted.calls k p.A14 p.c14 r.l14 _ _ b _ (Kd.C_below HO.out.h14 HB.out) HO.out.d14 CB.out).mono ?_
   rintro e w3 ⟨rfl, ⟨nd, rfl⟩⟩
   go_wp2_with fail
   go_ret
   exact ⟨by rw [G1.out, G2.out] <;> rfl, hB ▸ pw_below_drewN HB.out nd⟩
  ·have e2 : decide (day < f2) = false := decide_eq_false g2
   have G2 := Aside0.mk e2
   clear g2
   go_wp2_with fail
   go_ret
   exact ⟨by rw [G1.out, G2.out] <;> rfl, hB ▸ HB.out⟩
 ·have e1 : decide (day ≥ f1) = false := decide_eq_false g1
  have G1 := Aside0.mk (show decide (f1 ≤ day) = false from decide_eq_false g1)
  clear g1
  go_wp2_with fail
  go_ret
  exact ⟨by rw [G1.out] <;> rfl, hB ▸ HB.out⟩
end Go.Proofs.Ytfdcldjoncednaa.RefK
namespace Go.Proofs.Ytfdcldjoncednaa.M
open Go.RowKit Go.Proofs.YtfdcldjoncednaaW.PrintWords Go.Proofs.YtfdcldjoncednaaW.PrintLast Go.Proofs.YtfdcldjoncednaaW.PrintMore
attribute [local go_sem] max2_int min2_int max_two min_two
set_option linter.unusedVariables false
set_option linter.unusedSimpArgs false
/-! ### trystref01_Length: function 30 -/
def trystref01_Length.j0 : Nat → Int → Int → Int → Bool → Option (Int)
 | 0, _, _, _, _ => none
 | k + 1, x0, x1, x2, x15 => if x15 = true then (some 0) else (if x0 = 2 then (some 7) else (if x0 = 3 then ((trystref01_hebrewMonth.f x1 x2).bind fun t308 => (some t308)) else ((trystref01_Months.f k x0 x1).bind fun t309 => (if x2 < t309 then ((trystref01_Fixed.f k x0 x1 (wrap64 (x2 + 1)) 1).bind fun t310 => ((trystref01_Fixed.f k x0 x1 x2 1).bind fun t311 => (some (wrap64 (t310 - t311))))) else ((trystref01_next.f x0 x1).bind fun t312 => ((trystref01_begins.f k x0 t312).bind fun t313 => ((trystref01_Fixed.f k x0 x1 x2 1).bind fun t314 => (some (wrap64 (t313 - t314))))))))))
def trystref01_Length.f (k : Nat) (a0 : Int) (a1 : Int) (a2 : Int) : Option (Int) := if a2 < 1 then (trystref01_Length.j0 k a0 a1 a2 true) else ((trystref01_Months.f k a0 a1).bind fun t307 => (trystref01_Length.j0 k a0 a1 a2 (decide (a2 > t307))))
set_option maxHeartbeats 8000000 in
set_option maxRecDepth 100000 in
theorem trystref01_Length.calls (k : Nat) (a0 : Int) (a1 : Int) (a2 : Int) (r : Int) (w : World) (h : trystref01_Length.f k a0 a1 a2 = some r) :
  Calls Try.prog 30 #[.int .i64 a0, .int .i64 a1, .int .i64 a2] w fun e w' => e = .returned (.int .i64 r) ∧ Drawn0 w w' := by
 have H : (if a2 < 1 then (trystref01_Length.j0 k a0 a1 a2 true) else ((trystref01_Months.f k a0 a1).bind fun t307 => (trystref01_Length.j0 k a0 a1 a2 (decide (a2 > t307))))) = some r := h
 clear h
 have HC4 := Aside0.mk H
 clear H
 go_enter Try.func30, Try.ntmps30
 go_upto_region 1 with (fail)
 go_cut [15] (fun v15 wc => ∃ (kq : Nat) (x15_3 : Bool), v15 = .bool x15_3 ∧ Aside0 (trystref01_Length.j0 kq a0 a1 a2 x15_3 = some r) ∧ Aside0 (kq ≤ k) ∧ Drawn0 w wc)
 case first =>
  have H := HC4.out
  clear HC4
  by_cases c5 : a2 < 1
  ·rw [if_pos c5] at H
   have c5b0 : decide (a2 < 1) = true := decide_eq_true c5
   clear c5
   (first | rw [c5b0] | (simp only [i64_w, i32_w]; rw [c5b0]) | skip)
   have H' := Aside0.mk H
   clear H
   go_wp2
   go_meet
   case rel => exact ⟨_, (true), (by first | rfl | (simp; done) | (simp [*]; done)), H', ⟨by first | omega | exact Nat.le_refl _⟩, by repeat (first | exact Drawn0.refl _ | apply Drawn0.step)⟩
  ·rw [if_neg c5] at H
   have c5b0 : decide (a2 < 1) = false := decide_eq_false c5
   clear c5
   (first | rw [c5b0] | (simp only [i64_w, i32_w]; rw [c5b0]) | skip)
   replace H := Option.bind_eq_some_iff.mp H
   obtain ⟨t307, A60, H⟩ := H
   replace H : (trystref01_Length.j0 k a0 a1 a2 (decide (a2 > t307))) = some r := H
   have A6 := Aside0.mk A60
   clear A60
   have H' := Aside0.mk H
   clear H
   go_wp2_with (first | (go_at_call 61; (with_reducible refine (trystref01_Months.calls k a0 a1 t307 _ A6.out).mono ?_); rintro e w' ⟨rfl, ⟨nd, rfl⟩⟩))
   go_meet
   case rel => exact ⟨_, (decide (a2 > t307)), (by first | rfl | (simp; done) | (simp [*]; done)), H', ⟨by first | omega | exact Nat.le_refl _⟩, by repeat (first | exact Drawn0.refl _ | apply Drawn0.step)⟩
 case rest =>
  clear HC4
  try clear p2
  try clear c3
  try clear c5
  try clear c5b0
  obtain ⟨kq, x15_3, rfl, HA, HJ3, ⟨mc3, rfl⟩⟩ := hcut
  cases kq with
  | zero => exact absurd HA.out (by simp [trystref01_Length.j0])
  | succ kj3 =>
   have H := HA.out
   clear HA
   simp only [trystref01_Length.j0] at H
   by_cases c7 : x15_3 = true
   ·subst c7
    have H1 : (some 0) = some r := by rw [if_pos rfl] at H; exact H
    clear H
    have H := H1
    clear H1
    obtain rfl := Option.some.inj H
    go_wp2
    go_ret
    exact ⟨by first | rfl | simp | simp [*] | simp [bne_nil_], by repeat (first | exact Drawn0.refl _ | apply Drawn0.step)⟩
   ·replace c7 := Bool.eq_false_iff.mpr c7
    subst c7
    have H1 : (if a0 = 2 then (some 7) else (if a0 = 3 then ((trystref01_hebrewMonth.f a1 a2).bind fun t308 => (some t308)) else ((trystref01_Months.f kj3 a0 a1).bind fun t309 => (if a2 < t309 then ((trystref01_Fixed.f kj3 a0 a1 (wrap64 (a2 + 1)) 1).bind fun t310 => ((trystref01_Fixed.f kj3 a0 a1 a2 1).bind fun t311 => (some (wrap64 (t310 - t311))))) else ((trystref01_next.f a0 a1).bind fun t312 => ((trystref01_begins.f kj3 a0 t312).bind fun t313 => ((trystref01_Fixed.f kj3 a0 a1 a2 1).bind fun t314 => (some (wrap64 (t313 - t314)))))))))) = some r := by rw [if_neg (show ¬ (false = true) by decide)] at H; exact H
    clear H
    have H := H1
    clear H1
    by_cases c8 : a0 = 2
    ·rw [if_pos c8] at H
     have c8b0 : (a0 == 2) = true := beq_iff_eq.mpr c8
     have c8b1 : (a0 != 2) = false := bne_eq_false_iff_eq.mpr c8
     clear c8
     obtain rfl := Option.some.inj H
     go_wp2
     go_ret
     exact ⟨by first | rfl | simp | simp [*] | simp [bne_nil_], by repeat (first | exact Drawn0.refl _ | apply Drawn0.step)⟩
    ·rw [if_neg c8] at H
     have c8b0 : (a0 == 2) = false := beq_eq_false_iff_ne.mpr c8
     have c8b1 : (a0 != 2) = true := bne_iff_ne.mpr c8
     by_cases c9 : a0 = 3
     ·rw [if_pos c9] at H
      have c9b0 : (a0 == 3) = true := beq_iff_eq.mpr c9
      have c9b1 : (a0 != 3) = false := bne_eq_false_iff_eq.mpr c9
      clear c9
      replace H := Option.bind_eq_some_iff.mp H
      obtain ⟨t308, A100, H⟩ := H
      replace H : (some t308) = some r := H
      have A10 := Aside0.mk A100
      clear A100
      obtain rfl := Option.some.inj H
      go_wp2_with (first | ((with_reducible refine gate_callee (f := 62) rfl ?_); refine gm_ (some 22) Try.func62 #[.int .i64 a1, .int .i64 a2] ?_; (with_reducible refine (trystref01_hebrewMonth.calls a1 a2 t308 _ A10.out).mono ?_); rintro e w' ⟨rfl, ⟨nd, rfl⟩⟩; refine ⟨_, rfl, ?_⟩))
      go_ret
      exact ⟨by first | rfl | simp | simp [*] | simp [bne_nil_], by repeat (first | exact Drawn0.refl _ | apply Drawn0.step)⟩
     ·rw [if_neg c9] at H
      have c9b0 : (a0 == 3) = false := beq_eq_false_iff_ne.mpr c9
      have c9b1 : (a0 != 3) = true := bne_iff_ne.mpr c9
      replace H := Option.bind_eq_some_iff.mp H
      obtain ⟨t309, A110, H⟩ := H
      replace H : (if a2 < t309 then ((trystref01_Fixed.f kj3 a0 a1 (wrap64 (a2 + 1)) 1).bind fun t310 => ((trystref01_Fixed.f kj3 a0 a1 a2 1).bind fun t311 => (some (wrap64 (t310 - t311))))) else ((trystref01_next.f a0 a1).bind fun t312 => ((trystref01_begins.f kj3 a0 t312).bind fun t313 => ((trystref01_Fixed.f kj3 a0 a1 a2 1).bind fun t314 => (some (wrap64 (t313 - t314))))))) = some r := H
      have A11 := Aside0.mk A110
      clear A110
      by_cases c12 : a2 < t309
      ·rw [if_pos c12] at H
       have c12b0 : decide (a2 < t309) = true := decide_eq_true c12
       clear c12
       replace H := Option.bind_eq_some_iff.mp H
       obtain ⟨t310, A130, H⟩ := H
       replace H : ((trystref01_Fixed.f kj3 a0 a1 a2 1).bind fun t311 => (some (wrap64 (t310 - t311)))) = some r := H
       have A13 := Aside0.mk A130
       clear A130
       replace H := Option.bind_eq_some_iff.mp H
       obtain ⟨t311, A140, H⟩ := H
       replace H : (some (wrap64 (t310 - t311))) = some r := H
       have A14 := Aside0.mk A140
       clear A140
       obtain rfl := Option.some.inj H
       go_wp2_with (first | ((with_reducible refine gate_callee (f := 61) rfl ?_); refine gm_ (some 26) Try.func61 #[.int .i64 a0, .int .i64 a1] ?_; (with_reducible refine (trystref01_Months.calls kj3 a0 a1 t309 _ A11.out).mono ?_); rintro e w' ⟨rfl, ⟨nd, rfl⟩⟩; refine ⟨_, rfl, ?_⟩) | ((with_reducible refine gate_callee (f := 25) rfl ?_); refine gm_ (some 32) Try.func25 #[.int .i64 a0, .int .i64 a1, .int .i64 (wrap64 (a2 + 1)), .int .i64 1] ?_; (with_reducible refine (trystref01_Fixed.calls kj3 a0 a1 (wrap64 (a2 + 1)) 1 t310 _ A13.out).mono ?_); rintro e w' ⟨rfl, ⟨nd, rfl⟩⟩; refine ⟨_, rfl, ?_⟩) | ((with_reducible refine gate_callee (f := 25) rfl ?_); refine gm_ (some 36) Try.func25 #[.int .i64 a0, .int .i64 a1, .int .i64 a2, .int .i64 1] ?_; (with_reducible refine (trystref01_Fixed.calls kj3 a0 a1 a2 1 t311 _ A14.out).mono ?_); rintro e w' ⟨rfl, ⟨nd, rfl⟩⟩; refine ⟨_, rfl, ?_⟩))
       go_ret
       exact ⟨by first | rfl | simp | simp [*] | simp [bne_nil_], by repeat (first | exact Drawn0.refl _ | apply Drawn0.step)⟩
      ·rw [if_neg c12] at H
       have c12b0 : decide (a2 < t309) = false := decide_eq_false c12
       clear c12
       replace H := Option.bind_eq_some_iff.mp H
       obtain ⟨t312, A150, H⟩ := H
       replace H : ((trystref01_begins.f kj3 a0 t312).bind fun t313 => ((trystref01_Fixed.f kj3 a0 a1 a2 1).bind fun t314 => (some (wrap64 (t313 - t314))))) = some r := H
       have A15 := Aside0.mk A150
       clear A150
       replace H := Option.bind_eq_some_iff.mp H
       obtain ⟨t313, A160, H⟩ := H
       replace H : ((trystref01_Fixed.f kj3 a0 a1 a2 1).bind fun t314 => (some (wrap64 (t313 - t314)))) = some r := H
       have A16 := Aside0.mk A160
       clear A160
       replace H := Option.bind_eq_some_iff.mp H
       obtain ⟨t314, A170, H⟩ := H
       replace H : (some (wrap64 (t313 - t314))) = some r := H
       have A17 := Aside0.mk A170
       clear A170
       obtain rfl := Option.some.inj H
       go_wp2_with (first | ((with_reducible refine gate_callee (f := 61) rfl ?_); refine gm_ (some 26) Try.func61 #[.int .i64 a0, .int .i64 a1] ?_; (with_reducible refine (trystref01_Months.calls kj3 a0 a1 t309 _ A11.out).mono ?_); rintro e w' ⟨rfl, ⟨nd, rfl⟩⟩; refine ⟨_, rfl, ?_⟩) | ((with_reducible refine gate_callee (f := 64) rfl ?_); refine gm_ (some 41) Try.func64 #[.int .i64 a0, .int .i64 a1] ?_; (with_reducible refine (trystref01_next.calls a0 a1 t312 _ A15.out).mono ?_); rintro e w' ⟨rfl, ⟨nd, rfl⟩⟩; refine ⟨_, rfl, ?_⟩) | ((with_reducible refine gate_callee (f := 63) rfl ?_); refine gm_ (some 42) Try.func63 #[.int .i64 a0, .int .i64 t312] ?_; (with_reducible refine (trystref01_begins.calls kj3 a0 t312 t313 _ A16.out).mono ?_); rintro e w' ⟨rfl, ⟨nd, rfl⟩⟩; refine ⟨_, rfl, ?_⟩) | ((with_reducible refine gate_callee (f := 25) rfl ?_); refine gm_ (some 46) Try.func25 #[.int .i64 a0, .int .i64 a1, .int .i64 a2, .int .i64 1] ?_; (with_reducible refine (trystref01_Fixed.calls kj3 a0 a1 a2 1 t314 _ A17.out).mono ?_); rintro e w' ⟨rfl, ⟨nd, rfl⟩⟩; refine ⟨_, rfl, ?_⟩))
       go_ret
       exact ⟨by first | rfl | simp | simp [*] | simp [bne_nil_], by repeat (first | exact Drawn0.refl _ | apply Drawn0.step)⟩

end Go.Proofs.Ytfdcldjoncednaa.M
