/- Texts of this claim, merged: Qiso. -/
import Derived.Test.YtgbbgcepcnklkaaGreatDoorMgShowParses1
namespace Go.Proofs.YtgbbgcepcnklkaaGreatDoor.Q
open Go.RowKit Go.Proofs.YtgbbgcepcnklkaaGreatDoorW.PrintWords Go.Proofs.YtgbbgcepcnklkaaGreatDoorW.PrintLast Go.Proofs.YtgbbgcepcnklkaaGreatDoorW.PrintMore
attribute [local go_sem] max2_int min2_int max_two min_two
set_option linter.unusedVariables false
set_option linter.unusedSimpArgs false
/-! ### iso_first: function 59 -/
def iso_first.f (a0 : Int) (a1 : Int) : Option (Int) := (rata_Begins.f a0).bind fun t128 => ((rata_Weekday.f (wrap64 (t128 + 3))).bind fun t129 => ((rata_Mod.f (wrap64 (t129 - a1)) 7).bind fun t130 => (some (wrap64 ((wrap64 (t128 + 3)) - t130)))))
set_option maxHeartbeats 8000000 in
set_option maxRecDepth 100000 in
theorem iso_first.calls (a0 : Int) (a1 : Int) (r : Int) (w : World) (h : iso_first.f a0 a1 = some r) :
  Calls Tryz.prog 59 #[.int .i64 a0, .int .i64 a1] w fun e w' => e = .returned (.int .i64 r) ∧ Drawn0 w w' := by
 have H : ((rata_Begins.f a0).bind fun t128 => ((rata_Weekday.f (wrap64 (t128 + 3))).bind fun t129 => ((rata_Mod.f (wrap64 (t129 - a1)) 7).bind fun t130 => (some (wrap64 ((wrap64 (t128 + 3)) - t130)))))) = some r := h
 clear h
 replace H := Option.bind_eq_some_iff.mp H
 obtain ⟨t128, A30, H⟩ := H
 replace H : ((rata_Weekday.f (wrap64 (t128 + 3))).bind fun t129 => ((rata_Mod.f (wrap64 (t129 - a1)) 7).bind fun t130 => (some (wrap64 ((wrap64 (t128 + 3)) - t130))))) = some r := H
 have A3 := Aside0.mk A30
 clear A30
 replace H := Option.bind_eq_some_iff.mp H
 obtain ⟨t129, A40, H⟩ := H
 replace H : ((rata_Mod.f (wrap64 (t129 - a1)) 7).bind fun t130 => (some (wrap64 ((wrap64 (t128 + 3)) - t130)))) = some r := H
 have A4 := Aside0.mk A40
 clear A40
 replace H := Option.bind_eq_some_iff.mp H
 obtain ⟨t130, A50, H⟩ := H
 replace H : (some (wrap64 ((wrap64 (t128 + 3)) - t130))) = some r := H
 have A5 := Aside0.mk A50
 clear A50
 obtain rfl := Option.some.inj H
 go_enter Tryz.func59, Tryz.ntmps59
 go_wp2_with (first | ((with_reducible refine gate_callee (f := 99) rfl ?_); refine gm_ (some 7) Tryz.func99 #[.int .i64 a0] ?_; (with_reducible refine (rata_Begins.calls a0 t128 _ A3.out).mono ?_); rintro e w' ⟨rfl, ⟨nd, rfl⟩⟩; refine ⟨_, rfl, ?_⟩) | ((with_reducible refine gate_callee (f := 86) rfl ?_); refine gm_ (some 11) Tryz.func86 #[.int .i64 (wrap64 (t128 + 3))] ?_; (with_reducible refine (rata_Weekday.calls (wrap64 (t128 + 3)) t129 _ A4.out).mono ?_); rintro e w' ⟨rfl, ⟨nd, rfl⟩⟩; refine ⟨_, rfl, ?_⟩) | ((with_reducible refine gate_callee (f := 85) rfl ?_); refine gm_ (some 14) Tryz.func85 #[.int .i64 (wrap64 (t129 - a1)), .int .i64 7] ?_; (with_reducible refine (rata_Mod.calls (wrap64 (t129 - a1)) 7 t130 _ A5.out).mono ?_); rintro e w' ⟨rfl, ⟨nd, rfl⟩⟩; refine ⟨_, rfl, ?_⟩))
 go_ret
 exact ⟨by first | rfl | simp | simp [*] | simp [bne_nil_], by repeat (first | exact Drawn0.refl _ | apply Drawn0.step)⟩

/-! ### iso_right: function 98 -/
def iso_right.f (a0 : Int) : Option (Bool) := if a0 ≥ 0 then (some (decide (a0 < 7))) else (some false)
set_option maxHeartbeats 8000000 in
set_option maxRecDepth 100000 in
theorem iso_right.calls (a0 : Int) (r : Bool) (w : World) (h : iso_right.f a0 = some r) :
  Calls Tryz.prog 98 #[.int .i64 a0] w fun e w' => e = .returned (.bool r) ∧ Drawn0 w w' := by
 have H : (if a0 ≥ 0 then (some (decide (a0 < 7))) else (some false)) = some r := h
 clear h
 by_cases c2 : a0 ≥ 0
 ·rw [if_pos c2] at H
  have c2b0 : decide (0 ≤ a0) = true := decide_eq_true c2
  clear c2
  obtain rfl := Option.some.inj H
  go_enter Tryz.func98, Tryz.ntmps98
  go_wp2
  go_ret
  exact ⟨by first | rfl | simp | simp [*] | simp [bne_nil_], by repeat (first | exact Drawn0.refl _ | apply Drawn0.step)⟩
 ·rw [if_neg c2] at H
  have c2b0 : decide (0 ≤ a0) = false := decide_eq_false c2
  clear c2
  obtain rfl := Option.some.inj H
  go_enter Tryz.func98, Tryz.ntmps98
  go_wp2
  go_ret
  exact ⟨by first | rfl | simp | simp [*] | simp [bne_nil_], by repeat (first | exact Drawn0.refl _ | apply Drawn0.step)⟩

/-! ### iso_Weeks: function 58 -/
def iso_Weeks.j0 : Nat → Int → Int → Bool → Option (Int × Int)
 | 0, _, _, _ => none
 | k + 1, x0, x1, x6 => if x6 = true then (some (0, 2)) else ((iso_right.f x1).bind fun t258 => (if t258 = true then ((iso_first.f (wrap64 (x0 + 1)) x1).bind fun t259 => ((iso_first.f x0 x1).bind fun t260 => (some (wrap64 (Int.tdiv (wrap64 (t259 - t260)) 7), 0)))) else (some (0, 1))))
def iso_Weeks.f (k : Nat) (a0 : Int) (a1 : Int) : Option (Int × Int) := if a0 < 0 then (iso_Weeks.j0 k a0 a1 true) else (iso_Weeks.j0 k a0 a1 (decide (a0 > 9999)))
set_option maxHeartbeats 8000000 in
set_option maxRecDepth 100000 in
theorem iso_Weeks.calls (k : Nat) (a0 : Int) (a1 : Int) (r1 : Int) (r2 : Int) (w : World) (h : iso_Weeks.f k a0 a1 = some (r1, r2)) :
  Calls Tryz.prog 58 #[.int .i64 a0, .int .i64 a1] w fun e w' => e = .returned (.tuple #[.int .i64 r1, .int .i64 r2]) ∧ Drawn0 w w' := by
 have H : (if a0 < 0 then (iso_Weeks.j0 k a0 a1 true) else (iso_Weeks.j0 k a0 a1 (decide (a0 > 9999)))) = some (r1, r2) := h
 clear h
 have HC3 := Aside0.mk H
 clear H
 go_enter Tryz.func58, Tryz.ntmps58
 go_upto_region 1 with (fail)
 go_cut [6] (fun v6 wc => ∃ (kq : Nat) (x6_2 : Bool), v6 = .bool x6_2 ∧ Aside0 (iso_Weeks.j0 kq a0 a1 x6_2 = some (r1, r2)) ∧ Aside0 (kq ≤ k) ∧ Drawn0 w wc)
 case first =>
  have H := HC3.out
  clear HC3
  by_cases c4 : a0 < 0
  ·rw [if_pos c4] at H
   have c4b0 : decide (a0 < 0) = true := decide_eq_true c4
   clear c4
   (first | rw [c4b0] | (simp only [i64_w, i32_w]; rw [c4b0]) | skip)
   have H' := Aside0.mk H
   clear H
   go_wp2
   go_meet
   case rel => exact ⟨_, (true), (by first | rfl | (simp; done) | (simp [*]; done)), H', ⟨by first | omega | exact Nat.le_refl _⟩, by repeat (first | exact Drawn0.refl _ | apply Drawn0.step)⟩
  ·rw [if_neg c4] at H
   have c4b0 : decide (a0 < 0) = false := decide_eq_false c4
   clear c4
   (first | rw [c4b0] | (simp only [i64_w, i32_w]; rw [c4b0]) | skip)
   have H' := Aside0.mk H
   clear H
   go_wp2
   go_meet
   case rel => exact ⟨_, (decide (a0 > 9999)), (by first | rfl | (simp; done) | (simp [*]; done)), H', ⟨by first | omega | exact Nat.le_refl _⟩, by repeat (first | exact Drawn0.refl _ | apply Drawn0.step)⟩
 case rest =>
  clear HC3
  try clear p2
  try clear c4
  try clear c4b0
  obtain ⟨kq, x6_2, rfl, HA, HJ2, ⟨mc2, rfl⟩⟩ := hcut
  cases kq with
  | zero => exact absurd HA.out (by simp [iso_Weeks.j0])
  | succ kj2 =>
   have H := HA.out
   clear HA
   simp only [iso_Weeks.j0] at H
   by_cases c5 : x6_2 = true
   ·subst c5
    have H1 : (some (0, 2)) = some (r1, r2) := by rw [if_pos rfl] at H; exact H
    clear H
    have H := H1
    clear H1
    simp only [Option.some.injEq, Prod.mk.injEq] at H
    obtain ⟨rfl, rfl⟩ := H
    go_wp2
    go_ret2
    exact ⟨by first | rfl | simp | simp [*] | simp [bne_nil_], by repeat (first | exact Drawn0.refl _ | apply Drawn0.step)⟩
   ·replace c5 := Bool.eq_false_iff.mpr c5
    subst c5
    have H1 : ((iso_right.f a1).bind fun t258 => (if t258 = true then ((iso_first.f (wrap64 (a0 + 1)) a1).bind fun t259 => ((iso_first.f a0 a1).bind fun t260 => (some (wrap64 (Int.tdiv (wrap64 (t259 - t260)) 7), 0)))) else (some (0, 1)))) = some (r1, r2) := by rw [if_neg (show ¬ (false = true) by decide)] at H; exact H
    clear H
    have H := H1
    clear H1
    replace H := Option.bind_eq_some_iff.mp H
    obtain ⟨t258, A60, H⟩ := H
    replace H : (if t258 = true then ((iso_first.f (wrap64 (a0 + 1)) a1).bind fun t259 => ((iso_first.f a0 a1).bind fun t260 => (some (wrap64 (Int.tdiv (wrap64 (t259 - t260)) 7), 0)))) else (some (0, 1))) = some (r1, r2) := H
    have A6 := Aside0.mk A60
    clear A60
    by_cases c7 : t258 = true
    ·subst c7
     have H1 : ((iso_first.f (wrap64 (a0 + 1)) a1).bind fun t259 => ((iso_first.f a0 a1).bind fun t260 => (some (wrap64 (Int.tdiv (wrap64 (t259 - t260)) 7), 0)))) = some (r1, r2) := by rw [if_pos rfl] at H; exact H
     clear H
     have H := H1
     clear H1
     replace H := Option.bind_eq_some_iff.mp H
     obtain ⟨t259, A80, H⟩ := H
     replace H : ((iso_first.f a0 a1).bind fun t260 => (some (wrap64 (Int.tdiv (wrap64 (t259 - t260)) 7), 0))) = some (r1, r2) := H
     have A8 := Aside0.mk A80
     clear A80
     replace H := Option.bind_eq_some_iff.mp H
     obtain ⟨t260, A90, H⟩ := H
     replace H : (some (wrap64 (Int.tdiv (wrap64 (t259 - t260)) 7), 0)) = some (r1, r2) := H
     have A9 := Aside0.mk A90
     clear A90
     simp only [Option.some.injEq, Prod.mk.injEq] at H
     obtain ⟨rfl, rfl⟩ := H
     go_wp2_with (first | ((with_reducible refine gate_callee (f := 98) rfl ?_); refine gm_ (some 15) Tryz.func98 #[.int .i64 a1] ?_; (with_reducible refine (iso_right.calls a1 true _ A6.out).mono ?_); rintro e w' ⟨rfl, ⟨nd, rfl⟩⟩; refine ⟨_, rfl, ?_⟩) | ((with_reducible refine gate_callee (f := 59) rfl ?_); refine gm_ (some 20) Tryz.func59 #[.int .i64 (wrap64 (a0 + 1)), .int .i64 a1] ?_; (with_reducible refine (iso_first.calls (wrap64 (a0 + 1)) a1 t259 _ A8.out).mono ?_); rintro e w' ⟨rfl, ⟨nd, rfl⟩⟩; refine ⟨_, rfl, ?_⟩) | ((with_reducible refine gate_callee (f := 59) rfl ?_); refine gm_ (some 23) Tryz.func59 #[.int .i64 a0, .int .i64 a1] ?_; (with_reducible refine (iso_first.calls a0 a1 t260 _ A9.out).mono ?_); rintro e w' ⟨rfl, ⟨nd, rfl⟩⟩; refine ⟨_, rfl, ?_⟩))
     go_ret2
     exact ⟨by first | rfl | simp | simp [*] | simp [bne_nil_], by repeat (first | exact Drawn0.refl _ | apply Drawn0.step)⟩
    ·replace c7 := Bool.eq_false_iff.mpr c7
     subst c7
     have H1 : (some (0, 1)) = some (r1, r2) := by rw [if_neg (show ¬ (false = true) by decide)] at H; exact H
     clear H
     have H := H1
     clear H1
     simp only [Option.some.injEq, Prod.mk.injEq] at H
     obtain ⟨rfl, rfl⟩ := H
     go_wp2_with (first | ((with_reducible refine gate_callee (f := 98) rfl ?_); refine gm_ (some 15) Tryz.func98 #[.int .i64 a1] ?_; (with_reducible refine (iso_right.calls a1 false _ A6.out).mono ?_); rintro e w' ⟨rfl, ⟨nd, rfl⟩⟩; refine ⟨_, rfl, ?_⟩))
     go_ret2
     exact ⟨by first | rfl | simp | simp [*] | simp [bne_nil_], by repeat (first | exact Drawn0.refl _ | apply Drawn0.step)⟩

/-! ### iso_FromISO: function 26 -/
def iso_FromISO.j0 : Nat → Bool → Int → Int → Int → Option (Int × Int)
 | 0, _, _, _, _ => none
 | k + 1, x35, x262000, x262001, x262002 => if x35 = true then (some (0, 2)) else ((iso_first.f x262000 1).bind fun t264 => ((rata_Of.f (wrap64 ((wrap64 ((wrap64 (t264 + (wrap64 (7 * (wrap64 (x262001 - 1)))))) + x262002)) - 1))).bind fun t265 => (if t265 = true then (some (wrap64 ((wrap64 ((wrap64 (t264 + (wrap64 (7 * (wrap64 (x262001 - 1)))))) + x262002)) - 1), 0)) else (some (0, 2)))))
def iso_FromISO.f (k : Nat) (a0_0 : Int) (a0_1 : Int) (a0_2 : Int) : Option (Int × Int) := (iso_Weeks.f k a0_0 1).bind fun bt262 => (if bt262.2 = 0 then (if a0_1 < 1 then (iso_FromISO.j0 k true a0_0 a0_1 a0_2) else (if a0_1 > bt262.1 then (iso_FromISO.j0 k true a0_0 a0_1 a0_2) else (if a0_2 < 1 then (iso_FromISO.j0 k true a0_0 a0_1 a0_2) else (iso_FromISO.j0 k (decide (a0_2 > 7)) a0_0 a0_1 a0_2)))) else (iso_FromISO.j0 k true a0_0 a0_1 a0_2))
set_option maxHeartbeats 8000000 in
set_option maxRecDepth 100000 in
theorem iso_FromISO.calls (k : Nat) (a0_0 : Int) (a0_1 : Int) (a0_2 : Int) (r1 : Int) (r2 : Int) (w : World) (h : iso_FromISO.f k a0_0 a0_1 a0_2 = some (r1, r2)) :
  Calls Tryz.prog 26 #[.agg #[.int .i64 a0_0, .int .i64 a0_1, .int .i64 a0_2]] w fun e w' => e = .returned (.tuple #[.int .i64 r1, .int .i64 r2]) ∧ Below w.heap.size w w' := by
 have hu41 := Tryz.underlying41
 have HB := Aside0.mk (Below.refl w.heap.size w)
 have H : ((iso_Weeks.f k a0_0 1).bind fun bt262 => (if bt262.2 = 0 then (if a0_1 < 1 then (iso_FromISO.j0 k true a0_0 a0_1 a0_2) else (if a0_1 > bt262.1 then (iso_FromISO.j0 k true a0_0 a0_1 a0_2) else (if a0_2 < 1 then (iso_FromISO.j0 k true a0_0 a0_1 a0_2) else (iso_FromISO.j0 k (decide (a0_2 > 7)) a0_0 a0_1 a0_2)))) else (iso_FromISO.j0 k true a0_0 a0_1 a0_2))) = some (r1, r2) := h
 clear h
 replace H := Option.bind_eq_some_iff.mp H
 obtain ⟨⟨t262, t263⟩, A20, H⟩ := H
 replace H : (if t263 = 0 then (if a0_1 < 1 then (iso_FromISO.j0 k true a0_0 a0_1 a0_2) else (if a0_1 > t262 then (iso_FromISO.j0 k true a0_0 a0_1 a0_2) else (if a0_2 < 1 then (iso_FromISO.j0 k true a0_0 a0_1 a0_2) else (iso_FromISO.j0 k (decide (a0_2 > 7)) a0_0 a0_1 a0_2)))) else (iso_FromISO.j0 k true a0_0 a0_1 a0_2)) = some (r1, r2) := H
 have A2 := Aside0.mk A20
 clear A20
 have HC3 := Aside0.mk H
 clear H
 go_enter Tryz.func26, Tryz.ntmps26
 go_upto_region 2 with (first | ((with_reducible refine gate_dst (N := 1) rfl ?_); refine box_event ?hg (N := 1) ?hd (cs := #[.int .i64 a0_0, .int .i64 a0_1, .int .i64 a0_2]) (t := 41) ?hr ?_; (case hd => rfl); (case hg => rfl); (case hr => first | (go_simp; done) | (go_simp; rfl)); intro gb261 hg w4 hbox hb; have n0_ := Aside0.mk (below_step (by repeat (first | (with_reducible first | exact HB.out | apply below_alloc | apply pw_below_drewN | apply below_drew1) | exact HB.out)) hb); have n1_ := Aside0.mk (hbox); have n2_ := Aside0.mk ((by rw [hg]; exact (below_size (by repeat (first | (with_reducible first | exact HB.out | apply below_alloc | apply pw_below_drewN | apply below_drew1) | exact HB.out))) : w.heap.size ≤ gb261)); have n3_ := Aside0.mk ((by rw [hg]; exact (below_size (by repeat (first | (with_reducible first | exact HB.out | apply below_alloc | apply pw_below_drewN | apply below_drew1) | exact HB.out))) : w.heap.size ≤ gb261)); clear HB; have HB := n0_; have BK261 := n1_; have GW261 := n2_; have GE261 := n3_; clear n0_ n1_ n2_ n3_; clear hb hbox hg; have hcz5_0 : w4.cell? ⟨gb261, 0, none⟩ = some (.int .i64 a0_0) := (blk_cell BK261.out 0).trans rfl; have hcz5_1 : w4.cell? ⟨gb261, 1, none⟩ = some (.int .i64 a0_1) := (blk_cell BK261.out 1).trans rfl; have hcz5_2 : w4.cell? ⟨gb261, 2, none⟩ = some (.int .i64 a0_2) := (blk_cell BK261.out 2).trans rfl; have hfz5_0 := blk_frozen BK261.out 0; have hfz5_1 := blk_frozen BK261.out 1; have hfz5_2 := blk_frozen BK261.out 2) | (go_at_call 58; (with_reducible refine (iso_Weeks.calls k a0_0 1 t262 t263 _ A2.out).mono ?_); rintro e w' ⟨rfl, ⟨nd, rfl⟩⟩; (try first | exact ⟨rfl, _, World.drewN_drewN _ _ _⟩ | exact ⟨rfl, _, Eq.trans (World.drewN_drewN _ _ _) (congrArg (World.drewN _) (Nat.add_assoc _ _ _))⟩)))
 repeat (go_quiet (first | ((with_reducible refine gate_dst (N := 1) rfl ?_); refine box_event ?hg (N := 1) ?hd (cs := #[.int .i64 a0_0, .int .i64 a0_1, .int .i64 a0_2]) (t := 41) ?hr ?_; (case hd => rfl); (case hg => rfl); (case hr => first | (go_simp; done) | (go_simp; rfl)); intro gb261 hg w4 hbox hb; have n0_ := Aside0.mk (below_step (by repeat (first | (with_reducible first | exact HB.out | apply below_alloc | apply pw_below_drewN | apply below_drew1) | exact HB.out)) hb); have n1_ := Aside0.mk (hbox); have n2_ := Aside0.mk ((by rw [hg]; exact (below_size (by repeat (first | (with_reducible first | exact HB.out | apply below_alloc | apply pw_below_drewN | apply below_drew1) | exact HB.out))) : w.heap.size ≤ gb261)); have n3_ := Aside0.mk ((by rw [hg]; exact (below_size (by repeat (first | (with_reducible first | exact HB.out | apply below_alloc | apply pw_below_drewN | apply below_drew1) | exact HB.out))) : w.heap.size ≤ gb261)); clear HB; have HB := n0_; have BK261 := n1_; have GW261 := n2_; have GE261 := n3_; clear n0_ n1_ n2_ n3_; clear hb hbox hg; have hcz5_0 : w4.cell? ⟨gb261, 0, none⟩ = some (.int .i64 a0_0) := (blk_cell BK261.out 0).trans rfl; have hcz5_1 : w4.cell? ⟨gb261, 1, none⟩ = some (.int .i64 a0_1) := (blk_cell BK261.out 1).trans rfl; have hcz5_2 : w4.cell? ⟨gb261, 2, none⟩ = some (.int .i64 a0_2) := (blk_cell BK261.out 2).trans rfl; have hfz5_0 := blk_frozen BK261.out 0; have hfz5_1 := blk_frozen BK261.out 1; have hfz5_2 := blk_frozen BK261.out 2) | (go_at_call 58; (with_reducible refine (iso_Weeks.calls k a0_0 1 t262 t263 _ A2.out).mono ?_); rintro e w' ⟨rfl, ⟨nd, rfl⟩⟩; (try first | exact ⟨rfl, _, World.drewN_drewN _ _ _⟩ | exact ⟨rfl, _, Eq.trans (World.drewN_drewN _ _ _) (congrArg (World.drewN _) (Nat.add_assoc _ _ _))⟩))); go_upto_region 2 with (first | ((with_reducible refine gate_dst (N := 1) rfl ?_); refine box_event ?hg (N := 1) ?hd (cs := #[.int .i64 a0_0, .int .i64 a0_1, .int .i64 a0_2]) (t := 41) ?hr ?_; (case hd => rfl); (case hg => rfl); (case hr => first | (go_simp; done) | (go_simp; rfl)); intro gb261 hg w4 hbox hb; have n0_ := Aside0.mk (below_step (by repeat (first | (with_reducible first | exact HB.out | apply below_alloc | apply pw_below_drewN | apply below_drew1) | exact HB.out)) hb); have n1_ := Aside0.mk (hbox); have n2_ := Aside0.mk ((by rw [hg]; exact (below_size (by repeat (first | (with_reducible first | exact HB.out | apply below_alloc | apply pw_below_drewN | apply below_drew1) | exact HB.out))) : w.heap.size ≤ gb261)); have n3_ := Aside0.mk ((by rw [hg]; exact (below_size (by repeat (first | (with_reducible first | exact HB.out | apply below_alloc | apply pw_below_drewN | apply below_drew1) | exact HB.out))) : w.heap.size ≤ gb261)); clear HB; have HB := n0_; have BK261 := n1_; have GW261 := n2_; have GE261 := n3_; clear n0_ n1_ n2_ n3_; clear hb hbox hg; have hcz5_0 : w4.cell? ⟨gb261, 0, none⟩ = some (.int .i64 a0_0) := (blk_cell BK261.out 0).trans rfl; have hcz5_1 : w4.cell? ⟨gb261, 1, none⟩ = some (.int .i64 a0_1) := (blk_cell BK261.out 1).trans rfl; have hcz5_2 : w4.cell? ⟨gb261, 2, none⟩ = some (.int .i64 a0_2) := (blk_cell BK261.out 2).trans rfl; have hfz5_0 := blk_frozen BK261.out 0; have hfz5_1 := blk_frozen BK261.out 1; have hfz5_2 := blk_frozen BK261.out 2) | (go_at_call 58; (with_reducible refine (iso_Weeks.calls k a0_0 1 t262 t263 _ A2.out).mono ?_); rintro e w' ⟨rfl, ⟨nd, rfl⟩⟩; (try first | exact ⟨rfl, _, World.drewN_drewN _ _ _⟩ | exact ⟨rfl, _, Eq.trans (World.drewN_drewN _ _ _) (congrArg (World.drewN _) (Nat.add_assoc _ _ _))⟩))))
 (try simp only [Act.put, List.setIfInBounds_toArray, List.set_cons_zero, List.set_cons_succ])
 go_cut [35] (fun v35 wc => ∃ (kq : Nat) (x35_2 : Bool), v35 = .bool x35_2 ∧ Aside0 (iso_FromISO.j0 kq x35_2 a0_0 a0_1 a0_2 = some (r1, r2)) ∧ Aside0 (kq ≤ k) ∧ Aside0 (wc.heap[gb261]? = some (.cells #[.int .i64 a0_0, .int .i64 a0_1, .int .i64 a0_2] 41 (0, 0))) ∧ Aside0 (Below w.heap.size w wc))
 case first =>
  have H := HC3.out
  clear HC3
  by_cases c6 : t263 = 0
  ·rw [if_pos c6] at H
   have c6b0 : (t263 == 0) = true := beq_iff_eq.mpr c6
   have c6b1 : (t263 != 0) = false := bne_eq_false_iff_eq.mpr c6
   clear c6
   (first | rw [c6b0] | (simp only [i64_w, i32_w]; rw [c6b0]) | skip)
   by_cases c7 : a0_1 < 1
   ·rw [if_pos c7] at H
    have c7b0 : decide (a0_1 < 1) = true := decide_eq_true c7
    clear c7
    have H' := Aside0.mk H
    clear H
    have hcz8_0 : w4.cell? ⟨gb261, 0, none⟩ = some (.int .i64 a0_0) := (blk_cell BK261.out 0).trans rfl
    have hcz8_1 : w4.cell? ⟨gb261, 1, none⟩ = some (.int .i64 a0_1) := (blk_cell BK261.out 1).trans rfl
    have hcz8_2 : w4.cell? ⟨gb261, 2, none⟩ = some (.int .i64 a0_2) := (blk_cell BK261.out 2).trans rfl
    have hfz8_0 := blk_frozen BK261.out 0
    have hfz8_1 := blk_frozen BK261.out 1
    have hfz8_2 := blk_frozen BK261.out 2
    go_wp2
    repeat (go_quiet (fail); try go_wp2)
    go_meet
    case rel => exact ⟨_, (true), (by first | rfl | (simp; done) | (simp [*]; done)), H', ⟨by first | omega | exact Nat.le_refl _⟩, ⟨by (with_reducible repeat (first | refine blk_drewN ?_ _ | refine blk_drew ?_ | refine blk_alloc ?_ _)); exact BK261.out⟩, ⟨by repeat (first | (with_reducible first | exact HB.out | apply below_alloc | apply pw_below_drewN | apply below_drew1 | refine below_set ?_ GE261.out) | exact HB.out)⟩⟩
   ·rw [if_neg c7] at H
    have c7b0 : decide (a0_1 < 1) = false := decide_eq_false c7
    clear c7
    by_cases c9 : a0_1 > t262
    ·rw [if_pos c9] at H
     have c9b0 : decide (t262 < a0_1) = true := decide_eq_true c9
     clear c9
     have H' := Aside0.mk H
     clear H
     have hcz10_0 : w4.cell? ⟨gb261, 0, none⟩ = some (.int .i64 a0_0) := (blk_cell BK261.out 0).trans rfl
     have hcz10_1 : w4.cell? ⟨gb261, 1, none⟩ = some (.int .i64 a0_1) := (blk_cell BK261.out 1).trans rfl
     have hcz10_2 : w4.cell? ⟨gb261, 2, none⟩ = some (.int .i64 a0_2) := (blk_cell BK261.out 2).trans rfl
     have hfz10_0 := blk_frozen BK261.out 0
     have hfz10_1 := blk_frozen BK261.out 1
     have hfz10_2 := blk_frozen BK261.out 2
     go_wp2
     repeat (go_quiet (fail); try go_wp2)
     go_meet
     case rel => exact ⟨_, (true), (by first | rfl | (simp; done) | (simp [*]; done)), H', ⟨by first | omega | exact Nat.le_refl _⟩, ⟨by (with_reducible repeat (first | refine blk_drewN ?_ _ | refine blk_drew ?_ | refine blk_alloc ?_ _)); exact BK261.out⟩, ⟨by repeat (first | (with_reducible first | exact HB.out | apply below_alloc | apply pw_below_drewN | apply below_drew1 | refine below_set ?_ GE261.out) | exact HB.out)⟩⟩
    ·rw [if_neg c9] at H
     have c9b0 : decide (t262 < a0_1) = false := decide_eq_false c9
     clear c9
     by_cases c11 : a0_2 < 1
     ·rw [if_pos c11] at H
      have c11b0 : decide (a0_2 < 1) = true := decide_eq_true c11
      clear c11
      have H' := Aside0.mk H
      clear H
      have hcz12_0 : w4.cell? ⟨gb261, 0, none⟩ = some (.int .i64 a0_0) := (blk_cell BK261.out 0).trans rfl
      have hcz12_1 : w4.cell? ⟨gb261, 1, none⟩ = some (.int .i64 a0_1) := (blk_cell BK261.out 1).trans rfl
      have hcz12_2 : w4.cell? ⟨gb261, 2, none⟩ = some (.int .i64 a0_2) := (blk_cell BK261.out 2).trans rfl
      have hfz12_0 := blk_frozen BK261.out 0
      have hfz12_1 := blk_frozen BK261.out 1
      have hfz12_2 := blk_frozen BK261.out 2
      go_wp2
      repeat (go_quiet (fail); try go_wp2)
      go_meet
      case rel => exact ⟨_, (true), (by first | rfl | (simp; done) | (simp [*]; done)), H', ⟨by first | omega | exact Nat.le_refl _⟩, ⟨by (with_reducible repeat (first | refine blk_drewN ?_ _ | refine blk_drew ?_ | refine blk_alloc ?_ _)); exact BK261.out⟩, ⟨by repeat (first | (with_reducible first | exact HB.out | apply below_alloc | apply pw_below_drewN | apply below_drew1 | refine below_set ?_ GE261.out) | exact HB.out)⟩⟩
     ·rw [if_neg c11] at H
      have c11b0 : decide (a0_2 < 1) = false := decide_eq_false c11
      clear c11
      have H' := Aside0.mk H
      clear H
      have hcz13_0 : w4.cell? ⟨gb261, 0, none⟩ = some (.int .i64 a0_0) := (blk_cell BK261.out 0).trans rfl
      have hcz13_1 : w4.cell? ⟨gb261, 1, none⟩ = some (.int .i64 a0_1) := (blk_cell BK261.out 1).trans rfl
      have hcz13_2 : w4.cell? ⟨gb261, 2, none⟩ = some (.int .i64 a0_2) := (blk_cell BK261.out 2).trans rfl
      have hfz13_0 := blk_frozen BK261.out 0
      have hfz13_1 := blk_frozen BK261.out 1
      have hfz13_2 := blk_frozen BK261.out 2
      go_wp2
      repeat (go_quiet (fail); try go_wp2)
      go_meet
      case rel => exact ⟨_, (decide (a0_2 > 7)), (by first | rfl | (simp; done) | (simp [*]; done)), H', ⟨by first | omega | exact Nat.le_refl _⟩, ⟨by (with_reducible repeat (first | refine blk_drewN ?_ _ | refine blk_drew ?_ | refine blk_alloc ?_ _)); exact BK261.out⟩, ⟨by repeat (first | (with_reducible first | exact HB.out | apply below_alloc | apply pw_below_drewN | apply below_drew1 | refine below_set ?_ GE261.out) | exact HB.out)⟩⟩
  ·rw [if_neg c6] at H
   have c6b0 : (t263 == 0) = false := beq_eq_false_iff_ne.mpr c6
   have c6b1 : (t263 != 0) = true := bne_iff_ne.mpr c6
   (first | rw [c6b0] | (simp only [i64_w, i32_w]; rw [c6b0]) | skip)
   have H' := Aside0.mk H
   clear H
   go_wp2
   repeat (go_quiet (fail); try go_wp2)
   go_meet
   case rel => exact ⟨_, (true), (by first | rfl | (simp; done) | (simp [*]; done)), H', ⟨by first | omega | exact Nat.le_refl _⟩, ⟨by (with_reducible repeat (first | refine blk_drewN ?_ _ | refine blk_drew ?_ | refine blk_alloc ?_ _)); exact BK261.out⟩, ⟨by repeat (first | (with_reducible first | exact HB.out | apply below_alloc | apply pw_below_drewN | apply below_drew1 | refine below_set ?_ GE261.out) | exact HB.out)⟩⟩
 case rest =>
  clear HC3
  try clear c1
  try clear c2
  try clear p2
  try clear c6
  try clear c6b0
  try clear c6b1
  try clear c7
  try clear c7b0
  try clear c9
  try clear c9b0
  try clear c11
  try clear c11b0
  try clear hcz10_0
  try clear hcz10_1
  try clear hcz10_2
  try clear hcz12_0
  try clear hcz12_1
  try clear hcz12_2
  try clear hcz13_0
  try clear hcz13_1
  try clear hcz13_2
  try clear hcz5_0
  try clear hcz5_1
  try clear hcz5_2
  try clear hcz8_0
  try clear hcz8_1
  try clear hcz8_2
  try clear hfz10_0
  try clear hfz10_1
  try clear hfz10_2
  try clear hfz12_0
  try clear hfz12_1
  try clear hfz12_2
  try clear hfz13_0
  try clear hfz13_1
  try clear hfz13_2
  try clear hfz5_0
  try clear hfz5_1
  try clear hfz5_2
  try clear hfz8_0
  try clear hfz8_1
  try clear hfz8_2
  obtain ⟨kq, x35_2, rfl, HA, HJ2, BK261, HB⟩ := hcut
  cases kq with
  | zero => exact absurd HA.out (by simp [iso_FromISO.j0])
  | succ kj2 =>
   have H := HA.out
   clear HA
   simp only [iso_FromISO.j0] at H
   by_cases c14 : x35_2 = true
   ·subst c14
    have H1 : (some (0, 2)) = some (r1, r2) := by rw [if_pos rfl] at H; exact H
    clear H
    have H := H1
    clear H1
    simp only [Option.some.injEq, Prod.mk.injEq] at H
    obtain ⟨rfl, rfl⟩ := H
    go_wp2
    repeat (go_quiet (fail); try go_wp2)
    go_ret2
    exact ⟨by first | rfl | (simp [*, errW_none, errW_some] <;> rfl), by repeat (first | (with_reducible first | exact HB.out | apply below_alloc | apply pw_below_drewN | apply below_drew1 | refine below_set ?_ GE261.out) | exact HB.out)⟩
   ·replace c14 := Bool.eq_false_iff.mpr c14
    subst c14
    have H1 : ((iso_first.f a0_0 1).bind fun t264 => ((rata_Of.f (wrap64 ((wrap64 ((wrap64 (t264 + (wrap64 (7 * (wrap64 (a0_1 - 1)))))) + a0_2)) - 1))).bind fun t265 => (if t265 = true then (some (wrap64 ((wrap64 ((wrap64 (t264 + (wrap64 (7 * (wrap64 (a0_1 - 1)))))) + a0_2)) - 1), 0)) else (some (0, 2))))) = some (r1, r2) := by rw [if_neg (show ¬ (false = true) by decide)] at H; exact H
    clear H
    have H := H1
    clear H1
    replace H := Option.bind_eq_some_iff.mp H
    obtain ⟨t264, A150, H⟩ := H
    replace H : ((rata_Of.f (wrap64 ((wrap64 ((wrap64 (t264 + (wrap64 (7 * (wrap64 (a0_1 - 1)))))) + a0_2)) - 1))).bind fun t265 => (if t265 = true then (some (wrap64 ((wrap64 ((wrap64 (t264 + (wrap64 (7 * (wrap64 (a0_1 - 1)))))) + a0_2)) - 1), 0)) else (some (0, 2)))) = some (r1, r2) := H
    have A15 := Aside0.mk A150
    clear A150
    replace H := Option.bind_eq_some_iff.mp H
    obtain ⟨t265, A160, H⟩ := H
    replace H : (if t265 = true then (some (wrap64 ((wrap64 ((wrap64 (t264 + (wrap64 (7 * (wrap64 (a0_1 - 1)))))) + a0_2)) - 1), 0)) else (some (0, 2))) = some (r1, r2) := H
    have A16 := Aside0.mk A160
    clear A160
    by_cases c17 : t265 = true
    ·subst c17
     have H1 : (some (wrap64 ((wrap64 ((wrap64 (t264 + (wrap64 (7 * (wrap64 (a0_1 - 1)))))) + a0_2)) - 1), 0)) = some (r1, r2) := by rw [if_pos rfl] at H; exact H
     clear H
     have H := H1
     clear H1
     simp only [Option.some.injEq, Prod.mk.injEq] at H
     obtain ⟨rfl, rfl⟩ := H
     have hcz18_0 : wc.cell? ⟨gb261, 0, none⟩ = some (.int .i64 a0_0) := (blk_cell BK261.out 0).trans rfl
     have hcz18_1 : wc.cell? ⟨gb261, 1, none⟩ = some (.int .i64 a0_1) := (blk_cell BK261.out 1).trans rfl
     have hcz18_2 : wc.cell? ⟨gb261, 2, none⟩ = some (.int .i64 a0_2) := (blk_cell BK261.out 2).trans rfl
     have hfz18_0 := blk_frozen BK261.out 0
     have hfz18_1 := blk_frozen BK261.out 1
     have hfz18_2 := blk_frozen BK261.out 2
     go_wp2_with (first | (go_at_call 59; (with_reducible refine (iso_first.calls a0_0 1 t264 _ A15.out).mono ?_); rintro e w' ⟨rfl, ⟨nd, rfl⟩⟩; (try first | exact ⟨rfl, _, World.drewN_drewN _ _ _⟩ | exact ⟨rfl, _, Eq.trans (World.drewN_drewN _ _ _) (congrArg (World.drewN _) (Nat.add_assoc _ _ _))⟩)) | (go_at_call 60; (with_reducible refine (rata_Of.calls (wrap64 ((wrap64 ((wrap64 (t264 + (wrap64 (7 * (wrap64 (a0_1 - 1)))))) + a0_2)) - 1)) true _ A16.out).mono ?_); rintro e w' ⟨rfl, ⟨nd, rfl⟩⟩; (try first | exact ⟨rfl, _, World.drewN_drewN _ _ _⟩ | exact ⟨rfl, _, Eq.trans (World.drewN_drewN _ _ _) (congrArg (World.drewN _) (Nat.add_assoc _ _ _))⟩)))
     repeat (go_quiet (first | (go_at_call 59; (with_reducible refine (iso_first.calls a0_0 1 t264 _ A15.out).mono ?_); rintro e w' ⟨rfl, ⟨nd, rfl⟩⟩; (try first | exact ⟨rfl, _, World.drewN_drewN _ _ _⟩ | exact ⟨rfl, _, Eq.trans (World.drewN_drewN _ _ _) (congrArg (World.drewN _) (Nat.add_assoc _ _ _))⟩)) | (go_at_call 60; (with_reducible refine (rata_Of.calls (wrap64 ((wrap64 ((wrap64 (t264 + (wrap64 (7 * (wrap64 (a0_1 - 1)))))) + a0_2)) - 1)) true _ A16.out).mono ?_); rintro e w' ⟨rfl, ⟨nd, rfl⟩⟩; (try first | exact ⟨rfl, _, World.drewN_drewN _ _ _⟩ | exact ⟨rfl, _, Eq.trans (World.drewN_drewN _ _ _) (congrArg (World.drewN _) (Nat.add_assoc _ _ _))⟩))); try go_wp2_with (first | (go_at_call 59; (with_reducible refine (iso_first.calls a0_0 1 t264 _ A15.out).mono ?_); rintro e w' ⟨rfl, ⟨nd, rfl⟩⟩; (try first | exact ⟨rfl, _, World.drewN_drewN _ _ _⟩ | exact ⟨rfl, _, Eq.trans (World.drewN_drewN _ _ _) (congrArg (World.drewN _) (Nat.add_assoc _ _ _))⟩)) | (go_at_call 60; (with_reducible refine (rata_Of.calls (wrap64 ((wrap64 ((wrap64 (t264 + (wrap64 (7 * (wrap64 (a0_1 - 1)))))) + a0_2)) - 1)) true _ A16.out).mono ?_); rintro e w' ⟨rfl, ⟨nd, rfl⟩⟩; (try first | exact ⟨rfl, _, World.drewN_drewN _ _ _⟩ | exact ⟨rfl, _, Eq.trans (World.drewN_drewN _ _ _) (congrArg (World.drewN _) (Nat.add_assoc _ _ _))⟩))))
     go_ret2
     exact ⟨by first | rfl | (simp [*, errW_none, errW_some] <;> rfl), by repeat (first | (with_reducible first | exact HB.out | apply below_alloc | apply pw_below_drewN | apply below_drew1 | refine below_set ?_ GE261.out) | exact HB.out)⟩
    ·replace c17 := Bool.eq_false_iff.mpr c17
     subst c17
     have H1 : (some (0, 2)) = some (r1, r2) := by rw [if_neg (show ¬ (false = true) by decide)] at H; exact H
     clear H
     have H := H1
     clear H1
     simp only [Option.some.injEq, Prod.mk.injEq] at H
     obtain ⟨rfl, rfl⟩ := H
     have hcz19_0 : wc.cell? ⟨gb261, 0, none⟩ = some (.int .i64 a0_0) := (blk_cell BK261.out 0).trans rfl
     have hcz19_1 : wc.cell? ⟨gb261, 1, none⟩ = some (.int .i64 a0_1) := (blk_cell BK261.out 1).trans rfl
     have hcz19_2 : wc.cell? ⟨gb261, 2, none⟩ = some (.int .i64 a0_2) := (blk_cell BK261.out 2).trans rfl
     have hfz19_0 := blk_frozen BK261.out 0
     have hfz19_1 := blk_frozen BK261.out 1
     have hfz19_2 := blk_frozen BK261.out 2
     go_wp2_with (first | (go_at_call 59; (with_reducible refine (iso_first.calls a0_0 1 t264 _ A15.out).mono ?_); rintro e w' ⟨rfl, ⟨nd, rfl⟩⟩; (try first | exact ⟨rfl, _, World.drewN_drewN _ _ _⟩ | exact ⟨rfl, _, Eq.trans (World.drewN_drewN _ _ _) (congrArg (World.drewN _) (Nat.add_assoc _ _ _))⟩)) | (go_at_call 60; (with_reducible refine (rata_Of.calls (wrap64 ((wrap64 ((wrap64 (t264 + (wrap64 (7 * (wrap64 (a0_1 - 1)))))) + a0_2)) - 1)) false _ A16.out).mono ?_); rintro e w' ⟨rfl, ⟨nd, rfl⟩⟩; (try first | exact ⟨rfl, _, World.drewN_drewN _ _ _⟩ | exact ⟨rfl, _, Eq.trans (World.drewN_drewN _ _ _) (congrArg (World.drewN _) (Nat.add_assoc _ _ _))⟩)))
     repeat (go_quiet (first | (go_at_call 59; (with_reducible refine (iso_first.calls a0_0 1 t264 _ A15.out).mono ?_); rintro e w' ⟨rfl, ⟨nd, rfl⟩⟩; (try first | exact ⟨rfl, _, World.drewN_drewN _ _ _⟩ | exact ⟨rfl, _, Eq.trans (World.drewN_drewN _ _ _) (congrArg (World.drewN _) (Nat.add_assoc _ _ _))⟩)) | (go_at_call 60; (with_reducible refine (rata_Of.calls (wrap64 ((wrap64 ((wrap64 (t264 + (wrap64 (7 * (wrap64 (a0_1 - 1)))))) + a0_2)) - 1)) false _ A16.out).mono ?_); rintro e w' ⟨rfl, ⟨nd, rfl⟩⟩; (try first | exact ⟨rfl, _, World.drewN_drewN _ _ _⟩ | exact ⟨rfl, _, Eq.trans (World.drewN_drewN _ _ _) (congrArg (World.drewN _) (Nat.add_assoc _ _ _))⟩))); try go_wp2_with (first | (go_at_call 59; (with_reducible refine (iso_first.calls a0_0 1 t264 _ A15.out).mono ?_); rintro e w' ⟨rfl, ⟨nd, rfl⟩⟩; (try first | exact ⟨rfl, _, World.drewN_drewN _ _ _⟩ | exact ⟨rfl, _, Eq.trans (World.drewN_drewN _ _ _) (congrArg (World.drewN _) (Nat.add_assoc _ _ _))⟩)) | (go_at_call 60; (with_reducible refine (rata_Of.calls (wrap64 ((wrap64 ((wrap64 (t264 + (wrap64 (7 * (wrap64 (a0_1 - 1)))))) + a0_2)) - 1)) false _ A16.out).mono ?_); rintro e w' ⟨rfl, ⟨nd, rfl⟩⟩; (try first | exact ⟨rfl, _, World.drewN_drewN _ _ _⟩ | exact ⟨rfl, _, Eq.trans (World.drewN_drewN _ _ _) (congrArg (World.drewN _) (Nat.add_assoc _ _ _))⟩))))
     go_ret2
     exact ⟨by first | rfl | (simp [*, errW_none, errW_some] <;> rfl), by repeat (first | (with_reducible first | exact HB.out | apply below_alloc | apply pw_below_drewN | apply below_drew1 | refine below_set ?_ GE261.out) | exact HB.out)⟩

end Go.Proofs.YtgbbgcepcnklkaaGreatDoor.Q
