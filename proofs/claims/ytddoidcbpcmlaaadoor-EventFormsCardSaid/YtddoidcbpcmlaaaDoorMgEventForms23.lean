/- Texts of this claim, merged: Mval, Cal. -/
import Derived.Test.YtddoidcbpcmlaaaDoorMgEventForms13
import Derived.Test.YtddoidcbpcmlaaaDoorMgEventForms19
import Derived.Test.YtddoidcbpcmlaaaDoorMgEventForms18
import Derived.RowKit
namespace Go.Proofs.YtddoidcbpcmlaaaDoor.M
open Go.RowKit Go.Proofs.YtddoidcbpcmlaaaDoorW.PrintWords Go.Proofs.YtddoidcbpcmlaaaDoorW.PrintLast Go.Proofs.YtddoidcbpcmlaaaDoorW.PrintMore
attribute [local go_sem] max2_int min2_int max_two min_two
set_option linter.unusedVariables false
set_option linter.unusedSimpArgs false
/-! ### strings_IndexByte: function 77 -/
/-! ### value_ZoneName: function 53 -/
def value_ZoneName.f (a0 : ByteArray) : Option Bool := if a0.size ≤ 9223372036854775807 then some (Zn.znB a0) else none
theorem value_ZoneName.calls (a0 : ByteArray) (r : Bool) (w : World) (h : value_ZoneName.f a0 = some r) :
  Calls Tryd.prog 53 #[.string a0] w fun e w' => e = .returned (.bool r) ∧ Drawn0 w w' := by
 unfold value_ZoneName.f at h
 by_cases c : a0.size ≤ 9223372036854775807
 ·rw [if_pos c] at h
  obtain rfl := Option.some.inj h
  exact Zn.val a0 w c
 ·rw [if_neg c] at h
  cases h

/-! ### value_RightTime: function 36 -/
def value_RightTime.f (a0_0 : Int) (a0_1 : Int) (a0_2 : ByteArray) : Option (Bool) := (clock_Right.f a0_1).bind fun t130 => (if t130 = true then (if a0_0 = 0 then (if a0_2.toList = ([] : List UInt8) then ((clock_Second.f a0_1).bind fun t131 => (some (t131 == 0))) else (some false)) else (if a0_0 = 3 then ((value_ZoneName.f a0_2).bind fun t132 => (some t132)) else (if a0_2.toList = ([] : List UInt8) then (if a0_0 = 1 then (some true) else (some (a0_0 == 2))) else (some false)))) else (some false))
set_option maxHeartbeats 8000000 in
set_option maxRecDepth 100000 in
theorem value_RightTime.calls (a0_0 : Int) (a0_1 : Int) (a0_2 : ByteArray) (r : Bool) (w : World) (h : value_RightTime.f a0_0 a0_1 a0_2 = some r) :
  Calls Tryd.prog 36 #[.agg #[.int .i64 a0_0, .int .i64 a0_1, .string a0_2]] w fun e w' => e = .returned (.bool r) ∧ Below w.heap.size w w' := by
 have hu23 := Tryd.underlying23
 have HB := Aside0.mk (Below.refl w.heap.size w)
 have H : ((clock_Right.f a0_1).bind fun t130 => (if t130 = true then (if a0_0 = 0 then (if a0_2.toList = ([] : List UInt8) then ((clock_Second.f a0_1).bind fun t131 => (some (t131 == 0))) else (some false)) else (if a0_0 = 3 then ((value_ZoneName.f a0_2).bind fun t132 => (some t132)) else (if a0_2.toList = ([] : List UInt8) then (if a0_0 = 1 then (some true) else (some (a0_0 == 2))) else (some false)))) else (some false))) = some r := h
 clear h
 replace H := Option.bind_eq_some_iff.mp H
 obtain ⟨t130, A20, H⟩ := H
 replace H : (if t130 = true then (if a0_0 = 0 then (if a0_2.toList = ([] : List UInt8) then ((clock_Second.f a0_1).bind fun t131 => (some (t131 == 0))) else (some false)) else (if a0_0 = 3 then ((value_ZoneName.f a0_2).bind fun t132 => (some t132)) else (if a0_2.toList = ([] : List UInt8) then (if a0_0 = 1 then (some true) else (some (a0_0 == 2))) else (some false)))) else (some false)) = some r := H
 have A2 := Aside0.mk A20
 clear A20
 by_cases c3 : t130 = true
 ·subst c3
  have H1 : (if a0_0 = 0 then (if a0_2.toList = ([] : List UInt8) then ((clock_Second.f a0_1).bind fun t131 => (some (t131 == 0))) else (some false)) else (if a0_0 = 3 then ((value_ZoneName.f a0_2).bind fun t132 => (some t132)) else (if a0_2.toList = ([] : List UInt8) then (if a0_0 = 1 then (some true) else (some (a0_0 == 2))) else (some false)))) = some r := by rw [if_pos rfl] at H; exact H
  clear H
  have H := H1
  clear H1
  by_cases c4 : a0_0 = 0
  ·rw [if_pos c4] at H
   have c4b0 : (a0_0 == 0) = true := beq_iff_eq.mpr c4
   have c4b1 : (a0_0 != 0) = false := bne_eq_false_iff_eq.mpr c4
   clear c4
   by_cases c5 : a0_2.toList = ([] : List UInt8)
   ·rw [if_pos c5] at H
    have c5b0 : (a0_2.toList == ([] : List UInt8)) = true := beq_iff_eq.mpr c5
    have c5b1 : (a0_2.toList != ([] : List UInt8)) = false := bne_eq_false_iff_eq.mpr c5
    clear c5
    replace H := Option.bind_eq_some_iff.mp H
    obtain ⟨t131, A60, H⟩ := H
    replace H : (some (t131 == 0)) = some r := H
    have A6 := Aside0.mk A60
    clear A60
    obtain rfl := Option.some.inj H
    go_enter Tryd.func36, Tryd.ntmps36
    go_wp2_with (first | ((with_reducible refine gate_dst (N := 1) rfl ?_); refine box_event ?hg (N := 1) ?hd (cs := #[.int .i64 a0_0, .int .i64 a0_1, .string a0_2]) (t := 23) ?hr ?_; (case hd => rfl); (case hg => rfl); (case hr => first | (go_simp; done) | (go_simp; rfl)); intro gb129 hg w7 hbox hb; have n0_ := Aside0.mk (below_step (by repeat (first | (with_reducible first | exact HB.out | apply below_alloc | apply pw_below_drewN | apply below_drew1) | exact HB.out)) hb); have n1_ := Aside0.mk (hbox); have n2_ := Aside0.mk ((by rw [hg]; exact (below_size (by repeat (first | (with_reducible first | exact HB.out | apply below_alloc | apply pw_below_drewN | apply below_drew1) | exact HB.out))) : w.heap.size ≤ gb129)); have n3_ := Aside0.mk ((by rw [hg]; exact (below_size (by repeat (first | (with_reducible first | exact HB.out | apply below_alloc | apply pw_below_drewN | apply below_drew1) | exact HB.out))) : w.heap.size ≤ gb129)); clear HB; have HB := n0_; have BK129 := n1_; have GW129 := n2_; have GE129 := n3_; clear n0_ n1_ n2_ n3_; clear hb hbox hg; have hcz8_0 : w7.cell? ⟨gb129, 0, none⟩ = some (.int .i64 a0_0) := (blk_cell BK129.out 0).trans rfl; have hcz8_1 : w7.cell? ⟨gb129, 1, none⟩ = some (.int .i64 a0_1) := (blk_cell BK129.out 1).trans rfl; have hcz8_2 : w7.cell? ⟨gb129, 2, none⟩ = some (.string a0_2) := (blk_cell BK129.out 2).trans rfl; have hfz8_0 := blk_frozen BK129.out 0; have hfz8_1 := blk_frozen BK129.out 1; have hfz8_2 := blk_frozen BK129.out 2) | ((with_reducible refine gate_callee (f := 14) rfl ?_); refine gm_ (some 6) Tryd.func14 #[.int .i64 a0_1] ?_; (with_reducible refine (clock_Right.calls a0_1 true _ A2.out).mono ?_); rintro e w' ⟨rfl, ⟨nd, rfl⟩⟩; refine ⟨_, rfl, ?_⟩) | (go_at_call 52; (with_reducible refine (clock_Second.calls a0_1 t131 _ A6.out).mono ?_); rintro e w' ⟨rfl, ⟨nd, rfl⟩⟩))
    go_ret
    exact ⟨by first | rfl | (simp [i64_w]; done) | (simp [errW_none, errW_some] <;> rfl) | (simp [*, errW_none, errW_some] <;> rfl), by repeat (first | (with_reducible first | exact HB.out | apply below_alloc | apply pw_below_drewN | apply below_drew1 | refine below_set ?_ GE129.out) | exact HB.out)⟩
   ·rw [if_neg c5] at H
    have c5b0 : (a0_2.toList == ([] : List UInt8)) = false := beq_eq_false_iff_ne.mpr c5
    have c5b1 : (a0_2.toList != ([] : List UInt8)) = true := bne_iff_ne.mpr c5
    obtain rfl := Option.some.inj H
    go_enter Tryd.func36, Tryd.ntmps36
    go_wp2_with (first | ((with_reducible refine gate_dst (N := 1) rfl ?_); refine box_event ?hg (N := 1) ?hd (cs := #[.int .i64 a0_0, .int .i64 a0_1, .string a0_2]) (t := 23) ?hr ?_; (case hd => rfl); (case hg => rfl); (case hr => first | (go_simp; done) | (go_simp; rfl)); intro gb129 hg w9 hbox hb; have n0_ := Aside0.mk (below_step (by repeat (first | (with_reducible first | exact HB.out | apply below_alloc | apply pw_below_drewN | apply below_drew1) | exact HB.out)) hb); have n1_ := Aside0.mk (hbox); have n2_ := Aside0.mk ((by rw [hg]; exact (below_size (by repeat (first | (with_reducible first | exact HB.out | apply below_alloc | apply pw_below_drewN | apply below_drew1) | exact HB.out))) : w.heap.size ≤ gb129)); have n3_ := Aside0.mk ((by rw [hg]; exact (below_size (by repeat (first | (with_reducible first | exact HB.out | apply below_alloc | apply pw_below_drewN | apply below_drew1) | exact HB.out))) : w.heap.size ≤ gb129)); clear HB; have HB := n0_; have BK129 := n1_; have GW129 := n2_; have GE129 := n3_; clear n0_ n1_ n2_ n3_; clear hb hbox hg; have hcz10_0 : w9.cell? ⟨gb129, 0, none⟩ = some (.int .i64 a0_0) := (blk_cell BK129.out 0).trans rfl; have hcz10_1 : w9.cell? ⟨gb129, 1, none⟩ = some (.int .i64 a0_1) := (blk_cell BK129.out 1).trans rfl; have hcz10_2 : w9.cell? ⟨gb129, 2, none⟩ = some (.string a0_2) := (blk_cell BK129.out 2).trans rfl; have hfz10_0 := blk_frozen BK129.out 0; have hfz10_1 := blk_frozen BK129.out 1; have hfz10_2 := blk_frozen BK129.out 2) | ((with_reducible refine gate_callee (f := 14) rfl ?_); refine gm_ (some 6) Tryd.func14 #[.int .i64 a0_1] ?_; (with_reducible refine (clock_Right.calls a0_1 true _ A2.out).mono ?_); rintro e w' ⟨rfl, ⟨nd, rfl⟩⟩; refine ⟨_, rfl, ?_⟩))
    go_ret
    exact ⟨by first | rfl | (simp [i64_w]; done) | (simp [errW_none, errW_some] <;> rfl) | (simp [*, errW_none, errW_some] <;> rfl), by repeat (first | (with_reducible first | exact HB.out | apply below_alloc | apply pw_below_drewN | apply below_drew1 | refine below_set ?_ GE129.out) | exact HB.out)⟩
  ·rw [if_neg c4] at H
   have c4b0 : (a0_0 == 0) = false := beq_eq_false_iff_ne.mpr c4
   have c4b1 : (a0_0 != 0) = true := bne_iff_ne.mpr c4
   by_cases c11 : a0_0 = 3
   ·rw [if_pos c11] at H
    have c11b0 : (a0_0 == 3) = true := beq_iff_eq.mpr c11
    have c11b1 : (a0_0 != 3) = false := bne_eq_false_iff_eq.mpr c11
    clear c11
    replace H := Option.bind_eq_some_iff.mp H
    obtain ⟨t132, A120, H⟩ := H
    replace H : (some t132) = some r := H
    have A12 := Aside0.mk A120
    clear A120
    obtain rfl := Option.some.inj H
    go_enter Tryd.func36, Tryd.ntmps36
    go_wp2_with (first | ((with_reducible refine gate_dst (N := 1) rfl ?_); refine box_event ?hg (N := 1) ?hd (cs := #[.int .i64 a0_0, .int .i64 a0_1, .string a0_2]) (t := 23) ?hr ?_; (case hd => rfl); (case hg => rfl); (case hr => first | (go_simp; done) | (go_simp; rfl)); intro gb129 hg w13 hbox hb; have n0_ := Aside0.mk (below_step (by repeat (first | (with_reducible first | exact HB.out | apply below_alloc | apply pw_below_drewN | apply below_drew1) | exact HB.out)) hb); have n1_ := Aside0.mk (hbox); have n2_ := Aside0.mk ((by rw [hg]; exact (below_size (by repeat (first | (with_reducible first | exact HB.out | apply below_alloc | apply pw_below_drewN | apply below_drew1) | exact HB.out))) : w.heap.size ≤ gb129)); have n3_ := Aside0.mk ((by rw [hg]; exact (below_size (by repeat (first | (with_reducible first | exact HB.out | apply below_alloc | apply pw_below_drewN | apply below_drew1) | exact HB.out))) : w.heap.size ≤ gb129)); clear HB; have HB := n0_; have BK129 := n1_; have GW129 := n2_; have GE129 := n3_; clear n0_ n1_ n2_ n3_; clear hb hbox hg; have hcz14_0 : w13.cell? ⟨gb129, 0, none⟩ = some (.int .i64 a0_0) := (blk_cell BK129.out 0).trans rfl; have hcz14_1 : w13.cell? ⟨gb129, 1, none⟩ = some (.int .i64 a0_1) := (blk_cell BK129.out 1).trans rfl; have hcz14_2 : w13.cell? ⟨gb129, 2, none⟩ = some (.string a0_2) := (blk_cell BK129.out 2).trans rfl; have hfz14_0 := blk_frozen BK129.out 0; have hfz14_1 := blk_frozen BK129.out 1; have hfz14_2 := blk_frozen BK129.out 2) | ((with_reducible refine gate_callee (f := 14) rfl ?_); refine gm_ (some 6) Tryd.func14 #[.int .i64 a0_1] ?_; (with_reducible refine (clock_Right.calls a0_1 true _ A2.out).mono ?_); rintro e w' ⟨rfl, ⟨nd, rfl⟩⟩; refine ⟨_, rfl, ?_⟩) | ((with_reducible refine gate_callee (f := 53) rfl ?_); refine gm_ (some 27) Tryd.func53 #[.string a0_2] ?_; (with_reducible refine (value_ZoneName.calls a0_2 t132 _ A12.out).mono ?_); rintro e w' ⟨rfl, ⟨nd, rfl⟩⟩; refine ⟨_, rfl, ?_⟩))
    go_ret
    exact ⟨by first | rfl | (simp [i64_w]; done) | (simp [errW_none, errW_some] <;> rfl) | (simp [*, errW_none, errW_some] <;> rfl), by repeat (first | (with_reducible first | exact HB.out | apply below_alloc | apply pw_below_drewN | apply below_drew1 | refine below_set ?_ GE129.out) | exact HB.out)⟩
   ·rw [if_neg c11] at H
    have c11b0 : (a0_0 == 3) = false := beq_eq_false_iff_ne.mpr c11
    have c11b1 : (a0_0 != 3) = true := bne_iff_ne.mpr c11
    by_cases c15 : a0_2.toList = ([] : List UInt8)
    ·rw [if_pos c15] at H
     have c15b0 : (a0_2.toList == ([] : List UInt8)) = true := beq_iff_eq.mpr c15
     have c15b1 : (a0_2.toList != ([] : List UInt8)) = false := bne_eq_false_iff_eq.mpr c15
     clear c15
     by_cases c16 : a0_0 = 1
     ·rw [if_pos c16] at H
      have c16b0 : (a0_0 == 1) = true := beq_iff_eq.mpr c16
      have c16b1 : (a0_0 != 1) = false := bne_eq_false_iff_eq.mpr c16
      clear c16
      obtain rfl := Option.some.inj H
      go_enter Tryd.func36, Tryd.ntmps36
      go_wp2_with (first | ((with_reducible refine gate_dst (N := 1) rfl ?_); refine box_event ?hg (N := 1) ?hd (cs := #[.int .i64 a0_0, .int .i64 a0_1, .string a0_2]) (t := 23) ?hr ?_; (case hd => rfl); (case hg => rfl); (case hr => first | (go_simp; done) | (go_simp; rfl)); intro gb129 hg w17 hbox hb; have n0_ := Aside0.mk (below_step (by repeat (first | (with_reducible first | exact HB.out | apply below_alloc | apply pw_below_drewN | apply below_drew1) | exact HB.out)) hb); have n1_ := Aside0.mk (hbox); have n2_ := Aside0.mk ((by rw [hg]; exact (below_size (by repeat (first | (with_reducible first | exact HB.out | apply below_alloc | apply pw_below_drewN | apply below_drew1) | exact HB.out))) : w.heap.size ≤ gb129)); have n3_ := Aside0.mk ((by rw [hg]; exact (below_size (by repeat (first | (with_reducible first | exact HB.out | apply below_alloc | apply pw_below_drewN | apply below_drew1) | exact HB.out))) : w.heap.size ≤ gb129)); clear HB; have HB := n0_; have BK129 := n1_; have GW129 := n2_; have GE129 := n3_; clear n0_ n1_ n2_ n3_; clear hb hbox hg; have hcz18_0 : w17.cell? ⟨gb129, 0, none⟩ = some (.int .i64 a0_0) := (blk_cell BK129.out 0).trans rfl; have hcz18_1 : w17.cell? ⟨gb129, 1, none⟩ = some (.int .i64 a0_1) := (blk_cell BK129.out 1).trans rfl; have hcz18_2 : w17.cell? ⟨gb129, 2, none⟩ = some (.string a0_2) := (blk_cell BK129.out 2).trans rfl; have hfz18_0 := blk_frozen BK129.out 0; have hfz18_1 := blk_frozen BK129.out 1; have hfz18_2 := blk_frozen BK129.out 2) | ((with_reducible refine gate_callee (f := 14) rfl ?_); refine gm_ (some 6) Tryd.func14 #[.int .i64 a0_1] ?_; (with_reducible refine (clock_Right.calls a0_1 true _ A2.out).mono ?_); rintro e w' ⟨rfl, ⟨nd, rfl⟩⟩; refine ⟨_, rfl, ?_⟩))
      go_ret
      exact ⟨by first | rfl | (simp [i64_w]; done) | (simp [errW_none, errW_some] <;> rfl) | (simp [*, errW_none, errW_some] <;> rfl), by repeat (first | (with_reducible first | exact HB.out | apply below_alloc | apply pw_below_drewN | apply below_drew1 | refine below_set ?_ GE129.out) | exact HB.out)⟩
     ·rw [if_neg c16] at H
      have c16b0 : (a0_0 == 1) = false := beq_eq_false_iff_ne.mpr c16
      have c16b1 : (a0_0 != 1) = true := bne_iff_ne.mpr c16
      obtain rfl := Option.some.inj H
      go_enter Tryd.func36, Tryd.ntmps36
      go_wp2_with (first | ((with_reducible refine gate_dst (N := 1) rfl ?_); refine box_event ?hg (N := 1) ?hd (cs := #[.int .i64 a0_0, .int .i64 a0_1, .string a0_2]) (t := 23) ?hr ?_; (case hd => rfl); (case hg => rfl); (case hr => first | (go_simp; done) | (go_simp; rfl)); intro gb129 hg w19 hbox hb; have n0_ := Aside0.mk (below_step (by repeat (first | (with_reducible first | exact HB.out | apply below_alloc | apply pw_below_drewN | apply below_drew1) | exact HB.out)) hb); have n1_ := Aside0.mk (hbox); have n2_ := Aside0.mk ((by rw [hg]; exact (below_size (by repeat (first | (with_reducible first | exact HB.out | apply below_alloc | apply pw_below_drewN | apply below_drew1) | exact HB.out))) : w.heap.size ≤ gb129)); have n3_ := Aside0.mk ((by rw [hg]; exact (below_size (by repeat (first | (with_reducible first | exact HB.out | apply below_alloc | apply pw_below_drewN | apply below_drew1) | exact HB.out))) : w.heap.size ≤ gb129)); clear HB; have HB := n0_; have BK129 := n1_; have GW129 := n2_; have GE129 := n3_; clear n0_ n1_ n2_ n3_; clear hb hbox hg; have hcz20_0 : w19.cell? ⟨gb129, 0, none⟩ = some (.int .i64 a0_0) := (blk_cell BK129.out 0).trans rfl; have hcz20_1 : w19.cell? ⟨gb129, 1, none⟩ = some (.int .i64 a0_1) := (blk_cell BK129.out 1).trans rfl; have hcz20_2 : w19.cell? ⟨gb129, 2, none⟩ = some (.string a0_2) := (blk_cell BK129.out 2).trans rfl; have hfz20_0 := blk_frozen BK129.out 0; have hfz20_1 := blk_frozen BK129.out 1; have hfz20_2 := blk_frozen BK129.out 2) | ((with_reducible refine gate_callee (f := 14) rfl ?_); refine gm_ (some 6) Tryd.func14 #[.int .i64 a0_1] ?_; (with_reducible refine (clock_Right.calls a0_1 true _ A2.out).mono ?_); rintro e w' ⟨rfl, ⟨nd, rfl⟩⟩; refine ⟨_, rfl, ?_⟩))
      go_ret
      exact ⟨by first | rfl | (simp [i64_w]; done) | (simp [errW_none, errW_some] <;> rfl) | (simp [*, errW_none, errW_some] <;> rfl), by repeat (first | (with_reducible first | exact HB.out | apply below_alloc | apply pw_below_drewN | apply below_drew1 | refine below_set ?_ GE129.out) | exact HB.out)⟩
    ·rw [if_neg c15] at H
     have c15b0 : (a0_2.toList == ([] : List UInt8)) = false := beq_eq_false_iff_ne.mpr c15
     have c15b1 : (a0_2.toList != ([] : List UInt8)) = true := bne_iff_ne.mpr c15
     obtain rfl := Option.some.inj H
     go_enter Tryd.func36, Tryd.ntmps36
     go_wp2_with (first | ((with_reducible refine gate_dst (N := 1) rfl ?_); refine box_event ?hg (N := 1) ?hd (cs := #[.int .i64 a0_0, .int .i64 a0_1, .string a0_2]) (t := 23) ?hr ?_; (case hd => rfl); (case hg => rfl); (case hr => first | (go_simp; done) | (go_simp; rfl)); intro gb129 hg w21 hbox hb; have n0_ := Aside0.mk (below_step (by repeat (first | (with_reducible first | exact HB.out | apply below_alloc | apply pw_below_drewN | apply below_drew1) | exact HB.out)) hb); have n1_ := Aside0.mk (hbox); have n2_ := Aside0.mk ((by rw [hg]; exact (below_size (by repeat (first | (with_reducible first | exact HB.out | apply below_alloc | apply pw_below_drewN | apply below_drew1) | exact HB.out))) : w.heap.size ≤ gb129)); have n3_ := Aside0.mk ((by rw [hg]; exact (below_size (by repeat (first | (with_reducible first | exact HB.out | apply below_alloc | apply pw_below_drewN | apply below_drew1) | exact HB.out))) : w.heap.size ≤ gb129)); clear HB; have HB := n0_; have BK129 := n1_; have GW129 := n2_; have GE129 := n3_; clear n0_ n1_ n2_ n3_; clear hb hbox hg; have hcz22_0 : w21.cell? ⟨gb129, 0, none⟩ = some (.int .i64 a0_0) := (blk_cell BK129.out 0).trans rfl; have hcz22_1 : w21.cell? ⟨gb129, 1, none⟩ = some (.int .i64 a0_1) := (blk_cell BK129.out 1).trans rfl; have hcz22_2 : w21.cell? ⟨gb129, 2, none⟩ = some (.string a0_2) := (blk_cell BK129.out 2).trans rfl; have hfz22_0 := blk_frozen BK129.out 0; have hfz22_1 := blk_frozen BK129.out 1; have hfz22_2 := blk_frozen BK129.out 2) | ((with_reducible refine gate_callee (f := 14) rfl ?_); refine gm_ (some 6) Tryd.func14 #[.int .i64 a0_1] ?_; (with_reducible refine (clock_Right.calls a0_1 true _ A2.out).mono ?_); rintro e w' ⟨rfl, ⟨nd, rfl⟩⟩; refine ⟨_, rfl, ?_⟩))
     go_ret
     exact ⟨by first | rfl | (simp [i64_w]; done) | (simp [errW_none, errW_some] <;> rfl) | (simp [*, errW_none, errW_some] <;> rfl), by repeat (first | (with_reducible first | exact HB.out | apply below_alloc | apply pw_below_drewN | apply below_drew1 | refine below_set ?_ GE129.out) | exact HB.out)⟩
 ·replace c3 := Bool.eq_false_iff.mpr c3
  subst c3
  have H1 : (some false) = some r := by rw [if_neg (show ¬ (false = true) by decide)] at H; exact H
  clear H
  have H := H1
  clear H1
  obtain rfl := Option.some.inj H
  go_enter Tryd.func36, Tryd.ntmps36
  go_wp2_with (first | ((with_reducible refine gate_dst (N := 1) rfl ?_); refine box_event ?hg (N := 1) ?hd (cs := #[.int .i64 a0_0, .int .i64 a0_1, .string a0_2]) (t := 23) ?hr ?_; (case hd => rfl); (case hg => rfl); (case hr => first | (go_simp; done) | (go_simp; rfl)); intro gb129 hg w23 hbox hb; have n0_ := Aside0.mk (below_step (by repeat (first | (with_reducible first | exact HB.out | apply below_alloc | apply pw_below_drewN | apply below_drew1) | exact HB.out)) hb); have n1_ := Aside0.mk (hbox); have n2_ := Aside0.mk ((by rw [hg]; exact (below_size (by repeat (first | (with_reducible first | exact HB.out | apply below_alloc | apply pw_below_drewN | apply below_drew1) | exact HB.out))) : w.heap.size ≤ gb129)); have n3_ := Aside0.mk ((by rw [hg]; exact (below_size (by repeat (first | (with_reducible first | exact HB.out | apply below_alloc | apply pw_below_drewN | apply below_drew1) | exact HB.out))) : w.heap.size ≤ gb129)); clear HB; have HB := n0_; have BK129 := n1_; have GW129 := n2_; have GE129 := n3_; clear n0_ n1_ n2_ n3_; clear hb hbox hg; have hcz24_0 : w23.cell? ⟨gb129, 0, none⟩ = some (.int .i64 a0_0) := (blk_cell BK129.out 0).trans rfl; have hcz24_1 : w23.cell? ⟨gb129, 1, none⟩ = some (.int .i64 a0_1) := (blk_cell BK129.out 1).trans rfl; have hcz24_2 : w23.cell? ⟨gb129, 2, none⟩ = some (.string a0_2) := (blk_cell BK129.out 2).trans rfl; have hfz24_0 := blk_frozen BK129.out 0; have hfz24_1 := blk_frozen BK129.out 1; have hfz24_2 := blk_frozen BK129.out 2) | ((with_reducible refine gate_callee (f := 14) rfl ?_); refine gm_ (some 6) Tryd.func14 #[.int .i64 a0_1] ?_; (with_reducible refine (clock_Right.calls a0_1 false _ A2.out).mono ?_); rintro e w' ⟨rfl, ⟨nd, rfl⟩⟩; refine ⟨_, rfl, ?_⟩))
  go_ret
  exact ⟨by first | rfl | (simp [i64_w]; done) | (simp [errW_none, errW_some] <;> rfl) | (simp [*, errW_none, errW_some] <;> rfl), by repeat (first | (with_reducible first | exact HB.out | apply below_alloc | apply pw_below_drewN | apply below_drew1 | refine below_set ?_ GE129.out) | exact HB.out)⟩

end Go.Proofs.YtddoidcbpcmlaaaDoor.M
/- Plain laws of the Gregorian, Julian, Coptic and ISO calendars over whole numbers: no program in sight. -/
namespace Go.Proofs.YtddoidcbpcmlaaaDoor.Cal
open Go.RowKit
theorem w64 {x : Int} (h : -9223372036854775808 ≤ x) (h' : x ≤ 9223372036854775807) : wrap64 x = x := by
 unfold wrap64; omega

/-- Days of a year ahead of a month; l: 1 in a leap year. -/
def cum (l m : Int) : Int := (367 * m - 362) / 12 - (if m > 2 then 2 - l else 0)
/-- Days of a month. -/
def dim (l m : Int) : Int :=
 if m = 2 then 28 + l else if m = 4 ∨ m = 6 ∨ m = 9 ∨ m = 11 then 30 else if 1 ≤ m ∧ m ≤ 12 then 31 else 0
theorem months {m : Int} (h1 : 1 ≤ m) (h2 : m ≤ 12) : m = 1 ∨ m = 2 ∨ m = 3 ∨ m = 4 ∨ m = 5 ∨ m = 6 ∨ m = 7 ∨ m = 8 ∨ m = 9 ∨ m = 10 ∨ m = 11 ∨ m = 12 := by omega
theorem cum_one (l : Int) : cum l 1 = 0 := by unfold cum; simp
theorem cum_end (l : Int) : cum l 13 = 365 + l := by unfold cum; simp; omega
theorem cum_succ (l m : Int) (h1 : 1 ≤ m) (h2 : m ≤ 12) : cum l (m + 1) = cum l m + dim l m := by
 rcases months h1 h2 with h | h | h | h | h | h | h | h | h | h | h | h <;> subst h <;> simp [cum, dim] <;> omega
theorem dim_lo (l m : Int) (hl : l = 0 ∨ l = 1) (h1 : 1 ≤ m) (h2 : m ≤ 12) : 28 ≤ dim l m ∧ dim l m ≤ 31 := by
 rcases months h1 h2 with h | h | h | h | h | h | h | h | h | h | h | h <;> subst h <;> simp [dim] <;> omega
theorem cum_mono (l m : Int) (hl : l = 0 ∨ l = 1) (h1 : 1 ≤ m) : ∀ n : Nat, m + n ≤ 13 → cum l m + 28 * n ≤ cum l (m + n)
 | 0, _ => by simp
 | n + 1, h => by
  have h3 := cum_mono l m hl h1 n (by omega)
  have h4 := cum_succ l (m + n) (by omega) (by omega)
  have h5 := dim_lo l (m + n) hl (by omega) (by omega)
  have e : m + ((n + 1 : Nat) : Int) = m + n + 1 := by omega
  rw [e]; omega
theorem cum_le {l a b : Int} (hl : l = 0 ∨ l = 1) (h1 : 1 ≤ a) (h : a ≤ b) (h2 : b ≤ 13) : cum l a + 28 * (b - a) ≤ cum l b := by
 have := cum_mono l a hl h1 (b - a).toNat (by omega)
 have e : a + ((b - a).toNat : Int) = b := by omega
 rw [e] at this; omega
theorem cum_bd {l m : Int} (hl : l = 0 ∨ l = 1) (h1 : 1 ≤ m) (h2 : m ≤ 13) : 0 ≤ cum l m ∧ cum l m ≤ 366 := by
 have a := cum_le hl (by omega) h1 h2
 have b := cum_le hl h1 h2 (by omega)
 rw [cum_one] at a; rw [cum_end] at b; omega

/-- A date of a calendar with months as the Gregorian one has; b: days ahead of its years, l: leap years. -/
structure Is (b l : Int → Int) (y m d day : Int) : Prop where
 m1 : 1 ≤ m
 m2 : m ≤ 12
 d1 : 1 ≤ d
 d2 : d ≤ dim (l y) m
 e : day = b y + cum (l y) m + d
structure Cal (b l : Int → Int) : Prop where
 l01 : ∀ y, l y = 0 ∨ l y = 1
 succ : ∀ y, b (y + 1) = b y + 365 + l y
theorem Cal.le {b l : Int → Int} (c : Cal b l) {x y : Int} (h : x ≤ y) : b x + 365 * (y - x) ≤ b y := by
 have key : ∀ n : Nat, b x + 365 * n ≤ b (x + n) := by
  intro n
  induction n with
  | zero => simp
  | succ n ih =>
   have h1 := c.succ (x + n)
   have h2 := c.l01 (x + n)
   have e : x + ((n + 1 : Nat) : Int) = x + n + 1 := by omega
   rw [e]; omega
 have := key (y - x).toNat
 have e : x + ((y - x).toNat : Int) = y := by omega
 rw [e] at this; omega
theorem Is.year {b l : Int → Int} (c : Cal b l) {y m d day : Int} (h : Is b l y m d day) : b y < day ∧ day ≤ b (y + 1) := by
 have h1 := cum_bd (c.l01 y) h.m1 (by have := h.m2; omega)
 have h2 := cum_succ (l y) m h.m1 h.m2
 have h3 := cum_le (c.l01 y) (show 1 ≤ m + 1 by have := h.m1; omega) (show m + 1 ≤ 13 by have := h.m2; omega) (by omega)
 rw [cum_end] at h3
 have h4 := c.succ y
 have := h.d1; have := h.d2; have := h.e; have := h.m2
 omega
theorem year_one {b l : Int → Int} (c : Cal b l) {x y day : Int} (hx : b x < day) (hx' : day ≤ b (x + 1)) (hy : b y < day) (hy' : day ≤ b (y + 1)) : x = y := by
 by_cases h : x < y
 ·have := c.le (show x + 1 ≤ y by omega); omega
 ·by_cases h' : y < x
  ·have := c.le (show y + 1 ≤ x by omega); omega
  ·omega
theorem Is.one {b l : Int → Int} (c : Cal b l) {y m d y' m' d' day : Int} (h : Is b l y m d day) (h' : Is b l y' m' d' day) : y = y' ∧ m = m' ∧ d = d' := by
 have ey : y = y' := year_one c (h.year c).1 (h.year c).2 (h'.year c).1 (h'.year c).2
 subst ey
 have em : m = m' := by
  have := h.e; have := h'.e; have := h.d1; have := h'.d1; have := h.d2; have := h'.d2; have := h.m1; have := h.m2; have := h'.m1; have := h'.m2
  have s := cum_succ (l y) m h.m1 h.m2
  have s' := cum_succ (l y) m' h'.m1 h'.m2
  by_cases a : m < m'
  ·have := cum_le (c.l01 y) (show 1 ≤ m + 1 by omega) (show m + 1 ≤ m' by omega) (by omega); omega
  ·by_cases a' : m' < m
   ·have := cum_le (c.l01 y) (show 1 ≤ m' + 1 by omega) (show m' + 1 ≤ m by omega) (by omega); omega
   ·omega
 subst em
 have := h.e; have := h'.e
 exact ⟨rfl, rfl, by omega⟩
/-- Days ahead of a Coptic year. -/
def cb (y : Int) : Int := 103604 + 365 * (y - 1) + y / 4
/-- Days of a Coptic year's last month. -/
def lc (y : Int) : Int := if y % 4 = 3 then 6 else 5
theorem cb_succ (y : Int) : cb (y + 1) = cb y + 360 + lc y := by unfold cb lc; split <;> omega
theorem lc_56 (y : Int) : lc y = 5 ∨ lc y = 6 := by unfold lc; split <;> simp
structure IsC (y m d day : Int) : Prop where
 m1 : 1 ≤ m
 m2 : m ≤ 13
 d1 : 1 ≤ d
 d2 : d ≤ 30
 d3 : m = 13 → d ≤ lc y
 e : day = cb y + 30 * (m - 1) + d
theorem cb_le {x y : Int} (h : x ≤ y) : cb x + 365 * (y - x) ≤ cb y := by unfold cb; omega
theorem IsC.year {y m d day : Int} (h : IsC y m d day) : cb y < day ∧ day ≤ cb (y + 1) := by
 have := h.m1; have := h.m2; have := h.d1; have := h.d2; have := h.d3; have := h.e; have := cb_succ y; have := lc_56 y
 omega
theorem IsC.one {y m d y' m' d' day : Int} (h : IsC y m d day) (h' : IsC y' m' d' day) : y = y' ∧ m = m' ∧ d = d' := by
 have a := h.year; have a' := h'.year
 have ey : y = y' := by
  by_cases b : y < y'
  ·have := cb_le (show y + 1 ≤ y' by omega); omega
  ·by_cases b' : y' < y
   ·have := cb_le (show y' + 1 ≤ y by omega); omega
   ·omega
 subst ey
 have := h.e; have := h'.e; have := h.d1; have := h'.d1; have := h.d2; have := h'.d2
 exact ⟨rfl, by omega, by omega⟩
end Go.Proofs.YtddoidcbpcmlaaaDoor.Cal
