-- written by a program of this session (wip/own_print.sh)
import Derived.Test.YtddoidcbpcmlaaaQ0
namespace Go.Proofs.Ytddoidcbpcmlaaa.Q
open Go.RowKit Go.Proofs.YtddoidcbpcmlaaaW.PrintWords Go.Proofs.YtddoidcbpcmlaaaW.PrintLast Go.Proofs.YtddoidcbpcmlaaaW.PrintMore
attribute [local go_sem] max2_int min2_int max_two min_two max_three min_three max_four min_four   -- for this text's walks alone
set_option linter.unusedVariables false
set_option linter.unusedSimpArgs false

/-! ### event_Find: function 11 -/
def event_Find.l0 : Nat → ByteArray → List (S40) → Int → Int → Option (ByteArray × Int × Int × Bool × ByteArray × ByteArray × Bool)
  | 0, _, _, _, _ => none
  | k + 1, x1, x9, x10, x11 => if x11 < x10 then (if 0 ≤ x11 then (if x11 < (x9.length : Int) then (if ((rd_T40 x9 x11).f0).toList = x1.toList then (some ((rd_T40 x9 x11).f0, (rd_T40 x9 x11).f1, (rd_T40 x9 x11).f2, (rd_T40 x9 x11).f3, (rd_T40 x9 x11).f4, (rd_T40 x9 x11).f5, true)) else (event_Find.l0 k x1 x9 x10 (wrap64 (x11 + 1)))) else (none)) else (none)) else (some ((⟨#[]⟩ : ByteArray), 0, 0, false, (⟨#[]⟩ : ByteArray), (⟨#[]⟩ : ByteArray), false))
def event_Find.f (k : Nat) (a0_0 : ByteArray) (a0_1 : Int) (a0_2 : Int) (a0_3 : Int) (a0_4 : Int) (a0_5 : ByteArray) (a0_6 : Bool) (a0_7 : Int) (a0_8 : Int) (a0_9 : Int) (a0_10 : Int) (a0_11 : Int) (a0_12 : ByteArray) (a0_13 : Bool) (a0_14 : Int) (l0_15 : List Int) (l0_16 : List Int) (l0_17 : List Int) (l0_18 : List (S139)) (l0_19 : List Int) (l0_20 : List Int) (l0_21 : List Int) (l0_22 : List Int) (l0_23 : List Int) (l0_24 : List (S25)) (l0_25 : List (S25)) (a0_26 : Int) (a0_27 : ByteArray) (a0_28 : ByteArray) (a0_29 : Int) (a0_30 : ByteArray) (l0_31 : List (S40)) (a0_32 : Bool) (a0_33 : Int) (a0_34 : Int) (a0_35 : ByteArray) (a0_36 : Bool) (l0_37 : List (S55)) (a1 : ByteArray) : Option (ByteArray × Int × Int × Bool × ByteArray × ByteArray × Bool) := event_Find.l0 k a1 l0_31 (l0_31.length : Int) 0
theorem event_Find.mono_l : ∀ k, (∀ y0 y1 y2 y3, LeO (event_Find.l0 k y0 y1 y2 y3) (event_Find.l0 (k + 1) y0 y1 y2 y3))
  | 0 => fun _ _ _ _ r h => by simp [event_Find.l0] at h
  | k + 1 => by
    have ih0 := event_Find.mono_l k
    · intro y0 y1 y2 y3
      unfold event_Find.l0
      repeat' first
      | (with_reducible exact ih0 _ _ _ _)
      | (with_reducible exact LeO.refl _)
      | (with_reducible exact LeO.none _)
      | (with_reducible refine LeO.ite ?_ ?_)
      | (with_reducible refine LeO.bind ?_ (fun _ => ?_))
      | exact ih0 _ _ _ _
      | exact LeO.none _
      | refine LeO.ite ?_ ?_
      | refine LeO.bind ?_ (fun _ => ?_)
theorem event_Find.mono : ∀ a0 a1 a2 a3 a4 a5 a6 a7 a8 a9 a10 a11 a12 a13 a14 a15 a16 a17 a18 a19 a20 a21 a22 a23 a24 a25 a26 a27 a28 a29 a30 a31 a32 a33 a34 a35 a36 a37 a38 k, LeO (event_Find.f k a0 a1 a2 a3 a4 a5 a6 a7 a8 a9 a10 a11 a12 a13 a14 a15 a16 a17 a18 a19 a20 a21 a22 a23 a24 a25 a26 a27 a28 a29 a30 a31 a32 a33 a34 a35 a36 a37 a38) (event_Find.f (k + 1) a0 a1 a2 a3 a4 a5 a6 a7 a8 a9 a10 a11 a12 a13 a14 a15 a16 a17 a18 a19 a20 a21 a22 a23 a24 a25 a26 a27 a28 a29 a30 a31 a32 a33 a34 a35 a36 a37 a38) := by
  intro a0 a1 a2 a3 a4 a5 a6 a7 a8 a9 a10 a11 a12 a13 a14 a15 a16 a17 a18 a19 a20 a21 a22 a23 a24 a25 a26 a27 a28 a29 a30 a31 a32 a33 a34 a35 a36 a37 a38 k
  have ih0 := event_Find.mono_l k
  unfold event_Find.f
  repeat' first
      | (with_reducible exact ih0 _ _ _ _)
      | (with_reducible exact LeO.refl _)
      | (with_reducible exact LeO.none _)
      | (with_reducible refine LeO.ite ?_ ?_)
      | (with_reducible refine LeO.bind ?_ (fun _ => ?_))
      | exact ih0 _ _ _ _
      | exact LeO.none _
      | refine LeO.ite ?_ ?_
      | refine LeO.bind ?_ (fun _ => ?_)
set_option maxHeartbeats 8000000 in
set_option maxRecDepth 100000 in
theorem event_Find.calls (k : Nat) (a0_0 : ByteArray) (a0_1 : Int) (a0_2 : Int) (a0_3 : Int) (a0_4 : Int) (a0_5 : ByteArray) (a0_6 : Bool) (a0_7 : Int) (a0_8 : Int) (a0_9 : Int) (a0_10 : Int) (a0_11 : Int) (a0_12 : ByteArray) (a0_13 : Bool) (a0_14 : Int) (A0_15 : Option Addr) (c0_15 : Nat) (l0_15 : List Int) (A0_16 : Option Addr) (c0_16 : Nat) (l0_16 : List Int) (A0_17 : Option Addr) (c0_17 : Nat) (l0_17 : List Int) (A0_18 : Option Addr) (c0_18 : Nat) (l0_18 : List (S139)) (A0_19 : Option Addr) (c0_19 : Nat) (l0_19 : List Int) (A0_20 : Option Addr) (c0_20 : Nat) (l0_20 : List Int) (A0_21 : Option Addr) (c0_21 : Nat) (l0_21 : List Int) (A0_22 : Option Addr) (c0_22 : Nat) (l0_22 : List Int) (A0_23 : Option Addr) (c0_23 : Nat) (l0_23 : List Int) (A0_24 : Option Addr) (c0_24 : Nat) (l0_24 : List (S25)) (A0_25 : Option Addr) (c0_25 : Nat) (l0_25 : List (S25)) (a0_26 : Int) (a0_27 : ByteArray) (a0_28 : ByteArray) (a0_29 : Int) (a0_30 : ByteArray) (A0_31 : Option Addr) (c0_31 : Nat) (l0_31 : List (S40)) (a0_32 : Bool) (a0_33 : Int) (a0_34 : Int) (a0_35 : ByteArray) (a0_36 : Bool) (A0_37 : Option Addr) (c0_37 : Nat) (l0_37 : List (S55)) (a1 : ByteArray) (r1 : ByteArray) (r2 : Int) (r3 : Int) (r4 : Bool) (r5 : ByteArray) (r6 : ByteArray) (r7 : Bool) (w : World) (hr0_15 : Kd.C (Kd.int .i64) w A0_15 l0_15.length l0_15) (hc0_15 : l0_15.length ≤ c0_15) (hr0_16 : Kd.C (Kd.int .i64) w A0_16 l0_16.length l0_16) (hc0_16 : l0_16.length ≤ c0_16) (hr0_17 : Kd.C (Kd.int .i64) w A0_17 l0_17.length l0_17) (hc0_17 : l0_17.length ≤ c0_17) (hr0_18 : Kd.C k139 w A0_18 l0_18.length l0_18) (hc0_18 : l0_18.length ≤ c0_18) (hr0_19 : Kd.C (Kd.int .i64) w A0_19 l0_19.length l0_19) (hc0_19 : l0_19.length ≤ c0_19) (hr0_20 : Kd.C (Kd.int .i64) w A0_20 l0_20.length l0_20) (hc0_20 : l0_20.length ≤ c0_20) (hr0_21 : Kd.C (Kd.int .i64) w A0_21 l0_21.length l0_21) (hc0_21 : l0_21.length ≤ c0_21) (hr0_22 : Kd.C (Kd.int .i64) w A0_22 l0_22.length l0_22) (hc0_22 : l0_22.length ≤ c0_22) (hr0_23 : Kd.C (Kd.int .i64) w A0_23 l0_23.length l0_23) (hc0_23 : l0_23.length ≤ c0_23) (hr0_24 : Kd.C k25 w A0_24 l0_24.length l0_24) (hc0_24 : l0_24.length ≤ c0_24) (hr0_25 : Kd.C k25 w A0_25 l0_25.length l0_25) (hc0_25 : l0_25.length ≤ c0_25) (hr0_31 : Kd.C k40 w A0_31 l0_31.length l0_31) (hc0_31 : l0_31.length ≤ c0_31) (hr0_37 : Kd.C k55 w A0_37 l0_37.length l0_37) (hc0_37 : l0_37.length ≤ c0_37) (h : event_Find.f k a0_0 a0_1 a0_2 a0_3 a0_4 a0_5 a0_6 a0_7 a0_8 a0_9 a0_10 a0_11 a0_12 a0_13 a0_14 l0_15 l0_16 l0_17 l0_18 l0_19 l0_20 l0_21 l0_22 l0_23 l0_24 l0_25 a0_26 a0_27 a0_28 a0_29 a0_30 l0_31 a0_32 a0_33 a0_34 a0_35 a0_36 l0_37 a1 = some (r1, r2, r3, r4, r5, r6, r7)) :
    Calls Try.prog 11 #[.agg #[.string a0_0, .int .i64 a0_1, .int .i64 a0_2, .int .i64 a0_3, .int .i64 a0_4, .string a0_5, .bool a0_6, .int .i64 a0_7, .int .i64 a0_8, .int .i64 a0_9, .int .i64 a0_10, .int .i64 a0_11, .string a0_12, .bool a0_13, .int .i64 a0_14, .slice A0_15 l0_15.length c0_15, .slice A0_16 l0_16.length c0_16, .slice A0_17 l0_17.length c0_17, .slice A0_18 l0_18.length c0_18, .slice A0_19 l0_19.length c0_19, .slice A0_20 l0_20.length c0_20, .slice A0_21 l0_21.length c0_21, .slice A0_22 l0_22.length c0_22, .slice A0_23 l0_23.length c0_23, .slice A0_24 l0_24.length c0_24, .slice A0_25 l0_25.length c0_25, .int .i64 a0_26, .string a0_27, .string a0_28, .int .i64 a0_29, .string a0_30, .slice A0_31 l0_31.length c0_31, .bool a0_32, .int .i64 a0_33, .int .i64 a0_34, .string a0_35, .bool a0_36, .slice A0_37 l0_37.length c0_37], .string a1] w fun e w' => e = .returned (.tuple #[.agg #[.string r1, .int .i64 r2, .int .i64 r3, .bool r4, .string r5, .string r6], .bool r7]) ∧ Below w.heap.size w w' := by
  have hu36 := Try.underlying36
  have hu40 := Try.underlying40
  have HR0_15 := Aside0.mk hr0_15
  have HC0_15 := Aside0.mk hc0_15
  clear hr0_15 hc0_15
  have HR0_16 := Aside0.mk hr0_16
  have HC0_16 := Aside0.mk hc0_16
  clear hr0_16 hc0_16
  have HR0_17 := Aside0.mk hr0_17
  have HC0_17 := Aside0.mk hc0_17
  clear hr0_17 hc0_17
  have HR0_18 := Aside0.mk hr0_18
  have HC0_18 := Aside0.mk hc0_18
  clear hr0_18 hc0_18
  have HR0_19 := Aside0.mk hr0_19
  have HC0_19 := Aside0.mk hc0_19
  clear hr0_19 hc0_19
  have HR0_20 := Aside0.mk hr0_20
  have HC0_20 := Aside0.mk hc0_20
  clear hr0_20 hc0_20
  have HR0_21 := Aside0.mk hr0_21
  have HC0_21 := Aside0.mk hc0_21
  clear hr0_21 hc0_21
  have HR0_22 := Aside0.mk hr0_22
  have HC0_22 := Aside0.mk hc0_22
  clear hr0_22 hc0_22
  have HR0_23 := Aside0.mk hr0_23
  have HC0_23 := Aside0.mk hc0_23
  clear hr0_23 hc0_23
  have HR0_24 := Aside0.mk hr0_24
  have HC0_24 := Aside0.mk hc0_24
  clear hr0_24 hc0_24
  have HR0_25 := Aside0.mk hr0_25
  have HC0_25 := Aside0.mk hc0_25
  clear hr0_25 hc0_25
  have HR0_31 := Aside0.mk hr0_31
  have HC0_31 := Aside0.mk hc0_31
  clear hr0_31 hc0_31
  have HR0_37 := Aside0.mk hr0_37
  have HC0_37 := Aside0.mk hc0_37
  clear hr0_37 hc0_37
  have HB := Aside0.mk (Below.refl w.heap.size w)
  have H : (event_Find.l0 k a1 l0_31 (l0_31.length : Int) 0) = some (r1, r2, r3, r4, r5, r6, r7) := h
  clear h
  have H' := Aside0.mk H
  clear H
  go_enter Try.func11, Try.ntmps11
  go_wp2_with (first | ((with_reducible refine gate_dst (N := 2) rfl ?_); refine box_event ?hg (N := 2) ?hd (cs := #[.string a0_0, .int .i64 a0_1, .int .i64 a0_2, .int .i64 a0_3, .int .i64 a0_4, .string a0_5, .bool a0_6, .int .i64 a0_7, .int .i64 a0_8, .int .i64 a0_9, .int .i64 a0_10, .int .i64 a0_11, .string a0_12, .bool a0_13, .int .i64 a0_14, .slice A0_15 l0_15.length c0_15, .slice A0_16 l0_16.length c0_16, .slice A0_17 l0_17.length c0_17, .slice A0_18 l0_18.length c0_18, .slice A0_19 l0_19.length c0_19, .slice A0_20 l0_20.length c0_20, .slice A0_21 l0_21.length c0_21, .slice A0_22 l0_22.length c0_22, .slice A0_23 l0_23.length c0_23, .slice A0_24 l0_24.length c0_24, .slice A0_25 l0_25.length c0_25, .int .i64 a0_26, .string a0_27, .string a0_28, .int .i64 a0_29, .string a0_30, .slice A0_31 l0_31.length c0_31, .bool a0_32, .int .i64 a0_33, .int .i64 a0_34, .string a0_35, .bool a0_36, .slice A0_37 l0_37.length c0_37]) (t := 36) ?hr ?_; (case hd => rfl); (case hg => rfl); (case hr => first | (go_simp; done) | (go_simp; rfl)); intro gb113 hg w3 hbox hb; have n0_ := Aside0.mk (below_step (by repeat (first | (with_reducible first | exact HB.out | apply below_alloc | apply pw_below_drewN | apply below_drew1) | exact HB.out)) hb); have n1_ := Aside0.mk (hbox); have n2_ := Aside0.mk ((by rw [hg]; exact (below_size (by repeat (first | (with_reducible first | exact HB.out | apply below_alloc | apply pw_below_drewN | apply below_drew1) | exact HB.out))) : w.heap.size ≤ gb113)); have n3_ := Aside0.mk ((by rw [hg]; exact (below_size (by repeat (first | (with_reducible first | exact HB.out | apply below_alloc | apply pw_below_drewN | apply below_drew1) | exact HB.out))) : w.heap.size ≤ gb113)); clear HB; have HB := n0_; have BK113 := n1_; have GW113 := n2_; have GE113 := n3_; clear n0_ n1_ n2_ n3_; clear hb hbox hg) | ((with_reducible refine gate_dst (N := 4) rfl ?_); refine box_event ?hg (N := 4) ?hd (cs := #[.string (⟨#[]⟩ : ByteArray), .int .i64 0, .int .i64 0, .bool false, .string (⟨#[]⟩ : ByteArray), .string (⟨#[]⟩ : ByteArray)]) (t := 40) ?hr ?_; (case hd => rfl); (case hg => rfl); (case hr => first | (go_simp; done) | (go_simp; rfl)); intro gb114 hg w4 hbox hb; have n0_ := Aside0.mk (blk_below (g := gb113) (o := .cells #[.string a0_0, .int .i64 a0_1, .int .i64 a0_2, .int .i64 a0_3, .int .i64 a0_4, .string a0_5, .bool a0_6, .int .i64 a0_7, .int .i64 a0_8, .int .i64 a0_9, .int .i64 a0_10, .int .i64 a0_11, .string a0_12, .bool a0_13, .int .i64 a0_14, .slice A0_15 l0_15.length c0_15, .slice A0_16 l0_16.length c0_16, .slice A0_17 l0_17.length c0_17, .slice A0_18 l0_18.length c0_18, .slice A0_19 l0_19.length c0_19, .slice A0_20 l0_20.length c0_20, .slice A0_21 l0_21.length c0_21, .slice A0_22 l0_22.length c0_22, .slice A0_23 l0_23.length c0_23, .slice A0_24 l0_24.length c0_24, .slice A0_25 l0_25.length c0_25, .int .i64 a0_26, .string a0_27, .string a0_28, .int .i64 a0_29, .string a0_30, .slice A0_31 l0_31.length c0_31, .bool a0_32, .int .i64 a0_33, .int .i64 a0_34, .string a0_35, .bool a0_36, .slice A0_37 l0_37.length c0_37] 36 (0, 0)) (by (with_reducible repeat (first | refine blk_drewN ?_ _ | refine blk_drew ?_ | refine blk_alloc ?_ _)); exact BK113.out) hb); have n1_ := Aside0.mk (below_step (by repeat (first | (with_reducible first | exact HB.out | apply below_alloc | apply pw_below_drewN | apply below_drew1 | refine below_set ?_ GE113.out) | exact HB.out)) hb); have n2_ := Aside0.mk (hbox); have n3_ := Aside0.mk ((by rw [hg]; exact (below_size (by repeat (first | (with_reducible first | exact HB.out | apply below_alloc | apply pw_below_drewN | apply below_drew1 | refine below_set ?_ GE113.out) | exact HB.out))) : w.heap.size ≤ gb114)); have n4_ := Aside0.mk ((by rw [hg]; exact (below_size (by repeat (first | (with_reducible first | exact HB.out | apply below_alloc | apply pw_below_drewN | apply below_drew1 | refine below_set ?_ GE113.out) | exact HB.out))) : w.heap.size ≤ gb114)); have n5_ := Aside0.mk ((by rw [hg]; exact Nat.ne_of_lt (blk_lt (g := gb113) (o := .cells #[.string a0_0, .int .i64 a0_1, .int .i64 a0_2, .int .i64 a0_3, .int .i64 a0_4, .string a0_5, .bool a0_6, .int .i64 a0_7, .int .i64 a0_8, .int .i64 a0_9, .int .i64 a0_10, .int .i64 a0_11, .string a0_12, .bool a0_13, .int .i64 a0_14, .slice A0_15 l0_15.length c0_15, .slice A0_16 l0_16.length c0_16, .slice A0_17 l0_17.length c0_17, .slice A0_18 l0_18.length c0_18, .slice A0_19 l0_19.length c0_19, .slice A0_20 l0_20.length c0_20, .slice A0_21 l0_21.length c0_21, .slice A0_22 l0_22.length c0_22, .slice A0_23 l0_23.length c0_23, .slice A0_24 l0_24.length c0_24, .slice A0_25 l0_25.length c0_25, .int .i64 a0_26, .string a0_27, .string a0_28, .int .i64 a0_29, .string a0_30, .slice A0_31 l0_31.length c0_31, .bool a0_32, .int .i64 a0_33, .int .i64 a0_34, .string a0_35, .bool a0_36, .slice A0_37 l0_37.length c0_37] 36 (0, 0)) (by (with_reducible repeat (first | refine blk_drewN ?_ _ | refine blk_drew ?_ | refine blk_alloc ?_ _)); exact BK113.out)) : gb113 ≠ gb114)); have n6_ := Aside0.mk ((by rw [hg]; exact Nat.ne_of_gt (blk_lt (g := gb113) (o := .cells #[.string a0_0, .int .i64 a0_1, .int .i64 a0_2, .int .i64 a0_3, .int .i64 a0_4, .string a0_5, .bool a0_6, .int .i64 a0_7, .int .i64 a0_8, .int .i64 a0_9, .int .i64 a0_10, .int .i64 a0_11, .string a0_12, .bool a0_13, .int .i64 a0_14, .slice A0_15 l0_15.length c0_15, .slice A0_16 l0_16.length c0_16, .slice A0_17 l0_17.length c0_17, .slice A0_18 l0_18.length c0_18, .slice A0_19 l0_19.length c0_19, .slice A0_20 l0_20.length c0_20, .slice A0_21 l0_21.length c0_21, .slice A0_22 l0_22.length c0_22, .slice A0_23 l0_23.length c0_23, .slice A0_24 l0_24.length c0_24, .slice A0_25 l0_25.length c0_25, .int .i64 a0_26, .string a0_27, .string a0_28, .int .i64 a0_29, .string a0_30, .slice A0_31 l0_31.length c0_31, .bool a0_32, .int .i64 a0_33, .int .i64 a0_34, .string a0_35, .bool a0_36, .slice A0_37 l0_37.length c0_37] 36 (0, 0)) (by (with_reducible repeat (first | refine blk_drewN ?_ _ | refine blk_drew ?_ | refine blk_alloc ?_ _)); exact BK113.out)) : gb114 ≠ gb113)); clear BK113; clear HB; have BK113 := n0_; have HB := n1_; have BK114 := n2_; have GW114 := n3_; have GE114 := n4_; have NB113_114 := n5_; have NB114_113 := n6_; clear n0_ n1_ n2_ n3_ n4_ n5_ n6_; clear hb hbox hg; have hnb5 := NB113_114.out; have hnc5 := NB114_113.out; have hcz6_0 : w4.cell? ⟨gb113, 0, none⟩ = some (.string a0_0) := (blk_cell BK113.out 0).trans rfl; have hcz6_1 : w4.cell? ⟨gb113, 1, none⟩ = some (.int .i64 a0_1) := (blk_cell BK113.out 1).trans rfl; have hcz6_2 : w4.cell? ⟨gb113, 2, none⟩ = some (.int .i64 a0_2) := (blk_cell BK113.out 2).trans rfl; have hcz6_3 : w4.cell? ⟨gb113, 3, none⟩ = some (.int .i64 a0_3) := (blk_cell BK113.out 3).trans rfl; have hcz6_4 : w4.cell? ⟨gb113, 4, none⟩ = some (.int .i64 a0_4) := (blk_cell BK113.out 4).trans rfl; have hcz6_5 : w4.cell? ⟨gb113, 5, none⟩ = some (.string a0_5) := (blk_cell BK113.out 5).trans rfl; have hcz6_6 : w4.cell? ⟨gb113, 6, none⟩ = some (.bool a0_6) := (blk_cell BK113.out 6).trans rfl; have hcz6_7 : w4.cell? ⟨gb113, 7, none⟩ = some (.int .i64 a0_7) := (blk_cell BK113.out 7).trans rfl; have hcz6_8 : w4.cell? ⟨gb113, 8, none⟩ = some (.int .i64 a0_8) := (blk_cell BK113.out 8).trans rfl; have hcz6_9 : w4.cell? ⟨gb113, 9, none⟩ = some (.int .i64 a0_9) := (blk_cell BK113.out 9).trans rfl; have hcz6_10 : w4.cell? ⟨gb113, 10, none⟩ = some (.int .i64 a0_10) := (blk_cell BK113.out 10).trans rfl; have hcz6_11 : w4.cell? ⟨gb113, 11, none⟩ = some (.int .i64 a0_11) := (blk_cell BK113.out 11).trans rfl; have hcz6_12 : w4.cell? ⟨gb113, 12, none⟩ = some (.string a0_12) := (blk_cell BK113.out 12).trans rfl; have hcz6_13 : w4.cell? ⟨gb113, 13, none⟩ = some (.bool a0_13) := (blk_cell BK113.out 13).trans rfl; have hcz6_14 : w4.cell? ⟨gb113, 14, none⟩ = some (.int .i64 a0_14) := (blk_cell BK113.out 14).trans rfl; have hcz6_15 : w4.cell? ⟨gb113, 15, none⟩ = some (.slice A0_15 l0_15.length c0_15) := (blk_cell BK113.out 15).trans rfl; have hcz6_16 : w4.cell? ⟨gb113, 16, none⟩ = some (.slice A0_16 l0_16.length c0_16) := (blk_cell BK113.out 16).trans rfl; have hcz6_17 : w4.cell? ⟨gb113, 17, none⟩ = some (.slice A0_17 l0_17.length c0_17) := (blk_cell BK113.out 17).trans rfl; have hcz6_18 : w4.cell? ⟨gb113, 18, none⟩ = some (.slice A0_18 l0_18.length c0_18) := (blk_cell BK113.out 18).trans rfl; have hcz6_19 : w4.cell? ⟨gb113, 19, none⟩ = some (.slice A0_19 l0_19.length c0_19) := (blk_cell BK113.out 19).trans rfl; have hcz6_20 : w4.cell? ⟨gb113, 20, none⟩ = some (.slice A0_20 l0_20.length c0_20) := (blk_cell BK113.out 20).trans rfl; have hcz6_21 : w4.cell? ⟨gb113, 21, none⟩ = some (.slice A0_21 l0_21.length c0_21) := (blk_cell BK113.out 21).trans rfl; have hcz6_22 : w4.cell? ⟨gb113, 22, none⟩ = some (.slice A0_22 l0_22.length c0_22) := (blk_cell BK113.out 22).trans rfl; have hcz6_23 : w4.cell? ⟨gb113, 23, none⟩ = some (.slice A0_23 l0_23.length c0_23) := (blk_cell BK113.out 23).trans rfl; have hcz6_24 : w4.cell? ⟨gb113, 24, none⟩ = some (.slice A0_24 l0_24.length c0_24) := (blk_cell BK113.out 24).trans rfl; have hcz6_25 : w4.cell? ⟨gb113, 25, none⟩ = some (.slice A0_25 l0_25.length c0_25) := (blk_cell BK113.out 25).trans rfl; have hcz6_26 : w4.cell? ⟨gb113, 26, none⟩ = some (.int .i64 a0_26) := (blk_cell BK113.out 26).trans rfl; have hcz6_27 : w4.cell? ⟨gb113, 27, none⟩ = some (.string a0_27) := (blk_cell BK113.out 27).trans rfl; have hcz6_28 : w4.cell? ⟨gb113, 28, none⟩ = some (.string a0_28) := (blk_cell BK113.out 28).trans rfl; have hcz6_29 : w4.cell? ⟨gb113, 29, none⟩ = some (.int .i64 a0_29) := (blk_cell BK113.out 29).trans rfl; have hcz6_30 : w4.cell? ⟨gb113, 30, none⟩ = some (.string a0_30) := (blk_cell BK113.out 30).trans rfl; have hcz6_31 : w4.cell? ⟨gb113, 31, none⟩ = some (.slice A0_31 l0_31.length c0_31) := (blk_cell BK113.out 31).trans rfl; have hcz6_32 : w4.cell? ⟨gb113, 32, none⟩ = some (.bool a0_32) := (blk_cell BK113.out 32).trans rfl; have hcz6_33 : w4.cell? ⟨gb113, 33, none⟩ = some (.int .i64 a0_33) := (blk_cell BK113.out 33).trans rfl; have hcz6_34 : w4.cell? ⟨gb113, 34, none⟩ = some (.int .i64 a0_34) := (blk_cell BK113.out 34).trans rfl; have hcz6_35 : w4.cell? ⟨gb113, 35, none⟩ = some (.string a0_35) := (blk_cell BK113.out 35).trans rfl; have hcz6_36 : w4.cell? ⟨gb113, 36, none⟩ = some (.bool a0_36) := (blk_cell BK113.out 36).trans rfl; have hcz6_37 : w4.cell? ⟨gb113, 37, none⟩ = some (.slice A0_37 l0_37.length c0_37) := (blk_cell BK113.out 37).trans rfl; have hfz6_0 := blk_frozen BK113.out 0; have hfz6_1 := blk_frozen BK113.out 1; have hfz6_2 := blk_frozen BK113.out 2; have hfz6_3 := blk_frozen BK113.out 3; have hfz6_4 := blk_frozen BK113.out 4; have hfz6_5 := blk_frozen BK113.out 5; have hfz6_6 := blk_frozen BK113.out 6; have hfz6_7 := blk_frozen BK113.out 7; have hfz6_8 := blk_frozen BK113.out 8; have hfz6_9 := blk_frozen BK113.out 9; have hfz6_10 := blk_frozen BK113.out 10; have hfz6_11 := blk_frozen BK113.out 11; have hfz6_12 := blk_frozen BK113.out 12; have hfz6_13 := blk_frozen BK113.out 13; have hfz6_14 := blk_frozen BK113.out 14; have hfz6_15 := blk_frozen BK113.out 15; have hfz6_16 := blk_frozen BK113.out 16; have hfz6_17 := blk_frozen BK113.out 17; have hfz6_18 := blk_frozen BK113.out 18; have hfz6_19 := blk_frozen BK113.out 19; have hfz6_20 := blk_frozen BK113.out 20; have hfz6_21 := blk_frozen BK113.out 21; have hfz6_22 := blk_frozen BK113.out 22; have hfz6_23 := blk_frozen BK113.out 23; have hfz6_24 := blk_frozen BK113.out 24; have hfz6_25 := blk_frozen BK113.out 25; have hfz6_26 := blk_frozen BK113.out 26; have hfz6_27 := blk_frozen BK113.out 27; have hfz6_28 := blk_frozen BK113.out 28; have hfz6_29 := blk_frozen BK113.out 29; have hfz6_30 := blk_frozen BK113.out 30; have hfz6_31 := blk_frozen BK113.out 31; have hfz6_32 := blk_frozen BK113.out 32; have hfz6_33 := blk_frozen BK113.out 33; have hfz6_34 := blk_frozen BK113.out 34; have hfz6_35 := blk_frozen BK113.out 35; have hfz6_36 := blk_frozen BK113.out 36; have hfz6_37 := blk_frozen BK113.out 37))
  go_loopg [11] k (fun kq v11 w' => ∃ (x11_1 : Int) (x115000_1 : ByteArray) (x115001_1 : Int) (x115002_1 : Int) (x115003_1 : Bool) (x115004_1 : ByteArray) (x115005_1 : ByteArray), v11 = .int .i64 x11_1 ∧ Aside0 (event_Find.l0 kq a1 l0_31 (l0_31.length : Int) x11_1 = some (r1, r2, r3, r4, r5, r6, r7)) ∧ Aside0 (kq ≤ k) ∧ Aside0 (w'.heap[gb113]? = some (.cells #[.string a0_0, .int .i64 a0_1, .int .i64 a0_2, .int .i64 a0_3, .int .i64 a0_4, .string a0_5, .bool a0_6, .int .i64 a0_7, .int .i64 a0_8, .int .i64 a0_9, .int .i64 a0_10, .int .i64 a0_11, .string a0_12, .bool a0_13, .int .i64 a0_14, (.slice A0_15 l0_15.length c0_15), (.slice A0_16 l0_16.length c0_16), (.slice A0_17 l0_17.length c0_17), (.slice A0_18 l0_18.length c0_18), (.slice A0_19 l0_19.length c0_19), (.slice A0_20 l0_20.length c0_20), (.slice A0_21 l0_21.length c0_21), (.slice A0_22 l0_22.length c0_22), (.slice A0_23 l0_23.length c0_23), (.slice A0_24 l0_24.length c0_24), (.slice A0_25 l0_25.length c0_25), .int .i64 a0_26, .string a0_27, .string a0_28, .int .i64 a0_29, .string a0_30, (.slice A0_31 l0_31.length c0_31), .bool a0_32, .int .i64 a0_33, .int .i64 a0_34, .string a0_35, .bool a0_36, (.slice A0_37 l0_37.length c0_37)] 36 (0, 0))) ∧ Aside0 (w'.heap[gb114]? = some (.cells #[.string x115000_1, .int .i64 x115001_1, .int .i64 x115002_1, .bool x115003_1, .string x115004_1, .string x115005_1] 40 (0, 0))) ∧ Aside0 (Below w.heap.size w w'))
  case atStart => exact ⟨(0), ((⟨#[]⟩ : ByteArray)), (0), (0), (false), ((⟨#[]⟩ : ByteArray)), ((⟨#[]⟩ : ByteArray)), (by first | rfl | (simp; done) | (simp [*]; done)), H', ⟨Nat.le_refl _⟩, ⟨by (with_reducible repeat (first | refine blk_drewN ?_ _ | refine blk_drew ?_ | refine blk_alloc ?_ _)); exact BK113.out⟩, ⟨by (with_reducible repeat (first | refine blk_drewN ?_ _ | refine blk_drew ?_ | refine blk_alloc ?_ _)); exact BK114.out⟩, ⟨by repeat (first | (with_reducible first | exact HB.out | apply below_alloc | apply pw_below_drewN | apply below_drew1 | refine below_set ?_ GE113.out | refine below_set ?_ GE114.out) | exact HB.out)⟩⟩
  case round =>
    clear H'
    try clear c1
    try clear p2
    try clear c5
    try clear hcz6_0
    try clear hcz6_1
    try clear hcz6_10
    try clear hcz6_11
    try clear hcz6_12
    try clear hcz6_13
    try clear hcz6_14
    try clear hcz6_15
    try clear hcz6_16
    try clear hcz6_17
    try clear hcz6_18
    try clear hcz6_19
    try clear hcz6_2
    try clear hcz6_20
    try clear hcz6_21
    try clear hcz6_22
    try clear hcz6_23
    try clear hcz6_24
    try clear hcz6_25
    try clear hcz6_26
    try clear hcz6_27
    try clear hcz6_28
    try clear hcz6_29
    try clear hcz6_3
    try clear hcz6_30
    try clear hcz6_31
    try clear hcz6_32
    try clear hcz6_33
    try clear hcz6_34
    try clear hcz6_35
    try clear hcz6_36
    try clear hcz6_37
    try clear hcz6_4
    try clear hcz6_5
    try clear hcz6_6
    try clear hcz6_7
    try clear hcz6_8
    try clear hcz6_9
    try clear hfz6_0
    try clear hfz6_1
    try clear hfz6_10
    try clear hfz6_11
    try clear hfz6_12
    try clear hfz6_13
    try clear hfz6_14
    try clear hfz6_15
    try clear hfz6_16
    try clear hfz6_17
    try clear hfz6_18
    try clear hfz6_19
    try clear hfz6_2
    try clear hfz6_20
    try clear hfz6_21
    try clear hfz6_22
    try clear hfz6_23
    try clear hfz6_24
    try clear hfz6_25
    try clear hfz6_26
    try clear hfz6_27
    try clear hfz6_28
    try clear hfz6_29
    try clear hfz6_3
    try clear hfz6_30
    try clear hfz6_31
    try clear hfz6_32
    try clear hfz6_33
    try clear hfz6_34
    try clear hfz6_35
    try clear hfz6_36
    try clear hfz6_37
    try clear hfz6_4
    try clear hfz6_5
    try clear hfz6_6
    try clear hfz6_7
    try clear hfz6_8
    try clear hfz6_9
    obtain ⟨x11_1, x115000_1, x115001_1, x115002_1, x115003_1, x115004_1, x115005_1, rfl, HA, HK1, BK113, BK114, HB⟩ := hrel
    cases gk with
    | zero => exact absurd HA.out (by simp [event_Find.l0])
    | succ k1 =>
      have H := HA.out
      clear HA
      simp only [event_Find.l0] at H
      by_cases c7 : x11_1 < (l0_31.length : Int)
      · rw [if_pos c7] at H
        have c7b0 : decide (x11_1 < (l0_31.length : Int)) = true := decide_eq_true c7
        clear c7
        by_cases c8 : 0 ≤ x11_1
        · rw [if_pos c8] at H
          have c8b0 : decide (0 ≤ x11_1) = true := decide_eq_true c8
          clear c8
          by_cases c9 : x11_1 < (l0_31.length : Int)
          · rw [if_pos c9] at H
            have c9b0 : decide (x11_1 < (l0_31.length : Int)) = true := decide_eq_true c9
            clear c9
            by_cases c10 : ((rd_T40 l0_31 x11_1).f0).toList = a1.toList
            · rw [if_pos c10] at H
              have c10b0 : (((rd_T40 l0_31 x11_1).f0).toList == a1.toList) = true := beq_iff_eq.mpr c10
              have c10b1 : (((rd_T40 l0_31 x11_1).f0).toList != a1.toList) = false := bne_eq_false_iff_eq.mpr c10
              clear c10
              simp only [Option.some.injEq, Prod.mk.injEq] at H
              obtain ⟨rfl, rfl, rfl, rfl, rfl, rfl, rfl⟩ := H
              have p115 : 0 ≤ (x11_1 : Int) := of_decide_eq_true (by first | (with_reducible assumption) | assumption)
              have q115 : x11_1 < (l0_31.length : Int) := of_decide_eq_true (by first | (with_reducible assumption) | assumption)
              obtain ⟨ad115, e115, hx115_0, hx115_1, hx115_2, hx115_3, hx115_4, hx115_5⟩ := at_T40 HR0_31.out x11_1 p115 q115
              cases e115
              replace hx115_0 := (HB.out.cell (World.block_lt_of_cell? w _ hx115_0)).trans hx115_0
              replace hx115_1 := (HB.out.cell (World.block_lt_of_cell? w _ hx115_1)).trans hx115_1
              replace hx115_2 := (HB.out.cell (World.block_lt_of_cell? w _ hx115_2)).trans hx115_2
              replace hx115_3 := (HB.out.cell (World.block_lt_of_cell? w _ hx115_3)).trans hx115_3
              replace hx115_4 := (HB.out.cell (World.block_lt_of_cell? w _ hx115_4)).trans hx115_4
              replace hx115_5 := (HB.out.cell (World.block_lt_of_cell? w _ hx115_5)).trans hx115_5
              replace p115 := eq_true p115
              replace q115 := eq_true q115
              go_wp2_with (first | ((with_reducible refine gate_dst (N := 7) rfl ?_); refine box_event ?hg (N := 7) ?hd (cs := #[.string (⟨#[]⟩ : ByteArray), .int .i64 0, .int .i64 0, .bool false, .string (⟨#[]⟩ : ByteArray), .string (⟨#[]⟩ : ByteArray)]) (t := 40) ?hr ?_; (case hd => rfl); (case hg => rfl); (case hr => first | (go_simp; done) | (go_simp; rfl)); intro gb116 hg w11 hbox hb; have n0_ := Aside0.mk (blk_below (g := gb113) (o := .cells #[.string a0_0, .int .i64 a0_1, .int .i64 a0_2, .int .i64 a0_3, .int .i64 a0_4, .string a0_5, .bool a0_6, .int .i64 a0_7, .int .i64 a0_8, .int .i64 a0_9, .int .i64 a0_10, .int .i64 a0_11, .string a0_12, .bool a0_13, .int .i64 a0_14, .slice A0_15 l0_15.length c0_15, .slice A0_16 l0_16.length c0_16, .slice A0_17 l0_17.length c0_17, .slice A0_18 l0_18.length c0_18, .slice A0_19 l0_19.length c0_19, .slice A0_20 l0_20.length c0_20, .slice A0_21 l0_21.length c0_21, .slice A0_22 l0_22.length c0_22, .slice A0_23 l0_23.length c0_23, .slice A0_24 l0_24.length c0_24, .slice A0_25 l0_25.length c0_25, .int .i64 a0_26, .string a0_27, .string a0_28, .int .i64 a0_29, .string a0_30, .slice (some ad115) l0_31.length c0_31, .bool a0_32, .int .i64 a0_33, .int .i64 a0_34, .string a0_35, .bool a0_36, .slice A0_37 l0_37.length c0_37] 36 (0, 0)) (by (with_reducible repeat (first | refine blk_drewN ?_ _ | refine blk_drew ?_ | refine blk_alloc ?_ _)); exact BK113.out) hb); have n1_ := Aside0.mk (blk_below (g := gb114) (o := .cells #[.string x115000_1, .int .i64 x115001_1, .int .i64 x115002_1, .bool x115003_1, .string x115004_1, .string x115005_1] 40 (0, 0)) (by (with_reducible repeat (first | refine blk_drewN ?_ _ | refine blk_drew ?_ | refine blk_alloc ?_ _)); exact BK114.out) hb); have n2_ := Aside0.mk (below_step (by repeat (first | (with_reducible first | exact HB.out | apply below_alloc | apply pw_below_drewN | apply below_drew1 | refine below_set ?_ GE113.out | refine below_set ?_ GE114.out) | exact HB.out)) hb); have n3_ := Aside0.mk (hbox); have n4_ := Aside0.mk ((by rw [hg]; exact (below_size (by repeat (first | (with_reducible first | exact HB.out | apply below_alloc | apply pw_below_drewN | apply below_drew1 | refine below_set ?_ GE113.out | refine below_set ?_ GE114.out) | exact HB.out))) : w.heap.size ≤ gb116)); have n5_ := Aside0.mk ((by rw [hg]; exact (below_size (by repeat (first | (with_reducible first | exact HB.out | apply below_alloc | apply pw_below_drewN | apply below_drew1 | refine below_set ?_ GE113.out | refine below_set ?_ GE114.out) | exact HB.out))) : w.heap.size ≤ gb116)); have n6_ := Aside0.mk ((by rw [hg]; exact Nat.ne_of_lt (blk_lt (g := gb113) (o := .cells #[.string a0_0, .int .i64 a0_1, .int .i64 a0_2, .int .i64 a0_3, .int .i64 a0_4, .string a0_5, .bool a0_6, .int .i64 a0_7, .int .i64 a0_8, .int .i64 a0_9, .int .i64 a0_10, .int .i64 a0_11, .string a0_12, .bool a0_13, .int .i64 a0_14, .slice A0_15 l0_15.length c0_15, .slice A0_16 l0_16.length c0_16, .slice A0_17 l0_17.length c0_17, .slice A0_18 l0_18.length c0_18, .slice A0_19 l0_19.length c0_19, .slice A0_20 l0_20.length c0_20, .slice A0_21 l0_21.length c0_21, .slice A0_22 l0_22.length c0_22, .slice A0_23 l0_23.length c0_23, .slice A0_24 l0_24.length c0_24, .slice A0_25 l0_25.length c0_25, .int .i64 a0_26, .string a0_27, .string a0_28, .int .i64 a0_29, .string a0_30, .slice (some ad115) l0_31.length c0_31, .bool a0_32, .int .i64 a0_33, .int .i64 a0_34, .string a0_35, .bool a0_36, .slice A0_37 l0_37.length c0_37] 36 (0, 0)) (by (with_reducible repeat (first | refine blk_drewN ?_ _ | refine blk_drew ?_ | refine blk_alloc ?_ _)); exact BK113.out)) : gb113 ≠ gb116)); have n7_ := Aside0.mk ((by rw [hg]; exact Nat.ne_of_gt (blk_lt (g := gb113) (o := .cells #[.string a0_0, .int .i64 a0_1, .int .i64 a0_2, .int .i64 a0_3, .int .i64 a0_4, .string a0_5, .bool a0_6, .int .i64 a0_7, .int .i64 a0_8, .int .i64 a0_9, .int .i64 a0_10, .int .i64 a0_11, .string a0_12, .bool a0_13, .int .i64 a0_14, .slice A0_15 l0_15.length c0_15, .slice A0_16 l0_16.length c0_16, .slice A0_17 l0_17.length c0_17, .slice A0_18 l0_18.length c0_18, .slice A0_19 l0_19.length c0_19, .slice A0_20 l0_20.length c0_20, .slice A0_21 l0_21.length c0_21, .slice A0_22 l0_22.length c0_22, .slice A0_23 l0_23.length c0_23, .slice A0_24 l0_24.length c0_24, .slice A0_25 l0_25.length c0_25, .int .i64 a0_26, .string a0_27, .string a0_28, .int .i64 a0_29, .string a0_30, .slice (some ad115) l0_31.length c0_31, .bool a0_32, .int .i64 a0_33, .int .i64 a0_34, .string a0_35, .bool a0_36, .slice A0_37 l0_37.length c0_37] 36 (0, 0)) (by (with_reducible repeat (first | refine blk_drewN ?_ _ | refine blk_drew ?_ | refine blk_alloc ?_ _)); exact BK113.out)) : gb116 ≠ gb113)); have n8_ := Aside0.mk ((by rw [hg]; exact Nat.ne_of_lt (blk_lt (g := gb114) (o := .cells #[.string x115000_1, .int .i64 x115001_1, .int .i64 x115002_1, .bool x115003_1, .string x115004_1, .string x115005_1] 40 (0, 0)) (by (with_reducible repeat (first | refine blk_drewN ?_ _ | refine blk_drew ?_ | refine blk_alloc ?_ _)); exact BK114.out)) : gb114 ≠ gb116)); have n9_ := Aside0.mk ((by rw [hg]; exact Nat.ne_of_gt (blk_lt (g := gb114) (o := .cells #[.string x115000_1, .int .i64 x115001_1, .int .i64 x115002_1, .bool x115003_1, .string x115004_1, .string x115005_1] 40 (0, 0)) (by (with_reducible repeat (first | refine blk_drewN ?_ _ | refine blk_drew ?_ | refine blk_alloc ?_ _)); exact BK114.out)) : gb116 ≠ gb114)); clear BK113; clear BK114; clear HB; have BK113 := n0_; have BK114 := n1_; have HB := n2_; have BK116 := n3_; have GW116 := n4_; have GE116 := n5_; have NB113_116 := n6_; have NB116_113 := n7_; have NB114_116 := n8_; have NB116_114 := n9_; clear n0_ n1_ n2_ n3_ n4_ n5_ n6_ n7_ n8_ n9_; clear hb hbox hg; have hnb12 := NB116_113.out; have hnc12 := NB113_116.out; have hnb13 := NB116_114.out; have hnc13 := NB114_116.out; have hcz14_0 : w11.cell? ⟨gb116, 0, none⟩ = some (.string (⟨#[]⟩ : ByteArray)) := (blk_cell BK116.out 0).trans rfl; have hcz14_1 : w11.cell? ⟨gb116, 1, none⟩ = some (.int .i64 0) := (blk_cell BK116.out 1).trans rfl; have hcz14_2 : w11.cell? ⟨gb116, 2, none⟩ = some (.int .i64 0) := (blk_cell BK116.out 2).trans rfl; have hcz14_3 : w11.cell? ⟨gb116, 3, none⟩ = some (.bool false) := (blk_cell BK116.out 3).trans rfl; have hcz14_4 : w11.cell? ⟨gb116, 4, none⟩ = some (.string (⟨#[]⟩ : ByteArray)) := (blk_cell BK116.out 4).trans rfl; have hcz14_5 : w11.cell? ⟨gb116, 5, none⟩ = some (.string (⟨#[]⟩ : ByteArray)) := (blk_cell BK116.out 5).trans rfl; have hfz14_0 := blk_frozen BK116.out 0; have hfz14_1 := blk_frozen BK116.out 1; have hfz14_2 := blk_frozen BK116.out 2; have hfz14_3 := blk_frozen BK116.out 3; have hfz14_4 := blk_frozen BK116.out 4; have hfz14_5 := blk_frozen BK116.out 5; have hnb15 := NB114_113.out; have hnc15 := NB113_114.out; have hcz16_0 : w11.cell? ⟨gb114, 0, none⟩ = some (.string x115000_1) := (blk_cell BK114.out 0).trans rfl; have hcz16_1 : w11.cell? ⟨gb114, 1, none⟩ = some (.int .i64 x115001_1) := (blk_cell BK114.out 1).trans rfl; have hcz16_2 : w11.cell? ⟨gb114, 2, none⟩ = some (.int .i64 x115002_1) := (blk_cell BK114.out 2).trans rfl; have hcz16_3 : w11.cell? ⟨gb114, 3, none⟩ = some (.bool x115003_1) := (blk_cell BK114.out 3).trans rfl; have hcz16_4 : w11.cell? ⟨gb114, 4, none⟩ = some (.string x115004_1) := (blk_cell BK114.out 4).trans rfl; have hcz16_5 : w11.cell? ⟨gb114, 5, none⟩ = some (.string x115005_1) := (blk_cell BK114.out 5).trans rfl; have hfz16_0 := blk_frozen BK114.out 0; have hfz16_1 := blk_frozen BK114.out 1; have hfz16_2 := blk_frozen BK114.out 2; have hfz16_3 := blk_frozen BK114.out 3; have hfz16_4 := blk_frozen BK114.out 4; have hfz16_5 := blk_frozen BK114.out 5))
              refine bodyPost_ret (results_ct rfl _ _ gb114 40 #[.string ((rd_T40 l0_31 x11_1).f0), .int .i64 ((rd_T40 l0_31 x11_1).f1), .int .i64 ((rd_T40 l0_31 x11_1).f2), .bool ((rd_T40 l0_31 x11_1).f3), .string ((rd_T40 l0_31 x11_1).f4), .string ((rd_T40 l0_31 x11_1).f5)] (0, 0) _ rfl (by (with_reducible repeat (first | refine blk_drewN ?_ _ | refine blk_drew ?_ | refine blk_alloc ?_ _)); refine blk_put (cs := #[.string ((rd_T40 l0_31 x11_1).f0), .int .i64 ((rd_T40 l0_31 x11_1).f1), .int .i64 ((rd_T40 l0_31 x11_1).f2), .bool ((rd_T40 l0_31 x11_1).f3), .string ((rd_T40 l0_31 x11_1).f4), .string x115005_1]) ?_ 5 _ rfl; (with_reducible repeat (first | refine blk_drewN ?_ _ | refine blk_drew ?_ | refine blk_alloc ?_ _)); refine blk_put (cs := #[.string ((rd_T40 l0_31 x11_1).f0), .int .i64 ((rd_T40 l0_31 x11_1).f1), .int .i64 ((rd_T40 l0_31 x11_1).f2), .bool ((rd_T40 l0_31 x11_1).f3), .string x115004_1, .string x115005_1]) ?_ 4 _ rfl; (with_reducible repeat (first | refine blk_drewN ?_ _ | refine blk_drew ?_ | refine blk_alloc ?_ _)); refine blk_put (cs := #[.string ((rd_T40 l0_31 x11_1).f0), .int .i64 ((rd_T40 l0_31 x11_1).f1), .int .i64 ((rd_T40 l0_31 x11_1).f2), .bool x115003_1, .string x115004_1, .string x115005_1]) ?_ 3 _ rfl; (with_reducible repeat (first | refine blk_drewN ?_ _ | refine blk_drew ?_ | refine blk_alloc ?_ _)); refine blk_put (cs := #[.string ((rd_T40 l0_31 x11_1).f0), .int .i64 ((rd_T40 l0_31 x11_1).f1), .int .i64 x115002_1, .bool x115003_1, .string x115004_1, .string x115005_1]) ?_ 2 _ rfl; (with_reducible repeat (first | refine blk_drewN ?_ _ | refine blk_drew ?_ | refine blk_alloc ?_ _)); refine blk_put (cs := #[.string ((rd_T40 l0_31 x11_1).f0), .int .i64 x115001_1, .int .i64 x115002_1, .bool x115003_1, .string x115004_1, .string x115005_1]) ?_ 1 _ rfl; (with_reducible repeat (first | refine blk_drewN ?_ _ | refine blk_drew ?_ | refine blk_alloc ?_ _)); refine blk_put (cs := #[.string x115000_1, .int .i64 x115001_1, .int .i64 x115002_1, .bool x115003_1, .string x115004_1, .string x115005_1]) ?_ 0 _ rfl; (with_reducible repeat (first | refine blk_drewN ?_ _ | refine blk_drew ?_ | refine blk_alloc ?_ _)); refine blk_far ?_ NB114_116.out _; (with_reducible repeat (first | refine blk_drewN ?_ _ | refine blk_drew ?_ | refine blk_alloc ?_ _)); refine blk_far ?_ NB114_116.out _; (with_reducible repeat (first | refine blk_drewN ?_ _ | refine blk_drew ?_ | refine blk_alloc ?_ _)); refine blk_far ?_ NB114_116.out _; (with_reducible repeat (first | refine blk_drewN ?_ _ | refine blk_drew ?_ | refine blk_alloc ?_ _)); refine blk_far ?_ NB114_116.out _; (with_reducible repeat (first | refine blk_drewN ?_ _ | refine blk_drew ?_ | refine blk_alloc ?_ _)); refine blk_far ?_ NB114_116.out _; (with_reducible repeat (first | refine blk_drewN ?_ _ | refine blk_drew ?_ | refine blk_alloc ?_ _)); refine blk_far ?_ NB114_116.out _; (with_reducible repeat (first | refine blk_drewN ?_ _ | refine blk_drew ?_ | refine blk_alloc ?_ _)); exact BK114.out) Try.underlying40 rfl (by kernel_rfl)) rfl ?_
              exact ⟨by first | rfl | (simp [errW_none, errW_some] <;> rfl) | (simp [*, errW_none, errW_some] <;> rfl), by repeat (first | (with_reducible first | exact HB.out | apply below_alloc | apply pw_below_drewN | apply below_drew1 | refine below_set ?_ GE113.out | refine below_set ?_ GE114.out | refine below_set ?_ GE116.out) | exact HB.out)⟩
            · rw [if_neg c10] at H
              have c10b0 : (((rd_T40 l0_31 x11_1).f0).toList == a1.toList) = false := beq_eq_false_iff_ne.mpr c10
              have c10b1 : (((rd_T40 l0_31 x11_1).f0).toList != a1.toList) = true := bne_iff_ne.mpr c10
              have H' := Aside0.mk H
              clear H
              have p115 : 0 ≤ (x11_1 : Int) := of_decide_eq_true (by first | (with_reducible assumption) | assumption)
              have q115 : x11_1 < (l0_31.length : Int) := of_decide_eq_true (by first | (with_reducible assumption) | assumption)
              obtain ⟨ad115, e115, hx115_0, hx115_1, hx115_2, hx115_3, hx115_4, hx115_5⟩ := at_T40 HR0_31.out x11_1 p115 q115
              cases e115
              replace hx115_0 := (HB.out.cell (World.block_lt_of_cell? w _ hx115_0)).trans hx115_0
              replace hx115_1 := (HB.out.cell (World.block_lt_of_cell? w _ hx115_1)).trans hx115_1
              replace hx115_2 := (HB.out.cell (World.block_lt_of_cell? w _ hx115_2)).trans hx115_2
              replace hx115_3 := (HB.out.cell (World.block_lt_of_cell? w _ hx115_3)).trans hx115_3
              replace hx115_4 := (HB.out.cell (World.block_lt_of_cell? w _ hx115_4)).trans hx115_4
              replace hx115_5 := (HB.out.cell (World.block_lt_of_cell? w _ hx115_5)).trans hx115_5
              replace p115 := eq_true p115
              replace q115 := eq_true q115
              go_wp2_with (first | ((with_reducible refine gate_dst (N := 7) rfl ?_); refine box_event ?hg (N := 7) ?hd (cs := #[.string (⟨#[]⟩ : ByteArray), .int .i64 0, .int .i64 0, .bool false, .string (⟨#[]⟩ : ByteArray), .string (⟨#[]⟩ : ByteArray)]) (t := 40) ?hr ?_; (case hd => rfl); (case hg => rfl); (case hr => first | (go_simp; done) | (go_simp; rfl)); intro gb116 hg w17 hbox hb; have n0_ := Aside0.mk (blk_below (g := gb113) (o := .cells #[.string a0_0, .int .i64 a0_1, .int .i64 a0_2, .int .i64 a0_3, .int .i64 a0_4, .string a0_5, .bool a0_6, .int .i64 a0_7, .int .i64 a0_8, .int .i64 a0_9, .int .i64 a0_10, .int .i64 a0_11, .string a0_12, .bool a0_13, .int .i64 a0_14, .slice A0_15 l0_15.length c0_15, .slice A0_16 l0_16.length c0_16, .slice A0_17 l0_17.length c0_17, .slice A0_18 l0_18.length c0_18, .slice A0_19 l0_19.length c0_19, .slice A0_20 l0_20.length c0_20, .slice A0_21 l0_21.length c0_21, .slice A0_22 l0_22.length c0_22, .slice A0_23 l0_23.length c0_23, .slice A0_24 l0_24.length c0_24, .slice A0_25 l0_25.length c0_25, .int .i64 a0_26, .string a0_27, .string a0_28, .int .i64 a0_29, .string a0_30, .slice (some ad115) l0_31.length c0_31, .bool a0_32, .int .i64 a0_33, .int .i64 a0_34, .string a0_35, .bool a0_36, .slice A0_37 l0_37.length c0_37] 36 (0, 0)) (by (with_reducible repeat (first | refine blk_drewN ?_ _ | refine blk_drew ?_ | refine blk_alloc ?_ _)); exact BK113.out) hb); have n1_ := Aside0.mk (blk_below (g := gb114) (o := .cells #[.string x115000_1, .int .i64 x115001_1, .int .i64 x115002_1, .bool x115003_1, .string x115004_1, .string x115005_1] 40 (0, 0)) (by (with_reducible repeat (first | refine blk_drewN ?_ _ | refine blk_drew ?_ | refine blk_alloc ?_ _)); exact BK114.out) hb); have n2_ := Aside0.mk (below_step (by repeat (first | (with_reducible first | exact HB.out | apply below_alloc | apply pw_below_drewN | apply below_drew1 | refine below_set ?_ GE113.out | refine below_set ?_ GE114.out) | exact HB.out)) hb); have n3_ := Aside0.mk (hbox); have n4_ := Aside0.mk ((by rw [hg]; exact (below_size (by repeat (first | (with_reducible first | exact HB.out | apply below_alloc | apply pw_below_drewN | apply below_drew1 | refine below_set ?_ GE113.out | refine below_set ?_ GE114.out) | exact HB.out))) : w.heap.size ≤ gb116)); have n5_ := Aside0.mk ((by rw [hg]; exact (below_size (by repeat (first | (with_reducible first | exact HB.out | apply below_alloc | apply pw_below_drewN | apply below_drew1 | refine below_set ?_ GE113.out | refine below_set ?_ GE114.out) | exact HB.out))) : w.heap.size ≤ gb116)); have n6_ := Aside0.mk ((by rw [hg]; exact Nat.ne_of_lt (blk_lt (g := gb113) (o := .cells #[.string a0_0, .int .i64 a0_1, .int .i64 a0_2, .int .i64 a0_3, .int .i64 a0_4, .string a0_5, .bool a0_6, .int .i64 a0_7, .int .i64 a0_8, .int .i64 a0_9, .int .i64 a0_10, .int .i64 a0_11, .string a0_12, .bool a0_13, .int .i64 a0_14, .slice A0_15 l0_15.length c0_15, .slice A0_16 l0_16.length c0_16, .slice A0_17 l0_17.length c0_17, .slice A0_18 l0_18.length c0_18, .slice A0_19 l0_19.length c0_19, .slice A0_20 l0_20.length c0_20, .slice A0_21 l0_21.length c0_21, .slice A0_22 l0_22.length c0_22, .slice A0_23 l0_23.length c0_23, .slice A0_24 l0_24.length c0_24, .slice A0_25 l0_25.length c0_25, .int .i64 a0_26, .string a0_27, .string a0_28, .int .i64 a0_29, .string a0_30, .slice (some ad115) l0_31.length c0_31, .bool a0_32, .int .i64 a0_33, .int .i64 a0_34, .string a0_35, .bool a0_36, .slice A0_37 l0_37.length c0_37] 36 (0, 0)) (by (with_reducible repeat (first | refine blk_drewN ?_ _ | refine blk_drew ?_ | refine blk_alloc ?_ _)); exact BK113.out)) : gb113 ≠ gb116)); have n7_ := Aside0.mk ((by rw [hg]; exact Nat.ne_of_gt (blk_lt (g := gb113) (o := .cells #[.string a0_0, .int .i64 a0_1, .int .i64 a0_2, .int .i64 a0_3, .int .i64 a0_4, .string a0_5, .bool a0_6, .int .i64 a0_7, .int .i64 a0_8, .int .i64 a0_9, .int .i64 a0_10, .int .i64 a0_11, .string a0_12, .bool a0_13, .int .i64 a0_14, .slice A0_15 l0_15.length c0_15, .slice A0_16 l0_16.length c0_16, .slice A0_17 l0_17.length c0_17, .slice A0_18 l0_18.length c0_18, .slice A0_19 l0_19.length c0_19, .slice A0_20 l0_20.length c0_20, .slice A0_21 l0_21.length c0_21, .slice A0_22 l0_22.length c0_22, .slice A0_23 l0_23.length c0_23, .slice A0_24 l0_24.length c0_24, .slice A0_25 l0_25.length c0_25, .int .i64 a0_26, .string a0_27, .string a0_28, .int .i64 a0_29, .string a0_30, .slice (some ad115) l0_31.length c0_31, .bool a0_32, .int .i64 a0_33, .int .i64 a0_34, .string a0_35, .bool a0_36, .slice A0_37 l0_37.length c0_37] 36 (0, 0)) (by (with_reducible repeat (first | refine blk_drewN ?_ _ | refine blk_drew ?_ | refine blk_alloc ?_ _)); exact BK113.out)) : gb116 ≠ gb113)); have n8_ := Aside0.mk ((by rw [hg]; exact Nat.ne_of_lt (blk_lt (g := gb114) (o := .cells #[.string x115000_1, .int .i64 x115001_1, .int .i64 x115002_1, .bool x115003_1, .string x115004_1, .string x115005_1] 40 (0, 0)) (by (with_reducible repeat (first | refine blk_drewN ?_ _ | refine blk_drew ?_ | refine blk_alloc ?_ _)); exact BK114.out)) : gb114 ≠ gb116)); have n9_ := Aside0.mk ((by rw [hg]; exact Nat.ne_of_gt (blk_lt (g := gb114) (o := .cells #[.string x115000_1, .int .i64 x115001_1, .int .i64 x115002_1, .bool x115003_1, .string x115004_1, .string x115005_1] 40 (0, 0)) (by (with_reducible repeat (first | refine blk_drewN ?_ _ | refine blk_drew ?_ | refine blk_alloc ?_ _)); exact BK114.out)) : gb116 ≠ gb114)); clear BK113; clear BK114; clear HB; have BK113 := n0_; have BK114 := n1_; have HB := n2_; have BK116 := n3_; have GW116 := n4_; have GE116 := n5_; have NB113_116 := n6_; have NB116_113 := n7_; have NB114_116 := n8_; have NB116_114 := n9_; clear n0_ n1_ n2_ n3_ n4_ n5_ n6_ n7_ n8_ n9_; clear hb hbox hg; have hnb18 := NB116_113.out; have hnc18 := NB113_116.out; have hnb19 := NB116_114.out; have hnc19 := NB114_116.out; have hcz20_0 : w17.cell? ⟨gb116, 0, none⟩ = some (.string (⟨#[]⟩ : ByteArray)) := (blk_cell BK116.out 0).trans rfl; have hcz20_1 : w17.cell? ⟨gb116, 1, none⟩ = some (.int .i64 0) := (blk_cell BK116.out 1).trans rfl; have hcz20_2 : w17.cell? ⟨gb116, 2, none⟩ = some (.int .i64 0) := (blk_cell BK116.out 2).trans rfl; have hcz20_3 : w17.cell? ⟨gb116, 3, none⟩ = some (.bool false) := (blk_cell BK116.out 3).trans rfl; have hcz20_4 : w17.cell? ⟨gb116, 4, none⟩ = some (.string (⟨#[]⟩ : ByteArray)) := (blk_cell BK116.out 4).trans rfl; have hcz20_5 : w17.cell? ⟨gb116, 5, none⟩ = some (.string (⟨#[]⟩ : ByteArray)) := (blk_cell BK116.out 5).trans rfl; have hfz20_0 := blk_frozen BK116.out 0; have hfz20_1 := blk_frozen BK116.out 1; have hfz20_2 := blk_frozen BK116.out 2; have hfz20_3 := blk_frozen BK116.out 3; have hfz20_4 := blk_frozen BK116.out 4; have hfz20_5 := blk_frozen BK116.out 5))
              go_roundg k1
              case measure => have := HK1.out; omega
              case rel => exact ⟨(wrap64 (x11_1 + 1)), (x115000_1), (x115001_1), (x115002_1), (x115003_1), (x115004_1), (x115005_1), (by first | rfl | (simp; done) | (simp [*]; done)), H', ⟨by have := HK1.out; omega⟩, ⟨by (with_reducible repeat (first | refine blk_drewN ?_ _ | refine blk_drew ?_ | refine blk_alloc ?_ _)); refine blk_far ?_ NB113_116.out _; (with_reducible repeat (first | refine blk_drewN ?_ _ | refine blk_drew ?_ | refine blk_alloc ?_ _)); refine blk_far ?_ NB113_116.out _; (with_reducible repeat (first | refine blk_drewN ?_ _ | refine blk_drew ?_ | refine blk_alloc ?_ _)); refine blk_far ?_ NB113_116.out _; (with_reducible repeat (first | refine blk_drewN ?_ _ | refine blk_drew ?_ | refine blk_alloc ?_ _)); refine blk_far ?_ NB113_116.out _; (with_reducible repeat (first | refine blk_drewN ?_ _ | refine blk_drew ?_ | refine blk_alloc ?_ _)); refine blk_far ?_ NB113_116.out _; (with_reducible repeat (first | refine blk_drewN ?_ _ | refine blk_drew ?_ | refine blk_alloc ?_ _)); refine blk_far ?_ NB113_116.out _; (with_reducible repeat (first | refine blk_drewN ?_ _ | refine blk_drew ?_ | refine blk_alloc ?_ _)); exact BK113.out⟩, ⟨by (with_reducible repeat (first | refine blk_drewN ?_ _ | refine blk_drew ?_ | refine blk_alloc ?_ _)); refine blk_far ?_ NB114_116.out _; (with_reducible repeat (first | refine blk_drewN ?_ _ | refine blk_drew ?_ | refine blk_alloc ?_ _)); refine blk_far ?_ NB114_116.out _; (with_reducible repeat (first | refine blk_drewN ?_ _ | refine blk_drew ?_ | refine blk_alloc ?_ _)); refine blk_far ?_ NB114_116.out _; (with_reducible repeat (first | refine blk_drewN ?_ _ | refine blk_drew ?_ | refine blk_alloc ?_ _)); refine blk_far ?_ NB114_116.out _; (with_reducible repeat (first | refine blk_drewN ?_ _ | refine blk_drew ?_ | refine blk_alloc ?_ _)); refine blk_far ?_ NB114_116.out _; (with_reducible repeat (first | refine blk_drewN ?_ _ | refine blk_drew ?_ | refine blk_alloc ?_ _)); refine blk_far ?_ NB114_116.out _; (with_reducible repeat (first | refine blk_drewN ?_ _ | refine blk_drew ?_ | refine blk_alloc ?_ _)); exact BK114.out⟩, ⟨by repeat (first | (with_reducible first | exact HB.out | apply below_alloc | apply pw_below_drewN | apply below_drew1 | refine below_set ?_ GE113.out | refine below_set ?_ GE114.out | refine below_set ?_ GE116.out) | exact HB.out)⟩⟩
          · rw [if_neg c9] at H
            exact absurd H (by simp)
        · rw [if_neg c8] at H
          exact absurd H (by simp)
      · rw [if_neg c7] at H
        have c7b0 : decide (x11_1 < (l0_31.length : Int)) = false := decide_eq_false c7
        clear c7
        simp only [Option.some.injEq, Prod.mk.injEq] at H
        obtain ⟨rfl, rfl, rfl, rfl, rfl, rfl, rfl⟩ := H
        have hnb21 := NB114_113.out
        have hnc21 := NB113_114.out
        have hcz22_0 : wr.cell? ⟨gb114, 0, none⟩ = some (.string x115000_1) := (blk_cell BK114.out 0).trans rfl
        have hcz22_1 : wr.cell? ⟨gb114, 1, none⟩ = some (.int .i64 x115001_1) := (blk_cell BK114.out 1).trans rfl
        have hcz22_2 : wr.cell? ⟨gb114, 2, none⟩ = some (.int .i64 x115002_1) := (blk_cell BK114.out 2).trans rfl
        have hcz22_3 : wr.cell? ⟨gb114, 3, none⟩ = some (.bool x115003_1) := (blk_cell BK114.out 3).trans rfl
        have hcz22_4 : wr.cell? ⟨gb114, 4, none⟩ = some (.string x115004_1) := (blk_cell BK114.out 4).trans rfl
        have hcz22_5 : wr.cell? ⟨gb114, 5, none⟩ = some (.string x115005_1) := (blk_cell BK114.out 5).trans rfl
        have hfz22_0 := blk_frozen BK114.out 0
        have hfz22_1 := blk_frozen BK114.out 1
        have hfz22_2 := blk_frozen BK114.out 2
        have hfz22_3 := blk_frozen BK114.out 3
        have hfz22_4 := blk_frozen BK114.out 4
        have hfz22_5 := blk_frozen BK114.out 5
        go_wp2
        refine bodyPost_ret (results_ct rfl _ _ gb114 40 #[.string (⟨#[]⟩ : ByteArray), .int .i64 0, .int .i64 0, .bool false, .string (⟨#[]⟩ : ByteArray), .string (⟨#[]⟩ : ByteArray)] (0, 0) _ rfl (by (with_reducible repeat (first | refine blk_drewN ?_ _ | refine blk_drew ?_ | refine blk_alloc ?_ _)); refine blk_put (cs := #[.string (⟨#[]⟩ : ByteArray), .int .i64 0, .int .i64 0, .bool false, .string (⟨#[]⟩ : ByteArray), .string x115005_1]) ?_ 5 _ rfl; (with_reducible repeat (first | refine blk_drewN ?_ _ | refine blk_drew ?_ | refine blk_alloc ?_ _)); refine blk_put (cs := #[.string (⟨#[]⟩ : ByteArray), .int .i64 0, .int .i64 0, .bool false, .string x115004_1, .string x115005_1]) ?_ 4 _ rfl; (with_reducible repeat (first | refine blk_drewN ?_ _ | refine blk_drew ?_ | refine blk_alloc ?_ _)); refine blk_put (cs := #[.string (⟨#[]⟩ : ByteArray), .int .i64 0, .int .i64 0, .bool x115003_1, .string x115004_1, .string x115005_1]) ?_ 3 _ rfl; (with_reducible repeat (first | refine blk_drewN ?_ _ | refine blk_drew ?_ | refine blk_alloc ?_ _)); refine blk_put (cs := #[.string (⟨#[]⟩ : ByteArray), .int .i64 0, .int .i64 x115002_1, .bool x115003_1, .string x115004_1, .string x115005_1]) ?_ 2 _ rfl; (with_reducible repeat (first | refine blk_drewN ?_ _ | refine blk_drew ?_ | refine blk_alloc ?_ _)); refine blk_put (cs := #[.string (⟨#[]⟩ : ByteArray), .int .i64 x115001_1, .int .i64 x115002_1, .bool x115003_1, .string x115004_1, .string x115005_1]) ?_ 1 _ rfl; (with_reducible repeat (first | refine blk_drewN ?_ _ | refine blk_drew ?_ | refine blk_alloc ?_ _)); refine blk_put (cs := #[.string x115000_1, .int .i64 x115001_1, .int .i64 x115002_1, .bool x115003_1, .string x115004_1, .string x115005_1]) ?_ 0 _ rfl; (with_reducible repeat (first | refine blk_drewN ?_ _ | refine blk_drew ?_ | refine blk_alloc ?_ _)); exact BK114.out) Try.underlying40 rfl (by kernel_rfl)) rfl ?_
        exact ⟨by first | rfl | (simp [errW_none, errW_some] <;> rfl) | (simp [*, errW_none, errW_some] <;> rfl), by repeat (first | (with_reducible first | exact HB.out | apply below_alloc | apply pw_below_drewN | apply below_drew1 | refine below_set ?_ GE113.out | refine below_set ?_ GE114.out) | exact HB.out)⟩

end Go.Proofs.Ytddoidcbpcmlaaa.Q
