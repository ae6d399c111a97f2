/- Texts of this claim, merged: MexB, Ml10F. -/
import Derived.Test.YtddoidcbpcmlaaaMgEventClones1
-- written by a program of this session (wip/own_print.sh)
namespace Go.Proofs.Ytddoidcbpcmlaaa.M
open Go.RowKit Go.Proofs.YtddoidcbpcmlaaaW.PrintWords Go.Proofs.YtddoidcbpcmlaaaW.PrintLast Go.Proofs.YtddoidcbpcmlaaaW.PrintMore
attribute [local go_sem] max2_int min2_int max_two min_two max_three min_three max_four min_four   -- for this text's walks alone
set_option linter.unusedVariables false
set_option linter.unusedSimpArgs false
/-! ### trystlaw13_PerDay: function 50 -/
def trystlaw13_PerDay.f (a0_0 : Int) (a0_1 : Int) (a0_2 : Int) (a0_3 : Int) (a0_4 : Int) (a0_5 : ByteArray) (a0_6 : Bool) (a0_7 : Int) (l0_8 : List Int) (l0_9 : List Int) (l0_10 : List Int) (l0_11 : List (S139)) (l0_12 : List Int) (l0_13 : List Int) (l0_14 : List Int) (l0_15 : List Int) (l0_16 : List Int) : Option (Int) := some (wrap64 ((wrap64 ((mx 1 (l0_10.length : Int)) * (mx 1 (l0_9.length : Int)))) * (mx 1 (l0_8.length : Int))))
set_option maxHeartbeats 8000000 in
set_option maxRecDepth 100000 in
theorem trystlaw13_PerDay.calls (a0_0 : Int) (a0_1 : Int) (a0_2 : Int) (a0_3 : Int) (a0_4 : Int) (a0_5 : ByteArray) (a0_6 : Bool) (a0_7 : Int) (A0_8 : Option Addr) (c0_8 : Nat) (l0_8 : List Int) (A0_9 : Option Addr) (c0_9 : Nat) (l0_9 : List Int) (A0_10 : Option Addr) (c0_10 : Nat) (l0_10 : List Int) (A0_11 : Option Addr) (c0_11 : Nat) (l0_11 : List (S139)) (A0_12 : Option Addr) (c0_12 : Nat) (l0_12 : List Int) (A0_13 : Option Addr) (c0_13 : Nat) (l0_13 : List Int) (A0_14 : Option Addr) (c0_14 : Nat) (l0_14 : List Int) (A0_15 : Option Addr) (c0_15 : Nat) (l0_15 : List Int) (A0_16 : Option Addr) (c0_16 : Nat) (l0_16 : List Int) (r : Int) (w : World) (hr0_8 : Kd.C (Kd.int .i64) w A0_8 l0_8.length l0_8) (hc0_8 : l0_8.length ≤ c0_8) (hr0_9 : Kd.C (Kd.int .i64) w A0_9 l0_9.length l0_9) (hc0_9 : l0_9.length ≤ c0_9) (hr0_10 : Kd.C (Kd.int .i64) w A0_10 l0_10.length l0_10) (hc0_10 : l0_10.length ≤ c0_10) (hr0_11 : Kd.C k139 w A0_11 l0_11.length l0_11) (hc0_11 : l0_11.length ≤ c0_11) (hr0_12 : Kd.C (Kd.int .i64) w A0_12 l0_12.length l0_12) (hc0_12 : l0_12.length ≤ c0_12) (hr0_13 : Kd.C (Kd.int .i64) w A0_13 l0_13.length l0_13) (hc0_13 : l0_13.length ≤ c0_13) (hr0_14 : Kd.C (Kd.int .i64) w A0_14 l0_14.length l0_14) (hc0_14 : l0_14.length ≤ c0_14) (hr0_15 : Kd.C (Kd.int .i64) w A0_15 l0_15.length l0_15) (hc0_15 : l0_15.length ≤ c0_15) (hr0_16 : Kd.C (Kd.int .i64) w A0_16 l0_16.length l0_16) (hc0_16 : l0_16.length ≤ c0_16) (h : trystlaw13_PerDay.f a0_0 a0_1 a0_2 a0_3 a0_4 a0_5 a0_6 a0_7 l0_8 l0_9 l0_10 l0_11 l0_12 l0_13 l0_14 l0_15 l0_16 = some r) :
    Calls Try.prog 50 #[.agg #[.int .i64 a0_0, .int .i64 a0_1, .int .i64 a0_2, .int .i64 a0_3, .int .i64 a0_4, .string a0_5, .bool a0_6, .int .i64 a0_7, .slice A0_8 l0_8.length c0_8, .slice A0_9 l0_9.length c0_9, .slice A0_10 l0_10.length c0_10, .slice A0_11 l0_11.length c0_11, .slice A0_12 l0_12.length c0_12, .slice A0_13 l0_13.length c0_13, .slice A0_14 l0_14.length c0_14, .slice A0_15 l0_15.length c0_15, .slice A0_16 l0_16.length c0_16]] w fun e w' => e = .returned (.int .i64 r) ∧ Below w.heap.size w w' := by
  have hu29 := Try.underlying29
  have HR0_8 := Aside0.mk hr0_8
  have HC0_8 := Aside0.mk hc0_8
  clear hr0_8 hc0_8
  have HR0_9 := Aside0.mk hr0_9
  have HC0_9 := Aside0.mk hc0_9
  clear hr0_9 hc0_9
  have HR0_10 := Aside0.mk hr0_10
  have HC0_10 := Aside0.mk hc0_10
  clear hr0_10 hc0_10
  have HR0_11 := Aside0.mk hr0_11
  have HC0_11 := Aside0.mk hc0_11
  clear hr0_11 hc0_11
  have HR0_12 := Aside0.mk hr0_12
  have HC0_12 := Aside0.mk hc0_12
  clear hr0_12 hc0_12
  have HR0_13 := Aside0.mk hr0_13
  have HC0_13 := Aside0.mk hc0_13
  clear hr0_13 hc0_13
  have HR0_14 := Aside0.mk hr0_14
  have HC0_14 := Aside0.mk hc0_14
  clear hr0_14 hc0_14
  have HR0_15 := Aside0.mk hr0_15
  have HC0_15 := Aside0.mk hc0_15
  clear hr0_15 hc0_15
  have HR0_16 := Aside0.mk hr0_16
  have HC0_16 := Aside0.mk hc0_16
  clear hr0_16 hc0_16
  have HB := Aside0.mk (Below.refl w.heap.size w)
  have H : (some (wrap64 ((wrap64 ((mx 1 (l0_10.length : Int)) * (mx 1 (l0_9.length : Int)))) * (mx 1 (l0_8.length : Int))))) = some r := h
  clear h
  obtain ⟨ji2, hji2⟩ : ∃ j_ : Int, (mx 1 (l0_10.length : Int)) = j_ := ⟨_, rfl⟩
  replace H : (some (wrap64 ((wrap64 ((ji2) * (mx 1 (l0_9.length : Int)))) * (mx 1 (l0_8.length : Int))))) = some r := by first | (rw [hji2] at H; exact H) | (simp only [hji2] at H ⊢; exact H)
  (try (have hji2l : 1 ≤ ji2 := by (rw [← hji2]; unfold mx; (repeat' split) <;> omega)))
  (try (have hji2m : 0 ≤ ji2 := by omega))
  have hji2_ : (if 1 < (l0_10.length : Int) then (l0_10.length : Int) else 1) = ji2 := hji2
  obtain ⟨ji3, hji3⟩ : ∃ j_ : Int, (mx 1 (l0_9.length : Int)) = j_ := ⟨_, rfl⟩
  replace H : (some (wrap64 ((wrap64 ((ji2) * (ji3))) * (mx 1 (l0_8.length : Int))))) = some r := by first | (rw [hji3] at H; exact H) | (simp only [hji3] at H ⊢; exact H)
  (try (have hji3l : 1 ≤ ji3 := by (rw [← hji3]; unfold mx; (repeat' split) <;> omega)))
  (try (have hji3m : 0 ≤ ji3 := by omega))
  have hji3_ : (if 1 < (l0_9.length : Int) then (l0_9.length : Int) else 1) = ji3 := hji3
  obtain ⟨ji4, hji4⟩ : ∃ j_ : Int, (mx 1 (l0_8.length : Int)) = j_ := ⟨_, rfl⟩
  replace H : (some (wrap64 ((wrap64 ((ji2) * (ji3))) * (ji4)))) = some r := by first | (rw [hji4] at H; exact H) | (simp only [hji4] at H ⊢; exact H)
  (try (have hji4l : 1 ≤ ji4 := by (rw [← hji4]; unfold mx; (repeat' split) <;> omega)))
  (try (have hji4m : 0 ≤ ji4 := by omega))
  have hji4_ : (if 1 < (l0_8.length : Int) then (l0_8.length : Int) else 1) = ji4 := hji4
  obtain rfl := Option.some.inj H
  go_enter Try.func50, Try.ntmps50
  go_wp2_with (first | ((with_reducible refine gate_dst (N := 1) rfl ?_); refine box_event ?hg (N := 1) ?hd (cs := #[.int .i64 a0_0, .int .i64 a0_1, .int .i64 a0_2, .int .i64 a0_3, .int .i64 a0_4, .string a0_5, .bool a0_6, .int .i64 a0_7, .slice A0_8 l0_8.length c0_8, .slice A0_9 l0_9.length c0_9, .slice A0_10 l0_10.length c0_10, .slice A0_11 l0_11.length c0_11, .slice A0_12 l0_12.length c0_12, .slice A0_13 l0_13.length c0_13, .slice A0_14 l0_14.length c0_14, .slice A0_15 l0_15.length c0_15, .slice A0_16 l0_16.length c0_16]) (t := 29) ?hr ?_; (case hd => rfl); (case hg => rfl); (case hr => first | (go_simp; done) | (go_simp; rfl)); intro gb112 hg w5 hbox hb; have n0_ := Aside0.mk (below_step (by repeat (first | (with_reducible first | exact HB.out | apply below_alloc | apply pw_below_drewN | apply below_drew1) | exact HB.out)) hb); have n1_ := Aside0.mk (hbox); have n2_ := Aside0.mk ((by rw [hg]; exact (below_size (by repeat (first | (with_reducible first | exact HB.out | apply below_alloc | apply pw_below_drewN | apply below_drew1) | exact HB.out))) : w.heap.size ≤ gb112)); have n3_ := Aside0.mk ((by rw [hg]; exact (below_size (by repeat (first | (with_reducible first | exact HB.out | apply below_alloc | apply pw_below_drewN | apply below_drew1) | exact HB.out))) : w.heap.size ≤ gb112)); clear HB; have HB := n0_; have BK112 := n1_; have GW112 := n2_; have GE112 := n3_; clear n0_ n1_ n2_ n3_; clear hb hbox hg; have hcz6_0 : w5.cell? ⟨gb112, 0, none⟩ = some (.int .i64 a0_0) := (blk_cell BK112.out 0).trans rfl; have hcz6_1 : w5.cell? ⟨gb112, 1, none⟩ = some (.int .i64 a0_1) := (blk_cell BK112.out 1).trans rfl; have hcz6_2 : w5.cell? ⟨gb112, 2, none⟩ = some (.int .i64 a0_2) := (blk_cell BK112.out 2).trans rfl; have hcz6_3 : w5.cell? ⟨gb112, 3, none⟩ = some (.int .i64 a0_3) := (blk_cell BK112.out 3).trans rfl; have hcz6_4 : w5.cell? ⟨gb112, 4, none⟩ = some (.int .i64 a0_4) := (blk_cell BK112.out 4).trans rfl; have hcz6_5 : w5.cell? ⟨gb112, 5, none⟩ = some (.string a0_5) := (blk_cell BK112.out 5).trans rfl; have hcz6_6 : w5.cell? ⟨gb112, 6, none⟩ = some (.bool a0_6) := (blk_cell BK112.out 6).trans rfl; have hcz6_7 : w5.cell? ⟨gb112, 7, none⟩ = some (.int .i64 a0_7) := (blk_cell BK112.out 7).trans rfl; have hcz6_8 : w5.cell? ⟨gb112, 8, none⟩ = some (.slice A0_8 l0_8.length c0_8) := (blk_cell BK112.out 8).trans rfl; have hcz6_9 : w5.cell? ⟨gb112, 9, none⟩ = some (.slice A0_9 l0_9.length c0_9) := (blk_cell BK112.out 9).trans rfl; have hcz6_10 : w5.cell? ⟨gb112, 10, none⟩ = some (.slice A0_10 l0_10.length c0_10) := (blk_cell BK112.out 10).trans rfl; have hcz6_11 : w5.cell? ⟨gb112, 11, none⟩ = some (.slice A0_11 l0_11.length c0_11) := (blk_cell BK112.out 11).trans rfl; have hcz6_12 : w5.cell? ⟨gb112, 12, none⟩ = some (.slice A0_12 l0_12.length c0_12) := (blk_cell BK112.out 12).trans rfl; have hcz6_13 : w5.cell? ⟨gb112, 13, none⟩ = some (.slice A0_13 l0_13.length c0_13) := (blk_cell BK112.out 13).trans rfl; have hcz6_14 : w5.cell? ⟨gb112, 14, none⟩ = some (.slice A0_14 l0_14.length c0_14) := (blk_cell BK112.out 14).trans rfl; have hcz6_15 : w5.cell? ⟨gb112, 15, none⟩ = some (.slice A0_15 l0_15.length c0_15) := (blk_cell BK112.out 15).trans rfl; have hcz6_16 : w5.cell? ⟨gb112, 16, none⟩ = some (.slice A0_16 l0_16.length c0_16) := (blk_cell BK112.out 16).trans rfl; have hfz6_0 := blk_frozen BK112.out 0; have hfz6_1 := blk_frozen BK112.out 1; have hfz6_2 := blk_frozen BK112.out 2; have hfz6_3 := blk_frozen BK112.out 3; have hfz6_4 := blk_frozen BK112.out 4; have hfz6_5 := blk_frozen BK112.out 5; have hfz6_6 := blk_frozen BK112.out 6; have hfz6_7 := blk_frozen BK112.out 7; have hfz6_8 := blk_frozen BK112.out 8; have hfz6_9 := blk_frozen BK112.out 9; have hfz6_10 := blk_frozen BK112.out 10; have hfz6_11 := blk_frozen BK112.out 11; have hfz6_12 := blk_frozen BK112.out 12; have hfz6_13 := blk_frozen BK112.out 13; have hfz6_14 := blk_frozen BK112.out 14; have hfz6_15 := blk_frozen BK112.out 15; have hfz6_16 := blk_frozen BK112.out 16))
  go_ret
  exact ⟨by first | rfl | (simp [i64_w]; done) | (simp [errW_none, errW_some] <;> rfl) | (simp only [← hji2, ← hji3, ← hji4]; first | rfl | (simp [errW_none, errW_some] <;> rfl)) | (simp [*, errW_none, errW_some] <;> rfl), by repeat (first | (with_reducible first | exact HB.out | apply below_alloc | apply pw_below_drewN | apply below_drew1 | refine below_set ?_ GE112.out) | exact HB.out)⟩

end Go.Proofs.Ytddoidcbpcmlaaa.M
-- written by a program of this session (wip/own_print.sh)
namespace Go.Proofs.Ytddoidcbpcmlaaa.M
open Go.RowKit Go.Proofs.YtddoidcbpcmlaaaW.PrintWords Go.Proofs.YtddoidcbpcmlaaaW.PrintLast Go.Proofs.YtddoidcbpcmlaaaW.PrintMore
attribute [local go_sem] max2_int min2_int max_two min_two max_three min_three max_four min_four   -- for this text's walks alone
set_option linter.unusedVariables false
set_option linter.unusedSimpArgs false
/-! ### trystlaw10_Few: function 34 -/
mutual
def trystlaw10_Few.l0 : Nat → Int → Int → Int → ByteArray → List (S104) → ByteArray → Option (Bool)
  | 0, _, _, _, _, _, _ => none
  | k + 1, x3, x15, x16, x120000, x120001, x120002 => if x16 < x15 then (if 0 ≤ x16 then (if x16 < (x120001.length : Int) then (trystlaw10_Few.l1 k (wrap64 ((wrap64 (x3 + (((rd_T104 x120001 x16).f0).size : Int))) + 1)) x16 x15 x16 (((rd_T104 x120001 x16).f1).length : Int) 0 x120000 x120001 x120002) else (none)) else (none)) else (some (decide (x3 ≤ 5000)))
def trystlaw10_Few.l1 : Nat → Int → Int → Int → Int → Int → Int → ByteArray → List (S104) → ByteArray → Option (Bool)
  | 0, _, _, _, _, _, _, _, _, _ => none
  | k + 1, x3, x4, x15, x16, x35, x36, x120000, x120001, x120002 => if x36 < x35 then (if 0 ≤ x4 then (if x4 < (x120001.length : Int) then (if 0 ≤ x36 then (if x36 < (((rd_T104 x120001 x4).f1).length : Int) then (trystlaw10_Few.l1 k (wrap64 ((wrap64 (x3 + ((rdOf ByteArray.empty ((rd_T104 x120001 x4).f1) x36).size : Int))) + 1)) x4 x15 x16 x35 (wrap64 (x36 + 1)) x120000 x120001 x120002) else (none)) else (none)) else (none)) else (none)) else (if x3 > 5000 then (some false) else (trystlaw10_Few.l0 k x3 x15 (wrap64 (x16 + 1)) x120000 x120001 x120002))
end
def trystlaw10_Few.f (k : Nat) (a0_0 : ByteArray) (l0_1 : List (S104)) (a0_2 : ByteArray) : Option (Bool) := trystlaw10_Few.l0 k (wrap64 ((a0_0.size : Int) + (a0_2.size : Int))) (l0_1.length : Int) 0 a0_0 l0_1 a0_2
set_option maxHeartbeats 8000000 in
set_option maxRecDepth 100000 in
theorem trystlaw10_Few.calls (k : Nat) (a0_0 : ByteArray) (A0_1 : Option Addr) (c0_1 : Nat) (l0_1 : List (S104)) (a0_2 : ByteArray) (r : Bool) (w : World) (hr0_1 : Kd.C k104 w A0_1 l0_1.length l0_1) (hc0_1 : l0_1.length ≤ c0_1) (h : trystlaw10_Few.f k a0_0 l0_1 a0_2 = some r) :
    Calls Try.prog 34 #[.agg #[.string a0_0, .slice A0_1 l0_1.length c0_1, .string a0_2]] w fun e w' => e = .returned (.bool r) ∧ Below w.heap.size w w' := by
  have hu80 := Try.underlying80
  have HR0_1 := Aside0.mk hr0_1
  have HC0_1 := Aside0.mk hc0_1
  clear hr0_1 hc0_1
  have HB := Aside0.mk (Below.refl w.heap.size w)
  have H : (trystlaw10_Few.l0 k (wrap64 ((a0_0.size : Int) + (a0_2.size : Int))) (l0_1.length : Int) 0 a0_0 l0_1 a0_2) = some r := h
  clear h
  have H' := Aside0.mk H
  clear H
  go_enter Try.func34, Try.ntmps34
  go_wp2_with (first | ((with_reducible refine gate_dst (N := 1) rfl ?_); refine box_event ?hg (N := 1) ?hd (cs := #[.string a0_0, .slice A0_1 l0_1.length c0_1, .string a0_2]) (t := 80) ?hr ?_; (case hd => rfl); (case hg => rfl); (case hr => first | (go_simp; done) | (go_simp; rfl)); intro gb119 hg w2 hbox hb; have n0_ := Aside0.mk (below_step (by repeat (first | (with_reducible first | exact HB.out | apply below_alloc | apply pw_below_drewN | apply below_drew1) | exact HB.out)) hb); have n1_ := Aside0.mk (hbox); have n2_ := Aside0.mk ((by rw [hg]; exact (below_size (by repeat (first | (with_reducible first | exact HB.out | apply below_alloc | apply pw_below_drewN | apply below_drew1) | exact HB.out))) : w.heap.size ≤ gb119)); have n3_ := Aside0.mk ((by rw [hg]; exact (below_size (by repeat (first | (with_reducible first | exact HB.out | apply below_alloc | apply pw_below_drewN | apply below_drew1) | exact HB.out))) : w.heap.size ≤ gb119)); clear HB; have HB := n0_; have BK119 := n1_; have GW119 := n2_; have GE119 := n3_; clear n0_ n1_ n2_ n3_; clear hb hbox hg; have hcz3_0 : w2.cell? ⟨gb119, 0, none⟩ = some (.string a0_0) := (blk_cell BK119.out 0).trans rfl; have hcz3_1 : w2.cell? ⟨gb119, 1, none⟩ = some (.slice A0_1 l0_1.length c0_1) := (blk_cell BK119.out 1).trans rfl; have hcz3_2 : w2.cell? ⟨gb119, 2, none⟩ = some (.string a0_2) := (blk_cell BK119.out 2).trans rfl; have hfz3_0 := blk_frozen BK119.out 0; have hfz3_1 := blk_frozen BK119.out 1; have hfz3_2 := blk_frozen BK119.out 2))
  go_loopg [3, 16] k (fun kq v3 v16 w' => ∃ (x3_1 : Int) (x16_1 : Int), v3 = .int .i64 x3_1 ∧ v16 = .int .i64 x16_1 ∧ Aside0 (trystlaw10_Few.l0 kq x3_1 (l0_1.length : Int) x16_1 a0_0 l0_1 a0_2 = some r) ∧ Aside0 (kq ≤ k) ∧ Aside0 (w'.heap[gb119]? = some (.cells #[.string a0_0, (.slice A0_1 l0_1.length c0_1), .string a0_2] 80 (0, 0))) ∧ Aside0 (Below w.heap.size w w'))
  case atStart => exact ⟨(wrap64 ((a0_0.size : Int) + (a0_2.size : Int))), (0), (by first | rfl | (simp; done) | (simp [*]; done)), (by first | rfl | (simp; done) | (simp [*]; done)), H', ⟨Nat.le_refl _⟩, ⟨by (with_reducible repeat (first | refine blk_drewN ?_ _ | refine blk_drew ?_ | refine blk_alloc ?_ _)); exact BK119.out⟩, ⟨by repeat (first | (with_reducible first | exact HB.out | apply below_alloc | apply pw_below_drewN | apply below_drew1 | refine below_set ?_ GE119.out) | exact HB.out)⟩⟩
  case round =>
    clear H'
    try clear p2
    try clear c3
    try clear hcz3_0
    try clear hcz3_1
    try clear hcz3_2
    try clear hfz3_0
    try clear hfz3_1
    try clear hfz3_2
    obtain ⟨x3_1, x16_1, rfl, rfl, HA, HK1, BK119, HB⟩ := hrel
    cases gk with
    | zero => exact absurd HA.out (by simp [trystlaw10_Few.l0])
    | succ k1 =>
      have H := HA.out
      clear HA
      simp only [trystlaw10_Few.l0] at H
      by_cases c4 : x16_1 < (l0_1.length : Int)
      · rw [if_pos c4] at H
        have c4b0 : decide (x16_1 < (l0_1.length : Int)) = true := decide_eq_true c4
        clear c4
        by_cases c5 : 0 ≤ x16_1
        · rw [if_pos c5] at H
          have c5b0 : decide (0 ≤ x16_1) = true := decide_eq_true c5
          clear c5
          by_cases c6 : x16_1 < (l0_1.length : Int)
          · rw [if_pos c6] at H
            have c6b0 : decide (x16_1 < (l0_1.length : Int)) = true := decide_eq_true c6
            clear c6
            have H' := Aside0.mk H
            clear H
            have hcz7_0 : wr.cell? ⟨gb119, 0, none⟩ = some (.string a0_0) := (blk_cell BK119.out 0).trans rfl
            have hcz7_1 : wr.cell? ⟨gb119, 1, none⟩ = some (.slice A0_1 l0_1.length c0_1) := (blk_cell BK119.out 1).trans rfl
            have hcz7_2 : wr.cell? ⟨gb119, 2, none⟩ = some (.string a0_2) := (blk_cell BK119.out 2).trans rfl
            have hfz7_0 := blk_frozen BK119.out 0
            have hfz7_1 := blk_frozen BK119.out 1
            have hfz7_2 := blk_frozen BK119.out 2
            have p120 : 0 ≤ (x16_1 : Int) := of_decide_eq_true (by first | (with_reducible assumption) | assumption)
            have q120 : x16_1 < (l0_1.length : Int) := of_decide_eq_true (by first | (with_reducible assumption) | assumption)
            obtain ⟨ad120, A120_1, c120_1, e120, hx120_0, hx120_1, hl120_1, hi120_1⟩ := at_T104 HR0_1.out x16_1 p120 q120
            cases e120
            replace hx120_0 := (HB.out.cell (World.block_lt_of_cell? w _ hx120_0)).trans hx120_0
            replace hx120_1 := (HB.out.cell (World.block_lt_of_cell? w _ hx120_1)).trans hx120_1
            have HR120_1 := Aside0.mk hi120_1
            have HC120_1 := Aside0.mk hl120_1
            clear hi120_1 hl120_1
            replace p120 := eq_true p120
            replace q120 := eq_true q120
            have p121 : 0 ≤ (x16_1 : Int) := of_decide_eq_true (by first | (with_reducible assumption) | assumption)
            have q121 : x16_1 < (l0_1.length : Int) := of_decide_eq_true (by first | (with_reducible assumption) | assumption)
            obtain ⟨ad121, A121_1, c121_1, e121, hx121_0, hx121_1, hl121_1, hi121_1⟩ := at_T104 HR0_1.out x16_1 p121 q121
            obtain rfl : ad120 = ad121 := (by injection e121)
            replace hx121_0 := (HB.out.cell (World.block_lt_of_cell? w _ hx121_0)).trans hx121_0
            replace hx121_1 := (HB.out.cell (World.block_lt_of_cell? w _ hx121_1)).trans hx121_1
            have HR121_1 := Aside0.mk hi121_1
            have HC121_1 := Aside0.mk hl121_1
            clear hi121_1 hl121_1
            replace p121 := eq_true p121
            replace q121 := eq_true q121
            have ea_ := Option.some.inj (hx120_1.symm.trans hx121_1)
            injection ea_ with ea_ en_ ec_
            subst ea_
            subst ec_
            clear en_
            go_wp2
            go_loopg [3, 36] k1 (fun kq v3 v36 w' => ∃ (x3_2 : Int) (x36_2 : Int), v3 = .int .i64 x3_2 ∧ v36 = .int .i64 x36_2 ∧ Aside0 (trystlaw10_Few.l1 kq x3_2 x16_1 (l0_1.length : Int) x16_1 (((rd_T104 l0_1 x16_1).f1).length : Int) x36_2 a0_0 l0_1 a0_2 = some r) ∧ Aside0 (kq ≤ k1) ∧ Aside0 (w'.heap[gb119]? = some (.cells #[.string a0_0, (.slice (some ad120) l0_1.length c0_1), .string a0_2] 80 (0, 0))) ∧ Aside0 (Below w.heap.size w w'))
            case atStart => exact ⟨(wrap64 ((wrap64 (x3_1 + (((rd_T104 l0_1 x16_1).f0).size : Int))) + 1)), (0), (by first | rfl | (simp; done) | (simp [*]; done)), (by first | rfl | (simp; done) | (simp [*]; done)), H', ⟨Nat.le_refl _⟩, ⟨by (with_reducible repeat (first | refine blk_drewN ?_ _ | refine blk_drew ?_ | refine blk_alloc ?_ _)); exact BK119.out⟩, ⟨by repeat (first | (with_reducible first | exact HB.out | apply below_alloc | apply pw_below_drewN | apply below_drew1 | refine below_set ?_ GE119.out) | exact HB.out)⟩⟩
            case round =>
              clear H'
              try clear c1
              try clear p1
              try clear q1
              try clear hx1
              try clear p2
              try clear c3
              try clear c4
              try clear c4b0
              try clear c5
              try clear c5b0
              try clear c6
              try clear c6b0
              try clear p6
              try clear hcz3_0
              try clear hcz3_1
              try clear hcz3_2
              try clear hcz7_0
              try clear hcz7_1
              try clear hcz7_2
              try clear hfz3_0
              try clear hfz3_1
              try clear hfz3_2
              try clear hfz7_0
              try clear hfz7_1
              try clear hfz7_2
              try clear hx120_0
              try clear hx120_1
              try clear hx121_0
              try clear hx121_1
              try clear p120
              try clear p121
              try clear p2
              try clear q120
              try clear q121
              obtain ⟨x3_2, x36_2, rfl, rfl, HA, HK2, BK119, HB⟩ := hrel
              cases gk with
              | zero => exact absurd HA.out (by simp [trystlaw10_Few.l1])
              | succ k2 =>
                have H := HA.out
                clear HA
                simp only [trystlaw10_Few.l1] at H
                by_cases c8 : x36_2 < (((rd_T104 l0_1 x16_1).f1).length : Int)
                · rw [if_pos c8] at H
                  have c8b0 : decide (x36_2 < (((rd_T104 l0_1 x16_1).f1).length : Int)) = true := decide_eq_true c8
                  clear c8
                  by_cases c9 : 0 ≤ x16_1
                  · rw [if_pos c9] at H
                    have c9b0 : decide (0 ≤ x16_1) = true := decide_eq_true c9
                    clear c9
                    by_cases c10 : x16_1 < (l0_1.length : Int)
                    · rw [if_pos c10] at H
                      have c10b0 : decide (x16_1 < (l0_1.length : Int)) = true := decide_eq_true c10
                      clear c10
                      by_cases c11 : 0 ≤ x36_2
                      · rw [if_pos c11] at H
                        have c11b0 : decide (0 ≤ x36_2) = true := decide_eq_true c11
                        clear c11
                        by_cases c12 : x36_2 < (((rd_T104 l0_1 x16_1).f1).length : Int)
                        · rw [if_pos c12] at H
                          have c12b0 : decide (x36_2 < (((rd_T104 l0_1 x16_1).f1).length : Int)) = true := decide_eq_true c12
                          clear c12
                          have H' := Aside0.mk H
                          clear H
                          have hcz13_0 : wr.cell? ⟨gb119, 0, none⟩ = some (.string a0_0) := (blk_cell BK119.out 0).trans rfl
                          have hcz13_1 : wr.cell? ⟨gb119, 1, none⟩ = some (.slice (some ad120) l0_1.length c0_1) := (blk_cell BK119.out 1).trans rfl
                          have hcz13_2 : wr.cell? ⟨gb119, 2, none⟩ = some (.string a0_2) := (blk_cell BK119.out 2).trans rfl
                          have hfz13_0 := blk_frozen BK119.out 0
                          have hfz13_1 := blk_frozen BK119.out 1
                          have hfz13_2 := blk_frozen BK119.out 2
                          have p122 : 0 ≤ (x16_1 : Int) := of_decide_eq_true (by first | (with_reducible assumption) | assumption)
                          have q122 : x16_1 < (l0_1.length : Int) := of_decide_eq_true (by first | (with_reducible assumption) | assumption)
                          obtain ⟨ad122, A122_1, c122_1, e122, hx122_0, hx122_1, hl122_1, hi122_1⟩ := at_T104 HR0_1.out x16_1 p122 q122
                          obtain rfl : ad120 = ad122 := (by injection e122)
                          replace hx122_0 := (HB.out.cell (World.block_lt_of_cell? w _ hx122_0)).trans hx122_0
                          replace hx122_1 := (HB.out.cell (World.block_lt_of_cell? w _ hx122_1)).trans hx122_1
                          have HR122_1 := Aside0.mk hi122_1
                          have HC122_1 := Aside0.mk hl122_1
                          clear hi122_1 hl122_1
                          replace p122 := eq_true p122
                          replace q122 := eq_true q122
                          have p123 : 0 ≤ (x36_2 : Int) := of_decide_eq_true (by first | (with_reducible assumption) | assumption)
                          have q123 : x36_2 < (((rd_T104 l0_1 x16_1).f1).length : Int) := of_decide_eq_true (by first | (with_reducible assumption) | assumption)
                          obtain ⟨ad123, e123, hx123_0⟩ := Kd.at_string HR122_1.out x36_2 p123 q123
                          cases e123
                          replace hx123_0 := (HB.out.cell (World.block_lt_of_cell? w _ hx123_0)).trans hx123_0
                          replace p123 := eq_true p123
                          replace q123 := eq_true q123
                          go_wp2
                          go_roundg k2
                          case measure => have := HK1.out; have := HK2.out; omega
                          case rel => exact ⟨(wrap64 ((wrap64 (x3_2 + ((rdOf ByteArray.empty ((rd_T104 l0_1 x16_1).f1) x36_2).size : Int))) + 1)), (wrap64 (x36_2 + 1)), (by first | rfl | (simp; done) | (simp [*]; done)), (by first | rfl | (simp; done) | (simp [*]; done)), H', ⟨by have := HK1.out; have := HK2.out; omega⟩, ⟨by (with_reducible repeat (first | refine blk_drewN ?_ _ | refine blk_drew ?_ | refine blk_alloc ?_ _)); exact BK119.out⟩, ⟨by repeat (first | (with_reducible first | exact HB.out | apply below_alloc | apply pw_below_drewN | apply below_drew1 | refine below_set ?_ GE119.out) | exact HB.out)⟩⟩
                        · rw [if_neg c12] at H
                          exact absurd H (by simp)
                      · rw [if_neg c11] at H
                        exact absurd H (by simp)
                    · rw [if_neg c10] at H
                      exact absurd H (by simp)
                  · rw [if_neg c9] at H
                    exact absurd H (by simp)
                · rw [if_neg c8] at H
                  have c8b0 : decide (x36_2 < (((rd_T104 l0_1 x16_1).f1).length : Int)) = false := decide_eq_false c8
                  clear c8
                  by_cases c14 : x3_2 > 5000
                  · rw [if_pos c14] at H
                    have c14b0 : decide (5000 < x3_2) = true := decide_eq_true c14
                    clear c14
                    obtain rfl := Option.some.inj H
                    go_wp2
                    go_ret
                    exact ⟨by first | rfl | (simp [i64_w]; done) | (simp [errW_none, errW_some] <;> rfl) | (simp [*, errW_none, errW_some] <;> rfl), by repeat (first | (with_reducible first | exact HB.out | apply below_alloc | apply pw_below_drewN | apply below_drew1 | refine below_set ?_ GE119.out) | exact HB.out)⟩
                  · rw [if_neg c14] at H
                    have c14b0 : decide (5000 < x3_2) = false := decide_eq_false c14
                    clear c14
                    have H' := Aside0.mk H
                    clear H
                    go_wp2
                    go_roundg k2
                    case measure => have := HK1.out; have := HK2.out; omega
                    case rel => exact ⟨(x3_2), (wrap64 (x16_1 + 1)), (by first | rfl | (simp; done) | (simp [*]; done)), (by first | rfl | (simp; done) | (simp [*]; done)), H', ⟨by have := HK1.out; have := HK2.out; omega⟩, ⟨by (with_reducible repeat (first | refine blk_drewN ?_ _ | refine blk_drew ?_ | refine blk_alloc ?_ _)); exact BK119.out⟩, ⟨by repeat (first | (with_reducible first | exact HB.out | apply below_alloc | apply pw_below_drewN | apply below_drew1 | refine below_set ?_ GE119.out) | exact HB.out)⟩⟩
          · rw [if_neg c6] at H
            exact absurd H (by simp)
        · rw [if_neg c5] at H
          exact absurd H (by simp)
      · rw [if_neg c4] at H
        have c4b0 : decide (x16_1 < (l0_1.length : Int)) = false := decide_eq_false c4
        clear c4
        obtain rfl := Option.some.inj H
        go_wp2
        go_ret
        exact ⟨by first | rfl | (simp [i64_w]; done) | (simp [errW_none, errW_some] <;> rfl) | (simp [*, errW_none, errW_some] <;> rfl), by repeat (first | (with_reducible first | exact HB.out | apply below_alloc | apply pw_below_drewN | apply below_drew1 | refine below_set ?_ GE119.out) | exact HB.out)⟩

-- NOT PRINTED: function 16 (trystlaw18_Few)
end Go.Proofs.Ytddoidcbpcmlaaa.M
