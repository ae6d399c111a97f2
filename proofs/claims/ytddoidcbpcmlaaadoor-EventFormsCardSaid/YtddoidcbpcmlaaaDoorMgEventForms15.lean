/- Texts of this claim, merged: Ml10F. -/
import Derived.Test.YtddoidcbpcmlaaaDoorMgEventForms13
namespace Go.Proofs.YtddoidcbpcmlaaaDoor.M
open Go.RowKit Go.Proofs.YtddoidcbpcmlaaaDoorW.PrintWords Go.Proofs.YtddoidcbpcmlaaaDoorW.PrintLast Go.Proofs.YtddoidcbpcmlaaaDoorW.PrintMore
attribute [local go_sem] max2_int min2_int max_two min_two
set_option linter.unusedVariables false
set_option linter.unusedSimpArgs false
/-! ### trystlaw10_Few: function 12 -/
mutual
def trystlaw10_Few.l0 : Nat → Int → Int → Int → ByteArray → List (S72) → ByteArray → Option (Bool)
 | 0, _, _, _, _, _, _ => none
 | k + 1, x3, x15, x16, x121000, x121001, x121002 => if x16 < x15 then (if 0 ≤ x16 then (if x16 < (x121001.length : Int) then (trystlaw10_Few.l1 k (wrap64 ((wrap64 (x3 + (((rd_T72 x121001 x16).f0).size : Int))) + 1)) x16 x15 x16 (((rd_T72 x121001 x16).f1).length : Int) 0 x121000 x121001 x121002) else (none)) else (none)) else (some (decide (x3 ≤ 5000)))
def trystlaw10_Few.l1 : Nat → Int → Int → Int → Int → Int → Int → ByteArray → List (S72) → ByteArray → Option (Bool)
 | 0, _, _, _, _, _, _, _, _, _ => none
 | k + 1, x3, x4, x15, x16, x35, x36, x121000, x121001, x121002 => if x36 < x35 then (if 0 ≤ x4 then (if x4 < (x121001.length : Int) then (if 0 ≤ x36 then (if x36 < (((rd_T72 x121001 x4).f1).length : Int) then (trystlaw10_Few.l1 k (wrap64 ((wrap64 (x3 + ((rdOf ByteArray.empty ((rd_T72 x121001 x4).f1) x36).size : Int))) + 1)) x4 x15 x16 x35 (wrap64 (x36 + 1)) x121000 x121001 x121002) else (none)) else (none)) else (none)) else (none)) else (if x3 > 5000 then (some false) else (trystlaw10_Few.l0 k x3 x15 (wrap64 (x16 + 1)) x121000 x121001 x121002))
end
def trystlaw10_Few.f (k : Nat) (a0_0 : ByteArray) (l0_1 : List (S72)) (a0_2 : ByteArray) : Option (Bool) := trystlaw10_Few.l0 k (wrap64 ((a0_0.size : Int) + (a0_2.size : Int))) (l0_1.length : Int) 0 a0_0 l0_1 a0_2
set_option maxHeartbeats 8000000 in
set_option maxRecDepth 100000 in
theorem trystlaw10_Few.calls (k : Nat) (a0_0 : ByteArray) (A0_1 : Option Addr) (c0_1 : Nat) (l0_1 : List (S72)) (a0_2 : ByteArray) (r : Bool) (w : World) (hr0_1 : Kd.C k72 w A0_1 l0_1.length l0_1) (hc0_1 : l0_1.length ≤ c0_1) (h : trystlaw10_Few.f k a0_0 l0_1 a0_2 = some r) :
  Calls Tryd.prog 12 #[.agg #[.string a0_0, .slice A0_1 l0_1.length c0_1, .string a0_2]] w fun e w' => e = .returned (.bool r) ∧ Below w.heap.size w w' := by
 have hu51 := Tryd.underlying51
 have HR0_1 := Aside0.mk hr0_1
 have HC0_1 := Aside0.mk hc0_1
 clear hr0_1 hc0_1
 have HB := Aside0.mk (Below.refl w.heap.size w)
 have H : (trystlaw10_Few.l0 k (wrap64 ((a0_0.size : Int) + (a0_2.size : Int))) (l0_1.length : Int) 0 a0_0 l0_1 a0_2) = some r := h
 clear h
 have H' := Aside0.mk H
 clear H
 go_enter Tryd.func12, Tryd.ntmps12
 go_wp2_with (first | ((with_reducible refine gate_dst (N := 1) rfl ?_); refine box_event ?hg (N := 1) ?hd (cs := #[.string a0_0, .slice A0_1 l0_1.length c0_1, .string a0_2]) (t := 51) ?hr ?_; (case hd => rfl); (case hg => rfl); (case hr => first | (go_simp; done) | (go_simp; rfl)); intro gb120 hg w2 hbox hb; have n0_ := Aside0.mk (below_step (by repeat (first | (with_reducible first | exact HB.out | apply below_alloc | apply pw_below_drewN | apply below_drew1) | exact HB.out)) hb); have n1_ := Aside0.mk (hbox); have n2_ := Aside0.mk ((by rw [hg]; exact (below_size (by repeat (first | (with_reducible first | exact HB.out | apply below_alloc | apply pw_below_drewN | apply below_drew1) | exact HB.out))) : w.heap.size ≤ gb120)); have n3_ := Aside0.mk ((by rw [hg]; exact (below_size (by repeat (first | (with_reducible first | exact HB.out | apply below_alloc | apply pw_below_drewN | apply below_drew1) | exact HB.out))) : w.heap.size ≤ gb120)); clear HB; have HB := n0_; have BK120 := n1_; have GW120 := n2_; have GE120 := n3_; clear n0_ n1_ n2_ n3_; clear hb hbox hg; have hcz3_0 : w2.cell? ⟨gb120, 0, none⟩ = some (.string a0_0) := (blk_cell BK120.out 0).trans rfl; have hcz3_1 : w2.cell? ⟨gb120, 1, none⟩ = some (.slice A0_1 l0_1.length c0_1) := (blk_cell BK120.out 1).trans rfl; have hcz3_2 : w2.cell? ⟨gb120, 2, none⟩ = some (.string a0_2) := (blk_cell BK120.out 2).trans rfl; have hfz3_0 := blk_frozen BK120.out 0; have hfz3_1 := blk_frozen BK120.out 1; have hfz3_2 := blk_frozen BK120.out 2))
 go_loopg [3, 16] k (fun kq v3 v16 w' => ∃ (x3_1 : Int) (x16_1 : Int), v3 = .int .i64 x3_1 ∧ v16 = .int .i64 x16_1 ∧ Aside0 (trystlaw10_Few.l0 kq x3_1 (l0_1.length : Int) x16_1 a0_0 l0_1 a0_2 = some r) ∧ Aside0 (kq ≤ k) ∧ Aside0 (w'.heap[gb120]? = some (.cells #[.string a0_0, (.slice A0_1 l0_1.length c0_1), .string a0_2] 51 (0, 0))) ∧ Aside0 (Below w.heap.size w w'))
 case atStart => exact ⟨(wrap64 ((a0_0.size : Int) + (a0_2.size : Int))), (0), (by first | rfl | (simp; done) | (simp [*]; done)), (by first | rfl | (simp; done) | (simp [*]; done)), H', ⟨Nat.le_refl _⟩, ⟨by (with_reducible repeat (first | refine blk_drewN ?_ _ | refine blk_drew ?_ | refine blk_alloc ?_ _)); exact BK120.out⟩, ⟨by repeat (first | (with_reducible first | exact HB.out | apply below_alloc | apply pw_below_drewN | apply below_drew1 | refine below_set ?_ GE120.out) | exact HB.out)⟩⟩
 case round =>
  clear H'
  try clear c1
  try clear p2
  try clear hcz3_0
  try clear hcz3_1
  try clear hcz3_2
  try clear hfz3_0
  try clear hfz3_1
  try clear hfz3_2
  obtain ⟨x3_1, x16_1, rfl, rfl, HA, HK1, BK120, HB⟩ := hrel
  cases gk with
  | zero => exact absurd HA.out (by simp [trystlaw10_Few.l0])
  | succ k1 =>
   have H := HA.out
   clear HA
   simp only [trystlaw10_Few.l0] at H
   by_cases c4 : x16_1 < (l0_1.length : Int)
   ·rw [if_pos c4] at H
    have c4b0 : decide (x16_1 < (l0_1.length : Int)) = true := decide_eq_true c4
    clear c4
    by_cases c5 : 0 ≤ x16_1
    ·rw [if_pos c5] at H
     have c5b0 : decide (0 ≤ x16_1) = true := decide_eq_true c5
     clear c5
     by_cases c6 : x16_1 < (l0_1.length : Int)
     ·rw [if_pos c6] at H
      have c6b0 : decide (x16_1 < (l0_1.length : Int)) = true := decide_eq_true c6
      clear c6
      have H' := Aside0.mk H
      clear H
      have hcz7_0 : wr.cell? ⟨gb120, 0, none⟩ = some (.string a0_0) := (blk_cell BK120.out 0).trans rfl
      have hcz7_1 : wr.cell? ⟨gb120, 1, none⟩ = some (.slice A0_1 l0_1.length c0_1) := (blk_cell BK120.out 1).trans rfl
      have hcz7_2 : wr.cell? ⟨gb120, 2, none⟩ = some (.string a0_2) := (blk_cell BK120.out 2).trans rfl
      have hfz7_0 := blk_frozen BK120.out 0
      have hfz7_1 := blk_frozen BK120.out 1
      have hfz7_2 := blk_frozen BK120.out 2
      have p121 : 0 ≤ (x16_1 : Int) := of_decide_eq_true (by first | (with_reducible assumption) | assumption)
      have q121 : x16_1 < (l0_1.length : Int) := of_decide_eq_true (by first | (with_reducible assumption) | assumption)
      obtain ⟨ad121, A121_1, c121_1, e121, hx121_0, hx121_1, hl121_1, hi121_1⟩ := at_T72 HR0_1.out x16_1 p121 q121
      cases e121
      replace hx121_0 := (HB.out.cell (World.block_lt_of_cell? w _ hx121_0)).trans hx121_0
      replace hx121_1 := (HB.out.cell (World.block_lt_of_cell? w _ hx121_1)).trans hx121_1
      have HR121_1 := Aside0.mk hi121_1
      have HC121_1 := Aside0.mk hl121_1
      clear hi121_1 hl121_1
      replace p121 := eq_true p121
      replace q121 := eq_true q121
      have p122 : 0 ≤ (x16_1 : Int) := of_decide_eq_true (by first | (with_reducible assumption) | assumption)
      have q122 : x16_1 < (l0_1.length : Int) := of_decide_eq_true (by first | (with_reducible assumption) | assumption)
      obtain ⟨ad122, A122_1, c122_1, e122, hx122_0, hx122_1, hl122_1, hi122_1⟩ := at_T72 HR0_1.out x16_1 p122 q122
      obtain rfl : ad121 = ad122 := (by injection e122)
      replace hx122_0 := (HB.out.cell (World.block_lt_of_cell? w _ hx122_0)).trans hx122_0
      replace hx122_1 := (HB.out.cell (World.block_lt_of_cell? w _ hx122_1)).trans hx122_1
      have HR122_1 := Aside0.mk hi122_1
      have HC122_1 := Aside0.mk hl122_1
      clear hi122_1 hl122_1
      replace p122 := eq_true p122
      replace q122 := eq_true q122
      have ea_ := Option.some.inj (hx121_1.symm.trans hx122_1)
      injection ea_ with ea_ en_ ec_
      subst ea_
      subst ec_
      clear en_
      go_wp2
      go_loopg [3, 36] k1 (fun kq v3 v36 w' => ∃ (x3_2 : Int) (x36_2 : Int), v3 = .int .i64 x3_2 ∧ v36 = .int .i64 x36_2 ∧ Aside0 (trystlaw10_Few.l1 kq x3_2 x16_1 (l0_1.length : Int) x16_1 (((rd_T72 l0_1 x16_1).f1).length : Int) x36_2 a0_0 l0_1 a0_2 = some r) ∧ Aside0 (kq ≤ k1) ∧ Aside0 (w'.heap[gb120]? = some (.cells #[.string a0_0, (.slice (some ad121) l0_1.length c0_1), .string a0_2] 51 (0, 0))) ∧ Aside0 (Below w.heap.size w w'))
      case atStart => exact ⟨(wrap64 ((wrap64 (x3_1 + (((rd_T72 l0_1 x16_1).f0).size : Int))) + 1)), (0), (by first | rfl | (simp; done) | (simp [*]; done)), (by first | rfl | (simp; done) | (simp [*]; done)), H', ⟨Nat.le_refl _⟩, ⟨by (with_reducible repeat (first | refine blk_drewN ?_ _ | refine blk_drew ?_ | refine blk_alloc ?_ _)); exact BK120.out⟩, ⟨by repeat (first | (with_reducible first | exact HB.out | apply below_alloc | apply pw_below_drewN | apply below_drew1 | refine below_set ?_ GE120.out) | exact HB.out)⟩⟩
      case round =>
       clear H'
       try clear c1
       try clear p1
       try clear q1
       try clear hx1
       try clear p2
       try clear c4
       try clear c4b0
       try clear c5
       try clear c5b0
       try clear c6
       try clear c6b0
       try clear p6
       try clear hcz3_0
       try clear hcz3_1
       try clear hcz3_2
       try clear hcz7_0
       try clear hcz7_1
       try clear hcz7_2
       try clear hfz3_0
       try clear hfz3_1
       try clear hfz3_2
       try clear hfz7_0
       try clear hfz7_1
       try clear hfz7_2
       try clear hx121_0
       try clear hx121_1
       try clear hx122_0
       try clear hx122_1
       try clear p121
       try clear p122
       try clear p2
       try clear q121
       try clear q122
       obtain ⟨x3_2, x36_2, rfl, rfl, HA, HK2, BK120, HB⟩ := hrel
       cases gk with
       | zero => exact absurd HA.out (by simp [trystlaw10_Few.l1])
       | succ k2 =>
        have H := HA.out
        clear HA
        simp only [trystlaw10_Few.l1] at H
        by_cases c8 : x36_2 < (((rd_T72 l0_1 x16_1).f1).length : Int)
        ·rw [if_pos c8] at H
         have c8b0 : decide (x36_2 < (((rd_T72 l0_1 x16_1).f1).length : Int)) = true := decide_eq_true c8
         clear c8
         by_cases c9 : 0 ≤ x16_1
         ·rw [if_pos c9] at H
          have c9b0 : decide (0 ≤ x16_1) = true := decide_eq_true c9
          clear c9
          by_cases c10 : x16_1 < (l0_1.length : Int)
          ·rw [if_pos c10] at H
           have c10b0 : decide (x16_1 < (l0_1.length : Int)) = true := decide_eq_true c10
           clear c10
           by_cases c11 : 0 ≤ x36_2
           ·rw [if_pos c11] at H
            have c11b0 : decide (0 ≤ x36_2) = true := decide_eq_true c11
            clear c11
            by_cases c12 : x36_2 < (((rd_T72 l0_1 x16_1).f1).length : Int)
            ·rw [if_pos c12] at H
             have c12b0 : decide (x36_2 < (((rd_T72 l0_1 x16_1).f1).length : Int)) = true := decide_eq_true c12
             clear c12
             have H' := Aside0.mk H
             clear H
             have hcz13_0 : wr.cell? ⟨gb120, 0, none⟩ = some (.string a0_0) := (blk_cell BK120.out 0).trans rfl
             have hcz13_1 : wr.cell? ⟨gb120, 1, none⟩ = some (.slice (some ad121) l0_1.length c0_1) := (blk_cell BK120.out 1).trans rfl
             have hcz13_2 : wr.cell? ⟨gb120, 2, none⟩ = some (.string a0_2) := (blk_cell BK120.out 2).trans rfl
             have hfz13_0 := blk_frozen BK120.out 0
             have hfz13_1 := blk_frozen BK120.out 1
             have hfz13_2 := blk_frozen BK120.out 2
             have p123 : 0 ≤ (x16_1 : Int) := of_decide_eq_true (by first | (with_reducible assumption) | assumption)
             have q123 : x16_1 < (l0_1.length : Int) := of_decide_eq_true (by first | (with_reducible assumption) | assumption)
             obtain ⟨ad123, A123_1, c123_1, e123, hx123_0, hx123_1, hl123_1, hi123_1⟩ := at_T72 HR0_1.out x16_1 p123 q123
             obtain rfl : ad121 = ad123 := (by injection e123)
             replace hx123_0 := (HB.out.cell (World.block_lt_of_cell? w _ hx123_0)).trans hx123_0
             replace hx123_1 := (HB.out.cell (World.block_lt_of_cell? w _ hx123_1)).trans hx123_1
             have HR123_1 := Aside0.mk hi123_1
             have HC123_1 := Aside0.mk hl123_1
             clear hi123_1 hl123_1
             replace p123 := eq_true p123
             replace q123 := eq_true q123
             have p124 : 0 ≤ (x36_2 : Int) := of_decide_eq_true (by first | (with_reducible assumption) | assumption)
             have q124 : x36_2 < (((rd_T72 l0_1 x16_1).f1).length : Int) := of_decide_eq_true (by first | (with_reducible assumption) | assumption)
             obtain ⟨ad124, e124, hx124_0⟩ := Kd.at_string HR123_1.out x36_2 p124 q124
             cases e124
             replace hx124_0 := (HB.out.cell (World.block_lt_of_cell? w _ hx124_0)).trans hx124_0
             replace p124 := eq_true p124
             replace q124 := eq_true q124
             go_wp2
             go_roundg k2
             case measure => have := HK1.out; have := HK2.out; omega
             case rel => exact ⟨(wrap64 ((wrap64 (x3_2 + ((rdOf ByteArray.empty ((rd_T72 l0_1 x16_1).f1) x36_2).size : Int))) + 1)), (wrap64 (x36_2 + 1)), (by first | rfl | (simp; done) | (simp [*]; done)), (by first | rfl | (simp; done) | (simp [*]; done)), H', ⟨by have := HK1.out; have := HK2.out; omega⟩, ⟨by (with_reducible repeat (first | refine blk_drewN ?_ _ | refine blk_drew ?_ | refine blk_alloc ?_ _)); exact BK120.out⟩, ⟨by repeat (first | (with_reducible first | exact HB.out | apply below_alloc | apply pw_below_drewN | apply below_drew1 | refine below_set ?_ GE120.out) | exact HB.out)⟩⟩
            ·rw [if_neg c12] at H
             exact absurd H (by simp)
           ·rw [if_neg c11] at H
            exact absurd H (by simp)
          ·rw [if_neg c10] at H
           exact absurd H (by simp)
         ·rw [if_neg c9] at H
          exact absurd H (by simp)
        ·rw [if_neg c8] at H
         have c8b0 : decide (x36_2 < (((rd_T72 l0_1 x16_1).f1).length : Int)) = false := decide_eq_false c8
         clear c8
         by_cases c14 : x3_2 > 5000
         ·rw [if_pos c14] at H
          have c14b0 : decide (5000 < x3_2) = true := decide_eq_true c14
          clear c14
          obtain rfl := Option.some.inj H
          go_wp2
          go_ret
          exact ⟨by first | rfl | (simp [i64_w]; done) | (simp [errW_none, errW_some] <;> rfl) | (simp [*, errW_none, errW_some] <;> rfl), by repeat (first | (with_reducible first | exact HB.out | apply below_alloc | apply pw_below_drewN | apply below_drew1 | refine below_set ?_ GE120.out) | exact HB.out)⟩
         ·rw [if_neg c14] at H
          have c14b0 : decide (5000 < x3_2) = false := decide_eq_false c14
          clear c14
          have H' := Aside0.mk H
          clear H
          go_wp2
          go_roundg k2
          case measure => have := HK1.out; have := HK2.out; omega
          case rel => exact ⟨(x3_2), (wrap64 (x16_1 + 1)), (by first | rfl | (simp; done) | (simp [*]; done)), (by first | rfl | (simp; done) | (simp [*]; done)), H', ⟨by have := HK1.out; have := HK2.out; omega⟩, ⟨by (with_reducible repeat (first | refine blk_drewN ?_ _ | refine blk_drew ?_ | refine blk_alloc ?_ _)); exact BK120.out⟩, ⟨by repeat (first | (with_reducible first | exact HB.out | apply below_alloc | apply pw_below_drewN | apply below_drew1 | refine below_set ?_ GE120.out) | exact HB.out)⟩⟩
     ·rw [if_neg c6] at H
      exact absurd H (by simp)
    ·rw [if_neg c5] at H
     exact absurd H (by simp)
   ·rw [if_neg c4] at H
    have c4b0 : decide (x16_1 < (l0_1.length : Int)) = false := decide_eq_false c4
    clear c4
    obtain rfl := Option.some.inj H
    go_wp2
    go_ret
    exact ⟨by first | rfl | (simp [i64_w]; done) | (simp [errW_none, errW_some] <;> rfl) | (simp [*, errW_none, errW_some] <;> rfl), by repeat (first | (with_reducible first | exact HB.out | apply below_alloc | apply pw_below_drewN | apply below_drew1 | refine below_set ?_ GE120.out) | exact HB.out)⟩

end Go.Proofs.YtddoidcbpcmlaaaDoor.M
