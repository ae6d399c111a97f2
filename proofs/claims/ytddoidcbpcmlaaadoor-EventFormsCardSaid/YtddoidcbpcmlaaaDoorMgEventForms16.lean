/- Texts of this claim, merged: Ml10T. -/
import Derived.Test.YtddoidcbpcmlaaaDoorMgEventForms13
namespace Go.Proofs.YtddoidcbpcmlaaaDoor.M
open Go.RowKit Go.Proofs.YtddoidcbpcmlaaaDoorW.PrintWords Go.Proofs.YtddoidcbpcmlaaaDoorW.PrintLast Go.Proofs.YtddoidcbpcmlaaaDoorW.PrintMore
attribute [local go_sem] max2_int min2_int max_two min_two
set_option linter.unusedVariables false
set_option linter.unusedSimpArgs false
/-! ### trystlaw10_Theirs: function 22 -/
def trystlaw10_Theirs.l0 : Nat → Int → Int → ByteArray → List (S72) → ByteArray → ByteArray → List (S79) → ByteArray → Option (ByteArray × (List (S79)) × ByteArray)
 | 0, _, _, _, _, _, _, _, _ => none
 | k + 1, x12, x13, x205000, x205001, x205002, x207000, x207001, x207002 => if x13 < x12 then (if 0 ≤ x13 then (if x13 < (x205001.length : Int) then ((some (([] : List ByteArray) : List ByteArray)).bind fun y208 => (if y208.length + ((rd_T72 x205001 x13).f1).length < 8796093022208 then (if x207001.length < 3518437208883 then (trystlaw10_Theirs.l0 k x12 (wrap64 (x13 + 1)) x205000 x205001 x205002 x207000 (x207001 ++ [(⟨(rd_T72 x205001 x13).f0, (y208 ++ ((rd_T72 x205001 x13).f1))⟩ : S79)]) x207002) else (none)) else (none))) else (none)) else (none)) else (some (x207000, x207001, x207002))
def trystlaw10_Theirs.f (k : Nat) (a0_0 : ByteArray) (l0_1 : List (S72)) (a0_2 : ByteArray) : Option (ByteArray × (List (S79)) × ByteArray) := trystlaw10_Theirs.l0 k (l0_1.length : Int) 0 a0_0 l0_1 a0_2 a0_0 ([] : List (S79)) a0_2
def trystlaw10_Theirs.T5 : Bool × List (List Nat × List Nat) := (true, [([], []), ([0], [0]), ([], []), ([2], [2]), ([], []), ([3, 4], [3, 4]), ([5], [5]), ([6], [6]), ([], []), ([], []), ([9], [9]), ([], []), ([10, 11], [10, 11]), ([12], [12]), ([13], [13]), ([8, 14], [8, 14]), ([7, 15], [7, 15]), ([16], [16]), ([1, 17, 15], [1, 17]), ([0, 1, 2, 3, 4, 5, 6, 7, 8, 9, 10, 11, 12, 13, 14, 15, 16, 17, 18], []), ([19, 18, 18, 0, 1, 2, 3, 4, 5, 6, 7, 8, 9, 10, 11, 12, 13, 14, 15, 16, 17, 18], [18, 19])])
def trystlaw10_Theirs.B5 : List Nat := [0, 1, 0, 4, 0, 28, 60, 124, 0, 0, 512, 0, 3584, 7680, 15872, 32512, 65532, 131068, 262143, 524287, 1048575]
theorem trystlaw10_Theirs.tab5 : rtab .any (opsOf Tryd.f22 5) = trystlaw10_Theirs.T5 := by kernel_rfl
theorem trystlaw10_Theirs.bits5 : waitsOk trystlaw10_Theirs.T5.2 trystlaw10_Theirs.B5 = true := by kernel_rfl
set_option maxHeartbeats 8000000 in
set_option maxRecDepth 100000 in
theorem trystlaw10_Theirs.calls (k : Nat) (a0_0 : ByteArray) (A0_1 : Option Addr) (c0_1 : Nat) (l0_1 : List (S72)) (a0_2 : ByteArray) (r1 : ByteArray) (r2 : List (S79)) (r3 : ByteArray) (w : World) (hr0_1 : Kd.C k72 w A0_1 l0_1.length l0_1) (hc0_1 : l0_1.length ≤ c0_1) (h : trystlaw10_Theirs.f k a0_0 l0_1 a0_2 = some (r1, r2, r3)) :
  Calls Tryd.prog 22 #[.agg #[.string a0_0, .slice A0_1 l0_1.length c0_1, .string a0_2]] w fun e w' => ∃ v1_ : Value, e = .returned (.agg #[.string r1, v1_, .string r3]) ∧ Kd.S k79 79 w' w.heap.size (fun _ => True) v1_ r2 ∧ Below w.heap.size w w' := by
 have hu51 := Tryd.underlying51
 have hu58 := Tryd.underlying58
 have hu79 := Tryd.underlying79
 have HR0_1 := Aside0.mk hr0_1
 have HC0_1 := Aside0.mk hc0_1
 clear hr0_1 hc0_1
 have HB := Aside0.mk (Below.refl w.heap.size w)
 have H : (trystlaw10_Theirs.l0 k (l0_1.length : Int) 0 a0_0 l0_1 a0_2 a0_0 ([] : List (S79)) a0_2) = some (r1, r2, r3) := h
 clear h
 have H' := Aside0.mk H
 clear H
 go_enter Tryd.func22, Tryd.ntmps22
 go_wp2_with (first | ((with_reducible refine gate_dst (N := 1) rfl ?_); refine box_event ?hg (N := 1) ?hd (cs := #[.string a0_0, .slice A0_1 l0_1.length c0_1, .string a0_2]) (t := 51) ?hr ?_; (case hd => rfl); (case hg => rfl); (case hr => first | (go_simp; done) | (go_simp; rfl)); intro gb204 hg w2 hbox hb; have n0_ := Aside0.mk (below_step (by repeat (first | (with_reducible first | exact HB.out | apply below_alloc | apply pw_below_drewN | apply below_drew1) | exact HB.out)) hb); have n1_ := Aside0.mk (hbox); have n2_ := Aside0.mk ((by rw [hg]; exact (below_size (by repeat (first | (with_reducible first | exact HB.out | apply below_alloc | apply pw_below_drewN | apply below_drew1) | exact HB.out))) : w.heap.size ≤ gb204)); have n3_ := Aside0.mk ((by rw [hg]; exact (below_size (by repeat (first | (with_reducible first | exact HB.out | apply below_alloc | apply pw_below_drewN | apply below_drew1) | exact HB.out))) : w.heap.size ≤ gb204)); clear HB; have HB := n0_; have BK204 := n1_; have GW204 := n2_; have GE204 := n3_; clear n0_ n1_ n2_ n3_; clear hb hbox hg) | ((with_reducible refine gate_dst (N := 2) rfl ?_); refine box_event ?hg (N := 2) ?hd (cs := #[.string (⟨#[]⟩ : ByteArray), .slice none 0 0, .string (⟨#[]⟩ : ByteArray)]) (t := 58) ?hr ?_; (case hd => rfl); (case hg => rfl); (case hr => first | (go_simp; done) | (go_simp; rfl)); intro gb205 hg w3 hbox hb; have n0_ := Aside0.mk (blk_below (g := gb204) (o := .cells #[.string a0_0, .slice A0_1 l0_1.length c0_1, .string a0_2] 51 (0, 0)) (by (with_reducible repeat (first | refine blk_drewN ?_ _ | refine blk_drew ?_ | refine blk_alloc ?_ _)); exact BK204.out) hb); have n1_ := Aside0.mk (below_step (by repeat (first | (with_reducible first | exact HB.out | apply below_alloc | apply pw_below_drewN | apply below_drew1 | refine below_set ?_ GE204.out) | exact HB.out)) hb); have n2_ := Aside0.mk (hbox); have n3_ := Aside0.mk ((by rw [hg]; exact (below_size (by repeat (first | (with_reducible first | exact HB.out | apply below_alloc | apply pw_below_drewN | apply below_drew1 | refine below_set ?_ GE204.out) | exact HB.out))) : w.heap.size ≤ gb205)); have n4_ := Aside0.mk ((by rw [hg]; exact (below_size (by repeat (first | (with_reducible first | exact HB.out | apply below_alloc | apply pw_below_drewN | apply below_drew1 | refine below_set ?_ GE204.out) | exact HB.out))) : w.heap.size ≤ gb205)); have n5_ := Aside0.mk ((by rw [hg]; exact Nat.ne_of_lt (blk_lt (g := gb204) (o := .cells #[.string a0_0, .slice A0_1 l0_1.length c0_1, .string a0_2] 51 (0, 0)) (by (with_reducible repeat (first | refine blk_drewN ?_ _ | refine blk_drew ?_ | refine blk_alloc ?_ _)); exact BK204.out)) : gb204 ≠ gb205)); have n6_ := Aside0.mk ((by rw [hg]; exact Nat.ne_of_gt (blk_lt (g := gb204) (o := .cells #[.string a0_0, .slice A0_1 l0_1.length c0_1, .string a0_2] 51 (0, 0)) (by (with_reducible repeat (first | refine blk_drewN ?_ _ | refine blk_drew ?_ | refine blk_alloc ?_ _)); exact BK204.out)) : gb205 ≠ gb204)); clear BK204; clear HB; have BK204 := n0_; have HB := n1_; have BK205 := n2_; have GW205 := n3_; have GE205 := n4_; have NB204_205 := n5_; have NB205_204 := n6_; clear n0_ n1_ n2_ n3_ n4_ n5_ n6_; clear hb hbox hg; have hnb4 := NB204_205.out; have hnc4 := NB205_204.out; have hcz5_0 : w3.cell? ⟨gb204, 0, none⟩ = some (.string a0_0) := (blk_cell BK204.out 0).trans rfl; have hcz5_1 : w3.cell? ⟨gb204, 1, none⟩ = some (.slice A0_1 l0_1.length c0_1) := (blk_cell BK204.out 1).trans rfl; have hcz5_2 : w3.cell? ⟨gb204, 2, none⟩ = some (.string a0_2) := (blk_cell BK204.out 2).trans rfl; have hfz5_0 := blk_frozen BK204.out 0; have hfz5_1 := blk_frozen BK204.out 1; have hfz5_2 := blk_frozen BK204.out 2) | ((with_reducible refine gate_dst (N := 3) rfl ?_); refine box_event ?hg (N := 3) ?hd (cs := #[.string (⟨#[]⟩ : ByteArray), .slice none 0 0, .string (⟨#[]⟩ : ByteArray)]) (t := 58) ?hr ?_; (case hd => rfl); (case hg => rfl); (case hr => first | (go_simp; done) | (go_simp; rfl)); intro gb206 hg w6 hbox hb; have n0_ := Aside0.mk (blk_below (g := gb204) (o := .cells #[.string a0_0, .slice A0_1 l0_1.length c0_1, .string a0_2] 51 (0, 0)) (by (with_reducible repeat (first | refine blk_drewN ?_ _ | refine blk_drew ?_ | refine blk_alloc ?_ _)); exact BK204.out) hb); have n1_ := Aside0.mk (blk_below (g := gb205) (o := .cells #[.string (⟨#[]⟩ : ByteArray), .slice none 0 0, .string (⟨#[]⟩ : ByteArray)] 58 (0, 0)) (by (with_reducible repeat (first | refine blk_drewN ?_ _ | refine blk_drew ?_ | refine blk_alloc ?_ _)); exact BK205.out) hb); have n2_ := Aside0.mk (below_step (by repeat (first | (with_reducible first | exact HB.out | apply below_alloc | apply pw_below_drewN | apply below_drew1 | refine below_set ?_ GE204.out | refine below_set ?_ GE205.out) | exact HB.out)) hb); have n3_ := Aside0.mk (hbox); have n4_ := Aside0.mk ((by rw [hg]; exact (below_size (by repeat (first | (with_reducible first | exact HB.out | apply below_alloc | apply pw_below_drewN | apply below_drew1 | refine below_set ?_ GE204.out | refine below_set ?_ GE205.out) | exact HB.out))) : w.heap.size ≤ gb206)); have n5_ := Aside0.mk ((by rw [hg]; exact (below_size (by repeat (first | (with_reducible first | exact HB.out | apply below_alloc | apply pw_below_drewN | apply below_drew1 | refine below_set ?_ GE204.out | refine below_set ?_ GE205.out) | exact HB.out))) : w.heap.size ≤ gb206)); have n6_ := Aside0.mk ((by rw [hg]; exact Nat.ne_of_lt (blk_lt (g := gb204) (o := .cells #[.string a0_0, .slice A0_1 l0_1.length c0_1, .string a0_2] 51 (0, 0)) (by (with_reducible repeat (first | refine blk_drewN ?_ _ | refine blk_drew ?_ | refine blk_alloc ?_ _)); exact BK204.out)) : gb204 ≠ gb206)); have n7_ := Aside0.mk ((by rw [hg]; exact Nat.ne_of_gt (blk_lt (g := gb204) (o := .cells #[.string a0_0, .slice A0_1 l0_1.length c0_1, .string a0_2] 51 (0, 0)) (by (with_reducible repeat (first | refine blk_drewN ?_ _ | refine blk_drew ?_ | refine blk_alloc ?_ _)); exact BK204.out)) : gb206 ≠ gb204)); have n8_ := Aside0.mk ((by rw [hg]; exact Nat.ne_of_lt (blk_lt (g := gb205) (o := .cells #[.string (⟨#[]⟩ : ByteArray), .slice none 0 0, .string (⟨#[]⟩ : ByteArray)] 58 (0, 0)) (by (with_reducible repeat (first | refine blk_drewN ?_ _ | refine blk_drew ?_ | refine blk_alloc ?_ _)); exact BK205.out)) : gb205 ≠ gb206)); have n9_ := Aside0.mk ((by rw [hg]; exact Nat.ne_of_gt (blk_lt (g := gb205) (o := .cells #[.string (⟨#[]⟩ : ByteArray), .slice none 0 0, .string (⟨#[]⟩ : ByteArray)] 58 (0, 0)) (by (with_reducible repeat (first | refine blk_drewN ?_ _ | refine blk_drew ?_ | refine blk_alloc ?_ _)); exact BK205.out)) : gb206 ≠ gb205)); clear BK204; clear BK205; clear HB; have BK204 := n0_; have BK205 := n1_; have HB := n2_; have BK206 := n3_; have GW206 := n4_; have GE206 := n5_; have NB204_206 := n6_; have NB206_204 := n7_; have NB205_206 := n8_; have NB206_205 := n9_; clear n0_ n1_ n2_ n3_ n4_ n5_ n6_ n7_ n8_ n9_; clear hb hbox hg; have hnb7 := NB206_204.out; have hnc7 := NB204_206.out; have hnb8 := NB206_205.out; have hnc8 := NB205_206.out; have hcz9_0 : w6.cell? ⟨gb206, 0, none⟩ = some (.string (⟨#[]⟩ : ByteArray)) := (blk_cell BK206.out 0).trans rfl; have hcz9_1 : w6.cell? ⟨gb206, 1, none⟩ = some (.slice none 0 0) := (blk_cell BK206.out 1).trans rfl; have hcz9_2 : w6.cell? ⟨gb206, 2, none⟩ = some (.string (⟨#[]⟩ : ByteArray)) := (blk_cell BK206.out 2).trans rfl; have hfz9_0 := blk_frozen BK206.out 0; have hfz9_1 := blk_frozen BK206.out 1; have hfz9_2 := blk_frozen BK206.out 2; have hcz10_0 : w6.cell? ⟨gb204, 0, none⟩ = some (.string a0_0) := (blk_cell BK204.out 0).trans rfl; have hcz10_1 : w6.cell? ⟨gb204, 1, none⟩ = some (.slice A0_1 l0_1.length c0_1) := (blk_cell BK204.out 1).trans rfl; have hcz10_2 : w6.cell? ⟨gb204, 2, none⟩ = some (.string a0_2) := (blk_cell BK204.out 2).trans rfl; have hfz10_0 := blk_frozen BK204.out 0; have hfz10_1 := blk_frozen BK204.out 1; have hfz10_2 := blk_frozen BK204.out 2))
 go_loopg [13] k (fun kq v13 w' => ∃ (x13_1 : Int) (x207001_1 : List (S79)) (u207001 : Value), v13 = .int .i64 x13_1 ∧ Aside0 (trystlaw10_Theirs.l0 kq (l0_1.length : Int) x13_1 a0_0 l0_1 a0_2 a0_0 x207001_1 a0_2 = some (r1, r2, r3)) ∧ Aside0 (kq ≤ k) ∧ Aside0 (Kd.S k79 79 w' w.heap.size (fun _ => True) u207001 x207001_1) ∧ Aside0 (w'.heap[gb204]? = some (.cells #[.string a0_0, (.slice A0_1 l0_1.length c0_1), .string a0_2] 51 (0, 0))) ∧ Aside0 (w'.heap[gb205]? = some (.cells #[.string (⟨#[]⟩ : ByteArray), (.slice none 0 0), .string (⟨#[]⟩ : ByteArray)] 58 (0, 0))) ∧ Aside0 (w'.heap[gb206]? = some (.cells #[.string a0_0, u207001, .string a0_2] 58 (0, 0))) ∧ Aside0 (Below w.heap.size w w'))
 case atStart => exact ⟨(0), (([] : List (S79))), (.slice none 0 0), (by first | rfl | (simp; done) | (simp [*]; done)), H', ⟨Nat.le_refl _⟩, ⟨by first | exact Kd.S_nil _ _ _ _ _ | exact Kd.N_nil _ _ _ _ _ | exact Kd.V_nil _ _ _ _ _ | exact Kd.Q_nil _ _ _ _ _ | exact Kd.R_nil _ _ _ _ _⟩, ⟨by (with_reducible repeat (first | refine blk_drewN ?_ _ | refine blk_drew ?_ | refine blk_alloc ?_ _)); refine blk_far ?_ NB204_206.out _; (with_reducible repeat (first | refine blk_drewN ?_ _ | refine blk_drew ?_ | refine blk_alloc ?_ _)); refine blk_far ?_ NB204_206.out _; (with_reducible repeat (first | refine blk_drewN ?_ _ | refine blk_drew ?_ | refine blk_alloc ?_ _)); refine blk_far ?_ NB204_206.out _; (with_reducible repeat (first | refine blk_drewN ?_ _ | refine blk_drew ?_ | refine blk_alloc ?_ _)); exact BK204.out⟩, ⟨by (with_reducible repeat (first | refine blk_drewN ?_ _ | refine blk_drew ?_ | refine blk_alloc ?_ _)); refine blk_far ?_ NB205_206.out _; (with_reducible repeat (first | refine blk_drewN ?_ _ | refine blk_drew ?_ | refine blk_alloc ?_ _)); refine blk_far ?_ NB205_206.out _; (with_reducible repeat (first | refine blk_drewN ?_ _ | refine blk_drew ?_ | refine blk_alloc ?_ _)); refine blk_far ?_ NB205_206.out _; (with_reducible repeat (first | refine blk_drewN ?_ _ | refine blk_drew ?_ | refine blk_alloc ?_ _)); exact BK205.out⟩, ⟨by (with_reducible repeat (first | refine blk_drewN ?_ _ | refine blk_drew ?_ | refine blk_alloc ?_ _)); refine blk_put (cs := #[.string a0_0, .slice none 0 0, .string (⟨#[]⟩ : ByteArray)]) ?_ 2 _ rfl; (with_reducible repeat (first | refine blk_drewN ?_ _ | refine blk_drew ?_ | refine blk_alloc ?_ _)); refine blk_put (cs := #[.string a0_0, .slice none 0 0, .string (⟨#[]⟩ : ByteArray)]) ?_ 1 _ rfl; (with_reducible repeat (first | refine blk_drewN ?_ _ | refine blk_drew ?_ | refine blk_alloc ?_ _)); refine blk_put (cs := #[.string (⟨#[]⟩ : ByteArray), .slice none 0 0, .string (⟨#[]⟩ : ByteArray)]) ?_ 0 _ rfl; (with_reducible repeat (first | refine blk_drewN ?_ _ | refine blk_drew ?_ | refine blk_alloc ?_ _)); exact BK206.out⟩, ⟨by repeat (first | (with_reducible first | exact HB.out | apply below_alloc | apply pw_below_drewN | apply below_drew1 | refine below_set ?_ GE204.out | refine below_set ?_ GE205.out | refine below_set ?_ GE206.out) | exact HB.out)⟩⟩
 case round =>
  clear H'
  try clear c2
  try clear p2
  try clear c4
  try clear c7
  try clear c8
  try clear hcz10_0
  try clear hcz10_1
  try clear hcz10_2
  try clear hcz5_0
  try clear hcz5_1
  try clear hcz5_2
  try clear hcz9_0
  try clear hcz9_1
  try clear hcz9_2
  try clear hfz10_0
  try clear hfz10_1
  try clear hfz10_2
  try clear hfz5_0
  try clear hfz5_1
  try clear hfz5_2
  try clear hfz9_0
  try clear hfz9_1
  try clear hfz9_2
  obtain ⟨x13_1, x207001_1, u207001, rfl, HA, HK1, HO_207001, BK204, BK205, BK206, HB⟩ := hrel
  cases gk with
  | zero => exact absurd HA.out (by simp [trystlaw10_Theirs.l0])
  | succ k1 =>
   have H := HA.out
   clear HA
   simp only [trystlaw10_Theirs.l0] at H
   by_cases c11 : x13_1 < (l0_1.length : Int)
   ·rw [if_pos c11] at H
    have c11b0 : decide (x13_1 < (l0_1.length : Int)) = true := decide_eq_true c11
    clear c11
    by_cases c12 : 0 ≤ x13_1
    ·rw [if_pos c12] at H
     have c12b0 : decide (0 ≤ x13_1) = true := decide_eq_true c12
     clear c12
     by_cases c13 : x13_1 < (l0_1.length : Int)
     ·rw [if_pos c13] at H
      have c13b0 : decide (x13_1 < (l0_1.length : Int)) = true := decide_eq_true c13
      clear c13
      obtain ⟨y208, hy208⟩ : ∃ y_ : List ByteArray, y_ = (([] : List ByteArray)) := ⟨_, rfl⟩
      replace H : (if y208.length + ((rd_T72 l0_1 x13_1).f1).length < 8796093022208 then (if x207001_1.length < 3518437208883 then (trystlaw10_Theirs.l0 k1 (l0_1.length : Int) (wrap64 (x13_1 + 1)) a0_0 l0_1 a0_2 a0_0 (x207001_1 ++ [(⟨(rd_T72 l0_1 x13_1).f0, (y208 ++ ((rd_T72 l0_1 x13_1).f1))⟩ : S79)]) a0_2) else (none)) else (none)) = some (r1, r2, r3) := by first | (rw [hy208]; with_reducible exact H) | (have H2_ := (Option.bind_some _ _).symm.trans H; rw [hy208]; with_reducible exact H2_) | (have H2_ := (Option.bind_some _ _).symm.trans H; with_reducible exact H2_) | with_reducible exact H | (rw [hy208]; exact H) | exact H
      have Ny208 := Aside0.mk hy208
      clear hy208
      by_cases c14 : y208.length + ((rd_T72 l0_1 x13_1).f1).length < 8796093022208
      ·rw [if_pos c14] at H
       have LMc14 := Aside0.mk c14
       clear c14
       obtain ⟨y212, hy212⟩ : ∃ y_ : List ByteArray, y_ = (y208 ++ ((rd_T72 l0_1 x13_1).f1)) := ⟨_, rfl⟩
       replace H : (if x207001_1.length < 3518437208883 then (trystlaw10_Theirs.l0 k1 (l0_1.length : Int) (wrap64 (x13_1 + 1)) a0_0 l0_1 a0_2 a0_0 (x207001_1 ++ [(⟨(rd_T72 l0_1 x13_1).f0, y212⟩ : S79)]) a0_2) else (none)) = some (r1, r2, r3) := by first | (rw [hy212]; with_reducible exact H) | (have H2_ := (Option.bind_some _ _).symm.trans H; rw [hy212]; with_reducible exact H2_) | (have H2_ := (Option.bind_some _ _).symm.trans H; with_reducible exact H2_) | with_reducible exact H | (rw [hy212]; exact H) | exact H
       have Ny212 := Aside0.mk hy212
       clear hy212
       by_cases c15 : x207001_1.length < 3518437208883
       ·rw [if_pos c15] at H
        have LMc15 := Aside0.mk c15
        clear c15
        obtain ⟨y215, hy215⟩ : ∃ y_ : List (S79), y_ = (x207001_1 ++ [(⟨(rd_T72 l0_1 x13_1).f0, y212⟩ : S79)]) := ⟨_, rfl⟩
        replace H : (trystlaw10_Theirs.l0 k1 (l0_1.length : Int) (wrap64 (x13_1 + 1)) a0_0 l0_1 a0_2 a0_0 y215 a0_2) = some (r1, r2, r3) := by first | (rw [hy215]; with_reducible exact H) | (have H2_ := (Option.bind_some _ _).symm.trans H; rw [hy215]; with_reducible exact H2_) | (have H2_ := (Option.bind_some _ _).symm.trans H; with_reducible exact H2_) | with_reducible exact H | (rw [hy215]; exact H) | exact H
        have Ny215 := Aside0.mk hy215
        clear hy215
        have H' := Aside0.mk H
        clear H
        try go_wp2
        have n0_ := Aside0.mk (Kd.S_drew HO_207001.out)
        have n1_ := Aside0.mk (blk_drew BK204.out)
        have n2_ := Aside0.mk (blk_drew BK205.out)
        have n3_ := Aside0.mk (blk_drew BK206.out)
        have n4_ := Aside0.mk (below_drew1 HB.out)
        clear HO_207001
        clear BK204
        clear BK205
        clear BK206
        clear HB
        have HO_207001 := n0_
        have BK204 := n1_
        have BK205 := n2_
        have BK206 := n3_
        have HB := n4_
        clear n0_ n1_ n2_ n3_ n4_
        have p207 : 0 ≤ (x13_1 : Int) := of_decide_eq_true (by first | (with_reducible assumption) | assumption)
        have q207 : x13_1 < (l0_1.length : Int) := of_decide_eq_true (by first | (with_reducible assumption) | assumption)
        obtain ⟨ad207, A207_1, c207_1, e207, hx207_0, hx207_1, hl207_1, hi207_1⟩ := at_T72 HR0_1.out x13_1 p207 q207
        have hw207_1 := hx207_1
        have hw207_0 := hx207_0
        cases e207
        replace hx207_0 := (HB.out.cell (World.block_lt_of_cell? w _ hx207_0)).trans hx207_0
        replace hx207_1 := (HB.out.cell (World.block_lt_of_cell? w _ hx207_1)).trans hx207_1
        have HR207_1 := Aside0.mk hi207_1
        have HC207_1 := Aside0.mk hl207_1
        clear hi207_1 hl207_1
        replace p207 := eq_true p207
        replace q207 := eq_true q207
        have p211 : 0 ≤ (x13_1 : Int) := of_decide_eq_true (by first | (with_reducible assumption) | assumption)
        have q211 : x13_1 < (l0_1.length : Int) := of_decide_eq_true (by first | (with_reducible assumption) | assumption)
        obtain ⟨ad211, A211_1, c211_1, e211, hx211_0, hx211_1, hl211_1, hi211_1⟩ := at_T72 HR0_1.out x13_1 p211 q211
        have hw211_1 := hx211_1
        have hw211_0 := hx211_0
        obtain rfl : ad207 = ad211 := (by injection e211)
        replace hx211_0 := (HB.out.cell (World.block_lt_of_cell? w _ hx211_0)).trans hx211_0
        replace hx211_1 := (HB.out.cell (World.block_lt_of_cell? w _ hx211_1)).trans hx211_1
        have HR211_1 := Aside0.mk hi211_1
        have HC211_1 := Aside0.mk hl211_1
        clear hi211_1 hl211_1
        replace p211 := eq_true p211
        replace q211 := eq_true q211
        have ea_ := Option.some.inj (hx207_1.symm.trans hx211_1)
        injection ea_ with ea_ en_ ec_
        subst ea_
        subst ec_
        clear en_
        refine start_ (n := 21) (S := fun w' => w'.cell? ⟨gb206, 0, none⟩ = some (.string a0_0) ∧ w'.cell? ⟨gb206, 1, none⟩ = some (u207001) ∧ w'.cell? ⟨gb206, 2, none⟩ = some (.string a0_2) ∧ w'.cell? ⟨gb204, 0, none⟩ = some (.string a0_0) ∧ w'.cell? ⟨gb204, 1, none⟩ = some (.slice (some ad207) l0_1.length c0_1) ∧ w'.cell? ⟨gb204, 2, none⟩ = some (.string a0_2) ∧ w'.cell? (ad207.add ((x13_1).toNat * 2)) = some (.string ((rd_T72 l0_1 x13_1).f0)) ∧ w'.cell? ⟨(ad207.add ((x13_1).toNat * 2)).block, (ad207.add ((x13_1).toNat * 2)).off + 1, none⟩ = some (.slice A207_1 ((rd_T72 l0_1 x13_1).f1).length c207_1) ∧ w'.cell? (ad207.add ((x13_1).toNat * 2)) = some (.string ((rd_T72 l0_1 x13_1).f0)) ∧ w'.cell? ⟨(ad207.add ((x13_1).toNat * 2)).block, (ad207.add ((x13_1).toNat * 2)).off + 1, none⟩ = some (.slice A207_1 ((rd_T72 l0_1 x13_1).f1).length c207_1)) (ds := [20]) (fl 21 0) (by kernel_rfl) rfl rfl ⟨(blk_cell BK206.out 0).trans rfl, (blk_cell BK206.out 1).trans rfl, (blk_cell BK206.out 2).trans rfl, (blk_cell BK204.out 0).trans rfl, (blk_cell BK204.out 1).trans rfl, (blk_cell BK204.out 2).trans rfl, ((HB.out.cell (World.block_lt_of_cell? w _ hw207_0)).trans hw207_0), ((HB.out.cell (World.block_lt_of_cell? w _ hw207_1)).trans hw207_1), ((HB.out.cell (World.block_lt_of_cell? w _ hw211_0)).trans hw211_0), ((HB.out.cell (World.block_lt_of_cell? w _ hw211_1)).trans hw211_1)⟩ (fun hHeld => ?_); refine with_tabW trystlaw10_Theirs.tab5 trystlaw10_Theirs.bits5 (fun HT_ HW_ => ?_)
        generalize wr.drew = w16 at HO_207001 BK204 BK205 BK206 HB HR207_1 HR211_1 hx207_0 hx207_1 hx211_0 hx211_1 hHeld ⊢
        refine pu 0 (some 16) (fl 21 1) HT_ ?_
        refine pu 2 (some 18) #[true, false, true, false, false, false, false, false, false, false, false, false, false, false, false, false, false, false, false, false, false] HT_ ?_
        refine pu 4 (some 20) #[true, false, true, false, true, false, false, false, false, false, false, false, false, false, false, false, false, false, false, false, false] HT_ ?_
        refine pu 9 (some 25) #[true, false, true, false, true, false, false, false, false, true, false, false, false, false, false, false, false, false, false, false, false] HT_ ?_
        refine pu 11 (some 27) #[true, false, true, false, true, false, false, false, false, true, false, true, false, false, false, false, false, false, false, false, false] HT_ ?_
        refine take_ (i := 1) (N := some 17) (v := ?_) (a' := ?_) #[true, true, true, false, true, false, false, false, false, true, false, true, false, false, false, false, false, false, false, false, false] rfl rfl (take_ofW HT_.out HW_.out (by kernel_rfl)) (fun _ _ _ h => h) (Or.inl ⟨by rfl, ?_⟩) hHeld ?_ ?_
        rotate_left
        ·rintro w' ⟨s0, s1, s2, s3, s4, s5, s6, s7, s8, s9⟩
         go_simp
         with_reducible rfl
        rotate_left
        ·simp only [Act.put, sA, sB, sC, i64_w, i32_w]
         rfl
        refine take_ (i := 3) (N := some 19) (v := ?_) (a' := ?_) #[true, true, true, true, true, false, false, false, false, true, false, true, false, false, false, false, false, false, false, false, false] rfl rfl (take_ofW HT_.out HW_.out (by kernel_rfl)) (fun _ _ _ h => h) (Or.inl ⟨by rfl, ?_⟩) hHeld ?_ ?_
        rotate_left
        ·rintro w' ⟨s0, s1, s2, s3, s4, s5, s6, s7, s8, s9⟩
         go_simp
         with_reducible rfl
        rotate_left
        ·simp only [Act.put, sA, sB, sC, i64_w, i32_w]
         rfl
        refine pu 5 (some 21) #[true, true, true, true, true, true, false, false, false, true, false, true, false, false, false, false, false, false, false, false, false] HT_ ?_
        refine pu 6 (some 22) #[true, true, true, true, true, true, true, false, false, true, false, true, false, false, false, false, false, false, false, false, false] HT_ ?_
        refine take_ (i := 7) (N := some 23) (v := ?_) (a' := ?_) #[true, true, true, true, true, true, true, true, false, true, false, true, false, false, false, false, false, false, false, false, false] rfl rfl (take_ofW HT_.out HW_.out (by kernel_rfl)) (fun _ _ _ h => h) (Or.inl ⟨by rfl, ?_⟩) hHeld ?_ ?_
        rotate_left
        ·rintro w' ⟨s0, s1, s2, s3, s4, s5, s6, s7, s8, s9⟩
         go_simp
         with_reducible rfl
        rotate_left
        ·simp only [Act.put, sA, sB, sC, i64_w, i32_w]
         rfl
        refine take_ (i := 10) (N := some 26) (v := ?_) (a' := ?_) #[true, true, true, true, true, true, true, true, false, true, true, true, false, false, false, false, false, false, false, false, false] rfl rfl (take_ofW HT_.out HW_.out (by kernel_rfl)) (fun _ _ _ h => h) (Or.inl ⟨by rfl, ?_⟩) hHeld ?_ ?_
        rotate_left
        ·rintro w' ⟨s0, s1, s2, s3, s4, s5, s6, s7, s8, s9⟩
         go_simp
         with_reducible rfl
        rotate_left
        ·simp only [Act.put, sA, sB, sC, i64_w, i32_w]
         rfl
        refine pu 12 (some 28) #[true, true, true, true, true, true, true, true, false, true, true, true, true, false, false, false, false, false, false, false, false] HT_ ?_
        refine pu 13 (some 29) #[true, true, true, true, true, true, true, true, false, true, true, true, true, true, false, false, false, false, false, false, false] HT_ ?_
        refine take_ (i := 14) (N := some 30) (v := ?_) (a' := ?_) #[true, true, true, true, true, true, true, true, false, true, true, true, true, true, true, false, false, false, false, false, false] rfl rfl (take_ofW HT_.out HW_.out (by kernel_rfl)) (fun _ _ _ h => h) (Or.inl ⟨by rfl, ?_⟩) hHeld ?_ ?_
        rotate_left
        ·rintro w' ⟨s0, s1, s2, s3, s4, s5, s6, s7, s8, s9⟩
         go_simp
         with_reducible rfl
        rotate_left
        ·simp only [Act.put, sA, sB, sC, i64_w, i32_w]
         rfl
        refine one_ (i := 8) (N := some 24) (fl 21 15) rfl rfl (one_of HT_.out (by kernel_rfl)) (by decide) (fun K hK => ?_)
        refine Kd.R_lit_step Kd.string _ 9 ?hg (N := 24) ?hd (xs := ([] : List ByteArray)) (inner := []) (ok := fun _ => True) (okp := fun _ => True) ?hr ?hp (fun _ hk => hk) trivial (Below.refl _ _) (Nat.le_refl _) (by simp) ?_; (case hd => rfl); (case hg => rfl); (case hr => first | (go_simp; done) | (go_simp; rfl)); (case hp => exact (Reps.none _ _))
        intro v209 w17 ho18 hb hg_ hnew_
        clear hg_ hnew_
        (first | rw [← Ny208.out] at ho18 | (simp only [Int.reduceToNat] at ho18; rw [← Ny208.out] at ho18))
        have n0_ := Aside0.mk (Kd.S_elder' (by (with_reducible repeat (first | apply Kd.S_alloc | apply Kd.S_drewN | apply Kd.S_drew)); exact HO_207001.out) (Kd.R_base ho18) hb)
        have n1_ := Aside0.mk (Kd.R_lower ho18 (below_size (by repeat (first | (with_reducible first | exact HB.out | apply below_alloc | apply pw_below_drewN | apply below_drew1 | refine below_set ?_ GE204.out | refine below_set ?_ GE205.out | refine below_set ?_ GE206.out) | exact HB.out))))
        have n2_ := Aside0.mk (blk_below (g := gb204) (o := .cells #[.string a0_0, .slice (some ad207) l0_1.length c0_1, .string a0_2] 51 (0, 0)) (by (with_reducible repeat (first | refine blk_drewN ?_ _ | refine blk_drew ?_ | refine blk_alloc ?_ _)); exact BK204.out) hb)
        have n3_ := Aside0.mk (blk_below (g := gb205) (o := .cells #[.string (⟨#[]⟩ : ByteArray), .slice none 0 0, .string (⟨#[]⟩ : ByteArray)] 58 (0, 0)) (by (with_reducible repeat (first | refine blk_drewN ?_ _ | refine blk_drew ?_ | refine blk_alloc ?_ _)); exact BK205.out) hb)
        have n4_ := Aside0.mk (blk_below (g := gb206) (o := .cells #[.string a0_0, u207001, .string a0_2] 58 (0, 0)) (by (with_reducible repeat (first | refine blk_drewN ?_ _ | refine blk_drew ?_ | refine blk_alloc ?_ _)); exact BK206.out) hb)
        have n5_ := Aside0.mk (below_step (by repeat (first | (with_reducible first | exact HB.out | apply below_alloc | apply pw_below_drewN | apply below_drew1 | refine below_set ?_ GE204.out | refine below_set ?_ GE205.out | refine below_set ?_ GE206.out) | exact HB.out)) hb)
        clear HO_207001
        clear BK204
        clear BK205
        clear BK206
        clear HB
        have HO_207001 := n0_
        have HO210 := n1_
        have BK204 := n2_
        have BK205 := n3_
        have BK206 := n4_
        have HB := n5_
        clear n0_ n1_ n2_ n3_ n4_ n5_
        clear hb ho18
        refine hK.out _ _ ⟨(blk_cell BK206.out 0).trans rfl, (blk_cell BK206.out 1).trans rfl, (blk_cell BK206.out 2).trans rfl, (blk_cell BK204.out 0).trans rfl, (blk_cell BK204.out 1).trans rfl, (blk_cell BK204.out 2).trans rfl, ((HB.out.cell (World.block_lt_of_cell? w _ hw207_0)).trans hw207_0), ((HB.out.cell (World.block_lt_of_cell? w _ hw207_1)).trans hw207_1), ((HB.out.cell (World.block_lt_of_cell? w _ hw211_0)).trans hw211_0), ((HB.out.cell (World.block_lt_of_cell? w _ hw211_1)).trans hw211_1)⟩ (fun hHeld => ?_)
        clear hK K
        refine norm_ (a' := ?_) ?_ ?_
        rotate_left
        ·show Act.put _ (some 24) _ = _
         simp only [Act.put, sA, sB, sC, i64_w, i32_w]
         rfl
        refine one_ (i := 15) (N := some 31) (fl 21 16) rfl rfl (one_of HT_.out (by kernel_rfl)) (by decide) (fun K hK => ?_)
        refine Kd.R_append_rows_step Kd.string (w0 := w) w.heap.size (by rfl) (.tmp 24) (.tmp 30) 70 9 (.string ⟨#[]⟩) 16 rfl Tryd.underlying70 info9 rfl (by decide) (by omega) v209 y208 ((rd_T72 l0_1 x13_1).f1) _ _ _ (fun _ => True) (fun _ => False) rfl rfl ?aO ?aR (fun _ _ h => h) (fun _ h => h.elim) ?aF ?aB ?aS ?aL ?_
        (case aR => repeat (first | exact (Kd.C_below HR211_1.out HB.out) | (with_reducible refine Kd.C_alloc ?_ _) | (with_reducible refine Kd.C_drewN ?_ _) | (with_reducible refine Kd.C_drew ?_)))
        (case aB => exact (by repeat (first | (with_reducible first | exact HB.out | apply below_alloc | apply pw_below_drewN | apply below_drew1 | refine below_set ?_ GE204.out | refine below_set ?_ GE205.out | refine below_set ?_ GE206.out) | exact HB.out)))
        (case aF => exact (fun _ _ => trivial))
        (case aO => exact (by (with_reducible repeat (first | apply Kd.R_alloc | apply Kd.R_drewN | apply Kd.R_drew)); exact HO210.out))
        (case aS => exact (below_size (by repeat (first | (with_reducible first | exact HB.out | apply below_alloc | apply pw_below_drewN | apply below_drew1 | refine below_set ?_ GE204.out | refine below_set ?_ GE205.out | refine below_set ?_ GE206.out) | exact HB.out))))
        (case aL => have := LMc14.out; omega)
        intro v213 w19 ho hb hg hat
        rw [← Ny212.out] at ho
        have n0_ := Aside0.mk (Kd.S_after (ok := (fun _ => True)) (by (with_reducible repeat (first | apply Kd.S_alloc | apply Kd.S_drewN | apply Kd.S_drew)); exact HO_207001.out) hg hat)
        have n1_ := Aside0.mk (blk_grown (g := gb204) (o := .cells #[.string a0_0, .slice (some ad207) l0_1.length c0_1, .string a0_2] 51 (0, 0)) (by (with_reducible repeat (first | refine blk_drewN ?_ _ | refine blk_drew ?_ | refine blk_alloc ?_ _)); exact BK204.out) hg (Kd.R_ne HO210.out BK204.out (by decide)))
        have n2_ := Aside0.mk (blk_grown (g := gb205) (o := .cells #[.string (⟨#[]⟩ : ByteArray), .slice none 0 0, .string (⟨#[]⟩ : ByteArray)] 58 (0, 0)) (by (with_reducible repeat (first | refine blk_drewN ?_ _ | refine blk_drew ?_ | refine blk_alloc ?_ _)); exact BK205.out) hg (Kd.R_ne HO210.out BK205.out (by decide)))
        have n3_ := Aside0.mk (blk_grown (g := gb206) (o := .cells #[.string a0_0, u207001, .string a0_2] 58 (0, 0)) (by (with_reducible repeat (first | refine blk_drewN ?_ _ | refine blk_drew ?_ | refine blk_alloc ?_ _)); exact BK206.out) hg (Kd.R_ne HO210.out BK206.out (by decide)))
        have n4_ := Aside0.mk (hb)
        have n5_ := Aside0.mk (ho)
        clear HO_207001
        clear BK204
        clear BK205
        clear BK206
        clear HB
        clear HO210
        have HO_207001 := n0_
        have BK204 := n1_
        have BK205 := n2_
        have BK206 := n3_
        have HB := n4_
        have HO214 := n5_
        clear n0_ n1_ n2_ n3_ n4_ n5_
        clear ho hb hg hat
        obtain ⟨Ao20, co20, eo20⟩ := Kd.R_slice HO214.out
        (first | subst eo20 | (injection eo20 with f1_ f2_ f3_; have f4_ := f1_.symm; have f5_ := f3_.symm; clear f1_ f2_ f3_; subst f4_; subst f5_))
        refine hK.out _ _ ⟨(blk_cell BK206.out 0).trans rfl, (blk_cell BK206.out 1).trans rfl, (blk_cell BK206.out 2).trans rfl, (blk_cell BK204.out 0).trans rfl, (blk_cell BK204.out 1).trans rfl, (blk_cell BK204.out 2).trans rfl, ((HB.out.cell (World.block_lt_of_cell? w _ hw207_0)).trans hw207_0), ((HB.out.cell (World.block_lt_of_cell? w _ hw207_1)).trans hw207_1), ((HB.out.cell (World.block_lt_of_cell? w _ hw211_0)).trans hw211_0), ((HB.out.cell (World.block_lt_of_cell? w _ hw211_1)).trans hw211_1)⟩ (fun hHeld => ?_)
        clear hK K
        refine norm_ (a' := ?_) ?_ ?_
        rotate_left
        ·show Act.put _ (some 31) _ = _
         simp only [Act.put, sA, sB, sC, i64_w, i32_w]
         rfl
        refine pu 16 (some 32) (fl 21 17) HT_ ?_
        refine one_ (i := 17) (N := some 33) (fl 21 18) rfl rfl (one_of HT_.out (by kernel_rfl)) (by decide) (fun K hK => ?_)
        refine value_ (w1 := ?_) (v := ?_) (by rfl) rfl ?_ ?_
        rotate_left 2
        ·go_simp
         constructor
         ·rfl
         ·rfl
        refine hK.out _ _ ⟨(blk_cell (blk_alloc BK206.out _) 0).trans rfl, (blk_cell (blk_alloc BK206.out _) 1).trans rfl, (blk_cell (blk_alloc BK206.out _) 2).trans rfl, (blk_cell (blk_alloc BK204.out _) 0).trans rfl, (blk_cell (blk_alloc BK204.out _) 1).trans rfl, (blk_cell (blk_alloc BK204.out _) 2).trans rfl, (World.cell?_alloc_lt _ _ _ (World.block_lt_of_cell? _ _ (((HB.out.cell (World.block_lt_of_cell? w _ hw207_0)).trans hw207_0)))).trans (((HB.out.cell (World.block_lt_of_cell? w _ hw207_0)).trans hw207_0)), (World.cell?_alloc_lt _ _ _ (World.block_lt_of_cell? _ _ (((HB.out.cell (World.block_lt_of_cell? w _ hw207_1)).trans hw207_1)))).trans (((HB.out.cell (World.block_lt_of_cell? w _ hw207_1)).trans hw207_1)), (World.cell?_alloc_lt _ _ _ (World.block_lt_of_cell? _ _ (((HB.out.cell (World.block_lt_of_cell? w _ hw211_0)).trans hw211_0)))).trans (((HB.out.cell (World.block_lt_of_cell? w _ hw211_0)).trans hw211_0)), (World.cell?_alloc_lt _ _ _ (World.block_lt_of_cell? _ _ (((HB.out.cell (World.block_lt_of_cell? w _ hw211_1)).trans hw211_1)))).trans (((HB.out.cell (World.block_lt_of_cell? w _ hw211_1)).trans hw211_1))⟩ (fun hHeld => ?_)
        clear hK K
        refine norm_ (a' := ?_) ?_ ?_
        rotate_left
        ·show Act.put _ (some 33) _ = _
         simp only [Act.put, sA, sB, sC, i64_w, i32_w]
         rfl
        refine one_ (i := 18) (N := some 34) (fl 21 19) rfl rfl (one_of HT_.out (by kernel_rfl)) (by decide) (fun K hK => ?_)
        refine Kd.S_append_step k79 (w0 := w) w.heap.size (by rfl) (.tmp 17) (.tmp 33) 56 79 (.agg #[(.string ⟨#[]⟩), (.slice none 0 0)]) 40 rfl Tryd.underlying56 info79 rfl (by decide) (by omega) u207001 x207001_1 (⟨(rd_T72 l0_1 x13_1).f0, y212⟩ : S79) [.string ((rd_T72 l0_1 x13_1).f0), .slice Ao20 y212.length co20] (fun _ => True) (fun k_ => some k_ = (.slice Ao20 y212.length co20 : Value).ownBlock) rfl rfl ?aP (fun k_ hk_ => ((Kd.R_mono (ok' := fun k_ => ((fun _ => True)) k_ ∧ some k_ ≠ (u207001 : Value).ownBlock) (Kd.R_apart' (HO214.out) (Kd.S_typed HO_207001.out) (by decide)) (fun k_ hk => ⟨trivial, hk.2⟩))).1 k_ hk_.symm) ?aF ?aO ?aB ?aS ?aL ?_
        (case aP => exact k79_mkM _ _ _ (⟨(rd_T72 l0_1 x13_1).f0, y212⟩ : S79) (Kd.R_mono (Kd.R_tight rfl (Kd.R_mono (ok' := fun k_ => ((fun _ => True)) k_ ∧ some k_ ≠ (u207001 : Value).ownBlock) (Kd.R_apart' (HO214.out) (Kd.S_typed HO_207001.out) (by decide)) (fun k_ hk => ⟨trivial, hk.2⟩))) (fun _ h_ => h_)))
        (case aB => exact (by repeat (first | (with_reducible first | exact HB.out | apply below_alloc | apply pw_below_drewN | apply below_drew1 | refine below_set ?_ GE204.out | refine below_set ?_ GE205.out | refine below_set ?_ GE206.out) | exact HB.out)))
        (case aF => exact (fun _ _ => trivial))
        (case aO => exact (by (with_reducible repeat (first | apply Kd.S_alloc | apply Kd.S_drewN | apply Kd.S_drew)); exact Kd.S_mono HO_207001.out (fun k_ hk => ⟨trivial, fun e_ => hk.2 e_⟩)))
        (case aS => exact (below_size (by repeat (first | (with_reducible first | exact HB.out | apply below_alloc | apply pw_below_drewN | apply below_drew1 | refine below_set ?_ GE204.out | refine below_set ?_ GE205.out | refine below_set ?_ GE206.out) | exact HB.out))))
        (case aL => have := LMc15.out; omega)
        intro v216 w21 ho hb hg hat
        rw [← Ny215.out] at ho
        have n0_ := Aside0.mk (blk_grown (g := gb204) (o := .cells #[.string a0_0, .slice (some ad207) l0_1.length c0_1, .string a0_2] 51 (0, 0)) (by (with_reducible repeat (first | refine blk_drewN ?_ _ | refine blk_drew ?_ | refine blk_alloc ?_ _)); exact BK204.out) hg (Kd.S_ne HO_207001.out BK204.out (by decide)))
        have n1_ := Aside0.mk (blk_grown (g := gb205) (o := .cells #[.string (⟨#[]⟩ : ByteArray), .slice none 0 0, .string (⟨#[]⟩ : ByteArray)] 58 (0, 0)) (by (with_reducible repeat (first | refine blk_drewN ?_ _ | refine blk_drew ?_ | refine blk_alloc ?_ _)); exact BK205.out) hg (Kd.S_ne HO_207001.out BK205.out (by decide)))
        have n2_ := Aside0.mk (blk_grown (g := gb206) (o := .cells #[.string a0_0, u207001, .string a0_2] 58 (0, 0)) (by (with_reducible repeat (first | refine blk_drewN ?_ _ | refine blk_drew ?_ | refine blk_alloc ?_ _)); exact BK206.out) hg (Kd.S_ne HO_207001.out BK206.out (by decide)))
        have n3_ := Aside0.mk (hb)
        have n4_ := Aside0.mk (ho)
        clear BK204
        clear BK205
        clear BK206
        clear HB
        clear HO_207001
        clear HO214
        have BK204 := n0_
        have BK205 := n1_
        have BK206 := n2_
        have HB := n3_
        have HO217 := n4_
        clear n0_ n1_ n2_ n3_ n4_
        clear ho hb hg hat
        obtain ⟨Ao22, co22, eo22⟩ := Kd.S_slice HO217.out
        (first | subst eo22 | (injection eo22 with f1_ f2_ f3_; have f4_ := f1_.symm; have f5_ := f3_.symm; clear f1_ f2_ f3_; subst f4_; subst f5_))
        refine hK.out _ _ ⟨(blk_cell BK206.out 0).trans rfl, (blk_cell BK206.out 1).trans rfl, (blk_cell BK206.out 2).trans rfl, (blk_cell BK204.out 0).trans rfl, (blk_cell BK204.out 1).trans rfl, (blk_cell BK204.out 2).trans rfl, ((HB.out.cell (World.block_lt_of_cell? w _ hw207_0)).trans hw207_0), ((HB.out.cell (World.block_lt_of_cell? w _ hw207_1)).trans hw207_1), ((HB.out.cell (World.block_lt_of_cell? w _ hw211_0)).trans hw211_0), ((HB.out.cell (World.block_lt_of_cell? w _ hw211_1)).trans hw211_1)⟩ (fun hHeld => ?_)
        clear hK K
        refine norm_ (a' := ?_) ?_ ?_
        rotate_left
        ·show Act.put _ (some 34) _ = _
         simp only [Act.put, sA, sB, sC, i64_w, i32_w]
         rfl
        refine pu 19 (some 35) (fl 21 20) HT_ ?_
        refine last_ (i := 20) (N := none) (fl 21 21) rfl rfl (one_of HT_.out (by kernel_rfl)) (by decide) (fun K hK => ?_)
        have hs23 : w21.cell? ⟨gb206, 1, none⟩ = some (u207001) := (blk_cell BK206.out 1).trans rfl
        have hfs23 := blk_frozen BK206.out 1
        have hns23_0 := NB204_206.out
        have hns23_1 := NB205_206.out
        have hms23_0 := NB206_204.out
        have hms23_1 := NB206_205.out
        refine skip_ (w1 := ?_) (by rfl) rfl ?_ ?_
        rotate_left
        ·go_simp
         rfl
        refine hK.out _ _ ?_
        clear hK K
        refine done_ (done_of HT_.out (by kernel_rfl)) ?_
        try go_wp2
        go_roundg k1
        case measure => have := HK1.out; omega
        case rel => exact ⟨(wrap64 (x13_1 + 1)), (y215), (.slice Ao22 y215.length co22), (by first | rfl | (simp; done) | (simp [*]; done)), H', ⟨by have := HK1.out; omega⟩, ⟨by (with_reducible repeat (first | apply Kd.S_alloc | apply Kd.S_drewN | apply Kd.S_drew)); exact Kd.S_mono (Kd.S_far (p := ⟨gb206, 1, none⟩) (Kd.S_types HO217.out BK206.out (by decide)) (fun _ hk => hk.2) (.slice Ao22 y215.length co22)) (fun _ hk => trivial)⟩, ⟨by (with_reducible repeat (first | refine blk_drewN ?_ _ | refine blk_drew ?_ | refine blk_alloc ?_ _)); refine blk_far ?_ NB204_206.out _; (with_reducible repeat (first | refine blk_drewN ?_ _ | refine blk_drew ?_ | refine blk_alloc ?_ _)); exact BK204.out⟩, ⟨by (with_reducible repeat (first | refine blk_drewN ?_ _ | refine blk_drew ?_ | refine blk_alloc ?_ _)); refine blk_far ?_ NB205_206.out _; (with_reducible repeat (first | refine blk_drewN ?_ _ | refine blk_drew ?_ | refine blk_alloc ?_ _)); exact BK205.out⟩, ⟨by (with_reducible repeat (first | refine blk_drewN ?_ _ | refine blk_drew ?_ | refine blk_alloc ?_ _)); refine blk_put (cs := #[.string a0_0, u207001, .string a0_2]) ?_ 1 _ rfl; (with_reducible repeat (first | refine blk_drewN ?_ _ | refine blk_drew ?_ | refine blk_alloc ?_ _)); exact BK206.out⟩, ⟨by repeat (first | (with_reducible first | exact HB.out | apply below_alloc | apply pw_below_drewN | apply below_drew1 | refine below_set ?_ GE204.out | refine below_set ?_ GE205.out | refine below_set ?_ GE206.out) | exact HB.out)⟩⟩
       ·rw [if_neg c15] at H
        exact absurd H (by simp)
      ·rw [if_neg c14] at H
       exact absurd H (by simp)
     ·rw [if_neg c13] at H
      exact absurd H (by simp)
    ·rw [if_neg c12] at H
     exact absurd H (by simp)
   ·rw [if_neg c11] at H
    have c11b0 : decide (x13_1 < (l0_1.length : Int)) = false := decide_eq_false c11
    clear c11
    simp only [Option.some.injEq, Prod.mk.injEq] at H
    obtain ⟨rfl, rfl, rfl⟩ := H
    have hnb24 := NB206_204.out
    have hnc24 := NB204_206.out
    have hnb25 := NB206_205.out
    have hnc25 := NB205_206.out
    have hcz26_0 : wr.cell? ⟨gb206, 0, none⟩ = some (.string a0_0) := (blk_cell BK206.out 0).trans rfl
    have hcz26_1 : wr.cell? ⟨gb206, 1, none⟩ = some (u207001) := (blk_cell BK206.out 1).trans rfl
    have hcz26_2 : wr.cell? ⟨gb206, 2, none⟩ = some (.string a0_2) := (blk_cell BK206.out 2).trans rfl
    have hfz26_0 := blk_frozen BK206.out 0
    have hfz26_1 := blk_frozen BK206.out 1
    have hfz26_2 := blk_frozen BK206.out 2
    have hnb27 := NB205_204.out
    have hnc27 := NB204_205.out
    have hcz28_0 : wr.cell? ⟨gb205, 0, none⟩ = some (.string (⟨#[]⟩ : ByteArray)) := (blk_cell BK205.out 0).trans rfl
    have hcz28_1 : wr.cell? ⟨gb205, 1, none⟩ = some (.slice none 0 0) := (blk_cell BK205.out 1).trans rfl
    have hcz28_2 : wr.cell? ⟨gb205, 2, none⟩ = some (.string (⟨#[]⟩ : ByteArray)) := (blk_cell BK205.out 2).trans rfl
    have hfz28_0 := blk_frozen BK205.out 0
    have hfz28_1 := blk_frozen BK205.out 1
    have hfz28_2 := blk_frozen BK205.out 2
    obtain ⟨Ao29, co29, eo29⟩ := Kd.S_slice HO_207001.out
    subst eo29
    go_wp2
    refine bodyPost_ret (results_cell_row rfl _ _ gb205 58 #[.string a0_0, .slice Ao29 x207001_1.length co29, .string a0_2] (0, 0) _ rfl (by (with_reducible repeat (first | refine blk_drewN ?_ _ | refine blk_drew ?_ | refine blk_alloc ?_ _)); refine blk_put (cs := #[.string a0_0, .slice Ao29 x207001_1.length co29, .string (⟨#[]⟩ : ByteArray)]) ?_ 2 _ rfl; (with_reducible repeat (first | refine blk_drewN ?_ _ | refine blk_drew ?_ | refine blk_alloc ?_ _)); refine blk_put (cs := #[.string a0_0, .slice none 0 0, .string (⟨#[]⟩ : ByteArray)]) ?_ 1 _ rfl; (with_reducible repeat (first | refine blk_drewN ?_ _ | refine blk_drew ?_ | refine blk_alloc ?_ _)); refine blk_put (cs := #[.string (⟨#[]⟩ : ByteArray), .slice none 0 0, .string (⟨#[]⟩ : ByteArray)]) ?_ 0 _ rfl; (with_reducible repeat (first | refine blk_drewN ?_ _ | refine blk_drew ?_ | refine blk_alloc ?_ _)); exact BK205.out) Tryd.underlying58 rfl (by kernel_rfl)) rfl ?_
    exact ⟨_, by first | rfl | (simp [*, errW_none, errW_some] <;> rfl), by (with_reducible repeat (first | apply Kd.S_alloc | apply Kd.S_drewN | apply Kd.S_drew)); exact Kd.S_mono (Kd.S_far (p := ⟨gb205, 2, none⟩) (Kd.S_far (p := ⟨gb205, 1, none⟩) (Kd.S_far (p := ⟨gb205, 0, none⟩) (Kd.S_types HO_207001.out BK205.out (by decide)) (fun _ hk => hk.2) (.string a0_0)) (fun _ hk => hk.2) (.slice Ao29 x207001_1.length co29)) (fun _ hk => hk.2) (.string a0_2)) (fun _ hk => trivial), by repeat (first | (with_reducible first | exact HB.out | apply below_alloc | apply pw_below_drewN | apply below_drew1 | refine below_set ?_ GE204.out | refine below_set ?_ GE205.out | refine below_set ?_ GE206.out) | exact HB.out)⟩

end Go.Proofs.YtddoidcbpcmlaaaDoor.M
