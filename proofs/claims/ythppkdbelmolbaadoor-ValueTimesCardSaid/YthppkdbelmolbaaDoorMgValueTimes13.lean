/- Texts of this claim, merged: QrefS. -/
import Derived.Test.YthppkdbelmolbaaDoorMgValueTimes1
import Derived.Test.YthppkdbelmolbaaDoorMgValueTimes11
import Derived.Test.YthppkdbelmolbaaDoorMgValueTimes12
-- written by a program of this session (wip/own_print.sh)
namespace Go.Proofs.YthppkdbelmolbaaDoor.Q
open Go.RowKit Go.Proofs.YthppkdbelmolbaaDoorW.PrintWords Go.Proofs.YthppkdbelmolbaaDoorW.PrintLast Go.Proofs.YthppkdbelmolbaaDoorW.PrintMore
attribute [local go_sem] max2_int min2_int max_two min_two max_three min_three max_four min_four   -- for this text's walks alone
set_option linter.unusedVariables false
set_option linter.unusedSimpArgs false
/-! ### trystref01_Seconds: function 43 -/
def trystref01_Seconds.f (k : Nat) (a0 : Int) : Option (ByteArray) := (trystref01_Date.f k 0 (wrap64 (Int.tdiv a0 86400))).bind fun bt374 => ((trystref01_number.f k bt374.1 4).bind fun t379 => ((trystref01_number.f k bt374.2.1 2).bind fun t380 => (if t379.size + t380.size ≤ 9223372036854775807 then ((trystref01_number.f k bt374.2.2.1 2).bind fun t381 => (if (t379 ++ t380).size + t381.size ≤ 9223372036854775807 then (if ((t379 ++ t380) ++ t381).size + 1 ≤ 9223372036854775807 then ((trystref01_number.f k (wrap64 (Int.tdiv (Int.tmod a0 86400) 3600)) 2).bind fun t382 => (if (((t379 ++ t380) ++ t381) ++ (⟨#[84]⟩ : ByteArray)).size + t382.size ≤ 9223372036854775807 then ((trystref01_number.f k (Int.tmod (wrap64 (Int.tdiv (Int.tmod a0 86400) 60)) 60) 2).bind fun t383 => (if ((((t379 ++ t380) ++ t381) ++ (⟨#[84]⟩ : ByteArray)) ++ t382).size + t383.size ≤ 9223372036854775807 then ((trystref01_number.f k (Int.tmod a0 60) 2).bind fun t384 => (if (((((t379 ++ t380) ++ t381) ++ (⟨#[84]⟩ : ByteArray)) ++ t382) ++ t383).size + t384.size ≤ 9223372036854775807 then (some ((((((t379 ++ t380) ++ t381) ++ (⟨#[84]⟩ : ByteArray)) ++ t382) ++ t383) ++ t384)) else (none))) else (none))) else (none))) else (none)) else (none))) else (none))))
def trystref01_Seconds.T3 : Bool × List (List Nat × List Nat) := (true, [([], []), ([0], [0]), ([1], [1]), ([], []), ([3], [3]), ([4, 2], [4]), ([2, 5], [2, 5]), ([], []), ([7], [7]), ([8, 5], [8]), ([6, 9], [6, 9]), ([10], [10]), ([], []), ([12], [12]), ([13, 9], [13]), ([11, 14], [11, 14]), ([], []), ([16], [16]), ([17], [17]), ([18, 14], [18]), ([15, 19], [15, 19]), ([], []), ([21], [21]), ([22, 19], [22]), ([20, 23], [20, 23]), ([24, 23, 0, 1, 2, 3, 4, 5, 6, 7, 8, 9, 10, 11, 12, 13, 14, 15, 16, 17, 18, 19, 20, 21, 22, 23, 24], [24])])
def trystref01_Seconds.B3 : List Nat := [0, 1, 3, 0, 8, 31, 63, 0, 128, 447, 1023, 2047, 0, 4096, 13247, 32767, 0, 65536, 196608, 488383, 1048575, 0, 2097152, 7304127, 16777215, 33554431]
theorem trystref01_Seconds.tab3 : rtab .any (opsOf Tryd.f43 3) = trystref01_Seconds.T3 := by kernel_rfl
theorem trystref01_Seconds.bits3 : waitsOk trystref01_Seconds.T3.2 trystref01_Seconds.B3 = true := by kernel_rfl
set_option maxHeartbeats 8000000 in
set_option maxRecDepth 100000 in
theorem trystref01_Seconds.calls (k : Nat) (a0 : Int) (r : ByteArray) (w : World) (h : trystref01_Seconds.f k a0 = some r) :
  Calls Tryd.prog 43 #[.int .i64 a0] w fun e w' => e = .returned (.string r) ∧ Below w.heap.size w w' := by
 have hu68 := Tryd.underlying68
 have HB := Aside0.mk (Below.refl w.heap.size w)
 have H : ((trystref01_Date.f k 0 (wrap64 (Int.tdiv a0 86400))).bind fun bt374 => ((trystref01_number.f k bt374.1 4).bind fun t379 => ((trystref01_number.f k bt374.2.1 2).bind fun t380 => (if t379.size + t380.size ≤ 9223372036854775807 then ((trystref01_number.f k bt374.2.2.1 2).bind fun t381 => (if (t379 ++ t380).size + t381.size ≤ 9223372036854775807 then (if ((t379 ++ t380) ++ t381).size + 1 ≤ 9223372036854775807 then ((trystref01_number.f k (wrap64 (Int.tdiv (Int.tmod a0 86400) 3600)) 2).bind fun t382 => (if (((t379 ++ t380) ++ t381) ++ (⟨#[84]⟩ : ByteArray)).size + t382.size ≤ 9223372036854775807 then ((trystref01_number.f k (Int.tmod (wrap64 (Int.tdiv (Int.tmod a0 86400) 60)) 60) 2).bind fun t383 => (if ((((t379 ++ t380) ++ t381) ++ (⟨#[84]⟩ : ByteArray)) ++ t382).size + t383.size ≤ 9223372036854775807 then ((trystref01_number.f k (Int.tmod a0 60) 2).bind fun t384 => (if (((((t379 ++ t380) ++ t381) ++ (⟨#[84]⟩ : ByteArray)) ++ t382) ++ t383).size + t384.size ≤ 9223372036854775807 then (some ((((((t379 ++ t380) ++ t381) ++ (⟨#[84]⟩ : ByteArray)) ++ t382) ++ t383) ++ t384)) else (none))) else (none))) else (none))) else (none)) else (none))) else (none))))) = some r := h
 clear h
 replace H := Option.bind_eq_some_iff.mp H
 obtain ⟨⟨t374, t375, t376, t377⟩, A20, H⟩ := H
 replace H : ((trystref01_number.f k t374 4).bind fun t379 => ((trystref01_number.f k t375 2).bind fun t380 => (if t379.size + t380.size ≤ 9223372036854775807 then ((trystref01_number.f k t376 2).bind fun t381 => (if (t379 ++ t380).size + t381.size ≤ 9223372036854775807 then (if ((t379 ++ t380) ++ t381).size + 1 ≤ 9223372036854775807 then ((trystref01_number.f k (wrap64 (Int.tdiv (Int.tmod a0 86400) 3600)) 2).bind fun t382 => (if (((t379 ++ t380) ++ t381) ++ (⟨#[84]⟩ : ByteArray)).size + t382.size ≤ 9223372036854775807 then ((trystref01_number.f k (Int.tmod (wrap64 (Int.tdiv (Int.tmod a0 86400) 60)) 60) 2).bind fun t383 => (if ((((t379 ++ t380) ++ t381) ++ (⟨#[84]⟩ : ByteArray)) ++ t382).size + t383.size ≤ 9223372036854775807 then ((trystref01_number.f k (Int.tmod a0 60) 2).bind fun t384 => (if (((((t379 ++ t380) ++ t381) ++ (⟨#[84]⟩ : ByteArray)) ++ t382) ++ t383).size + t384.size ≤ 9223372036854775807 then (some ((((((t379 ++ t380) ++ t381) ++ (⟨#[84]⟩ : ByteArray)) ++ t382) ++ t383) ++ t384)) else (none))) else (none))) else (none))) else (none)) else (none))) else (none)))) = some r := H
 have A2 := Aside0.mk A20
 clear A20
 replace H := Option.bind_eq_some_iff.mp H
 obtain ⟨t379, A30, H⟩ := H
 replace H : ((trystref01_number.f k t375 2).bind fun t380 => (if t379.size + t380.size ≤ 9223372036854775807 then ((trystref01_number.f k t376 2).bind fun t381 => (if (t379 ++ t380).size + t381.size ≤ 9223372036854775807 then (if ((t379 ++ t380) ++ t381).size + 1 ≤ 9223372036854775807 then ((trystref01_number.f k (wrap64 (Int.tdiv (Int.tmod a0 86400) 3600)) 2).bind fun t382 => (if (((t379 ++ t380) ++ t381) ++ (⟨#[84]⟩ : ByteArray)).size + t382.size ≤ 9223372036854775807 then ((trystref01_number.f k (Int.tmod (wrap64 (Int.tdiv (Int.tmod a0 86400) 60)) 60) 2).bind fun t383 => (if ((((t379 ++ t380) ++ t381) ++ (⟨#[84]⟩ : ByteArray)) ++ t382).size + t383.size ≤ 9223372036854775807 then ((trystref01_number.f k (Int.tmod a0 60) 2).bind fun t384 => (if (((((t379 ++ t380) ++ t381) ++ (⟨#[84]⟩ : ByteArray)) ++ t382) ++ t383).size + t384.size ≤ 9223372036854775807 then (some ((((((t379 ++ t380) ++ t381) ++ (⟨#[84]⟩ : ByteArray)) ++ t382) ++ t383) ++ t384)) else (none))) else (none))) else (none))) else (none)) else (none))) else (none))) = some r := H
 have A3 := Aside0.mk A30
 clear A30
 replace H := Option.bind_eq_some_iff.mp H
 obtain ⟨t380, A40, H⟩ := H
 replace H : (if t379.size + t380.size ≤ 9223372036854775807 then ((trystref01_number.f k t376 2).bind fun t381 => (if (t379 ++ t380).size + t381.size ≤ 9223372036854775807 then (if ((t379 ++ t380) ++ t381).size + 1 ≤ 9223372036854775807 then ((trystref01_number.f k (wrap64 (Int.tdiv (Int.tmod a0 86400) 3600)) 2).bind fun t382 => (if (((t379 ++ t380) ++ t381) ++ (⟨#[84]⟩ : ByteArray)).size + t382.size ≤ 9223372036854775807 then ((trystref01_number.f k (Int.tmod (wrap64 (Int.tdiv (Int.tmod a0 86400) 60)) 60) 2).bind fun t383 => (if ((((t379 ++ t380) ++ t381) ++ (⟨#[84]⟩ : ByteArray)) ++ t382).size + t383.size ≤ 9223372036854775807 then ((trystref01_number.f k (Int.tmod a0 60) 2).bind fun t384 => (if (((((t379 ++ t380) ++ t381) ++ (⟨#[84]⟩ : ByteArray)) ++ t382) ++ t383).size + t384.size ≤ 9223372036854775807 then (some ((((((t379 ++ t380) ++ t381) ++ (⟨#[84]⟩ : ByteArray)) ++ t382) ++ t383) ++ t384)) else (none))) else (none))) else (none))) else (none)) else (none))) else (none)) = some r := H
 have A4 := Aside0.mk A40
 clear A40
 by_cases c5 : t379.size + t380.size ≤ 9223372036854775807
 ·rw [if_pos c5] at H
  have c5b0 := eq_true c5
  have c5b1 : decide (t379.size + t380.size ≤ 9223372036854775807) = true := decide_eq_true c5
  try have c5b2 : (9223372036854775807 < t379.size + t380.size) = False := eq_false (Nat.not_lt.2 c5)
  try (have c5b3 := c5b2; simp only [ByteArray.size_append, bs1_] at c5b3)
  replace H := Option.bind_eq_some_iff.mp H
  obtain ⟨t381, A60, H⟩ := H
  replace H : (if (t379 ++ t380).size + t381.size ≤ 9223372036854775807 then (if ((t379 ++ t380) ++ t381).size + 1 ≤ 9223372036854775807 then ((trystref01_number.f k (wrap64 (Int.tdiv (Int.tmod a0 86400) 3600)) 2).bind fun t382 => (if (((t379 ++ t380) ++ t381) ++ (⟨#[84]⟩ : ByteArray)).size + t382.size ≤ 9223372036854775807 then ((trystref01_number.f k (Int.tmod (wrap64 (Int.tdiv (Int.tmod a0 86400) 60)) 60) 2).bind fun t383 => (if ((((t379 ++ t380) ++ t381) ++ (⟨#[84]⟩ : ByteArray)) ++ t382).size + t383.size ≤ 9223372036854775807 then ((trystref01_number.f k (Int.tmod a0 60) 2).bind fun t384 => (if (((((t379 ++ t380) ++ t381) ++ (⟨#[84]⟩ : ByteArray)) ++ t382) ++ t383).size + t384.size ≤ 9223372036854775807 then (some ((((((t379 ++ t380) ++ t381) ++ (⟨#[84]⟩ : ByteArray)) ++ t382) ++ t383) ++ t384)) else (none))) else (none))) else (none))) else (none)) else (none)) = some r := H
  have A6 := Aside0.mk A60
  clear A60
  by_cases c7 : (t379 ++ t380).size + t381.size ≤ 9223372036854775807
  ·rw [if_pos c7] at H
   have c7b0 := eq_true c7
   have c7b1 : decide ((t379 ++ t380).size + t381.size ≤ 9223372036854775807) = true := decide_eq_true c7
   try have c7b2 : (9223372036854775807 < (t379 ++ t380).size + t381.size) = False := eq_false (Nat.not_lt.2 c7)
   try (have c7b3 := c7b2; simp only [ByteArray.size_append, bs1_] at c7b3)
   by_cases c8 : ((t379 ++ t380) ++ t381).size + 1 ≤ 9223372036854775807
   ·rw [if_pos c8] at H
    have c8b0 := eq_true c8
    have c8b1 : decide (((t379 ++ t380) ++ t381).size + 1 ≤ 9223372036854775807) = true := decide_eq_true c8
    try have c8b2 : (9223372036854775807 < ((t379 ++ t380) ++ t381).size + 1) = False := eq_false (Nat.not_lt.2 c8)
    try (have c8b3 := c8b2; simp only [ByteArray.size_append, bs1_] at c8b3)
    replace H := Option.bind_eq_some_iff.mp H
    obtain ⟨t382, A90, H⟩ := H
    replace H : (if (((t379 ++ t380) ++ t381) ++ (⟨#[84]⟩ : ByteArray)).size + t382.size ≤ 9223372036854775807 then ((trystref01_number.f k (Int.tmod (wrap64 (Int.tdiv (Int.tmod a0 86400) 60)) 60) 2).bind fun t383 => (if ((((t379 ++ t380) ++ t381) ++ (⟨#[84]⟩ : ByteArray)) ++ t382).size + t383.size ≤ 9223372036854775807 then ((trystref01_number.f k (Int.tmod a0 60) 2).bind fun t384 => (if (((((t379 ++ t380) ++ t381) ++ (⟨#[84]⟩ : ByteArray)) ++ t382) ++ t383).size + t384.size ≤ 9223372036854775807 then (some ((((((t379 ++ t380) ++ t381) ++ (⟨#[84]⟩ : ByteArray)) ++ t382) ++ t383) ++ t384)) else (none))) else (none))) else (none)) = some r := H
    have A9 := Aside0.mk A90
    clear A90
    by_cases c10 : (((t379 ++ t380) ++ t381) ++ (⟨#[84]⟩ : ByteArray)).size + t382.size ≤ 9223372036854775807
    ·rw [if_pos c10] at H
     have c10b0 := eq_true c10
     have c10b1 : decide ((((t379 ++ t380) ++ t381) ++ (⟨#[84]⟩ : ByteArray)).size + t382.size ≤ 9223372036854775807) = true := decide_eq_true c10
     try have c10b2 : (9223372036854775807 < (((t379 ++ t380) ++ t381) ++ (⟨#[84]⟩ : ByteArray)).size + t382.size) = False := eq_false (Nat.not_lt.2 c10)
     try (have c10b3 := c10b2; simp only [ByteArray.size_append, bs1_] at c10b3)
     replace H := Option.bind_eq_some_iff.mp H
     obtain ⟨t383, A110, H⟩ := H
     replace H : (if ((((t379 ++ t380) ++ t381) ++ (⟨#[84]⟩ : ByteArray)) ++ t382).size + t383.size ≤ 9223372036854775807 then ((trystref01_number.f k (Int.tmod a0 60) 2).bind fun t384 => (if (((((t379 ++ t380) ++ t381) ++ (⟨#[84]⟩ : ByteArray)) ++ t382) ++ t383).size + t384.size ≤ 9223372036854775807 then (some ((((((t379 ++ t380) ++ t381) ++ (⟨#[84]⟩ : ByteArray)) ++ t382) ++ t383) ++ t384)) else (none))) else (none)) = some r := H
     have A11 := Aside0.mk A110
     clear A110
     by_cases c12 : ((((t379 ++ t380) ++ t381) ++ (⟨#[84]⟩ : ByteArray)) ++ t382).size + t383.size ≤ 9223372036854775807
     ·rw [if_pos c12] at H
      have c12b0 := eq_true c12
      have c12b1 : decide (((((t379 ++ t380) ++ t381) ++ (⟨#[84]⟩ : ByteArray)) ++ t382).size + t383.size ≤ 9223372036854775807) = true := decide_eq_true c12
      try have c12b2 : (9223372036854775807 < ((((t379 ++ t380) ++ t381) ++ (⟨#[84]⟩ : ByteArray)) ++ t382).size + t383.size) = False := eq_false (Nat.not_lt.2 c12)
      try (have c12b3 := c12b2; simp only [ByteArray.size_append, bs1_] at c12b3)
      replace H := Option.bind_eq_some_iff.mp H
      obtain ⟨t384, A130, H⟩ := H
      replace H : (if (((((t379 ++ t380) ++ t381) ++ (⟨#[84]⟩ : ByteArray)) ++ t382) ++ t383).size + t384.size ≤ 9223372036854775807 then (some ((((((t379 ++ t380) ++ t381) ++ (⟨#[84]⟩ : ByteArray)) ++ t382) ++ t383) ++ t384)) else (none)) = some r := H
      have A13 := Aside0.mk A130
      clear A130
      by_cases c14 : (((((t379 ++ t380) ++ t381) ++ (⟨#[84]⟩ : ByteArray)) ++ t382) ++ t383).size + t384.size ≤ 9223372036854775807
      ·rw [if_pos c14] at H
       have c14b0 := eq_true c14
       have c14b1 : decide ((((((t379 ++ t380) ++ t381) ++ (⟨#[84]⟩ : ByteArray)) ++ t382) ++ t383).size + t384.size ≤ 9223372036854775807) = true := decide_eq_true c14
       try have c14b2 : (9223372036854775807 < (((((t379 ++ t380) ++ t381) ++ (⟨#[84]⟩ : ByteArray)) ++ t382) ++ t383).size + t384.size) = False := eq_false (Nat.not_lt.2 c14)
       try (have c14b3 := c14b2; simp only [ByteArray.size_append, bs1_] at c14b3)
       obtain rfl := Option.some.inj H
       go_enter Tryd.func43, Tryd.ntmps43
       try go_wp2_with (first | ((with_reducible refine gate_callee (f := 64) rfl ?_); refine goesL_ (some 9) rfl rfl Tryd.func64 (by kernel_rfl) rfl #[.int .i64 0, .int .i64 (wrap64 (Int.tdiv a0 86400))] rfl (by (try simp only [List.map_toArray, List.map_cons, List.map_nil]); first | done | rfl | (simp only [List.length_drop, List.length_take]; rfl)) ?_; (with_reducible refine (trystref01_Date.calls k 0 (wrap64 (Int.tdiv a0 86400)) t374 t375 t376 t377 _ A2.out).mono ?_); rintro e w15 ⟨rfl, hb⟩; refine ⟨_, rfl, ?_⟩; have n0_ := Aside0.mk (below_step (by repeat (first | (with_reducible first | exact HB.out | apply below_alloc | apply pw_below_drewN | apply below_drew1) | exact HB.out)) hb); clear HB; have HB := n0_; clear n0_; (try clear hb); (try clear hb2); (try clear hk); (try clear hi)) | ((with_reducible refine gate_dst (N := 3) rfl ?_); refine box_event ?hg (N := 3) ?hd (cs := #[.int .i64 0, .int .i64 0, .int .i64 0]) (t := 68) ?hr ?_; (case hd => rfl); (case hg => rfl); (case hr => first | (go_simp; done) | (go_simp; rfl)); intro gb378 hg w16 hbox hb; have n0_ := Aside0.mk (below_step (by repeat (first | (with_reducible first | exact HB.out | apply below_alloc | apply pw_below_drewN | apply below_drew1) | exact HB.out)) hb); have n1_ := Aside0.mk (hbox); have n2_ := Aside0.mk ((by rw [hg]; exact (below_size (by repeat (first | (with_reducible first | exact HB.out | apply below_alloc | apply pw_below_drewN | apply below_drew1) | exact HB.out))) : w.heap.size ≤ gb378)); have n3_ := Aside0.mk ((by rw [hg]; exact (below_size (by repeat (first | (with_reducible first | exact HB.out | apply below_alloc | apply pw_below_drewN | apply below_drew1) | exact HB.out))) : w.heap.size ≤ gb378)); clear HB; have HB := n0_; have BK378 := n1_; have GW378 := n2_; have GE378 := n3_; clear n0_ n1_ n2_ n3_; clear hb hbox hg; have hcz17_0 : w16.cell? ⟨gb378, 0, none⟩ = some (.int .i64 0) := (blk_cell BK378.out 0).trans rfl; have hcz17_1 : w16.cell? ⟨gb378, 1, none⟩ = some (.int .i64 0) := (blk_cell BK378.out 1).trans rfl; have hcz17_2 : w16.cell? ⟨gb378, 2, none⟩ = some (.int .i64 0) := (blk_cell BK378.out 2).trans rfl; have hfz17_0 := blk_frozen BK378.out 0; have hfz17_1 := blk_frozen BK378.out 1; have hfz17_2 := blk_frozen BK378.out 2))
       have n0_ : Aside0 ((((w16.setCell ⟨gb378, 0, none⟩ (.int .i64 t374)).setCell ⟨gb378, 1, none⟩ (.int .i64 t375)).setCell ⟨gb378, 2, none⟩ (.int .i64 t376)).heap[gb378]? = some (.cells #[.int .i64 t374, .int .i64 t375, .int .i64 t376] 68 (0, 0))) := ⟨by (with_reducible repeat (first | refine blk_drewN ?_ _ | refine blk_drew ?_ | refine blk_alloc ?_ _)); refine blk_put (cs := #[.int .i64 t374, .int .i64 t375, .int .i64 0]) ?_ 2 _ rfl; (with_reducible repeat (first | refine blk_drewN ?_ _ | refine blk_drew ?_ | refine blk_alloc ?_ _)); refine blk_put (cs := #[.int .i64 t374, .int .i64 0, .int .i64 0]) ?_ 1 _ rfl; (with_reducible repeat (first | refine blk_drewN ?_ _ | refine blk_drew ?_ | refine blk_alloc ?_ _)); refine blk_put (cs := #[.int .i64 0, .int .i64 0, .int .i64 0]) ?_ 0 _ rfl; (with_reducible repeat (first | refine blk_drewN ?_ _ | refine blk_drew ?_ | refine blk_alloc ?_ _)); exact BK378.out⟩
       have n1_ : Aside0 (Below w.heap.size w (((w16.setCell ⟨gb378, 0, none⟩ (.int .i64 t374)).setCell ⟨gb378, 1, none⟩ (.int .i64 t375)).setCell ⟨gb378, 2, none⟩ (.int .i64 t376))) := ⟨by repeat (first | (with_reducible first | exact HB.out | apply below_alloc | apply pw_below_drewN | apply below_drew1 | refine below_set ?_ GE378.out) | exact HB.out)⟩
       (try clear BK378)
       (try clear HB)
       generalize (((w16.setCell ⟨gb378, 0, none⟩ (.int .i64 t374)).setCell ⟨gb378, 1, none⟩ (.int .i64 t375)).setCell ⟨gb378, 2, none⟩ (.int .i64 t376)) = w18 at n0_ n1_ ⊢
       have BK378 := n0_
       have HB := n1_
       clear n0_ n1_
       have n0_ := Aside0.mk (blk_drew BK378.out)
       have n1_ := Aside0.mk (below_drew1 HB.out)
       clear BK378
       clear HB
       have BK378 := n0_
       have HB := n1_
       clear n0_ n1_
       refine start_ (n := 26) (S := fun w' => w'.cell? ⟨gb378, 0, none⟩ = some (.int .i64 t374) ∧ w'.cell? ⟨gb378, 1, none⟩ = some (.int .i64 t375) ∧ w'.cell? ⟨gb378, 2, none⟩ = some (.int .i64 t376)) (ds := []) #[false, false, false, false, false, false, false, false, false, false, false, false, false, false, false, false, false, false, false, false, false, false, false, false, false, false] (by kernel_rfl) rfl rfl ⟨(blk_cell BK378.out 0).trans rfl, (blk_cell BK378.out 1).trans rfl, (blk_cell BK378.out 2).trans rfl⟩ (fun hHeld => ?_); refine with_tabW trystref01_Seconds.tab3 trystref01_Seconds.bits3 (fun HT_ HW_ => ?_)
       generalize w18.drew = w19 at BK378 HB hHeld ⊢
       refine pure_ (i := 0) (N := some 14) (v := ?_) (a' := ?_) #[true, false, false, false, false, false, false, false, false, false, false, false, false, false, false, false, false, false, false, false, false, false, false, false, false, false] rfl rfl (any_of HT_.out (by kernel_rfl)) (fun _ _ _ h => h) (Or.inl ⟨by rfl, ?_⟩) ?_ ?_
       rotate_left
       ·intro w'
        go_simp
        with_reducible rfl
       rotate_left
       ·simp only [Act.put, List.setIfInBounds_toArray, List.set_cons_zero, List.set_cons_succ, i64_w, i32_w]
        rfl
       refine pure_ (i := 3) (N := some 17) (v := ?_) (a' := ?_) #[true, false, false, true, false, false, false, false, false, false, false, false, false, false, false, false, false, false, false, false, false, false, false, false, false, false] rfl rfl (any_of HT_.out (by kernel_rfl)) (fun _ _ _ h => h) (Or.inl ⟨by rfl, ?_⟩) ?_ ?_
       rotate_left
       ·intro w'
        go_simp
        with_reducible rfl
       rotate_left
       ·simp only [Act.put, List.setIfInBounds_toArray, List.set_cons_zero, List.set_cons_succ, i64_w, i32_w]
        rfl
       refine pure_ (i := 7) (N := some 21) (v := ?_) (a' := ?_) #[true, false, false, true, false, false, false, true, false, false, false, false, false, false, false, false, false, false, false, false, false, false, false, false, false, false] rfl rfl (any_of HT_.out (by kernel_rfl)) (fun _ _ _ h => h) (Or.inl ⟨by rfl, ?_⟩) ?_ ?_
       rotate_left
       ·intro w'
        go_simp
        with_reducible rfl
       rotate_left
       ·simp only [Act.put, List.setIfInBounds_toArray, List.set_cons_zero, List.set_cons_succ, i64_w, i32_w]
        rfl
       refine pure_ (i := 12) (N := some 26) (v := ?_) (a' := ?_) #[true, false, false, true, false, false, false, true, false, false, false, false, true, false, false, false, false, false, false, false, false, false, false, false, false, false] rfl rfl (any_of HT_.out (by kernel_rfl)) (fun _ _ _ h => h) (Or.inl ⟨by rfl, ?_⟩) ?_ ?_
       rotate_left
       ·intro w'
        go_simp
        with_reducible rfl
       rotate_left
       ·simp only [Act.put, List.setIfInBounds_toArray, List.set_cons_zero, List.set_cons_succ, i64_w, i32_w]
        rfl
       refine pure_ (i := 13) (N := some 27) (v := ?_) (a' := ?_) #[true, false, false, true, false, false, false, true, false, false, false, false, true, true, false, false, false, false, false, false, false, false, false, false, false, false] rfl rfl (any_of HT_.out (by kernel_rfl)) (fun _ _ _ h => h) (Or.inl ⟨by rfl, ?_⟩) ?_ ?_
       rotate_left
       ·intro w'
        go_simp
        with_reducible rfl
       rotate_left
       ·simp only [Act.put, List.setIfInBounds_toArray, List.set_cons_zero, List.set_cons_succ, i64_w, i32_w]
        rfl
       refine pure_ (i := 16) (N := some 30) (v := ?_) (a' := ?_) #[true, false, false, true, false, false, false, true, false, false, false, false, true, true, false, false, true, false, false, false, false, false, false, false, false, false] rfl rfl (any_of HT_.out (by kernel_rfl)) (fun _ _ _ h => h) (Or.inl ⟨by rfl, ?_⟩) ?_ ?_
       rotate_left
       ·intro w'
        go_simp
        with_reducible rfl
       rotate_left
       ·simp only [Act.put, List.setIfInBounds_toArray, List.set_cons_zero, List.set_cons_succ, i64_w, i32_w]
        rfl
       refine pure_ (i := 17) (N := some 31) (v := ?_) (a' := ?_) #[true, false, false, true, false, false, false, true, false, false, false, false, true, true, false, false, true, true, false, false, false, false, false, false, false, false] rfl rfl (any_of HT_.out (by kernel_rfl)) (fun _ _ _ h => h) (Or.inl ⟨by rfl, ?_⟩) ?_ ?_
       rotate_left
       ·intro w'
        go_simp
        with_reducible rfl
       rotate_left
       ·simp only [Act.put, List.setIfInBounds_toArray, List.set_cons_zero, List.set_cons_succ, i64_w, i32_w]
        rfl
       refine pure_ (i := 18) (N := some 32) (v := ?_) (a' := ?_) #[true, false, false, true, false, false, false, true, false, false, false, false, true, true, false, false, true, true, true, false, false, false, false, false, false, false] rfl rfl (any_of HT_.out (by kernel_rfl)) (fun _ _ _ h => h) (Or.inl ⟨by rfl, ?_⟩) ?_ ?_
       rotate_left
       ·intro w'
        go_simp
        with_reducible rfl
       rotate_left
       ·simp only [Act.put, List.setIfInBounds_toArray, List.set_cons_zero, List.set_cons_succ, i64_w, i32_w]
        rfl
       refine pure_ (i := 21) (N := some 35) (v := ?_) (a' := ?_) #[true, false, false, true, false, false, false, true, false, false, false, false, true, true, false, false, true, true, true, false, false, true, false, false, false, false] rfl rfl (any_of HT_.out (by kernel_rfl)) (fun _ _ _ h => h) (Or.inl ⟨by rfl, ?_⟩) ?_ ?_
       rotate_left
       ·intro w'
        go_simp
        with_reducible rfl
       rotate_left
       ·simp only [Act.put, List.setIfInBounds_toArray, List.set_cons_zero, List.set_cons_succ, i64_w, i32_w]
        rfl
       refine pure_ (i := 22) (N := some 36) (v := ?_) (a' := ?_) #[true, false, false, true, false, false, false, true, false, false, false, false, true, true, false, false, true, true, true, false, false, true, true, false, false, false] rfl rfl (any_of HT_.out (by kernel_rfl)) (fun _ _ _ h => h) (Or.inl ⟨by rfl, ?_⟩) ?_ ?_
       rotate_left
       ·intro w'
        go_simp
        with_reducible rfl
       rotate_left
       ·simp only [Act.put, List.setIfInBounds_toArray, List.set_cons_zero, List.set_cons_succ, i64_w, i32_w]
        rfl
       refine take_ (i := 1) (N := some 15) (v := ?_) (a' := ?_) #[true, true, false, true, false, false, false, true, false, false, false, false, true, true, false, false, true, true, true, false, false, true, true, false, false, false] rfl rfl (take_ofW HT_.out HW_.out (by kernel_rfl)) (fun _ _ _ h => h) (Or.inl ⟨by rfl, ?_⟩) hHeld ?_ ?_
       rotate_left
       ·rintro w' ⟨s0, s1, s2⟩
        go_simp
        with_reducible rfl
       rotate_left
       ·simp only [Act.put, List.setIfInBounds_toArray, List.set_cons_zero, List.set_cons_succ, i64_w, i32_w]
        rfl
       refine take_ (i := 4) (N := some 18) (v := ?_) (a' := ?_) #[true, true, false, true, true, false, false, true, false, false, false, false, true, true, false, false, true, true, true, false, false, true, true, false, false, false] rfl rfl (take_ofW HT_.out HW_.out (by kernel_rfl)) (fun _ _ _ h => h) (Or.inl ⟨by rfl, ?_⟩) hHeld ?_ ?_
       rotate_left
       ·rintro w' ⟨s0, s1, s2⟩
        go_simp
        with_reducible rfl
       rotate_left
       ·simp only [Act.put, List.setIfInBounds_toArray, List.set_cons_zero, List.set_cons_succ, i64_w, i32_w]
        rfl
       refine take_ (i := 8) (N := some 22) (v := ?_) (a' := ?_) #[true, true, false, true, true, false, false, true, true, false, false, false, true, true, false, false, true, true, true, false, false, true, true, false, false, false] rfl rfl (take_ofW HT_.out HW_.out (by kernel_rfl)) (fun _ _ _ h => h) (Or.inl ⟨by rfl, ?_⟩) hHeld ?_ ?_
       rotate_left
       ·rintro w' ⟨s0, s1, s2⟩
        go_simp
        with_reducible rfl
       rotate_left
       ·simp only [Act.put, List.setIfInBounds_toArray, List.set_cons_zero, List.set_cons_succ, i64_w, i32_w]
        rfl
       refine one_ (i := 2) (N := some 16) #[true, true, true, true, true, false, false, true, true, false, false, false, true, true, false, false, true, true, true, false, false, true, true, false, false, false] rfl rfl (one_of HT_.out (by kernel_rfl)) (by decide) (fun K hK => ?_)
       refine goes_ Tryd.func51 (by kernel_rfl) rfl #[.int .i64 t374, .int .i64 4] (by rfl) rfl rfl (by (try simp only [List.map_toArray, List.map_cons, List.map_nil]); first | done | rfl | (simp only [List.length_drop, List.length_take]; rfl)) ?_
       with_reducible refine (trystref01_number.calls k t374 4 t379 _ A3.out).mono ?_
       rintro e w20 ⟨rfl, hb⟩
       refine ⟨_, rfl, ?_⟩
       have n0_ := Aside0.mk (blk_below (g := gb378) (o := .cells #[.int .i64 t374, .int .i64 t375, .int .i64 t376] 68 (0, 0)) (by (with_reducible repeat (first | refine blk_drewN ?_ _ | refine blk_drew ?_ | refine blk_alloc ?_ _)); exact BK378.out) hb)
       have n1_ := Aside0.mk (below_step (by repeat (first | (with_reducible first | exact HB.out | apply below_alloc | apply pw_below_drewN | apply below_drew1 | refine below_set ?_ GE378.out) | exact HB.out)) hb)
       clear BK378
       clear HB
       have BK378 := n0_
       have HB := n1_
       clear n0_ n1_
       (try clear hb)
       (try clear hb2)
       (try clear hk)
       (try clear hi)
       refine hK.out _ _ ⟨(blk_cell BK378.out 0).trans rfl, (blk_cell BK378.out 1).trans rfl, (blk_cell BK378.out 2).trans rfl⟩ (fun hHeld => ?_)
       clear hK K
       refine norm_ (a' := ?_) ?_ ?_
       rotate_left
       ·show Act.put _ (some 16) _ = _
        simp only [Act.put, List.setIfInBounds_toArray, List.set_cons_zero, List.set_cons_succ, i64_w, i32_w]
        rfl
       refine one_ (i := 5) (N := some 19) #[true, true, true, true, true, true, false, true, true, false, false, false, true, true, false, false, true, true, true, false, false, true, true, false, false, false] rfl rfl (one_of HT_.out (by kernel_rfl)) (by decide) (fun K hK => ?_)
       refine goes_ Tryd.func51 (by kernel_rfl) rfl #[.int .i64 t375, .int .i64 2] (by rfl) rfl rfl (by (try simp only [List.map_toArray, List.map_cons, List.map_nil]); first | done | rfl | (simp only [List.length_drop, List.length_take]; rfl)) ?_
       with_reducible refine (trystref01_number.calls k t375 2 t380 _ A4.out).mono ?_
       rintro e w21 ⟨rfl, hb⟩
       refine ⟨_, rfl, ?_⟩
       have n0_ := Aside0.mk (blk_below (g := gb378) (o := .cells #[.int .i64 t374, .int .i64 t375, .int .i64 t376] 68 (0, 0)) (by (with_reducible repeat (first | refine blk_drewN ?_ _ | refine blk_drew ?_ | refine blk_alloc ?_ _)); exact BK378.out) hb)
       have n1_ := Aside0.mk (below_step (by repeat (first | (with_reducible first | exact HB.out | apply below_alloc | apply pw_below_drewN | apply below_drew1 | refine below_set ?_ GE378.out) | exact HB.out)) hb)
       clear BK378
       clear HB
       have BK378 := n0_
       have HB := n1_
       clear n0_ n1_
       (try clear hb)
       (try clear hb2)
       (try clear hk)
       (try clear hi)
       refine hK.out _ _ ⟨(blk_cell BK378.out 0).trans rfl, (blk_cell BK378.out 1).trans rfl, (blk_cell BK378.out 2).trans rfl⟩ (fun hHeld => ?_)
       clear hK K
       refine norm_ (a' := ?_) ?_ ?_
       rotate_left
       ·show Act.put _ (some 19) _ = _
        simp only [Act.put, List.setIfInBounds_toArray, List.set_cons_zero, List.set_cons_succ, i64_w, i32_w]
        rfl
       refine pure_ (i := 6) (N := some 20) (v := ?_) (a' := ?_) #[true, true, true, true, true, true, true, true, true, false, false, false, true, true, false, false, true, true, true, false, false, true, true, false, false, false] rfl rfl (any_of HT_.out (by kernel_rfl)) (fun _ _ _ h => h) (Or.inl ⟨by rfl, ?_⟩) ?_ ?_
       rotate_left
       ·intro w'
        go_simp
        with_reducible rfl
       rotate_left
       ·simp only [Act.put, List.setIfInBounds_toArray, List.set_cons_zero, List.set_cons_succ, i64_w, i32_w]
        rfl
       refine one_ (i := 9) (N := some 23) #[true, true, true, true, true, true, true, true, true, true, false, false, true, true, false, false, true, true, true, false, false, true, true, false, false, false] rfl rfl (one_of HT_.out (by kernel_rfl)) (by decide) (fun K hK => ?_)
       refine goes_ Tryd.func51 (by kernel_rfl) rfl #[.int .i64 t376, .int .i64 2] (by rfl) rfl rfl (by (try simp only [List.map_toArray, List.map_cons, List.map_nil]); first | done | rfl | (simp only [List.length_drop, List.length_take]; rfl)) ?_
       with_reducible refine (trystref01_number.calls k t376 2 t381 _ A6.out).mono ?_
       rintro e w22 ⟨rfl, hb⟩
       refine ⟨_, rfl, ?_⟩
       have n0_ := Aside0.mk (blk_below (g := gb378) (o := .cells #[.int .i64 t374, .int .i64 t375, .int .i64 t376] 68 (0, 0)) (by (with_reducible repeat (first | refine blk_drewN ?_ _ | refine blk_drew ?_ | refine blk_alloc ?_ _)); exact BK378.out) hb)
       have n1_ := Aside0.mk (below_step (by repeat (first | (with_reducible first | exact HB.out | apply below_alloc | apply pw_below_drewN | apply below_drew1 | refine below_set ?_ GE378.out) | exact HB.out)) hb)
       clear BK378
       clear HB
       have BK378 := n0_
       have HB := n1_
       clear n0_ n1_
       (try clear hb)
       (try clear hb2)
       (try clear hk)
       (try clear hi)
       refine hK.out _ _ ⟨(blk_cell BK378.out 0).trans rfl, (blk_cell BK378.out 1).trans rfl, (blk_cell BK378.out 2).trans rfl⟩ (fun hHeld => ?_)
       clear hK K
       refine norm_ (a' := ?_) ?_ ?_
       rotate_left
       ·show Act.put _ (some 23) _ = _
        simp only [Act.put, List.setIfInBounds_toArray, List.set_cons_zero, List.set_cons_succ, i64_w, i32_w]
        rfl
       refine pure_ (i := 10) (N := some 24) (v := ?_) (a' := ?_) #[true, true, true, true, true, true, true, true, true, true, true, false, true, true, false, false, true, true, true, false, false, true, true, false, false, false] rfl rfl (any_of HT_.out (by kernel_rfl)) (fun _ _ _ h => h) (Or.inl ⟨by rfl, ?_⟩) ?_ ?_
       rotate_left
       ·intro w'
        go_simp
        with_reducible rfl
       rotate_left
       ·simp only [Act.put, List.setIfInBounds_toArray, List.set_cons_zero, List.set_cons_succ, i64_w, i32_w]
        rfl
       refine pure_ (i := 11) (N := some 25) (v := ?_) (a' := ?_) #[true, true, true, true, true, true, true, true, true, true, true, true, true, true, false, false, true, true, true, false, false, true, true, false, false, false] rfl rfl (any_of HT_.out (by kernel_rfl)) (fun _ _ _ h => h) (Or.inl ⟨by rfl, ?_⟩) ?_ ?_
       rotate_left
       ·intro w'
        go_simp
        with_reducible rfl
       rotate_left
       ·simp only [Act.put, List.setIfInBounds_toArray, List.set_cons_zero, List.set_cons_succ, i64_w, i32_w]
        rfl
       refine one_ (i := 14) (N := some 28) #[true, true, true, true, true, true, true, true, true, true, true, true, true, true, true, false, true, true, true, false, false, true, true, false, false, false] rfl rfl (one_of HT_.out (by kernel_rfl)) (by decide) (fun K hK => ?_)
       refine goes_ Tryd.func51 (by kernel_rfl) rfl #[.int .i64 (wrap64 (Int.tdiv (Int.tmod a0 86400) 3600)), .int .i64 2] (by rfl) rfl rfl (by (try simp only [List.map_toArray, List.map_cons, List.map_nil]); first | done | rfl | (simp only [List.length_drop, List.length_take]; rfl)) ?_
       with_reducible refine (trystref01_number.calls k (wrap64 (Int.tdiv (Int.tmod a0 86400) 3600)) 2 t382 _ A9.out).mono ?_
       rintro e w23 ⟨rfl, hb⟩
       refine ⟨_, rfl, ?_⟩
       have n0_ := Aside0.mk (blk_below (g := gb378) (o := .cells #[.int .i64 t374, .int .i64 t375, .int .i64 t376] 68 (0, 0)) (by (with_reducible repeat (first | refine blk_drewN ?_ _ | refine blk_drew ?_ | refine blk_alloc ?_ _)); exact BK378.out) hb)
       have n1_ := Aside0.mk (below_step (by repeat (first | (with_reducible first | exact HB.out | apply below_alloc | apply pw_below_drewN | apply below_drew1 | refine below_set ?_ GE378.out) | exact HB.out)) hb)
       clear BK378
       clear HB
       have BK378 := n0_
       have HB := n1_
       clear n0_ n1_
       (try clear hb)
       (try clear hb2)
       (try clear hk)
       (try clear hi)
       refine hK.out _ _ ⟨(blk_cell BK378.out 0).trans rfl, (blk_cell BK378.out 1).trans rfl, (blk_cell BK378.out 2).trans rfl⟩ (fun hHeld => ?_)
       clear hK K
       refine norm_ (a' := ?_) ?_ ?_
       rotate_left
       ·show Act.put _ (some 28) _ = _
        simp only [Act.put, List.setIfInBounds_toArray, List.set_cons_zero, List.set_cons_succ, i64_w, i32_w]
        rfl
       refine pure_ (i := 15) (N := some 29) (v := ?_) (a' := ?_) #[true, true, true, true, true, true, true, true, true, true, true, true, true, true, true, true, true, true, true, false, false, true, true, false, false, false] rfl rfl (any_of HT_.out (by kernel_rfl)) (fun _ _ _ h => h) (Or.inl ⟨by rfl, ?_⟩) ?_ ?_
       rotate_left
       ·intro w'
        go_simp
        with_reducible rfl
       rotate_left
       ·simp only [Act.put, List.setIfInBounds_toArray, List.set_cons_zero, List.set_cons_succ, i64_w, i32_w]
        rfl
       refine one_ (i := 19) (N := some 33) #[true, true, true, true, true, true, true, true, true, true, true, true, true, true, true, true, true, true, true, true, false, true, true, false, false, false] rfl rfl (one_of HT_.out (by kernel_rfl)) (by decide) (fun K hK => ?_)
       refine goes_ Tryd.func51 (by kernel_rfl) rfl #[.int .i64 (Int.tmod (wrap64 (Int.tdiv (Int.tmod a0 86400) 60)) 60), .int .i64 2] (by rfl) rfl rfl (by (try simp only [List.map_toArray, List.map_cons, List.map_nil]); first | done | rfl | (simp only [List.length_drop, List.length_take]; rfl)) ?_
       with_reducible refine (trystref01_number.calls k (Int.tmod (wrap64 (Int.tdiv (Int.tmod a0 86400) 60)) 60) 2 t383 _ A11.out).mono ?_
       rintro e w24 ⟨rfl, hb⟩
       refine ⟨_, rfl, ?_⟩
       have n0_ := Aside0.mk (blk_below (g := gb378) (o := .cells #[.int .i64 t374, .int .i64 t375, .int .i64 t376] 68 (0, 0)) (by (with_reducible repeat (first | refine blk_drewN ?_ _ | refine blk_drew ?_ | refine blk_alloc ?_ _)); exact BK378.out) hb)
       have n1_ := Aside0.mk (below_step (by repeat (first | (with_reducible first | exact HB.out | apply below_alloc | apply pw_below_drewN | apply below_drew1 | refine below_set ?_ GE378.out) | exact HB.out)) hb)
       clear BK378
       clear HB
       have BK378 := n0_
       have HB := n1_
       clear n0_ n1_
       (try clear hb)
       (try clear hb2)
       (try clear hk)
       (try clear hi)
       refine hK.out _ _ ⟨(blk_cell BK378.out 0).trans rfl, (blk_cell BK378.out 1).trans rfl, (blk_cell BK378.out 2).trans rfl⟩ (fun hHeld => ?_)
       clear hK K
       refine norm_ (a' := ?_) ?_ ?_
       rotate_left
       ·show Act.put _ (some 33) _ = _
        simp only [Act.put, List.setIfInBounds_toArray, List.set_cons_zero, List.set_cons_succ, i64_w, i32_w]
        rfl
       refine pure_ (i := 20) (N := some 34) (v := ?_) (a' := ?_) #[true, true, true, true, true, true, true, true, true, true, true, true, true, true, true, true, true, true, true, true, true, true, true, false, false, false] rfl rfl (any_of HT_.out (by kernel_rfl)) (fun _ _ _ h => h) (Or.inl ⟨by rfl, ?_⟩) ?_ ?_
       rotate_left
       ·intro w'
        go_simp
        with_reducible rfl
       rotate_left
       ·simp only [Act.put, List.setIfInBounds_toArray, List.set_cons_zero, List.set_cons_succ, i64_w, i32_w]
        rfl
       refine one_ (i := 23) (N := some 37) #[true, true, true, true, true, true, true, true, true, true, true, true, true, true, true, true, true, true, true, true, true, true, true, true, false, false] rfl rfl (one_of HT_.out (by kernel_rfl)) (by decide) (fun K hK => ?_)
       refine goes_ Tryd.func51 (by kernel_rfl) rfl #[.int .i64 (Int.tmod a0 60), .int .i64 2] (by rfl) rfl rfl (by (try simp only [List.map_toArray, List.map_cons, List.map_nil]); first | done | rfl | (simp only [List.length_drop, List.length_take]; rfl)) ?_
       with_reducible refine (trystref01_number.calls k (Int.tmod a0 60) 2 t384 _ A13.out).mono ?_
       rintro e w25 ⟨rfl, hb⟩
       refine ⟨_, rfl, ?_⟩
       have n0_ := Aside0.mk (blk_below (g := gb378) (o := .cells #[.int .i64 t374, .int .i64 t375, .int .i64 t376] 68 (0, 0)) (by (with_reducible repeat (first | refine blk_drewN ?_ _ | refine blk_drew ?_ | refine blk_alloc ?_ _)); exact BK378.out) hb)
       have n1_ := Aside0.mk (below_step (by repeat (first | (with_reducible first | exact HB.out | apply below_alloc | apply pw_below_drewN | apply below_drew1 | refine below_set ?_ GE378.out) | exact HB.out)) hb)
       clear BK378
       clear HB
       have BK378 := n0_
       have HB := n1_
       clear n0_ n1_
       (try clear hb)
       (try clear hb2)
       (try clear hk)
       (try clear hi)
       refine hK.out _ _ ⟨(blk_cell BK378.out 0).trans rfl, (blk_cell BK378.out 1).trans rfl, (blk_cell BK378.out 2).trans rfl⟩ (fun hHeld => ?_)
       clear hK K
       refine norm_ (a' := ?_) ?_ ?_
       rotate_left
       ·show Act.put _ (some 37) _ = _
        simp only [Act.put, List.setIfInBounds_toArray, List.set_cons_zero, List.set_cons_succ, i64_w, i32_w]
        rfl
       refine pure_ (i := 24) (N := some 38) (v := ?_) (a' := ?_) #[true, true, true, true, true, true, true, true, true, true, true, true, true, true, true, true, true, true, true, true, true, true, true, true, true, false] rfl rfl (any_of HT_.out (by kernel_rfl)) (fun _ _ _ h => h) (Or.inl ⟨by rfl, ?_⟩) ?_ ?_
       rotate_left
       ·intro w'
        go_simp
        with_reducible rfl
       rotate_left
       ·simp only [Act.put, List.setIfInBounds_toArray, List.set_cons_zero, List.set_cons_succ, i64_w, i32_w]
        rfl
       refine pure_ (i := 25) (N := some 2) (v := ?_) (a' := ?_) #[true, true, true, true, true, true, true, true, true, true, true, true, true, true, true, true, true, true, true, true, true, true, true, true, true, true] rfl rfl (any_of HT_.out (by kernel_rfl)) (fun _ _ _ h => h) (Or.inl ⟨by rfl, ?_⟩) ?_ ?_
       rotate_left
       ·intro w'
        go_simp
        with_reducible rfl
       rotate_left
       ·simp only [Act.put, List.setIfInBounds_toArray, List.set_cons_zero, List.set_cons_succ, i64_w, i32_w]
        rfl
       refine done_ (done_of HT_.out (by kernel_rfl)) ?_
       try go_wp2
       go_ret
       exact ⟨by first | rfl | (simp [errW_none, errW_some] <;> rfl) | (simp [*, errW_none, errW_some] <;> rfl), by repeat (first | (with_reducible first | exact HB.out | apply below_alloc | apply pw_below_drewN | apply below_drew1 | refine below_set ?_ GE378.out) | exact HB.out)⟩
      ·rw [if_neg c14] at H
       exact absurd H (by simp)
     ·rw [if_neg c12] at H
      exact absurd H (by simp)
    ·rw [if_neg c10] at H
     exact absurd H (by simp)
   ·rw [if_neg c8] at H
    exact absurd H (by simp)
  ·rw [if_neg c7] at H
   exact absurd H (by simp)
 ·rw [if_neg c5] at H
  exact absurd H (by simp)

end Go.Proofs.YthppkdbelmolbaaDoor.Q
