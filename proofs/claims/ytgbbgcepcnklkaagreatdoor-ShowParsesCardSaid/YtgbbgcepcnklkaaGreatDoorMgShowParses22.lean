/- Texts of this claim, merged: Qtrystref01Text, ShowTx. -/
import Derived.Test.YtgbbgcepcnklkaaGreatDoorMgShowParses1
import Derived.Test.YtgbbgcepcnklkaaGreatDoorMgShowParses18
import Derived.Test.YtgbbgcepcnklkaaGreatDoorMgShowParses21
import Derived.Test.YtgbbgcepcnklkaaGreatDoorMgShowParses20
namespace Go.Proofs.YtgbbgcepcnklkaaGreatDoor.Q
open Go.RowKit Go.Proofs.YtgbbgcepcnklkaaGreatDoorW.PrintWords Go.Proofs.YtgbbgcepcnklkaaGreatDoorW.PrintLast Go.Proofs.YtgbbgcepcnklkaaGreatDoorW.PrintMore
attribute [local go_sem] max2_int min2_int max_two min_two
set_option linter.unusedVariables false
set_option linter.unusedSimpArgs false
theorem bs2_ (a b : UInt8) : ByteArray.size ⟨#[a, b]⟩ = 2 := rfl
/-! ### trystref01_Text: function 8 -/
def trystref01_Text.f (k : Nat) (a0 : Int) (a1 : Int) : Option (ByteArray) := (trystref01_Date.f k a0 a1).bind fun bt370 => (if bt370.2.2.2 = 0 then (if a0 = 2 then ((trystref01_number.f k bt370.1 0).bind fun t375 => (if t375.size + 2 ≤ 9223372036854775807 then ((trystref01_number.f k bt370.2.1 0).bind fun t376 => (if (t375 ++ (⟨#[45, 87]⟩ : ByteArray)).size + t376.size ≤ 9223372036854775807 then (if ((t375 ++ (⟨#[45, 87]⟩ : ByteArray)) ++ t376).size + 1 ≤ 9223372036854775807 then ((trystref01_number.f k bt370.2.2.1 0).bind fun t377 => (if (((t375 ++ (⟨#[45, 87]⟩ : ByteArray)) ++ t376) ++ (⟨#[45]⟩ : ByteArray)).size + t377.size ≤ 9223372036854775807 then (some ((((t375 ++ (⟨#[45, 87]⟩ : ByteArray)) ++ t376) ++ (⟨#[45]⟩ : ByteArray)) ++ t377)) else (none))) else (none)) else (none))) else (none))) else ((trystref01_number.f k bt370.1 0).bind fun t378 => (if t378.size + 1 ≤ 9223372036854775807 then ((trystref01_number.f k bt370.2.1 0).bind fun t379 => (if (t378 ++ (⟨#[45]⟩ : ByteArray)).size + t379.size ≤ 9223372036854775807 then (if ((t378 ++ (⟨#[45]⟩ : ByteArray)) ++ t379).size + 1 ≤ 9223372036854775807 then ((trystref01_number.f k bt370.2.2.1 0).bind fun t380 => (if (((t378 ++ (⟨#[45]⟩ : ByteArray)) ++ t379) ++ (⟨#[45]⟩ : ByteArray)).size + t380.size ≤ 9223372036854775807 then (some ((((t378 ++ (⟨#[45]⟩ : ByteArray)) ++ t379) ++ (⟨#[45]⟩ : ByteArray)) ++ t380)) else (none))) else (none)) else (none))) else (none)))) else (some (⟨#[]⟩ : ByteArray)))
def trystref01_Text.T7 : Bool × List (List Nat × List Nat) := (true, [([], []), ([0], [0]), ([1], [1]), ([], []), ([2, 3], [2, 3]), ([], []), ([5], [5]), ([6, 2], [6]), ([4, 7], [4, 7]), ([8], [8]), ([], []), ([10], [10]), ([11, 7], [11]), ([9, 12], [9, 12]), ([13, 12, 0, 1, 2, 3, 4, 5, 6, 7, 8, 9, 10, 11, 12, 13], [13])])
def trystref01_Text.B7 : List Nat := [0, 1, 3, 0, 15, 0, 32, 103, 255, 511, 0, 1024, 3303, 8191, 16383]
theorem trystref01_Text.tab7 : rtab .any (opsOf Tryz.f8 7) = trystref01_Text.T7 := by kernel_rfl
theorem trystref01_Text.bits7 : waitsOk trystref01_Text.T7.2 trystref01_Text.B7 = true := by kernel_rfl
set_option maxHeartbeats 8000000 in
set_option maxRecDepth 100000 in
theorem trystref01_Text.calls (k : Nat) (a0 : Int) (a1 : Int) (r : ByteArray) (w : World) (h : trystref01_Text.f k a0 a1 = some r) :
  Calls Tryz.prog 8 #[.int .i64 a0, .int .i64 a1] w fun e w' => e = .returned (.string r) ∧ Below w.heap.size w w' := by
 have hu41 := Tryz.underlying41
 have HB := Aside0.mk (Below.refl w.heap.size w)
 have H : ((trystref01_Date.f k a0 a1).bind fun bt370 => (if bt370.2.2.2 = 0 then (if a0 = 2 then ((trystref01_number.f k bt370.1 0).bind fun t375 => (if t375.size + 2 ≤ 9223372036854775807 then ((trystref01_number.f k bt370.2.1 0).bind fun t376 => (if (t375 ++ (⟨#[45, 87]⟩ : ByteArray)).size + t376.size ≤ 9223372036854775807 then (if ((t375 ++ (⟨#[45, 87]⟩ : ByteArray)) ++ t376).size + 1 ≤ 9223372036854775807 then ((trystref01_number.f k bt370.2.2.1 0).bind fun t377 => (if (((t375 ++ (⟨#[45, 87]⟩ : ByteArray)) ++ t376) ++ (⟨#[45]⟩ : ByteArray)).size + t377.size ≤ 9223372036854775807 then (some ((((t375 ++ (⟨#[45, 87]⟩ : ByteArray)) ++ t376) ++ (⟨#[45]⟩ : ByteArray)) ++ t377)) else (none))) else (none)) else (none))) else (none))) else ((trystref01_number.f k bt370.1 0).bind fun t378 => (if t378.size + 1 ≤ 9223372036854775807 then ((trystref01_number.f k bt370.2.1 0).bind fun t379 => (if (t378 ++ (⟨#[45]⟩ : ByteArray)).size + t379.size ≤ 9223372036854775807 then (if ((t378 ++ (⟨#[45]⟩ : ByteArray)) ++ t379).size + 1 ≤ 9223372036854775807 then ((trystref01_number.f k bt370.2.2.1 0).bind fun t380 => (if (((t378 ++ (⟨#[45]⟩ : ByteArray)) ++ t379) ++ (⟨#[45]⟩ : ByteArray)).size + t380.size ≤ 9223372036854775807 then (some ((((t378 ++ (⟨#[45]⟩ : ByteArray)) ++ t379) ++ (⟨#[45]⟩ : ByteArray)) ++ t380)) else (none))) else (none)) else (none))) else (none)))) else (some (⟨#[]⟩ : ByteArray)))) = some r := h
 clear h
 replace H := Option.bind_eq_some_iff.mp H
 obtain ⟨⟨t370, t371, t372, t373⟩, A30, H⟩ := H
 replace H : (if t373 = 0 then (if a0 = 2 then ((trystref01_number.f k t370 0).bind fun t375 => (if t375.size + 2 ≤ 9223372036854775807 then ((trystref01_number.f k t371 0).bind fun t376 => (if (t375 ++ (⟨#[45, 87]⟩ : ByteArray)).size + t376.size ≤ 9223372036854775807 then (if ((t375 ++ (⟨#[45, 87]⟩ : ByteArray)) ++ t376).size + 1 ≤ 9223372036854775807 then ((trystref01_number.f k t372 0).bind fun t377 => (if (((t375 ++ (⟨#[45, 87]⟩ : ByteArray)) ++ t376) ++ (⟨#[45]⟩ : ByteArray)).size + t377.size ≤ 9223372036854775807 then (some ((((t375 ++ (⟨#[45, 87]⟩ : ByteArray)) ++ t376) ++ (⟨#[45]⟩ : ByteArray)) ++ t377)) else (none))) else (none)) else (none))) else (none))) else ((trystref01_number.f k t370 0).bind fun t378 => (if t378.size + 1 ≤ 9223372036854775807 then ((trystref01_number.f k t371 0).bind fun t379 => (if (t378 ++ (⟨#[45]⟩ : ByteArray)).size + t379.size ≤ 9223372036854775807 then (if ((t378 ++ (⟨#[45]⟩ : ByteArray)) ++ t379).size + 1 ≤ 9223372036854775807 then ((trystref01_number.f k t372 0).bind fun t380 => (if (((t378 ++ (⟨#[45]⟩ : ByteArray)) ++ t379) ++ (⟨#[45]⟩ : ByteArray)).size + t380.size ≤ 9223372036854775807 then (some ((((t378 ++ (⟨#[45]⟩ : ByteArray)) ++ t379) ++ (⟨#[45]⟩ : ByteArray)) ++ t380)) else (none))) else (none)) else (none))) else (none)))) else (some (⟨#[]⟩ : ByteArray))) = some r := H
 have A3 := Aside0.mk A30
 clear A30
 by_cases c4 : t373 = 0
 ·rw [if_pos c4] at H
  have c4b0 : (t373 == 0) = true := beq_iff_eq.mpr c4
  have c4b1 : (t373 != 0) = false := bne_eq_false_iff_eq.mpr c4
  clear c4
  by_cases c5 : a0 = 2
  ·rw [if_pos c5] at H
   have c5b0 : (a0 == 2) = true := beq_iff_eq.mpr c5
   have c5b1 : (a0 != 2) = false := bne_eq_false_iff_eq.mpr c5
   clear c5
   replace H := Option.bind_eq_some_iff.mp H
   obtain ⟨t375, A60, H⟩ := H
   replace H : (if t375.size + 2 ≤ 9223372036854775807 then ((trystref01_number.f k t371 0).bind fun t376 => (if (t375 ++ (⟨#[45, 87]⟩ : ByteArray)).size + t376.size ≤ 9223372036854775807 then (if ((t375 ++ (⟨#[45, 87]⟩ : ByteArray)) ++ t376).size + 1 ≤ 9223372036854775807 then ((trystref01_number.f k t372 0).bind fun t377 => (if (((t375 ++ (⟨#[45, 87]⟩ : ByteArray)) ++ t376) ++ (⟨#[45]⟩ : ByteArray)).size + t377.size ≤ 9223372036854775807 then (some ((((t375 ++ (⟨#[45, 87]⟩ : ByteArray)) ++ t376) ++ (⟨#[45]⟩ : ByteArray)) ++ t377)) else (none))) else (none)) else (none))) else (none)) = some r := H
   have A6 := Aside0.mk A60
   clear A60
   by_cases c7 : t375.size + 2 ≤ 9223372036854775807
   ·rw [if_pos c7] at H
    have c7b0 := eq_true c7
    have c7b1 : decide (t375.size + 2 ≤ 9223372036854775807) = true := decide_eq_true c7
    try have c7b2 : (9223372036854775807 < t375.size + 2) = False := eq_false (Nat.not_lt.2 c7)
    try (have c7b3 := c7b2; simp only [ByteArray.size_append, bs1_, bs2_] at c7b3)
    replace H := Option.bind_eq_some_iff.mp H
    obtain ⟨t376, A80, H⟩ := H
    replace H : (if (t375 ++ (⟨#[45, 87]⟩ : ByteArray)).size + t376.size ≤ 9223372036854775807 then (if ((t375 ++ (⟨#[45, 87]⟩ : ByteArray)) ++ t376).size + 1 ≤ 9223372036854775807 then ((trystref01_number.f k t372 0).bind fun t377 => (if (((t375 ++ (⟨#[45, 87]⟩ : ByteArray)) ++ t376) ++ (⟨#[45]⟩ : ByteArray)).size + t377.size ≤ 9223372036854775807 then (some ((((t375 ++ (⟨#[45, 87]⟩ : ByteArray)) ++ t376) ++ (⟨#[45]⟩ : ByteArray)) ++ t377)) else (none))) else (none)) else (none)) = some r := H
    have A8 := Aside0.mk A80
    clear A80
    by_cases c9 : (t375 ++ (⟨#[45, 87]⟩ : ByteArray)).size + t376.size ≤ 9223372036854775807
    ·rw [if_pos c9] at H
     have c9b0 := eq_true c9
     have c9b1 : decide ((t375 ++ (⟨#[45, 87]⟩ : ByteArray)).size + t376.size ≤ 9223372036854775807) = true := decide_eq_true c9
     try have c9b2 : (9223372036854775807 < (t375 ++ (⟨#[45, 87]⟩ : ByteArray)).size + t376.size) = False := eq_false (Nat.not_lt.2 c9)
     try (have c9b3 := c9b2; simp only [ByteArray.size_append, bs1_, bs2_] at c9b3)
     by_cases c10 : ((t375 ++ (⟨#[45, 87]⟩ : ByteArray)) ++ t376).size + 1 ≤ 9223372036854775807
     ·rw [if_pos c10] at H
      have c10b0 := eq_true c10
      have c10b1 : decide (((t375 ++ (⟨#[45, 87]⟩ : ByteArray)) ++ t376).size + 1 ≤ 9223372036854775807) = true := decide_eq_true c10
      try have c10b2 : (9223372036854775807 < ((t375 ++ (⟨#[45, 87]⟩ : ByteArray)) ++ t376).size + 1) = False := eq_false (Nat.not_lt.2 c10)
      try (have c10b3 := c10b2; simp only [ByteArray.size_append, bs1_, bs2_] at c10b3)
      replace H := Option.bind_eq_some_iff.mp H
      obtain ⟨t377, A110, H⟩ := H
      replace H : (if (((t375 ++ (⟨#[45, 87]⟩ : ByteArray)) ++ t376) ++ (⟨#[45]⟩ : ByteArray)).size + t377.size ≤ 9223372036854775807 then (some ((((t375 ++ (⟨#[45, 87]⟩ : ByteArray)) ++ t376) ++ (⟨#[45]⟩ : ByteArray)) ++ t377)) else (none)) = some r := H
      have A11 := Aside0.mk A110
      clear A110
      by_cases c12 : (((t375 ++ (⟨#[45, 87]⟩ : ByteArray)) ++ t376) ++ (⟨#[45]⟩ : ByteArray)).size + t377.size ≤ 9223372036854775807
      ·rw [if_pos c12] at H
       have c12b0 := eq_true c12
       have c12b1 : decide ((((t375 ++ (⟨#[45, 87]⟩ : ByteArray)) ++ t376) ++ (⟨#[45]⟩ : ByteArray)).size + t377.size ≤ 9223372036854775807) = true := decide_eq_true c12
       try have c12b2 : (9223372036854775807 < (((t375 ++ (⟨#[45, 87]⟩ : ByteArray)) ++ t376) ++ (⟨#[45]⟩ : ByteArray)).size + t377.size) = False := eq_false (Nat.not_lt.2 c12)
       try (have c12b3 := c12b2; simp only [ByteArray.size_append, bs1_, bs2_] at c12b3)
       obtain rfl := Option.some.inj H
       go_enter Tryz.func8, Tryz.ntmps8
       try go_wp2_with (first | ((with_reducible refine gate_callee (f := 16) rfl ?_); refine gm_ (some 11) Tryz.func16 #[.int .i64 a0, .int .i64 a1] ?_; (with_reducible refine (trystref01_Date.calls k a0 a1 t370 t371 t372 t373 _ A3.out).mono ?_); rintro e w13 ⟨rfl, hb⟩; refine ⟨_, rfl, ?_⟩; have n0_ := Aside0.mk (below_step (by repeat (first | (with_reducible first | exact HB.out | apply below_alloc | apply pw_below_drewN | apply below_drew1) | exact HB.out)) hb); clear HB; have HB := n0_; clear n0_; (try clear hb); (try clear hb2); (try clear hk); (try clear hi)) | ((with_reducible refine gate_dst (N := 5) rfl ?_); refine box_event ?hg (N := 5) ?hd (cs := #[.int .i64 0, .int .i64 0, .int .i64 0]) (t := 41) ?hr ?_; (case hd => rfl); (case hg => rfl); (case hr => first | (go_simp; done) | (go_simp; rfl)); intro gb374 hg w14 hbox hb; have n0_ := Aside0.mk (below_step (by repeat (first | (with_reducible first | exact HB.out | apply below_alloc | apply pw_below_drewN | apply below_drew1) | exact HB.out)) hb); have n1_ := Aside0.mk (hbox); have n2_ := Aside0.mk ((by rw [hg]; exact (below_size (by repeat (first | (with_reducible first | exact HB.out | apply below_alloc | apply pw_below_drewN | apply below_drew1) | exact HB.out))) : w.heap.size ≤ gb374)); have n3_ := Aside0.mk ((by rw [hg]; exact (below_size (by repeat (first | (with_reducible first | exact HB.out | apply below_alloc | apply pw_below_drewN | apply below_drew1) | exact HB.out))) : w.heap.size ≤ gb374)); clear HB; have HB := n0_; have BK374 := n1_; have GW374 := n2_; have GE374 := n3_; clear n0_ n1_ n2_ n3_; clear hb hbox hg; have hcz15_0 : w14.cell? ⟨gb374, 0, none⟩ = some (.int .i64 0) := (blk_cell BK374.out 0).trans rfl; have hcz15_1 : w14.cell? ⟨gb374, 1, none⟩ = some (.int .i64 0) := (blk_cell BK374.out 1).trans rfl; have hcz15_2 : w14.cell? ⟨gb374, 2, none⟩ = some (.int .i64 0) := (blk_cell BK374.out 2).trans rfl; have hfz15_0 := blk_frozen BK374.out 0; have hfz15_1 := blk_frozen BK374.out 1; have hfz15_2 := blk_frozen BK374.out 2))
       have n0_ : Aside0 ((((w14.setCell ⟨gb374, 0, none⟩ (.int .i64 t370)).setCell ⟨gb374, 1, none⟩ (.int .i64 t371)).setCell ⟨gb374, 2, none⟩ (.int .i64 t372)).heap[gb374]? = some (.cells #[.int .i64 t370, .int .i64 t371, .int .i64 t372] 41 (0, 0))) := ⟨by (with_reducible repeat (first | refine blk_drewN ?_ _ | refine blk_drew ?_ | refine blk_alloc ?_ _)); refine blk_put (cs := #[.int .i64 t370, .int .i64 t371, .int .i64 0]) ?_ 2 _ rfl; (with_reducible repeat (first | refine blk_drewN ?_ _ | refine blk_drew ?_ | refine blk_alloc ?_ _)); refine blk_put (cs := #[.int .i64 t370, .int .i64 0, .int .i64 0]) ?_ 1 _ rfl; (with_reducible repeat (first | refine blk_drewN ?_ _ | refine blk_drew ?_ | refine blk_alloc ?_ _)); refine blk_put (cs := #[.int .i64 0, .int .i64 0, .int .i64 0]) ?_ 0 _ rfl; (with_reducible repeat (first | refine blk_drewN ?_ _ | refine blk_drew ?_ | refine blk_alloc ?_ _)); exact BK374.out⟩
       have n1_ : Aside0 (Below w.heap.size w (((w14.setCell ⟨gb374, 0, none⟩ (.int .i64 t370)).setCell ⟨gb374, 1, none⟩ (.int .i64 t371)).setCell ⟨gb374, 2, none⟩ (.int .i64 t372))) := ⟨by repeat (first | (with_reducible first | exact HB.out | apply below_alloc | apply pw_below_drewN | apply below_drew1 | refine below_set ?_ GE374.out) | exact HB.out)⟩
       (try clear BK374)
       (try clear HB)
       generalize (((w14.setCell ⟨gb374, 0, none⟩ (.int .i64 t370)).setCell ⟨gb374, 1, none⟩ (.int .i64 t371)).setCell ⟨gb374, 2, none⟩ (.int .i64 t372)) = w16 at n0_ n1_ ⊢
       have BK374 := n0_
       have HB := n1_
       clear n0_ n1_
       have n0_ := Aside0.mk (blk_drew BK374.out)
       have n1_ := Aside0.mk (below_drew1 HB.out)
       clear BK374
       clear HB
       have BK374 := n0_
       have HB := n1_
       clear n0_ n1_
       refine start_ (n := 15) (S := fun w' => w'.cell? ⟨gb374, 0, none⟩ = some (.int .i64 t370) ∧ w'.cell? ⟨gb374, 1, none⟩ = some (.int .i64 t371) ∧ w'.cell? ⟨gb374, 2, none⟩ = some (.int .i64 t372)) (ds := []) #[false, false, false, false, false, false, false, false, false, false, false, false, false, false, false] (by kernel_rfl) rfl rfl ⟨(blk_cell BK374.out 0).trans rfl, (blk_cell BK374.out 1).trans rfl, (blk_cell BK374.out 2).trans rfl⟩ (fun hHeld => ?_); refine with_tabW trystref01_Text.tab7 trystref01_Text.bits7 (fun HT_ HW_ => ?_)
       generalize w16.drew = w17 at BK374 HB hHeld ⊢
       refine pure_ (i := 0) (N := some 18) (v := ?_) (a' := ?_) #[true, false, false, false, false, false, false, false, false, false, false, false, false, false, false] rfl rfl (any_of HT_.out (by kernel_rfl)) (fun _ _ _ h => h) (Or.inl ⟨by rfl, ?_⟩) ?_ ?_
       rotate_left
       ·intro w'
        go_simp
        with_reducible rfl
       rotate_left
       ·simp only [Act.put, sA, sB, sC, i64_w, i32_w]
        rfl
       refine pure_ (i := 3) (N := some 21) (v := ?_) (a' := ?_) #[true, false, false, true, false, false, false, false, false, false, false, false, false, false, false] rfl rfl (any_of HT_.out (by kernel_rfl)) (fun _ _ _ h => h) (Or.inl ⟨by rfl, ?_⟩) ?_ ?_
       rotate_left
       ·intro w'
        go_simp
        with_reducible rfl
       rotate_left
       ·simp only [Act.put, sA, sB, sC, i64_w, i32_w]
        rfl
       refine pure_ (i := 5) (N := some 23) (v := ?_) (a' := ?_) #[true, false, false, true, false, true, false, false, false, false, false, false, false, false, false] rfl rfl (any_of HT_.out (by kernel_rfl)) (fun _ _ _ h => h) (Or.inl ⟨by rfl, ?_⟩) ?_ ?_
       rotate_left
       ·intro w'
        go_simp
        with_reducible rfl
       rotate_left
       ·simp only [Act.put, sA, sB, sC, i64_w, i32_w]
        rfl
       refine pure_ (i := 10) (N := some 28) (v := ?_) (a' := ?_) #[true, false, false, true, false, true, false, false, false, false, true, false, false, false, false] rfl rfl (any_of HT_.out (by kernel_rfl)) (fun _ _ _ h => h) (Or.inl ⟨by rfl, ?_⟩) ?_ ?_
       rotate_left
       ·intro w'
        go_simp
        with_reducible rfl
       rotate_left
       ·simp only [Act.put, sA, sB, sC, i64_w, i32_w]
        rfl
       refine take_ (i := 1) (N := some 19) (v := ?_) (a' := ?_) #[true, true, false, true, false, true, false, false, false, false, true, false, false, false, false] rfl rfl (take_ofW HT_.out HW_.out (by kernel_rfl)) (fun _ _ _ h => h) (Or.inl ⟨by rfl, ?_⟩) hHeld ?_ ?_
       rotate_left
       ·rintro w' ⟨s0, s1, s2⟩
        go_simp
        with_reducible rfl
       rotate_left
       ·simp only [Act.put, sA, sB, sC, i64_w, i32_w]
        rfl
       refine take_ (i := 6) (N := some 24) (v := ?_) (a' := ?_) #[true, true, false, true, false, true, true, false, false, false, true, false, false, false, false] rfl rfl (take_ofW HT_.out HW_.out (by kernel_rfl)) (fun _ _ _ h => h) (Or.inl ⟨by rfl, ?_⟩) hHeld ?_ ?_
       rotate_left
       ·rintro w' ⟨s0, s1, s2⟩
        go_simp
        with_reducible rfl
       rotate_left
       ·simp only [Act.put, sA, sB, sC, i64_w, i32_w]
        rfl
       refine take_ (i := 11) (N := some 29) (v := ?_) (a' := ?_) #[true, true, false, true, false, true, true, false, false, false, true, true, false, false, false] rfl rfl (take_ofW HT_.out HW_.out (by kernel_rfl)) (fun _ _ _ h => h) (Or.inl ⟨by rfl, ?_⟩) hHeld ?_ ?_
       rotate_left
       ·rintro w' ⟨s0, s1, s2⟩
        go_simp
        with_reducible rfl
       rotate_left
       ·simp only [Act.put, sA, sB, sC, i64_w, i32_w]
        rfl
       refine one_ (i := 2) (N := some 20) #[true, true, true, true, false, true, true, false, false, false, true, true, false, false, false] rfl rfl (one_of HT_.out (by kernel_rfl)) (by decide) (fun K hK => ?_)
       refine goes_ Tryz.func17 (by kernel_rfl) rfl #[.int .i64 t370, .int .i64 0] (by rfl) rfl rfl (by (try simp only [mA, mB, mC]); first | done | rfl) ?_
       with_reducible refine (trystref01_number.calls k t370 0 t375 _ A6.out).mono ?_
       rintro e w18 ⟨rfl, hb⟩
       refine ⟨_, rfl, ?_⟩
       have n0_ := Aside0.mk (blk_below (g := gb374) (o := .cells #[.int .i64 t370, .int .i64 t371, .int .i64 t372] 41 (0, 0)) (by (with_reducible repeat (first | refine blk_drewN ?_ _ | refine blk_drew ?_ | refine blk_alloc ?_ _)); exact BK374.out) hb)
       have n1_ := Aside0.mk (below_step (by repeat (first | (with_reducible first | exact HB.out | apply below_alloc | apply pw_below_drewN | apply below_drew1 | refine below_set ?_ GE374.out) | exact HB.out)) hb)
       clear BK374
       clear HB
       have BK374 := n0_
       have HB := n1_
       clear n0_ n1_
       (try clear hb)
       (try clear hb2)
       (try clear hk)
       (try clear hi)
       refine hK.out _ _ ⟨(blk_cell BK374.out 0).trans rfl, (blk_cell BK374.out 1).trans rfl, (blk_cell BK374.out 2).trans rfl⟩ (fun hHeld => ?_)
       clear hK K
       refine norm_ (a' := ?_) ?_ ?_
       rotate_left
       ·show Act.put _ (some 20) _ = _
        simp only [Act.put, sA, sB, sC, i64_w, i32_w]
        rfl
       refine pure_ (i := 4) (N := some 22) (v := ?_) (a' := ?_) #[true, true, true, true, true, true, true, false, false, false, true, true, false, false, false] rfl rfl (any_of HT_.out (by kernel_rfl)) (fun _ _ _ h => h) (Or.inl ⟨by rfl, ?_⟩) ?_ ?_
       rotate_left
       ·intro w'
        go_simp
        with_reducible rfl
       rotate_left
       ·simp only [Act.put, sA, sB, sC, i64_w, i32_w]
        rfl
       refine one_ (i := 7) (N := some 25) #[true, true, true, true, true, true, true, true, false, false, true, true, false, false, false] rfl rfl (one_of HT_.out (by kernel_rfl)) (by decide) (fun K hK => ?_)
       refine goes_ Tryz.func17 (by kernel_rfl) rfl #[.int .i64 t371, .int .i64 0] (by rfl) rfl rfl (by (try simp only [mA, mB, mC]); first | done | rfl) ?_
       with_reducible refine (trystref01_number.calls k t371 0 t376 _ A8.out).mono ?_
       rintro e w19 ⟨rfl, hb⟩
       refine ⟨_, rfl, ?_⟩
       have n0_ := Aside0.mk (blk_below (g := gb374) (o := .cells #[.int .i64 t370, .int .i64 t371, .int .i64 t372] 41 (0, 0)) (by (with_reducible repeat (first | refine blk_drewN ?_ _ | refine blk_drew ?_ | refine blk_alloc ?_ _)); exact BK374.out) hb)
       have n1_ := Aside0.mk (below_step (by repeat (first | (with_reducible first | exact HB.out | apply below_alloc | apply pw_below_drewN | apply below_drew1 | refine below_set ?_ GE374.out) | exact HB.out)) hb)
       clear BK374
       clear HB
       have BK374 := n0_
       have HB := n1_
       clear n0_ n1_
       (try clear hb)
       (try clear hb2)
       (try clear hk)
       (try clear hi)
       refine hK.out _ _ ⟨(blk_cell BK374.out 0).trans rfl, (blk_cell BK374.out 1).trans rfl, (blk_cell BK374.out 2).trans rfl⟩ (fun hHeld => ?_)
       clear hK K
       refine norm_ (a' := ?_) ?_ ?_
       rotate_left
       ·show Act.put _ (some 25) _ = _
        simp only [Act.put, sA, sB, sC, i64_w, i32_w]
        rfl
       refine pure_ (i := 8) (N := some 26) (v := ?_) (a' := ?_) #[true, true, true, true, true, true, true, true, true, false, true, true, false, false, false] rfl rfl (any_of HT_.out (by kernel_rfl)) (fun _ _ _ h => h) (Or.inl ⟨by rfl, ?_⟩) ?_ ?_
       rotate_left
       ·intro w'
        go_simp
        with_reducible rfl
       rotate_left
       ·simp only [Act.put, sA, sB, sC, i64_w, i32_w]
        rfl
       refine pure_ (i := 9) (N := some 27) (v := ?_) (a' := ?_) #[true, true, true, true, true, true, true, true, true, true, true, true, false, false, false] rfl rfl (any_of HT_.out (by kernel_rfl)) (fun _ _ _ h => h) (Or.inl ⟨by rfl, ?_⟩) ?_ ?_
       rotate_left
       ·intro w'
        go_simp
        with_reducible rfl
       rotate_left
       ·simp only [Act.put, sA, sB, sC, i64_w, i32_w]
        rfl
       refine one_ (i := 12) (N := some 30) #[true, true, true, true, true, true, true, true, true, true, true, true, true, false, false] rfl rfl (one_of HT_.out (by kernel_rfl)) (by decide) (fun K hK => ?_)
       refine goes_ Tryz.func17 (by kernel_rfl) rfl #[.int .i64 t372, .int .i64 0] (by rfl) rfl rfl (by (try simp only [mA, mB, mC]); first | done | rfl) ?_
       with_reducible refine (trystref01_number.calls k t372 0 t377 _ A11.out).mono ?_
       rintro e w20 ⟨rfl, hb⟩
       refine ⟨_, rfl, ?_⟩
       have n0_ := Aside0.mk (blk_below (g := gb374) (o := .cells #[.int .i64 t370, .int .i64 t371, .int .i64 t372] 41 (0, 0)) (by (with_reducible repeat (first | refine blk_drewN ?_ _ | refine blk_drew ?_ | refine blk_alloc ?_ _)); exact BK374.out) hb)
       have n1_ := Aside0.mk (below_step (by repeat (first | (with_reducible first | exact HB.out | apply below_alloc | apply pw_below_drewN | apply below_drew1 | refine below_set ?_ GE374.out) | exact HB.out)) hb)
       clear BK374
       clear HB
       have BK374 := n0_
       have HB := n1_
       clear n0_ n1_
       (try clear hb)
       (try clear hb2)
       (try clear hk)
       (try clear hi)
       refine hK.out _ _ ⟨(blk_cell BK374.out 0).trans rfl, (blk_cell BK374.out 1).trans rfl, (blk_cell BK374.out 2).trans rfl⟩ (fun hHeld => ?_)
       clear hK K
       refine norm_ (a' := ?_) ?_ ?_
       rotate_left
       ·show Act.put _ (some 30) _ = _
        simp only [Act.put, sA, sB, sC, i64_w, i32_w]
        rfl
       refine pure_ (i := 13) (N := some 31) (v := ?_) (a' := ?_) #[true, true, true, true, true, true, true, true, true, true, true, true, true, true, false] rfl rfl (any_of HT_.out (by kernel_rfl)) (fun _ _ _ h => h) (Or.inl ⟨by rfl, ?_⟩) ?_ ?_
       rotate_left
       ·intro w'
        go_simp
        with_reducible rfl
       rotate_left
       ·simp only [Act.put, sA, sB, sC, i64_w, i32_w]
        rfl
       refine pure_ (i := 14) (N := some 4) (v := ?_) (a' := ?_) #[true, true, true, true, true, true, true, true, true, true, true, true, true, true, true] rfl rfl (any_of HT_.out (by kernel_rfl)) (fun _ _ _ h => h) (Or.inl ⟨by rfl, ?_⟩) ?_ ?_
       rotate_left
       ·intro w'
        go_simp
        with_reducible rfl
       rotate_left
       ·simp only [Act.put, sA, sB, sC, i64_w, i32_w]
        rfl
       refine done_ (done_of HT_.out (by kernel_rfl)) ?_
       try go_wp2
       go_ret
       exact ⟨by first | rfl | (simp [*, errW_none, errW_some] <;> rfl), by repeat (first | (with_reducible first | exact HB.out | apply below_alloc | apply pw_below_drewN | apply below_drew1 | refine below_set ?_ GE374.out) | exact HB.out)⟩
      ·rw [if_neg c12] at H
       exact absurd H (by simp)
     ·rw [if_neg c10] at H
      exact absurd H (by simp)
    ·rw [if_neg c9] at H
     exact absurd H (by simp)
   ·rw [if_neg c7] at H
    exact absurd H (by simp)
  ·rw [if_neg c5] at H
   have c5b0 : (a0 == 2) = false := beq_eq_false_iff_ne.mpr c5
   have c5b1 : (a0 != 2) = true := bne_iff_ne.mpr c5
   replace H := Option.bind_eq_some_iff.mp H
   obtain ⟨t378, A210, H⟩ := H
   replace H : (if t378.size + 1 ≤ 9223372036854775807 then ((trystref01_number.f k t371 0).bind fun t379 => (if (t378 ++ (⟨#[45]⟩ : ByteArray)).size + t379.size ≤ 9223372036854775807 then (if ((t378 ++ (⟨#[45]⟩ : ByteArray)) ++ t379).size + 1 ≤ 9223372036854775807 then ((trystref01_number.f k t372 0).bind fun t380 => (if (((t378 ++ (⟨#[45]⟩ : ByteArray)) ++ t379) ++ (⟨#[45]⟩ : ByteArray)).size + t380.size ≤ 9223372036854775807 then (some ((((t378 ++ (⟨#[45]⟩ : ByteArray)) ++ t379) ++ (⟨#[45]⟩ : ByteArray)) ++ t380)) else (none))) else (none)) else (none))) else (none)) = some r := H
   have A21 := Aside0.mk A210
   clear A210
   by_cases c22 : t378.size + 1 ≤ 9223372036854775807
   ·rw [if_pos c22] at H
    have c22b0 := eq_true c22
    have c22b1 : decide (t378.size + 1 ≤ 9223372036854775807) = true := decide_eq_true c22
    try have c22b2 : (9223372036854775807 < t378.size + 1) = False := eq_false (Nat.not_lt.2 c22)
    try (have c22b3 := c22b2; simp only [ByteArray.size_append, bs1_, bs2_] at c22b3)
    replace H := Option.bind_eq_some_iff.mp H
    obtain ⟨t379, A230, H⟩ := H
    replace H : (if (t378 ++ (⟨#[45]⟩ : ByteArray)).size + t379.size ≤ 9223372036854775807 then (if ((t378 ++ (⟨#[45]⟩ : ByteArray)) ++ t379).size + 1 ≤ 9223372036854775807 then ((trystref01_number.f k t372 0).bind fun t380 => (if (((t378 ++ (⟨#[45]⟩ : ByteArray)) ++ t379) ++ (⟨#[45]⟩ : ByteArray)).size + t380.size ≤ 9223372036854775807 then (some ((((t378 ++ (⟨#[45]⟩ : ByteArray)) ++ t379) ++ (⟨#[45]⟩ : ByteArray)) ++ t380)) else (none))) else (none)) else (none)) = some r := H
    have A23 := Aside0.mk A230
    clear A230
    by_cases c24 : (t378 ++ (⟨#[45]⟩ : ByteArray)).size + t379.size ≤ 9223372036854775807
    ·rw [if_pos c24] at H
     have c24b0 := eq_true c24
     have c24b1 : decide ((t378 ++ (⟨#[45]⟩ : ByteArray)).size + t379.size ≤ 9223372036854775807) = true := decide_eq_true c24
     try have c24b2 : (9223372036854775807 < (t378 ++ (⟨#[45]⟩ : ByteArray)).size + t379.size) = False := eq_false (Nat.not_lt.2 c24)
     try (have c24b3 := c24b2; simp only [ByteArray.size_append, bs1_, bs2_] at c24b3)
     by_cases c25 : ((t378 ++ (⟨#[45]⟩ : ByteArray)) ++ t379).size + 1 ≤ 9223372036854775807
     ·rw [if_pos c25] at H
      have c25b0 := eq_true c25
      have c25b1 : decide (((t378 ++ (⟨#[45]⟩ : ByteArray)) ++ t379).size + 1 ≤ 9223372036854775807) = true := decide_eq_true c25
      try have c25b2 : (9223372036854775807 < ((t378 ++ (⟨#[45]⟩ : ByteArray)) ++ t379).size + 1) = False := eq_false (Nat.not_lt.2 c25)
      try (have c25b3 := c25b2; simp only [ByteArray.size_append, bs1_, bs2_] at c25b3)
      replace H := Option.bind_eq_some_iff.mp H
      obtain ⟨t380, A260, H⟩ := H
      replace H : (if (((t378 ++ (⟨#[45]⟩ : ByteArray)) ++ t379) ++ (⟨#[45]⟩ : ByteArray)).size + t380.size ≤ 9223372036854775807 then (some ((((t378 ++ (⟨#[45]⟩ : ByteArray)) ++ t379) ++ (⟨#[45]⟩ : ByteArray)) ++ t380)) else (none)) = some r := H
      have A26 := Aside0.mk A260
      clear A260
      by_cases c27 : (((t378 ++ (⟨#[45]⟩ : ByteArray)) ++ t379) ++ (⟨#[45]⟩ : ByteArray)).size + t380.size ≤ 9223372036854775807
      ·rw [if_pos c27] at H
       have c27b0 := eq_true c27
       have c27b1 : decide ((((t378 ++ (⟨#[45]⟩ : ByteArray)) ++ t379) ++ (⟨#[45]⟩ : ByteArray)).size + t380.size ≤ 9223372036854775807) = true := decide_eq_true c27
       try have c27b2 : (9223372036854775807 < (((t378 ++ (⟨#[45]⟩ : ByteArray)) ++ t379) ++ (⟨#[45]⟩ : ByteArray)).size + t380.size) = False := eq_false (Nat.not_lt.2 c27)
       try (have c27b3 := c27b2; simp only [ByteArray.size_append, bs1_, bs2_] at c27b3)
       obtain rfl := Option.some.inj H
       go_enter Tryz.func8, Tryz.ntmps8
       try go_wp2_with (first | ((with_reducible refine gate_callee (f := 16) rfl ?_); refine gm_ (some 11) Tryz.func16 #[.int .i64 a0, .int .i64 a1] ?_; (with_reducible refine (trystref01_Date.calls k a0 a1 t370 t371 t372 t373 _ A3.out).mono ?_); rintro e w28 ⟨rfl, hb⟩; refine ⟨_, rfl, ?_⟩; have n0_ := Aside0.mk (below_step (by repeat (first | (with_reducible first | exact HB.out | apply below_alloc | apply pw_below_drewN | apply below_drew1) | exact HB.out)) hb); clear HB; have HB := n0_; clear n0_; (try clear hb); (try clear hb2); (try clear hk); (try clear hi)) | ((with_reducible refine gate_dst (N := 5) rfl ?_); refine box_event ?hg (N := 5) ?hd (cs := #[.int .i64 0, .int .i64 0, .int .i64 0]) (t := 41) ?hr ?_; (case hd => rfl); (case hg => rfl); (case hr => first | (go_simp; done) | (go_simp; rfl)); intro gb374 hg w29 hbox hb; have n0_ := Aside0.mk (below_step (by repeat (first | (with_reducible first | exact HB.out | apply below_alloc | apply pw_below_drewN | apply below_drew1) | exact HB.out)) hb); have n1_ := Aside0.mk (hbox); have n2_ := Aside0.mk ((by rw [hg]; exact (below_size (by repeat (first | (with_reducible first | exact HB.out | apply below_alloc | apply pw_below_drewN | apply below_drew1) | exact HB.out))) : w.heap.size ≤ gb374)); have n3_ := Aside0.mk ((by rw [hg]; exact (below_size (by repeat (first | (with_reducible first | exact HB.out | apply below_alloc | apply pw_below_drewN | apply below_drew1) | exact HB.out))) : w.heap.size ≤ gb374)); clear HB; have HB := n0_; have BK374 := n1_; have GW374 := n2_; have GE374 := n3_; clear n0_ n1_ n2_ n3_; clear hb hbox hg; have hcz30_0 : w29.cell? ⟨gb374, 0, none⟩ = some (.int .i64 0) := (blk_cell BK374.out 0).trans rfl; have hcz30_1 : w29.cell? ⟨gb374, 1, none⟩ = some (.int .i64 0) := (blk_cell BK374.out 1).trans rfl; have hcz30_2 : w29.cell? ⟨gb374, 2, none⟩ = some (.int .i64 0) := (blk_cell BK374.out 2).trans rfl; have hfz30_0 := blk_frozen BK374.out 0; have hfz30_1 := blk_frozen BK374.out 1; have hfz30_2 := blk_frozen BK374.out 2))
       have n0_ : Aside0 ((((w29.setCell ⟨gb374, 0, none⟩ (.int .i64 t370)).setCell ⟨gb374, 1, none⟩ (.int .i64 t371)).setCell ⟨gb374, 2, none⟩ (.int .i64 t372)).heap[gb374]? = some (.cells #[.int .i64 t370, .int .i64 t371, .int .i64 t372] 41 (0, 0))) := ⟨by (with_reducible repeat (first | refine blk_drewN ?_ _ | refine blk_drew ?_ | refine blk_alloc ?_ _)); refine blk_put (cs := #[.int .i64 t370, .int .i64 t371, .int .i64 0]) ?_ 2 _ rfl; (with_reducible repeat (first | refine blk_drewN ?_ _ | refine blk_drew ?_ | refine blk_alloc ?_ _)); refine blk_put (cs := #[.int .i64 t370, .int .i64 0, .int .i64 0]) ?_ 1 _ rfl; (with_reducible repeat (first | refine blk_drewN ?_ _ | refine blk_drew ?_ | refine blk_alloc ?_ _)); refine blk_put (cs := #[.int .i64 0, .int .i64 0, .int .i64 0]) ?_ 0 _ rfl; (with_reducible repeat (first | refine blk_drewN ?_ _ | refine blk_drew ?_ | refine blk_alloc ?_ _)); exact BK374.out⟩
       have n1_ : Aside0 (Below w.heap.size w (((w29.setCell ⟨gb374, 0, none⟩ (.int .i64 t370)).setCell ⟨gb374, 1, none⟩ (.int .i64 t371)).setCell ⟨gb374, 2, none⟩ (.int .i64 t372))) := ⟨by repeat (first | (with_reducible first | exact HB.out | apply below_alloc | apply pw_below_drewN | apply below_drew1 | refine below_set ?_ GE374.out) | exact HB.out)⟩
       (try clear BK374)
       (try clear HB)
       generalize (((w29.setCell ⟨gb374, 0, none⟩ (.int .i64 t370)).setCell ⟨gb374, 1, none⟩ (.int .i64 t371)).setCell ⟨gb374, 2, none⟩ (.int .i64 t372)) = w31 at n0_ n1_ ⊢
       have BK374 := n0_
       have HB := n1_
       clear n0_ n1_
       have n0_ := Aside0.mk (blk_drew BK374.out)
       have n1_ := Aside0.mk (below_drew1 HB.out)
       clear BK374
       clear HB
       have BK374 := n0_
       have HB := n1_
       clear n0_ n1_
       refine start_ (n := 15) (S := fun w' => w'.cell? ⟨gb374, 0, none⟩ = some (.int .i64 t370) ∧ w'.cell? ⟨gb374, 1, none⟩ = some (.int .i64 t371) ∧ w'.cell? ⟨gb374, 2, none⟩ = some (.int .i64 t372)) (ds := []) #[false, false, false, false, false, false, false, false, false, false, false, false, false, false, false] (by kernel_rfl) rfl rfl ⟨(blk_cell BK374.out 0).trans rfl, (blk_cell BK374.out 1).trans rfl, (blk_cell BK374.out 2).trans rfl⟩ (fun hHeld => ?_); refine with_tabW trystref01_Text.tab7 trystref01_Text.bits7 (fun HT_ HW_ => ?_)
       generalize w31.drew = w32 at BK374 HB hHeld ⊢
       refine pure_ (i := 0) (N := some 18) (v := ?_) (a' := ?_) #[true, false, false, false, false, false, false, false, false, false, false, false, false, false, false] rfl rfl (any_of HT_.out (by kernel_rfl)) (fun _ _ _ h => h) (Or.inl ⟨by rfl, ?_⟩) ?_ ?_
       rotate_left
       ·intro w'
        go_simp
        with_reducible rfl
       rotate_left
       ·simp only [Act.put, sA, sB, sC, i64_w, i32_w]
        rfl
       refine pure_ (i := 3) (N := some 21) (v := ?_) (a' := ?_) #[true, false, false, true, false, false, false, false, false, false, false, false, false, false, false] rfl rfl (any_of HT_.out (by kernel_rfl)) (fun _ _ _ h => h) (Or.inl ⟨by rfl, ?_⟩) ?_ ?_
       rotate_left
       ·intro w'
        go_simp
        with_reducible rfl
       rotate_left
       ·simp only [Act.put, sA, sB, sC, i64_w, i32_w]
        rfl
       refine pure_ (i := 5) (N := some 23) (v := ?_) (a' := ?_) #[true, false, false, true, false, true, false, false, false, false, false, false, false, false, false] rfl rfl (any_of HT_.out (by kernel_rfl)) (fun _ _ _ h => h) (Or.inl ⟨by rfl, ?_⟩) ?_ ?_
       rotate_left
       ·intro w'
        go_simp
        with_reducible rfl
       rotate_left
       ·simp only [Act.put, sA, sB, sC, i64_w, i32_w]
        rfl
       refine pure_ (i := 10) (N := some 28) (v := ?_) (a' := ?_) #[true, false, false, true, false, true, false, false, false, false, true, false, false, false, false] rfl rfl (any_of HT_.out (by kernel_rfl)) (fun _ _ _ h => h) (Or.inl ⟨by rfl, ?_⟩) ?_ ?_
       rotate_left
       ·intro w'
        go_simp
        with_reducible rfl
       rotate_left
       ·simp only [Act.put, sA, sB, sC, i64_w, i32_w]
        rfl
       refine take_ (i := 1) (N := some 19) (v := ?_) (a' := ?_) #[true, true, false, true, false, true, false, false, false, false, true, false, false, false, false] rfl rfl (take_ofW HT_.out HW_.out (by kernel_rfl)) (fun _ _ _ h => h) (Or.inl ⟨by rfl, ?_⟩) hHeld ?_ ?_
       rotate_left
       ·rintro w' ⟨s0, s1, s2⟩
        go_simp
        with_reducible rfl
       rotate_left
       ·simp only [Act.put, sA, sB, sC, i64_w, i32_w]
        rfl
       refine take_ (i := 6) (N := some 24) (v := ?_) (a' := ?_) #[true, true, false, true, false, true, true, false, false, false, true, false, false, false, false] rfl rfl (take_ofW HT_.out HW_.out (by kernel_rfl)) (fun _ _ _ h => h) (Or.inl ⟨by rfl, ?_⟩) hHeld ?_ ?_
       rotate_left
       ·rintro w' ⟨s0, s1, s2⟩
        go_simp
        with_reducible rfl
       rotate_left
       ·simp only [Act.put, sA, sB, sC, i64_w, i32_w]
        rfl
       refine take_ (i := 11) (N := some 29) (v := ?_) (a' := ?_) #[true, true, false, true, false, true, true, false, false, false, true, true, false, false, false] rfl rfl (take_ofW HT_.out HW_.out (by kernel_rfl)) (fun _ _ _ h => h) (Or.inl ⟨by rfl, ?_⟩) hHeld ?_ ?_
       rotate_left
       ·rintro w' ⟨s0, s1, s2⟩
        go_simp
        with_reducible rfl
       rotate_left
       ·simp only [Act.put, sA, sB, sC, i64_w, i32_w]
        rfl
       refine one_ (i := 2) (N := some 20) #[true, true, true, true, false, true, true, false, false, false, true, true, false, false, false] rfl rfl (one_of HT_.out (by kernel_rfl)) (by decide) (fun K hK => ?_)
       refine goes_ Tryz.func17 (by kernel_rfl) rfl #[.int .i64 t370, .int .i64 0] (by rfl) rfl rfl (by (try simp only [mA, mB, mC]); first | done | rfl) ?_
       with_reducible refine (trystref01_number.calls k t370 0 t378 _ A21.out).mono ?_
       rintro e w33 ⟨rfl, hb⟩
       refine ⟨_, rfl, ?_⟩
       have n0_ := Aside0.mk (blk_below (g := gb374) (o := .cells #[.int .i64 t370, .int .i64 t371, .int .i64 t372] 41 (0, 0)) (by (with_reducible repeat (first | refine blk_drewN ?_ _ | refine blk_drew ?_ | refine blk_alloc ?_ _)); exact BK374.out) hb)
       have n1_ := Aside0.mk (below_step (by repeat (first | (with_reducible first | exact HB.out | apply below_alloc | apply pw_below_drewN | apply below_drew1 | refine below_set ?_ GE374.out) | exact HB.out)) hb)
       clear BK374
       clear HB
       have BK374 := n0_
       have HB := n1_
       clear n0_ n1_
       (try clear hb)
       (try clear hb2)
       (try clear hk)
       (try clear hi)
       refine hK.out _ _ ⟨(blk_cell BK374.out 0).trans rfl, (blk_cell BK374.out 1).trans rfl, (blk_cell BK374.out 2).trans rfl⟩ (fun hHeld => ?_)
       clear hK K
       refine norm_ (a' := ?_) ?_ ?_
       rotate_left
       ·show Act.put _ (some 20) _ = _
        simp only [Act.put, sA, sB, sC, i64_w, i32_w]
        rfl
       refine pure_ (i := 4) (N := some 22) (v := ?_) (a' := ?_) #[true, true, true, true, true, true, true, false, false, false, true, true, false, false, false] rfl rfl (any_of HT_.out (by kernel_rfl)) (fun _ _ _ h => h) (Or.inl ⟨by rfl, ?_⟩) ?_ ?_
       rotate_left
       ·intro w'
        go_simp
        with_reducible rfl
       rotate_left
       ·simp only [Act.put, sA, sB, sC, i64_w, i32_w]
        rfl
       refine one_ (i := 7) (N := some 25) #[true, true, true, true, true, true, true, true, false, false, true, true, false, false, false] rfl rfl (one_of HT_.out (by kernel_rfl)) (by decide) (fun K hK => ?_)
       refine goes_ Tryz.func17 (by kernel_rfl) rfl #[.int .i64 t371, .int .i64 0] (by rfl) rfl rfl (by (try simp only [mA, mB, mC]); first | done | rfl) ?_
       with_reducible refine (trystref01_number.calls k t371 0 t379 _ A23.out).mono ?_
       rintro e w34 ⟨rfl, hb⟩
       refine ⟨_, rfl, ?_⟩
       have n0_ := Aside0.mk (blk_below (g := gb374) (o := .cells #[.int .i64 t370, .int .i64 t371, .int .i64 t372] 41 (0, 0)) (by (with_reducible repeat (first | refine blk_drewN ?_ _ | refine blk_drew ?_ | refine blk_alloc ?_ _)); exact BK374.out) hb)
       have n1_ := Aside0.mk (below_step (by repeat (first | (with_reducible first | exact HB.out | apply below_alloc | apply pw_below_drewN | apply below_drew1 | refine below_set ?_ GE374.out) | exact HB.out)) hb)
       clear BK374
       clear HB
       have BK374 := n0_
       have HB := n1_
       clear n0_ n1_
       (try clear hb)
       (try clear hb2)
       (try clear hk)
       (try clear hi)
       refine hK.out _ _ ⟨(blk_cell BK374.out 0).trans rfl, (blk_cell BK374.out 1).trans rfl, (blk_cell BK374.out 2).trans rfl⟩ (fun hHeld => ?_)
       clear hK K
       refine norm_ (a' := ?_) ?_ ?_
       rotate_left
       ·show Act.put _ (some 25) _ = _
        simp only [Act.put, sA, sB, sC, i64_w, i32_w]
        rfl
       refine pure_ (i := 8) (N := some 26) (v := ?_) (a' := ?_) #[true, true, true, true, true, true, true, true, true, false, true, true, false, false, false] rfl rfl (any_of HT_.out (by kernel_rfl)) (fun _ _ _ h => h) (Or.inl ⟨by rfl, ?_⟩) ?_ ?_
       rotate_left
       ·intro w'
        go_simp
        with_reducible rfl
       rotate_left
       ·simp only [Act.put, sA, sB, sC, i64_w, i32_w]
        rfl
       refine pure_ (i := 9) (N := some 27) (v := ?_) (a' := ?_) #[true, true, true, true, true, true, true, true, true, true, true, true, false, false, false] rfl rfl (any_of HT_.out (by kernel_rfl)) (fun _ _ _ h => h) (Or.inl ⟨by rfl, ?_⟩) ?_ ?_
       rotate_left
       ·intro w'
        go_simp
        with_reducible rfl
       rotate_left
       ·simp only [Act.put, sA, sB, sC, i64_w, i32_w]
        rfl
       refine one_ (i := 12) (N := some 30) #[true, true, true, true, true, true, true, true, true, true, true, true, true, false, false] rfl rfl (one_of HT_.out (by kernel_rfl)) (by decide) (fun K hK => ?_)
       refine goes_ Tryz.func17 (by kernel_rfl) rfl #[.int .i64 t372, .int .i64 0] (by rfl) rfl rfl (by (try simp only [mA, mB, mC]); first | done | rfl) ?_
       with_reducible refine (trystref01_number.calls k t372 0 t380 _ A26.out).mono ?_
       rintro e w35 ⟨rfl, hb⟩
       refine ⟨_, rfl, ?_⟩
       have n0_ := Aside0.mk (blk_below (g := gb374) (o := .cells #[.int .i64 t370, .int .i64 t371, .int .i64 t372] 41 (0, 0)) (by (with_reducible repeat (first | refine blk_drewN ?_ _ | refine blk_drew ?_ | refine blk_alloc ?_ _)); exact BK374.out) hb)
       have n1_ := Aside0.mk (below_step (by repeat (first | (with_reducible first | exact HB.out | apply below_alloc | apply pw_below_drewN | apply below_drew1 | refine below_set ?_ GE374.out) | exact HB.out)) hb)
       clear BK374
       clear HB
       have BK374 := n0_
       have HB := n1_
       clear n0_ n1_
       (try clear hb)
       (try clear hb2)
       (try clear hk)
       (try clear hi)
       refine hK.out _ _ ⟨(blk_cell BK374.out 0).trans rfl, (blk_cell BK374.out 1).trans rfl, (blk_cell BK374.out 2).trans rfl⟩ (fun hHeld => ?_)
       clear hK K
       refine norm_ (a' := ?_) ?_ ?_
       rotate_left
       ·show Act.put _ (some 30) _ = _
        simp only [Act.put, sA, sB, sC, i64_w, i32_w]
        rfl
       refine pure_ (i := 13) (N := some 31) (v := ?_) (a' := ?_) #[true, true, true, true, true, true, true, true, true, true, true, true, true, true, false] rfl rfl (any_of HT_.out (by kernel_rfl)) (fun _ _ _ h => h) (Or.inl ⟨by rfl, ?_⟩) ?_ ?_
       rotate_left
       ·intro w'
        go_simp
        with_reducible rfl
       rotate_left
       ·simp only [Act.put, sA, sB, sC, i64_w, i32_w]
        rfl
       refine pure_ (i := 14) (N := some 4) (v := ?_) (a' := ?_) #[true, true, true, true, true, true, true, true, true, true, true, true, true, true, true] rfl rfl (any_of HT_.out (by kernel_rfl)) (fun _ _ _ h => h) (Or.inl ⟨by rfl, ?_⟩) ?_ ?_
       rotate_left
       ·intro w'
        go_simp
        with_reducible rfl
       rotate_left
       ·simp only [Act.put, sA, sB, sC, i64_w, i32_w]
        rfl
       refine done_ (done_of HT_.out (by kernel_rfl)) ?_
       try go_wp2
       go_ret
       exact ⟨by first | rfl | (simp [*, errW_none, errW_some] <;> rfl), by repeat (first | (with_reducible first | exact HB.out | apply below_alloc | apply pw_below_drewN | apply below_drew1 | refine below_set ?_ GE374.out) | exact HB.out)⟩
      ·rw [if_neg c27] at H
       exact absurd H (by simp)
     ·rw [if_neg c25] at H
      exact absurd H (by simp)
    ·rw [if_neg c24] at H
     exact absurd H (by simp)
   ·rw [if_neg c22] at H
    exact absurd H (by simp)
 ·rw [if_neg c4] at H
  have c4b0 : (t373 == 0) = false := beq_eq_false_iff_ne.mpr c4
  have c4b1 : (t373 != 0) = true := bne_iff_ne.mpr c4
  obtain rfl := Option.some.inj H
  go_enter Tryz.func8, Tryz.ntmps8
  go_wp2_with (first | ((with_reducible refine gate_callee (f := 16) rfl ?_); refine gm_ (some 11) Tryz.func16 #[.int .i64 a0, .int .i64 a1] ?_; (with_reducible refine (trystref01_Date.calls k a0 a1 t370 t371 t372 t373 _ A3.out).mono ?_); rintro e w36 ⟨rfl, hb⟩; refine ⟨_, rfl, ?_⟩; have n0_ := Aside0.mk (below_step (by repeat (first | (with_reducible first | exact HB.out | apply below_alloc | apply pw_below_drewN | apply below_drew1) | exact HB.out)) hb); clear HB; have HB := n0_; clear n0_; (try clear hb); (try clear hb2); (try clear hk); (try clear hi)) | ((with_reducible refine gate_dst (N := 5) rfl ?_); refine box_event ?hg (N := 5) ?hd (cs := #[.int .i64 0, .int .i64 0, .int .i64 0]) (t := 41) ?hr ?_; (case hd => rfl); (case hg => rfl); (case hr => first | (go_simp; done) | (go_simp; rfl)); intro gb374 hg w37 hbox hb; have n0_ := Aside0.mk (below_step (by repeat (first | (with_reducible first | exact HB.out | apply below_alloc | apply pw_below_drewN | apply below_drew1) | exact HB.out)) hb); have n1_ := Aside0.mk (hbox); have n2_ := Aside0.mk ((by rw [hg]; exact (below_size (by repeat (first | (with_reducible first | exact HB.out | apply below_alloc | apply pw_below_drewN | apply below_drew1) | exact HB.out))) : w.heap.size ≤ gb374)); have n3_ := Aside0.mk ((by rw [hg]; exact (below_size (by repeat (first | (with_reducible first | exact HB.out | apply below_alloc | apply pw_below_drewN | apply below_drew1) | exact HB.out))) : w.heap.size ≤ gb374)); clear HB; have HB := n0_; have BK374 := n1_; have GW374 := n2_; have GE374 := n3_; clear n0_ n1_ n2_ n3_; clear hb hbox hg; have hcz38_0 : w37.cell? ⟨gb374, 0, none⟩ = some (.int .i64 0) := (blk_cell BK374.out 0).trans rfl; have hcz38_1 : w37.cell? ⟨gb374, 1, none⟩ = some (.int .i64 0) := (blk_cell BK374.out 1).trans rfl; have hcz38_2 : w37.cell? ⟨gb374, 2, none⟩ = some (.int .i64 0) := (blk_cell BK374.out 2).trans rfl; have hfz38_0 := blk_frozen BK374.out 0; have hfz38_1 := blk_frozen BK374.out 1; have hfz38_2 := blk_frozen BK374.out 2))
  go_ret
  exact ⟨by first | rfl | (simp [*, errW_none, errW_some] <;> rfl), by repeat (first | (with_reducible first | exact HB.out | apply below_alloc | apply pw_below_drewN | apply below_drew1 | refine below_set ?_ GE374.out) | exact HB.out)⟩

end Go.Proofs.YtgbbgcepcnklkaaGreatDoor.Q
/- show.Text and the reference's Text: one text. -/
namespace Go.Proofs.YtgbbgcepcnklkaaGreatDoor.ShowTx
open Go.RowKit Go.Proofs.YtgbbgcepcnklkaaGreatDoorW.PrintWords Go.Proofs.YtgbbgcepcnklkaaGreatDoorW.PrintLast Go.Proofs.YtgbbgcepcnklkaaGreatDoor.Q Go.Proofs.YtgbbgcepcnklkaaGreatDoor.ShowAw
set_option linter.unusedVariables false
set_option linter.unusedSimpArgs false
def it (n : Int) : ByteArray := ⟨(Lib.itoa n).toArray⟩
/-- The text of a date. -/
def tx (c y m d : Int) : ByteArray := if c = 2 then it y ++ ⟨#[45, 87]⟩ ++ it m ++ ⟨#[45]⟩ ++ it d else it y ++ ⟨#[45]⟩ ++ it m ++ ⟨#[45]⟩ ++ it d
theorem dlen : ∀ (j u : Nat), u < 10 ^ (j + 1) → (Lib.decDigits u).length ≤ j + 1 := by
 intro j
 induction j with
 | zero => intro u hu; rw [Lib.decDigits_one (by simpa using hu)]; simp
 | succ j ih =>
  intro u hu
  rw [Lib.decDigits.eq_1]
  split
  ·simp
  ·have hp : (10 : Nat) ^ (j + 1 + 1) = 10 ^ (j + 1) * 10 := rfl
   have := ih (u / 10) (by rw [hp] at hu; omega)
   simp; omega
theorem it_size (n : Int) (h : -20000 ≤ n) (h' : n ≤ 20000) : (it n).size ≤ 100 := by
 have p : (10 : Nat) ^ (6 + 1) = 10000000 := rfl
 unfold it
 rw [FunT.size_of]
 unfold Lib.itoa
 split
 ·have := dlen 6 n.natAbs (by omega); simp; omega
 ·have := dlen 6 n.toNat (by omega); omega
theorem s1_ (a : UInt8) : ByteArray.size ⟨#[a]⟩ = 1 := rfl
theorem s2_ (a b : UInt8) : ByteArray.size ⟨#[a, b]⟩ = 2 := rfl
theorem refYes (c a y m d : Int) (h : trystref01_Date.f FunZ.K c a = some (y, m, d, 0)) (y1 : -20000 ≤ y) (y2 : y ≤ 20000) (hm : 1 ≤ m ∧ m ≤ 60 ∧ 1 ≤ d ∧ d ≤ 60) : trystref01_Text.f FunZ.K c a = some (tx c y m d) := by
 have zy := it_size y y1 y2
 have zm := it_size m (by omega) (by omega)
 have zd := it_size d (by omega) (by omega)
 have ny : trystref01_number.f FunZ.K y 0 = some (it y) := FunT.number FunZ.K (by decide) y (by omega) (by omega)
 have nm : trystref01_number.f FunZ.K m 0 = some (it m) := FunT.number FunZ.K (by decide) m (by omega) (by omega)
 have nd : trystref01_number.f FunZ.K d 0 = some (it d) := FunT.number FunZ.K (by decide) d (by omega) (by omega)
 unfold trystref01_Text.f tx
 rw [h, Option.bind_some]
 dsimp only
 rw [if_pos rfl, ny, nm, nd]
 simp only [Option.bind_some]
 by_cases q : c = 2
 ·rw [if_pos q, if_pos q, if_pos (by omega), if_pos (by simp only [ByteArray.size_append, s2_]; omega), if_pos (by simp only [ByteArray.size_append, s2_]; omega), if_pos (by simp only [ByteArray.size_append, s2_, s1_]; omega)]
 ·rw [if_neg q, if_neg q, if_pos (by omega), if_pos (by simp only [ByteArray.size_append, s1_]; omega), if_pos (by simp only [ByteArray.size_append, s1_]; omega), if_pos (by simp only [ByteArray.size_append, s1_]; omega)]
theorem refNo (c a y m d : Int) (h : trystref01_Date.f FunZ.K c a = some (y, m, d, 2)) : trystref01_Text.f FunZ.K c a = some ⟨#[]⟩ := by
 unfold trystref01_Text.f
 rw [h, Option.bind_some]
 dsimp only
 rw [if_neg (by omega)]
theorem written (c y m d : Int) (w : World) (ht : Tab w) (y1 : -20000 ≤ y) (y2 : y ≤ 20000) (hm : 1 ≤ m ∧ m ≤ 60 ∧ 1 ≤ d ∧ d ≤ 60) :
  Calls Tryz.prog 19 #[.int .i64 c, .agg #[.int .i64 y, .int .i64 m, .int .i64 d]] w fun e w' => e = .returned (.string (tx c y m d)) ∧ Below w.heap.size w w' := by
 unfold tx
 by_cases q : c = 2
 ·rw [if_pos q]
  exact ShowDt.written2 c y m d w ht q y1 y2 hm.1 hm.2.1 hm.2.2.1 hm.2.2.2 it_size
 ·rw [if_neg q]
  exact ShowDt.written0 c y m d w ht q y1 y2 hm.1 hm.2.1 hm.2.2.1 hm.2.2.2 it_size
set_option maxHeartbeats 4000000 in
set_option maxRecDepth 100000 in
theorem textYes (c a y m d : Int) (s : ByteArray) (w : World) (ht : Tab w) (hD : ∀ w : World, Calls Tryz.prog 18 #[.int .i64 c, .int .i64 a] w fun e w' => e = .returned (.tuple #[.agg #[.int .i64 y, .int .i64 m, .int .i64 d], .int .i64 0]) ∧ Below w.heap.size w w')
  (hW : ∀ w : World, Tab w → Calls Tryz.prog 19 #[.int .i64 c, .agg #[.int .i64 y, .int .i64 m, .int .i64 d]] w fun e w' => e = .returned (.string s) ∧ Below w.heap.size w w') :
  Calls Tryz.prog 10 #[.int .i64 c, .int .i64 a] w fun e w' => e = .returned (.tuple #[.string s, .int .i64 0]) ∧ Below w.heap.size w w' := by
 have T := Lib.hid ht
 have HD := Lib.hid hD
 have HW := Lib.hid hW
 clear ht hD hW
 go_enter Tryz.func10, Tryz.ntmps10
 go_wp2_with fail
 refine (HD.out _).mono ?_
 rintro e w1 ⟨rfl, hB⟩
 have B := Lib.hid hB
 clear hB
 go_wp2_with fail
 refine (HW.out _ (tab_below T.out (by repeat (with_reducible first | exact B.out | apply pw_below_drewN | apply below_drew | apply below_alloc | refine below_set ?_ (by have := B.out.size; simp; omega))))).mono ?_
 rintro e w2 ⟨rfl, hB⟩
 have B2 : Below w.heap.size w w2 := below_then (by repeat (with_reducible first | exact B.out | apply pw_below_drewN | apply below_drew | apply below_alloc | refine below_set ?_ (by have := B.out.size; simp; omega))) (by have := B.out.size; simp; omega) hB
 clear hB
 go_wp2_with fail
 go_ret2
 exact ⟨rfl, B2⟩
set_option maxHeartbeats 4000000 in
set_option maxRecDepth 100000 in
theorem textNo (c a y m d e0 : Int) (w : World) (h0 : e0 ≠ 0) (hD : ∀ w : World, Calls Tryz.prog 18 #[.int .i64 c, .int .i64 a] w fun e w' => e = .returned (.tuple #[.agg #[.int .i64 y, .int .i64 m, .int .i64 d], .int .i64 e0]) ∧ Below w.heap.size w w') :
  Calls Tryz.prog 10 #[.int .i64 c, .int .i64 a] w fun e w' => e = .returned (.tuple #[.string ⟨#[]⟩, .int .i64 e0]) ∧ Below w.heap.size w w' := by
 have HD := Lib.hid hD
 have z : (e0 == 0) = false := beq_eq_false_iff_ne.2 h0
 clear hD h0
 go_enter Tryz.func10, Tryz.ntmps10
 go_wp2_with fail
 refine (HD.out _).mono ?_
 rintro e w1 ⟨rfl, hB⟩
 have B := Lib.hid hB
 clear hB
 go_wp2_with fail
 go_ret2
 exact ⟨rfl, by repeat (with_reducible first | exact B.out | apply pw_below_drewN | apply below_drew | apply below_alloc | refine below_set ?_ (by have := B.out.size; simp; omega))⟩
set_option maxHeartbeats 4000000 in
set_option maxRecDepth 100000 in
/-- No calendar, no date. -/
theorem dateOut (c a : Int) (w : World) (hc : ¬ (0 ≤ c ∧ c ≤ 6)) :
  Calls Tryz.prog 18 #[.int .i64 c, .int .i64 a] w fun e w' => e = .returned (.tuple #[.agg #[.int .i64 0, .int .i64 0, .int .i64 0], .int .i64 1]) ∧ Below w.heap.size w w' := by
 have hf : show_is.f c = some false := by
  unfold show_is.f
  by_cases a : c ≥ 0
  ·rw [if_pos a]; simp; omega
  ·rw [if_neg a]
 clear hc
 go_enter Tryz.func18, Tryz.ntmps18
 go_wp2_with fail
 refine (show_is.calls c false _ hf).mono ?_
 rintro e w1 ⟨rfl, ⟨nd, rfl⟩⟩
 have hk : ((w.alloc (.cells #[.int .i64 0, .int .i64 0, .int .i64 0] 41 (0, 0))).drewN nd).heap[w.heap.size]? = some (.cells #[.int .i64 0, .int .i64 0, .int .i64 0] 41 (0, 0)) := blk_drewN (blk_new w _) nd
 have c0 := (blk_cell hk 0).trans rfl
 have c1 := (blk_cell hk 1).trans rfl
 have c2 := (blk_cell hk 2).trans rfl
 have f0 := blk_frozen hk 0; have f1 := blk_frozen hk 1; have f2 := blk_frozen hk 2
 go_wp2_with fail
 refine bodyPost_ret (v := .tuple #[.agg #[.int .i64 0, .int .i64 0, .int .i64 0], .int .i64 1]) (by simp [results, Tryz.results18, go_sem, c0, c1, c2, f0, f1, f2]) rfl ⟨rfl, ?_⟩
 repeat (with_reducible first | exact Below.refl _ _ | apply pw_below_drewN | apply below_drew | apply below_alloc | refine below_set ?_ (by simp; done))
end Go.Proofs.YtgbbgcepcnklkaaGreatDoor.ShowTx
