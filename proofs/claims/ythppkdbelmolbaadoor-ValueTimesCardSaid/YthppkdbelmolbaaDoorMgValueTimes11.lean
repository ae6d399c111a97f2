/- Texts of this claim, merged: QrefL, QrefDay, QrefN. -/
import Derived.Test.YthppkdbelmolbaaDoorMgValueTimes1
import Derived.Test.YthppkdbelmolbaaDoorMgValueTimes10
import Derived.BigQuiet
import Derived.Deep.QuietTactic
import Derived.Lib.Hide
-- written by a program of this session (wip/own_print.sh)
namespace Go.Proofs.YthppkdbelmolbaaDoor.Q
theorem kept_YthppkdbelmolbaaDoorQrefL : True := trivial
open Go.RowKit Go.Proofs.YthppkdbelmolbaaDoorW.PrintWords Go.Proofs.YthppkdbelmolbaaDoorW.PrintLast Go.Proofs.YthppkdbelmolbaaDoorW.PrintMore
attribute [local go_sem] max2_int min2_int max_two min_two max_three min_three max_four min_four   -- for this text's walks alone
set_option linter.unusedVariables false
set_option linter.unusedSimpArgs false
/-! ### trystref01_years: function 73 -/
/-! ### trystref01_Length: function 74 -/
end Go.Proofs.YthppkdbelmolbaaDoor.Q
/- The reference's Day, walked: it tells a date's day, or an error, as trystref01_Day.f reckons it. -/
namespace Go.Proofs.YthppkdbelmolbaaDoor.Q
theorem kept_YthppkdbelmolbaaDoorQrefDay : True := trivial
open Go.RowKit Go.Proofs.YthppkdbelmolbaaDoorW.PrintWords Go.Proofs.YthppkdbelmolbaaDoorW.PrintLast
set_option linter.unusedVariables false
set_option linter.unusedSimpArgs false
end Go.Proofs.YthppkdbelmolbaaDoor.Q
-- written by a program of this session (wip/own_print.sh)
namespace Go.Proofs.YthppkdbelmolbaaDoor.Q
open Go.RowKit Go.Proofs.YthppkdbelmolbaaDoorW.PrintWords Go.Proofs.YthppkdbelmolbaaDoorW.PrintLast Go.Proofs.YthppkdbelmolbaaDoorW.PrintMore
attribute [local go_sem] max2_int min2_int max_two min_two max_three min_three max_four min_four   -- for this text's walks alone
set_option linter.unusedVariables false
set_option linter.unusedSimpArgs false
/-! ### trystref01_number: function 51 -/
mutual
def trystref01_number.l0 : Nat → Int → Int → ByteArray → Option (ByteArray)
 | 0, _, _, _ => none
 | k + 1, x0, x1, x5 => if x0 > 0 then ((some (([(wrap64 (48 + (Int.tmod x0 10))) % 256] : List Int) : List Int)).bind fun y143 => (if (strOfNums y143).size + x5.size ≤ 9223372036854775807 then (trystref01_number.l0 k (wrap64 (Int.tdiv x0 10)) (wrap64 (x1 - 1)) ((strOfNums y143) ++ x5)) else (none))) else (if x1 > 0 then ((some (([(wrap64 (48 + (Int.tmod x0 10))) % 256] : List Int) : List Int)).bind fun y146 => (if (strOfNums y146).size + x5.size ≤ 9223372036854775807 then (trystref01_number.l0 k (wrap64 (Int.tdiv x0 10)) (wrap64 (x1 - 1)) ((strOfNums y146) ++ x5)) else (none))) else (if x5.toList = ([] : List UInt8) then ((some (([(wrap64 (48 + (Int.tmod x0 10))) % 256] : List Int) : List Int)).bind fun y149 => (if (strOfNums y149).size + x5.size ≤ 9223372036854775807 then (trystref01_number.l0 k (wrap64 (Int.tdiv x0 10)) (wrap64 (x1 - 1)) ((strOfNums y149) ++ x5)) else (none))) else (some x5)))
def trystref01_number.f : Nat → Int → Int → Option (ByteArray)
 | 0, _, _ => none
 | k + 1, a0, a1 => if a0 < 0 then ((trystref01_number.f k (wrap64 (-a0)) a1).bind fun t142 => (if 1 + t142.size ≤ 9223372036854775807 then (some ((⟨#[45]⟩ : ByteArray) ++ t142)) else (none))) else (trystref01_number.l0 k a0 a1 (⟨#[]⟩ : ByteArray))
end
set_option maxHeartbeats 8000000 in
set_option maxRecDepth 100000 in
theorem trystref01_number.calls (k : Nat) : ∀ (a0 : Int) (a1 : Int) (r : ByteArray) (w : World) (h : trystref01_number.f k a0 a1 = some r),
  Calls Tryd.prog 51 #[.int .i64 a0, .int .i64 a1] w fun e w' => e = .returned (.string r) ∧ Below w.heap.size w w' := by
 induction k using Nat.strongRecOn with
 | _ k ih =>
 intro a0 a1 r w h
 cases k with
 | zero => exact absurd h (by simp [trystref01_number.f])
 | succ k =>
 simp only [trystref01_number.f] at h
 have HB := Aside0.mk (Below.refl w.heap.size w)
 have H : (if a0 < 0 then ((trystref01_number.f k (wrap64 (-a0)) a1).bind fun t142 => (if 1 + t142.size ≤ 9223372036854775807 then (some ((⟨#[45]⟩ : ByteArray) ++ t142)) else (none))) else (trystref01_number.l0 k a0 a1 (⟨#[]⟩ : ByteArray))) = some r := h
 clear h
 by_cases c3 : a0 < 0
 ·rw [if_pos c3] at H
  have c3b0 : decide (a0 < 0) = true := decide_eq_true c3
  clear c3
  replace H := Option.bind_eq_some_iff.mp H
  obtain ⟨t142, A40, H⟩ := H
  replace H : (if 1 + t142.size ≤ 9223372036854775807 then (some ((⟨#[45]⟩ : ByteArray) ++ t142)) else (none)) = some r := H
  have A4 := Aside0.mk A40
  clear A40
  by_cases c5 : 1 + t142.size ≤ 9223372036854775807
  ·rw [if_pos c5] at H
   have c5b0 := eq_true c5
   have c5b1 : decide (1 + t142.size ≤ 9223372036854775807) = true := decide_eq_true c5
   try have c5b2 : (9223372036854775807 < 1 + t142.size) = False := eq_false (Nat.not_lt.2 c5)
   try (have c5b3 := c5b2; simp only [ByteArray.size_append, bs1_] at c5b3)
   obtain rfl := Option.some.inj H
   go_enter Tryd.func51, Tryd.ntmps51
   go_wp2_with (first | ((with_reducible refine gate_callee (f := 51) rfl ?_); refine goesL_ (some 11) rfl rfl Tryd.func51 (by kernel_rfl) rfl #[.int .i64 (wrap64 (-a0)), .int .i64 a1] rfl (by (try simp only [List.map_toArray, List.map_cons, List.map_nil]); first | done | rfl | (simp only [List.length_drop, List.length_take]; rfl)) ?_; (with_reducible refine (ih k (by omega) (wrap64 (-a0)) a1 t142 _ A4.out).mono ?_); rintro e w6 ⟨rfl, hb⟩; refine ⟨_, rfl, ?_⟩; have n0_ := Aside0.mk (below_step (by repeat (first | (with_reducible first | exact HB.out | apply below_alloc | apply pw_below_drewN | apply below_drew1) | exact HB.out)) hb); clear HB; have HB := n0_; clear n0_; (try clear hb); (try clear hb2); (try clear hk); (try clear hi)))
   go_ret
   exact ⟨by first | rfl | (simp [errW_none, errW_some] <;> rfl) | (simp [*, errW_none, errW_some] <;> rfl), by repeat (first | (with_reducible first | exact HB.out | apply below_alloc | apply pw_below_drewN | apply below_drew1) | exact HB.out)⟩
  ·rw [if_neg c5] at H
   exact absurd H (by simp)
 ·rw [if_neg c3] at H
  have c3b0 : decide (a0 < 0) = false := decide_eq_false c3
  clear c3
  have H' := Aside0.mk H
  clear H
  go_enter Tryd.func51, Tryd.ntmps51
  go_wp2
  go_loopg [0, 1, 5] k (fun kq v0 v1 v5 w' => ∃ (x0_1 : Int) (x1_1 : Int) (x5_1 : ByteArray), v0 = .int .i64 x0_1 ∧ v1 = .int .i64 x1_1 ∧ v5 = .string x5_1 ∧ Aside0 (trystref01_number.l0 kq x0_1 x1_1 x5_1 = some r) ∧ Aside0 (kq ≤ k) ∧ Aside0 (Below w.heap.size w w'))
  case atStart => exact ⟨(a0), (a1), ((⟨#[]⟩ : ByteArray)), (by first | rfl | (simp; done) | (simp [*]; done)), (by first | rfl | (simp; done) | (simp [*]; done)), (by first | rfl | (simp; done) | (simp [*]; done)), H', ⟨Nat.le_refl _⟩, ⟨by repeat (first | (with_reducible first | exact HB.out | apply below_alloc | apply pw_below_drewN | apply below_drew1) | exact HB.out)⟩⟩
  case round =>
   clear H'
   try clear p2
   try clear c3
   try clear c3b0
   try clear c5
   try clear c5b0
   try clear c5b1
   try clear c5b2
   try clear p6
   obtain ⟨x0_1, x1_1, x5_1, rfl, rfl, rfl, HA, HK1, HB⟩ := hrel
   cases gk with
   | zero => exact absurd HA.out (by simp [trystref01_number.l0])
   | succ k1 =>
    have H := HA.out
    clear HA
    simp only [trystref01_number.l0] at H
    by_cases c7 : x0_1 > 0
    ·rw [if_pos c7] at H
     have c7b0 : decide (0 < x0_1) = true := decide_eq_true c7
     clear c7
     obtain ⟨y143, hy143⟩ : ∃ y_ : List Int, y_ = (([(wrap64 (48 + (Int.tmod x0_1 10))) % 256] : List Int)) := ⟨_, rfl⟩
     replace H : (if (strOfNums y143).size + x5_1.size ≤ 9223372036854775807 then (trystref01_number.l0 k1 (wrap64 (Int.tdiv x0_1 10)) (wrap64 (x1_1 - 1)) ((strOfNums y143) ++ x5_1)) else (none)) = some r := by first | (rw [hy143]; with_reducible exact H) | (have H2_ := (Option.bind_some _ _).symm.trans H; rw [hy143]; with_reducible exact H2_) | (have H2_ := (Option.bind_some _ _).symm.trans H; with_reducible exact H2_) | with_reducible exact H | (rw [hy143]; exact H) | exact H
     have Ny143 := Aside0.mk hy143
     clear hy143
     by_cases c8 : (strOfNums y143).size + x5_1.size ≤ 9223372036854775807
     ·rw [if_pos c8] at H
      have c8b0 := eq_true c8
      have c8b1 : decide ((strOfNums y143).size + x5_1.size ≤ 9223372036854775807) = true := decide_eq_true c8
      try have c8b2 : (9223372036854775807 < (strOfNums y143).size + x5_1.size) = False := eq_false (Nat.not_lt.2 c8)
      try (have c8b3 := c8b2; simp only [ByteArray.size_append, bs1_] at c8b3)
      have H' := Aside0.mk H
      clear H
      go_wp2_with (first | ((with_reducible refine gate_dst (N := 27) rfl ?_); refine Kd.R_lit (Kd.int .u8) _ 5 ?hg (N := 27) ?hd (xs := ([(wrap64 (48 + (Int.tmod x0_1 10))) % 256] : List Int)) (inner := [.int .u8 ((wrap64 (48 + (Int.tmod x0_1 10))) % 256)]) (ok := fun _ => True) (okp := fun _ => True) ?hr ?hp (fun _ hk => hk) trivial (Below.refl _ _) (Nat.le_refl _) (by simp) ?_; (case hd => rfl); (case hg => rfl); (case hr => first | (go_simp; done) | (go_simp; rfl)); (case hp => exact (Reps.one (show Kd.M (Kd.int .u8) _ _ _ ((wrap64 (48 + (Int.tmod x0_1 10))) % 256) [.int .u8 ((wrap64 (48 + (Int.tmod x0_1 10))) % 256)] from rfl) (Reps.none _ _))); intro v144 w9 ho10 hb hg_ hnew_; clear hg_ hnew_; (first | rw [← Ny143.out] at ho10 | (simp only [Int.reduceToNat] at ho10; rw [← Ny143.out] at ho10)); have n0_ := Aside0.mk (Kd.R_lower ho10 (below_size (by repeat (first | (with_reducible first | exact HB.out | apply below_alloc | apply pw_below_drewN | apply below_drew1) | exact HB.out)))); have n1_ := Aside0.mk (below_step (by repeat (first | (with_reducible first | exact HB.out | apply below_alloc | apply pw_below_drewN | apply below_drew1) | exact HB.out)) hb); clear HB; have HO145 := n0_; have HB := n1_; clear n0_ n1_; clear hb ho10; have hcv11 := own_string (P := Tryd.prog) Tryd.underlying62 Tryd.underlying5 Tryd.underlying9 (Kd.own_of_R HO145.out)))
      go_roundg k1
      case measure => have := HK1.out; omega
      case rel => exact ⟨(wrap64 (Int.tdiv x0_1 10)), (wrap64 (x1_1 - 1)), ((strOfNums y143) ++ x5_1), (by first | rfl | (simp; done) | (simp [*]; done)), (by first | rfl | (simp; done) | (simp [*]; done)), (by first | rfl | (simp; done) | (simp [*]; done)), H', ⟨by have := HK1.out; omega⟩, ⟨by repeat (first | (with_reducible first | exact HB.out | apply below_alloc | apply pw_below_drewN | apply below_drew1) | exact HB.out)⟩⟩
     ·rw [if_neg c8] at H
      exact absurd H (by simp)
    ·rw [if_neg c7] at H
     have c7b0 : decide (0 < x0_1) = false := decide_eq_false c7
     clear c7
     by_cases c12 : x1_1 > 0
     ·rw [if_pos c12] at H
      have c12b0 : decide (0 < x1_1) = true := decide_eq_true c12
      clear c12
      obtain ⟨y146, hy146⟩ : ∃ y_ : List Int, y_ = (([(wrap64 (48 + (Int.tmod x0_1 10))) % 256] : List Int)) := ⟨_, rfl⟩
      replace H : (if (strOfNums y146).size + x5_1.size ≤ 9223372036854775807 then (trystref01_number.l0 k1 (wrap64 (Int.tdiv x0_1 10)) (wrap64 (x1_1 - 1)) ((strOfNums y146) ++ x5_1)) else (none)) = some r := by first | (rw [hy146]; with_reducible exact H) | (have H2_ := (Option.bind_some _ _).symm.trans H; rw [hy146]; with_reducible exact H2_) | (have H2_ := (Option.bind_some _ _).symm.trans H; with_reducible exact H2_) | with_reducible exact H | (rw [hy146]; exact H) | exact H
      have Ny146 := Aside0.mk hy146
      clear hy146
      by_cases c13 : (strOfNums y146).size + x5_1.size ≤ 9223372036854775807
      ·rw [if_pos c13] at H
       have c13b0 := eq_true c13
       have c13b1 : decide ((strOfNums y146).size + x5_1.size ≤ 9223372036854775807) = true := decide_eq_true c13
       try have c13b2 : (9223372036854775807 < (strOfNums y146).size + x5_1.size) = False := eq_false (Nat.not_lt.2 c13)
       try (have c13b3 := c13b2; simp only [ByteArray.size_append, bs1_] at c13b3)
       have H' := Aside0.mk H
       clear H
       go_wp2_with (first | ((with_reducible refine gate_dst (N := 27) rfl ?_); refine Kd.R_lit (Kd.int .u8) _ 5 ?hg (N := 27) ?hd (xs := ([(wrap64 (48 + (Int.tmod x0_1 10))) % 256] : List Int)) (inner := [.int .u8 ((wrap64 (48 + (Int.tmod x0_1 10))) % 256)]) (ok := fun _ => True) (okp := fun _ => True) ?hr ?hp (fun _ hk => hk) trivial (Below.refl _ _) (Nat.le_refl _) (by simp) ?_; (case hd => rfl); (case hg => rfl); (case hr => first | (go_simp; done) | (go_simp; rfl)); (case hp => exact (Reps.one (show Kd.M (Kd.int .u8) _ _ _ ((wrap64 (48 + (Int.tmod x0_1 10))) % 256) [.int .u8 ((wrap64 (48 + (Int.tmod x0_1 10))) % 256)] from rfl) (Reps.none _ _))); intro v147 w14 ho15 hb hg_ hnew_; clear hg_ hnew_; (first | rw [← Ny146.out] at ho15 | (simp only [Int.reduceToNat] at ho15; rw [← Ny146.out] at ho15)); have n0_ := Aside0.mk (Kd.R_lower ho15 (below_size (by repeat (first | (with_reducible first | exact HB.out | apply below_alloc | apply pw_below_drewN | apply below_drew1) | exact HB.out)))); have n1_ := Aside0.mk (below_step (by repeat (first | (with_reducible first | exact HB.out | apply below_alloc | apply pw_below_drewN | apply below_drew1) | exact HB.out)) hb); clear HB; have HO148 := n0_; have HB := n1_; clear n0_ n1_; clear hb ho15; have hcv16 := own_string (P := Tryd.prog) Tryd.underlying62 Tryd.underlying5 Tryd.underlying9 (Kd.own_of_R HO148.out)))
       go_roundg k1
       case measure => have := HK1.out; omega
       case rel => exact ⟨(wrap64 (Int.tdiv x0_1 10)), (wrap64 (x1_1 - 1)), ((strOfNums y146) ++ x5_1), (by first | rfl | (simp; done) | (simp [*]; done)), (by first | rfl | (simp; done) | (simp [*]; done)), (by first | rfl | (simp; done) | (simp [*]; done)), H', ⟨by have := HK1.out; omega⟩, ⟨by repeat (first | (with_reducible first | exact HB.out | apply below_alloc | apply pw_below_drewN | apply below_drew1) | exact HB.out)⟩⟩
      ·rw [if_neg c13] at H
       exact absurd H (by simp)
     ·rw [if_neg c12] at H
      have c12b0 : decide (0 < x1_1) = false := decide_eq_false c12
      clear c12
      by_cases c17 : x5_1.toList = ([] : List UInt8)
      ·rw [if_pos c17] at H
       have c17b0 : (x5_1.toList == ([] : List UInt8)) = true := beq_iff_eq.mpr c17
       have c17b1 : (x5_1.toList != ([] : List UInt8)) = false := bne_eq_false_iff_eq.mpr c17
       clear c17
       obtain ⟨y149, hy149⟩ : ∃ y_ : List Int, y_ = (([(wrap64 (48 + (Int.tmod x0_1 10))) % 256] : List Int)) := ⟨_, rfl⟩
       replace H : (if (strOfNums y149).size + x5_1.size ≤ 9223372036854775807 then (trystref01_number.l0 k1 (wrap64 (Int.tdiv x0_1 10)) (wrap64 (x1_1 - 1)) ((strOfNums y149) ++ x5_1)) else (none)) = some r := by first | (rw [hy149]; with_reducible exact H) | (have H2_ := (Option.bind_some _ _).symm.trans H; rw [hy149]; with_reducible exact H2_) | (have H2_ := (Option.bind_some _ _).symm.trans H; with_reducible exact H2_) | with_reducible exact H | (rw [hy149]; exact H) | exact H
       have Ny149 := Aside0.mk hy149
       clear hy149
       by_cases c18 : (strOfNums y149).size + x5_1.size ≤ 9223372036854775807
       ·rw [if_pos c18] at H
        have c18b0 := eq_true c18
        have c18b1 : decide ((strOfNums y149).size + x5_1.size ≤ 9223372036854775807) = true := decide_eq_true c18
        try have c18b2 : (9223372036854775807 < (strOfNums y149).size + x5_1.size) = False := eq_false (Nat.not_lt.2 c18)
        try (have c18b3 := c18b2; simp only [ByteArray.size_append, bs1_] at c18b3)
        have H' := Aside0.mk H
        clear H
        go_wp2_with (first | ((with_reducible refine gate_dst (N := 27) rfl ?_); refine Kd.R_lit (Kd.int .u8) _ 5 ?hg (N := 27) ?hd (xs := ([(wrap64 (48 + (Int.tmod x0_1 10))) % 256] : List Int)) (inner := [.int .u8 ((wrap64 (48 + (Int.tmod x0_1 10))) % 256)]) (ok := fun _ => True) (okp := fun _ => True) ?hr ?hp (fun _ hk => hk) trivial (Below.refl _ _) (Nat.le_refl _) (by simp) ?_; (case hd => rfl); (case hg => rfl); (case hr => first | (go_simp; done) | (go_simp; rfl)); (case hp => exact (Reps.one (show Kd.M (Kd.int .u8) _ _ _ ((wrap64 (48 + (Int.tmod x0_1 10))) % 256) [.int .u8 ((wrap64 (48 + (Int.tmod x0_1 10))) % 256)] from rfl) (Reps.none _ _))); intro v150 w19 ho20 hb hg_ hnew_; clear hg_ hnew_; (first | rw [← Ny149.out] at ho20 | (simp only [Int.reduceToNat] at ho20; rw [← Ny149.out] at ho20)); have n0_ := Aside0.mk (Kd.R_lower ho20 (below_size (by repeat (first | (with_reducible first | exact HB.out | apply below_alloc | apply pw_below_drewN | apply below_drew1) | exact HB.out)))); have n1_ := Aside0.mk (below_step (by repeat (first | (with_reducible first | exact HB.out | apply below_alloc | apply pw_below_drewN | apply below_drew1) | exact HB.out)) hb); clear HB; have HO151 := n0_; have HB := n1_; clear n0_ n1_; clear hb ho20; have hcv21 := own_string (P := Tryd.prog) Tryd.underlying62 Tryd.underlying5 Tryd.underlying9 (Kd.own_of_R HO151.out)))
        go_roundg k1
        case measure => have := HK1.out; omega
        case rel => exact ⟨(wrap64 (Int.tdiv x0_1 10)), (wrap64 (x1_1 - 1)), ((strOfNums y149) ++ x5_1), (by first | rfl | (simp; done) | (simp [*]; done)), (by first | rfl | (simp; done) | (simp [*]; done)), (by first | rfl | (simp; done) | (simp [*]; done)), H', ⟨by have := HK1.out; omega⟩, ⟨by repeat (first | (with_reducible first | exact HB.out | apply below_alloc | apply pw_below_drewN | apply below_drew1) | exact HB.out)⟩⟩
       ·rw [if_neg c18] at H
        exact absurd H (by simp)
      ·rw [if_neg c17] at H
       have c17b0 : (x5_1.toList == ([] : List UInt8)) = false := beq_eq_false_iff_ne.mpr c17
       have c17b1 : (x5_1.toList != ([] : List UInt8)) = true := bne_iff_ne.mpr c17
       obtain rfl := Option.some.inj H
       go_wp2
       go_ret
       exact ⟨by first | rfl | (simp [errW_none, errW_some] <;> rfl) | (simp [*, errW_none, errW_some] <;> rfl), by repeat (first | (with_reducible first | exact HB.out | apply below_alloc | apply pw_below_drewN | apply below_drew1) | exact HB.out)⟩

/-! ### trystref01_Two: function 30 -/
end Go.Proofs.YthppkdbelmolbaaDoor.Q
