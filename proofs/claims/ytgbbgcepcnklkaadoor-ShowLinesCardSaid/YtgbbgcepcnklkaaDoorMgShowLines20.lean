/- Texts of this claim, merged: LrefN, Ltrystlaw27hours. -/
import Derived.Test.YtgbbgcepcnklkaaDoorMgShowLines1
import Derived.Test.YtgbbgcepcnklkaaDoorMgShowLines16
-- written by a program of this session (wip/own_print.sh)
namespace Go.Proofs.YtgbbgcepcnklkaaDoor.L
open Go.RowKit Go.Proofs.YtgbbgcepcnklkaaDoorW.PrintWords Go.Proofs.YtgbbgcepcnklkaaDoorW.PrintLast Go.Proofs.YtgbbgcepcnklkaaDoorW.PrintMore
attribute [local go_sem] max2_int min2_int max_two min_two
set_option linter.unusedVariables false
set_option linter.unusedSimpArgs false
/-! ### trystref01_number: function 34 -/
-- GIVEN tryst/trystref01.number	["i64", "i64"]	["str"]	1	1
-- IMPORT QrefN
abbrev trystref01_number.f (k : Nat) (a0 a1 : Int) : Option ByteArray := Go.Proofs.YtgbbgcepcnklkaaDoor.Q.trystref01_number.f k a0 a1
theorem trystref01_number.calls (k : Nat) (a0 a1 : Int) (r : ByteArray) (w : World) (h : trystref01_number.f k a0 a1 = some r) :
  Calls Tryd.prog 34 #[.int .i64 a0, .int .i64 a1] w fun e w' => e = .returned (.string r) ∧ Below w.heap.size w w' :=
 Go.Proofs.YtgbbgcepcnklkaaDoor.Q.trystref01_number.calls k a0 a1 r w h

/-! ### trystref01_Two: function 39 -/
def trystref01_Two.f (k : Nat) (a0 : Int) : Option (ByteArray) := (trystref01_number.f k a0 2).bind fun t310 => (some t310)
set_option maxHeartbeats 8000000 in
set_option maxRecDepth 100000 in
theorem trystref01_Two.calls (k : Nat) (a0 : Int) (r : ByteArray) (w : World) (h : trystref01_Two.f k a0 = some r) :
  Calls Tryd.prog 39 #[.int .i64 a0] w fun e w' => e = .returned (.string r) ∧ Below w.heap.size w w' := by
 have HB := Aside0.mk (Below.refl w.heap.size w)
 have H : ((trystref01_number.f k a0 2).bind fun t310 => (some t310)) = some r := h
 clear h
 replace H := Option.bind_eq_some_iff.mp H
 obtain ⟨t310, A20, H⟩ := H
 replace H : (some t310) = some r := H
 have A2 := Aside0.mk A20
 clear A20
 obtain rfl := Option.some.inj H
 go_enter Tryd.func39, Tryd.ntmps39
 go_wp2_with (first | ((with_reducible refine gate_callee (f := 34) rfl ?_); refine goesL_ (some 4) rfl rfl Tryd.func34 (by kernel_rfl) rfl #[.int .i64 a0, .int .i64 2] rfl (by (try simp only [List.map_toArray, List.map_cons, List.map_nil]); first | done | rfl | (simp only [List.length_drop, List.length_take]; rfl)) ?_; (with_reducible refine (trystref01_number.calls k a0 2 t310 _ A2.out).mono ?_); rintro e w3 ⟨rfl, hb⟩; refine ⟨_, rfl, ?_⟩; have n0_ := Aside0.mk (below_step (by repeat (first | (with_reducible first | exact HB.out | apply below_alloc | apply pw_below_drewN | apply below_drew1) | exact HB.out)) hb); clear HB; have HB := n0_; clear n0_; (try clear hb); (try clear hb2); (try clear hk); (try clear hi)))
 go_ret
 exact ⟨by first | rfl | (simp [errW_none, errW_some] <;> rfl) | (simp [*, errW_none, errW_some] <;> rfl), by repeat (first | (with_reducible first | exact HB.out | apply below_alloc | apply pw_below_drewN | apply below_drew1) | exact HB.out)⟩

end Go.Proofs.YtgbbgcepcnklkaaDoor.L
-- written by a program of this session (wip/own_print.sh)
namespace Go.Proofs.YtgbbgcepcnklkaaDoor.L
open Go.RowKit Go.Proofs.YtgbbgcepcnklkaaDoorW.PrintWords Go.Proofs.YtgbbgcepcnklkaaDoorW.PrintLast Go.Proofs.YtgbbgcepcnklkaaDoorW.PrintMore
attribute [local go_sem] max2_int min2_int max_two min_two
set_option linter.unusedVariables false
set_option linter.unusedSimpArgs false
/-! ### trystlaw27_hours: function 14 -/
def trystlaw27_hours.f (k : Nat) (a0 : Int) : Option (ByteArray) := (trystref01_Two.f k (wrap64 (Int.tdiv (Int.tmod a0 86400) 3600))).bind fun t311 => (if t311.size + 1 ≤ 9223372036854775807 then ((trystref01_Two.f k (Int.tmod (wrap64 (Int.tdiv (Int.tmod a0 86400) 60)) 60)).bind fun t312 => (if (t311 ++ (⟨#[58]⟩ : ByteArray)).size + t312.size ≤ 9223372036854775807 then (some ((t311 ++ (⟨#[58]⟩ : ByteArray)) ++ t312)) else (none))) else (none))
set_option maxHeartbeats 8000000 in
set_option maxRecDepth 100000 in
theorem trystlaw27_hours.calls (k : Nat) (a0 : Int) (r : ByteArray) (w : World) (h : trystlaw27_hours.f k a0 = some r) :
  Calls Tryd.prog 14 #[.int .i64 a0] w fun e w' => e = .returned (.string r) ∧ Below w.heap.size w w' := by
 have HB := Aside0.mk (Below.refl w.heap.size w)
 have H : ((trystref01_Two.f k (wrap64 (Int.tdiv (Int.tmod a0 86400) 3600))).bind fun t311 => (if t311.size + 1 ≤ 9223372036854775807 then ((trystref01_Two.f k (Int.tmod (wrap64 (Int.tdiv (Int.tmod a0 86400) 60)) 60)).bind fun t312 => (if (t311 ++ (⟨#[58]⟩ : ByteArray)).size + t312.size ≤ 9223372036854775807 then (some ((t311 ++ (⟨#[58]⟩ : ByteArray)) ++ t312)) else (none))) else (none))) = some r := h
 clear h
 replace H := Option.bind_eq_some_iff.mp H
 obtain ⟨t311, A20, H⟩ := H
 replace H : (if t311.size + 1 ≤ 9223372036854775807 then ((trystref01_Two.f k (Int.tmod (wrap64 (Int.tdiv (Int.tmod a0 86400) 60)) 60)).bind fun t312 => (if (t311 ++ (⟨#[58]⟩ : ByteArray)).size + t312.size ≤ 9223372036854775807 then (some ((t311 ++ (⟨#[58]⟩ : ByteArray)) ++ t312)) else (none))) else (none)) = some r := H
 have A2 := Aside0.mk A20
 clear A20
 by_cases c3 : t311.size + 1 ≤ 9223372036854775807
 ·rw [if_pos c3] at H
  have c3b0 := eq_true c3
  have c3b1 : decide (t311.size + 1 ≤ 9223372036854775807) = true := decide_eq_true c3
  try have c3b2 : (9223372036854775807 < t311.size + 1) = False := eq_false (Nat.not_lt.2 c3)
  try (have c3b3 := c3b2; simp only [ByteArray.size_append, bs1_] at c3b3)
  replace H := Option.bind_eq_some_iff.mp H
  obtain ⟨t312, A40, H⟩ := H
  replace H : (if (t311 ++ (⟨#[58]⟩ : ByteArray)).size + t312.size ≤ 9223372036854775807 then (some ((t311 ++ (⟨#[58]⟩ : ByteArray)) ++ t312)) else (none)) = some r := H
  have A4 := Aside0.mk A40
  clear A40
  by_cases c5 : (t311 ++ (⟨#[58]⟩ : ByteArray)).size + t312.size ≤ 9223372036854775807
  ·rw [if_pos c5] at H
   have c5b0 := eq_true c5
   have c5b1 : decide ((t311 ++ (⟨#[58]⟩ : ByteArray)).size + t312.size ≤ 9223372036854775807) = true := decide_eq_true c5
   try have c5b2 : (9223372036854775807 < (t311 ++ (⟨#[58]⟩ : ByteArray)).size + t312.size) = False := eq_false (Nat.not_lt.2 c5)
   try (have c5b3 := c5b2; simp only [ByteArray.size_append, bs1_] at c5b3)
   obtain rfl := Option.some.inj H
   go_enter Tryd.func14, Tryd.ntmps14
   go_wp2_with (first | ((with_reducible refine gate_callee (f := 39) rfl ?_); refine goesL_ (some 8) rfl rfl Tryd.func39 (by kernel_rfl) rfl #[.int .i64 (wrap64 (Int.tdiv (Int.tmod a0 86400) 3600))] rfl (by (try simp only [List.map_toArray, List.map_cons, List.map_nil]); first | done | rfl | (simp only [List.length_drop, List.length_take]; rfl)) ?_; (with_reducible refine (trystref01_Two.calls k (wrap64 (Int.tdiv (Int.tmod a0 86400) 3600)) t311 _ A2.out).mono ?_); rintro e w6 ⟨rfl, hb⟩; refine ⟨_, rfl, ?_⟩; have n0_ := Aside0.mk (below_step (by repeat (first | (with_reducible first | exact HB.out | apply below_alloc | apply pw_below_drewN | apply below_drew1) | exact HB.out)) hb); clear HB; have HB := n0_; clear n0_; (try clear hb); (try clear hb2); (try clear hk); (try clear hi)) | ((with_reducible refine gate_callee (f := 39) rfl ?_); refine goesL_ (some 13) rfl rfl Tryd.func39 (by kernel_rfl) rfl #[.int .i64 (Int.tmod (wrap64 (Int.tdiv (Int.tmod a0 86400) 60)) 60)] rfl (by (try simp only [List.map_toArray, List.map_cons, List.map_nil]); first | done | rfl | (simp only [List.length_drop, List.length_take]; rfl)) ?_; (with_reducible refine (trystref01_Two.calls k (Int.tmod (wrap64 (Int.tdiv (Int.tmod a0 86400) 60)) 60) t312 _ A4.out).mono ?_); rintro e w7 ⟨rfl, hb⟩; refine ⟨_, rfl, ?_⟩; have n0_ := Aside0.mk (below_step (by repeat (first | (with_reducible first | exact HB.out | apply below_alloc | apply pw_below_drewN | apply below_drew1) | exact HB.out)) hb); clear HB; have HB := n0_; clear n0_; (try clear hb); (try clear hb2); (try clear hk); (try clear hi)))
   go_ret
   exact ⟨by first | rfl | (simp [errW_none, errW_some] <;> rfl) | (simp [*, errW_none, errW_some] <;> rfl), by repeat (first | (with_reducible first | exact HB.out | apply below_alloc | apply pw_below_drewN | apply below_drew1) | exact HB.out)⟩
  ·rw [if_neg c5] at H
   exact absurd H (by simp)
 ·rw [if_neg c3] at H
  exact absurd H (by simp)

end Go.Proofs.YtgbbgcepcnklkaaDoor.L
