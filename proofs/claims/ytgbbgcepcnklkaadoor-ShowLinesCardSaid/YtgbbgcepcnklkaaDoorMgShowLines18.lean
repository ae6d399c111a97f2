/- Texts of this claim, merged: ShowTx, Ltrystref01Text, LclockA, Lshowis, ShowTx2, LshowText, Lshowhours, Clean, Lshowclean. -/
import Derived.Test.YtgbbgcepcnklkaaDoorMgShowLines16
import Derived.Test.YtgbbgcepcnklkaaDoorMgShowLines17
import Derived.Test.YtgbbgcepcnklkaaDoorMgShowLines1
import Derived.Lib.AtoiErrMem
import Derived.Lib.Hide
/- show.Text and the reference's Text: one text. -/
namespace Go.Proofs.YtgbbgcepcnklkaaDoor.ShowTx
open Go.RowKit Go.Proofs.YtgbbgcepcnklkaaDoorW.PrintWords Go.Proofs.YtgbbgcepcnklkaaDoorW.PrintLast Go.Proofs.YtgbbgcepcnklkaaDoor.Q Go.Proofs.YtgbbgcepcnklkaaDoor.ShowAw
set_option linter.unusedVariables false
set_option linter.unusedSimpArgs false
def it (n : Int) : ByteArray := ⟨(Lib.itoa n).toArray⟩
/-- The text of a date. -/
def tx (c y m d : Int) : ByteArray := if c = 2 then it y ++ ⟨#[45, 87]⟩ ++ it m ++ ⟨#[45]⟩ ++ it d else it y ++ ⟨#[45]⟩ ++ it m ++ ⟨#[45]⟩ ++ it d
theorem dlen : ∀ (j u : Nat), u < 10 ^ (j + 1) → (Lib.decDigits u).length ≤ j + 1 := by
 intro j
 induction j with
 | zero => intro u hu; rw [Lib.decDigits_one (by simpa using hu)]; simp
 | succ j ih =>
  intro u hu
  rw [Lib.decDigits.eq_1]
  split
  ·simp
  ·have hp : (10 : Nat) ^ (j + 1 + 1) = 10 ^ (j + 1) * 10 := rfl
   have := ih (u / 10) (by rw [hp] at hu; omega)
   simp; omega
theorem it_size (n : Int) (h : -20000 ≤ n) (h' : n ≤ 20000) : (it n).size ≤ 100 := by
 have p : (10 : Nat) ^ (6 + 1) = 10000000 := rfl
 unfold it
 rw [FunT.size_of]
 unfold Lib.itoa
 split
 ·have := dlen 6 n.natAbs (by omega); simp; omega
 ·have := dlen 6 n.toNat (by omega); omega
theorem s1_ (a : UInt8) : ByteArray.size ⟨#[a]⟩ = 1 := rfl
theorem s2_ (a b : UInt8) : ByteArray.size ⟨#[a, b]⟩ = 2 := rfl
theorem refYes (c a y m d : Int) (h : trystref01_Date.f FunZ.K c a = some (y, m, d, 0)) (y1 : -20000 ≤ y) (y2 : y ≤ 20000) (hm : 1 ≤ m ∧ m ≤ 60 ∧ 1 ≤ d ∧ d ≤ 60) : trystref01_Text.f FunZ.K c a = some (tx c y m d) := by
 have zy := it_size y y1 y2
 have zm := it_size m (by omega) (by omega)
 have zd := it_size d (by omega) (by omega)
 have ny : trystref01_number.f FunZ.K y 0 = some (it y) := FunT.number FunZ.K (by decide) y (by omega) (by omega)
 have nm : trystref01_number.f FunZ.K m 0 = some (it m) := FunT.number FunZ.K (by decide) m (by omega) (by omega)
 have nd : trystref01_number.f FunZ.K d 0 = some (it d) := FunT.number FunZ.K (by decide) d (by omega) (by omega)
 unfold trystref01_Text.f tx
 rw [h, Option.bind_some]
 dsimp only
 rw [if_pos rfl, ny, nm, nd]
 simp only [Option.bind_some]
 by_cases q : c = 2
 ·rw [if_pos q, if_pos q, if_pos (by omega), if_pos (by simp only [ByteArray.size_append, s2_]; omega), if_pos (by simp only [ByteArray.size_append, s2_]; omega), if_pos (by simp only [ByteArray.size_append, s2_, s1_]; omega)]
 ·rw [if_neg q, if_neg q, if_pos (by omega), if_pos (by simp only [ByteArray.size_append, s1_]; omega), if_pos (by simp only [ByteArray.size_append, s1_]; omega), if_pos (by simp only [ByteArray.size_append, s1_]; omega)]
theorem refNo (c a y m d : Int) (h : trystref01_Date.f FunZ.K c a = some (y, m, d, 2)) : trystref01_Text.f FunZ.K c a = some ⟨#[]⟩ := by
 unfold trystref01_Text.f
 rw [h, Option.bind_some]
 dsimp only
 rw [if_neg (by omega)]
theorem written (c y m d : Int) (w : World) (ht : Tab w) (y1 : -20000 ≤ y) (y2 : y ≤ 20000) (hm : 1 ≤ m ∧ m ≤ 60 ∧ 1 ≤ d ∧ d ≤ 60) :
  Calls Tryd.prog 25 #[.int .i64 c, .agg #[.int .i64 y, .int .i64 m, .int .i64 d]] w fun e w' => e = .returned (.string (tx c y m d)) ∧ Below w.heap.size w w' := by
 unfold tx
 by_cases q : c = 2
 ·rw [if_pos q]
  exact ShowDt.written2 c y m d w ht q y1 y2 hm.1 hm.2.1 hm.2.2.1 hm.2.2.2 it_size
 ·rw [if_neg q]
  exact ShowDt.written0 c y m d w ht q y1 y2 hm.1 hm.2.1 hm.2.2.1 hm.2.2.2 it_size
set_option maxHeartbeats 4000000 in
set_option maxRecDepth 100000 in
theorem textYes (c a y m d : Int) (s : ByteArray) (w : World) (ht : Tab w) (hD : ∀ w : World, Calls Tryd.prog 7 #[.int .i64 c, .int .i64 a] w fun e w' => e = .returned (.tuple #[.agg #[.int .i64 y, .int .i64 m, .int .i64 d], .int .i64 0]) ∧ Below w.heap.size w w')
  (hW : ∀ w : World, Tab w → Calls Tryd.prog 25 #[.int .i64 c, .agg #[.int .i64 y, .int .i64 m, .int .i64 d]] w fun e w' => e = .returned (.string s) ∧ Below w.heap.size w w') :
  Calls Tryd.prog 8 #[.int .i64 c, .int .i64 a] w fun e w' => e = .returned (.tuple #[.string s, .int .i64 0]) ∧ Below w.heap.size w w' := by
 have T := Lib.hid ht
 have HD := Lib.hid hD
 have HW := Lib.hid hW
 clear ht hD hW
 go_enter Tryd.func8, Tryd.ntmps8
 go_wp2_with fail
 refine (HD.out _).mono ?_
 rintro e w1 ⟨rfl, hB⟩
 have B := Lib.hid hB
 clear hB
 go_wp2_with fail
 refine (HW.out _ (tab_below T.out (by repeat (with_reducible first | exact B.out | apply pw_below_drewN | apply below_drew | apply below_alloc | refine below_set ?_ (by have := B.out.size; simp; omega))))).mono ?_
 rintro e w2 ⟨rfl, hB⟩
 have B2 : Below w.heap.size w w2 := below_then (by repeat (with_reducible first | exact B.out | apply pw_below_drewN | apply below_drew | apply below_alloc | refine below_set ?_ (by have := B.out.size; simp; omega))) (by have := B.out.size; simp; omega) hB
 clear hB
 go_wp2_with fail
 go_ret2
 exact ⟨rfl, B2⟩
set_option maxHeartbeats 4000000 in
set_option maxRecDepth 100000 in
theorem textNo (c a y m d e0 : Int) (w : World) (h0 : e0 ≠ 0) (hD : ∀ w : World, Calls Tryd.prog 7 #[.int .i64 c, .int .i64 a] w fun e w' => e = .returned (.tuple #[.agg #[.int .i64 y, .int .i64 m, .int .i64 d], .int .i64 e0]) ∧ Below w.heap.size w w') :
  Calls Tryd.prog 8 #[.int .i64 c, .int .i64 a] w fun e w' => e = .returned (.tuple #[.string ⟨#[]⟩, .int .i64 e0]) ∧ Below w.heap.size w w' := by
 have HD := Lib.hid hD
 have z : (e0 == 0) = false := beq_eq_false_iff_ne.2 h0
 clear hD h0
 go_enter Tryd.func8, Tryd.ntmps8
 go_wp2_with fail
 refine (HD.out _).mono ?_
 rintro e w1 ⟨rfl, hB⟩
 have B := Lib.hid hB
 clear hB
 go_wp2_with fail
 go_ret2
 exact ⟨rfl, by repeat (with_reducible first | exact B.out | apply pw_below_drewN | apply below_drew | apply below_alloc | refine below_set ?_ (by have := B.out.size; simp; omega))⟩
set_option maxHeartbeats 4000000 in
set_option maxRecDepth 100000 in
/-- No calendar, no date. -/
theorem dateOut (c a : Int) (w : World) (hc : ¬ (0 ≤ c ∧ c ≤ 6)) :
  Calls Tryd.prog 7 #[.int .i64 c, .int .i64 a] w fun e w' => e = .returned (.tuple #[.agg #[.int .i64 0, .int .i64 0, .int .i64 0], .int .i64 1]) ∧ Below w.heap.size w w' := by
 have hf : show_is.f c = some false := by
  unfold show_is.f
  by_cases a : c ≥ 0
  ·rw [if_pos a]; simp; omega
  ·rw [if_neg a]
 clear hc
 go_enter Tryd.func7, Tryd.ntmps7
 go_wp2_with fail
 refine (show_is.calls c false _ hf).mono ?_
 rintro e w1 ⟨rfl, ⟨nd, rfl⟩⟩
 have hk : ((w.alloc (.cells #[.int .i64 0, .int .i64 0, .int .i64 0] 24 (0, 0))).drewN nd).heap[w.heap.size]? = some (.cells #[.int .i64 0, .int .i64 0, .int .i64 0] 24 (0, 0)) := blk_drewN (blk_new w _) nd
 have c0 := (blk_cell hk 0).trans rfl
 have c1 := (blk_cell hk 1).trans rfl
 have c2 := (blk_cell hk 2).trans rfl
 have f0 := blk_frozen hk 0; have f1 := blk_frozen hk 1; have f2 := blk_frozen hk 2
 go_wp2_with fail
 refine bodyPost_ret (v := .tuple #[.agg #[.int .i64 0, .int .i64 0, .int .i64 0], .int .i64 1]) (by simp [results, Tryd.results7, go_sem, c0, c1, c2, f0, f1, f2]) rfl ⟨rfl, ?_⟩
 repeat (with_reducible first | exact Below.refl _ _ | apply pw_below_drewN | apply below_drew | apply below_alloc | refine below_set ?_ (by simp; done))
end Go.Proofs.YtgbbgcepcnklkaaDoor.ShowTx
-- written by a program of this session (wip/own_print.sh)
namespace Go.Proofs.YtgbbgcepcnklkaaDoor.L
open Go.RowKit Go.Proofs.YtgbbgcepcnklkaaDoorW.PrintWords Go.Proofs.YtgbbgcepcnklkaaDoorW.PrintLast Go.Proofs.YtgbbgcepcnklkaaDoorW.PrintMore
attribute [local go_sem] max2_int min2_int max_two min_two
set_option linter.unusedVariables false
set_option linter.unusedSimpArgs false
/-! ### trystref01_Text: function 11 -/
-- GIVEN tryst/trystref01.Text	["i64", "i64"]	["str"]	0	1
-- IMPORT ShowTx
def trystref01_Text.f (a0 a1 : Int) : Option ByteArray := Go.Proofs.YtgbbgcepcnklkaaDoor.Q.trystref01_Text.f FunZ.K a0 a1
theorem trystref01_Text.calls (a0 a1 : Int) (r : ByteArray) (w : World) (h : trystref01_Text.f a0 a1 = some r) :
  Calls Tryd.prog 11 #[.int .i64 a0, .int .i64 a1] w fun e w' => e = .returned (.string r) ∧ Below w.heap.size w w' :=
 Go.Proofs.YtgbbgcepcnklkaaDoor.Q.trystref01_Text.calls FunZ.K a0 a1 r w h

end Go.Proofs.YtgbbgcepcnklkaaDoor.L
-- written by a program of this session (wip/own_print.sh)
namespace Go.Proofs.YtgbbgcepcnklkaaDoor.L
open Go.RowKit Go.Proofs.YtgbbgcepcnklkaaDoorW.PrintWords Go.Proofs.YtgbbgcepcnklkaaDoorW.PrintLast Go.Proofs.YtgbbgcepcnklkaaDoorW.PrintMore
attribute [local go_sem] max2_int min2_int max_two min_two
set_option linter.unusedVariables false
set_option linter.unusedSimpArgs false
/-! ### clock_Right: function 35 -/
def clock_Right.f (a0 : Int) : Option (Bool) := if a0 ≥ 86400 then (some (decide (a0 < 315537984000))) else (some false)
set_option maxHeartbeats 8000000 in
set_option maxRecDepth 100000 in
theorem clock_Right.calls (a0 : Int) (r : Bool) (w : World) (h : clock_Right.f a0 = some r) :
  Calls Tryd.prog 35 #[.int .i64 a0] w fun e w' => e = .returned (.bool r) ∧ Drawn0 w w' := by
 have H : (if a0 ≥ 86400 then (some (decide (a0 < 315537984000))) else (some false)) = some r := h
 clear h
 by_cases c2 : a0 ≥ 86400
 ·rw [if_pos c2] at H
  have c2b0 : decide (86400 ≤ a0) = true := decide_eq_true c2
  clear c2
  obtain rfl := Option.some.inj H
  go_enter Tryd.func35, Tryd.ntmps35
  go_wp2
  go_ret
  exact ⟨by first | rfl | (simp; done) | (simp [*]; done) | (simp [bne_nil_]; done), by repeat (first | exact Drawn0.refl _ | apply Drawn0.step)⟩
 ·rw [if_neg c2] at H
  have c2b0 : decide (86400 ≤ a0) = false := decide_eq_false c2
  clear c2
  obtain rfl := Option.some.inj H
  go_enter Tryd.func35, Tryd.ntmps35
  go_wp2
  go_ret
  exact ⟨by first | rfl | (simp; done) | (simp [*]; done) | (simp [bne_nil_]; done), by repeat (first | exact Drawn0.refl _ | apply Drawn0.step)⟩

/-! ### clock_split: function 79 -/
def clock_split.f (a0 : Int) : Option (Int × Int) := if (Int.tmod a0 86400) < 0 then (some (wrap64 ((wrap64 (Int.tdiv a0 86400)) - 1), wrap64 ((Int.tmod a0 86400) + 86400))) else (some (wrap64 (Int.tdiv a0 86400), Int.tmod a0 86400))
set_option maxHeartbeats 8000000 in
set_option maxRecDepth 100000 in
theorem clock_split.calls (a0 : Int) (r1 : Int) (r2 : Int) (w : World) (h : clock_split.f a0 = some (r1, r2)) :
  Calls Tryd.prog 79 #[.int .i64 a0] w fun e w' => e = .returned (.tuple #[.int .i64 r1, .int .i64 r2]) ∧ Drawn0 w w' := by
 have H : (if (Int.tmod a0 86400) < 0 then (some (wrap64 ((wrap64 (Int.tdiv a0 86400)) - 1), wrap64 ((Int.tmod a0 86400) + 86400))) else (some (wrap64 (Int.tdiv a0 86400), Int.tmod a0 86400))) = some (r1, r2) := h
 clear h
 by_cases c2 : (Int.tmod a0 86400) < 0
 ·rw [if_pos c2] at H
  have c2b0 : decide ((Int.tmod a0 86400) < 0) = true := decide_eq_true c2
  clear c2
  simp only [Option.some.injEq, Prod.mk.injEq] at H
  obtain ⟨rfl, rfl⟩ := H
  go_enter Tryd.func79, Tryd.ntmps79
  go_wp2
  go_ret2
  exact ⟨by first | rfl | (simp; done) | (simp [*]; done) | (simp [bne_nil_]; done), by repeat (first | exact Drawn0.refl _ | apply Drawn0.step)⟩
 ·rw [if_neg c2] at H
  have c2b0 : decide ((Int.tmod a0 86400) < 0) = false := decide_eq_false c2
  clear c2
  simp only [Option.some.injEq, Prod.mk.injEq] at H
  obtain ⟨rfl, rfl⟩ := H
  go_enter Tryd.func79, Tryd.ntmps79
  go_wp2
  go_ret2
  exact ⟨by first | rfl | (simp; done) | (simp [*]; done) | (simp [bne_nil_]; done), by repeat (first | exact Drawn0.refl _ | apply Drawn0.step)⟩

/-! ### clock_Day: function 36 -/
def clock_Day.f (a0 : Int) : Option (Int) := (clock_Right.f a0).bind fun t290 => (if t290 = true then ((clock_split.f a0).bind fun bt291 => (some bt291.1)) else (some 0))
set_option maxHeartbeats 8000000 in
set_option maxRecDepth 100000 in
theorem clock_Day.calls (a0 : Int) (r : Int) (w : World) (h : clock_Day.f a0 = some r) :
  Calls Tryd.prog 36 #[.int .i64 a0] w fun e w' => e = .returned (.int .i64 r) ∧ Drawn0 w w' := by
 have H : ((clock_Right.f a0).bind fun t290 => (if t290 = true then ((clock_split.f a0).bind fun bt291 => (some bt291.1)) else (some 0))) = some r := h
 clear h
 replace H := Option.bind_eq_some_iff.mp H
 obtain ⟨t290, A20, H⟩ := H
 replace H : (if t290 = true then ((clock_split.f a0).bind fun bt291 => (some bt291.1)) else (some 0)) = some r := H
 have A2 := Aside0.mk A20
 clear A20
 by_cases c3 : t290 = true
 ·subst c3
  have H1 : ((clock_split.f a0).bind fun bt291 => (some bt291.1)) = some r := by rw [if_pos rfl] at H; exact H
  clear H
  have H := H1
  clear H1
  replace H := Option.bind_eq_some_iff.mp H
  obtain ⟨⟨t291, t292⟩, A40, H⟩ := H
  replace H : (some t291) = some r := H
  have A4 := Aside0.mk A40
  clear A40
  obtain rfl := Option.some.inj H
  go_enter Tryd.func36, Tryd.ntmps36
  go_wp2_with (first | ((with_reducible refine gate_callee (f := 35) rfl ?_); refine goesL_ (some 6) rfl rfl Tryd.func35 (by kernel_rfl) rfl #[.int .i64 a0] rfl (by (try simp only [List.map_toArray, List.map_cons, List.map_nil]); first | done | rfl | (simp only [List.length_drop, List.length_take]; rfl)) ?_; (with_reducible refine (clock_Right.calls a0 true _ A2.out).mono ?_); rintro e w' ⟨rfl, ⟨nd, rfl⟩⟩; refine ⟨_, rfl, ?_⟩) | ((with_reducible refine gate_callee (f := 79) rfl ?_); refine goesL_ (some 10) rfl rfl Tryd.func79 (by kernel_rfl) rfl #[.int .i64 a0] rfl (by (try simp only [List.map_toArray, List.map_cons, List.map_nil]); first | done | rfl | (simp only [List.length_drop, List.length_take]; rfl)) ?_; (with_reducible refine (clock_split.calls a0 t291 t292 _ A4.out).mono ?_); rintro e w' ⟨rfl, ⟨nd, rfl⟩⟩; refine ⟨_, rfl, ?_⟩))
  go_ret
  exact ⟨by first | rfl | (simp; done) | (simp [*]; done) | (simp [bne_nil_]; done), by repeat (first | exact Drawn0.refl _ | apply Drawn0.step)⟩
 ·replace c3 := Bool.eq_false_iff.mpr c3
  subst c3
  have H1 : (some 0) = some r := by rw [if_neg (show ¬ (false = true) by decide)] at H; exact H
  clear H
  have H := H1
  clear H1
  obtain rfl := Option.some.inj H
  go_enter Tryd.func36, Tryd.ntmps36
  go_wp2_with (first | ((with_reducible refine gate_callee (f := 35) rfl ?_); refine goesL_ (some 6) rfl rfl Tryd.func35 (by kernel_rfl) rfl #[.int .i64 a0] rfl (by (try simp only [List.map_toArray, List.map_cons, List.map_nil]); first | done | rfl | (simp only [List.length_drop, List.length_take]; rfl)) ?_; (with_reducible refine (clock_Right.calls a0 false _ A2.out).mono ?_); rintro e w' ⟨rfl, ⟨nd, rfl⟩⟩; refine ⟨_, rfl, ?_⟩))
  go_ret
  exact ⟨by first | rfl | (simp; done) | (simp [*]; done) | (simp [bne_nil_]; done), by repeat (first | exact Drawn0.refl _ | apply Drawn0.step)⟩

/-! ### clock_Second: function 80 -/
def clock_Second.f (a0 : Int) : Option (Int) := (clock_Right.f a0).bind fun t293 => (if t293 = true then ((clock_split.f a0).bind fun bt294 => (some bt294.2)) else (some 0))
set_option maxHeartbeats 8000000 in
set_option maxRecDepth 100000 in
theorem clock_Second.calls (a0 : Int) (r : Int) (w : World) (h : clock_Second.f a0 = some r) :
  Calls Tryd.prog 80 #[.int .i64 a0] w fun e w' => e = .returned (.int .i64 r) ∧ Drawn0 w w' := by
 have H : ((clock_Right.f a0).bind fun t293 => (if t293 = true then ((clock_split.f a0).bind fun bt294 => (some bt294.2)) else (some 0))) = some r := h
 clear h
 replace H := Option.bind_eq_some_iff.mp H
 obtain ⟨t293, A20, H⟩ := H
 replace H : (if t293 = true then ((clock_split.f a0).bind fun bt294 => (some bt294.2)) else (some 0)) = some r := H
 have A2 := Aside0.mk A20
 clear A20
 by_cases c3 : t293 = true
 ·subst c3
  have H1 : ((clock_split.f a0).bind fun bt294 => (some bt294.2)) = some r := by rw [if_pos rfl] at H; exact H
  clear H
  have H := H1
  clear H1
  replace H := Option.bind_eq_some_iff.mp H
  obtain ⟨⟨t294, t295⟩, A40, H⟩ := H
  replace H : (some t295) = some r := H
  have A4 := Aside0.mk A40
  clear A40
  obtain rfl := Option.some.inj H
  go_enter Tryd.func80, Tryd.ntmps80
  go_wp2_with (first | ((with_reducible refine gate_callee (f := 35) rfl ?_); refine goesL_ (some 6) rfl rfl Tryd.func35 (by kernel_rfl) rfl #[.int .i64 a0] rfl (by (try simp only [List.map_toArray, List.map_cons, List.map_nil]); first | done | rfl | (simp only [List.length_drop, List.length_take]; rfl)) ?_; (with_reducible refine (clock_Right.calls a0 true _ A2.out).mono ?_); rintro e w' ⟨rfl, ⟨nd, rfl⟩⟩; refine ⟨_, rfl, ?_⟩) | ((with_reducible refine gate_callee (f := 79) rfl ?_); refine goesL_ (some 10) rfl rfl Tryd.func79 (by kernel_rfl) rfl #[.int .i64 a0] rfl (by (try simp only [List.map_toArray, List.map_cons, List.map_nil]); first | done | rfl | (simp only [List.length_drop, List.length_take]; rfl)) ?_; (with_reducible refine (clock_split.calls a0 t294 t295 _ A4.out).mono ?_); rintro e w' ⟨rfl, ⟨nd, rfl⟩⟩; refine ⟨_, rfl, ?_⟩))
  go_ret
  exact ⟨by first | rfl | (simp; done) | (simp [*]; done) | (simp [bne_nil_]; done), by repeat (first | exact Drawn0.refl _ | apply Drawn0.step)⟩
 ·replace c3 := Bool.eq_false_iff.mpr c3
  subst c3
  have H1 : (some 0) = some r := by rw [if_neg (show ¬ (false = true) by decide)] at H; exact H
  clear H
  have H := H1
  clear H1
  obtain rfl := Option.some.inj H
  go_enter Tryd.func80, Tryd.ntmps80
  go_wp2_with (first | ((with_reducible refine gate_callee (f := 35) rfl ?_); refine goesL_ (some 6) rfl rfl Tryd.func35 (by kernel_rfl) rfl #[.int .i64 a0] rfl (by (try simp only [List.map_toArray, List.map_cons, List.map_nil]); first | done | rfl | (simp only [List.length_drop, List.length_take]; rfl)) ?_; (with_reducible refine (clock_Right.calls a0 false _ A2.out).mono ?_); rintro e w' ⟨rfl, ⟨nd, rfl⟩⟩; refine ⟨_, rfl, ?_⟩))
  go_ret
  exact ⟨by first | rfl | (simp; done) | (simp [*]; done) | (simp [bne_nil_]; done), by repeat (first | exact Drawn0.refl _ | apply Drawn0.step)⟩

/-! ### trystref01_Right: function 13 -/
def trystref01_Right.f (a0 : Int) : Option (Bool) := if a0 ≥ 86400 then (some (decide (a0 < 315537984000))) else (some false)
set_option maxHeartbeats 8000000 in
set_option maxRecDepth 100000 in
theorem trystref01_Right.calls (a0 : Int) (r : Bool) (w : World) (h : trystref01_Right.f a0 = some r) :
  Calls Tryd.prog 13 #[.int .i64 a0] w fun e w' => e = .returned (.bool r) ∧ Drawn0 w w' := by
 have H : (if a0 ≥ 86400 then (some (decide (a0 < 315537984000))) else (some false)) = some r := h
 clear h
 by_cases c2 : a0 ≥ 86400
 ·rw [if_pos c2] at H
  have c2b0 : decide (86400 ≤ a0) = true := decide_eq_true c2
  clear c2
  obtain rfl := Option.some.inj H
  go_enter Tryd.func13, Tryd.ntmps13
  go_wp2
  go_ret
  exact ⟨by first | rfl | (simp; done) | (simp [*]; done) | (simp [bne_nil_]; done), by repeat (first | exact Drawn0.refl _ | apply Drawn0.step)⟩
 ·rw [if_neg c2] at H
  have c2b0 : decide (86400 ≤ a0) = false := decide_eq_false c2
  clear c2
  obtain rfl := Option.some.inj H
  go_enter Tryd.func13, Tryd.ntmps13
  go_wp2
  go_ret
  exact ⟨by first | rfl | (simp; done) | (simp [*]; done) | (simp [bne_nil_]; done), by repeat (first | exact Drawn0.refl _ | apply Drawn0.step)⟩

end Go.Proofs.YtgbbgcepcnklkaaDoor.L
-- written by a program of this session (wip/own_print.sh)
namespace Go.Proofs.YtgbbgcepcnklkaaDoor.L
open Go.RowKit Go.Proofs.YtgbbgcepcnklkaaDoorW.PrintWords Go.Proofs.YtgbbgcepcnklkaaDoorW.PrintLast Go.Proofs.YtgbbgcepcnklkaaDoorW.PrintMore
attribute [local go_sem] max2_int min2_int max_two min_two
set_option linter.unusedVariables false
set_option linter.unusedSimpArgs false
/-! ### show_is: function 17 -/
def show_is.f (a0 : Int) : Option (Bool) := if a0 ≥ 0 then (some (decide (a0 < 7))) else (some false)
set_option maxHeartbeats 8000000 in
set_option maxRecDepth 100000 in
theorem show_is.calls (a0 : Int) (r : Bool) (w : World) (h : show_is.f a0 = some r) :
  Calls Tryd.prog 17 #[.int .i64 a0] w fun e w' => e = .returned (.bool r) ∧ Drawn0 w w' := by
 have H : (if a0 ≥ 0 then (some (decide (a0 < 7))) else (some false)) = some r := h
 clear h
 by_cases c2 : a0 ≥ 0
 ·rw [if_pos c2] at H
  have c2b0 : decide (0 ≤ a0) = true := decide_eq_true c2
  clear c2
  obtain rfl := Option.some.inj H
  go_enter Tryd.func17, Tryd.ntmps17
  go_wp2
  go_ret
  exact ⟨by first | rfl | (simp; done) | (simp [*]; done) | (simp [bne_nil_]; done), by repeat (first | exact Drawn0.refl _ | apply Drawn0.step)⟩
 ·rw [if_neg c2] at H
  have c2b0 : decide (0 ≤ a0) = false := decide_eq_false c2
  clear c2
  obtain rfl := Option.some.inj H
  go_enter Tryd.func17, Tryd.ntmps17
  go_wp2
  go_ret
  exact ⟨by first | rfl | (simp; done) | (simp [*]; done) | (simp [bne_nil_]; done), by repeat (first | exact Drawn0.refl _ | apply Drawn0.step)⟩

end Go.Proofs.YtgbbgcepcnklkaaDoor.L
/- show.Text as a function: the reference's text, and whether there is one. -/
namespace Go.Proofs.YtgbbgcepcnklkaaDoor.ShowTx2
open Go.RowKit Go.Proofs.YtgbbgcepcnklkaaDoorW.PrintWords Go.Proofs.YtgbbgcepcnklkaaDoorW.PrintLast Go.Proofs.YtgbbgcepcnklkaaDoor.Q
set_option linter.unusedVariables false
set_option linter.unusedSimpArgs false
def text (c a : Int) : Option (ByteArray × Int) := if 0 ≤ c ∧ c ≤ 6 then (trystref01_Text.f FunZ.K c a).bind fun s => (trystref01_Date.f FunZ.K c a).bind fun t => some (s, t.2.2.2) else some (⟨#[]⟩, 1)
theorem tx_size (c y m d : Int) (y1 : -20000 ≤ y) (y2 : y ≤ 20000) (hm : 1 ≤ m ∧ m ≤ 60 ∧ 1 ≤ d ∧ d ≤ 60) : (ShowTx.tx c y m d).size ≤ 400 := by
 have zy := ShowTx.it_size y y1 y2
 have zm := ShowTx.it_size m (by omega) (by omega)
 have zd := ShowTx.it_size d (by omega) (by omega)
 unfold ShowTx.tx
 split
 ·simp only [ByteArray.size_append, ShowTx.s1_, ShowTx.s2_]; omega
 ·simp only [ByteArray.size_append, ShowTx.s1_]; omega
theorem both (c a : Int) (h : 0 ≤ c ∧ c ≤ 6) : ∃ s e0, text c a = some (s, e0) ∧ trystref01_Text.f FunZ.K c a = some s ∧ s.size ≤ 400 ∧
  ∀ w : World, ShowAw.Tab w → Calls Tryd.prog 8 #[.int .i64 c, .int .i64 a] w fun e w' => e = .returned (.tuple #[.string s, .int .i64 e0]) ∧ Below w.heap.size w w' := by
 obtain ⟨y, m, d, e0, hR, y1, y2, he, hm, hD⟩ := ShowDt.date c a h.1 h.2
 rcases he with rfl | rfl
 ·have hX := ShowTx.refYes c a y m d hR y1 y2 (hm rfl)
  refine ⟨_, 0, ?_, hX, tx_size c y m d y1 y2 (hm rfl), fun w hw => ShowTx.textYes c a y m d _ w hw hD (fun w hw => ShowTx.written c y m d w hw y1 y2 (hm rfl))⟩
  unfold text; rw [if_pos h, hX, hR]; rfl
 ·have hX := ShowTx.refNo c a y m d hR
  refine ⟨_, 2, ?_, hX, by decide, fun w hw => ShowTx.textNo c a y m d 2 w (by decide) hD⟩
  unfold text; rw [if_pos h, hX, hR]; rfl
theorem walk (c a : Int) (s : ByteArray) (e0 : Int) (w : World) (h : text c a = some (s, e0)) (ht : ShowAw.Tab w) :
  Calls Tryd.prog 8 #[.int .i64 c, .int .i64 a] w fun e w' => e = .returned (.tuple #[.string s, .int .i64 e0]) ∧ Below w.heap.size w w' := by
 by_cases hc : 0 ≤ c ∧ c ≤ 6
 ·obtain ⟨s', e', h1, h2, h3, h4⟩ := both c a hc
  rw [h1] at h
  simp only [Option.some.injEq, Prod.mk.injEq] at h
  obtain ⟨rfl, rfl⟩ := h
  exact h4 w ht
 ·unfold text at h
  rw [if_neg hc] at h
  simp only [Option.some.injEq, Prod.mk.injEq] at h
  obtain ⟨rfl, rfl⟩ := h
  exact ShowTx.textNo c a 0 0 0 1 w (by decide) (fun w => ShowTx.dateOut c a w hc)
end Go.Proofs.YtgbbgcepcnklkaaDoor.ShowTx2
-- written by a program of this session (wip/own_print.sh)
namespace Go.Proofs.YtgbbgcepcnklkaaDoor.L
open Go.RowKit Go.Proofs.YtgbbgcepcnklkaaDoorW.PrintWords Go.Proofs.YtgbbgcepcnklkaaDoorW.PrintLast Go.Proofs.YtgbbgcepcnklkaaDoorW.PrintMore
attribute [local go_sem] max2_int min2_int max_two min_two
set_option linter.unusedVariables false
set_option linter.unusedSimpArgs false
/-! ### show_Text: function 8 -/
-- GIVEN tryst/show.Text	["i64", "i64"]	["str", "i64"]	0	1
-- IMPORT ShowTx2
def show_Text.f (a0 a1 : Int) : Option (ByteArray × Int) := ShowTx2.text a0 a1
theorem show_Text.calls (a0 a1 : Int) (r0 : ByteArray) (r1 : Int) (w : World) (h : show_Text.f a0 a1 = some (r0, r1)) (ht : ShowAw.Tab w) :
  Calls Tryd.prog 8 #[.int .i64 a0, .int .i64 a1] w fun e w' => e = .returned (.tuple #[.string r0, .int .i64 r1]) ∧ Below w.heap.size w w' :=
 ShowTx2.walk a0 a1 r0 r1 w h ht

end Go.Proofs.YtgbbgcepcnklkaaDoor.L
-- written by a program of this session (wip/own_print.sh)
namespace Go.Proofs.YtgbbgcepcnklkaaDoor.L
open Go.RowKit Go.Proofs.YtgbbgcepcnklkaaDoorW.PrintWords Go.Proofs.YtgbbgcepcnklkaaDoorW.PrintLast Go.Proofs.YtgbbgcepcnklkaaDoorW.PrintMore
attribute [local go_sem] max2_int min2_int max_two min_two
set_option linter.unusedVariables false
set_option linter.unusedSimpArgs false
/-! ### show_hours: function 37 -/
def show_hours.f (a0 : Int) : Option (ByteArray) := (clock_Second.f a0).bind fun t296 => (some (strOfNums (([(wrap64 (48 + (wrap64 (Int.tdiv (wrap64 (Int.tdiv t296 3600)) 10)))) % 256, (wrap64 (48 + (Int.tmod (wrap64 (Int.tdiv t296 3600)) 10))) % 256, 58, (wrap64 (48 + (wrap64 (Int.tdiv (Int.tmod (wrap64 (Int.tdiv t296 60)) 60) 10)))) % 256, (wrap64 (48 + (Int.tmod (Int.tmod (wrap64 (Int.tdiv t296 60)) 60) 10))) % 256] : List Int))))
set_option maxHeartbeats 8000000 in
set_option maxRecDepth 100000 in
theorem show_hours.calls (a0 : Int) (r : ByteArray) (w : World) (h : show_hours.f a0 = some r) :
  Calls Tryd.prog 37 #[.int .i64 a0] w fun e w' => e = .returned (.string r) ∧ Below w.heap.size w w' := by
 have HB := Aside0.mk (Below.refl w.heap.size w)
 have H : ((clock_Second.f a0).bind fun t296 => (some (strOfNums (([(wrap64 (48 + (wrap64 (Int.tdiv (wrap64 (Int.tdiv t296 3600)) 10)))) % 256, (wrap64 (48 + (Int.tmod (wrap64 (Int.tdiv t296 3600)) 10))) % 256, 58, (wrap64 (48 + (wrap64 (Int.tdiv (Int.tmod (wrap64 (Int.tdiv t296 60)) 60) 10)))) % 256, (wrap64 (48 + (Int.tmod (Int.tmod (wrap64 (Int.tdiv t296 60)) 60) 10))) % 256] : List Int))))) = some r := h
 clear h
 replace H := Option.bind_eq_some_iff.mp H
 obtain ⟨t296, A20, H⟩ := H
 replace H : (some (strOfNums (([(wrap64 (48 + (wrap64 (Int.tdiv (wrap64 (Int.tdiv t296 3600)) 10)))) % 256, (wrap64 (48 + (Int.tmod (wrap64 (Int.tdiv t296 3600)) 10))) % 256, 58, (wrap64 (48 + (wrap64 (Int.tdiv (Int.tmod (wrap64 (Int.tdiv t296 60)) 60) 10)))) % 256, (wrap64 (48 + (Int.tmod (Int.tmod (wrap64 (Int.tdiv t296 60)) 60) 10))) % 256] : List Int)))) = some r := H
 have A2 := Aside0.mk A20
 clear A20
 obtain ⟨y297, hy297⟩ : ∃ y_ : List Int, y_ = (([(wrap64 (48 + (wrap64 (Int.tdiv (wrap64 (Int.tdiv t296 3600)) 10)))) % 256, (wrap64 (48 + (Int.tmod (wrap64 (Int.tdiv t296 3600)) 10))) % 256, 58, (wrap64 (48 + (wrap64 (Int.tdiv (Int.tmod (wrap64 (Int.tdiv t296 60)) 60) 10)))) % 256, (wrap64 (48 + (Int.tmod (Int.tmod (wrap64 (Int.tdiv t296 60)) 60) 10))) % 256] : List Int)) := ⟨_, rfl⟩
 replace H : (some (strOfNums y297)) = some r := by first | (rw [hy297]; with_reducible exact H) | (have H2_ := (Option.bind_some _ _).symm.trans H; rw [hy297]; with_reducible exact H2_) | (have H2_ := (Option.bind_some _ _).symm.trans H; with_reducible exact H2_) | with_reducible exact H | (rw [hy297]; exact H) | exact H
 have Ny297 := Aside0.mk hy297
 clear hy297
 obtain rfl := Option.some.inj H
 go_enter Tryd.func37, Tryd.ntmps37
 go_wp2_with (first | ((with_reducible refine gate_callee (f := 80) rfl ?_); refine goesL_ (some 7) rfl rfl Tryd.func80 (by kernel_rfl) rfl #[.int .i64 a0] rfl (by (try simp only [List.map_toArray, List.map_cons, List.map_nil]); first | done | rfl | (simp only [List.length_drop, List.length_take]; rfl)) ?_; (with_reducible refine (clock_Second.calls a0 t296 _ A2.out).mono ?_); rintro e w' ⟨rfl, ⟨nd, rfl⟩⟩; refine ⟨_, rfl, ?_⟩) | ((with_reducible refine gate_dst (N := 29) rfl ?_); refine Kd.R_lit (Kd.int .u8) _ 5 ?hg (N := 29) ?hd (xs := ([(wrap64 (48 + (wrap64 (Int.tdiv (wrap64 (Int.tdiv t296 3600)) 10)))) % 256, (wrap64 (48 + (Int.tmod (wrap64 (Int.tdiv t296 3600)) 10))) % 256, 58, (wrap64 (48 + (wrap64 (Int.tdiv (Int.tmod (wrap64 (Int.tdiv t296 60)) 60) 10)))) % 256, (wrap64 (48 + (Int.tmod (Int.tmod (wrap64 (Int.tdiv t296 60)) 60) 10))) % 256] : List Int)) (inner := [.int .u8 ((wrap64 (48 + (wrap64 (Int.tdiv (wrap64 (Int.tdiv t296 3600)) 10)))) % 256), .int .u8 ((wrap64 (48 + (Int.tmod (wrap64 (Int.tdiv t296 3600)) 10))) % 256), .int .u8 58, .int .u8 ((wrap64 (48 + (wrap64 (Int.tdiv (Int.tmod (wrap64 (Int.tdiv t296 60)) 60) 10)))) % 256), .int .u8 ((wrap64 (48 + (Int.tmod (Int.tmod (wrap64 (Int.tdiv t296 60)) 60) 10))) % 256)]) (ok := fun _ => True) (okp := fun _ => True) ?hr ?hp (fun _ hk => hk) trivial (Below.refl _ _) (Nat.le_refl _) (by simp) ?_; (case hd => rfl); (case hg => rfl); (case hr => first | (go_simp; done) | (go_simp; rfl)); (case hp => exact (Reps.one (show Kd.M (Kd.int .u8) _ _ _ ((wrap64 (48 + (wrap64 (Int.tdiv (wrap64 (Int.tdiv t296 3600)) 10)))) % 256) [.int .u8 ((wrap64 (48 + (wrap64 (Int.tdiv (wrap64 (Int.tdiv t296 3600)) 10)))) % 256)] from rfl) (Reps.one (show Kd.M (Kd.int .u8) _ _ _ ((wrap64 (48 + (Int.tmod (wrap64 (Int.tdiv t296 3600)) 10))) % 256) [.int .u8 ((wrap64 (48 + (Int.tmod (wrap64 (Int.tdiv t296 3600)) 10))) % 256)] from rfl) (Reps.one (show Kd.M (Kd.int .u8) _ _ _ 58 [.int .u8 58] from rfl) (Reps.one (show Kd.M (Kd.int .u8) _ _ _ ((wrap64 (48 + (wrap64 (Int.tdiv (Int.tmod (wrap64 (Int.tdiv t296 60)) 60) 10)))) % 256) [.int .u8 ((wrap64 (48 + (wrap64 (Int.tdiv (Int.tmod (wrap64 (Int.tdiv t296 60)) 60) 10)))) % 256)] from rfl) (Reps.one (show Kd.M (Kd.int .u8) _ _ _ ((wrap64 (48 + (Int.tmod (Int.tmod (wrap64 (Int.tdiv t296 60)) 60) 10))) % 256) [.int .u8 ((wrap64 (48 + (Int.tmod (Int.tmod (wrap64 (Int.tdiv t296 60)) 60) 10))) % 256)] from rfl) (Reps.none _ _))))))); intro v298 w3 ho4 hb hg_ hnew_; clear hg_ hnew_; (first | rw [← Ny297.out] at ho4 | (simp only [Int.reduceToNat] at ho4; rw [← Ny297.out] at ho4)); have n0_ := Aside0.mk (Kd.R_lower ho4 (below_size (by repeat (first | (with_reducible first | exact HB.out | apply below_alloc | apply pw_below_drewN | apply below_drew1) | exact HB.out)))); have n1_ := Aside0.mk (below_step (by repeat (first | (with_reducible first | exact HB.out | apply below_alloc | apply pw_below_drewN | apply below_drew1) | exact HB.out)) hb); clear HB; have HO299 := n0_; have HB := n1_; clear n0_ n1_; clear hb ho4; have hcv5 := own_string (P := Tryd.prog) Tryd.underlying38 Tryd.underlying5 Tryd.underlying9 (Kd.own_of_R HO299.out)))
 go_ret
 exact ⟨by first | rfl | (simp [errW_none, errW_some] <;> rfl) | (simp [*, errW_none, errW_some] <;> rfl), by repeat (first | (with_reducible first | exact HB.out | apply below_alloc | apply pw_below_drewN | apply below_drew1) | exact HB.out)⟩

end Go.Proofs.YtgbbgcepcnklkaaDoor.L
/- show.clean: a text on one line, byte by byte. -/
namespace Go.Proofs.YtgbbgcepcnklkaaDoor.Clean
open Go.RowKit Go.Proofs.YtgbbgcepcnklkaaDoorW.PrintWords Go.Proofs.YtgbbgcepcnklkaaDoorW.PrintLast
set_option linter.unusedVariables false
set_option linter.unusedSimpArgs false
/-- A byte on one line. -/
def cl (c : UInt8) : UInt8 := if c < 32 ∨ c = 127 then 32 else c
def clean (s : ByteArray) : ByteArray := ⟨(s.data.toList.map cl).toArray⟩
/-- The number at a place, when so many places are clean. -/
def num (s : ByteArray) (i j : Nat) : Int := if j < i then ((cl (s.data.toList.getD j 0)).toNat : Int) else ((s.data.toList.getD j 0).toNat : Int)
/-- The row, when so many places are clean. -/
def Row (s : ByteArray) (g i : Nat) (w : World) : Prop := ∃ cs : Array Value, w.heap[g]? = some (.cells cs 5 (cs.size, cs.size + 1)) ∧ s.size ≤ cs.size ∧ ∀ j, j < s.size → cs[j]? = some (.int .u8 (num s i j))
theorem row_cell {s : ByteArray} {g i : Nat} {w : World} (h : Row s g i w) (j : Nat) (hj : j < s.size) : w.cell? ⟨g, j, none⟩ = some (.int .u8 (num s i j)) ∧ w.frozen? ⟨g, j, none⟩ = false := by
 obtain ⟨cs, h1, h2, h3⟩ := h
 have := h3 j hj
 constructor
 ·simp [World.cell?, h1, this]
 ·simp [World.frozen?, h1]; omega
theorem row_new (s : ByteArray) (w : World) : Row s w.heap.size 0 (Lib.bytesWorld w 5 s) := by
 refine ⟨_, Lib.bytesWorld_at_new w 5 s, ?_, fun j hj => ?_⟩
 ·simp [Lib.bytesCells]
 ·have h := Lib.bytesWorld_cell w 5 s j hj
  simp only [World.cell?, Lib.bytesWorld_at_new] at h
  simpa [num] using h
theorem num_step (s : ByteArray) (i j : Nat) (e : j ≠ i) : num s (i + 1) j = num s i j := by
 unfold num
 have : (j < i + 1) = (j < i) := by apply propext; omega
 simp only [this]
theorem row_same {s : ByteArray} {g i : Nat} {w : World} (h : Row s g i w) (hq : num s i i = num s (i + 1) i) : Row s g (i + 1) w := by
 obtain ⟨cs, h1, h2, h3⟩ := h
 refine ⟨cs, h1, h2, fun j hj => ?_⟩
 rw [h3 j hj]
 by_cases e : j = i
 ·subst e; rw [hq]
 ·rw [num_step s i j e]
theorem row_set {s : ByteArray} {g i : Nat} {w : World} (h : Row s g i w) (hi : i < s.size) (x : Int) (hx : x = num s (i + 1) i) : Row s g (i + 1) (w.setCell ⟨g, i, none⟩ (.int .u8 x)) := by
 obtain ⟨cs, h1, h2, h3⟩ := h
 refine ⟨cs.setIfInBounds i (.int .u8 x), ?_, by simpa using h2, fun j hj => ?_⟩
 ·simp [World.setCell, Array.getElem?_modify, h1]
 ·rw [Array.getElem?_setIfInBounds]
  by_cases e : i = j
  ·subst e; rw [if_pos rfl, if_pos (by omega), hx]
  ·rw [if_neg e, h3 j hj, num_step s i j (fun h => e h.symm)]
theorem row_str (s : ByteArray) : strOfNums ((List.range s.size).map fun j => num s s.size j) = clean s := by
 have hl : s.data.toList.length = s.size := Array.length_toList
 unfold strOfNums clean
 congr 2
 apply List.ext_getElem?
 intro j
 by_cases h : j < s.size
 ·have hj : j < s.data.toList.length := by omega
  simp [h, num, List.getD, hj, List.getElem?_eq_getElem hj]
 ·have hj : s.data.toList.length ≤ j := by omega
  simp [h, List.getElem?_eq_none hj]
theorem row_conv {s : ByteArray} {g : Nat} {w : World} (h : Row s g s.size w) (cap : Nat) : (convert 38 9 (.slice (some ⟨g, 0, none⟩) s.size cap)).run Tryd.prog w = .ok (.string (clean s)) w := by
 have hcs := run_convert_bytes_arg (P := Tryd.prog) w 38 5 Tryd.underlying38 Tryd.underlying5 g 0 s.size cap ((List.range s.size).map fun j => num s s.size j) (by simp) (fun j hj => by
    have := (row_cell h j hj).1
    simp [this, List.getD, hj]) 9 Tryd.underlying9
 rw [row_str] at hcs
 exact hcs
theorem num_lt (s : ByteArray) (i : Nat) : num s i i = (s.data.toList.getD i 0).toNat := by unfold num; rw [if_neg (by omega)]
theorem num_le (s : ByteArray) (i : Nat) : num s (i + 1) i = (cl (s.data.toList.getD i 0)).toNat := by unfold num; rw [if_pos (by omega)]
theorem cl_yes (c : UInt8) (h : (c.toNat : Int) < 32 ∨ (c.toNat : Int) = 127) : ((cl c).toNat : Int) = 32 := by
 unfold cl
 rw [if_pos]
 ·rfl
 ·rcases h with h | h
  ·left; rw [UInt8.lt_iff_toNat_lt]; exact Int.ofNat_lt.mp h
  ·right; apply UInt8.toNat_inj.mp; exact Int.ofNat_inj.mp h
theorem cl_no (c : UInt8) (h : ¬ (c.toNat : Int) < 32) (h' : ¬ (c.toNat : Int) = 127) : cl c = c := by
 unfold cl
 rw [if_neg]
 rintro (e | e)
 ·rw [UInt8.lt_iff_toNat_lt] at e; exact h (Int.ofNat_lt.mpr e)
 ·subst e; exact h' rfl
set_option maxHeartbeats 4000000 in
set_option maxRecDepth 100000 in
theorem walk (s : ByteArray) (w : World) (hs : s.size ≤ 1000) : Calls Tryd.prog 38 #[.string s] w fun e w' => e = .returned (.string (clean s)) ∧ Below w.heap.size w w' := by
 go_enter Tryd.func38, Tryd.ntmps38
 have HS := Aside0.mk hs
 clear hs
 have hcv := Lib.run_convert_string_bytes (P := Tryd.prog) w 9 38 5 s Tryd.underlying9 Tryd.underlying38 Tryd.underlying5
 have hR0 := row_new s w
 have hB0 : Below w.heap.size w (Lib.bytesWorld w 5 s) := Lib.bytesWorld_below w 5 s
 go_wp2_with fail
 clear hcv
 generalize Lib.bytesWorld w 5 s = w0 at hR0 hB0 ⊢
 generalize grownCap w s.size 0 5 = cap at ⊢
 generalize hg : w.heap.size = g at hR0 ⊢
 have HR := Aside0.mk hR0
 have HB := Aside0.mk hB0
 clear hR0 hB0
 go_loopg [10] s.size (fun kq v w' => ∃ i : Nat, v = .int .i64 i ∧ Aside0 (i + kq = s.size) ∧ Aside0 (Row s g i w') ∧ Aside0 (Below w.heap.size w w'))
 case atStart => exact ⟨0, rfl, ⟨by omega⟩, HR, HB⟩
 case round =>
  clear HR HB
  obtain ⟨i, rfl, HI, HR, HB⟩ := hrel
  cases gk with
  | zero =>
   have l1 : decide ((i : Int) < (s.size : Int)) = false := decide_eq_false (by have := HI.out; omega)
   obtain rfl : i = s.size := by have := HI.out; omega
   have hcs := row_conv HR.out cap
   go_wp2_with fail
   go_ret
   exact ⟨rfl, HB.out⟩
  | succ k1 =>
   have hi : i < s.size := by have := HI.out; omega
   have hb := UInt8.toNat_lt (s.data.toList.getD i 0)
   obtain ⟨hc, hf⟩ := row_cell HR.out i hi
   rw [num_lt] at hc
   have l1 : decide ((i : Int) < (s.size : Int)) = true := decide_eq_true (by omega)
   have l2 : IntKind.i64.wrap ((i : Int) + 1) = ((i + 1 : Nat) : Int) := by have := HS.out; rw [IntWalk.i64_in _ (by omega)]; rfl
   have fin : ∀ w1 : World, Row s g (i + 1) w1 → Below w.heap.size w w1 → Aside0 (Row s g (i + 1) w1) ∧ Aside0 (Below w.heap.size w w1) := fun _ h h' => ⟨⟨h⟩, ⟨h'⟩⟩
   have yes : ((s.data.toList.getD i 0).toNat : Int) < 32 ∨ ((s.data.toList.getD i 0).toNat : Int) = 127 → Aside0 (Row s g (i + 1) (World.setCell _ ⟨g, i, none⟩ (.int .u8 32))) := fun q => ⟨row_set HR.out hi 32 (by rw [num_le, cl_yes _ q])⟩
   have no : ¬ ((s.data.toList.getD i 0).toNat : Int) < 32 → ¬ ((s.data.toList.getD i 0).toNat : Int) = 127 → Aside0 (Row s g (i + 1) _) := fun q q' => ⟨row_same HR.out (by rw [num_le, num_lt, cl_no _ q q'])⟩
   generalize ((s.data.toList.getD i 0).toNat : Int) = x at hc hb yes no
   by_cases q1 : x < 32
   ·have c1 : decide (x < 32) = true := decide_eq_true q1
    replace yes := yes (Or.inl q1)
    clear hb q1 no
    go_wp2_with fail
    go_roundg k1
    case measure => omega
    case rel => exact ⟨i + 1, rfl, ⟨by have := HI.out; omega⟩, yes, ⟨below_set HB.out (by have := hg; simp; omega)⟩⟩
   ·have c1 : decide (x < 32) = false := decide_eq_false q1
    by_cases q2 : x = 127
    ·have c2 : (x == 127) = true := beq_iff_eq.2 q2
     replace yes := yes (Or.inr q2)
     clear hb q1 q2 no
     go_wp2_with fail
     go_roundg k1
     case measure => omega
     case rel => exact ⟨i + 1, rfl, ⟨by have := HI.out; omega⟩, yes, ⟨below_set HB.out (by have := hg; simp; omega)⟩⟩
    ·have c2 : (x == 127) = false := beq_eq_false_iff_ne.2 q2
     replace no := no q1 q2
     clear hb q1 q2 yes
     go_wp2_with fail
     go_roundg k1
     case measure => omega
     case rel => exact ⟨i + 1, rfl, ⟨by have := HI.out; omega⟩, no, HB⟩
end Go.Proofs.YtgbbgcepcnklkaaDoor.Clean
-- written by a program of this session (wip/own_print.sh)
namespace Go.Proofs.YtgbbgcepcnklkaaDoor.L
open Go.RowKit Go.Proofs.YtgbbgcepcnklkaaDoorW.PrintWords Go.Proofs.YtgbbgcepcnklkaaDoorW.PrintLast Go.Proofs.YtgbbgcepcnklkaaDoorW.PrintMore
attribute [local go_sem] max2_int min2_int max_two min_two
set_option linter.unusedVariables false
set_option linter.unusedSimpArgs false
/-! ### show_clean: function 38 -/
-- GIVEN tryst/show.clean	["str"]	["str"]	0	1
-- IMPORT Clean
def show_clean.f (a0 : ByteArray) : Option ByteArray := if a0.size ≤ 1000 then some (Clean.clean a0) else none
theorem show_clean.calls (a0 : ByteArray) (r : ByteArray) (w : World) (h : show_clean.f a0 = some r) :
  Calls Tryd.prog 38 #[.string a0] w fun e w' => e = .returned (.string r) ∧ Below w.heap.size w w' := by
 unfold show_clean.f at h
 by_cases c : a0.size ≤ 1000
 ·rw [if_pos c] at h
  obtain rfl := Option.some.inj h
  exact Clean.walk a0 w c
 ·rw [if_neg c] at h; cases h

end Go.Proofs.YtgbbgcepcnklkaaDoor.L
