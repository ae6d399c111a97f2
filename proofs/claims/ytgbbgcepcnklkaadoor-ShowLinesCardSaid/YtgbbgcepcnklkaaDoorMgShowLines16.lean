/- Texts of this claim, merged: ShowDt, QrefN. -/
import Derived.Test.YtgbbgcepcnklkaaDoorMgShowLines15
import Derived.Test.YtgbbgcepcnklkaaDoorMgShowLines2
import Derived.Test.YtgbbgcepcnklkaaDoorMgShowLines1
/- show.Date for each calendar, show.written and show.Text of any date, walked; the table of powers is a premise. (Written by gen_showdt.py.) -/
namespace Go.Proofs.YtgbbgcepcnklkaaDoor.ShowDt
open Go.RowKit Go.Proofs.YtgbbgcepcnklkaaDoorW.PrintWords Go.Proofs.YtgbbgcepcnklkaaDoorW.PrintLast Go.Proofs.YtgbbgcepcnklkaaDoor.Q Go.Proofs.YtgbbgcepcnklkaaDoor.ShowAw
set_option linter.unusedVariables false
set_option linter.unusedSimpArgs false
theorem s1_ (a : UInt8) : ByteArray.size ⟨#[a]⟩ = 1 := rfl
theorem s2_ (a b : UInt8) : ByteArray.size ⟨#[a, b]⟩ = 2 := rfl

theorem ix0 (w : World) : (Instr.index 46 (.agg #[.func (.func 18) #[] #[], .func (.func 19) #[] #[], .func (.func 20) #[] #[], .func (.func 21) #[] #[], .func (.func 22) #[] #[], .func (.func 23) #[] #[], .func (.func 24) #[] #[]]) (.int .i64 0)).run Tryd.prog w = .ok (.func (.func 18) #[] #[]) w := by kernel_rfl
attribute [local go_sem] ix0
set_option maxHeartbeats 4000000 in
set_option maxRecDepth 100000 in
theorem walk0 (a y m d e0 : Int) (w : World) (h : rata_Date.f FunZ.K a = some (y, m, d, e0)) : Calls Tryd.prog 7 #[.int .i64 0, .int .i64 a] w fun e w' => e = .returned (.tuple #[.agg #[.int .i64 y, .int .i64 m, .int .i64 d], .int .i64 e0]) ∧ Below w.heap.size w w' := by
 have H := Lib.hid h
 clear h
 go_enter Tryd.func7, Tryd.ntmps7
 go_wp2_with fail
 refine (show_is.calls 0 true _ (by decide)).mono ?_
 rintro e w1 ⟨rfl, ⟨nd, rfl⟩⟩
 go_wp2_with fail
 refine (rata_Date.calls FunZ.K a _ _ _ _ _ H.out).mono ?_
 rintro e w2 ⟨rfl, hB0⟩
 have hB := (by first | exact hB0 | exact hB0.below : Below _ _ w2)
 have B : Below w.heap.size w w2 := below_then (by repeat (with_reducible first | exact Below.refl _ _ | apply below_drew | apply pw_below_drewN | apply below_alloc)) (by simp) hB
 have hk : w2.heap[w.heap.size]? = some (.cells #[.int .i64 0, .int .i64 0, .int .i64 0] 24 (0, 0)) := (hB.block _ (by simp)).trans (by first | exact blk_drewN (blk_new w _) nd | exact blk_new w _)
 have c0 : w2.cell? ⟨w.heap.size, 0, none⟩ = some (.int .i64 0) := (blk_cell hk 0).trans rfl
 have c1 : w2.cell? ⟨w.heap.size, 1, none⟩ = some (.int .i64 0) := (blk_cell hk 1).trans rfl
 have c2 : w2.cell? ⟨w.heap.size, 2, none⟩ = some (.int .i64 0) := (blk_cell hk 2).trans rfl
 have f0 := blk_frozen hk 0; have f1 := blk_frozen hk 1; have f2 := blk_frozen hk 2
 clear hB hB0 hk
 go_wp2_with fail
 refine bodyPost_ret (v := .tuple #[.agg #[.int .i64 y, .int .i64 m, .int .i64 d], .int .i64 e0]) (by simp [results, Tryd.results7, go_sem, c0, c1, c2, f0, f1, f2]) rfl ⟨rfl, ?_⟩
 repeat (with_reducible first | exact B | apply pw_below_drewN | apply below_drew | refine below_set ?_ (by simp; done))
theorem ix1 (w : World) : (Instr.index 46 (.agg #[.func (.func 18) #[] #[], .func (.func 19) #[] #[], .func (.func 20) #[] #[], .func (.func 21) #[] #[], .func (.func 22) #[] #[], .func (.func 23) #[] #[], .func (.func 24) #[] #[]]) (.int .i64 1)).run Tryd.prog w = .ok (.func (.func 19) #[] #[]) w := by kernel_rfl
attribute [local go_sem] ix1
set_option maxHeartbeats 4000000 in
set_option maxRecDepth 100000 in
theorem walk1 (a y m d e0 : Int) (w : World) (h : julian_Julian.f FunZ.K a = some (y, m, d, e0)) : Calls Tryd.prog 7 #[.int .i64 1, .int .i64 a] w fun e w' => e = .returned (.tuple #[.agg #[.int .i64 y, .int .i64 m, .int .i64 d], .int .i64 e0]) ∧ Below w.heap.size w w' := by
 have H := Lib.hid h
 clear h
 go_enter Tryd.func7, Tryd.ntmps7
 go_wp2_with fail
 refine (show_is.calls 1 true _ (by decide)).mono ?_
 rintro e w1 ⟨rfl, ⟨nd, rfl⟩⟩
 go_wp2_with fail
 refine (julian_Julian.calls FunZ.K a _ _ _ _ _ H.out).mono ?_
 rintro e w2 ⟨rfl, hB0⟩
 have hB := (by first | exact hB0 | exact hB0.below : Below _ _ w2)
 have B : Below w.heap.size w w2 := below_then (by repeat (with_reducible first | exact Below.refl _ _ | apply below_drew | apply pw_below_drewN | apply below_alloc)) (by simp) hB
 have hk : w2.heap[w.heap.size]? = some (.cells #[.int .i64 0, .int .i64 0, .int .i64 0] 24 (0, 0)) := (hB.block _ (by simp)).trans (by first | exact blk_drewN (blk_new w _) nd | exact blk_new w _)
 have c0 : w2.cell? ⟨w.heap.size, 0, none⟩ = some (.int .i64 0) := (blk_cell hk 0).trans rfl
 have c1 : w2.cell? ⟨w.heap.size, 1, none⟩ = some (.int .i64 0) := (blk_cell hk 1).trans rfl
 have c2 : w2.cell? ⟨w.heap.size, 2, none⟩ = some (.int .i64 0) := (blk_cell hk 2).trans rfl
 have f0 := blk_frozen hk 0; have f1 := blk_frozen hk 1; have f2 := blk_frozen hk 2
 clear hB hB0 hk
 go_wp2_with fail
 refine bodyPost_ret (v := .tuple #[.agg #[.int .i64 y, .int .i64 m, .int .i64 d], .int .i64 e0]) (by simp [results, Tryd.results7, go_sem, c0, c1, c2, f0, f1, f2]) rfl ⟨rfl, ?_⟩
 repeat (with_reducible first | exact B | apply pw_below_drewN | apply below_drew | refine below_set ?_ (by simp; done))
theorem ix2 (w : World) : (Instr.index 46 (.agg #[.func (.func 18) #[] #[], .func (.func 19) #[] #[], .func (.func 20) #[] #[], .func (.func 21) #[] #[], .func (.func 22) #[] #[], .func (.func 23) #[] #[], .func (.func 24) #[] #[]]) (.int .i64 2)).run Tryd.prog w = .ok (.func (.func 20) #[] #[]) w := by kernel_rfl
attribute [local go_sem] ix2
set_option maxHeartbeats 4000000 in
set_option maxRecDepth 100000 in
theorem walk2 (a y m d e0 : Int) (w : World) (h : iso_ISO.f FunZ.K a = some (y, m, d, e0)) : Calls Tryd.prog 7 #[.int .i64 2, .int .i64 a] w fun e w' => e = .returned (.tuple #[.agg #[.int .i64 y, .int .i64 m, .int .i64 d], .int .i64 e0]) ∧ Below w.heap.size w w' := by
 have H := Lib.hid h
 clear h
 go_enter Tryd.func7, Tryd.ntmps7
 go_wp2_with fail
 refine (show_is.calls 2 true _ (by decide)).mono ?_
 rintro e w1 ⟨rfl, ⟨nd, rfl⟩⟩
 go_wp2_with fail
 refine (iso_ISO.calls FunZ.K a _ _ _ _ _ H.out).mono ?_
 rintro e w2 ⟨rfl, hB0⟩
 have hB := (by first | exact hB0 | exact hB0.below : Below _ _ w2)
 have B : Below w.heap.size w w2 := below_then (by repeat (with_reducible first | exact Below.refl _ _ | apply below_drew | apply pw_below_drewN | apply below_alloc)) (by simp) hB
 have hk : w2.heap[w.heap.size]? = some (.cells #[.int .i64 0, .int .i64 0, .int .i64 0] 24 (0, 0)) := (hB.block _ (by simp)).trans (by first | exact blk_drewN (blk_new w _) nd | exact blk_new w _)
 have c0 : w2.cell? ⟨w.heap.size, 0, none⟩ = some (.int .i64 0) := (blk_cell hk 0).trans rfl
 have c1 : w2.cell? ⟨w.heap.size, 1, none⟩ = some (.int .i64 0) := (blk_cell hk 1).trans rfl
 have c2 : w2.cell? ⟨w.heap.size, 2, none⟩ = some (.int .i64 0) := (blk_cell hk 2).trans rfl
 have f0 := blk_frozen hk 0; have f1 := blk_frozen hk 1; have f2 := blk_frozen hk 2
 clear hB hB0 hk
 go_wp2_with fail
 refine bodyPost_ret (v := .tuple #[.agg #[.int .i64 y, .int .i64 m, .int .i64 d], .int .i64 e0]) (by simp [results, Tryd.results7, go_sem, c0, c1, c2, f0, f1, f2]) rfl ⟨rfl, ?_⟩
 repeat (with_reducible first | exact B | apply pw_below_drewN | apply below_drew | refine below_set ?_ (by simp; done))
theorem ix3 (w : World) : (Instr.index 46 (.agg #[.func (.func 18) #[] #[], .func (.func 19) #[] #[], .func (.func 20) #[] #[], .func (.func 21) #[] #[], .func (.func 22) #[] #[], .func (.func 23) #[] #[], .func (.func 24) #[] #[]]) (.int .i64 3)).run Tryd.prog w = .ok (.func (.func 21) #[] #[]) w := by kernel_rfl
attribute [local go_sem] ix3
set_option maxHeartbeats 4000000 in
set_option maxRecDepth 100000 in
theorem walk3 (a y m d e0 : Int) (w : World) (h : hebrew_Hebrew.f FunZ.K a = some (y, m, d, e0)) : Calls Tryd.prog 7 #[.int .i64 3, .int .i64 a] w fun e w' => e = .returned (.tuple #[.agg #[.int .i64 y, .int .i64 m, .int .i64 d], .int .i64 e0]) ∧ Below w.heap.size w w' := by
 have H := Lib.hid h
 clear h
 go_enter Tryd.func7, Tryd.ntmps7
 go_wp2_with fail
 refine (show_is.calls 3 true _ (by decide)).mono ?_
 rintro e w1 ⟨rfl, ⟨nd, rfl⟩⟩
 go_wp2_with fail
 refine (hebrew_Hebrew.calls FunZ.K a _ _ _ _ _ H.out).mono ?_
 rintro e w2 ⟨rfl, hB0⟩
 have hB := (by first | exact hB0 | exact hB0.below : Below _ _ w2)
 have B : Below w.heap.size w w2 := below_then (by repeat (with_reducible first | exact Below.refl _ _ | apply below_drew | apply pw_below_drewN | apply below_alloc)) (by simp) hB
 have hk : w2.heap[w.heap.size]? = some (.cells #[.int .i64 0, .int .i64 0, .int .i64 0] 24 (0, 0)) := (hB.block _ (by simp)).trans (by first | exact blk_drewN (blk_new w _) nd | exact blk_new w _)
 have c0 : w2.cell? ⟨w.heap.size, 0, none⟩ = some (.int .i64 0) := (blk_cell hk 0).trans rfl
 have c1 : w2.cell? ⟨w.heap.size, 1, none⟩ = some (.int .i64 0) := (blk_cell hk 1).trans rfl
 have c2 : w2.cell? ⟨w.heap.size, 2, none⟩ = some (.int .i64 0) := (blk_cell hk 2).trans rfl
 have f0 := blk_frozen hk 0; have f1 := blk_frozen hk 1; have f2 := blk_frozen hk 2
 clear hB hB0 hk
 go_wp2_with fail
 refine bodyPost_ret (v := .tuple #[.agg #[.int .i64 y, .int .i64 m, .int .i64 d], .int .i64 e0]) (by simp [results, Tryd.results7, go_sem, c0, c1, c2, f0, f1, f2]) rfl ⟨rfl, ?_⟩
 repeat (with_reducible first | exact B | apply pw_below_drewN | apply below_drew | refine below_set ?_ (by simp; done))
theorem ix4 (w : World) : (Instr.index 46 (.agg #[.func (.func 18) #[] #[], .func (.func 19) #[] #[], .func (.func 20) #[] #[], .func (.func 21) #[] #[], .func (.func 22) #[] #[], .func (.func 23) #[] #[], .func (.func 24) #[] #[]]) (.int .i64 4)).run Tryd.prog w = .ok (.func (.func 22) #[] #[]) w := by kernel_rfl
attribute [local go_sem] ix4
set_option maxHeartbeats 4000000 in
set_option maxRecDepth 100000 in
theorem walk4 (a y m d e0 : Int) (w : World) (h : islam_Islamic.f FunZ.K a = some (y, m, d, e0)) : Calls Tryd.prog 7 #[.int .i64 4, .int .i64 a] w fun e w' => e = .returned (.tuple #[.agg #[.int .i64 y, .int .i64 m, .int .i64 d], .int .i64 e0]) ∧ Below w.heap.size w w' := by
 have H := Lib.hid h
 clear h
 go_enter Tryd.func7, Tryd.ntmps7
 go_wp2_with fail
 refine (show_is.calls 4 true _ (by decide)).mono ?_
 rintro e w1 ⟨rfl, ⟨nd, rfl⟩⟩
 go_wp2_with fail
 refine (islam_Islamic.calls FunZ.K a _ _ _ _ _ H.out).mono ?_
 rintro e w2 ⟨rfl, hB0⟩
 have hB := (by first | exact hB0 | exact hB0.below : Below _ _ w2)
 have B : Below w.heap.size w w2 := below_then (by repeat (with_reducible first | exact Below.refl _ _ | apply below_drew | apply pw_below_drewN | apply below_alloc)) (by simp) hB
 have hk : w2.heap[w.heap.size]? = some (.cells #[.int .i64 0, .int .i64 0, .int .i64 0] 24 (0, 0)) := (hB.block _ (by simp)).trans (by first | exact blk_drewN (blk_new w _) nd | exact blk_new w _)
 have c0 : w2.cell? ⟨w.heap.size, 0, none⟩ = some (.int .i64 0) := (blk_cell hk 0).trans rfl
 have c1 : w2.cell? ⟨w.heap.size, 1, none⟩ = some (.int .i64 0) := (blk_cell hk 1).trans rfl
 have c2 : w2.cell? ⟨w.heap.size, 2, none⟩ = some (.int .i64 0) := (blk_cell hk 2).trans rfl
 have f0 := blk_frozen hk 0; have f1 := blk_frozen hk 1; have f2 := blk_frozen hk 2
 clear hB hB0 hk
 go_wp2_with fail
 refine bodyPost_ret (v := .tuple #[.agg #[.int .i64 y, .int .i64 m, .int .i64 d], .int .i64 e0]) (by simp [results, Tryd.results7, go_sem, c0, c1, c2, f0, f1, f2]) rfl ⟨rfl, ?_⟩
 repeat (with_reducible first | exact B | apply pw_below_drewN | apply below_drew | refine below_set ?_ (by simp; done))
theorem ix5 (w : World) : (Instr.index 46 (.agg #[.func (.func 18) #[] #[], .func (.func 19) #[] #[], .func (.func 20) #[] #[], .func (.func 21) #[] #[], .func (.func 22) #[] #[], .func (.func 23) #[] #[], .func (.func 24) #[] #[]]) (.int .i64 5)).run Tryd.prog w = .ok (.func (.func 23) #[] #[]) w := by kernel_rfl
attribute [local go_sem] ix5
set_option maxHeartbeats 4000000 in
set_option maxRecDepth 100000 in
theorem walk5 (a y m d e0 : Int) (w : World) (h : persian_Persian.f FunZ.K a = some (y, m, d, e0)) : Calls Tryd.prog 7 #[.int .i64 5, .int .i64 a] w fun e w' => e = .returned (.tuple #[.agg #[.int .i64 y, .int .i64 m, .int .i64 d], .int .i64 e0]) ∧ Below w.heap.size w w' := by
 have H := Lib.hid h
 clear h
 go_enter Tryd.func7, Tryd.ntmps7
 go_wp2_with fail
 refine (show_is.calls 5 true _ (by decide)).mono ?_
 rintro e w1 ⟨rfl, ⟨nd, rfl⟩⟩
 go_wp2_with fail
 refine (persian_Persian.calls FunZ.K a _ _ _ _ _ H.out).mono ?_
 rintro e w2 ⟨rfl, hB0⟩
 have hB := (by first | exact hB0 | exact hB0.below : Below _ _ w2)
 have B : Below w.heap.size w w2 := below_then (by repeat (with_reducible first | exact Below.refl _ _ | apply below_drew | apply pw_below_drewN | apply below_alloc)) (by simp) hB
 have hk : w2.heap[w.heap.size]? = some (.cells #[.int .i64 0, .int .i64 0, .int .i64 0] 24 (0, 0)) := (hB.block _ (by simp)).trans (by first | exact blk_drewN (blk_new w _) nd | exact blk_new w _)
 have c0 : w2.cell? ⟨w.heap.size, 0, none⟩ = some (.int .i64 0) := (blk_cell hk 0).trans rfl
 have c1 : w2.cell? ⟨w.heap.size, 1, none⟩ = some (.int .i64 0) := (blk_cell hk 1).trans rfl
 have c2 : w2.cell? ⟨w.heap.size, 2, none⟩ = some (.int .i64 0) := (blk_cell hk 2).trans rfl
 have f0 := blk_frozen hk 0; have f1 := blk_frozen hk 1; have f2 := blk_frozen hk 2
 clear hB hB0 hk
 go_wp2_with fail
 refine bodyPost_ret (v := .tuple #[.agg #[.int .i64 y, .int .i64 m, .int .i64 d], .int .i64 e0]) (by simp [results, Tryd.results7, go_sem, c0, c1, c2, f0, f1, f2]) rfl ⟨rfl, ?_⟩
 repeat (with_reducible first | exact B | apply pw_below_drewN | apply below_drew | refine below_set ?_ (by simp; done))
theorem ix6 (w : World) : (Instr.index 46 (.agg #[.func (.func 18) #[] #[], .func (.func 19) #[] #[], .func (.func 20) #[] #[], .func (.func 21) #[] #[], .func (.func 22) #[] #[], .func (.func 23) #[] #[], .func (.func 24) #[] #[]]) (.int .i64 6)).run Tryd.prog w = .ok (.func (.func 24) #[] #[]) w := by kernel_rfl
attribute [local go_sem] ix6
set_option maxHeartbeats 4000000 in
set_option maxRecDepth 100000 in
theorem walk6 (a y m d e0 : Int) (w : World) (h : julian_Coptic.f a = some (y, m, d, e0)) : Calls Tryd.prog 7 #[.int .i64 6, .int .i64 a] w fun e w' => e = .returned (.tuple #[.agg #[.int .i64 y, .int .i64 m, .int .i64 d], .int .i64 e0]) ∧ Below w.heap.size w w' := by
 have H := Lib.hid h
 clear h
 go_enter Tryd.func7, Tryd.ntmps7
 go_wp2_with fail
 refine (show_is.calls 6 true _ (by decide)).mono ?_
 rintro e w1 ⟨rfl, ⟨nd, rfl⟩⟩
 go_wp2_with fail
 refine (julian_Coptic.calls a _ _ _ _ _ H.out).mono ?_
 rintro e w2 ⟨rfl, hB0⟩
 have hB := (by first | exact hB0 | exact hB0.below : Below _ _ w2)
 have B : Below w.heap.size w w2 := below_then (by repeat (with_reducible first | exact Below.refl _ _ | apply below_drew | apply pw_below_drewN | apply below_alloc)) (by simp) hB
 have hk : w2.heap[w.heap.size]? = some (.cells #[.int .i64 0, .int .i64 0, .int .i64 0] 24 (0, 0)) := (hB.block _ (by simp)).trans (by first | exact blk_drewN (blk_new w _) nd | exact blk_new w _)
 have c0 : w2.cell? ⟨w.heap.size, 0, none⟩ = some (.int .i64 0) := (blk_cell hk 0).trans rfl
 have c1 : w2.cell? ⟨w.heap.size, 1, none⟩ = some (.int .i64 0) := (blk_cell hk 1).trans rfl
 have c2 : w2.cell? ⟨w.heap.size, 2, none⟩ = some (.int .i64 0) := (blk_cell hk 2).trans rfl
 have f0 := blk_frozen hk 0; have f1 := blk_frozen hk 1; have f2 := blk_frozen hk 2
 clear hB hB0 hk
 go_wp2_with fail
 refine bodyPost_ret (v := .tuple #[.agg #[.int .i64 y, .int .i64 m, .int .i64 d], .int .i64 e0]) (by simp [results, Tryd.results7, go_sem, c0, c1, c2, f0, f1, f2]) rfl ⟨rfl, ?_⟩
 repeat (with_reducible first | exact B | apply pw_below_drewN | apply below_drew | refine below_set ?_ (by simp; done))
/-- show.Date tells the reference's date. -/
theorem date (c a : Int) (hc : 0 ≤ c) (hc' : c ≤ 6) : ∃ y m d e0, trystref01_Date.f FunZ.K c a = some (y, m, d, e0) ∧ -20000 ≤ y ∧ y ≤ 20000 ∧ (e0 = 0 ∨ e0 = 2) ∧ (e0 = 0 → 1 ≤ m ∧ m ≤ 60 ∧ 1 ≤ d ∧ d ≤ 60) ∧
  ∀ w : World, Calls Tryd.prog 7 #[.int .i64 c, .int .i64 a] w fun e w' => e = .returned (.tuple #[.agg #[.int .i64 y, .int .i64 m, .int .i64 d], .int .i64 e0]) ∧ Below w.heap.size w w' := by
 rcases (by omega : c = 0 ∨ c = 1 ∨ c = 2 ∨ c = 3 ∨ c = 4 ∨ c = 5 ∨ c = 6) with rfl | rfl | rfl | rfl | rfl | rfl | rfl
 ·obtain ⟨y, m, d, e, h1, h2, h3, h4, h5, h6⟩ := FunZ.date0 a
  exact ⟨y, m, d, e, h2, h3, h4, h5, h6, fun w => walk0 a y m d e w h1⟩
 ·obtain ⟨y, m, d, e, h1, h2, h3, h4, h5, h6⟩ := FunZ.date1 a
  exact ⟨y, m, d, e, h2, h3, h4, h5, h6, fun w => walk1 a y m d e w h1⟩
 ·obtain ⟨y, m, d, e, h1, h2, h3, h4, h5, h6⟩ := FunZ.date2 a
  exact ⟨y, m, d, e, h2, h3, h4, h5, h6, fun w => walk2 a y m d e w h1⟩
 ·obtain ⟨y, m, d, e, h1, h2, h3, h4, h5, h6⟩ := FunZ.date3 a
  exact ⟨y, m, d, e, h2, h3, h4, h5, h6, fun w => walk3 a y m d e w h1⟩
 ·obtain ⟨y, m, d, e, h1, h2, h3, h4, h5, h6⟩ := FunZ.date4 a
  exact ⟨y, m, d, e, h2, h3, h4, h5, h6, fun w => walk4 a y m d e w h1⟩
 ·obtain ⟨y, m, d, e, h1, h2, h3, h4, h5, h6⟩ := FunZ.date5 a
  exact ⟨y, m, d, e, h2, h3, h4, h5, h6, fun w => walk5 a y m d e w h1⟩
 ·obtain ⟨y, m, d, e, h1, h2, h3, h4, h5, h6⟩ := FunZ.date6 a
  exact ⟨y, m, d, e, h2, h3, h4, h5, h6, fun w => walk6 a y m d e w h1⟩
def T4 : Bool × List (List Nat × List Nat) := (true, [([], []), ([0], [0]), ([1], [1]), ([], []), ([2, 3], [2, 3]), ([], []), ([5], [5]), ([6, 2], [6]), ([4, 7], [4, 7]), ([8], [8]), ([], []), ([10], [10]), ([11, 7], [11]), ([9, 12], [9, 12]), ([13, 12, 0, 1, 2, 3, 4, 5, 6, 7, 8, 9, 10, 11, 12, 13], [13])])
def B4 : List Nat := [0, 1, 3, 0, 15, 0, 32, 103, 255, 511, 0, 1024, 3303, 8191, 16383]
theorem tab4 : rtab .any (opsOf Tryd.f25 4) = T4 := by kernel_rfl
theorem bits4 : waitsOk T4.2 B4 = true := by kernel_rfl

set_option maxHeartbeats 4000000 in
set_option maxRecDepth 100000 in
theorem written2 (c y m d : Int) (w : World) (ht : Tab w) (hc : c = 2) (y1 : -20000 ≤ y) (y2 : y ≤ 20000) (m1 : 1 ≤ m) (m2 : m ≤ 60) (d1 : 1 ≤ d) (d2 : d ≤ 60) (hz : ∀ n : Int, -20000 ≤ n → n ≤ 20000 → (⟨(Lib.itoa n).toArray⟩ : ByteArray).size ≤ 100) :
  Calls Tryd.prog 25 #[.int .i64 c, .agg #[.int .i64 y, .int .i64 m, .int .i64 d]] w fun e w' => e = .returned (.string ((⟨(Lib.itoa y).toArray⟩ : ByteArray) ++ ⟨#[45, 87]⟩ ++ ⟨(Lib.itoa m).toArray⟩ ++ ⟨#[45]⟩ ++ ⟨(Lib.itoa d).toArray⟩)) ∧ Below w.heap.size w w' := by
 have T := Lib.hid ht
 have Y := Lib.hid (And.intro y1 y2)
 have zy := hz y y1 y2
 have zm := hz m (by omega) (by omega)
 have zd := hz d (by omega) (by omega)
 have M := Lib.hid (And.intro m1 m2)
 have D := Lib.hid (And.intro d1 d2)
 have c1 : (c == 2) = true := beq_iff_eq.2 hc
 clear ht hc y1 y2 m1 m2 d1 d2 hz
 generalize hsy : (⟨(Lib.itoa y).toArray⟩ : ByteArray) = sy at zy ⊢
 generalize hsm : (⟨(Lib.itoa m).toArray⟩ : ByteArray) = sm at zm ⊢
 generalize hsd : (⟨(Lib.itoa d).toArray⟩ : ByteArray) = sd at zd ⊢
 have SY := Lib.hid hsy
 have SM := Lib.hid hsm
 have SD := Lib.hid hsd
 clear hsy hsm hsd
 go_enter Tryd.func25, Tryd.ntmps25
 go_wp2_with fail
 refine start_ (n := 15) (S := fun w' => w'.cell? ⟨w.heap.size, 0, none⟩ = some (.int .i64 y) ∧ w'.cell? ⟨w.heap.size, 1, none⟩ = some (.int .i64 m) ∧ w'.cell? ⟨w.heap.size, 2, none⟩ = some (.int .i64 d)) (ds := []) #[false, false, false, false, false, false, false, false, false, false, false, false, false, false, false] (by kernel_rfl) rfl rfl ⟨by go_simp, by go_simp, by go_simp⟩ (fun hHeld => ?_)
 refine with_tabW tab4 bits4 (fun HT_ HW_ => ?_)
 have B : Below w.heap.size w _ := (by repeat (with_reducible first | exact Below.refl _ _ | apply below_drew | apply pw_below_drewN | apply below_alloc) : Below w.heap.size w ((w.alloc (.cells #[.int .i64 y, .int .i64 m, .int .i64 d] 24 (0, 0))).drew))
 generalize (w.alloc (.cells #[.int .i64 y, .int .i64 m, .int .i64 d] 24 (0, 0))).drew = w1 at B hHeld ⊢
 replace B := Lib.hid B
 refine pure_ (i := 0) (N := some 8) (v := ?_) (a' := ?_) #[true, false, false, false, false, false, false, false, false, false, false, false, false, false, false] rfl rfl (any_of HT_.out (by kernel_rfl)) (fun _ _ _ h => h) (Or.inl ⟨by rfl, ?_⟩) ?_ ?_
 rotate_left
 ·intro w'
  go_simp
  with_reducible rfl
 rotate_left
 ·simp only [Act.put, List.setIfInBounds_toArray, List.set_cons_zero, List.set_cons_succ, i64_w, i32_w]
  rfl
 refine pure_ (i := 5) (N := some 13) (v := ?_) (a' := ?_) #[true, false, false, false, false, true, false, false, false, false, false, false, false, false, false] rfl rfl (any_of HT_.out (by kernel_rfl)) (fun _ _ _ h => h) (Or.inl ⟨by rfl, ?_⟩) ?_ ?_
 rotate_left
 ·intro w'
  go_simp
  with_reducible rfl
 rotate_left
 ·simp only [Act.put, List.setIfInBounds_toArray, List.set_cons_zero, List.set_cons_succ, i64_w, i32_w]
  rfl
 refine pure_ (i := 10) (N := some 18) (v := ?_) (a' := ?_) #[true, false, false, false, false, true, false, false, false, false, true, false, false, false, false] rfl rfl (any_of HT_.out (by kernel_rfl)) (fun _ _ _ h => h) (Or.inl ⟨by rfl, ?_⟩) ?_ ?_
 rotate_left
 ·intro w'
  go_simp
  with_reducible rfl
 rotate_left
 ·simp only [Act.put, List.setIfInBounds_toArray, List.set_cons_zero, List.set_cons_succ, i64_w, i32_w]
  rfl
 refine pure_ (i := 3) (N := some 11) (v := ?_) (a' := ?_) #[true, false, false, true, false, true, false, false, false, false, true, false, false, false, false] rfl rfl (any_of HT_.out (by kernel_rfl)) (fun _ _ _ h => h) (Or.inl ⟨by rfl, ?_⟩) ?_ ?_
 rotate_left
 ·intro w'
  go_simp
  with_reducible rfl
 rotate_left
 ·simp only [Act.put, List.setIfInBounds_toArray, List.set_cons_zero, List.set_cons_succ, i64_w, i32_w]
  rfl
 refine take_ (i := 1) (N := some 9) (v := ?_) (a' := ?_) #[true, true, false, true, false, true, false, false, false, false, true, false, false, false, false] rfl rfl (take_ofW HT_.out HW_.out (by kernel_rfl)) (fun _ _ _ h => h) (Or.inl ⟨by rfl, ?_⟩) hHeld ?_ ?_
 rotate_left
 ·rintro w' ⟨s0, s1, s2⟩
  go_simp
  with_reducible rfl
 rotate_left
 ·simp only [Act.put, List.setIfInBounds_toArray, List.set_cons_zero, List.set_cons_succ, i64_w, i32_w]
  rfl
 refine take_ (i := 6) (N := some 14) (v := ?_) (a' := ?_) #[true, true, false, true, false, true, true, false, false, false, true, false, false, false, false] rfl rfl (take_ofW HT_.out HW_.out (by kernel_rfl)) (fun _ _ _ h => h) (Or.inl ⟨by rfl, ?_⟩) hHeld ?_ ?_
 rotate_left
 ·rintro w' ⟨s0, s1, s2⟩
  go_simp
  with_reducible rfl
 rotate_left
 ·simp only [Act.put, List.setIfInBounds_toArray, List.set_cons_zero, List.set_cons_succ, i64_w, i32_w]
  rfl
 refine take_ (i := 11) (N := some 19) (v := ?_) (a' := ?_) #[true, true, false, true, false, true, true, false, false, false, true, true, false, false, false] rfl rfl (take_ofW HT_.out HW_.out (by kernel_rfl)) (fun _ _ _ h => h) (Or.inl ⟨by rfl, ?_⟩) hHeld ?_ ?_
 rotate_left
 ·rintro w' ⟨s0, s1, s2⟩
  go_simp
  with_reducible rfl
 rotate_left
 ·simp only [Act.put, List.setIfInBounds_toArray, List.set_cons_zero, List.set_cons_succ, i64_w, i32_w]
  rfl
 refine one_ (i := 2) (N := some 10) #[true, true, true, true, false, true, true, false, false, false, true, true, false, false, false] rfl rfl (one_of HT_.out (by kernel_rfl)) (by decide) (fun K hK => ?_)
 refine goes_ Tryd.func68 (by kernel_rfl) rfl #[.int .i64 y] (by rfl) rfl rfl (by (try simp only [List.map_toArray, List.map_cons, List.map_nil]); first | done | rfl) ?_
 refine (itoa y sy _ (by have := Y.out; omega) (by have := Y.out; omega) SY.out (tab_below T.out B.out)).mono ?_
 rintro e w2 ⟨rfl, hb⟩
 refine ⟨_, rfl, ?_⟩
 replace B := Lib.hid (below_then B.out B.out.size hb)
 refine hK.out _ _ ⟨pw_cell_below hb hHeld.1, pw_cell_below hb hHeld.2.1, pw_cell_below hb hHeld.2.2⟩ (fun hHeld => ?_)
 clear hK K hb
 refine norm_ (a' := ?_) ?_ ?_
 rotate_left
 ·show Act.put _ (some 10) _ = _
  simp only [Act.put, List.setIfInBounds_toArray, List.set_cons_zero, List.set_cons_succ, i64_w, i32_w]
  rfl
 refine pure_ (i := 4) (N := some 12) (v := ?_) (a' := ?_) #[true, true, true, true, true, true, true, false, false, false, true, true, false, false, false] rfl rfl (any_of HT_.out (by kernel_rfl)) (fun _ _ _ h => h) (Or.inl ⟨by rfl, ?_⟩) ?_ ?_
 rotate_left
 ·intro w'
  go_simp
  first | (with_reducible rfl) | (rw [if_neg (by first | omega | (simp only [ByteArray.size_append, s1_, s2_]; omega) | (simp [ByteArray.size_append, s1_, s2_]; omega))])
 rotate_left
 ·simp only [Act.put, List.setIfInBounds_toArray, List.set_cons_zero, List.set_cons_succ, i64_w, i32_w]
  rfl
 refine one_ (i := 7) (N := some 15) #[true, true, true, true, true, true, true, true, false, false, true, true, false, false, false] rfl rfl (one_of HT_.out (by kernel_rfl)) (by decide) (fun K hK => ?_)
 refine goes_ Tryd.func68 (by kernel_rfl) rfl #[.int .i64 m] (by rfl) rfl rfl (by (try simp only [List.map_toArray, List.map_cons, List.map_nil]); first | done | rfl) ?_
 refine (itoa m sm _ (by have := M.out; omega) (by have := M.out; omega) SM.out (tab_below T.out B.out)).mono ?_
 rintro e w3 ⟨rfl, hb⟩
 refine ⟨_, rfl, ?_⟩
 replace B := Lib.hid (below_then B.out B.out.size hb)
 refine hK.out _ _ ⟨pw_cell_below hb hHeld.1, pw_cell_below hb hHeld.2.1, pw_cell_below hb hHeld.2.2⟩ (fun hHeld => ?_)
 clear hK K hb
 refine norm_ (a' := ?_) ?_ ?_
 rotate_left
 ·show Act.put _ (some 15) _ = _
  simp only [Act.put, List.setIfInBounds_toArray, List.set_cons_zero, List.set_cons_succ, i64_w, i32_w]
  rfl
 refine pure_ (i := 8) (N := some 16) (v := ?_) (a' := ?_) #[true, true, true, true, true, true, true, true, true, false, true, true, false, false, false] rfl rfl (any_of HT_.out (by kernel_rfl)) (fun _ _ _ h => h) (Or.inl ⟨by rfl, ?_⟩) ?_ ?_
 rotate_left
 ·intro w'
  go_simp
  first | (with_reducible rfl) | (rw [if_neg (by first | omega | (simp only [ByteArray.size_append, s1_, s2_]; omega) | (simp [ByteArray.size_append, s1_, s2_]; omega))])
 rotate_left
 ·simp only [Act.put, List.setIfInBounds_toArray, List.set_cons_zero, List.set_cons_succ, i64_w, i32_w]
  rfl
 refine pure_ (i := 9) (N := some 17) (v := ?_) (a' := ?_) #[true, true, true, true, true, true, true, true, true, true, true, true, false, false, false] rfl rfl (any_of HT_.out (by kernel_rfl)) (fun _ _ _ h => h) (Or.inl ⟨by rfl, ?_⟩) ?_ ?_
 rotate_left
 ·intro w'
  go_simp
  first | (with_reducible rfl) | (rw [if_neg (by first | omega | (simp only [ByteArray.size_append, s1_, s2_]; omega) | (simp [ByteArray.size_append, s1_, s2_]; omega))])
 rotate_left
 ·simp only [Act.put, List.setIfInBounds_toArray, List.set_cons_zero, List.set_cons_succ, i64_w, i32_w]
  rfl
 refine one_ (i := 12) (N := some 20) #[true, true, true, true, true, true, true, true, true, true, true, true, true, false, false] rfl rfl (one_of HT_.out (by kernel_rfl)) (by decide) (fun K hK => ?_)
 refine goes_ Tryd.func68 (by kernel_rfl) rfl #[.int .i64 d] (by rfl) rfl rfl (by (try simp only [List.map_toArray, List.map_cons, List.map_nil]); first | done | rfl) ?_
 refine (itoa d sd _ (by have := D.out; omega) (by have := D.out; omega) SD.out (tab_below T.out B.out)).mono ?_
 rintro e w4 ⟨rfl, hb⟩
 refine ⟨_, rfl, ?_⟩
 replace B := Lib.hid (below_then B.out B.out.size hb)
 refine hK.out _ _ ⟨pw_cell_below hb hHeld.1, pw_cell_below hb hHeld.2.1, pw_cell_below hb hHeld.2.2⟩ (fun hHeld => ?_)
 clear hK K hb
 refine norm_ (a' := ?_) ?_ ?_
 rotate_left
 ·show Act.put _ (some 20) _ = _
  simp only [Act.put, List.setIfInBounds_toArray, List.set_cons_zero, List.set_cons_succ, i64_w, i32_w]
  rfl
 refine pure_ (i := 13) (N := some 21) (v := ?_) (a' := ?_) #[true, true, true, true, true, true, true, true, true, true, true, true, true, true, false] rfl rfl (any_of HT_.out (by kernel_rfl)) (fun _ _ _ h => h) (Or.inl ⟨by rfl, ?_⟩) ?_ ?_
 rotate_left
 ·intro w'
  go_simp
  first | (with_reducible rfl) | (rw [if_neg (by first | omega | (simp only [ByteArray.size_append, s1_, s2_]; omega) | (simp [ByteArray.size_append, s1_, s2_]; omega))])
 rotate_left
 ·simp only [Act.put, List.setIfInBounds_toArray, List.set_cons_zero, List.set_cons_succ, i64_w, i32_w]
  rfl
 refine pure_ (i := 14) (N := some 4) (v := ?_) (a' := ?_) #[true, true, true, true, true, true, true, true, true, true, true, true, true, true, true] rfl rfl (any_of HT_.out (by kernel_rfl)) (fun _ _ _ h => h) (Or.inl ⟨by rfl, ?_⟩) ?_ ?_
 rotate_left
 ·intro w'
  go_simp
  first | (with_reducible rfl) | (rw [if_neg (by first | omega | (simp only [ByteArray.size_append, s1_, s2_]; omega) | (simp [ByteArray.size_append, s1_, s2_]; omega))])
 rotate_left
 ·simp only [Act.put, List.setIfInBounds_toArray, List.set_cons_zero, List.set_cons_succ, i64_w, i32_w]
  rfl
 refine done_ (done_of HT_.out (by kernel_rfl)) ?_
 clear HT_ HW_
 go_wp2_with fail
 go_ret
 exact ⟨rfl, B.out⟩
set_option maxHeartbeats 4000000 in
set_option maxRecDepth 100000 in
theorem written0 (c y m d : Int) (w : World) (ht : Tab w) (hc : ¬ c = 2) (y1 : -20000 ≤ y) (y2 : y ≤ 20000) (m1 : 1 ≤ m) (m2 : m ≤ 60) (d1 : 1 ≤ d) (d2 : d ≤ 60) (hz : ∀ n : Int, -20000 ≤ n → n ≤ 20000 → (⟨(Lib.itoa n).toArray⟩ : ByteArray).size ≤ 100) :
  Calls Tryd.prog 25 #[.int .i64 c, .agg #[.int .i64 y, .int .i64 m, .int .i64 d]] w fun e w' => e = .returned (.string ((⟨(Lib.itoa y).toArray⟩ : ByteArray) ++ ⟨#[45]⟩ ++ ⟨(Lib.itoa m).toArray⟩ ++ ⟨#[45]⟩ ++ ⟨(Lib.itoa d).toArray⟩)) ∧ Below w.heap.size w w' := by
 have T := Lib.hid ht
 have Y := Lib.hid (And.intro y1 y2)
 have zy := hz y y1 y2
 have zm := hz m (by omega) (by omega)
 have zd := hz d (by omega) (by omega)
 have M := Lib.hid (And.intro m1 m2)
 have D := Lib.hid (And.intro d1 d2)
 have c1 : (c == 2) = false := beq_eq_false_iff_ne.2 hc
 clear ht hc y1 y2 m1 m2 d1 d2 hz
 generalize hsy : (⟨(Lib.itoa y).toArray⟩ : ByteArray) = sy at zy ⊢
 generalize hsm : (⟨(Lib.itoa m).toArray⟩ : ByteArray) = sm at zm ⊢
 generalize hsd : (⟨(Lib.itoa d).toArray⟩ : ByteArray) = sd at zd ⊢
 have SY := Lib.hid hsy
 have SM := Lib.hid hsm
 have SD := Lib.hid hsd
 clear hsy hsm hsd
 go_enter Tryd.func25, Tryd.ntmps25
 go_wp2_with fail
 refine start_ (n := 15) (S := fun w' => w'.cell? ⟨w.heap.size, 0, none⟩ = some (.int .i64 y) ∧ w'.cell? ⟨w.heap.size, 1, none⟩ = some (.int .i64 m) ∧ w'.cell? ⟨w.heap.size, 2, none⟩ = some (.int .i64 d)) (ds := []) #[false, false, false, false, false, false, false, false, false, false, false, false, false, false, false] (by kernel_rfl) rfl rfl ⟨by go_simp, by go_simp, by go_simp⟩ (fun hHeld => ?_)
 refine with_tabW tab4 bits4 (fun HT_ HW_ => ?_)
 have B : Below w.heap.size w _ := (by repeat (with_reducible first | exact Below.refl _ _ | apply below_drew | apply pw_below_drewN | apply below_alloc) : Below w.heap.size w ((w.alloc (.cells #[.int .i64 y, .int .i64 m, .int .i64 d] 24 (0, 0))).drew))
 generalize (w.alloc (.cells #[.int .i64 y, .int .i64 m, .int .i64 d] 24 (0, 0))).drew = w1 at B hHeld ⊢
 replace B := Lib.hid B
 refine pure_ (i := 0) (N := some 8) (v := ?_) (a' := ?_) #[true, false, false, false, false, false, false, false, false, false, false, false, false, false, false] rfl rfl (any_of HT_.out (by kernel_rfl)) (fun _ _ _ h => h) (Or.inl ⟨by rfl, ?_⟩) ?_ ?_
 rotate_left
 ·intro w'
  go_simp
  with_reducible rfl
 rotate_left
 ·simp only [Act.put, List.setIfInBounds_toArray, List.set_cons_zero, List.set_cons_succ, i64_w, i32_w]
  rfl
 refine pure_ (i := 5) (N := some 13) (v := ?_) (a' := ?_) #[true, false, false, false, false, true, false, false, false, false, false, false, false, false, false] rfl rfl (any_of HT_.out (by kernel_rfl)) (fun _ _ _ h => h) (Or.inl ⟨by rfl, ?_⟩) ?_ ?_
 rotate_left
 ·intro w'
  go_simp
  with_reducible rfl
 rotate_left
 ·simp only [Act.put, List.setIfInBounds_toArray, List.set_cons_zero, List.set_cons_succ, i64_w, i32_w]
  rfl
 refine pure_ (i := 10) (N := some 18) (v := ?_) (a' := ?_) #[true, false, false, false, false, true, false, false, false, false, true, false, false, false, false] rfl rfl (any_of HT_.out (by kernel_rfl)) (fun _ _ _ h => h) (Or.inl ⟨by rfl, ?_⟩) ?_ ?_
 rotate_left
 ·intro w'
  go_simp
  with_reducible rfl
 rotate_left
 ·simp only [Act.put, List.setIfInBounds_toArray, List.set_cons_zero, List.set_cons_succ, i64_w, i32_w]
  rfl
 refine pure_ (i := 3) (N := some 11) (v := ?_) (a' := ?_) #[true, false, false, true, false, true, false, false, false, false, true, false, false, false, false] rfl rfl (any_of HT_.out (by kernel_rfl)) (fun _ _ _ h => h) (Or.inl ⟨by rfl, ?_⟩) ?_ ?_
 rotate_left
 ·intro w'
  go_simp
  with_reducible rfl
 rotate_left
 ·simp only [Act.put, List.setIfInBounds_toArray, List.set_cons_zero, List.set_cons_succ, i64_w, i32_w]
  rfl
 refine take_ (i := 1) (N := some 9) (v := ?_) (a' := ?_) #[true, true, false, true, false, true, false, false, false, false, true, false, false, false, false] rfl rfl (take_ofW HT_.out HW_.out (by kernel_rfl)) (fun _ _ _ h => h) (Or.inl ⟨by rfl, ?_⟩) hHeld ?_ ?_
 rotate_left
 ·rintro w' ⟨s0, s1, s2⟩
  go_simp
  with_reducible rfl
 rotate_left
 ·simp only [Act.put, List.setIfInBounds_toArray, List.set_cons_zero, List.set_cons_succ, i64_w, i32_w]
  rfl
 refine take_ (i := 6) (N := some 14) (v := ?_) (a' := ?_) #[true, true, false, true, false, true, true, false, false, false, true, false, false, false, false] rfl rfl (take_ofW HT_.out HW_.out (by kernel_rfl)) (fun _ _ _ h => h) (Or.inl ⟨by rfl, ?_⟩) hHeld ?_ ?_
 rotate_left
 ·rintro w' ⟨s0, s1, s2⟩
  go_simp
  with_reducible rfl
 rotate_left
 ·simp only [Act.put, List.setIfInBounds_toArray, List.set_cons_zero, List.set_cons_succ, i64_w, i32_w]
  rfl
 refine take_ (i := 11) (N := some 19) (v := ?_) (a' := ?_) #[true, true, false, true, false, true, true, false, false, false, true, true, false, false, false] rfl rfl (take_ofW HT_.out HW_.out (by kernel_rfl)) (fun _ _ _ h => h) (Or.inl ⟨by rfl, ?_⟩) hHeld ?_ ?_
 rotate_left
 ·rintro w' ⟨s0, s1, s2⟩
  go_simp
  with_reducible rfl
 rotate_left
 ·simp only [Act.put, List.setIfInBounds_toArray, List.set_cons_zero, List.set_cons_succ, i64_w, i32_w]
  rfl
 refine one_ (i := 2) (N := some 10) #[true, true, true, true, false, true, true, false, false, false, true, true, false, false, false] rfl rfl (one_of HT_.out (by kernel_rfl)) (by decide) (fun K hK => ?_)
 refine goes_ Tryd.func68 (by kernel_rfl) rfl #[.int .i64 y] (by rfl) rfl rfl (by (try simp only [List.map_toArray, List.map_cons, List.map_nil]); first | done | rfl) ?_
 refine (itoa y sy _ (by have := Y.out; omega) (by have := Y.out; omega) SY.out (tab_below T.out B.out)).mono ?_
 rintro e w2 ⟨rfl, hb⟩
 refine ⟨_, rfl, ?_⟩
 replace B := Lib.hid (below_then B.out B.out.size hb)
 refine hK.out _ _ ⟨pw_cell_below hb hHeld.1, pw_cell_below hb hHeld.2.1, pw_cell_below hb hHeld.2.2⟩ (fun hHeld => ?_)
 clear hK K hb
 refine norm_ (a' := ?_) ?_ ?_
 rotate_left
 ·show Act.put _ (some 10) _ = _
  simp only [Act.put, List.setIfInBounds_toArray, List.set_cons_zero, List.set_cons_succ, i64_w, i32_w]
  rfl
 refine pure_ (i := 4) (N := some 12) (v := ?_) (a' := ?_) #[true, true, true, true, true, true, true, false, false, false, true, true, false, false, false] rfl rfl (any_of HT_.out (by kernel_rfl)) (fun _ _ _ h => h) (Or.inl ⟨by rfl, ?_⟩) ?_ ?_
 rotate_left
 ·intro w'
  go_simp
  first | (with_reducible rfl) | (rw [if_neg (by first | omega | (simp only [ByteArray.size_append, s1_, s2_]; omega) | (simp [ByteArray.size_append, s1_, s2_]; omega))])
 rotate_left
 ·simp only [Act.put, List.setIfInBounds_toArray, List.set_cons_zero, List.set_cons_succ, i64_w, i32_w]
  rfl
 refine one_ (i := 7) (N := some 15) #[true, true, true, true, true, true, true, true, false, false, true, true, false, false, false] rfl rfl (one_of HT_.out (by kernel_rfl)) (by decide) (fun K hK => ?_)
 refine goes_ Tryd.func68 (by kernel_rfl) rfl #[.int .i64 m] (by rfl) rfl rfl (by (try simp only [List.map_toArray, List.map_cons, List.map_nil]); first | done | rfl) ?_
 refine (itoa m sm _ (by have := M.out; omega) (by have := M.out; omega) SM.out (tab_below T.out B.out)).mono ?_
 rintro e w3 ⟨rfl, hb⟩
 refine ⟨_, rfl, ?_⟩
 replace B := Lib.hid (below_then B.out B.out.size hb)
 refine hK.out _ _ ⟨pw_cell_below hb hHeld.1, pw_cell_below hb hHeld.2.1, pw_cell_below hb hHeld.2.2⟩ (fun hHeld => ?_)
 clear hK K hb
 refine norm_ (a' := ?_) ?_ ?_
 rotate_left
 ·show Act.put _ (some 15) _ = _
  simp only [Act.put, List.setIfInBounds_toArray, List.set_cons_zero, List.set_cons_succ, i64_w, i32_w]
  rfl
 refine pure_ (i := 8) (N := some 16) (v := ?_) (a' := ?_) #[true, true, true, true, true, true, true, true, true, false, true, true, false, false, false] rfl rfl (any_of HT_.out (by kernel_rfl)) (fun _ _ _ h => h) (Or.inl ⟨by rfl, ?_⟩) ?_ ?_
 rotate_left
 ·intro w'
  go_simp
  first | (with_reducible rfl) | (rw [if_neg (by first | omega | (simp only [ByteArray.size_append, s1_, s2_]; omega) | (simp [ByteArray.size_append, s1_, s2_]; omega))])
 rotate_left
 ·simp only [Act.put, List.setIfInBounds_toArray, List.set_cons_zero, List.set_cons_succ, i64_w, i32_w]
  rfl
 refine pure_ (i := 9) (N := some 17) (v := ?_) (a' := ?_) #[true, true, true, true, true, true, true, true, true, true, true, true, false, false, false] rfl rfl (any_of HT_.out (by kernel_rfl)) (fun _ _ _ h => h) (Or.inl ⟨by rfl, ?_⟩) ?_ ?_
 rotate_left
 ·intro w'
  go_simp
  first | (with_reducible rfl) | (rw [if_neg (by first | omega | (simp only [ByteArray.size_append, s1_, s2_]; omega) | (simp [ByteArray.size_append, s1_, s2_]; omega))])
 rotate_left
 ·simp only [Act.put, List.setIfInBounds_toArray, List.set_cons_zero, List.set_cons_succ, i64_w, i32_w]
  rfl
 refine one_ (i := 12) (N := some 20) #[true, true, true, true, true, true, true, true, true, true, true, true, true, false, false] rfl rfl (one_of HT_.out (by kernel_rfl)) (by decide) (fun K hK => ?_)
 refine goes_ Tryd.func68 (by kernel_rfl) rfl #[.int .i64 d] (by rfl) rfl rfl (by (try simp only [List.map_toArray, List.map_cons, List.map_nil]); first | done | rfl) ?_
 refine (itoa d sd _ (by have := D.out; omega) (by have := D.out; omega) SD.out (tab_below T.out B.out)).mono ?_
 rintro e w4 ⟨rfl, hb⟩
 refine ⟨_, rfl, ?_⟩
 replace B := Lib.hid (below_then B.out B.out.size hb)
 refine hK.out _ _ ⟨pw_cell_below hb hHeld.1, pw_cell_below hb hHeld.2.1, pw_cell_below hb hHeld.2.2⟩ (fun hHeld => ?_)
 clear hK K hb
 refine norm_ (a' := ?_) ?_ ?_
 rotate_left
 ·show Act.put _ (some 20) _ = _
  simp only [Act.put, List.setIfInBounds_toArray, List.set_cons_zero, List.set_cons_succ, i64_w, i32_w]
  rfl
 refine pure_ (i := 13) (N := some 21) (v := ?_) (a' := ?_) #[true, true, true, true, true, true, true, true, true, true, true, true, true, true, false] rfl rfl (any_of HT_.out (by kernel_rfl)) (fun _ _ _ h => h) (Or.inl ⟨by rfl, ?_⟩) ?_ ?_
 rotate_left
 ·intro w'
  go_simp
  first | (with_reducible rfl) | (rw [if_neg (by first | omega | (simp only [ByteArray.size_append, s1_, s2_]; omega) | (simp [ByteArray.size_append, s1_, s2_]; omega))])
 rotate_left
 ·simp only [Act.put, List.setIfInBounds_toArray, List.set_cons_zero, List.set_cons_succ, i64_w, i32_w]
  rfl
 refine pure_ (i := 14) (N := some 4) (v := ?_) (a' := ?_) #[true, true, true, true, true, true, true, true, true, true, true, true, true, true, true] rfl rfl (any_of HT_.out (by kernel_rfl)) (fun _ _ _ h => h) (Or.inl ⟨by rfl, ?_⟩) ?_ ?_
 rotate_left
 ·intro w'
  go_simp
  first | (with_reducible rfl) | (rw [if_neg (by first | omega | (simp only [ByteArray.size_append, s1_, s2_]; omega) | (simp [ByteArray.size_append, s1_, s2_]; omega))])
 rotate_left
 ·simp only [Act.put, List.setIfInBounds_toArray, List.set_cons_zero, List.set_cons_succ, i64_w, i32_w]
  rfl
 refine done_ (done_of HT_.out (by kernel_rfl)) ?_
 clear HT_ HW_
 go_wp2_with fail
 go_ret
 exact ⟨rfl, B.out⟩
end Go.Proofs.YtgbbgcepcnklkaaDoor.ShowDt
-- written by a program of this session (wip/own_print.sh)
namespace Go.Proofs.YtgbbgcepcnklkaaDoor.Q
open Go.RowKit Go.Proofs.YtgbbgcepcnklkaaDoorW.PrintWords Go.Proofs.YtgbbgcepcnklkaaDoorW.PrintLast Go.Proofs.YtgbbgcepcnklkaaDoorW.PrintMore
attribute [local go_sem] max2_int min2_int max_two min_two
set_option linter.unusedVariables false
set_option linter.unusedSimpArgs false
/-! ### trystref01_number: function 34 -/
mutual
def trystref01_number.l0 : Nat → Int → Int → ByteArray → Option (ByteArray)
 | 0, _, _, _ => none
 | k + 1, x0, x1, x5 => if x0 > 0 then ((some (([(wrap64 (48 + (Int.tmod x0 10))) % 256] : List Int) : List Int)).bind fun y355 => (if (strOfNums y355).size + x5.size ≤ 9223372036854775807 then (trystref01_number.l0 k (wrap64 (Int.tdiv x0 10)) (wrap64 (x1 - 1)) ((strOfNums y355) ++ x5)) else (none))) else (if x1 > 0 then ((some (([(wrap64 (48 + (Int.tmod x0 10))) % 256] : List Int) : List Int)).bind fun y358 => (if (strOfNums y358).size + x5.size ≤ 9223372036854775807 then (trystref01_number.l0 k (wrap64 (Int.tdiv x0 10)) (wrap64 (x1 - 1)) ((strOfNums y358) ++ x5)) else (none))) else (if x5.toList = ([] : List UInt8) then ((some (([(wrap64 (48 + (Int.tmod x0 10))) % 256] : List Int) : List Int)).bind fun y361 => (if (strOfNums y361).size + x5.size ≤ 9223372036854775807 then (trystref01_number.l0 k (wrap64 (Int.tdiv x0 10)) (wrap64 (x1 - 1)) ((strOfNums y361) ++ x5)) else (none))) else (some x5)))
def trystref01_number.f : Nat → Int → Int → Option (ByteArray)
 | 0, _, _ => none
 | k + 1, a0, a1 => if a0 < 0 then ((trystref01_number.f k (wrap64 (-a0)) a1).bind fun t354 => (if 1 + t354.size ≤ 9223372036854775807 then (some ((⟨#[45]⟩ : ByteArray) ++ t354)) else (none))) else (trystref01_number.l0 k a0 a1 (⟨#[]⟩ : ByteArray))
end
set_option maxHeartbeats 8000000 in
set_option maxRecDepth 100000 in
theorem trystref01_number.calls (k : Nat) : ∀ (a0 : Int) (a1 : Int) (r : ByteArray) (w : World) (h : trystref01_number.f k a0 a1 = some r),
  Calls Tryd.prog 34 #[.int .i64 a0, .int .i64 a1] w fun e w' => e = .returned (.string r) ∧ Below w.heap.size w w' := by
 induction k using Nat.strongRecOn with
 | _ k ih =>
 intro a0 a1 r w h
 cases k with
 | zero => exact absurd h (by simp [trystref01_number.f])
 | succ k =>
 simp only [trystref01_number.f] at h
 have HB := Aside0.mk (Below.refl w.heap.size w)
 have H : (if a0 < 0 then ((trystref01_number.f k (wrap64 (-a0)) a1).bind fun t354 => (if 1 + t354.size ≤ 9223372036854775807 then (some ((⟨#[45]⟩ : ByteArray) ++ t354)) else (none))) else (trystref01_number.l0 k a0 a1 (⟨#[]⟩ : ByteArray))) = some r := h
 clear h
 by_cases c3 : a0 < 0
 ·rw [if_pos c3] at H
  have c3b0 : decide (a0 < 0) = true := decide_eq_true c3
  clear c3
  replace H := Option.bind_eq_some_iff.mp H
  obtain ⟨t354, A40, H⟩ := H
  replace H : (if 1 + t354.size ≤ 9223372036854775807 then (some ((⟨#[45]⟩ : ByteArray) ++ t354)) else (none)) = some r := H
  have A4 := Aside0.mk A40
  clear A40
  by_cases c5 : 1 + t354.size ≤ 9223372036854775807
  ·rw [if_pos c5] at H
   have c5b0 := eq_true c5
   have c5b1 : decide (1 + t354.size ≤ 9223372036854775807) = true := decide_eq_true c5
   try have c5b2 : (9223372036854775807 < 1 + t354.size) = False := eq_false (Nat.not_lt.2 c5)
   try (have c5b3 := c5b2; simp only [ByteArray.size_append, bs1_] at c5b3)
   obtain rfl := Option.some.inj H
   go_enter Tryd.func34, Tryd.ntmps34
   go_wp2_with (first | ((with_reducible refine gate_callee (f := 34) rfl ?_); refine goesL_ (some 11) rfl rfl Tryd.func34 (by kernel_rfl) rfl #[.int .i64 (wrap64 (-a0)), .int .i64 a1] rfl (by (try simp only [List.map_toArray, List.map_cons, List.map_nil]); first | done | rfl | (simp only [List.length_drop, List.length_take]; rfl)) ?_; (with_reducible refine (ih k (by omega) (wrap64 (-a0)) a1 t354 _ A4.out).mono ?_); rintro e w6 ⟨rfl, hb⟩; refine ⟨_, rfl, ?_⟩; have n0_ := Aside0.mk (below_step (by repeat (first | (with_reducible first | exact HB.out | apply below_alloc | apply pw_below_drewN | apply below_drew1) | exact HB.out)) hb); clear HB; have HB := n0_; clear n0_; (try clear hb); (try clear hb2); (try clear hk); (try clear hi)))
   go_ret
   exact ⟨by first | rfl | (simp [errW_none, errW_some] <;> rfl) | (simp [*, errW_none, errW_some] <;> rfl), by repeat (first | (with_reducible first | exact HB.out | apply below_alloc | apply pw_below_drewN | apply below_drew1) | exact HB.out)⟩
  ·rw [if_neg c5] at H
   exact absurd H (by simp)
 ·rw [if_neg c3] at H
  have c3b0 : decide (a0 < 0) = false := decide_eq_false c3
  clear c3
  have H' := Aside0.mk H
  clear H
  go_enter Tryd.func34, Tryd.ntmps34
  go_wp2
  go_loopg [0, 1, 5] k (fun kq v0 v1 v5 w' => ∃ (x0_1 : Int) (x1_1 : Int) (x5_1 : ByteArray), v0 = .int .i64 x0_1 ∧ v1 = .int .i64 x1_1 ∧ v5 = .string x5_1 ∧ Aside0 (trystref01_number.l0 kq x0_1 x1_1 x5_1 = some r) ∧ Aside0 (kq ≤ k) ∧ Aside0 (Below w.heap.size w w'))
  case atStart => exact ⟨(a0), (a1), ((⟨#[]⟩ : ByteArray)), (by first | rfl | (simp; done) | (simp [*]; done)), (by first | rfl | (simp; done) | (simp [*]; done)), (by first | rfl | (simp; done) | (simp [*]; done)), H', ⟨Nat.le_refl _⟩, ⟨by repeat (first | (with_reducible first | exact HB.out | apply below_alloc | apply pw_below_drewN | apply below_drew1) | exact HB.out)⟩⟩
  case round =>
   clear H'
   try clear p2
   try clear c3
   try clear c3b0
   try clear c5
   try clear c5b0
   try clear c5b1
   try clear c5b2
   try clear p6
   obtain ⟨x0_1, x1_1, x5_1, rfl, rfl, rfl, HA, HK1, HB⟩ := hrel
   cases gk with
   | zero => exact absurd HA.out (by simp [trystref01_number.l0])
   | succ k1 =>
    have H := HA.out
    clear HA
    simp only [trystref01_number.l0] at H
    by_cases c7 : x0_1 > 0
    ·rw [if_pos c7] at H
     have c7b0 : decide (0 < x0_1) = true := decide_eq_true c7
     clear c7
     obtain ⟨y355, hy355⟩ : ∃ y_ : List Int, y_ = (([(wrap64 (48 + (Int.tmod x0_1 10))) % 256] : List Int)) := ⟨_, rfl⟩
     replace H : (if (strOfNums y355).size + x5_1.size ≤ 9223372036854775807 then (trystref01_number.l0 k1 (wrap64 (Int.tdiv x0_1 10)) (wrap64 (x1_1 - 1)) ((strOfNums y355) ++ x5_1)) else (none)) = some r := by first | (rw [hy355]; with_reducible exact H) | (have H2_ := (Option.bind_some _ _).symm.trans H; rw [hy355]; with_reducible exact H2_) | (have H2_ := (Option.bind_some _ _).symm.trans H; with_reducible exact H2_) | with_reducible exact H | (rw [hy355]; exact H) | exact H
     have Ny355 := Aside0.mk hy355
     clear hy355
     by_cases c8 : (strOfNums y355).size + x5_1.size ≤ 9223372036854775807
     ·rw [if_pos c8] at H
      have c8b0 := eq_true c8
      have c8b1 : decide ((strOfNums y355).size + x5_1.size ≤ 9223372036854775807) = true := decide_eq_true c8
      try have c8b2 : (9223372036854775807 < (strOfNums y355).size + x5_1.size) = False := eq_false (Nat.not_lt.2 c8)
      try (have c8b3 := c8b2; simp only [ByteArray.size_append, bs1_] at c8b3)
      have H' := Aside0.mk H
      clear H
      go_wp2_with (first | ((with_reducible refine gate_dst (N := 27) rfl ?_); refine Kd.R_lit (Kd.int .u8) _ 5 ?hg (N := 27) ?hd (xs := ([(wrap64 (48 + (Int.tmod x0_1 10))) % 256] : List Int)) (inner := [.int .u8 ((wrap64 (48 + (Int.tmod x0_1 10))) % 256)]) (ok := fun _ => True) (okp := fun _ => True) ?hr ?hp (fun _ hk => hk) trivial (Below.refl _ _) (Nat.le_refl _) (by simp) ?_; (case hd => rfl); (case hg => rfl); (case hr => first | (go_simp; done) | (go_simp; rfl)); (case hp => exact (Reps.one (show Kd.M (Kd.int .u8) _ _ _ ((wrap64 (48 + (Int.tmod x0_1 10))) % 256) [.int .u8 ((wrap64 (48 + (Int.tmod x0_1 10))) % 256)] from rfl) (Reps.none _ _))); intro v356 w9 ho10 hb hg_ hnew_; clear hg_ hnew_; (first | rw [← Ny355.out] at ho10 | (simp only [Int.reduceToNat] at ho10; rw [← Ny355.out] at ho10)); have n0_ := Aside0.mk (Kd.R_lower ho10 (below_size (by repeat (first | (with_reducible first | exact HB.out | apply below_alloc | apply pw_below_drewN | apply below_drew1) | exact HB.out)))); have n1_ := Aside0.mk (below_step (by repeat (first | (with_reducible first | exact HB.out | apply below_alloc | apply pw_below_drewN | apply below_drew1) | exact HB.out)) hb); clear HB; have HO357 := n0_; have HB := n1_; clear n0_ n1_; clear hb ho10; have hcv11 := own_string (P := Tryd.prog) Tryd.underlying38 Tryd.underlying5 Tryd.underlying9 (Kd.own_of_R HO357.out)))
      go_roundg k1
      case measure => have := HK1.out; omega
      case rel => exact ⟨(wrap64 (Int.tdiv x0_1 10)), (wrap64 (x1_1 - 1)), ((strOfNums y355) ++ x5_1), (by first | rfl | (simp; done) | (simp [*]; done)), (by first | rfl | (simp; done) | (simp [*]; done)), (by first | rfl | (simp; done) | (simp [*]; done)), H', ⟨by have := HK1.out; omega⟩, ⟨by repeat (first | (with_reducible first | exact HB.out | apply below_alloc | apply pw_below_drewN | apply below_drew1) | exact HB.out)⟩⟩
     ·rw [if_neg c8] at H
      exact absurd H (by simp)
    ·rw [if_neg c7] at H
     have c7b0 : decide (0 < x0_1) = false := decide_eq_false c7
     clear c7
     by_cases c12 : x1_1 > 0
     ·rw [if_pos c12] at H
      have c12b0 : decide (0 < x1_1) = true := decide_eq_true c12
      clear c12
      obtain ⟨y358, hy358⟩ : ∃ y_ : List Int, y_ = (([(wrap64 (48 + (Int.tmod x0_1 10))) % 256] : List Int)) := ⟨_, rfl⟩
      replace H : (if (strOfNums y358).size + x5_1.size ≤ 9223372036854775807 then (trystref01_number.l0 k1 (wrap64 (Int.tdiv x0_1 10)) (wrap64 (x1_1 - 1)) ((strOfNums y358) ++ x5_1)) else (none)) = some r := by first | (rw [hy358]; with_reducible exact H) | (have H2_ := (Option.bind_some _ _).symm.trans H; rw [hy358]; with_reducible exact H2_) | (have H2_ := (Option.bind_some _ _).symm.trans H; with_reducible exact H2_) | with_reducible exact H | (rw [hy358]; exact H) | exact H
      have Ny358 := Aside0.mk hy358
      clear hy358
      by_cases c13 : (strOfNums y358).size + x5_1.size ≤ 9223372036854775807
      ·rw [if_pos c13] at H
       have c13b0 := eq_true c13
       have c13b1 : decide ((strOfNums y358).size + x5_1.size ≤ 9223372036854775807) = true := decide_eq_true c13
       try have c13b2 : (9223372036854775807 < (strOfNums y358).size + x5_1.size) = False := eq_false (Nat.not_lt.2 c13)
       try (have c13b3 := c13b2; simp only [ByteArray.size_append, bs1_] at c13b3)
       have H' := Aside0.mk H
       clear H
       go_wp2_with (first | ((with_reducible refine gate_dst (N := 27) rfl ?_); refine Kd.R_lit (Kd.int .u8) _ 5 ?hg (N := 27) ?hd (xs := ([(wrap64 (48 + (Int.tmod x0_1 10))) % 256] : List Int)) (inner := [.int .u8 ((wrap64 (48 + (Int.tmod x0_1 10))) % 256)]) (ok := fun _ => True) (okp := fun _ => True) ?hr ?hp (fun _ hk => hk) trivial (Below.refl _ _) (Nat.le_refl _) (by simp) ?_; (case hd => rfl); (case hg => rfl); (case hr => first | (go_simp; done) | (go_simp; rfl)); (case hp => exact (Reps.one (show Kd.M (Kd.int .u8) _ _ _ ((wrap64 (48 + (Int.tmod x0_1 10))) % 256) [.int .u8 ((wrap64 (48 + (Int.tmod x0_1 10))) % 256)] from rfl) (Reps.none _ _))); intro v359 w14 ho15 hb hg_ hnew_; clear hg_ hnew_; (first | rw [← Ny358.out] at ho15 | (simp only [Int.reduceToNat] at ho15; rw [← Ny358.out] at ho15)); have n0_ := Aside0.mk (Kd.R_lower ho15 (below_size (by repeat (first | (with_reducible first | exact HB.out | apply below_alloc | apply pw_below_drewN | apply below_drew1) | exact HB.out)))); have n1_ := Aside0.mk (below_step (by repeat (first | (with_reducible first | exact HB.out | apply below_alloc | apply pw_below_drewN | apply below_drew1) | exact HB.out)) hb); clear HB; have HO360 := n0_; have HB := n1_; clear n0_ n1_; clear hb ho15; have hcv16 := own_string (P := Tryd.prog) Tryd.underlying38 Tryd.underlying5 Tryd.underlying9 (Kd.own_of_R HO360.out)))
       go_roundg k1
       case measure => have := HK1.out; omega
       case rel => exact ⟨(wrap64 (Int.tdiv x0_1 10)), (wrap64 (x1_1 - 1)), ((strOfNums y358) ++ x5_1), (by first | rfl | (simp; done) | (simp [*]; done)), (by first | rfl | (simp; done) | (simp [*]; done)), (by first | rfl | (simp; done) | (simp [*]; done)), H', ⟨by have := HK1.out; omega⟩, ⟨by repeat (first | (with_reducible first | exact HB.out | apply below_alloc | apply pw_below_drewN | apply below_drew1) | exact HB.out)⟩⟩
      ·rw [if_neg c13] at H
       exact absurd H (by simp)
     ·rw [if_neg c12] at H
      have c12b0 : decide (0 < x1_1) = false := decide_eq_false c12
      clear c12
      by_cases c17 : x5_1.toList = ([] : List UInt8)
      ·rw [if_pos c17] at H
       have c17b0 : (x5_1.toList == ([] : List UInt8)) = true := beq_iff_eq.mpr c17
       have c17b1 : (x5_1.toList != ([] : List UInt8)) = false := bne_eq_false_iff_eq.mpr c17
       clear c17
       obtain ⟨y361, hy361⟩ : ∃ y_ : List Int, y_ = (([(wrap64 (48 + (Int.tmod x0_1 10))) % 256] : List Int)) := ⟨_, rfl⟩
       replace H : (if (strOfNums y361).size + x5_1.size ≤ 9223372036854775807 then (trystref01_number.l0 k1 (wrap64 (Int.tdiv x0_1 10)) (wrap64 (x1_1 - 1)) ((strOfNums y361) ++ x5_1)) else (none)) = some r := by first | (rw [hy361]; with_reducible exact H) | (have H2_ := (Option.bind_some _ _).symm.trans H; rw [hy361]; with_reducible exact H2_) | (have H2_ := (Option.bind_some _ _).symm.trans H; with_reducible exact H2_) | with_reducible exact H | (rw [hy361]; exact H) | exact H
       have Ny361 := Aside0.mk hy361
       clear hy361
       by_cases c18 : (strOfNums y361).size + x5_1.size ≤ 9223372036854775807
       ·rw [if_pos c18] at H
        have c18b0 := eq_true c18
        have c18b1 : decide ((strOfNums y361).size + x5_1.size ≤ 9223372036854775807) = true := decide_eq_true c18
        try have c18b2 : (9223372036854775807 < (strOfNums y361).size + x5_1.size) = False := eq_false (Nat.not_lt.2 c18)
        try (have c18b3 := c18b2; simp only [ByteArray.size_append, bs1_] at c18b3)
        have H' := Aside0.mk H
        clear H
        go_wp2_with (first | ((with_reducible refine gate_dst (N := 27) rfl ?_); refine Kd.R_lit (Kd.int .u8) _ 5 ?hg (N := 27) ?hd (xs := ([(wrap64 (48 + (Int.tmod x0_1 10))) % 256] : List Int)) (inner := [.int .u8 ((wrap64 (48 + (Int.tmod x0_1 10))) % 256)]) (ok := fun _ => True) (okp := fun _ => True) ?hr ?hp (fun _ hk => hk) trivial (Below.refl _ _) (Nat.le_refl _) (by simp) ?_; (case hd => rfl); (case hg => rfl); (case hr => first | (go_simp; done) | (go_simp; rfl)); (case hp => exact (Reps.one (show Kd.M (Kd.int .u8) _ _ _ ((wrap64 (48 + (Int.tmod x0_1 10))) % 256) [.int .u8 ((wrap64 (48 + (Int.tmod x0_1 10))) % 256)] from rfl) (Reps.none _ _))); intro v362 w19 ho20 hb hg_ hnew_; clear hg_ hnew_; (first | rw [← Ny361.out] at ho20 | (simp only [Int.reduceToNat] at ho20; rw [← Ny361.out] at ho20)); have n0_ := Aside0.mk (Kd.R_lower ho20 (below_size (by repeat (first | (with_reducible first | exact HB.out | apply below_alloc | apply pw_below_drewN | apply below_drew1) | exact HB.out)))); have n1_ := Aside0.mk (below_step (by repeat (first | (with_reducible first | exact HB.out | apply below_alloc | apply pw_below_drewN | apply below_drew1) | exact HB.out)) hb); clear HB; have HO363 := n0_; have HB := n1_; clear n0_ n1_; clear hb ho20; have hcv21 := own_string (P := Tryd.prog) Tryd.underlying38 Tryd.underlying5 Tryd.underlying9 (Kd.own_of_R HO363.out)))
        go_roundg k1
        case measure => have := HK1.out; omega
        case rel => exact ⟨(wrap64 (Int.tdiv x0_1 10)), (wrap64 (x1_1 - 1)), ((strOfNums y361) ++ x5_1), (by first | rfl | (simp; done) | (simp [*]; done)), (by first | rfl | (simp; done) | (simp [*]; done)), (by first | rfl | (simp; done) | (simp [*]; done)), H', ⟨by have := HK1.out; omega⟩, ⟨by repeat (first | (with_reducible first | exact HB.out | apply below_alloc | apply pw_below_drewN | apply below_drew1) | exact HB.out)⟩⟩
       ·rw [if_neg c18] at H
        exact absurd H (by simp)
      ·rw [if_neg c17] at H
       have c17b0 : (x5_1.toList == ([] : List UInt8)) = false := beq_eq_false_iff_ne.mpr c17
       have c17b1 : (x5_1.toList != ([] : List UInt8)) = true := bne_iff_ne.mpr c17
       obtain rfl := Option.some.inj H
       go_wp2
       go_ret
       exact ⟨by first | rfl | (simp [errW_none, errW_some] <;> rfl) | (simp [*, errW_none, errW_some] <;> rfl), by repeat (first | (with_reducible first | exact HB.out | apply below_alloc | apply pw_below_drewN | apply below_drew1) | exact HB.out)⟩

end Go.Proofs.YtgbbgcepcnklkaaDoor.Q
