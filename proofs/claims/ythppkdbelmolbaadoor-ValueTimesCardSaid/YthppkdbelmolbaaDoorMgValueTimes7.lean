/- Texts of this claim, merged: Fmt, QclockFormatDate, QclockFormat. -/
import Derived.Test.YthppkdbelmolbaaDoorMgValueTimes6
import Derived.Test.YthppkdbelmolbaaDoorMgValueTimes4
import Derived.LoopTactic
import Derived.Lib.Hide
import Derived.Test.YthppkdbelmolbaaDoorMgValueTimes1
/- clock.FormatDate, clock.Parts and clock.Format, walked. -/
namespace Go.Proofs.YthppkdbelmolbaaDoor.Fmt
open Go.RowKit Go.Proofs.YthppkdbelmolbaaDoorW.PrintWords Go.Proofs.YthppkdbelmolbaaDoorW.PrintLast Go.Proofs.YthppkdbelmolbaaDoor.Q Go.Proofs.YthppkdbelmolbaaDoor.Digits Go.Proofs.YthppkdbelmolbaaDoor.Build
set_option linter.unusedVariables false
set_option linter.unusedSimpArgs false
theorem kept {w : World} {a : Addr} {v : Value} (o : Obj) (h : w.cell? a = some v) : (w.alloc o).cell? a = some v := pw_cell_below ((Below.refl _ _).alloc (Nat.le_refl _) _) h
/-- A digit's byte. -/
def db (n b : Int) : UInt8 := UInt8.ofNat (48 + n / b % 10).toNat
theorem db_dg (n b : Int) (h : 0 ≤ n / b % 10) (h' : n / b % 10 ≤ 9) : (.int .u8 ((db n b).toNat : Int) : Value) = dg n b := by
 unfold db dg
 congr 1
 rw [UInt8.toNat_ofNat']; omega
/-- The bytes of a date. -/
def dateBytes (y m d : Int) : List UInt8 := [db y 1000, db y 100, db y 10, db y 1, db m 10, db m 1, db d 10, db d 1]
theorem date_cells (y m d : Int) : ((([] ++ [dg y 1000, dg y 100, dg y 10, dg y 1]) ++ [dg m 10, dg m 1]) ++ [dg d 10, dg d 1] : List Value) = Lib.byteCells (dateBytes y m d) := by
 simp only [Lib.byteCells, dateBytes, List.map_cons, List.map_nil]
 rw [db_dg y 1000 (by omega) (by omega), db_dg y 100 (by omega) (by omega), db_dg y 10 (by omega) (by omega), db_dg y 1 (by omega) (by omega), db_dg m 10 (by omega) (by omega), db_dg m 1 (by omega) (by omega), db_dg d 10 (by omega) (by omega), db_dg d 1 (by omega) (by omega)]
 rfl
set_option maxHeartbeats 4000000 in
set_option maxRecDepth 100000 in
theorem date_no (k : Nat) (day y m d : Int) (w : World) (hD : rata_Date.f k day = some (y, m, d, 2)) :
  Calls Tryd.prog 37 #[.int .i64 day] w fun e w' => e = .returned (.tuple #[.string ⟨#[]⟩, .int .i64 2]) ∧ Below w.heap.size w w' := by
 go_enter Tryd.func37, Tryd.ntmps37
 go_wp2_with fail
 refine (rata_Date.calls k day y m d 2 _ hD).mono ?_
 rintro e w1 ⟨rfl, hB1⟩
 go_wp2
 go_ret2
 exact ⟨rfl, below_alloc hB1 _⟩
set_option maxHeartbeats 4000000 in
set_option maxRecDepth 100000 in
theorem date_yes (k : Nat) (day y m d : Int) (w : World) (hD : rata_Date.f k day = some (y, m, d, 0)) (hy : 0 ≤ y) (hy' : y ≤ 9999) (hm : 0 ≤ m) (hm' : m ≤ 99) (hd : 0 ≤ d) (hd' : d ≤ 99) :
  Calls Tryd.prog 37 #[.int .i64 day] w fun e w' => e = .returned (.tuple #[.string ⟨(dateBytes y m d).toArray⟩, .int .i64 0]) ∧ Below w.heap.size w w' := by
 have HD := Lib.hid hD; clear hD
 go_enter Tryd.func37, Tryd.ntmps37
 go_wp2_with fail
 refine (rata_Date.calls k day y m d 0 _ HD.out).mono ?_
 rintro e w1 ⟨rfl, hB1⟩
 go_wp2_with fail
 have i0 : IsB (w1.heap.size + 1) (w1.heap.size + 1) [] ((w1.alloc (.cells #[.int .i64 y, .int .i64 m, .int .i64 d] 68)).alloc (.cells #[.pointer none, .slice none 0 0] 73)) := by
  have := Lib.fresh_isBuilder 73 5 (w1.alloc (.cells #[.int .i64 y, .int .i64 m, .int .i64 d] 68))
  simpa [IsB] using this
 refine (four _ _ _ y _ hy (by omega) i0 (by simp) (by simp)).mono ?_
 rintro e w2 ⟨rfl, i1, hB2⟩
 have j1 : w2.cell? ⟨w1.heap.size, 1, none⟩ = some (.int .i64 m) := (hB2.cell (p := ⟨w1.heap.size, 1, none⟩) (by simp)).trans (by go_simp)
 have j2 : w2.cell? ⟨w1.heap.size, 2, none⟩ = some (.int .i64 d) := (hB2.cell (p := ⟨w1.heap.size, 2, none⟩) (by simp)).trans (by go_simp)
 have hz2 : w1.heap.size + 1 ≤ w2.heap.size := by have := hB2.size; simp at this; omega
 go_wp2_with fail
 refine (two _ _ _ m _ hm (by omega) i1 (by simp) hz2).mono ?_
 rintro e w3 ⟨rfl, i2, hB3⟩
 have j3 : w3.cell? ⟨w1.heap.size, 2, none⟩ = some (.int .i64 d) := (hB3.cell (p := ⟨w1.heap.size, 2, none⟩) (by simp)).trans j2
 clear j1 j2 i0 i1
 have hz3 : w1.heap.size + 1 ≤ w3.heap.size := Nat.le_trans hz2 hB3.size
 go_wp2_with fail
 refine (two _ _ _ d _ hd (by omega) i2 (by simp) hz3).mono ?_
 rintro e w4 ⟨rfl, i3, hB4⟩
 rw [date_cells] at i3
 clear j3 i2
 have hz4 : w1.heap.size + 1 ≤ w4.heap.size := Nat.le_trans hz3 hB4.size
 go_wp2_with fail
 refine (toString _ _ _ _ i3 hz4).mono ?_
 rintro e w5 ⟨rfl, hB5⟩
 have hE : Below (w1.heap.size + 1) ((w1.alloc (.cells #[.int .i64 y, .int .i64 m, .int .i64 d] 68)).alloc (.cells #[.pointer none, .slice none 0 0] 73)) w5 := ((hB2.trans hB3).trans hB4).trans hB5
 have hF : Below w.heap.size w w5 := (below_alloc (below_alloc hB1 _) _).trans (hE.mono (by have := hB1.size; omega))
 have HF := Lib.hid hF
 clear hE hF hB1 hB2 hB3 hB4 hB5 i3
 go_wp2
 go_ret2
 exact ⟨rfl, HF.out⟩
set_option maxHeartbeats 4000000 in
set_option maxRecDepth 100000 in
theorem parts_no (a : Int) (w : World) (hR : clock_Right.f a = some false) :
  Calls Tryd.prog 62 #[.int .i64 a] w fun e w' => e = .returned (.tuple #[.agg #[.int .i64 0, .int .i64 0, .int .i64 0], .agg #[.int .i64 0, .int .i64 0, .int .i64 0], .int .i64 2]) ∧ Below w.heap.size w w' := by
 go_enter Tryd.func62, Tryd.ntmps62
 go_wp2_with (go_at_call 41; refine (clock_Right.calls a _ _ hR).mono ?_; rintro e w' ⟨rfl, ⟨nd, rfl⟩⟩)
 refine bodyPost_ret (v := .tuple #[.agg #[.int .i64 0, .int .i64 0, .int .i64 0], .agg #[.int .i64 0, .int .i64 0, .int .i64 0], .int .i64 2]) (by simp [results, Tryd.results62, go_sem]) rfl ⟨rfl, ?_⟩
 have b0 := below_alloc (below_alloc (Below.refl w.heap.size w) (.cells #[.int .i64 0, .int .i64 0, .int .i64 0] 68)) (.cells #[.int .i64 0, .int .i64 0, .int .i64 0] 78)
 repeat (with_reducible first | exact b0 | refine below_set ?_ (by simp; done) | apply pw_below_drewN)
set_option maxHeartbeats 4000000 in
set_option maxRecDepth 100000 in
theorem parts_yes (k : Nat) (a day y m d s : Int) (w : World) (hR : clock_Right.f a = some true) (hY : clock_Day.f a = some day) (hD : rata_Date.f k day = some (y, m, d, 0)) (hS : clock_Second.f a = some s) (hs : 0 ≤ s) (hs' : s < 86400) :
  Calls Tryd.prog 62 #[.int .i64 a] w fun e w' => e = .returned (.tuple #[.agg #[.int .i64 y, .int .i64 m, .int .i64 d], .agg #[.int .i64 (s / 3600), .int .i64 (s / 60 % 60), .int .i64 (s % 60)], .int .i64 0]) ∧ Below w.heap.size w w' := by
 have HR := Lib.hid hR; clear hR
 have HY := Lib.hid hY; clear hY
 have HD := Lib.hid hD; clear hD
 have HS := Lib.hid hS; clear hS
 go_enter Tryd.func62, Tryd.ntmps62
 go_wp2_with (go_at_call 41; refine (clock_Right.calls a _ _ HR.out).mono ?_; rintro e w' ⟨rfl, ⟨nd, rfl⟩⟩)
 refine (clock_Day.calls a _ _ HY.out).mono ?_
 rintro e w' ⟨rfl, ⟨nd2, rfl⟩⟩
 go_wp2_with fail
 refine (rata_Date.calls k day y m d 0 _ HD.out).mono ?_
 rintro e w1 ⟨rfl, hB1⟩
 have p0 : w1.cell? ⟨w.heap.size, 0, none⟩ = some (.int .i64 0) := (hB1.cell (p := ⟨w.heap.size, 0, none⟩) (by simp <;> omega)).trans (by go_simp)
 have fp0 : w1.frozen? ⟨w.heap.size, 0, none⟩ = false := (hB1.frozen (p := ⟨w.heap.size, 0, none⟩) (by simp <;> omega)).trans (by go_simp)
 have p1 : w1.cell? ⟨w.heap.size, 1, none⟩ = some (.int .i64 0) := (hB1.cell (p := ⟨w.heap.size, 1, none⟩) (by simp <;> omega)).trans (by go_simp)
 have fp1 : w1.frozen? ⟨w.heap.size, 1, none⟩ = false := (hB1.frozen (p := ⟨w.heap.size, 1, none⟩) (by simp <;> omega)).trans (by go_simp)
 have p2 : w1.cell? ⟨w.heap.size, 2, none⟩ = some (.int .i64 0) := (hB1.cell (p := ⟨w.heap.size, 2, none⟩) (by simp <;> omega)).trans (by go_simp)
 have fp2 : w1.frozen? ⟨w.heap.size, 2, none⟩ = false := (hB1.frozen (p := ⟨w.heap.size, 2, none⟩) (by simp <;> omega)).trans (by go_simp)
 have q0 : w1.cell? ⟨w.heap.size + 1, 0, none⟩ = some (.int .i64 0) := (hB1.cell (p := ⟨w.heap.size + 1, 0, none⟩) (by simp <;> omega)).trans (by go_simp)
 have fq0 : w1.frozen? ⟨w.heap.size + 1, 0, none⟩ = false := (hB1.frozen (p := ⟨w.heap.size + 1, 0, none⟩) (by simp <;> omega)).trans (by go_simp)
 have q1 : w1.cell? ⟨w.heap.size + 1, 1, none⟩ = some (.int .i64 0) := (hB1.cell (p := ⟨w.heap.size + 1, 1, none⟩) (by simp <;> omega)).trans (by go_simp)
 have fq1 : w1.frozen? ⟨w.heap.size + 1, 1, none⟩ = false := (hB1.frozen (p := ⟨w.heap.size + 1, 1, none⟩) (by simp <;> omega)).trans (by go_simp)
 have q2 : w1.cell? ⟨w.heap.size + 1, 2, none⟩ = some (.int .i64 0) := (hB1.cell (p := ⟨w.heap.size + 1, 2, none⟩) (by simp <;> omega)).trans (by go_simp)
 have fq2 : w1.frozen? ⟨w.heap.size + 1, 2, none⟩ = false := (hB1.frozen (p := ⟨w.heap.size + 1, 2, none⟩) (by simp <;> omega)).trans (by go_simp)
 have hz : w.heap.size + 1 < w1.heap.size := by have := hB1.size; simp at this; omega
 have hz0 : w.heap.size < w1.heap.size := by omega
 have b0 := below_alloc (below_alloc (Below.refl w.heap.size w) (.cells #[.int .i64 0, .int .i64 0, .int .i64 0] 68)) (.cells #[.int .i64 0, .int .i64 0, .int .i64 0] 78)
 have b1 := Lib.hid (below_then (pw_below_drewN b0 (nd + nd2)) (pw_below_drewN b0 (nd + nd2)).size hB1)
 clear hB1 b0
 go_wp2_with fail
 refine (clock_Second.calls a _ _ HS.out).mono ?_
 rintro e w' ⟨rfl, ⟨nd3, rfl⟩⟩
 go_wp2
 refine bodyPost_ret (v := .tuple #[.agg #[.int .i64 y, .int .i64 m, .int .i64 d], .agg #[.int .i64 (s / 3600), .int .i64 (s / 60 % 60), .int .i64 (s % 60)], .int .i64 0]) (by simp [results, Tryd.results62, go_sem, p0, p1, p2, q0, q1, q2, fp0, fp1, fp2, fq0, fq1, fq2, hz, hz0]) rfl ⟨rfl, ?_⟩
 repeat (with_reducible first | exact b1.out | refine below_set ?_ (by simp; done) | apply pw_below_drewN | apply below_alloc)
set_option maxHeartbeats 4000000 in
set_option maxRecDepth 100000 in
theorem format_no (a : Int) (w : World) (hR : clock_Right.f a = some false) :
  Calls Tryd.prog 39 #[.int .i64 a] w fun e w' => e = .returned (.tuple #[.string ⟨#[]⟩, .int .i64 2]) ∧ Below w.heap.size w w' := by
 go_enter Tryd.func39, Tryd.ntmps39
 go_wp2_with fail
 refine (parts_no a _ hR).mono ?_
 rintro e w1 ⟨rfl, hB1⟩
 go_wp2
 go_ret2
 exact ⟨rfl, below_alloc (below_alloc hB1 _) _⟩
/-- The bytes of seconds. -/
def timeBytes (y m d s : Int) : List UInt8 := dateBytes y m d ++ [84] ++ [db (s / 3600) 10, db (s / 3600) 1] ++ [db (s / 60 % 60) 10, db (s / 60 % 60) 1] ++ [db (s % 60) 10, db (s % 60) 1]
theorem time_cells (y m d s : Int) : Lib.byteCells (dateBytes y m d ++ [84]) ++ [dg (s / 3600) 10, dg (s / 3600) 1] ++ [dg (s / 60 % 60) 10, dg (s / 60 % 60) 1] ++ [dg (s % 60) 10, dg (s % 60) 1] = Lib.byteCells (timeBytes y m d s) := by
 simp only [Lib.byteCells, timeBytes, List.map_append, List.map_cons, List.map_nil]
 rw [db_dg (s / 3600) 10 (by omega) (by omega), db_dg (s / 3600) 1 (by omega) (by omega), db_dg (s / 60 % 60) 10 (by omega) (by omega), db_dg (s / 60 % 60) 1 (by omega) (by omega), db_dg (s % 60) 10 (by omega) (by omega), db_dg (s % 60) 1 (by omega) (by omega)]
theorem at0 (x y z : Int) (w : World) : (Instr.index 78 (.agg #[.int .i64 x, .int .i64 y, .int .i64 z]) (.int .i64 0)).run Tryd.prog w = .ok (.int .i64 x) w := by
 simp [Instr.index, run_underlying Tryd.underlying78, asIntOf, go_sem]
theorem at1 (x y z : Int) (w : World) : (Instr.index 78 (.agg #[.int .i64 x, .int .i64 y, .int .i64 z]) (.int .i64 1)).run Tryd.prog w = .ok (.int .i64 y) w := by
 simp [Instr.index, run_underlying Tryd.underlying78, asIntOf, go_sem]
theorem at2 (x y z : Int) (w : World) : (Instr.index 78 (.agg #[.int .i64 x, .int .i64 y, .int .i64 z]) (.int .i64 2)).run Tryd.prog w = .ok (.int .i64 z) w := by
 simp [Instr.index, run_underlying Tryd.underlying78, asIntOf, go_sem]
attribute [local go_sem] at0 at1 at2
set_option maxHeartbeats 4000000 in
set_option maxRecDepth 100000 in
theorem format_yes (k : Nat) (a day y m d s : Int) (w : World) (hR : clock_Right.f a = some true) (hY : clock_Day.f a = some day) (hD : rata_Date.f k day = some (y, m, d, 0)) (hS : clock_Second.f a = some s) (hs : 0 ≤ s) (hs' : s < 86400)
  (hy : 0 ≤ y) (hy' : y ≤ 9999) (hm : 0 ≤ m) (hm' : m ≤ 99) (hd : 0 ≤ d) (hd' : d ≤ 99) :
  Calls Tryd.prog 39 #[.int .i64 a] w fun e w' => e = .returned (.tuple #[.string ⟨(timeBytes y m d s).toArray⟩, .int .i64 0]) ∧ Below w.heap.size w w' := by
 have HR := Lib.hid hR; clear hR
 have HY := Lib.hid hY; clear hY
 have HD := Lib.hid hD; clear hD
 have HS := Lib.hid hS; clear hS
 go_enter Tryd.func39, Tryd.ntmps39
 go_wp2_with fail
 refine (parts_yes k a day y m d s _ HR.out HY.out HD.out HS.out hs hs').mono ?_
 rintro e w1 ⟨rfl, hB1⟩
 go_wp2_with fail
 refine (clock_Day.calls a _ _ HY.out).mono ?_
 rintro e w' ⟨rfl, ⟨nd, rfl⟩⟩
 go_wp2_with fail
 refine (date_yes k day y m d _ HD.out hy hy' hm hm' hd hd').mono ?_
 rintro e w2 ⟨rfl, hB2⟩
 have hT : (⟨(dateBytes y m d).toArray⟩ : ByteArray).size = 8 := rfl
 generalize hds : (⟨(dateBytes y m d).toArray⟩ : ByteArray) = ds at *
 have HDS := Lib.hid hds; clear hds
 have r0 : w2.cell? ⟨w1.heap.size + 1, 0, none⟩ = some (.int .i64 (s / 3600)) := pw_cell_below hB2 (by go_simp)
 have r1 : w2.cell? ⟨w1.heap.size + 1, 1, none⟩ = some (.int .i64 (s / 60 % 60)) := pw_cell_below hB2 (by go_simp)
 have r2 : w2.cell? ⟨w1.heap.size + 1, 2, none⟩ = some (.int .i64 (s % 60)) := pw_cell_below hB2 (by go_simp)
 have hz2 : w1.heap.size + 1 < w2.heap.size := by have := hB2.size; simp at this; omega
 have hcat : (9223372036854775807 < ds.size + 1) = False := eq_false (by omega)
 have HT := Lib.hid hT; clear hT
 have B1 := below_alloc (below_alloc hB1 (.cells #[.int .i64 y, .int .i64 m, .int .i64 d] 68)) (.cells #[.int .i64 (s / 3600), .int .i64 (s / 60 % 60), .int .i64 (s % 60)] 78)
 have B2 := Lib.hid (below_then (pw_below_drewN B1 nd) (pw_below_drewN B1 nd).size hB2)
 clear hB1 hB2 B1
 go_wp2_with fail
 have i0 : IsB w2.heap.size w2.heap.size [] (w2.alloc (.cells #[.pointer none, .slice none 0 0] 73)) := Lib.fresh_isBuilder _ _ _
 refine (writeString _ _ _ _ _ i0 (by rw [ByteArray.size_append, HT.out]; decide) (by simp)).mono ?_
 rintro e w3 ⟨rfl, h3, hB3⟩
 clear hcat
 have i1 : IsB w2.heap.size w2.heap.size (Lib.byteCells (dateBytes y m d ++ [84])) w3 := by
  have e : ([] ++ Lib.strCells (ds ++ ⟨#[84]⟩) : List Value) = Lib.byteCells (dateBytes y m d ++ [84]) := by
   rw [← HDS.out]; simp [Lib.strCells, Lib.byteCells]
  rw [e] at h3
  exact isB_of h3
 have q0 : w3.cell? ⟨w1.heap.size + 1, 0, none⟩ = some (.int .i64 (s / 3600)) := (hB3.cell (p := ⟨w1.heap.size + 1, 0, none⟩) hz2).trans (kept _ r0)
 have q1 : w3.cell? ⟨w1.heap.size + 1, 1, none⟩ = some (.int .i64 (s / 60 % 60)) := (hB3.cell (p := ⟨w1.heap.size + 1, 1, none⟩) hz2).trans (kept _ r1)
 have q2 : w3.cell? ⟨w1.heap.size + 1, 2, none⟩ = some (.int .i64 (s % 60)) := (hB3.cell (p := ⟨w1.heap.size + 1, 2, none⟩) hz2).trans (kept _ r2)
 clear r0 r1 r2 h3 i0
 have hz3 : w2.heap.size ≤ w3.heap.size := by have := hB3.size; simp at this; omega
 go_wp2
 go_loopw [31] (fun i wr => (i = .int .i64 0 ∧ IsB w2.heap.size w2.heap.size (Lib.byteCells (dateBytes y m d ++ [84])) wr ∧ Below w2.heap.size w3 wr) ∨ (i = .int .i64 1 ∧ IsB w2.heap.size w2.heap.size ((Lib.byteCells (dateBytes y m d ++ [84])) ++ [dg (s / 3600) 10, dg (s / 3600) 1]) wr ∧ Below w2.heap.size w3 wr) ∨ (i = .int .i64 2 ∧ IsB w2.heap.size w2.heap.size (((Lib.byteCells (dateBytes y m d ++ [84])) ++ [dg (s / 3600) 10, dg (s / 3600) 1]) ++ [dg (s / 60 % 60) 10, dg (s / 60 % 60) 1]) wr ∧ Below w2.heap.size w3 wr) ∨ (i = .int .i64 3 ∧ IsB w2.heap.size w2.heap.size ((((Lib.byteCells (dateBytes y m d ++ [84])) ++ [dg (s / 3600) 10, dg (s / 3600) 1]) ++ [dg (s / 60 % 60) 10, dg (s / 60 % 60) 1]) ++ [dg (s % 60) 10, dg (s % 60) 1]) wr ∧ Below w2.heap.size w3 wr)) (fun i _ => (3 - intOf i).toNat)
 case atStart => exact Or.inl ⟨rfl, i1, Below.refl _ _⟩
 case round =>
  rcases hrel with ⟨rfl, hI, hB⟩ | ⟨rfl, hI, hB⟩ | ⟨rfl, hI, hB⟩ | ⟨rfl, hI, hB⟩
  ·have hz := Nat.le_trans hz3 hB.size
   go_wp2_with fail
   refine (two _ _ _ (s / 3600) wr (by omega) (by omega) hI (by simp [Lib.byteCells, dateBytes]) hz).mono ?_
   rintro e w4 ⟨rfl, hI1, hBx⟩
   go_wp2
   go_roundw
   case rel => exact Or.inr (Or.inl ⟨rfl, hI1, hB.trans hBx⟩)
   case measure => simp [intOf]
  ·have hz := Nat.le_trans hz3 hB.size
   go_wp2_with fail
   refine (two _ _ _ (s / 60 % 60) wr (by omega) (by omega) hI (by simp [Lib.byteCells, dateBytes]) hz).mono ?_
   rintro e w4 ⟨rfl, hI1, hBx⟩
   go_wp2
   go_roundw
   case rel => exact Or.inr (Or.inr (Or.inl ⟨rfl, hI1, hB.trans hBx⟩))
   case measure => simp [intOf]
  ·have hz := Nat.le_trans hz3 hB.size
   go_wp2_with fail
   refine (two _ _ _ (s % 60) wr (by omega) (by omega) hI (by simp [Lib.byteCells, dateBytes]) hz).mono ?_
   rintro e w4 ⟨rfl, hI1, hBx⟩
   go_wp2
   go_roundw
   case rel => exact Or.inr (Or.inr (Or.inr (⟨rfl, hI1, hB.trans hBx⟩)))
   case measure => simp [intOf]
  ·have hz := Nat.le_trans hz3 hB.size
   rw [time_cells] at hI
   go_wp2_with fail
   refine (toString _ _ _ wr hI hz).mono ?_
   rintro e w5 ⟨rfl, hB5⟩
   have hE := (hB3.trans hB).trans hB5
   have hF : Below w.heap.size w w5 := (below_alloc B2.out _).trans (hE.mono B2.out.size)
   have HF := Lib.hid hF
   clear hE hF hB hB3 hB5 hI i1
   go_wp2
   go_ret2
   exact ⟨rfl, HF.out⟩
end Go.Proofs.YthppkdbelmolbaaDoor.Fmt
-- written by a program of this session (wip/own_print.sh)
namespace Go.Proofs.YthppkdbelmolbaaDoor.Q
open Go.RowKit Go.Proofs.YthppkdbelmolbaaDoorW.PrintWords Go.Proofs.YthppkdbelmolbaaDoorW.PrintLast Go.Proofs.YthppkdbelmolbaaDoorW.PrintMore
attribute [local go_sem] max2_int min2_int max_two min_two max_three min_three max_four min_four   -- for this text's walks alone
set_option linter.unusedVariables false
set_option linter.unusedSimpArgs false
/-! ### clock_FormatDate: function 37 -/
-- GIVEN tryst/clock.FormatDate	["i64"]	["str", "i64"]	1	1
-- IMPORT Fmt
def clock_FormatDate.f (k : Nat) (a0 : Int) : Option (ByteArray × Int) := (rata_Date.f k a0).bind fun bt => if bt.2.2.2 = 0 then (if 0 ≤ bt.1 ∧ bt.1 ≤ 9999 ∧ 0 ≤ bt.2.1 ∧ bt.2.1 ≤ 99 ∧ 0 ≤ bt.2.2.1 ∧ bt.2.2.1 ≤ 99 then some (⟨(Fmt.dateBytes bt.1 bt.2.1 bt.2.2.1).toArray⟩, 0) else none) else if bt.2.2.2 = 2 then some (⟨#[]⟩, 2) else none
theorem clock_FormatDate.calls (k : Nat) (a0 : Int) (r0 : ByteArray) (r1 : Int) (w : World) (h : clock_FormatDate.f k a0 = some (r0, r1)) :
  Calls Tryd.prog 37 #[.int .i64 a0] w fun e w' => e = .returned (.tuple #[.string r0, .int .i64 r1]) ∧ Below w.heap.size w w' := by
 obtain ⟨⟨y, m, d, e⟩, hD, h⟩ := Option.bind_eq_some_iff.mp h
 simp only at h
 by_cases c : e = 0
 ·subst c
  rw [if_pos rfl] at h
  by_cases c2 : 0 ≤ y ∧ y ≤ 9999 ∧ 0 ≤ m ∧ m ≤ 99 ∧ 0 ≤ d ∧ d ≤ 99
  ·rw [if_pos c2] at h
   have h' := Option.some.inj h
   simp only [Prod.mk.injEq] at h'
   obtain ⟨rfl, rfl⟩ := h'
   exact Fmt.date_yes k a0 y m d w hD c2.1 c2.2.1 c2.2.2.1 c2.2.2.2.1 c2.2.2.2.2.1 c2.2.2.2.2.2
  ·rw [if_neg c2] at h; cases h
 ·rw [if_neg c] at h
  by_cases c2 : e = 2
  ·subst c2
   rw [if_pos rfl] at h
   have h' := Option.some.inj h
   simp only [Prod.mk.injEq] at h'
   obtain ⟨rfl, rfl⟩ := h'
   exact Fmt.date_no k a0 y m d w hD
  ·rw [if_neg c2] at h; cases h

end Go.Proofs.YthppkdbelmolbaaDoor.Q
-- written by a program of this session (wip/own_print.sh)
namespace Go.Proofs.YthppkdbelmolbaaDoor.Q
open Go.RowKit Go.Proofs.YthppkdbelmolbaaDoorW.PrintWords Go.Proofs.YthppkdbelmolbaaDoorW.PrintLast Go.Proofs.YthppkdbelmolbaaDoorW.PrintMore
attribute [local go_sem] max2_int min2_int max_two min_two max_three min_three max_four min_four   -- for this text's walks alone
set_option linter.unusedVariables false
set_option linter.unusedSimpArgs false
/-! ### clock_Format: function 39 -/
-- GIVEN tryst/clock.Format	["i64"]	["str", "i64"]	1	1
-- IMPORT Fmt
def clock_Format.f (k : Nat) (a0 : Int) : Option (ByteArray × Int) := (clock_Right.f a0).bind fun b => if b = true then ((clock_Day.f a0).bind fun day => (rata_Date.f k day).bind fun bt => (clock_Second.f a0).bind fun s => if bt.2.2.2 = 0 ∧ (0 ≤ s ∧ s < 86400) ∧ (0 ≤ bt.1 ∧ bt.1 ≤ 9999 ∧ 0 ≤ bt.2.1 ∧ bt.2.1 ≤ 99 ∧ 0 ≤ bt.2.2.1 ∧ bt.2.2.1 ≤ 99) then some (⟨(Fmt.timeBytes bt.1 bt.2.1 bt.2.2.1 s).toArray⟩, 0) else none) else some (⟨#[]⟩, 2)
theorem clock_Format.calls (k : Nat) (a0 : Int) (r0 : ByteArray) (r1 : Int) (w : World) (h : clock_Format.f k a0 = some (r0, r1)) :
  Calls Tryd.prog 39 #[.int .i64 a0] w fun e w' => e = .returned (.tuple #[.string r0, .int .i64 r1]) ∧ Below w.heap.size w w' := by
 obtain ⟨b, hR, h⟩ := Option.bind_eq_some_iff.mp h
 cases b
 ·rw [if_neg (by simp)] at h
  have h' := Option.some.inj h
  simp only [Prod.mk.injEq] at h'
  obtain ⟨rfl, rfl⟩ := h'
  exact Fmt.format_no a0 w hR
 ·rw [if_pos rfl] at h
  obtain ⟨day, hY, h1⟩ := Option.bind_eq_some_iff.mp h
  obtain ⟨⟨y, m, d, e⟩, hD, h2⟩ := Option.bind_eq_some_iff.mp h1
  obtain ⟨s, hS, h3⟩ := Option.bind_eq_some_iff.mp h2
  clear h h1 h2
  simp only at h3
  by_cases c : e = 0 ∧ (0 ≤ s ∧ s < 86400) ∧ (0 ≤ y ∧ y ≤ 9999 ∧ 0 ≤ m ∧ m ≤ 99 ∧ 0 ≤ d ∧ d ≤ 99)
  ·rw [if_pos c] at h3
   have h' := Option.some.inj h3
   clear h3
   simp only [Prod.mk.injEq] at h'
   obtain ⟨rfl, rfl⟩ := h'
   obtain ⟨rfl, ⟨s0, s1⟩, c1, c2, c3, c4, c5, c6⟩ := c
   exact Fmt.format_yes k a0 day y m d s w hR hY hD hS s0 s1 c1 c2 c3 c4 c5 c6
  ·rw [if_neg c] at h3; cases h3

end Go.Proofs.YthppkdbelmolbaaDoor.Q
