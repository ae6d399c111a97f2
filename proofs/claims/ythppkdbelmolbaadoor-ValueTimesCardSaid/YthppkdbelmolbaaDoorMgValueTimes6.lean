/- Texts of this claim, merged: Build, Digits, QrataC. -/
import Derived.Shelf.Strings.Builder1
import Derived.Test.YthppkdbelmolbaaDoorProg
import Derived.Test.YthppkdbelmolbaaDoorMgValueTimes1
import Derived.LoopTactic
import Derived.Lib.Hide
import Derived.Test.YthppkdbelmolbaaDoorMgValueTimes2
import Derived.Test.YthppkdbelmolbaaDoorMgValueTimes3
/- The library's contracts of strings.Builder (WriteByte, WriteString, String), as theorems of this program. -/
namespace Go.Proofs.YthppkdbelmolbaaDoor.Build
open Go.Shelf Go.RowKit
def ren : Go.Shelf.Ren := ⟨fun | 166 => 63 | 167 => 80 | 169 => 60 | 240 => 81 | 276 => 107 | n => n, fun | 0 => 0 | 3 => 3 | 4 => 4 | 5 => 5 | 9 => 9 | 20 => 20 | 37 => 62 | 70 => 71 | 72 => 73 | 75 => 82 | 80 => 75 | 127 => 97 | 164 => 108 | n => n, fun | n => n⟩
theorem lays167 : Go.Proofs.Lays.n167 Tryd.prog ren := {
 mixed := by kernel_rfl
 f167 := Tryd.func80.trans (congrArg some (by kernel_rfl))
 f240 := Tryd.func81.trans (congrArg some (by kernel_rfl))
 f276 := Tryd.func107.trans (congrArg some (by kernel_rfl))
 t0 := Tryd.underlying0
 a0 := Tryd.isAgg0
 z0 := Tryd.sizeOf0
 v0 := Tryd.zeroValue0
 t4 := Tryd.underlying4
 a4 := Tryd.isAgg4
 z4 := Tryd.sizeOf4
 v4 := Tryd.zeroValue4
 t5 := Tryd.underlying5
 a5 := Tryd.isAgg5
 z5 := Tryd.sizeOf5
 v5 := Tryd.zeroValue5
 t9 := Tryd.underlying9
 a9 := Tryd.isAgg9
 z9 := Tryd.sizeOf9
 v9 := Tryd.zeroValue9
 t20 := Tryd.underlying20
 a20 := Tryd.isAgg20
 z20 := Tryd.sizeOf20
 v20 := Tryd.zeroValue20
 t37 := Tryd.underlying62
 a37 := Tryd.isAgg62
 z37 := Tryd.sizeOf62
 v37 := Tryd.zeroValue62
 t70 := Tryd.underlying71
 a70 := Tryd.isAgg71
 z70 := Tryd.sizeOf71
 v70 := Tryd.zeroValue71
 t72 := Tryd.underlying73
 a72 := Tryd.isAgg73
 z72 := Tryd.sizeOf73
 v72 := Tryd.zeroValue73
 t75 := Tryd.underlying82
 a75 := Tryd.isAgg82
 z75 := Tryd.sizeOf82
 v75 := Tryd.zeroValue82
 t164 := Tryd.underlying108
 a164 := Tryd.isAgg108
 z164 := Tryd.sizeOf108
 v164 := Tryd.zeroValue108 }
theorem lays166 : Go.Proofs.Lays.n166 Tryd.prog ren := {
 mixed := by kernel_rfl
 f166 := Tryd.func63.trans (congrArg some (by kernel_rfl))
 f240 := Tryd.func81.trans (congrArg some (by kernel_rfl))
 f276 := Tryd.func107.trans (congrArg some (by kernel_rfl))
 t0 := Tryd.underlying0
 a0 := Tryd.isAgg0
 z0 := Tryd.sizeOf0
 v0 := Tryd.zeroValue0
 t3 := Tryd.underlying3
 a3 := Tryd.isAgg3
 z3 := Tryd.sizeOf3
 v3 := Tryd.zeroValue3
 t4 := Tryd.underlying4
 a4 := Tryd.isAgg4
 z4 := Tryd.sizeOf4
 v4 := Tryd.zeroValue4
 t9 := Tryd.underlying9
 a9 := Tryd.isAgg9
 z9 := Tryd.sizeOf9
 v9 := Tryd.zeroValue9
 t20 := Tryd.underlying20
 a20 := Tryd.isAgg20
 z20 := Tryd.sizeOf20
 v20 := Tryd.zeroValue20
 t37 := Tryd.underlying62
 a37 := Tryd.isAgg62
 z37 := Tryd.sizeOf62
 v37 := Tryd.zeroValue62
 t70 := Tryd.underlying71
 a70 := Tryd.isAgg71
 z70 := Tryd.sizeOf71
 v70 := Tryd.zeroValue71
 t72 := Tryd.underlying73
 a72 := Tryd.isAgg73
 z72 := Tryd.sizeOf73
 v72 := Tryd.zeroValue73
 t75 := Tryd.underlying82
 a75 := Tryd.isAgg82
 z75 := Tryd.sizeOf82
 v75 := Tryd.zeroValue82
 t164 := Tryd.underlying108
 a164 := Tryd.isAgg108
 z164 := Tryd.sizeOf108
 v164 := Tryd.zeroValue108 }
theorem lays169 : Go.Proofs.Lays.n169 Tryd.prog ren := {
 mixed := by kernel_rfl
 f169 := Tryd.func60.trans (congrArg some (by kernel_rfl))
 t0 := Tryd.underlying0
 a0 := Tryd.isAgg0
 z0 := Tryd.sizeOf0
 v0 := Tryd.zeroValue0
 t3 := Tryd.underlying3
 a3 := Tryd.isAgg3
 z3 := Tryd.sizeOf3
 v3 := Tryd.zeroValue3
 t9 := Tryd.underlying9
 a9 := Tryd.isAgg9
 z9 := Tryd.sizeOf9
 v9 := Tryd.zeroValue9
 t37 := Tryd.underlying62
 a37 := Tryd.isAgg62
 z37 := Tryd.sizeOf62
 v37 := Tryd.zeroValue62
 t70 := Tryd.underlying71
 a70 := Tryd.isAgg71
 z70 := Tryd.sizeOf71
 v70 := Tryd.zeroValue71
 t72 := Tryd.underlying73
 a72 := Tryd.isAgg73
 z72 := Tryd.sizeOf73
 v72 := Tryd.zeroValue73
 t127 := Tryd.underlying97
 a127 := Tryd.isAgg97
 z127 := Tryd.sizeOf97
 v127 := Tryd.zeroValue97 }
theorem extra : Go.Proofs.Builder.Extra Tryd.prog ren := {
 sizeBuilder := by kernel_rfl
 liesBuilder := by kernel_rfl
 t5 := Tryd.underlying5
 a5 := Tryd.isAgg5
 z5 := Tryd.sizeOf5
 v5 := Tryd.zeroValue5
 infoByte := by kernel_rfl
 cellsByte := by kernel_rfl
 sizeByte := by kernel_rfl
 neB5 := by decide }
theorem writeByte (B b : Nat) (bs : List Value) (c : Int) (w : World) (h : Lib.IsBuilder 73 5 B b bs w) (hlen : bs.length + 1 ≤ 140737488355328) (hBw : B ≤ w.heap.size) :
  Calls Tryd.prog 80 #[.pointer (some ⟨b, 0, none⟩), .int .u8 c] w fun e w' => e = .returned .nilIface ∧ (Lib.BuilderAt 73 5 B b (.pointer (some ⟨b, 0, none⟩)) (bs ++ [.int .u8 c]) w' ∧ Below B w w') :=
 Go.Proofs.Any.Builder_WriteByte lays167 extra B b bs c w h hlen hBw
theorem writeString (B b : Nat) (bs : List Value) (s : ByteArray) (w : World) (h : Lib.IsBuilder 73 5 B b bs w) (hlen : bs.length + s.size ≤ 140737488355328) (hBw : B ≤ w.heap.size) :
  Calls Tryd.prog 63 #[.pointer (some ⟨b, 0, none⟩), .string s] w fun e w' => e = .returned (.tuple #[.int .i64 s.size, .nilIface]) ∧ (Lib.BuilderAt 73 5 B b (.pointer (some ⟨b, 0, none⟩)) (bs ++ Lib.strCells s) w' ∧ Below B w w') :=
 Go.Proofs.Any.Builder_WriteString lays166 extra B b bs s w h hlen hBw
theorem toString (B b : Nat) (l : List UInt8) (w : World) (h : Lib.IsBuilder 73 5 B b (Lib.byteCells l) w) (hBw : B ≤ w.heap.size) :
  Calls Tryd.prog 60 #[.pointer (some ⟨b, 0, none⟩)] w fun e w' => e = .returned (.string ⟨l.toArray⟩) ∧ Below B w w' :=
 Go.Proofs.Any.Builder_String_any lays169 extra B b l w h hBw
end Go.Proofs.YthppkdbelmolbaaDoor.Build
/- What clock.digits writes: two or four digits of a number, behind what a builder holds. -/
namespace Go.Proofs.YthppkdbelmolbaaDoor.Digits
open Go.RowKit Go.Proofs.YthppkdbelmolbaaDoorW.PrintWords Go.Proofs.YthppkdbelmolbaaDoorW.PrintLast Go.Proofs.YthppkdbelmolbaaDoor.Build
set_option linter.unusedVariables false
set_option linter.unusedSimpArgs false
/-- A digit's byte. -/
def dg (n b : Int) : Value := .int .u8 (48 + n / b % 10)
def IsB (B b : Nat) (bs : List Value) (w : World) : Prop := Lib.IsBuilder 73 5 B b bs w
theorem isB_of {B b : Nat} {bs : List Value} {w : World} (h : Lib.BuilderAt 73 5 B b (.pointer (some ⟨b, 0, none⟩)) bs w) : IsB B b bs w := Or.inr h
set_option maxHeartbeats 4000000 in
set_option maxRecDepth 100000 in
theorem two (B b : Nat) (bs : List Value) (n : Int) (w : World) (hn : 0 ≤ n) (hn' : n ≤ 99999) (h : IsB B b bs w) (hl : bs.length ≤ 100000) (hBw : B ≤ w.heap.size) :
  Calls Tryd.prog 59 #[.pointer (some ⟨b, 0, none⟩), .int .i64 n, .int .i64 2] w fun e w' => e = .returned (.tuple #[]) ∧ IsB B b (bs ++ [dg n 10, dg n 1]) w' ∧ Below B w w' := by
 go_enter Tryd.func59, Tryd.ntmps59
 go_wp2
 go_loop [6, 9] (fun y i => (y = .int .i64 1 ∧ i = .int .i64 0) ∨ (y = .int .i64 10 ∧ i = .int .i64 1)) (fun _ i => (1 - intOf i).toNat)
 case atStart => exact Or.inl ⟨rfl, rfl⟩
 case round =>
  rcases hrel with ⟨rfl, rfl⟩ | ⟨rfl, rfl⟩
  ·go_wp2
   go_round
   case rel => exact Or.inr (⟨rfl, rfl⟩)
   case measure => simp [intOf]
  ·go_wp2
   go_loopw [6] (fun y wr => (y = .int .i64 10 ∧ IsB B b bs wr ∧ Below B w wr) ∨ (y = .int .i64 1 ∧ IsB B b (bs ++ [dg n 10]) wr ∧ Below B w wr) ∨ (y = .int .i64 0 ∧ IsB B b (bs ++ [dg n 10, dg n 1]) wr ∧ Below B w wr)) (fun y _ => (intOf y).toNat)
   case atStart => exact Or.inl ⟨rfl, h, Below.refl _ _⟩
   case round =>
    rcases hrel with ⟨rfl, hI, hB⟩ | ⟨rfl, hI, hB⟩ | ⟨rfl, hI, hB⟩
    ·have hz := Nat.le_trans hBw hB.size
     go_wp2_with fail
     refine (writeByte B b _ _ wr hI (by simp; omega) hz).mono ?_
     rintro e w1 ⟨rfl, hI1, hB1⟩
     go_wp2
     go_roundw
     case rel => exact Or.inr (Or.inl ⟨rfl, by simpa [dg] using isB_of hI1, hB.trans hB1⟩)
     case measure => simp [intOf]
    ·have hz := Nat.le_trans hBw hB.size
     go_wp2_with fail
     refine (writeByte B b _ _ wr hI (by simp; omega) hz).mono ?_
     rintro e w1 ⟨rfl, hI1, hB1⟩
     go_wp2
     go_roundw
     case rel => exact Or.inr (Or.inr (⟨rfl, by simpa [dg] using isB_of hI1, hB.trans hB1⟩))
     case measure => simp [intOf]
    ·go_wp2
     go_end0
     exact ⟨rfl, hI, hB⟩
set_option maxHeartbeats 4000000 in
set_option maxRecDepth 100000 in
theorem four (B b : Nat) (bs : List Value) (n : Int) (w : World) (hn : 0 ≤ n) (hn' : n ≤ 99999) (h : IsB B b bs w) (hl : bs.length ≤ 100000) (hBw : B ≤ w.heap.size) :
  Calls Tryd.prog 59 #[.pointer (some ⟨b, 0, none⟩), .int .i64 n, .int .i64 4] w fun e w' => e = .returned (.tuple #[]) ∧ IsB B b (bs ++ [dg n 1000, dg n 100, dg n 10, dg n 1]) w' ∧ Below B w w' := by
 go_enter Tryd.func59, Tryd.ntmps59
 go_wp2
 go_loop [6, 9] (fun y i => (y = .int .i64 1 ∧ i = .int .i64 0) ∨ (y = .int .i64 10 ∧ i = .int .i64 1) ∨ (y = .int .i64 100 ∧ i = .int .i64 2) ∨ (y = .int .i64 1000 ∧ i = .int .i64 3)) (fun _ i => (3 - intOf i).toNat)
 case atStart => exact Or.inl ⟨rfl, rfl⟩
 case round =>
  rcases hrel with ⟨rfl, rfl⟩ | ⟨rfl, rfl⟩ | ⟨rfl, rfl⟩ | ⟨rfl, rfl⟩
  ·go_wp2
   go_round
   case rel => exact Or.inr (Or.inl ⟨rfl, rfl⟩)
   case measure => simp [intOf]
  ·go_wp2
   go_round
   case rel => exact Or.inr (Or.inr (Or.inl ⟨rfl, rfl⟩))
   case measure => simp [intOf]
  ·go_wp2
   go_round
   case rel => exact Or.inr (Or.inr (Or.inr (⟨rfl, rfl⟩)))
   case measure => simp [intOf]
  ·go_wp2
   go_loopw [6] (fun y wr => (y = .int .i64 1000 ∧ IsB B b bs wr ∧ Below B w wr) ∨ (y = .int .i64 100 ∧ IsB B b (bs ++ [dg n 1000]) wr ∧ Below B w wr) ∨ (y = .int .i64 10 ∧ IsB B b (bs ++ [dg n 1000, dg n 100]) wr ∧ Below B w wr) ∨ (y = .int .i64 1 ∧ IsB B b (bs ++ [dg n 1000, dg n 100, dg n 10]) wr ∧ Below B w wr) ∨ (y = .int .i64 0 ∧ IsB B b (bs ++ [dg n 1000, dg n 100, dg n 10, dg n 1]) wr ∧ Below B w wr)) (fun y _ => (intOf y).toNat)
   case atStart => exact Or.inl ⟨rfl, h, Below.refl _ _⟩
   case round =>
    rcases hrel with ⟨rfl, hI, hB⟩ | ⟨rfl, hI, hB⟩ | ⟨rfl, hI, hB⟩ | ⟨rfl, hI, hB⟩ | ⟨rfl, hI, hB⟩
    ·have hz := Nat.le_trans hBw hB.size
     go_wp2_with fail
     refine (writeByte B b _ _ wr hI (by simp; omega) hz).mono ?_
     rintro e w1 ⟨rfl, hI1, hB1⟩
     go_wp2
     go_roundw
     case rel => exact Or.inr (Or.inl ⟨rfl, by simpa [dg] using isB_of hI1, hB.trans hB1⟩)
     case measure => simp [intOf]
    ·have hz := Nat.le_trans hBw hB.size
     go_wp2_with fail
     refine (writeByte B b _ _ wr hI (by simp; omega) hz).mono ?_
     rintro e w1 ⟨rfl, hI1, hB1⟩
     go_wp2
     go_roundw
     case rel => exact Or.inr (Or.inr (Or.inl ⟨rfl, by simpa [dg] using isB_of hI1, hB.trans hB1⟩))
     case measure => simp [intOf]
    ·have hz := Nat.le_trans hBw hB.size
     go_wp2_with fail
     refine (writeByte B b _ _ wr hI (by simp; omega) hz).mono ?_
     rintro e w1 ⟨rfl, hI1, hB1⟩
     go_wp2
     go_roundw
     case rel => exact Or.inr (Or.inr (Or.inr (Or.inl ⟨rfl, by simpa [dg] using isB_of hI1, hB.trans hB1⟩)))
     case measure => simp [intOf]
    ·have hz := Nat.le_trans hBw hB.size
     go_wp2_with fail
     refine (writeByte B b _ _ wr hI (by simp; omega) hz).mono ?_
     rintro e w1 ⟨rfl, hI1, hB1⟩
     go_wp2
     go_roundw
     case rel => exact Or.inr (Or.inr (Or.inr (Or.inr (⟨rfl, by simpa [dg] using isB_of hI1, hB.trans hB1⟩))))
     case measure => simp [intOf]
    ·go_wp2
     go_end0
     exact ⟨rfl, hI, hB⟩
end Go.Proofs.YthppkdbelmolbaaDoor.Digits
-- written by a program of this session (wip/own_print.sh)
namespace Go.Proofs.YthppkdbelmolbaaDoor.Q
open Go.RowKit Go.Proofs.YthppkdbelmolbaaDoorW.PrintWords Go.Proofs.YthppkdbelmolbaaDoorW.PrintLast Go.Proofs.YthppkdbelmolbaaDoorW.PrintMore
attribute [local go_sem] max2_int min2_int max_two min_two max_three min_three max_four min_four   -- for this text's walks alone
set_option linter.unusedVariables false
set_option linter.unusedSimpArgs false
/-! ### rata_Year: function 77 -/
def rata_Year.f (a0 : Int) : Option (Int) := (rata_Floor.f (wrap64 (a0 - 1)) 146097).bind fun t333 => ((rata_Mod.f (wrap64 (a0 - 1)) 146097).bind fun t334 => (some (wrap64 ((wrap64 ((wrap64 ((wrap64 ((wrap64 (400 * t333)) + (wrap64 (100 * (mn (wrap64 (Int.tdiv t334 36524)) 3))))) + (wrap64 (4 * (wrap64 (Int.tdiv (wrap64 (t334 - (wrap64 (36524 * (mn (wrap64 (Int.tdiv t334 36524)) 3))))) 1461)))))) + (mn (wrap64 (Int.tdiv (Int.tmod (wrap64 (t334 - (wrap64 (36524 * (mn (wrap64 (Int.tdiv t334 36524)) 3))))) 1461) 365)) 3))) + 1))))
set_option maxHeartbeats 8000000 in
set_option maxRecDepth 100000 in
theorem rata_Year.calls (a0 : Int) (r : Int) (w : World) (h : rata_Year.f a0 = some r) :
  Calls Tryd.prog 77 #[.int .i64 a0] w fun e w' => e = .returned (.int .i64 r) ∧ Below w.heap.size w w' := by
 have HB := Aside0.mk (Below.refl w.heap.size w)
 have H : ((rata_Floor.f (wrap64 (a0 - 1)) 146097).bind fun t333 => ((rata_Mod.f (wrap64 (a0 - 1)) 146097).bind fun t334 => (some (wrap64 ((wrap64 ((wrap64 ((wrap64 ((wrap64 (400 * t333)) + (wrap64 (100 * (mn (wrap64 (Int.tdiv t334 36524)) 3))))) + (wrap64 (4 * (wrap64 (Int.tdiv (wrap64 (t334 - (wrap64 (36524 * (mn (wrap64 (Int.tdiv t334 36524)) 3))))) 1461)))))) + (mn (wrap64 (Int.tdiv (Int.tmod (wrap64 (t334 - (wrap64 (36524 * (mn (wrap64 (Int.tdiv t334 36524)) 3))))) 1461) 365)) 3))) + 1))))) = some r := h
 clear h
 replace H := Option.bind_eq_some_iff.mp H
 obtain ⟨t333, A20, H⟩ := H
 replace H : ((rata_Mod.f (wrap64 (a0 - 1)) 146097).bind fun t334 => (some (wrap64 ((wrap64 ((wrap64 ((wrap64 ((wrap64 (400 * t333)) + (wrap64 (100 * (mn (wrap64 (Int.tdiv t334 36524)) 3))))) + (wrap64 (4 * (wrap64 (Int.tdiv (wrap64 (t334 - (wrap64 (36524 * (mn (wrap64 (Int.tdiv t334 36524)) 3))))) 1461)))))) + (mn (wrap64 (Int.tdiv (Int.tmod (wrap64 (t334 - (wrap64 (36524 * (mn (wrap64 (Int.tdiv t334 36524)) 3))))) 1461) 365)) 3))) + 1)))) = some r := H
 have A2 := Aside0.mk A20
 clear A20
 replace H := Option.bind_eq_some_iff.mp H
 obtain ⟨t334, A30, H⟩ := H
 replace H : (some (wrap64 ((wrap64 ((wrap64 ((wrap64 ((wrap64 (400 * t333)) + (wrap64 (100 * (mn (wrap64 (Int.tdiv t334 36524)) 3))))) + (wrap64 (4 * (wrap64 (Int.tdiv (wrap64 (t334 - (wrap64 (36524 * (mn (wrap64 (Int.tdiv t334 36524)) 3))))) 1461)))))) + (mn (wrap64 (Int.tdiv (Int.tmod (wrap64 (t334 - (wrap64 (36524 * (mn (wrap64 (Int.tdiv t334 36524)) 3))))) 1461) 365)) 3))) + 1))) = some r := H
 have A3 := Aside0.mk A30
 clear A30
 obtain ⟨ji4, hji4⟩ : ∃ j_ : Int, (mn (wrap64 (Int.tdiv t334 36524)) 3) = j_ := ⟨_, rfl⟩
 replace H : (some (wrap64 ((wrap64 ((wrap64 ((wrap64 ((wrap64 (400 * t333)) + (wrap64 (100 * (ji4))))) + (wrap64 (4 * (wrap64 (Int.tdiv (wrap64 (t334 - (wrap64 (36524 * (ji4))))) 1461)))))) + (mn (wrap64 (Int.tdiv (Int.tmod (wrap64 (t334 - (wrap64 (36524 * (ji4))))) 1461) 365)) 3))) + 1))) = some r := by first | (rw [hji4] at H; exact H) | (simp only [hji4] at H ⊢; exact H)
 (try rw [hji4] at A2)
 (try rw [hji4] at A3)
 (try (have hji4h : ji4 ≤ 3 := by (rw [← hji4]; unfold mn; (repeat' split) <;> omega)))
 (try (have hji4g : ji4 ≤ 64 := by omega))
 have hji4_ : (if 3 < (wrap64 (Int.tdiv t334 36524)) then 3 else (wrap64 (Int.tdiv t334 36524))) = ji4 := hji4
 obtain ⟨ji5, hji5⟩ : ∃ j_ : Int, (mn (wrap64 (Int.tdiv (Int.tmod (wrap64 (t334 - (wrap64 (36524 * (ji4))))) 1461) 365)) 3) = j_ := ⟨_, rfl⟩
 replace H : (some (wrap64 ((wrap64 ((wrap64 ((wrap64 ((wrap64 (400 * t333)) + (wrap64 (100 * (ji4))))) + (wrap64 (4 * (wrap64 (Int.tdiv (wrap64 (t334 - (wrap64 (36524 * (ji4))))) 1461)))))) + (ji5))) + 1))) = some r := by first | (rw [hji5] at H; exact H) | (simp only [hji5] at H ⊢; exact H)
 (try rw [hji5] at A2)
 (try rw [hji5] at A3)
 have hji5_ : (if 3 < (wrap64 (Int.tdiv (Int.tmod (wrap64 (t334 - (wrap64 (36524 * (ji4))))) 1461) 365)) then 3 else (wrap64 (Int.tdiv (Int.tmod (wrap64 (t334 - (wrap64 (36524 * (ji4))))) 1461) 365))) = ji5 := hji5
 obtain rfl := Option.some.inj H
 go_enter Tryd.func77, Tryd.ntmps77
 go_wp2_with (first | ((with_reducible refine gate_callee (f := 104) rfl ?_); refine goesL_ (some 10) rfl rfl Tryd.func104 (by kernel_rfl) rfl #[.int .i64 (wrap64 (a0 - 1)), .int .i64 146097] rfl (by (try simp only [List.map_toArray, List.map_cons, List.map_nil]); first | done | rfl | (simp only [List.length_drop, List.length_take]; rfl)) ?_; (with_reducible refine (rata_Floor.calls (wrap64 (a0 - 1)) 146097 t333 _ A2.out).mono ?_); rintro e w' ⟨rfl, ⟨nd, rfl⟩⟩; refine ⟨_, rfl, ?_⟩) | ((with_reducible refine gate_callee (f := 105) rfl ?_); refine goesL_ (some 12) rfl rfl Tryd.func105 (by kernel_rfl) rfl #[.int .i64 (wrap64 (a0 - 1)), .int .i64 146097] rfl (by (try simp only [List.map_toArray, List.map_cons, List.map_nil]); first | done | rfl | (simp only [List.length_drop, List.length_take]; rfl)) ?_; (with_reducible refine (rata_Mod.calls (wrap64 (a0 - 1)) 146097 t334 _ A3.out).mono ?_); rintro e w' ⟨rfl, ⟨nd, rfl⟩⟩; refine ⟨_, rfl, ?_⟩))
 go_ret
 exact ⟨by first | rfl | (simp [errW_none, errW_some] <;> rfl) | (simp only [← hji4, ← hji5]; first | rfl | (simp [errW_none, errW_some] <;> rfl)) | (simp [*, errW_none, errW_some] <;> rfl), by repeat (first | (with_reducible first | exact HB.out | apply below_alloc | apply pw_below_drewN | apply below_drew1) | exact HB.out)⟩

/-! ### rata_Date: function 58 -/
def rata_Date.l0 : Nat → Int → Int → Int → Int → Option (Int × Int × Int × Int)
 | 0, _, _, _, _ => none
 | k + 1, x5, x339000, x339001, x339002 => (rata_Length.f k x339000 x339001).bind fun t340 => (if x5 > t340 then ((rata_Length.f k x339000 x339001).bind fun t341 => (rata_Date.l0 k (wrap64 (x5 - t341)) x339000 (wrap64 (x339001 + 1)) x339002)) else (some (x339000, x339001, x5, 0)))
def rata_Date.f (k : Nat) (a0 : Int) : Option (Int × Int × Int × Int) := (rata_Of.f a0).bind fun t336 => (if t336 = true then ((rata_Year.f a0).bind fun t337 => ((rata_ahead.f t337).bind fun t339 => (rata_Date.l0 k (wrap64 (a0 - t339)) t337 1 0))) else (some (0, 0, 0, 2)))
set_option maxHeartbeats 8000000 in
set_option maxRecDepth 100000 in
theorem rata_Date.calls (k : Nat) (a0 : Int) (r1 : Int) (r2 : Int) (r3 : Int) (r4 : Int) (w : World) (h : rata_Date.f k a0 = some (r1, r2, r3, r4)) :
  Calls Tryd.prog 58 #[.int .i64 a0] w fun e w' => e = .returned (.tuple #[.agg #[.int .i64 r1, .int .i64 r2, .int .i64 r3], .int .i64 r4]) ∧ Below w.heap.size w w' := by
 have hu68 := Tryd.underlying68
 have HB := Aside0.mk (Below.refl w.heap.size w)
 have H : ((rata_Of.f a0).bind fun t336 => (if t336 = true then ((rata_Year.f a0).bind fun t337 => ((rata_ahead.f t337).bind fun t339 => (rata_Date.l0 k (wrap64 (a0 - t339)) t337 1 0))) else (some (0, 0, 0, 2)))) = some (r1, r2, r3, r4) := h
 clear h
 replace H := Option.bind_eq_some_iff.mp H
 obtain ⟨t336, A20, H⟩ := H
 replace H : (if t336 = true then ((rata_Year.f a0).bind fun t337 => ((rata_ahead.f t337).bind fun t339 => (rata_Date.l0 k (wrap64 (a0 - t339)) t337 1 0))) else (some (0, 0, 0, 2))) = some (r1, r2, r3, r4) := H
 have A2 := Aside0.mk A20
 clear A20
 by_cases c3 : t336 = true
 ·subst c3
  have H1 : ((rata_Year.f a0).bind fun t337 => ((rata_ahead.f t337).bind fun t339 => (rata_Date.l0 k (wrap64 (a0 - t339)) t337 1 0))) = some (r1, r2, r3, r4) := by rw [if_pos rfl] at H; exact H
  clear H
  have H := H1
  clear H1
  replace H := Option.bind_eq_some_iff.mp H
  obtain ⟨t337, A40, H⟩ := H
  replace H : ((rata_ahead.f t337).bind fun t339 => (rata_Date.l0 k (wrap64 (a0 - t339)) t337 1 0)) = some (r1, r2, r3, r4) := H
  have A4 := Aside0.mk A40
  clear A40
  replace H := Option.bind_eq_some_iff.mp H
  obtain ⟨t339, A50, H⟩ := H
  replace H : (rata_Date.l0 k (wrap64 (a0 - t339)) t337 1 0) = some (r1, r2, r3, r4) := H
  have A5 := Aside0.mk A50
  clear A50
  have H' := Aside0.mk H
  clear H
  go_enter Tryd.func58, Tryd.ntmps58
  go_wp2_with (first | ((with_reducible refine gate_dst (N := 2) rfl ?_); refine box_event ?hg (N := 2) ?hd (cs := #[.int .i64 0, .int .i64 0, .int .i64 0]) (t := 68) ?hr ?_; (case hd => rfl); (case hg => rfl); (case hr => first | (go_simp; done) | (go_simp; rfl)); intro gb335 hg w6 hbox hb; have n0_ := Aside0.mk (below_step (by repeat (first | (with_reducible first | exact HB.out | apply below_alloc | apply pw_below_drewN | apply below_drew1) | exact HB.out)) hb); have n1_ := Aside0.mk (hbox); have n2_ := Aside0.mk ((by rw [hg]; exact (below_size (by repeat (first | (with_reducible first | exact HB.out | apply below_alloc | apply pw_below_drewN | apply below_drew1) | exact HB.out))) : w.heap.size ≤ gb335)); have n3_ := Aside0.mk ((by rw [hg]; exact (below_size (by repeat (first | (with_reducible first | exact HB.out | apply below_alloc | apply pw_below_drewN | apply below_drew1) | exact HB.out))) : w.heap.size ≤ gb335)); clear HB; have HB := n0_; have BK335 := n1_; have GW335 := n2_; have GE335 := n3_; clear n0_ n1_ n2_ n3_; clear hb hbox hg) | ((with_reducible refine gate_callee (f := 72) rfl ?_); refine goesL_ (some 7) rfl rfl Tryd.func72 (by kernel_rfl) rfl #[.int .i64 a0] rfl (by (try simp only [List.map_toArray, List.map_cons, List.map_nil]); first | done | rfl | (simp only [List.length_drop, List.length_take]; rfl)) ?_; (with_reducible refine (rata_Of.calls a0 true _ A2.out).mono ?_); rintro e w' ⟨rfl, ⟨nd, rfl⟩⟩; refine ⟨_, rfl, ?_⟩; (try (rw [drewN_self w6]; generalize hq_ : World.drewN w6 _ = w6; have n0_ : Aside0 (w6.heap[gb335]? = some (.cells #[.int .i64 0, .int .i64 0, .int .i64 0] 68 (0, 0))) := ⟨by rw [← hq_]; exact (by (with_reducible repeat (first | refine blk_drewN ?_ _ | refine blk_drew ?_ | refine blk_alloc ?_ _)); exact BK335.out)⟩; have n1_ : Aside0 (Below w.heap.size w w6) := ⟨by rw [← hq_]; exact (by repeat (first | (with_reducible first | exact HB.out | apply below_alloc | apply pw_below_drewN | apply below_drew1 | refine below_set ?_ GE335.out) | exact HB.out))⟩; clear BK335 HB hq_; have BK335 := n0_; have HB := n1_; clear n0_ n1_)); (try (have hcz7_0 : w6.cell? ⟨gb335, 0, none⟩ = some (.int .i64 0) := (blk_cell BK335.out 0).trans rfl; have hcz7_1 : w6.cell? ⟨gb335, 1, none⟩ = some (.int .i64 0) := (blk_cell BK335.out 1).trans rfl; have hcz7_2 : w6.cell? ⟨gb335, 2, none⟩ = some (.int .i64 0) := (blk_cell BK335.out 2).trans rfl; have hfz7_0 := blk_frozen BK335.out 0; have hfz7_1 := blk_frozen BK335.out 1; have hfz7_2 := blk_frozen BK335.out 2))) | ((with_reducible refine gate_callee (f := 77) rfl ?_); refine goesL_ (some 11) rfl rfl Tryd.func77 (by kernel_rfl) rfl #[.int .i64 a0] rfl (by (try simp only [List.map_toArray, List.map_cons, List.map_nil]); first | done | rfl | (simp only [List.length_drop, List.length_take]; rfl)) ?_; (with_reducible refine (rata_Year.calls a0 t337 _ A4.out).mono ?_); rintro e w8 ⟨rfl, hb⟩; refine ⟨_, rfl, ?_⟩; have n0_ := Aside0.mk (blk_below (g := gb335) (o := .cells #[.int .i64 0, .int .i64 0, .int .i64 0] 68 (0, 0)) (by (with_reducible repeat (first | refine blk_drewN ?_ _ | refine blk_drew ?_ | refine blk_alloc ?_ _)); exact BK335.out) hb); have n1_ := Aside0.mk (below_step (by repeat (first | (with_reducible first | exact HB.out | apply below_alloc | apply pw_below_drewN | apply below_drew1 | refine below_set ?_ GE335.out) | exact HB.out)) hb); clear BK335; clear HB; have BK335 := n0_; have HB := n1_; clear n0_ n1_; (try clear hb); (try clear hb2); (try clear hk); (try clear hi)) | ((with_reducible refine gate_dst (N := 4) rfl ?_); refine box_event ?hg (N := 4) ?hd (cs := #[.int .i64 0, .int .i64 0, .int .i64 0]) (t := 68) ?hr ?_; (case hd => rfl); (case hg => rfl); (case hr => first | (go_simp; done) | (go_simp; rfl)); intro gb338 hg w9 hbox hb; have n0_ := Aside0.mk (blk_below (g := gb335) (o := .cells #[.int .i64 0, .int .i64 0, .int .i64 0] 68 (0, 0)) (by (with_reducible repeat (first | refine blk_drewN ?_ _ | refine blk_drew ?_ | refine blk_alloc ?_ _)); exact BK335.out) hb); have n1_ := Aside0.mk (below_step (by repeat (first | (with_reducible first | exact HB.out | apply below_alloc | apply pw_below_drewN | apply below_drew1 | refine below_set ?_ GE335.out) | exact HB.out)) hb); have n2_ := Aside0.mk (hbox); have n3_ := Aside0.mk ((by rw [hg]; exact (below_size (by repeat (first | (with_reducible first | exact HB.out | apply below_alloc | apply pw_below_drewN | apply below_drew1 | refine below_set ?_ GE335.out) | exact HB.out))) : w.heap.size ≤ gb338)); have n4_ := Aside0.mk ((by rw [hg]; exact (below_size (by repeat (first | (with_reducible first | exact HB.out | apply below_alloc | apply pw_below_drewN | apply below_drew1 | refine below_set ?_ GE335.out) | exact HB.out))) : w.heap.size ≤ gb338)); have n5_ := Aside0.mk ((by rw [hg]; exact Nat.ne_of_lt (blk_lt (g := gb335) (o := .cells #[.int .i64 0, .int .i64 0, .int .i64 0] 68 (0, 0)) (by (with_reducible repeat (first | refine blk_drewN ?_ _ | refine blk_drew ?_ | refine blk_alloc ?_ _)); exact BK335.out)) : gb335 ≠ gb338)); have n6_ := Aside0.mk ((by rw [hg]; exact Nat.ne_of_gt (blk_lt (g := gb335) (o := .cells #[.int .i64 0, .int .i64 0, .int .i64 0] 68 (0, 0)) (by (with_reducible repeat (first | refine blk_drewN ?_ _ | refine blk_drew ?_ | refine blk_alloc ?_ _)); exact BK335.out)) : gb338 ≠ gb335)); clear BK335; clear HB; have BK335 := n0_; have HB := n1_; have BK338 := n2_; have GW338 := n3_; have GE338 := n4_; have NB335_338 := n5_; have NB338_335 := n6_; clear n0_ n1_ n2_ n3_ n4_ n5_ n6_; clear hb hbox hg; have hnb10 := NB338_335.out; have hnc10 := NB335_338.out; have hcz11_0 : w9.cell? ⟨gb338, 0, none⟩ = some (.int .i64 0) := (blk_cell BK338.out 0).trans rfl; have hcz11_1 : w9.cell? ⟨gb338, 1, none⟩ = some (.int .i64 0) := (blk_cell BK338.out 1).trans rfl; have hcz11_2 : w9.cell? ⟨gb338, 2, none⟩ = some (.int .i64 0) := (blk_cell BK338.out 2).trans rfl; have hfz11_0 := blk_frozen BK338.out 0; have hfz11_1 := blk_frozen BK338.out 1; have hfz11_2 := blk_frozen BK338.out 2) | ((with_reducible refine gate_callee (f := 78) rfl ?_); refine goesL_ (some 16) rfl rfl Tryd.func78 (by kernel_rfl) rfl #[.int .i64 t337] rfl (by (try simp only [List.map_toArray, List.map_cons, List.map_nil]); first | done | rfl | (simp only [List.length_drop, List.length_take]; rfl)) ?_; (with_reducible refine (rata_ahead.calls t337 t339 _ A5.out).mono ?_); rintro e w' ⟨rfl, ⟨nd, rfl⟩⟩; refine ⟨_, rfl, ?_⟩))
  go_loopg [5] k (fun kq v5 w' => ∃ (x5_1 : Int) (x339001_1 : Int), v5 = .int .i64 x5_1 ∧ Aside0 (rata_Date.l0 kq x5_1 t337 x339001_1 0 = some (r1, r2, r3, r4)) ∧ Aside0 (kq ≤ k) ∧ Aside0 (w'.heap[gb335]? = some (.cells #[.int .i64 0, .int .i64 0, .int .i64 0] 68 (0, 0))) ∧ Aside0 (w'.heap[gb338]? = some (.cells #[.int .i64 t337, .int .i64 x339001_1, .int .i64 0] 68 (0, 0))) ∧ Aside0 (Below w.heap.size w w'))
  case atStart => exact ⟨(wrap64 (a0 - t339)), (1), (by first | rfl | (simp; done) | (simp [*]; done)), H', ⟨Nat.le_refl _⟩, ⟨by (with_reducible repeat (first | refine blk_drewN ?_ _ | refine blk_drew ?_ | refine blk_alloc ?_ _)); refine blk_far ?_ NB335_338.out _; (with_reducible repeat (first | refine blk_drewN ?_ _ | refine blk_drew ?_ | refine blk_alloc ?_ _)); refine blk_far ?_ NB335_338.out _; (with_reducible repeat (first | refine blk_drewN ?_ _ | refine blk_drew ?_ | refine blk_alloc ?_ _)); refine blk_far ?_ NB335_338.out _; (with_reducible repeat (first | refine blk_drewN ?_ _ | refine blk_drew ?_ | refine blk_alloc ?_ _)); exact BK335.out⟩, ⟨by (with_reducible repeat (first | refine blk_drewN ?_ _ | refine blk_drew ?_ | refine blk_alloc ?_ _)); refine blk_put (cs := #[.int .i64 t337, .int .i64 1, .int .i64 0]) ?_ 2 _ rfl; (with_reducible repeat (first | refine blk_drewN ?_ _ | refine blk_drew ?_ | refine blk_alloc ?_ _)); refine blk_put (cs := #[.int .i64 t337, .int .i64 0, .int .i64 0]) ?_ 1 _ rfl; (with_reducible repeat (first | refine blk_drewN ?_ _ | refine blk_drew ?_ | refine blk_alloc ?_ _)); refine blk_put (cs := #[.int .i64 0, .int .i64 0, .int .i64 0]) ?_ 0 _ rfl; (with_reducible repeat (first | refine blk_drewN ?_ _ | refine blk_drew ?_ | refine blk_alloc ?_ _)); exact BK338.out⟩, ⟨by repeat (first | (with_reducible first | exact HB.out | apply below_alloc | apply pw_below_drewN | apply below_drew1 | refine below_set ?_ GE335.out | refine below_set ?_ GE338.out) | exact HB.out)⟩⟩
  case round =>
   clear H'
   try clear c1
   try clear p2
   try clear c3
   try clear c5
   try clear p6
   try clear c7
   try clear c10
   try clear hcz11_0
   try clear hcz11_1
   try clear hcz11_2
   try clear hcz7_0
   try clear hcz7_1
   try clear hcz7_2
   try clear hfz11_0
   try clear hfz11_1
   try clear hfz11_2
   try clear hfz7_0
   try clear hfz7_1
   try clear hfz7_2
   obtain ⟨x5_1, x339001_1, rfl, HA, HK1, BK335, BK338, HB⟩ := hrel
   cases gk with
   | zero => exact absurd HA.out (by simp [rata_Date.l0])
   | succ k1 =>
    have H := HA.out
    clear HA
    simp only [rata_Date.l0] at H
    replace H := Option.bind_eq_some_iff.mp H
    obtain ⟨t340, A120, H⟩ := H
    replace H : (if x5_1 > t340 then ((rata_Length.f k1 t337 x339001_1).bind fun t341 => (rata_Date.l0 k1 (wrap64 (x5_1 - t341)) t337 (wrap64 (x339001_1 + 1)) 0)) else (some (t337, x339001_1, x5_1, 0))) = some (r1, r2, r3, r4) := H
    have A12 := Aside0.mk A120
    clear A120
    by_cases c13 : x5_1 > t340
    ·rw [if_pos c13] at H
     have c13b0 : decide (t340 < x5_1) = true := decide_eq_true c13
     clear c13
     replace H := Option.bind_eq_some_iff.mp H
     obtain ⟨t341, A140, H⟩ := H
     have A14d := Option.some.inj (A12.out.symm.trans A140)
     clear A140
     subst A14d
     replace H : (rata_Date.l0 k1 (wrap64 (x5_1 - t340)) t337 (wrap64 (x339001_1 + 1)) 0) = some (r1, r2, r3, r4) := H
     have H' := Aside0.mk H
     clear H
     have hnb15 := NB338_335.out
     have hnc15 := NB335_338.out
     have hcz16_0 : wr.cell? ⟨gb338, 0, none⟩ = some (.int .i64 t337) := (blk_cell BK338.out 0).trans rfl
     have hcz16_1 : wr.cell? ⟨gb338, 1, none⟩ = some (.int .i64 x339001_1) := (blk_cell BK338.out 1).trans rfl
     have hcz16_2 : wr.cell? ⟨gb338, 2, none⟩ = some (.int .i64 0) := (blk_cell BK338.out 2).trans rfl
     have hfz16_0 := blk_frozen BK338.out 0
     have hfz16_1 := blk_frozen BK338.out 1
     have hfz16_2 := blk_frozen BK338.out 2
     go_wp2_with (first | ((with_reducible refine gate_callee (f := 79) rfl ?_); refine goesL_ (some 23) rfl rfl Tryd.func79 (by kernel_rfl) rfl #[.int .i64 t337, .int .i64 x339001_1] rfl (by (try simp only [List.map_toArray, List.map_cons, List.map_nil]); first | done | rfl | (simp only [List.length_drop, List.length_take]; rfl)) ?_; (with_reducible refine (rata_Length.calls k1 t337 x339001_1 t340 _ A12.out).mono ?_); rintro e w' ⟨rfl, ⟨nd, rfl⟩⟩; refine ⟨_, rfl, ?_⟩; (try (rw [drewN_self wr]; generalize hq_ : World.drewN wr _ = wr; have n0_ : Aside0 (wr.heap[gb335]? = some (.cells #[.int .i64 0, .int .i64 0, .int .i64 0] 68 (0, 0))) := ⟨by rw [← hq_]; exact (by (with_reducible repeat (first | refine blk_drewN ?_ _ | refine blk_drew ?_ | refine blk_alloc ?_ _)); exact BK335.out)⟩; have n1_ : Aside0 (wr.heap[gb338]? = some (.cells #[.int .i64 t337, .int .i64 x339001_1, .int .i64 0] 68 (0, 0))) := ⟨by rw [← hq_]; exact (by (with_reducible repeat (first | refine blk_drewN ?_ _ | refine blk_drew ?_ | refine blk_alloc ?_ _)); exact BK338.out)⟩; have n2_ : Aside0 (Below w.heap.size w wr) := ⟨by rw [← hq_]; exact (by repeat (first | (with_reducible first | exact HB.out | apply below_alloc | apply pw_below_drewN | apply below_drew1 | refine below_set ?_ GE335.out | refine below_set ?_ GE338.out) | exact HB.out))⟩; clear BK335 BK338 HB hq_; have BK335 := n0_; have BK338 := n1_; have HB := n2_; clear n0_ n1_ n2_)); (try (have hcz17_0 : wr.cell? ⟨gb335, 0, none⟩ = some (.int .i64 0) := (blk_cell BK335.out 0).trans rfl; have hcz17_1 : wr.cell? ⟨gb335, 1, none⟩ = some (.int .i64 0) := (blk_cell BK335.out 1).trans rfl; have hcz17_2 : wr.cell? ⟨gb335, 2, none⟩ = some (.int .i64 0) := (blk_cell BK335.out 2).trans rfl; have hfz17_0 := blk_frozen BK335.out 0; have hfz17_1 := blk_frozen BK335.out 1; have hfz17_2 := blk_frozen BK335.out 2; have hcz18_0 : wr.cell? ⟨gb338, 0, none⟩ = some (.int .i64 t337) := (blk_cell BK338.out 0).trans rfl; have hcz18_1 : wr.cell? ⟨gb338, 1, none⟩ = some (.int .i64 x339001_1) := (blk_cell BK338.out 1).trans rfl; have hcz18_2 : wr.cell? ⟨gb338, 2, none⟩ = some (.int .i64 0) := (blk_cell BK338.out 2).trans rfl; have hfz18_0 := blk_frozen BK338.out 0; have hfz18_1 := blk_frozen BK338.out 1; have hfz18_2 := blk_frozen BK338.out 2))) | ((with_reducible refine gate_callee (f := 79) rfl ?_); refine goesL_ (some 30) rfl rfl Tryd.func79 (by kernel_rfl) rfl #[.int .i64 t337, .int .i64 x339001_1] rfl (by (try simp only [List.map_toArray, List.map_cons, List.map_nil]); first | done | rfl | (simp only [List.length_drop, List.length_take]; rfl)) ?_; (with_reducible refine (rata_Length.calls k1 t337 x339001_1 t340 _ A12.out).mono ?_); rintro e w' ⟨rfl, ⟨nd, rfl⟩⟩; refine ⟨_, rfl, ?_⟩; (try (rw [drewN_self wr]; generalize hq_ : World.drewN wr _ = wr; have n0_ : Aside0 (wr.heap[gb335]? = some (.cells #[.int .i64 0, .int .i64 0, .int .i64 0] 68 (0, 0))) := ⟨by rw [← hq_]; exact (by (with_reducible repeat (first | refine blk_drewN ?_ _ | refine blk_drew ?_ | refine blk_alloc ?_ _)); exact BK335.out)⟩; have n1_ : Aside0 (wr.heap[gb338]? = some (.cells #[.int .i64 t337, .int .i64 x339001_1, .int .i64 0] 68 (0, 0))) := ⟨by rw [← hq_]; exact (by (with_reducible repeat (first | refine blk_drewN ?_ _ | refine blk_drew ?_ | refine blk_alloc ?_ _)); exact BK338.out)⟩; have n2_ : Aside0 (Below w.heap.size w wr) := ⟨by rw [← hq_]; exact (by repeat (first | (with_reducible first | exact HB.out | apply below_alloc | apply pw_below_drewN | apply below_drew1 | refine below_set ?_ GE335.out | refine below_set ?_ GE338.out) | exact HB.out))⟩; clear BK335 BK338 HB hq_; have BK335 := n0_; have BK338 := n1_; have HB := n2_; clear n0_ n1_ n2_)); (try (have hcz19_0 : wr.cell? ⟨gb335, 0, none⟩ = some (.int .i64 0) := (blk_cell BK335.out 0).trans rfl; have hcz19_1 : wr.cell? ⟨gb335, 1, none⟩ = some (.int .i64 0) := (blk_cell BK335.out 1).trans rfl; have hcz19_2 : wr.cell? ⟨gb335, 2, none⟩ = some (.int .i64 0) := (blk_cell BK335.out 2).trans rfl; have hfz19_0 := blk_frozen BK335.out 0; have hfz19_1 := blk_frozen BK335.out 1; have hfz19_2 := blk_frozen BK335.out 2; have hcz20_0 : wr.cell? ⟨gb338, 0, none⟩ = some (.int .i64 t337) := (blk_cell BK338.out 0).trans rfl; have hcz20_1 : wr.cell? ⟨gb338, 1, none⟩ = some (.int .i64 x339001_1) := (blk_cell BK338.out 1).trans rfl; have hcz20_2 : wr.cell? ⟨gb338, 2, none⟩ = some (.int .i64 0) := (blk_cell BK338.out 2).trans rfl; have hfz20_0 := blk_frozen BK338.out 0; have hfz20_1 := blk_frozen BK338.out 1; have hfz20_2 := blk_frozen BK338.out 2))))
     go_roundg k1
     case measure => have := HK1.out; omega
     case rel => exact ⟨(wrap64 (x5_1 - t340)), (wrap64 (x339001_1 + 1)), (by first | rfl | (simp; done) | (simp [*]; done)), H', ⟨by have := HK1.out; omega⟩, ⟨by (with_reducible repeat (first | refine blk_drewN ?_ _ | refine blk_drew ?_ | refine blk_alloc ?_ _)); refine blk_far ?_ NB335_338.out _; (with_reducible repeat (first | refine blk_drewN ?_ _ | refine blk_drew ?_ | refine blk_alloc ?_ _)); exact BK335.out⟩, ⟨by (with_reducible repeat (first | refine blk_drewN ?_ _ | refine blk_drew ?_ | refine blk_alloc ?_ _)); refine blk_put (cs := #[.int .i64 t337, .int .i64 x339001_1, .int .i64 0]) ?_ 1 _ rfl; (with_reducible repeat (first | refine blk_drewN ?_ _ | refine blk_drew ?_ | refine blk_alloc ?_ _)); exact BK338.out⟩, ⟨by repeat (first | (with_reducible first | exact HB.out | apply below_alloc | apply pw_below_drewN | apply below_drew1 | refine below_set ?_ GE335.out | refine below_set ?_ GE338.out) | exact HB.out)⟩⟩
    ·rw [if_neg c13] at H
     have c13b0 : decide (t340 < x5_1) = false := decide_eq_false c13
     clear c13
     simp only [Option.some.injEq, Prod.mk.injEq] at H
     obtain ⟨rfl, rfl, rfl, rfl⟩ := H
     have hnb21 := NB338_335.out
     have hnc21 := NB335_338.out
     have hcz22_0 : wr.cell? ⟨gb338, 0, none⟩ = some (.int .i64 t337) := (blk_cell BK338.out 0).trans rfl
     have hcz22_1 : wr.cell? ⟨gb338, 1, none⟩ = some (.int .i64 x339001_1) := (blk_cell BK338.out 1).trans rfl
     have hcz22_2 : wr.cell? ⟨gb338, 2, none⟩ = some (.int .i64 0) := (blk_cell BK338.out 2).trans rfl
     have hfz22_0 := blk_frozen BK338.out 0
     have hfz22_1 := blk_frozen BK338.out 1
     have hfz22_2 := blk_frozen BK338.out 2
     go_wp2_with (first | ((with_reducible refine gate_callee (f := 79) rfl ?_); refine goesL_ (some 23) rfl rfl Tryd.func79 (by kernel_rfl) rfl #[.int .i64 t337, .int .i64 x339001_1] rfl (by (try simp only [List.map_toArray, List.map_cons, List.map_nil]); first | done | rfl | (simp only [List.length_drop, List.length_take]; rfl)) ?_; (with_reducible refine (rata_Length.calls k1 t337 x339001_1 t340 _ A12.out).mono ?_); rintro e w' ⟨rfl, ⟨nd, rfl⟩⟩; refine ⟨_, rfl, ?_⟩; (try (rw [drewN_self wr]; generalize hq_ : World.drewN wr _ = wr; have n0_ : Aside0 (wr.heap[gb335]? = some (.cells #[.int .i64 0, .int .i64 0, .int .i64 0] 68 (0, 0))) := ⟨by rw [← hq_]; exact (by (with_reducible repeat (first | refine blk_drewN ?_ _ | refine blk_drew ?_ | refine blk_alloc ?_ _)); exact BK335.out)⟩; have n1_ : Aside0 (wr.heap[gb338]? = some (.cells #[.int .i64 t337, .int .i64 x339001_1, .int .i64 0] 68 (0, 0))) := ⟨by rw [← hq_]; exact (by (with_reducible repeat (first | refine blk_drewN ?_ _ | refine blk_drew ?_ | refine blk_alloc ?_ _)); exact BK338.out)⟩; have n2_ : Aside0 (Below w.heap.size w wr) := ⟨by rw [← hq_]; exact (by repeat (first | (with_reducible first | exact HB.out | apply below_alloc | apply pw_below_drewN | apply below_drew1 | refine below_set ?_ GE335.out | refine below_set ?_ GE338.out) | exact HB.out))⟩; clear BK335 BK338 HB hq_; have BK335 := n0_; have BK338 := n1_; have HB := n2_; clear n0_ n1_ n2_)); (try (have hcz23_0 : wr.cell? ⟨gb335, 0, none⟩ = some (.int .i64 0) := (blk_cell BK335.out 0).trans rfl; have hcz23_1 : wr.cell? ⟨gb335, 1, none⟩ = some (.int .i64 0) := (blk_cell BK335.out 1).trans rfl; have hcz23_2 : wr.cell? ⟨gb335, 2, none⟩ = some (.int .i64 0) := (blk_cell BK335.out 2).trans rfl; have hfz23_0 := blk_frozen BK335.out 0; have hfz23_1 := blk_frozen BK335.out 1; have hfz23_2 := blk_frozen BK335.out 2; have hcz24_0 : wr.cell? ⟨gb338, 0, none⟩ = some (.int .i64 t337) := (blk_cell BK338.out 0).trans rfl; have hcz24_1 : wr.cell? ⟨gb338, 1, none⟩ = some (.int .i64 x339001_1) := (blk_cell BK338.out 1).trans rfl; have hcz24_2 : wr.cell? ⟨gb338, 2, none⟩ = some (.int .i64 0) := (blk_cell BK338.out 2).trans rfl; have hfz24_0 := blk_frozen BK338.out 0; have hfz24_1 := blk_frozen BK338.out 1; have hfz24_2 := blk_frozen BK338.out 2)); have hcz25_0 : wr.cell? ⟨gb335, 0, none⟩ = some (.int .i64 0) := (blk_cell BK335.out 0).trans rfl; have hcz25_1 : wr.cell? ⟨gb335, 1, none⟩ = some (.int .i64 0) := (blk_cell BK335.out 1).trans rfl; have hcz25_2 : wr.cell? ⟨gb335, 2, none⟩ = some (.int .i64 0) := (blk_cell BK335.out 2).trans rfl; have hfz25_0 := blk_frozen BK335.out 0; have hfz25_1 := blk_frozen BK335.out 1; have hfz25_2 := blk_frozen BK335.out 2))
     refine bodyPost_ret (results_ct rfl _ _ gb335 68 #[.int .i64 t337, .int .i64 x339001_1, .int .i64 x5_1] (0, 0) _ rfl (by (with_reducible repeat (first | refine blk_drewN ?_ _ | refine blk_drew ?_ | refine blk_alloc ?_ _)); refine blk_put (cs := #[.int .i64 t337, .int .i64 x339001_1, .int .i64 0]) ?_ 2 _ rfl; (with_reducible repeat (first | refine blk_drewN ?_ _ | refine blk_drew ?_ | refine blk_alloc ?_ _)); refine blk_put (cs := #[.int .i64 t337, .int .i64 0, .int .i64 0]) ?_ 1 _ rfl; (with_reducible repeat (first | refine blk_drewN ?_ _ | refine blk_drew ?_ | refine blk_alloc ?_ _)); refine blk_put (cs := #[.int .i64 0, .int .i64 0, .int .i64 0]) ?_ 0 _ rfl; (with_reducible repeat (first | refine blk_drewN ?_ _ | refine blk_drew ?_ | refine blk_alloc ?_ _)); refine blk_far ?_ NB335_338.out _; (with_reducible repeat (first | refine blk_drewN ?_ _ | refine blk_drew ?_ | refine blk_alloc ?_ _)); exact BK335.out) Tryd.underlying68 rfl (by kernel_rfl)) rfl ?_
     exact ⟨by first | rfl | (simp [errW_none, errW_some] <;> rfl) | (simp [*, errW_none, errW_some] <;> rfl), by repeat (first | (with_reducible first | exact HB.out | apply below_alloc | apply pw_below_drewN | apply below_drew1 | refine below_set ?_ GE335.out | refine below_set ?_ GE338.out) | exact HB.out)⟩
 ·replace c3 := Bool.eq_false_iff.mpr c3
  subst c3
  have H1 : (some (0, 0, 0, 2)) = some (r1, r2, r3, r4) := by rw [if_neg (show ¬ (false = true) by decide)] at H; exact H
  clear H
  have H := H1
  clear H1
  simp only [Option.some.injEq, Prod.mk.injEq] at H
  obtain ⟨rfl, rfl, rfl, rfl⟩ := H
  go_enter Tryd.func58, Tryd.ntmps58
  go_wp2_with (first | ((with_reducible refine gate_dst (N := 2) rfl ?_); refine box_event ?hg (N := 2) ?hd (cs := #[.int .i64 0, .int .i64 0, .int .i64 0]) (t := 68) ?hr ?_; (case hd => rfl); (case hg => rfl); (case hr => first | (go_simp; done) | (go_simp; rfl)); intro gb335 hg w26 hbox hb; have n0_ := Aside0.mk (below_step (by repeat (first | (with_reducible first | exact HB.out | apply below_alloc | apply pw_below_drewN | apply below_drew1) | exact HB.out)) hb); have n1_ := Aside0.mk (hbox); have n2_ := Aside0.mk ((by rw [hg]; exact (below_size (by repeat (first | (with_reducible first | exact HB.out | apply below_alloc | apply pw_below_drewN | apply below_drew1) | exact HB.out))) : w.heap.size ≤ gb335)); have n3_ := Aside0.mk ((by rw [hg]; exact (below_size (by repeat (first | (with_reducible first | exact HB.out | apply below_alloc | apply pw_below_drewN | apply below_drew1) | exact HB.out))) : w.heap.size ≤ gb335)); clear HB; have HB := n0_; have BK335 := n1_; have GW335 := n2_; have GE335 := n3_; clear n0_ n1_ n2_ n3_; clear hb hbox hg) | ((with_reducible refine gate_callee (f := 72) rfl ?_); refine goesL_ (some 7) rfl rfl Tryd.func72 (by kernel_rfl) rfl #[.int .i64 a0] rfl (by (try simp only [List.map_toArray, List.map_cons, List.map_nil]); first | done | rfl | (simp only [List.length_drop, List.length_take]; rfl)) ?_; (with_reducible refine (rata_Of.calls a0 false _ A2.out).mono ?_); rintro e w' ⟨rfl, ⟨nd, rfl⟩⟩; refine ⟨_, rfl, ?_⟩; (try (rw [drewN_self w26]; generalize hq_ : World.drewN w26 _ = w26; have n0_ : Aside0 (w26.heap[gb335]? = some (.cells #[.int .i64 0, .int .i64 0, .int .i64 0] 68 (0, 0))) := ⟨by rw [← hq_]; exact (by (with_reducible repeat (first | refine blk_drewN ?_ _ | refine blk_drew ?_ | refine blk_alloc ?_ _)); exact BK335.out)⟩; have n1_ : Aside0 (Below w.heap.size w w26) := ⟨by rw [← hq_]; exact (by repeat (first | (with_reducible first | exact HB.out | apply below_alloc | apply pw_below_drewN | apply below_drew1 | refine below_set ?_ GE335.out) | exact HB.out))⟩; clear BK335 HB hq_; have BK335 := n0_; have HB := n1_; clear n0_ n1_)); (try (have hcz27_0 : w26.cell? ⟨gb335, 0, none⟩ = some (.int .i64 0) := (blk_cell BK335.out 0).trans rfl; have hcz27_1 : w26.cell? ⟨gb335, 1, none⟩ = some (.int .i64 0) := (blk_cell BK335.out 1).trans rfl; have hcz27_2 : w26.cell? ⟨gb335, 2, none⟩ = some (.int .i64 0) := (blk_cell BK335.out 2).trans rfl; have hfz27_0 := blk_frozen BK335.out 0; have hfz27_1 := blk_frozen BK335.out 1; have hfz27_2 := blk_frozen BK335.out 2)); have hcz28_0 : w26.cell? ⟨gb335, 0, none⟩ = some (.int .i64 0) := (blk_cell BK335.out 0).trans rfl; have hcz28_1 : w26.cell? ⟨gb335, 1, none⟩ = some (.int .i64 0) := (blk_cell BK335.out 1).trans rfl; have hcz28_2 : w26.cell? ⟨gb335, 2, none⟩ = some (.int .i64 0) := (blk_cell BK335.out 2).trans rfl; have hfz28_0 := blk_frozen BK335.out 0; have hfz28_1 := blk_frozen BK335.out 1; have hfz28_2 := blk_frozen BK335.out 2))
  refine bodyPost_ret (results_ct rfl _ _ gb335 68 #[.int .i64 0, .int .i64 0, .int .i64 0] (0, 0) _ rfl (by (with_reducible repeat (first | refine blk_drewN ?_ _ | refine blk_drew ?_ | refine blk_alloc ?_ _)); refine blk_put (cs := #[.int .i64 0, .int .i64 0, .int .i64 0]) ?_ 2 _ rfl; (with_reducible repeat (first | refine blk_drewN ?_ _ | refine blk_drew ?_ | refine blk_alloc ?_ _)); refine blk_put (cs := #[.int .i64 0, .int .i64 0, .int .i64 0]) ?_ 1 _ rfl; (with_reducible repeat (first | refine blk_drewN ?_ _ | refine blk_drew ?_ | refine blk_alloc ?_ _)); refine blk_put (cs := #[.int .i64 0, .int .i64 0, .int .i64 0]) ?_ 0 _ rfl; (with_reducible repeat (first | refine blk_drewN ?_ _ | refine blk_drew ?_ | refine blk_alloc ?_ _)); exact BK335.out) Tryd.underlying68 rfl (by kernel_rfl)) rfl ?_
  exact ⟨by first | rfl | (simp [errW_none, errW_some] <;> rfl) | (simp [*, errW_none, errW_some] <;> rfl), by repeat (first | (with_reducible first | exact HB.out | apply below_alloc | apply pw_below_drewN | apply below_drew1 | refine below_set ?_ GE335.out) | exact HB.out)⟩

-- NOT PRINTED: function 107 (abi_NoEscape)
-- NOT PRINTED: function 81 (strings_Builder_copyCheck)
-- NOT PRINTED: function 80 (strings_Builder_WriteByte)
-- NOT PRINTED: function 59 (clock_digits)
-- NOT PRINTED: function 60 (strings_Builder_String)
end Go.Proofs.YthppkdbelmolbaaDoor.Q
