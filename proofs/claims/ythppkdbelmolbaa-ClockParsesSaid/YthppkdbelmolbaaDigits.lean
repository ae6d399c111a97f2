/- What clock.digits writes: two or four digits of a number, behind what a builder holds. -/
import Derived.Test.YthppkdbelmolbaaBuild
import Derived.Test.YthppkdbelmolbaaQ0
import Derived.LoopTactic
import Derived.Lib.Hide
namespace Go.Proofs.Ythppkdbelmolbaa.Digits
open Go.RowKit Go.Proofs.YthppkdbelmolbaaW.PrintWords Go.Proofs.YthppkdbelmolbaaW.PrintLast Go.Proofs.Ythppkdbelmolbaa.Build
set_option linter.unusedVariables false
set_option linter.unusedSimpArgs false

/-- A digit's byte. -/
def dg (n b : Int) : Value := .int .u8 (48 + n / b % 10)
def IsB (B b : Nat) (bs : List Value) (w : World) : Prop := Lib.IsBuilder 63 5 B b bs w
theorem isB_of {B b : Nat} {bs : List Value} {w : World} (h : Lib.BuilderAt 63 5 B b (.pointer (some ⟨b, 0, none⟩)) bs w) : IsB B b bs w := Or.inr h
set_option maxHeartbeats 4000000 in
set_option maxRecDepth 100000 in
theorem two (B b : Nat) (bs : List Value) (n : Int) (w : World) (hn : 0 ≤ n) (hn' : n ≤ 99999) (h : IsB B b bs w) (hl : bs.length ≤ 100000) (hBw : B ≤ w.heap.size) :
    Calls Try.prog 39 #[.pointer (some ⟨b, 0, none⟩), .int .i64 n, .int .i64 2] w fun e w' => e = .returned (.tuple #[]) ∧ IsB B b (bs ++ [dg n 10, dg n 1]) w' ∧ Below B w w' := by
  go_enter Try.func39, Try.ntmps39
  go_wp2
  go_loop [6, 9] (fun y i => (y = .int .i64 1 ∧ i = .int .i64 0) ∨ (y = .int .i64 10 ∧ i = .int .i64 1)) (fun _ i => (1 - intOf i).toNat)
  case atStart => exact Or.inl ⟨rfl, rfl⟩
  case round =>
    rcases hrel with ⟨rfl, rfl⟩ | ⟨rfl, rfl⟩
    · go_wp2
      go_round
      case rel => exact Or.inr (⟨rfl, rfl⟩)
      case measure => simp [intOf]
    · go_wp2
      go_loopw [6] (fun y wr => (y = .int .i64 10 ∧ IsB B b bs wr ∧ Below B w wr) ∨ (y = .int .i64 1 ∧ IsB B b (bs ++ [dg n 10]) wr ∧ Below B w wr) ∨ (y = .int .i64 0 ∧ IsB B b (bs ++ [dg n 10, dg n 1]) wr ∧ Below B w wr)) (fun y _ => (intOf y).toNat)
      case atStart => exact Or.inl ⟨rfl, h, Below.refl _ _⟩
      case round =>
        rcases hrel with ⟨rfl, hI, hB⟩ | ⟨rfl, hI, hB⟩ | ⟨rfl, hI, hB⟩
        · have hz := Nat.le_trans hBw hB.size
          go_wp2_with fail
          refine (writeByte B b _ _ wr hI (by simp; omega) hz).mono ?_
          rintro e w1 ⟨rfl, hI1, hB1⟩
          go_wp2
          go_roundw
          case rel => exact Or.inr (Or.inl ⟨rfl, by simpa [dg] using isB_of hI1, hB.trans hB1⟩)
          case measure => simp [intOf]
        · have hz := Nat.le_trans hBw hB.size
          go_wp2_with fail
          refine (writeByte B b _ _ wr hI (by simp; omega) hz).mono ?_
          rintro e w1 ⟨rfl, hI1, hB1⟩
          go_wp2
          go_roundw
          case rel => exact Or.inr (Or.inr (⟨rfl, by simpa [dg] using isB_of hI1, hB.trans hB1⟩))
          case measure => simp [intOf]
        · go_wp2
          go_end0
          exact ⟨rfl, hI, hB⟩
set_option maxHeartbeats 4000000 in
set_option maxRecDepth 100000 in
theorem four (B b : Nat) (bs : List Value) (n : Int) (w : World) (hn : 0 ≤ n) (hn' : n ≤ 99999) (h : IsB B b bs w) (hl : bs.length ≤ 100000) (hBw : B ≤ w.heap.size) :
    Calls Try.prog 39 #[.pointer (some ⟨b, 0, none⟩), .int .i64 n, .int .i64 4] w fun e w' => e = .returned (.tuple #[]) ∧ IsB B b (bs ++ [dg n 1000, dg n 100, dg n 10, dg n 1]) w' ∧ Below B w w' := by
  go_enter Try.func39, Try.ntmps39
  go_wp2
  go_loop [6, 9] (fun y i => (y = .int .i64 1 ∧ i = .int .i64 0) ∨ (y = .int .i64 10 ∧ i = .int .i64 1) ∨ (y = .int .i64 100 ∧ i = .int .i64 2) ∨ (y = .int .i64 1000 ∧ i = .int .i64 3)) (fun _ i => (3 - intOf i).toNat)
  case atStart => exact Or.inl ⟨rfl, rfl⟩
  case round =>
    rcases hrel with ⟨rfl, rfl⟩ | ⟨rfl, rfl⟩ | ⟨rfl, rfl⟩ | ⟨rfl, rfl⟩
    · go_wp2
      go_round
      case rel => exact Or.inr (Or.inl ⟨rfl, rfl⟩)
      case measure => simp [intOf]
    · go_wp2
      go_round
      case rel => exact Or.inr (Or.inr (Or.inl ⟨rfl, rfl⟩))
      case measure => simp [intOf]
    · go_wp2
      go_round
      case rel => exact Or.inr (Or.inr (Or.inr (⟨rfl, rfl⟩)))
      case measure => simp [intOf]
    · go_wp2
      go_loopw [6] (fun y wr => (y = .int .i64 1000 ∧ IsB B b bs wr ∧ Below B w wr) ∨ (y = .int .i64 100 ∧ IsB B b (bs ++ [dg n 1000]) wr ∧ Below B w wr) ∨ (y = .int .i64 10 ∧ IsB B b (bs ++ [dg n 1000, dg n 100]) wr ∧ Below B w wr) ∨ (y = .int .i64 1 ∧ IsB B b (bs ++ [dg n 1000, dg n 100, dg n 10]) wr ∧ Below B w wr) ∨ (y = .int .i64 0 ∧ IsB B b (bs ++ [dg n 1000, dg n 100, dg n 10, dg n 1]) wr ∧ Below B w wr)) (fun y _ => (intOf y).toNat)
      case atStart => exact Or.inl ⟨rfl, h, Below.refl _ _⟩
      case round =>
        rcases hrel with ⟨rfl, hI, hB⟩ | ⟨rfl, hI, hB⟩ | ⟨rfl, hI, hB⟩ | ⟨rfl, hI, hB⟩ | ⟨rfl, hI, hB⟩
        · have hz := Nat.le_trans hBw hB.size
          go_wp2_with fail
          refine (writeByte B b _ _ wr hI (by simp; omega) hz).mono ?_
          rintro e w1 ⟨rfl, hI1, hB1⟩
          go_wp2
          go_roundw
          case rel => exact Or.inr (Or.inl ⟨rfl, by simpa [dg] using isB_of hI1, hB.trans hB1⟩)
          case measure => simp [intOf]
        · have hz := Nat.le_trans hBw hB.size
          go_wp2_with fail
          refine (writeByte B b _ _ wr hI (by simp; omega) hz).mono ?_
          rintro e w1 ⟨rfl, hI1, hB1⟩
          go_wp2
          go_roundw
          case rel => exact Or.inr (Or.inr (Or.inl ⟨rfl, by simpa [dg] using isB_of hI1, hB.trans hB1⟩))
          case measure => simp [intOf]
        · have hz := Nat.le_trans hBw hB.size
          go_wp2_with fail
          refine (writeByte B b _ _ wr hI (by simp; omega) hz).mono ?_
          rintro e w1 ⟨rfl, hI1, hB1⟩
          go_wp2
          go_roundw
          case rel => exact Or.inr (Or.inr (Or.inr (Or.inl ⟨rfl, by simpa [dg] using isB_of hI1, hB.trans hB1⟩)))
          case measure => simp [intOf]
        · have hz := Nat.le_trans hBw hB.size
          go_wp2_with fail
          refine (writeByte B b _ _ wr hI (by simp; omega) hz).mono ?_
          rintro e w1 ⟨rfl, hI1, hB1⟩
          go_wp2
          go_roundw
          case rel => exact Or.inr (Or.inr (Or.inr (Or.inr (⟨rfl, by simpa [dg] using isB_of hI1, hB.trans hB1⟩))))
          case measure => simp [intOf]
        · go_wp2
          go_end0
          exact ⟨rfl, hI, hB⟩
end Go.Proofs.Ythppkdbelmolbaa.Digits
