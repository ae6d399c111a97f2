/- Texts of this claim, merged: Right, RefW. -/
import Derived.Test.YtfdcldjoncednaaGreatMgMatchPeriods13
import Derived.Test.YtfdcldjoncednaaGreatMgMatchPeriods10
import Derived.Test.YtfdcldjoncednaaGreatMgMatchPeriods7
/- A time is right by value when it is by the reference: one answer. -/
namespace Go.Proofs.YtfdcldjoncednaaGreat.Right
open Go.RowKit Go.Proofs.YtfdcldjoncednaaGreatW.PrintWords Go.Proofs.YtfdcldjoncednaaGreatW.PrintLast Go.Proofs.YtfdcldjoncednaaGreat.M Go.Proofs.YtfdcldjoncednaaGreat.Cal
set_option linter.unusedVariables false
set_option linter.unusedSimpArgs false
theorem cRight (a : Int) : clock_Right.f a = some (decide (86400 ≤ a) && decide (a < 315537984000)) := by
 unfold clock_Right.f
 by_cases h : a ≥ 86400
 ·rw [if_pos h, decide_eq_true (show 86400 ≤ a from h)]; rfl
 ·rw [if_neg h, decide_eq_false (show ¬ 86400 ≤ a from h)]; rfl
theorem fRight (a : Int) : trystref01_Right.f a = some (decide (86400 ≤ a) && decide (a < 315537984000)) := by
 unfold trystref01_Right.f
 by_cases h : a ≥ 86400
 ·rw [if_pos h, decide_eq_true (show 86400 ≤ a from h)]; rfl
 ·rw [if_neg h, decide_eq_false (show ¬ 86400 ≤ a from h)]; rfl
theorem cSplit {a : Int} (h : 0 ≤ a) (h' : a ≤ 9223372036854775807) : clock_split.f a = some (a / 86400, a % 86400) := by
 unfold clock_split.f
 rw [Int.tmod_eq_emod_of_nonneg h, Int.tdiv_eq_ediv_of_nonneg h, if_neg (by omega), w64 (by omega) (by omega)]
theorem right_ (kd at_ : Int) (s : ByteArray) (hs : s.size ≤ 9223372036854775807) : ∃ b, ∀ k, 2 ≤ k → value_RightTime.f kd at_ s = some b ∧ trystref12_RightTime.f k kd at_ s = some b := by
 have hz1 : value_ZoneName.f s = some (Zn.znB s) := if_pos hs
 have hz2 : trystref12_ZoneName.f s = some (Zn.znB s) := if_pos hs
 by_cases r : 86400 ≤ at_ ∧ at_ < 315537984000
 ·have e1 : clock_Right.f at_ = some true := by rw [cRight, decide_eq_true r.1, decide_eq_true r.2]; rfl
  have e2 : trystref01_Right.f at_ = some true := by rw [fRight, decide_eq_true r.1, decide_eq_true r.2]; rfl
  have e3 : clock_Second.f at_ = some (at_ % 86400) := by
   unfold clock_Second.f
   rw [e1, Option.bind_some, if_pos rfl, cSplit (by omega) (by omega)]; rfl
  by_cases a : kd = 0
  ·by_cases c : s.toList = ([] : List UInt8)
   ·refine ⟨at_ % 86400 == 0, fun k hk => ⟨?_, ?_⟩⟩
    ·unfold value_RightTime.f; rw [e1, Option.bind_some, if_pos rfl, if_pos a, if_pos c, e3]; rfl
    ·unfold trystref12_RightTime.f; rw [e2, Option.bind_some, if_pos rfl, if_pos a, if_pos c, Int.tmod_eq_emod_of_nonneg (by omega)]
   ·refine ⟨false, fun k hk => ⟨?_, ?_⟩⟩
    ·unfold value_RightTime.f; rw [e1, Option.bind_some, if_pos rfl, if_pos a, if_neg c]
    ·unfold trystref12_RightTime.f; rw [e2, Option.bind_some, if_pos rfl, if_pos a, if_neg c]
  ·by_cases b : kd = 3
   ·have b1 : ¬ kd = 1 := by omega
    have b2 : (kd == 2) = false := beq_eq_false_iff_ne.2 (by omega)
    refine ⟨Zn.znB s, fun k hk => ?_⟩
    obtain ⟨k, rfl⟩ : ∃ m, k = m + 1 := ⟨k - 1, by omega⟩
    refine ⟨?_, ?_⟩
    ·unfold value_RightTime.f; rw [e1, Option.bind_some, if_pos rfl, if_neg a, if_pos b, hz1]; rfl
    ·unfold trystref12_RightTime.f; rw [e2, Option.bind_some, if_pos rfl, if_neg a, if_neg b1, b2]
     simp only [trystref12_RightTime.j0]
     rw [if_neg (by simp), if_pos b, hz2]; rfl
   ·by_cases c : kd = 1
    ·refine ⟨s.toList == ([] : List UInt8), fun k hk => ?_⟩
     obtain ⟨k, rfl⟩ : ∃ m, k = m + 1 := ⟨k - 1, by omega⟩
     refine ⟨?_, ?_⟩
     ·unfold value_RightTime.f
      rw [e1, Option.bind_some, if_pos rfl, if_neg a, if_neg b]
      by_cases q : s.toList = ([] : List UInt8)
      ·rw [if_pos q, if_pos c, q]; rfl
      ·rw [if_neg q]; simp [q]
     ·unfold trystref12_RightTime.f
      rw [e2, Option.bind_some, if_pos rfl, if_neg a, if_pos c, show (kd == 1) = true from beq_iff_eq.2 c]
      simp only [trystref12_RightTime.j0]
      rw [if_pos trivial]
    ·refine ⟨(kd == 2) && (s.toList == ([] : List UInt8)), fun k hk => ?_⟩
     obtain ⟨k, rfl⟩ : ∃ m, k = m + 1 := ⟨k - 1, by omega⟩
     refine ⟨?_, ?_⟩
     ·unfold value_RightTime.f
      rw [e1, Option.bind_some, if_pos rfl, if_neg a, if_neg b]
      by_cases q : s.toList = ([] : List UInt8)
      ·rw [if_pos q, if_neg c, q]; simp
      ·rw [if_neg q]; simp [q]
     ·unfold trystref12_RightTime.f
      rw [e2, Option.bind_some, if_pos rfl, if_neg a, if_neg c]
      simp only [trystref12_RightTime.j0]
      by_cases d : kd = 2
      ·rw [show (kd == 2) = true from beq_iff_eq.2 d, if_pos rfl, Bool.true_and]
      ·rw [show (kd == 2) = false from beq_eq_false_iff_ne.2 d, if_neg (by simp), if_neg b, Bool.false_and]
 ·have e1 : clock_Right.f at_ = some false := by
   rw [cRight]
   by_cases c : 86400 ≤ at_
   ·rw [decide_eq_false (show ¬ at_ < 315537984000 from fun z => r ⟨c, z⟩)]; simp
   ·rw [decide_eq_false c]; rfl
  have e2 : trystref01_Right.f at_ = some false := by rw [fRight, ← cRight, e1]
  refine ⟨false, fun k hk => ⟨?_, ?_⟩⟩
  ·unfold value_RightTime.f; rw [e1, Option.bind_some, if_neg (by simp)]
  ·unfold trystref12_RightTime.f; rw [e2, Option.bind_some, if_neg (by simp)]
end Go.Proofs.YtfdcldjoncednaaGreat.Right
/- trystlaw13.Few told. (Written by gen_reffew.py.) -/
namespace Go.Proofs.YtfdcldjoncednaaGreat.RefW
open Go.RowKit Go.Proofs.YtfdcldjoncednaaGreatW.PrintWords Go.Proofs.YtfdcldjoncednaaGreatW.PrintLast Go.Proofs.YtfdcldjoncednaaGreatW.PrintMore Go.Proofs.YtfdcldjoncednaaGreat.M
set_option linter.unusedVariables false
set_option linter.unusedSimpArgs false
/-- The numbers of the first so many lists, and the days. -/
def fs (d : Nat) (g : Nat → Nat) : Nat → Int
 | 0 => (d : Int)
 | q + 1 => wrap64 (fs d g q + (g q : Int))
theorem fs_step (d : Nat) (g : Nat → Nat) (q n : Nat) (h : g q = n) : fs d g (q + 1) = wrap64 (fs d g q + (n : Int)) := by rw [fs, h]
def ln (l8 l9 l10 l12 l13 l14 l15 l16 : Nat) : Nat → Nat
 | 0 => l8
 | 1 => l9
 | 2 => l10
 | 3 => l12
 | 4 => l13
 | 5 => l14
 | 6 => l15
 | _ => l16
def few (d l8 l9 l10 l12 l13 l14 l15 l16 : Nat) : Bool := decide (fs d (ln l8 l9 l10 l12 l13 l14 l15 l16) 8 ≤ 500)
theorem few_ (a0 : Int) (a1 : Int) (a2 : Int) (a3 : Int) (a4 : Int) (a5 : ByteArray) (a6 : Bool) (a7 : Int) (A8 : Option Addr) (c8 : Nat) (l8 : List Int) (A9 : Option Addr) (c9 : Nat) (l9 : List Int) (A10 : Option Addr) (c10 : Nat) (l10 : List Int) (A11 : Option Addr) (c11 : Nat) (l11 : List S80) (A12 : Option Addr) (c12 : Nat) (l12 : List Int) (A13 : Option Addr) (c13 : Nat) (l13 : List Int) (A14 : Option Addr) (c14 : Nat) (l14 : List Int) (A15 : Option Addr) (c15 : Nat) (l15 : List Int) (A16 : Option Addr) (c16 : Nat) (l16 : List Int) (w : World) :
  Calls Tryz.prog 7 #[.agg #[.int .i64 a0, .int .i64 a1, .int .i64 a2, .int .i64 a3, .int .i64 a4, .string a5, .bool a6, .int .i64 a7, .slice A8 l8.length c8, .slice A9 l9.length c9, .slice A10 l10.length c10, .slice A11 l11.length c11, .slice A12 l12.length c12, .slice A13 l13.length c13, .slice A14 l14.length c14, .slice A15 l15.length c15, .slice A16 l16.length c16]] w fun e w' => e = .returned (.bool (few l11.length l8.length l9.length l10.length l12.length l13.length l14.length l15.length l16.length)) ∧ Below w.heap.size w w' :=
 RefL.few0 a0 a1 a2 a3 a4 a5 a6 a7 A8 c8 l8 A9 c9 l9 A10 c10 l10 A11 c11 l11 A12 c12 l12 A13 c13 l13 A14 c14 l14 A15 c15 l15 A16 c16 l16 (fs l11.length (ln l8.length l9.length l10.length l12.length l13.length l14.length l15.length l16.length)) (by rw [fs]) (fs_step _ _ 0 _ rfl) (fs_step _ _ 1 _ rfl) (fs_step _ _ 2 _ rfl) (fs_step _ _ 3 _ rfl) (fs_step _ _ 4 _ rfl) (fs_step _ _ 5 _ rfl) (fs_step _ _ 6 _ rfl) (fs_step _ _ 7 _ rfl) w
end Go.Proofs.YtfdcldjoncednaaGreat.RefW
