/- What the reference's Day tells: the day of a date of the Gregorian (0), Julian (1), ISO (2) and Coptic (6) calendar, or an error. -/
import Derived.Test.YthppkdbelmolbaaFunB
import Derived.Test.YthppkdbelmolbaaQrefDay
namespace Go.Proofs.Ythppkdbelmolbaa.FunE
open Go.RowKit Go.Proofs.YthppkdbelmolbaaW.PrintWords Go.Proofs.YthppkdbelmolbaaW.PrintLast Go.Proofs.Ythppkdbelmolbaa.Q Go.Proofs.Ythppkdbelmolbaa.Cal Go.Proofs.Ythppkdbelmolbaa.FunA Go.Proofs.Ythppkdbelmolbaa.FunB

/-- The reference's Day, of the four calendars. -/
theorem fDay_no (k : Nat) (hk : 9 ≤ k) (c y m d a b : Int) (hc : Four c) (hy : trystref01_years.f c = some (a, b)) (ha : -40000 ≤ a) (hb : b < 40000) (h : ¬ (a ≤ y ∧ y ≤ b ∧ 1 ≤ d ∧ d ≤ len c y m)) : trystref01_Day.f k c y m d = some (0, 2) := by
  unfold trystref01_Day.f
  rw [hy, Option.bind_some]
  by_cases e : y < a ∨ b < y ∨ (c = 5 ∧ y = 0) ∨ d < 1
  · rw [if_pos e]
  · rw [if_neg e, fLength k hk c y m hc (by omega) (by omega), Option.bind_some, if_pos (by omega)]
theorem fDay_yes (k : Nat) (hk : 9 ≤ k) (c y m d a b : Int) (hc : Four c) (hy : trystref01_years.f c = some (a, b)) (ha : -40000 ≤ a) (hb : b < 40000) (h : a ≤ y ∧ y ≤ b ∧ 1 ≤ d ∧ d ≤ len c y m) (hm : 1 ≤ m ∧ m ≤ 100) (hd : d ≤ 1000) : trystref01_Day.f k c y m d = some (if 1 ≤ fx c y m + d ∧ fx c y m + d ≤ 3652059 then (fx c y m + d, 0) else (0, 2)) := by
  unfold trystref01_Day.f
  have n5 : ¬ c = 5 := by rcases hc with rfl | rfl | rfl | rfl <;> omega
  rw [hy, Option.bind_some, if_neg (by omega), fLength k hk c y m hc (by omega) (by omega), Option.bind_some, if_neg (by omega), fFixed k (by omega) c y m d hc (by omega) (by omega) hm.1 hm.2 (by omega) (by omega), Option.bind_some]
  by_cases e : 1 ≤ fx c y m + d ∧ fx c y m + d ≤ 3652059
  · rw [fIn_yes e, Option.bind_some, if_pos rfl, if_pos e]
  · rw [fIn_no e, Option.bind_some, if_neg (by simp), if_neg e]
end Go.Proofs.Ythppkdbelmolbaa.FunE
