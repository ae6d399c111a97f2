/- What the program's package rata reckons of dates, in plain numbers. -/
import Derived.Test.YtabopabcehcdaabFunA
import Derived.Test.YtabopabcehcdaabQrataB
namespace Go.Proofs.Ytabopabcehcdaab.FunC
open Go.RowKit Go.Proofs.YtabopabcehcdaabW.PrintWords Go.Proofs.YtabopabcehcdaabW.PrintLast Go.Proofs.Ytabopabcehcdaab.Q Go.Proofs.Ytabopabcehcdaab.Cal Go.Proofs.Ytabopabcehcdaab.FunA

theorem rLeap (y : Int) : rata_Leap.f y = some (decide (lp y = 1)) := by
  unfold rata_Leap.f lp
  by_cases a : y % 4 = 0
  · rw [if_pos ((rem0 y 4).2 a), if_pos a]
    by_cases b : y % 100 = 0
    · rw [if_pos ((rem0 y 100).2 b), if_pos b]
      by_cases c : y % 400 = 0
      · rw [if_pos c, (rem0 y 400).2 c]; rfl
      · rw [if_neg c]
        have : ¬ Int.tmod y 400 = 0 := fun h => c ((rem0 y 400).1 h)
        simp [this]
    · rw [if_neg (fun h => b ((rem0 y 100).1 h)), if_neg b]; simp
  · rw [if_neg (fun h => a ((rem0 y 4).1 h)), if_neg a]; simp
theorem rLength (k : Nat) (hk : 2 ≤ k) (y m : Int) : rata_Length.f k y m = some (dim (lp y) m) := by
  obtain ⟨k, rfl⟩ : ∃ j, k = j + 2 := ⟨k - 2, by omega⟩
  have hl := lp_01 y
  by_cases h : 1 ≤ m ∧ m ≤ 12
  · rcases months h.1 h.2 with e | e | e | e | e | e | e | e | e | e | e | e <;> subst e <;> simp [rata_Length.f, rata_Length.j0, rata_Length.j1, dim, rLeap]
    rcases hl with e | e <;> simp [e]
  · rw [dim_none _ _ (by omega)]
    unfold rata_Length.f
    rw [if_neg (by omega), if_neg (by omega), if_neg (by omega), if_neg (by omega), if_neg (by omega), if_neg (by omega)]
    have e12 : (m == 12) = false := beq_eq_false_iff_ne.2 (by omega)
    have e11 : (m == 11) = false := beq_eq_false_iff_ne.2 (by omega)
    rw [e12]
    simp only [rata_Length.j0]
    rw [if_neg (by simp), if_neg (by omega), if_neg (by omega), if_neg (by omega), e11]
    simp only [rata_Length.j1]
    rw [if_neg (by simp), if_neg (by omega)]
/-- A right Gregorian date. -/
def Right (y m d : Int) : Prop := 1 ≤ y ∧ y ≤ 9999 ∧ 1 ≤ d ∧ d ≤ dim (lp y) m
theorem yr_In {day : Int} (h : In day) : 1 ≤ yr day ∧ yr day ≤ 9999 := by
  obtain ⟨h1, h2⟩ := yr_ok day
  obtain ⟨h3, h4⟩ := h
  constructor
  · by_cases c : yr day ≤ 0
    · have := ah_le (show yr day + 1 ≤ 1 by omega)
      have e : ah 1 = 0 := by decide
      omega
    · omega
  · by_cases c : 10000 ≤ yr day
    · have := ah_le c
      have e : ah 10000 = 3652059 := by decide
      omega
    · omega
theorem Is.right {y m d day : Int} (h : Is ah lp y m d day) (hy : 1 ≤ y) (hy' : y ≤ 9999) : Right y m d := ⟨hy, hy', h.d1, h.d2⟩
end Go.Proofs.Ytabopabcehcdaab.FunC
