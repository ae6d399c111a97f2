/- What the program's Coptic dates (package julian) are, in plain numbers. -/
import Derived.Test.YtabopabcehcdaabFunJ
import Derived.Test.YtabopabcehcdaabQcop
namespace Go.Proofs.Ytabopabcehcdaab.FunK
open Go.RowKit Go.Proofs.YtabopabcehcdaabW.PrintWords Go.Proofs.YtabopabcehcdaabW.PrintLast Go.Proofs.Ytabopabcehcdaab.Q Go.Proofs.Ytabopabcehcdaab.Cal Go.Proofs.Ytabopabcehcdaab.FunA Go.Proofs.Ytabopabcehcdaab.FunC Go.Proofs.Ytabopabcehcdaab.FunJ

theorem kbd (y : Int) (h : -40000 ≤ y) (h' : y ≤ 40000) : -15000000 ≤ cb y ∧ cb y ≤ 15000000 := by unfold cb; omega
theorem kAhead (y : Int) (h : -40000 ≤ y) (h' : y ≤ 40000) : julian_copticAhead.f y = some (cb y + 1) := by
  unfold julian_copticAhead.f
  rw [rFloor _ 4 (by omega) ⟨by omega, by omega⟩, Option.bind_some, w64 (x := y - 1) (by omega) (by omega)]
  congr 1
  unfold cb wrap64; omega
theorem kDate_yes (day : Int) (h : In day) : ∃ y m d, julian_Coptic.f day = some (y, m, d, 0) ∧ IsC y m d day ∧ -20000 ≤ y ∧ y ≤ 20000 := by
  obtain ⟨h1, h2⟩ := h
  have hy : cb ((4 * (day - 103605) + 1463) / 1461) < day ∧ day ≤ cb ((4 * (day - 103605) + 1463) / 1461 + 1) ∧ -20000 ≤ (4 * (day - 103605) + 1463) / 1461 ∧ (4 * (day - 103605) + 1463) / 1461 ≤ 20000 := by
    unfold cb; omega
  have e : julian_Coptic.f day = (julian_copticAhead.f ((4 * (day - 103605) + 1463) / 1461)).bind fun t => some ((4 * (day - 103605) + 1463) / 1461, wrap64 ((wrap64 (Int.tdiv (wrap64 (day - t)) 30)) + 1), wrap64 ((Int.tmod (wrap64 (day - t)) 30) + 1), 0) := by
    unfold julian_Coptic.f
    rw [rOf_yes ⟨h1, h2⟩, Option.bind_some, if_pos rfl, w64 (x := day - 103605) (by omega) (by omega), w64 (x := 4 * (day - 103605)) (by omega) (by omega), w64 (x := 4 * (day - 103605) + 1463) (by omega) (by omega), rFloor _ 1461 (by omega) ⟨by omega, by omega⟩, Option.bind_some]
  rw [e]
  generalize (4 * (day - 103605) + 1463) / 1461 = y at *
  obtain ⟨a1, a2, a3, a4⟩ := hy
  have hb := kbd y (by omega) (by omega)
  have hs := cb_succ y
  have hl := lc_56 y
  rw [kAhead y (by omega) (by omega), Option.bind_some, w64 (x := day - (cb y + 1)) (by omega) (by omega), Int.tdiv_eq_ediv_of_nonneg (by omega), Int.tmod_eq_emod_of_nonneg (by omega)]
  have e0 : 0 ≤ day - (cb y + 1) ∧ day - (cb y + 1) < 366 := by omega
  rw [w64 (x := (day - (cb y + 1)) / 30) (by omega) (by omega), w64 (x := (day - (cb y + 1)) / 30 + 1) (by omega) (by omega), w64 (x := (day - (cb y + 1)) % 30 + 1) (by omega) (by omega)]
  exact ⟨y, _, _, rfl, ⟨by omega, by omega, by omega, by omega, by omega, by omega⟩, a3, a4⟩
theorem kDate_no (day : Int) (h : ¬ In day) : julian_Coptic.f day = some (0, 0, 0, 2) := by
  unfold julian_Coptic.f
  rw [rOf_no h, Option.bind_some, if_neg (by simp)]
/-- Days of a Coptic month. -/
def clen (y m : Int) : Int := if m < 1 ∨ 13 < m then 0 else if m = 13 then lc y else 30
theorem clen_pos (y m : Int) (h : 0 < clen y m) : 1 ≤ m ∧ m ≤ 13 ∧ clen y m ≤ 30 := by
  have := lc_56 y
  unfold clen at h ⊢
  by_cases c : m < 1 ∨ 13 < m
  · rw [if_pos c] at h; omega
  · rw [if_neg c]; split <;> omega
theorem kLength (k : Nat) (hk : 1 ≤ k) (y m : Int) (hy : I64 y) : julian_copticLength.f k y m = some (clen y m) := by
  obtain ⟨k, rfl⟩ : ∃ j, k = j + 1 := ⟨k - 1, by omega⟩
  unfold julian_copticLength.f clen
  by_cases a : m < 1
  · rw [if_pos a, if_pos (Or.inl a)]; simp only [julian_copticLength.j0, if_true]
  · rw [if_neg a]
    by_cases b : m > 13
    · rw [decide_eq_true b, if_pos (Or.inr b)]; simp only [julian_copticLength.j0, if_true]
    · rw [decide_eq_false b, if_neg (by omega)]
      simp only [julian_copticLength.j0]
      rw [if_neg (by simp)]
      by_cases c : m < 13
      · rw [if_pos c, if_neg (by omega)]
      · rw [if_neg c, if_pos (by omega), rMod y 4 (by omega) (by omega) hy, Option.bind_some]
        unfold lc
        by_cases d : y % 4 = 3
        · rw [if_pos d, if_pos d]
        · rw [if_neg d, if_neg d]
/-- A Coptic date of the years that are asked. -/
def RightC (y m d : Int) : Prop := -20000 ≤ y ∧ y ≤ 20000 ∧ 1 ≤ d ∧ d ≤ clen y m
theorem kFrom_no (k : Nat) (hk : 2 ≤ k) (y m d : Int) (h : ¬ RightC y m d) : julian_FromCoptic.f k y m d = some (0, 2) := by
  have key : julian_FromCoptic.j0 k true y m d = some (0, 2) := by
    obtain ⟨k, rfl⟩ : ∃ j, k = j + 1 := ⟨k - 1, by omega⟩
    simp only [julian_FromCoptic.j0, if_true]
  unfold julian_FromCoptic.f
  by_cases a : y < -20000
  · rw [if_pos a, key]
  · by_cases b : y > 20000
    · rw [if_neg a, if_pos b, key]
    · by_cases c : d < 1
      · rw [if_neg a, if_neg b, if_pos c, key]
      · rw [if_neg a, if_neg b, if_neg c, kLength k (by omega) y m ⟨by omega, by omega⟩, Option.bind_some, decide_eq_true (show d > clen y m from by
          by_cases e : d ≤ clen y m
          · exact absurd ⟨by omega, by omega, by omega, e⟩ h
          · omega), key]
theorem kFrom_yes (k : Nat) (hk : 2 ≤ k) (y m d : Int) (h : RightC y m d) : julian_FromCoptic.f k y m d = some (dayOr (cb y + 30 * (m - 1) + d)) := by
  obtain ⟨h1, h2, h3, h4⟩ := h
  have hm := clen_pos y m (by omega)
  have hb := kbd y (by omega) (by omega)
  unfold julian_FromCoptic.f
  rw [if_neg (by omega), if_neg (by omega), if_neg (by omega), kLength k (by omega) y m ⟨by omega, by omega⟩, Option.bind_some, decide_eq_false (by omega)]
  obtain ⟨k, rfl⟩ : ∃ j, k = j + 1 := ⟨k - 1, by omega⟩
  simp only [julian_FromCoptic.j0]
  rw [if_neg (by simp), kAhead y (by omega) (by omega), Option.bind_some, w64 (x := m - 1) (by omega) (by omega), w64 (x := 30 * (m - 1)) (by omega) (by omega), w64 (x := cb y + 1 + 30 * (m - 1)) (by omega) (by omega), w64 (x := cb y + 1 + 30 * (m - 1) + d) (by omega) (by omega), w64 (x := cb y + 1 + 30 * (m - 1) + d - 1) (by omega) (by omega), jDays]
  have e : cb y + 1 + 30 * (m - 1) + d - 1 = cb y + 30 * (m - 1) + d := by omega
  rw [e]; rfl
end Go.Proofs.Ytabopabcehcdaab.FunK
