/- What the program's package rata reckons of dates, in plain numbers. -/
import Derived.Test.YthppkdbelmolbaaFunA
import Derived.Test.YthppkdbelmolbaaQrataB
import Derived.Test.YthppkdbelmolbaaQrataC
namespace Go.Proofs.Ythppkdbelmolbaa.FunC
open Go.RowKit Go.Proofs.YthppkdbelmolbaaW.PrintWords Go.Proofs.YthppkdbelmolbaaW.PrintLast Go.Proofs.Ythppkdbelmolbaa.Q Go.Proofs.Ythppkdbelmolbaa.Cal Go.Proofs.Ythppkdbelmolbaa.FunA

theorem rLeap (y : Int) : rata_Leap.f y = some (decide (lp y = 1)) := by
  unfold rata_Leap.f lp
  by_cases a : y % 4 = 0
  · rw [if_pos ((rem0 y 4).2 a), if_pos a]
    by_cases b : y % 100 = 0
    · rw [if_pos ((rem0 y 100).2 b), if_pos b]
      by_cases c : y % 400 = 0
      · rw [if_pos c, (rem0 y 400).2 c]; rfl
      · rw [if_neg c]
        have : ¬ Int.tmod y 400 = 0 := fun h => c ((rem0 y 400).1 h)
        simp [this]
    · rw [if_neg (fun h => b ((rem0 y 100).1 h)), if_neg b]; simp
  · rw [if_neg (fun h => a ((rem0 y 4).1 h)), if_neg a]; simp
theorem rLength (k : Nat) (hk : 2 ≤ k) (y m : Int) : rata_Length.f k y m = some (dim (lp y) m) := by
  obtain ⟨k, rfl⟩ : ∃ j, k = j + 2 := ⟨k - 2, by omega⟩
  have hl := lp_01 y
  by_cases h : 1 ≤ m ∧ m ≤ 12
  · rcases months h.1 h.2 with e | e | e | e | e | e | e | e | e | e | e | e <;> subst e <;> simp [rata_Length.f, rata_Length.j0, rata_Length.j1, dim, rLeap]
    rcases hl with e | e <;> simp [e]
  · rw [dim_none _ _ (by omega)]
    unfold rata_Length.f
    rw [if_neg (by omega), if_neg (by omega), if_neg (by omega), if_neg (by omega), if_neg (by omega), if_neg (by omega)]
    have e12 : (m == 12) = false := beq_eq_false_iff_ne.2 (by omega)
    have e11 : (m == 11) = false := beq_eq_false_iff_ne.2 (by omega)
    rw [e12]
    simp only [rata_Length.j0]
    rw [if_neg (by simp), if_neg (by omega), if_neg (by omega), if_neg (by omega), e11]
    simp only [rata_Length.j1]
    rw [if_neg (by simp), if_neg (by omega)]
/-- A right Gregorian date. -/
def Right (y m d : Int) : Prop := 1 ≤ y ∧ y ≤ 9999 ∧ 1 ≤ d ∧ d ≤ dim (lp y) m
theorem rRight_yes (k : Nat) (hk : 2 ≤ k) (y m d : Int) (h : Right y m d) : rata_Right.f k y m d = some true := by
  unfold rata_Right.f
  rw [if_pos h.1, if_pos h.2.1, if_pos h.2.2.1, rLength k hk, Option.bind_some, decide_eq_true h.2.2.2]
theorem rRight_no (k : Nat) (hk : 2 ≤ k) (y m d : Int) (h : ¬ Right y m d) : rata_Right.f k y m d = some false := by
  unfold rata_Right.f
  by_cases a : y ≥ 1
  · by_cases b : y ≤ 9999
    · by_cases c : d ≥ 1
      · rw [if_pos a, if_pos b, if_pos c, rLength k hk, Option.bind_some, decide_eq_false (fun e => h ⟨a, b, c, e⟩)]
      · rw [if_pos a, if_pos b, if_neg c]
    · rw [if_pos a, if_neg b]
  · rw [if_neg a]
theorem rGone0 (y m : Int) (hm : m ≤ 12) : ∀ (j k : Nat) (n i : Int), 1 ≤ i → i ≤ m → m - i = j → j + 2 < k → 0 ≤ n → n + 31 * j ≤ 100000 →
    rata_gone.l0 k y m n i = some (n + cum (lp y) m - cum (lp y) i) := by
  intro j
  induction j with
  | zero =>
    intro k n i h1 h2 h3 h4 h5 h6
    obtain ⟨k, rfl⟩ : ∃ j, k = j + 1 := ⟨k - 1, by omega⟩
    simp only [rata_gone.l0]
    have : i = m := by omega
    subst this
    rw [if_neg (by omega)]; congr 1; omega
  | succ j ih =>
    intro k n i h1 h2 h3 h4 h5 h6
    obtain ⟨k, rfl⟩ : ∃ j, k = j + 1 := ⟨k - 1, by omega⟩
    have hd := dim_lo (lp y) i (lp_01 y) h1 (by omega)
    have hc := cum_succ (lp y) i h1 (by omega)
    simp only [rata_gone.l0]
    rw [if_pos (by omega), rLength k (by omega), Option.bind_some, w64 (by omega) (by omega), w64 (by omega) (by omega), ih k _ (i + 1) (by omega) (by omega) (by omega) (by omega) (by omega) (by omega)]
    congr 1; omega
theorem rGone (k : Nat) (hk : 16 ≤ k) (y m : Int) (h1 : 1 ≤ m) (h2 : m ≤ 12) : rata_gone.f k y m = some (cum (lp y) m) := by
  unfold rata_gone.f
  rw [rGone0 y m h2 (m - 1).toNat k 0 1 (by omega) h1 (by omega) (by omega) (by omega) (by omega), cum_one]; congr 1; omega
theorem rDay_yes (k : Nat) (hk : 16 ≤ k) (y m d : Int) (h : Right y m d) : rata_Day.f k y m d = some (ah y + cum (lp y) m + d, 0) := by
  have hm := dim_pos (lp y) m (by have := h.2.2; omega)
  have hd := dim_lo (lp y) m (lp_01 y) hm.1 hm.2
  have hb := ah_bd y (by have := h.1; omega) (by have := h.2.1; omega)
  have hc := cum_bd (lp_01 y) hm.1 (show m ≤ 13 by omega)
  have := h.2.2
  unfold rata_Day.f
  rw [rRight_yes k (by omega) y m d h, Option.bind_some, if_pos rfl, rAhead y (by have := h.1; omega) (by have := h.2.1; omega), rGone k hk y m hm.1 hm.2]
  simp only [Option.bind_some]
  rw [w64 (x := ah y + cum (lp y) m) (by omega) (by omega), w64 (by omega) (by omega)]
theorem rDay_no (k : Nat) (hk : 2 ≤ k) (y m d : Int) (h : ¬ Right y m d) : rata_Day.f k y m d = some (0, 2) := by
  unfold rata_Day.f
  rw [rRight_no k hk y m d h, Option.bind_some, if_neg (by simp)]
theorem rYear (day : Int) (h : -10000000 ≤ day) (h' : day ≤ 10000000) : rata_Year.f day = some (yr day) := by
  unfold rata_Year.f
  rw [w64 (x := day - 1) (by omega) (by omega), rFloor _ 146097 (by omega) ⟨by omega, by omega⟩, rMod _ 146097 (by omega) (by omega) ⟨by omega, by omega⟩]
  simp only [Option.bind_some]
  have hn : 0 ≤ (day - 1) % 146097 ∧ (day - 1) % 146097 < 146097 := by omega
  have hq : -100 ≤ (day - 1) / 146097 ∧ (day - 1) / 146097 ≤ 100 := by omega
  unfold yr
  generalize (day - 1) % 146097 = n at *
  generalize (day - 1) / 146097 = q at *
  have e1 : mn (wrap64 (Int.tdiv n 36524)) 3 = yrC n := by
    rw [Int.tdiv_eq_ediv_of_nonneg (by omega), w64 (by omega) (by omega)]; unfold mn yrC; split <;> omega
  have c0 : 0 ≤ yrC n ∧ yrC n ≤ 3 ∧ 36524 * yrC n ≤ n := by unfold yrC; omega
  rw [e1, w64 (x := 36524 * yrC n) (by omega) (by omega), w64 (x := n - 36524 * yrC n) (by omega) (by omega)]
  have e2 : n - 36524 * yrC n = yrR n := rfl
  rw [e2]
  have r0 : 0 ≤ yrR n ∧ yrR n ≤ 146097 := by unfold yrR; omega
  generalize yrR n = r at *
  generalize yrC n = c at *
  rw [Int.tdiv_eq_ediv_of_nonneg (a := r) (by omega), Int.tmod_eq_emod_of_nonneg (a := r) (by omega), Int.tdiv_eq_ediv_of_nonneg (a := r % 1461) (by omega)]
  have e3 : mn (wrap64 (r % 1461 / 365)) 3 = min (r % 1461 / 365) 3 := by
    rw [w64 (by omega) (by omega)]; unfold mn; split <;> omega
  rw [e3, w64 (x := r / 1461) (by omega) (by omega)]
  congr 1
  have m0 : 0 ≤ min (r % 1461 / 365) 3 ∧ min (r % 1461 / 365) 3 ≤ 3 := by omega
  generalize min (r % 1461 / 365) 3 = z at *
  have f0 : 0 ≤ r / 1461 ∧ r / 1461 ≤ 100 := by omega
  generalize r / 1461 = f at *
  clear e1 e2 e3
  unfold wrap64; omega
theorem yr_In {day : Int} (h : In day) : 1 ≤ yr day ∧ yr day ≤ 9999 := by
  obtain ⟨h1, h2⟩ := yr_ok day
  obtain ⟨h3, h4⟩ := h
  constructor
  · by_cases c : yr day ≤ 0
    · have := ah_le (show yr day + 1 ≤ 1 by omega)
      have e : ah 1 = 0 := by decide
      omega
    · omega
  · by_cases c : 10000 ≤ yr day
    · have := ah_le c
      have e : ah 10000 = 3652059 := by decide
      omega
    · omega
theorem rDate0 (y : Int) : ∀ (j k : Nat) (n m : Int), 1 ≤ m → m ≤ 12 → 12 - m = j → j + 3 < k → 1 ≤ n → n + cum (lp y) m ≤ 365 + lp y →
    ∃ m' d, rata_Date.l0 k n y m 0 = some (y, m', d, 0) ∧ m ≤ m' ∧ m' ≤ 12 ∧ 1 ≤ d ∧ d ≤ dim (lp y) m' ∧ n + cum (lp y) m = cum (lp y) m' + d := by
  intro j
  induction j with
  | zero =>
    intro k n m h1 h2 h3 h4 h5 h6
    obtain ⟨k, rfl⟩ : ∃ j, k = j + 1 := ⟨k - 1, by omega⟩
    have : m = 12 := by omega
    subst this
    have e := cum_succ (lp y) 12 (by omega) (by omega)
    have e' := cum_end (lp y)
    have e2 : (12 : Int) + 1 = 13 := rfl
    rw [e2, e'] at e
    refine ⟨12, n, ?_, by omega, by omega, by omega, by omega, by omega⟩
    simp only [rata_Date.l0]
    rw [rLength k (by omega), Option.bind_some, if_neg (by omega)]
  | succ j ih =>
    intro k n m h1 h2 h3 h4 h5 h6
    obtain ⟨k, rfl⟩ : ∃ j, k = j + 1 := ⟨k - 1, by omega⟩
    have e := cum_succ (lp y) m h1 h2
    have hd := dim_lo (lp y) m (lp_01 y) h1 h2
    have hl := lp_01 y
    have hc := cum_bd (lp_01 y) h1 (show m ≤ 13 by omega)
    simp only [rata_Date.l0]
    rw [rLength k (by omega), Option.bind_some]
    by_cases c : n > dim (lp y) m
    · rw [if_pos c, Option.bind_some, w64 (by omega) (by omega), w64 (by omega) (by omega)]
      obtain ⟨m', d, h7, h8, h9, h10, h11, h12⟩ := ih k (n - dim (lp y) m) (m + 1) (by omega) (by omega) (by omega) (by omega) (by omega) (by omega)
      exact ⟨m', d, h7, by omega, h9, h10, h11, by omega⟩
    · rw [if_neg c]
      exact ⟨m, n, rfl, by omega, h2, h5, by omega, by omega⟩
theorem rDate_yes (k : Nat) (hk : 20 ≤ k) (day : Int) (h : In day) : ∃ m d, rata_Date.f k day = some (yr day, m, d, 0) ∧ Is ah lp (yr day) m d day := by
  have hy := yr_In h
  obtain ⟨h1, h2⟩ := yr_ok day
  have hs := ah_succ (yr day)
  have hb := ah_bd (yr day) (by omega) (by omega)
  obtain ⟨m, d, h3, h4, h5, h6, h7, h8⟩ := rDate0 (yr day) 11 k (day - ah (yr day)) 1 (by omega) (by omega) (by omega) (by omega) (by omega) (by rw [cum_one]; omega)
  rw [cum_one] at h8
  refine ⟨m, d, ?_, ⟨h4, h5, h6, h7, by omega⟩⟩
  unfold rata_Date.f
  rw [rOf_yes h, Option.bind_some, if_pos rfl, rYear day (by have := h.1; omega) (by have := h.2; omega), Option.bind_some, rAhead _ (by omega) (by omega), Option.bind_some, w64 (by have := h.1; omega) (by have := h.2; omega), h3]
theorem rDate_no (k : Nat) (day : Int) (h : ¬ In day) : rata_Date.f k day = some (0, 0, 0, 2) := by
  unfold rata_Date.f
  rw [rOf_no h, Option.bind_some, if_neg (by simp)]
theorem Is.right {y m d day : Int} (h : Is ah lp y m d day) (hy : 1 ≤ y) (hy' : y ≤ 9999) : Right y m d := ⟨hy, hy', h.d1, h.d2⟩
end Go.Proofs.Ythppkdbelmolbaa.FunC
