/- What the program's package julian reckons, in plain numbers. -/
import Derived.Test.YtabopabcehcdaaaFunC
import Derived.Test.YtabopabcehcdaaaQjul
import Derived.Test.YtabopabcehcdaaaQjulB
namespace Go.Proofs.Ytabopabcehcdaaa.FunJ
open Go.RowKit Go.Proofs.YtabopabcehcdaaaW.PrintWords Go.Proofs.YtabopabcehcdaaaW.PrintLast Go.Proofs.Ytabopabcehcdaaa.Q Go.Proofs.Ytabopabcehcdaaa.Cal Go.Proofs.Ytabopabcehcdaaa.FunA Go.Proofs.Ytabopabcehcdaaa.FunC

theorem jbd (y : Int) (h : -40000 ≤ y) (h' : y ≤ 40000) : -15000000 ≤ jb y ∧ jb y ≤ 15000000 := by unfold jb; omega
theorem jAhead (y : Int) (h : -40000 ≤ y) (h' : y ≤ 40000) : julian_ahead.f y = some (jb y + 2) := by
  unfold julian_ahead.f
  rw [w64 (x := y - 1) (by omega) (by omega), rFloor _ 4 (by omega) ⟨by omega, by omega⟩, Option.bind_some]
  congr 1
  unfold jb wrap64; omega
theorem dim_any (a b m : Int) (h : m ≠ 2) : dim a m = dim b m := by
  unfold dim; rw [if_neg h, if_neg h]
theorem jLength (k : Nat) (hk : 2 ≤ k) (y m : Int) (hy : I64 y) : julian_length.f k y m = some (dim (lj y) m) := by
  unfold julian_length.f
  by_cases h : m = 2
  · subst h
    rw [if_pos rfl, rMod y 4 (by omega) (by omega) hy, Option.bind_some]
    unfold dim lj
    by_cases c : y % 4 = 0
    · simp [c]
    · simp [c]
  · rw [if_neg h, rLength k hk, Option.bind_some, dim_any _ (lj y) m h]
theorem jDays_yes (day : Int) (h : In day) : julian_days.f day = some (day, 0) := by
  unfold julian_days.f; rw [rOf_yes h, Option.bind_some, if_pos rfl]
theorem jDays_no (day : Int) (h : ¬ In day) : julian_days.f day = some (0, 2) := by
  unfold julian_days.f; rw [rOf_no h, Option.bind_some, if_neg (by simp)]
/-- A Julian date of the years that are asked. -/
def RightJ (y m d : Int) : Prop := 1 ≤ y ∧ y ≤ 20000 ∧ 1 ≤ d ∧ d ≤ dim (lj y) m
/-- Its day, or an error. -/
def dayOr (n : Int) : Int × Int := if 1 ≤ n ∧ n ≤ 3652059 then (n, 0) else (0, 2)
theorem dayOr_yes {n : Int} (h : In n) : dayOr n = (n, 0) := if_pos h
theorem dayOr_no {n : Int} (h : ¬ In n) : dayOr n = (0, 2) := if_neg h
theorem jDays (day : Int) : julian_days.f day = some (dayOr day) := by
  by_cases h : In day
  · rw [jDays_yes _ h, dayOr_yes h]
  · rw [jDays_no _ h, dayOr_no h]
theorem jFrom0 (y m d : Int) (hy : -40000 ≤ y) (hy' : y ≤ 40000) (hm : m ≤ 12) (hd : -1000 ≤ d) (hd' : d ≤ 1000) : ∀ (j k : Nat) (n i : Int), 1 ≤ i → i ≤ m → m - i = j → j + 4 ≤ k → -20000000 ≤ n → n + 31 * j ≤ 20000000 →
    julian_FromJulian.l0 k n i y m d = some (dayOr (n - 2 + cum (lj y) m - cum (lj y) i + d)) := by
  intro j
  induction j with
  | zero =>
    intro k n i h1 h2 h3 h4 h5 h6
    obtain ⟨k, rfl⟩ : ∃ j, k = j + 1 := ⟨k - 1, by omega⟩
    have e : i = m := by omega
    subst e
    simp only [julian_FromJulian.l0]
    rw [if_neg (by omega), w64 (x := -1 + n) (by omega) (by omega), w64 (x := -1 + n + d) (by omega) (by omega), w64 (x := -1 + n + d - 1) (by omega) (by omega), jDays]
    have e : -1 + n + d - 1 = n - 2 + cum (lj y) i - cum (lj y) i + d := by omega
    rw [e]; rfl
  | succ j ih =>
    intro k n i h1 h2 h3 h4 h5 h6
    obtain ⟨k, rfl⟩ : ∃ j, k = j + 1 := ⟨k - 1, by omega⟩
    have hl := dim_lo (lj y) i (lj_01 y) h1 (by omega)
    have hc := cum_succ (lj y) i h1 (by omega)
    simp only [julian_FromJulian.l0]
    rw [if_pos (by omega), jLength k (by omega) y i ⟨by omega, by omega⟩, Option.bind_some, w64 (x := n + dim (lj y) i) (by omega) (by omega), w64 (x := i + 1) (by omega) (by omega), ih k _ (i + 1) (by omega) (by omega) (by omega) (by omega) (by omega) (by omega)]
    have e : n + dim (lj y) i - 2 + cum (lj y) m - cum (lj y) (i + 1) + d = n - 2 + cum (lj y) m - cum (lj y) i + d := by omega
    rw [e]
theorem jFrom_no (k : Nat) (hk : 4 ≤ k) (y m d : Int) (h : ¬ RightJ y m d) : julian_FromJulian.f k y m d = some (0, 2) := by
  have key : julian_FromJulian.j0 k true y m d = some (0, 2) := by
    obtain ⟨k, rfl⟩ : ∃ j, k = j + 1 := ⟨k - 1, by omega⟩
    simp only [julian_FromJulian.j0, if_true]
  unfold julian_FromJulian.f
  by_cases a : y < 1
  · rw [if_pos a, key]
  · by_cases b : y > 20000
    · rw [if_neg a, if_pos b, key]
    · by_cases c : d < 1
      · rw [if_neg a, if_neg b, if_pos c, key]
      · rw [if_neg a, if_neg b, if_neg c, jLength k (by omega) y m ⟨by omega, by omega⟩, Option.bind_some, decide_eq_true (show d > dim (lj y) m from by
          by_cases e : d ≤ dim (lj y) m
          · exact absurd ⟨by omega, by omega, by omega, e⟩ h
          · omega), key]
theorem jFrom_yes (k : Nat) (hk : 20 ≤ k) (y m d : Int) (h : RightJ y m d) : julian_FromJulian.f k y m d = some (dayOr (jb y + cum (lj y) m + d)) := by
  obtain ⟨h1, h2, h3, h4⟩ := h
  have hm := dim_pos (lj y) m (by omega)
  have hd := dim_lo (lj y) m (lj_01 y) hm.1 hm.2
  have hb := jbd y (by omega) (by omega)
  unfold julian_FromJulian.f
  rw [if_neg (by omega), if_neg (by omega), if_neg (by omega), jLength k (by omega) y m ⟨by omega, by omega⟩, Option.bind_some, decide_eq_false (by omega)]
  obtain ⟨k, rfl⟩ : ∃ j, k = j + 1 := ⟨k - 1, by omega⟩
  simp only [julian_FromJulian.j0]
  rw [if_neg (by simp), jAhead y (by omega) (by omega), Option.bind_some, jFrom0 y m d (by omega) (by omega) hm.2 (by omega) (by omega) (m - 1).toNat k (jb y + 2) 1 (by omega) hm.1 (by omega) (by omega) (by omega) (by omega), cum_one]
  have e : jb y + 2 - 2 + cum (lj y) m - 0 + d = jb y + cum (lj y) m + d := by omega
  rw [e]
theorem jDate0 (y : Int) (hy : I64 y) : ∀ (j k : Nat) (n m : Int), 1 ≤ m → m ≤ 12 → 12 - m = j → j + 3 < k → 0 ≤ n → n + cum (lj y) m < 365 + lj y →
    ∃ m' d, julian_Julian.l1 k n y m 0 = some (y, m', d, 0) ∧ m ≤ m' ∧ m' ≤ 12 ∧ 1 ≤ d ∧ d ≤ dim (lj y) m' ∧ n + 1 + cum (lj y) m = cum (lj y) m' + d := by
  intro j
  induction j with
  | zero =>
    intro k n m h1 h2 h3 h4 h5 h6
    obtain ⟨k, rfl⟩ : ∃ j, k = j + 1 := ⟨k - 1, by omega⟩
    have : m = 12 := by omega
    subst this
    have e := cum_succ (lj y) 12 (by omega) (by omega)
    have e' := cum_end (lj y)
    have e2 : (12 : Int) + 1 = 13 := rfl
    have hl := lj_01 y
    rw [e2, e'] at e
    have hd := dim_lo (lj y) 12 (lj_01 y) (by omega) (by omega)
    refine ⟨12, n + 1, ?_, by omega, by omega, by omega, by omega, by omega⟩
    simp only [julian_Julian.l1]
    rw [jLength k (by omega) y 12 hy, Option.bind_some, if_neg (by omega), w64 (by omega) (by omega)]
  | succ j ih =>
    intro k n m h1 h2 h3 h4 h5 h6
    obtain ⟨k, rfl⟩ : ∃ j, k = j + 1 := ⟨k - 1, by omega⟩
    have e := cum_succ (lj y) m h1 h2
    have hd := dim_lo (lj y) m (lj_01 y) h1 h2
    have hl := lj_01 y
    have hc := cum_bd (lj_01 y) h1 (show m ≤ 13 by omega)
    simp only [julian_Julian.l1]
    rw [jLength k (by omega) y m hy, Option.bind_some]
    by_cases c : n ≥ dim (lj y) m
    · rw [if_pos c, Option.bind_some, w64 (x := n - dim (lj y) m) (by omega) (by omega), w64 (x := m + 1) (by omega) (by omega)]
      obtain ⟨m', d, h7, h8, h9, h10, h11, h12⟩ := ih k (n - dim (lj y) m) (m + 1) (by omega) (by omega) (by omega) (by omega) (by omega) (by omega)
      exact ⟨m', d, h7, by omega, h9, h10, h11, by omega⟩
    · rw [if_neg c, w64 (by omega) (by omega)]
      exact ⟨m, n + 1, rfl, by omega, h2, by omega, by omega, by omega⟩
theorem jDate_yes (k : Nat) (hk : 20 ≤ k) (day : Int) (h : In day) : ∃ y m d, julian_Julian.f k day = some (y, m, d, 0) ∧ Is jb lj y m d day ∧ 1 ≤ y ∧ y ≤ 20000 := by
  obtain ⟨h1, h2⟩ := h
  have hy : jb ((4 * (day + 1) + 1464) / 1461) < day ∧ day ≤ jb ((4 * (day + 1) + 1464) / 1461 + 1) ∧ 1 ≤ (4 * (day + 1) + 1464) / 1461 ∧ (4 * (day + 1) + 1464) / 1461 ≤ 20000 := by
    unfold jb; omega
  have e : julian_Julian.f k day = julian_Julian.l0 k (day + 1) ((4 * (day + 1) + 1464) / 1461) 1 0 := by
    unfold julian_Julian.f
    rw [rOf_yes ⟨h1, h2⟩, Option.bind_some, if_pos rfl, w64 (x := day + 1) (by omega) (by omega), w64 (x := 4 * (day + 1)) (by omega) (by omega), w64 (x := 4 * (day + 1) + 1464) (by omega) (by omega), rFloor _ 1461 (by omega) ⟨by omega, by omega⟩, Option.bind_some]
  rw [e]
  generalize (4 * (day + 1) + 1464) / 1461 = y at *
  obtain ⟨a1, a2, a3, a4⟩ := hy
  have hb := jbd y (by omega) (by omega)
  have hs := jul.succ y
  obtain ⟨k, rfl⟩ : ∃ j, k = j + 1 := ⟨k - 1, by omega⟩
  simp only [julian_Julian.l0]
  rw [jAhead y (by omega) (by omega), Option.bind_some, if_neg (by omega), Option.bind_some, w64 (by omega) (by omega)]
  obtain ⟨m, d, r1, r2, r3, r4, r5, r6⟩ := jDate0 y ⟨by omega, by omega⟩ 11 k (day + 1 - (jb y + 2)) 1 (by omega) (by omega) (by omega) (by omega) (by omega) (by rw [cum_one]; omega)
  rw [cum_one] at r6
  exact ⟨y, m, d, r1, ⟨r2, r3, r4, r5, by omega⟩, a3, a4⟩
theorem jDate_no (k : Nat) (day : Int) (h : ¬ In day) : julian_Julian.f k day = some (0, 0, 0, 2) := by
  unfold julian_Julian.f
  rw [rOf_no h, Option.bind_some, if_neg (by simp)]
theorem awake2 (k : Nat) (hk : 20 ≤ k) : trystlaw02_awake.f k = some true := by
  unfold trystlaw02_awake.f
  rw [jFrom_yes k hk 1 1 3 (by unfold RightJ; decide)]; decide
end Go.Proofs.Ytabopabcehcdaaa.FunJ
