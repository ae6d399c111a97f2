/- What the program's package julian reckons, in plain numbers. -/
import Derived.Test.YtabopabcehcdaabFunC
import Derived.Test.YtabopabcehcdaabQjul
namespace Go.Proofs.Ytabopabcehcdaab.FunJ
open Go.RowKit Go.Proofs.YtabopabcehcdaabW.PrintWords Go.Proofs.YtabopabcehcdaabW.PrintLast Go.Proofs.Ytabopabcehcdaab.Q Go.Proofs.Ytabopabcehcdaab.Cal Go.Proofs.Ytabopabcehcdaab.FunA Go.Proofs.Ytabopabcehcdaab.FunC

theorem jbd (y : Int) (h : -40000 ≤ y) (h' : y ≤ 40000) : -15000000 ≤ jb y ∧ jb y ≤ 15000000 := by unfold jb; omega
theorem jAhead (y : Int) (h : -40000 ≤ y) (h' : y ≤ 40000) : julian_ahead.f y = some (jb y + 2) := by
  unfold julian_ahead.f
  rw [w64 (x := y - 1) (by omega) (by omega), rFloor _ 4 (by omega) ⟨by omega, by omega⟩, Option.bind_some]
  congr 1
  unfold jb wrap64; omega
theorem dim_any (a b m : Int) (h : m ≠ 2) : dim a m = dim b m := by
  unfold dim; rw [if_neg h, if_neg h]
theorem jLength (k : Nat) (hk : 2 ≤ k) (y m : Int) (hy : I64 y) : julian_length.f k y m = some (dim (lj y) m) := by
  unfold julian_length.f
  by_cases h : m = 2
  · subst h
    rw [if_pos rfl, rMod y 4 (by omega) (by omega) hy, Option.bind_some]
    unfold dim lj
    by_cases c : y % 4 = 0
    · simp [c]
    · simp [c]
  · rw [if_neg h, rLength k hk, Option.bind_some, dim_any _ (lj y) m h]
theorem jDays_yes (day : Int) (h : In day) : julian_days.f day = some (day, 0) := by
  unfold julian_days.f; rw [rOf_yes h, Option.bind_some, if_pos rfl]
theorem jDays_no (day : Int) (h : ¬ In day) : julian_days.f day = some (0, 2) := by
  unfold julian_days.f; rw [rOf_no h, Option.bind_some, if_neg (by simp)]
/-- A Julian date of the years that are asked. -/
def RightJ (y m d : Int) : Prop := 1 ≤ y ∧ y ≤ 20000 ∧ 1 ≤ d ∧ d ≤ dim (lj y) m
/-- Its day, or an error. -/
def dayOr (n : Int) : Int × Int := if 1 ≤ n ∧ n ≤ 3652059 then (n, 0) else (0, 2)
theorem dayOr_yes {n : Int} (h : In n) : dayOr n = (n, 0) := if_pos h
theorem dayOr_no {n : Int} (h : ¬ In n) : dayOr n = (0, 2) := if_neg h
theorem jDays (day : Int) : julian_days.f day = some (dayOr day) := by
  by_cases h : In day
  · rw [jDays_yes _ h, dayOr_yes h]
  · rw [jDays_no _ h, dayOr_no h]
theorem jFrom0 (y m d : Int) (hy : -40000 ≤ y) (hy' : y ≤ 40000) (hm : m ≤ 12) (hd : -1000 ≤ d) (hd' : d ≤ 1000) : ∀ (j k : Nat) (n i : Int), 1 ≤ i → i ≤ m → m - i = j → j + 4 ≤ k → -20000000 ≤ n → n + 31 * j ≤ 20000000 →
    julian_FromJulian.l0 k n i y m d = some (dayOr (n - 2 + cum (lj y) m - cum (lj y) i + d)) := by
  intro j
  induction j with
  | zero =>
    intro k n i h1 h2 h3 h4 h5 h6
    obtain ⟨k, rfl⟩ : ∃ j, k = j + 1 := ⟨k - 1, by omega⟩
    have e : i = m := by omega
    subst e
    simp only [julian_FromJulian.l0]
    rw [if_neg (by omega), w64 (x := -1 + n) (by omega) (by omega), w64 (x := -1 + n + d) (by omega) (by omega), w64 (x := -1 + n + d - 1) (by omega) (by omega), jDays]
    have e : -1 + n + d - 1 = n - 2 + cum (lj y) i - cum (lj y) i + d := by omega
    rw [e]; rfl
  | succ j ih =>
    intro k n i h1 h2 h3 h4 h5 h6
    obtain ⟨k, rfl⟩ : ∃ j, k = j + 1 := ⟨k - 1, by omega⟩
    have hl := dim_lo (lj y) i (lj_01 y) h1 (by omega)
    have hc := cum_succ (lj y) i h1 (by omega)
    simp only [julian_FromJulian.l0]
    rw [if_pos (by omega), jLength k (by omega) y i ⟨by omega, by omega⟩, Option.bind_some, w64 (x := n + dim (lj y) i) (by omega) (by omega), w64 (x := i + 1) (by omega) (by omega), ih k _ (i + 1) (by omega) (by omega) (by omega) (by omega) (by omega) (by omega)]
    have e : n + dim (lj y) i - 2 + cum (lj y) m - cum (lj y) (i + 1) + d = n - 2 + cum (lj y) m - cum (lj y) i + d := by omega
    rw [e]
theorem jFrom_no (k : Nat) (hk : 4 ≤ k) (y m d : Int) (h : ¬ RightJ y m d) : julian_FromJulian.f k y m d = some (0, 2) := by
  have key : julian_FromJulian.j0 k true y m d = some (0, 2) := by
    obtain ⟨k, rfl⟩ : ∃ j, k = j + 1 := ⟨k - 1, by omega⟩
    simp only [julian_FromJulian.j0, if_true]
  unfold julian_FromJulian.f
  by_cases a : y < 1
  · rw [if_pos a, key]
  · by_cases b : y > 20000
    · rw [if_neg a, if_pos b, key]
    · by_cases c : d < 1
      · rw [if_neg a, if_neg b, if_pos c, key]
      · rw [if_neg a, if_neg b, if_neg c, jLength k (by omega) y m ⟨by omega, by omega⟩, Option.bind_some, decide_eq_true (show d > dim (lj y) m from by
          by_cases e : d ≤ dim (lj y) m
          · exact absurd ⟨by omega, by omega, by omega, e⟩ h
          · omega), key]
theorem jFrom_yes (k : Nat) (hk : 20 ≤ k) (y m d : Int) (h : RightJ y m d) : julian_FromJulian.f k y m d = some (dayOr (jb y + cum (lj y) m + d)) := by
  obtain ⟨h1, h2, h3, h4⟩ := h
  have hm := dim_pos (lj y) m (by omega)
  have hd := dim_lo (lj y) m (lj_01 y) hm.1 hm.2
  have hb := jbd y (by omega) (by omega)
  unfold julian_FromJulian.f
  rw [if_neg (by omega), if_neg (by omega), if_neg (by omega), jLength k (by omega) y m ⟨by omega, by omega⟩, Option.bind_some, decide_eq_false (by omega)]
  obtain ⟨k, rfl⟩ : ∃ j, k = j + 1 := ⟨k - 1, by omega⟩
  simp only [julian_FromJulian.j0]
  rw [if_neg (by simp), jAhead y (by omega) (by omega), Option.bind_some, jFrom0 y m d (by omega) (by omega) hm.2 (by omega) (by omega) (m - 1).toNat k (jb y + 2) 1 (by omega) hm.1 (by omega) (by omega) (by omega) (by omega), cum_one]
  have e : jb y + 2 - 2 + cum (lj y) m - 0 + d = jb y + cum (lj y) m + d := by omega
  rw [e]
theorem awake2 (k : Nat) (hk : 20 ≤ k) : trystlaw02_awake.f k = some true := by
  unfold trystlaw02_awake.f
  rw [jFrom_yes k hk 1 1 3 (by unfold RightJ; decide)]; decide
end Go.Proofs.Ytabopabcehcdaab.FunJ
