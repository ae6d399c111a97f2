/- Texts of this claim, merged: FunA, FunC, FunI, FunB, FunD. -/
import Derived.Test.YtfdcldjoncednaaMgMatchMany13
import Derived.Test.YtfdcldjoncednaaMgMatchMany1
import Derived.Test.YtfdcldjoncednaaMgMatchMany2
import Derived.Test.YtfdcldjoncednaaMgMatchMany3
import Derived.Test.YtfdcldjoncednaaMgMatchMany8
import Derived.Test.YtfdcldjoncednaaMgMatchMany17
import Derived.Test.YtfdcldjoncednaaMgMatchMany16
/- What the program's day arithmetic (package rata) reckons, in plain numbers. -/
namespace Go.Proofs.Ytfdcldjoncednaa.FunA
open Go.RowKit Go.Proofs.YtfdcldjoncednaaW.PrintWords Go.Proofs.YtfdcldjoncednaaW.PrintLast Go.Proofs.Ytfdcldjoncednaa.M Go.Proofs.Ytfdcldjoncednaa.Cal
def I64 (a : Int) : Prop := -9223372036854775808 ≤ a ∧ a ≤ 9223372036854775807
theorem quo (a b : Int) (hb : 0 < b) : Int.tdiv a b = if 0 ≤ a ∨ a % b = 0 then a / b else a / b + 1 := by
 rw [Int.tdiv_eq_ediv]
 have hd : b ∣ a ↔ a % b = 0 := Int.dvd_iff_emod_eq_zero
 by_cases h : 0 ≤ a ∨ a % b = 0
 ·rw [if_pos h, if_pos (h.imp id hd.2)]; omega
 ·rw [if_neg h, if_neg (fun k => h (k.imp id hd.1)), Int.sign_eq_one_of_pos hb]
theorem rem0 (a b : Int) : Int.tmod a b = 0 ↔ a % b = 0 := by
 rw [← Int.dvd_iff_tmod_eq_zero, Int.dvd_iff_emod_eq_zero]
theorem div_bd (a b : Int) (hb : 2 ≤ b) (ha : I64 a) : -4611686018427387905 ≤ a / b ∧ a / b ≤ 4611686018427387904 := by
 have h1 := Int.ediv_mul_le a (show b ≠ 0 by omega)
 have h2 := Int.lt_ediv_add_one_mul_self a (show 0 < b by omega)
 obtain ⟨ha, ha'⟩ := ha
 generalize a / b = q at *
 constructor
 ·by_cases h : 0 ≤ q + 1
  ·omega
  ·have := Int.mul_le_mul_of_nonpos_left (show q + 1 ≤ 0 by omega) hb
   omega
 ·by_cases h : q ≤ 0
  ·omega
  ·have := Int.mul_le_mul_of_nonneg_left hb (show 0 ≤ q by omega)
   omega
theorem rFloor (a b : Int) (hb : 2 ≤ b) (ha : I64 a) : rata_Floor.f a b = some (a / b) := by
 have hd := div_bd a b hb ha
 have hq := quo a b (by omega)
 unfold rata_Floor.f
 rw [if_neg (by omega)]
 by_cases h0 : a % b = 0
 ·rw [if_pos ((rem0 a b).2 h0), hq, if_pos (Or.inr h0), w64 (by omega) (by omega)]
 ·rw [if_neg (fun h => h0 ((rem0 a b).1 h)), hq]
  by_cases hn : a < 0
  ·rw [if_pos (by simp [hn]; omega), if_neg (by omega), w64 (x := a / b + 1) (by omega) (by omega), w64 (by omega) (by omega)]
   congr 1; omega
  ·rw [if_neg (by simp [hn]; omega), if_pos (by omega), w64 (by omega) (by omega)]
theorem wrap_sub (a x : Int) : wrap64 (a - wrap64 x) = wrap64 (a - x) := by unfold wrap64; omega
theorem rMod (a b : Int) (hb : 2 ≤ b) (hb' : b ≤ 4611686018427387904) (ha : I64 a) : rata_Mod.f a b = some (a % b) := by
 unfold rata_Mod.f
 have h1 := Int.emod_nonneg a (show b ≠ 0 by omega)
 have h2 := Int.emod_lt_of_pos a (show 0 < b by omega)
 rw [rFloor a b hb ha, Option.bind_some, wrap_sub, ← Int.emod_def, w64 (by omega) (by omega)]
theorem rWeekday (a : Int) (ha : I64 a) : rata_Weekday.f a = some (a % 7) := by
 unfold rata_Weekday.f; rw [rMod a 7 (by omega) (by omega) ha]; rfl
theorem rAhead (y : Int) (h : -40000 ≤ y) (h' : y ≤ 40000) : rata_ahead.f y = some (ah y) := by
 unfold rata_ahead.f
 have e : wrap64 (y - 1) = y - 1 := w64 (by omega) (by omega)
 rw [e, rFloor _ 4 (by omega) ⟨by omega, by omega⟩, rFloor _ 100 (by omega) ⟨by omega, by omega⟩, rFloor _ 400 (by omega) ⟨by omega, by omega⟩]
 simp only [Option.bind_some]
 congr 1
 unfold ah wrap64; omega
theorem ah_bd (y : Int) (h : -40000 ≤ y) (h' : y ≤ 40000) : -15000000 ≤ ah y ∧ ah y ≤ 15000000 := by unfold ah; omega
theorem rBegins (y : Int) (h : -40000 ≤ y) (h' : y ≤ 40000) : rata_Begins.f y = some (ah y + 1) := by
 have := ah_bd y h h'
 unfold rata_Begins.f
 rw [rAhead y h h', Option.bind_some, w64 (by omega) (by omega)]
/-- A day of layer 1. -/
def In (day : Int) : Prop := 1 ≤ day ∧ day ≤ 3652059
theorem rOf (day : Int) : rata_Of.f day = some (decide (1 ≤ day) && decide (day ≤ 3652059)) := by
 unfold rata_Of.f
 by_cases h : day ≥ 1
 ·rw [if_pos h, decide_eq_true (show 1 ≤ day from h)]; rfl
 ·rw [if_neg h, decide_eq_false (show ¬ 1 ≤ day from h)]; rfl
theorem rOf_yes {day : Int} (h : In day) : rata_Of.f day = some true := by
 rw [rOf, decide_eq_true h.1, decide_eq_true h.2]; rfl
end Go.Proofs.Ytfdcldjoncednaa.FunA
/- What the program's package rata reckons of dates, in plain numbers. -/
namespace Go.Proofs.Ytfdcldjoncednaa.FunC
open Go.RowKit Go.Proofs.YtfdcldjoncednaaW.PrintWords Go.Proofs.YtfdcldjoncednaaW.PrintLast Go.Proofs.Ytfdcldjoncednaa.M Go.Proofs.Ytfdcldjoncednaa.Cal Go.Proofs.Ytfdcldjoncednaa.FunA
theorem rLeap (y : Int) : rata_Leap.f y = some (decide (lp y = 1)) := by
 unfold rata_Leap.f lp
 by_cases a : y % 4 = 0
 ·rw [if_pos ((rem0 y 4).2 a), if_pos a]
  by_cases b : y % 100 = 0
  ·rw [if_pos ((rem0 y 100).2 b), if_pos b]
   by_cases c : y % 400 = 0
   ·rw [if_pos c, (rem0 y 400).2 c]; rfl
   ·rw [if_neg c]
    have : ¬ Int.tmod y 400 = 0 := fun h => c ((rem0 y 400).1 h)
    simp [this]
  ·rw [if_neg (fun h => b ((rem0 y 100).1 h)), if_neg b]; simp
 ·rw [if_neg (fun h => a ((rem0 y 4).1 h)), if_neg a]; simp
theorem rLength (k : Nat) (hk : 2 ≤ k) (y m : Int) : rata_Length.f k y m = some (dim (lp y) m) := by
 obtain ⟨k, rfl⟩ : ∃ j, k = j + 2 := ⟨k - 2, by omega⟩
 have hl := lp_01 y
 by_cases h : 1 ≤ m ∧ m ≤ 12
 ·rcases months h.1 h.2 with e | e | e | e | e | e | e | e | e | e | e | e <;> subst e <;> simp [rata_Length.f, rata_Length.j0, rata_Length.j1, dim, rLeap]
  rcases hl with e | e <;> simp [e]
 ·rw [dim_none _ _ (by omega)]
  unfold rata_Length.f
  rw [if_neg (by omega), if_neg (by omega), if_neg (by omega), if_neg (by omega), if_neg (by omega), if_neg (by omega)]
  have e12 : (m == 12) = false := beq_eq_false_iff_ne.2 (by omega)
  have e11 : (m == 11) = false := beq_eq_false_iff_ne.2 (by omega)
  rw [e12]
  simp only [rata_Length.j0]
  rw [if_neg (by simp), if_neg (by omega), if_neg (by omega), if_neg (by omega), e11]
  simp only [rata_Length.j1]
  rw [if_neg (by simp), if_neg (by omega)]
/-- A right Gregorian date. -/
def Right (y m d : Int) : Prop := 1 ≤ y ∧ y ≤ 9999 ∧ 1 ≤ d ∧ d ≤ dim (lp y) m
theorem rYear (day : Int) (h : -10000000 ≤ day) (h' : day ≤ 10000000) : rata_Year.f day = some (yr day) := by
 unfold rata_Year.f
 rw [w64 (x := day - 1) (by omega) (by omega), rFloor _ 146097 (by omega) ⟨by omega, by omega⟩, rMod _ 146097 (by omega) (by omega) ⟨by omega, by omega⟩]
 simp only [Option.bind_some]
 have hn : 0 ≤ (day - 1) % 146097 ∧ (day - 1) % 146097 < 146097 := by omega
 have hq : -100 ≤ (day - 1) / 146097 ∧ (day - 1) / 146097 ≤ 100 := by omega
 unfold yr
 generalize (day - 1) % 146097 = n at *
 generalize (day - 1) / 146097 = q at *
 have e1 : mn (wrap64 (Int.tdiv n 36524)) 3 = yrC n := by
  rw [Int.tdiv_eq_ediv_of_nonneg (by omega), w64 (by omega) (by omega)]; unfold mn yrC; split <;> omega
 have c0 : 0 ≤ yrC n ∧ yrC n ≤ 3 ∧ 36524 * yrC n ≤ n := by unfold yrC; omega
 rw [e1, w64 (x := 36524 * yrC n) (by omega) (by omega), w64 (x := n - 36524 * yrC n) (by omega) (by omega)]
 have e2 : n - 36524 * yrC n = yrR n := rfl
 rw [e2]
 have r0 : 0 ≤ yrR n ∧ yrR n ≤ 146097 := by unfold yrR; omega
 generalize yrR n = r at *
 generalize yrC n = c at *
 rw [Int.tdiv_eq_ediv_of_nonneg (a := r) (by omega), Int.tmod_eq_emod_of_nonneg (a := r) (by omega), Int.tdiv_eq_ediv_of_nonneg (a := r % 1461) (by omega)]
 have e3 : mn (wrap64 (r % 1461 / 365)) 3 = min (r % 1461 / 365) 3 := by
  rw [w64 (by omega) (by omega)]; unfold mn; split <;> omega
 rw [e3, w64 (x := r / 1461) (by omega) (by omega)]
 congr 1
 have m0 : 0 ≤ min (r % 1461 / 365) 3 ∧ min (r % 1461 / 365) 3 ≤ 3 := by omega
 generalize min (r % 1461 / 365) 3 = z at *
 have f0 : 0 ≤ r / 1461 ∧ r / 1461 ≤ 100 := by omega
 generalize r / 1461 = f at *
 clear e1 e2 e3
 unfold wrap64; omega
theorem yr_In {day : Int} (h : In day) : 1 ≤ yr day ∧ yr day ≤ 9999 := by
 obtain ⟨h1, h2⟩ := yr_ok day
 obtain ⟨h3, h4⟩ := h
 constructor
 ·by_cases c : yr day ≤ 0
  ·have := ah_le (show yr day + 1 ≤ 1 by omega)
   have e : ah 1 = 0 := by decide
   omega
  ·omega
 ·by_cases c : 10000 ≤ yr day
  ·have := ah_le c
   have e : ah 10000 = 3652059 := by decide
   omega
  ·omega
theorem rDate0 (y : Int) : ∀ (j k : Nat) (n m : Int), 1 ≤ m → m ≤ 12 → 12 - m = j → j + 3 < k → 1 ≤ n → n + cum (lp y) m ≤ 365 + lp y →
  ∃ m' d, rata_Date.l0 k n y m 0 = some (y, m', d, 0) ∧ m ≤ m' ∧ m' ≤ 12 ∧ 1 ≤ d ∧ d ≤ dim (lp y) m' ∧ n + cum (lp y) m = cum (lp y) m' + d := by
 intro j
 induction j with
 | zero =>
  intro k n m h1 h2 h3 h4 h5 h6
  obtain ⟨k, rfl⟩ : ∃ j, k = j + 1 := ⟨k - 1, by omega⟩
  have : m = 12 := by omega
  subst this
  have e := cum_succ (lp y) 12 (by omega) (by omega)
  have e' := cum_end (lp y)
  have e2 : (12 : Int) + 1 = 13 := rfl
  rw [e2, e'] at e
  refine ⟨12, n, ?_, by omega, by omega, by omega, by omega, by omega⟩
  simp only [rata_Date.l0]
  rw [rLength k (by omega), Option.bind_some, if_neg (by omega)]
 | succ j ih =>
  intro k n m h1 h2 h3 h4 h5 h6
  obtain ⟨k, rfl⟩ : ∃ j, k = j + 1 := ⟨k - 1, by omega⟩
  have e := cum_succ (lp y) m h1 h2
  have hd := dim_lo (lp y) m (lp_01 y) h1 h2
  have hl := lp_01 y
  have hc := cum_bd (lp_01 y) h1 (show m ≤ 13 by omega)
  simp only [rata_Date.l0]
  rw [rLength k (by omega), Option.bind_some]
  by_cases c : n > dim (lp y) m
  ·rw [if_pos c, Option.bind_some, w64 (by omega) (by omega), w64 (by omega) (by omega)]
   obtain ⟨m', d, h7, h8, h9, h10, h11, h12⟩ := ih k (n - dim (lp y) m) (m + 1) (by omega) (by omega) (by omega) (by omega) (by omega) (by omega)
   exact ⟨m', d, h7, by omega, h9, h10, h11, by omega⟩
  ·rw [if_neg c]
   exact ⟨m, n, rfl, by omega, h2, h5, by omega, by omega⟩
theorem rDate_yes (k : Nat) (hk : 20 ≤ k) (day : Int) (h : In day) : ∃ m d, rata_Date.f k day = some (yr day, m, d, 0) ∧ Is ah lp (yr day) m d day := by
 have hy := yr_In h
 obtain ⟨h1, h2⟩ := yr_ok day
 have hs := ah_succ (yr day)
 have hb := ah_bd (yr day) (by omega) (by omega)
 obtain ⟨m, d, h3, h4, h5, h6, h7, h8⟩ := rDate0 (yr day) 11 k (day - ah (yr day)) 1 (by omega) (by omega) (by omega) (by omega) (by omega) (by rw [cum_one]; omega)
 rw [cum_one] at h8
 refine ⟨m, d, ?_, ⟨h4, h5, h6, h7, by omega⟩⟩
 unfold rata_Date.f
 rw [rOf_yes h, Option.bind_some, if_pos rfl, rYear day (by have := h.1; omega) (by have := h.2; omega), Option.bind_some, rAhead _ (by omega) (by omega), Option.bind_some, w64 (by have := h.1; omega) (by have := h.2; omega), h3]
theorem rInYear_yes (day : Int) (h : In day) : rata_InYear.f day = some (day - ah (yr day), 0) := by
 have hy := yr_In h
 have hb := ah_bd (yr day) (by omega) (by omega)
 unfold rata_InYear.f
 rw [rOf_yes h, Option.bind_some, if_pos rfl, rYear day (by have := h.1; omega) (by have := h.2; omega), Option.bind_some, rAhead _ (by omega) (by omega), Option.bind_some, w64 (by have := h.1; omega) (by have := h.2; omega)]
theorem Is.right {y m d day : Int} (h : Is ah lp y m d day) (hy : 1 ≤ y) (hy' : y ≤ 9999) : Right y m d := ⟨hy, hy', h.d1, h.d2⟩
end Go.Proofs.Ytfdcldjoncednaa.FunC
/- What the program's package iso reckons, in plain numbers. -/
namespace Go.Proofs.Ytfdcldjoncednaa.FunI
open Go.RowKit Go.Proofs.YtfdcldjoncednaaW.PrintWords Go.Proofs.YtfdcldjoncednaaW.PrintLast Go.Proofs.Ytfdcldjoncednaa.M Go.Proofs.Ytfdcldjoncednaa.Cal Go.Proofs.Ytfdcldjoncednaa.FunA Go.Proofs.Ytfdcldjoncednaa.FunC
theorem wk_rng (y s : Int) (h : -40000 ≤ y) (h' : y ≤ 40000) : -15000002 ≤ wk y s ∧ wk y s ≤ 15000004 := by
 have := ah_bd y h h'; have := wk_bd y s; omega
theorem iFirst (y s : Int) (h : -40000 ≤ y) (h' : y ≤ 40000) (hs : 0 ≤ s) (hs' : s ≤ 6) : iso_first.f y s = some (wk y s) := by
 have hb := ah_bd y h h'
 unfold iso_first.f
 rw [rBegins y h h', Option.bind_some, w64 (x := ah y + 1 + 3) (by omega) (by omega), rWeekday _ ⟨by omega, by omega⟩, Option.bind_some, w64 (x := (ah y + 1 + 3) % 7 - s) (by omega) (by omega), rMod _ 7 (by omega) (by omega) ⟨by omega, by omega⟩, Option.bind_some, w64 (by omega) (by omega)]
 congr 1
 unfold wk; omega
def Wday (s : Int) : Prop := 0 ≤ s ∧ s ≤ 6
theorem iRight_yes (s : Int) (h : Wday s) : iso_right.f s = some true := by
 unfold iso_right.f; rw [if_pos h.1, decide_eq_true (by have := h.2; omega)]
theorem iWeeks_yes (k : Nat) (hk : 1 ≤ k) (y s : Int) (h : 0 ≤ y) (h' : y ≤ 9999) (hs : Wday s) : iso_Weeks.f k y s = some ((wk (y + 1) s - wk y s) / 7, 0) := by
 obtain ⟨k, rfl⟩ : ∃ j, k = j + 1 := ⟨k - 1, by omega⟩
 have hw := wk_bd y s; have hw' := wk_bd (y + 1) s; have ha := ah_succ y; have hl := lp_01 y
 have hr := wk_rng y s (by omega) (by omega); have hr' := wk_rng (y + 1) s (by omega) (by omega)
 unfold iso_Weeks.f
 rw [if_neg (by omega), decide_eq_false (by omega)]
 simp only [iso_Weeks.j0]
 rw [if_neg (by simp), iRight_yes s hs, Option.bind_some, if_pos rfl, w64 (x := y + 1) (by omega) (by omega), iFirst (y + 1) s (by omega) (by omega) hs.1 hs.2, iFirst y s (by omega) (by omega) hs.1 hs.2]
 simp only [Option.bind_some]
 rw [w64 (x := wk (y + 1) s - wk y s) (by omega) (by omega), Int.tdiv_eq_ediv_of_nonneg (by omega), w64 (by omega) (by omega)]
theorem iWeek0 (day s : Int) (hd : In day) (hs : Wday s) : ∀ (j k : Nat) (y : Int), y - (yr day - 1) = j → j + 1 ≤ k → y ≤ yr day + 1 → day < wk (y + 1) s →
  ∃ z, yr day - 1 ≤ z ∧ z ≤ yr day + 1 ∧ wk z s ≤ day ∧ day < wk (z + 1) s ∧ iso_Week.l0 k day s y = some (z, (day - wk z s) / 7 + 1, 0) := by
 have hy := yr_In hd
 have ho := yr_ok day
 intro j
 induction j with
 | zero =>
  intro k y h1 h2 h3 h4
  obtain ⟨k, rfl⟩ : ∃ j, k = j + 1 := ⟨k - 1, by omega⟩
  have e : y = yr day - 1 := by omega
  subst e
  have hw := wk_bd (yr day - 1) s
  have ha := ah_le (show yr day - 1 ≤ yr day by omega)
  have hr := wk_rng (yr day - 1) s (by omega) (by omega)
  have hm := hd.1; have hm' := hd.2
  refine ⟨yr day - 1, by omega, by omega, by omega, h4, ?_⟩
  simp only [iso_Week.l0]
  rw [iFirst _ s (by omega) (by omega) hs.1 hs.2, Option.bind_some, if_neg (by omega), Option.bind_some, w64 (x := day - wk (yr day - 1) s) (by omega) (by omega), Int.tdiv_eq_ediv_of_nonneg (by omega), w64 (x := (day - wk (yr day - 1) s) / 7) (by omega) (by omega), w64 (by omega) (by omega)]
 | succ j ih =>
  intro k y h1 h2 h3 h4
  obtain ⟨k, rfl⟩ : ∃ j, k = j + 1 := ⟨k - 1, by omega⟩
  have hr := wk_rng y s (by omega) (by omega)
  have hm := hd.1; have hm' := hd.2
  simp only [iso_Week.l0]
  rw [iFirst _ s (by omega) (by omega) hs.1 hs.2, Option.bind_some]
  by_cases c : day < wk y s
  ·rw [if_pos c, w64 (by omega) (by omega)]
   exact ih k (y - 1) (by omega) (by omega) (by omega) (by rw [show y - 1 + 1 = y by omega]; exact c)
  ·refine ⟨y, by omega, h3, by omega, h4, ?_⟩
   rw [if_neg c, Option.bind_some, w64 (x := day - wk y s) (by omega) (by omega), Int.tdiv_eq_ediv_of_nonneg (by omega), w64 (x := (day - wk y s) / 7) (by omega) (by omega), w64 (by omega) (by omega)]
theorem iWeek_yes (k : Nat) (hk : 4 ≤ k) (day s : Int) (hd : In day) (hs : Wday s) : ∃ z, 0 ≤ z ∧ z ≤ 10000 ∧ wk z s ≤ day ∧ day < wk (z + 1) s ∧ iso_Week.f k day s = some (z, (day - wk z s) / 7 + 1, 0) := by
 have hy := yr_In hd
 have ho := yr_ok day
 have hw := wk_bd (yr day + 1 + 1) s
 have ha := ah_le (show yr day + 1 ≤ yr day + 1 + 1 by omega)
 obtain ⟨z, h1, h2, h3, h4, h5⟩ := iWeek0 day s hd hs 2 k (yr day + 1) (by omega) (by omega) (by omega) (by omega)
 refine ⟨z, by omega, by omega, h3, h4, ?_⟩
 unfold iso_Week.f
 rw [rOf_yes hd, Option.bind_some, if_pos rfl, iRight_yes s hs, Option.bind_some, if_pos rfl, rYear day (by have := hd.1; omega) (by have := hd.2; omega), Option.bind_some, w64 (by omega) (by omega), h5]
theorem wk_le {x y : Int} (s : Int) (h : x ≤ y) : wk x s + 359 * (y - x) ≤ wk y s := by
 by_cases e : x = y
 ·subst e; omega
 ·have := ah_le h; have := wk_bd x s; have := wk_bd y s; omega
theorem wk_one {x y s day : Int} (hx : wk x s ≤ day) (hx' : day < wk (x + 1) s) (hy : wk y s ≤ day) (hy' : day < wk (y + 1) s) : x = y := by
 by_cases a : x < y
 ·have := wk_le s (show x + 1 ≤ y by omega); omega
 ·by_cases b : y < x
  ·have := wk_le s (show y + 1 ≤ x by omega); omega
  ·omega
end Go.Proofs.Ytfdcldjoncednaa.FunI
/- What the reference's day arithmetic reckons, in plain numbers: Gregorian (0), Julian (1), ISO (2) and Coptic (6) dates. -/
namespace Go.Proofs.Ytfdcldjoncednaa.FunB
open Go.RowKit Go.Proofs.YtfdcldjoncednaaW.PrintWords Go.Proofs.YtfdcldjoncednaaW.PrintLast Go.Proofs.Ytfdcldjoncednaa.M Go.Proofs.Ytfdcldjoncednaa.Cal Go.Proofs.Ytfdcldjoncednaa.FunA
theorem fFloor (a b : Int) (hb : 2 ≤ b) (hb' : b ≤ 4611686018427387904) (ha : I64 a) : trystref01_Floor.f a b = some (a / b) := by
 have hd := div_bd a b hb ha
 have hq := quo a b (by omega)
 have h1 := Int.emod_nonneg a (show b ≠ 0 by omega)
 have h2 := Int.emod_lt_of_pos a (show 0 < b by omega)
 have h3 := Int.emod_def a b
 have h4 : (a / b + 1) * b = b * (a / b) + b := by rw [Int.add_mul, Int.one_mul, Int.mul_comm]
 have h5 : (a / b) * b = b * (a / b) := Int.mul_comm _ _
 obtain ⟨ha, ha'⟩ := ha
 unfold trystref01_Floor.f
 rw [if_neg (by omega), hq]
 by_cases h : 0 ≤ a ∨ a % b = 0
 ·rw [if_pos h, w64 (x := a / b) (by omega) (by omega), h5, w64 (by omega) (by omega), if_neg (by omega)]
 ·rw [if_neg h, w64 (x := a / b + 1) (by omega) (by omega), h4, w64 (x := b * (a / b) + b) (by omega) (by omega), if_pos (by omega), w64 (by omega) (by omega)]
  congr 1; omega
theorem fMod (a b : Int) (hb : 2 ≤ b) (hb' : b ≤ 4611686018427387904) (ha : I64 a) : trystref01_Mod.f a b = some (a % b) := by
 unfold trystref01_Mod.f
 have h1 := Int.emod_nonneg a (show b ≠ 0 by omega)
 have h2 := Int.emod_lt_of_pos a (show 0 < b by omega)
 rw [fFloor a b hb hb' ha, Option.bind_some, wrap_sub, ← Int.emod_def, w64 (by omega) (by omega)]
theorem fLeap (y : Int) (hy : I64 y) : trystref01_Leap.f y = some (decide (lp y = 1)) := by
 unfold trystref01_Leap.f
 rw [fMod y 4 (by omega) (by omega) hy, fMod y 400 (by omega) (by omega) hy]
 simp only [Option.bind_some]
 unfold lp
 by_cases a : y % 4 = 0
 ·rw [if_pos a, if_pos a]
  by_cases b : y % 100 = 0
  ·by_cases c : y % 400 = 0
   ·rw [if_neg (by omega), if_neg (by omega), if_pos b, if_pos c]; simp; omega
   ·rw [if_pos b, if_neg c]
    by_cases d : y % 400 = 100
    ·rw [if_pos d]; simp
    ·rw [if_neg d]
     by_cases e : y % 400 = 200
     ·rw [if_pos e]; simp
     ·rw [if_neg e]; simp; omega
  ·rw [if_neg (by omega), if_neg (by omega), if_neg b]; simp; omega
 ·rw [if_neg a, if_neg a]; simp
theorem fGreg (k : Nat) (hk : 1 ≤ k) (y m d : Int) (h : -40000 ≤ y) (h' : y ≤ 40000) (hm : 1 ≤ m) (hm' : m ≤ 100) (hd : -100000 ≤ d) (hd' : d ≤ 100000) :
  trystref01_gregorian.f k y m d = some (ah y + cum (lp y) m + d) := by
 obtain ⟨k, rfl⟩ : ∃ j, k = j + 1 := ⟨k - 1, by omega⟩
 have e : wrap64 (y - 1) = y - 1 := w64 (by omega) (by omega)
 have hl := lp_01 y
 unfold trystref01_gregorian.f
 rw [e, fFloor _ 4 (by omega) (by omega) ⟨by omega, by omega⟩, fFloor _ 100 (by omega) (by omega) ⟨by omega, by omega⟩, fFloor _ 400 (by omega) (by omega) ⟨by omega, by omega⟩]
 simp only [Option.bind_some]
 have e2 : wrap64 (Int.tdiv (wrap64 ((wrap64 (367 * m)) - 362)) 12) = (367 * m - 362) / 12 := by
  rw [w64 (x := 367 * m) (by omega) (by omega), w64 (x := 367 * m - 362) (by omega) (by omega), Int.tdiv_eq_ediv_of_nonneg (by omega), w64 (by omega) (by omega)]
 rw [e2]
 have e3 : wrap64 ((wrap64 ((wrap64 ((wrap64 ((wrap64 ((wrap64 (365 * (y - 1))) + (y - 1) / 4)) - (y - 1) / 100)) + (y - 1) / 400)) + (367 * m - 362) / 12)) + d) = ah y + (367 * m - 362) / 12 + d := by
  unfold ah wrap64; omega
 rw [e3]
 have hb := ah_bd y h h'
 by_cases c : m > 2
 ·rw [if_pos c, fLeap y ⟨by omega, by omega⟩, Option.bind_some]
  simp only [trystref01_gregorian.j0]
  unfold cum
  by_cases l : lp y = 1
  ·rw [decide_eq_true l, if_pos rfl, if_pos c, w64 (by omega) (by omega)]; congr 1; omega
  ·rw [decide_eq_false l, if_neg (by simp), if_pos c, if_pos c, w64 (by omega) (by omega)]; congr 1; omega
 ·rw [if_neg c]
  simp only [trystref01_gregorian.j0]
  unfold cum
  rw [if_neg (by simp), if_neg c, if_neg c]; congr 1; omega
theorem fWeek (s : Int) (hs : 0 ≤ s) (hs' : s ≤ 6) : ∀ (j k : Nat) (n : Int), -100000000 ≤ n → n + j ≤ 100000000 → (s - n) % 7 = j → j < k → trystref01_Week1.l0 k s n = some (n + j) := by
 intro j
 induction j with
 | zero =>
  intro k n h1 h2 h3 h4
  obtain ⟨k, rfl⟩ : ∃ m, k = m + 1 := ⟨k - 1, by omega⟩
  simp only [trystref01_Week1.l0]
  rw [fMod n 7 (by omega) (by omega) ⟨by omega, by omega⟩, Option.bind_some, if_pos (by omega)]; simp
 | succ j ih =>
  intro k n h1 h2 h3 h4
  obtain ⟨k, rfl⟩ : ∃ m, k = m + 1 := ⟨k - 1, by omega⟩
  simp only [trystref01_Week1.l0]
  rw [fMod n 7 (by omega) (by omega) ⟨by omega, by omega⟩, Option.bind_some, if_neg (by omega), w64 (by omega) (by omega), ih k (n + 1) (by omega) (by omega) (by omega) (by omega)]
  congr 1; omega
theorem fWeek1 (k : Nat) (hk : 8 ≤ k) (y s : Int) (h : -40000 ≤ y) (h' : y ≤ 40000) (hs : 0 ≤ s) (hs' : s ≤ 6) : trystref01_Week1.f k y s = some (wk y s) := by
 have hb := ah_bd y h h'
 unfold trystref01_Week1.f
 rw [fGreg k (by omega) y 1 1 h h' (by omega) (by omega) (by omega) (by omega), Option.bind_some, cum_one, w64 (by omega) (by omega)]
 have e : ah y + 0 + 1 - 3 = ah y - 2 := by omega
 rw [e, fWeek s hs hs' ((s - (ah y - 2)) % 7).toNat k (ah y - 2) (by omega) (by omega) (by omega) (by omega)]
 unfold wk; congr 1; omega
theorem jb_bd (y : Int) (h : -40000 ≤ y) (h' : y ≤ 40000) : -15000000 ≤ jb y ∧ jb y ≤ 15000000 := by unfold jb; omega
theorem cb_bd (y : Int) (h : -40000 ≤ y) (h' : y ≤ 40000) : -15000000 ≤ cb y ∧ cb y ≤ 15000000 := by unfold cb; omega
theorem fJul (k : Nat) (hk : 1 ≤ k) (y m d : Int) (h : -40000 ≤ y) (h' : y ≤ 40000) (hm : 1 ≤ m) (hm' : m ≤ 100) (hd : -100000 ≤ d) (hd' : d ≤ 100000) :
  trystref01_julian.f k y m d = some (jb y + cum (lj y) m + d) := by
 obtain ⟨k, rfl⟩ : ∃ j, k = j + 1 := ⟨k - 1, by omega⟩
 have e : wrap64 (y - 1) = y - 1 := w64 (by omega) (by omega)
 unfold trystref01_julian.f
 rw [e, fFloor _ 4 (by omega) (by omega) ⟨by omega, by omega⟩]
 simp only [Option.bind_some]
 have e2 : wrap64 (Int.tdiv (wrap64 ((wrap64 (367 * m)) - 362)) 12) = (367 * m - 362) / 12 := by
  rw [w64 (x := 367 * m) (by omega) (by omega), w64 (x := 367 * m - 362) (by omega) (by omega), Int.tdiv_eq_ediv_of_nonneg (by omega), w64 (by omega) (by omega)]
 rw [e2]
 have e3 : wrap64 ((wrap64 ((wrap64 ((wrap64 ((-2) + (wrap64 (365 * (y - 1))))) + (y - 1) / 4)) + (367 * m - 362) / 12)) + d) = jb y + (367 * m - 362) / 12 + d := by
  unfold jb wrap64; omega
 rw [e3]
 have hb := jb_bd y h h'
 by_cases c : m > 2
 ·rw [if_pos c, fMod y 4 (by omega) (by omega) ⟨by omega, by omega⟩, Option.bind_some]
  simp only [trystref01_julian.j0]
  unfold cum lj
  by_cases l : y % 4 = 0
  ·rw [if_pos (by simp [l]), if_pos c, if_pos l, w64 (by omega) (by omega)]; congr 1; omega
  ·rw [if_neg (by simp [l]), if_pos c, if_pos c, if_neg l, w64 (by omega) (by omega)]; congr 1; omega
 ·rw [if_neg c]
  simp only [trystref01_julian.j0]
  unfold cum
  rw [if_neg (by simp), if_neg c, if_neg c]; congr 1; omega
theorem fCop (y m d : Int) (h : -40000 ≤ y) (h' : y ≤ 40000) (hm : 1 ≤ m) (hm' : m ≤ 100) (hd : -100000 ≤ d) (hd' : d ≤ 100000) :
  trystref01_coptic.f y m d = some (cb y + 30 * (m - 1) + d) := by
 unfold trystref01_coptic.f
 rw [fFloor _ 4 (by omega) (by omega) ⟨by omega, by omega⟩, Option.bind_some]
 congr 1
 unfold cb wrap64; omega
/-- The day of the first of a month, less one, of the four calendars. -/
def fx (c y m : Int) : Int := if c = 0 then ah y + cum (lp y) m else if c = 1 then jb y + cum (lj y) m else if c = 2 then wk y 1 + 7 * (m - 1) - 1 else cb y + 30 * (m - 1)
def Four (c : Int) : Prop := c = 0 ∨ c = 1 ∨ c = 2 ∨ c = 6
theorem fFixed (k : Nat) (hk : 8 ≤ k) (c y m d : Int) (hc : Four c) (h : -40000 ≤ y) (h' : y ≤ 40000) (hm : 1 ≤ m) (hm' : m ≤ 100) (hd : -100000 ≤ d) (hd' : d ≤ 100000) :
  trystref01_Fixed.f k c y m d = some (fx c y m + d) := by
 unfold trystref01_Fixed.f fx
 rcases hc with rfl | rfl | rfl | rfl
 ·rw [if_pos rfl, fGreg k (by omega) y m d h h' hm hm' hd hd']; rfl
 ·rw [if_neg (by omega), if_pos rfl, fJul k (by omega) y m d h h' hm hm' hd hd']; rfl
 ·have hb := ah_bd y h h'
  have hw := wk_bd y 1
  rw [if_neg (by omega), if_neg (by omega), if_pos rfl, fWeek1 k hk y 1 h h' (by omega) (by omega), Option.bind_some, if_neg (by omega), if_neg (by omega), if_pos rfl]
  congr 1
  unfold wrap64; omega
 ·rw [if_neg (by omega), if_neg (by omega), if_neg (by omega), if_neg (by omega), if_neg (by omega), if_neg (by omega), fCop y m d h h' hm hm' hd hd']; rfl
def mths (c y : Int) : Int := if c = 2 then (wk (y + 1) 1 - wk y 1) / 7 else if c = 6 then 13 else 12
theorem wks (y s : Int) : ∃ n, (n = 52 ∨ n = 53) ∧ wk (y + 1) s - wk y s = 7 * n := by
 have h1 := wk_bd y s; have h2 := wk_bd (y + 1) s; have h3 := ah_succ y; have h4 := lp_01 y
 refine ⟨(wk (y + 1) s - wk y s) / 7, ?_, ?_⟩ <;> omega
theorem mths_bd (c y : Int) : 12 ≤ mths c y ∧ mths c y ≤ 53 := by
 obtain ⟨n, hn, h⟩ := wks y 1
 unfold mths; split
 ·omega
 ·split <;> omega
theorem fMonths (k : Nat) (hk : 8 ≤ k) (c y : Int) (hc : Four c) (h : -40000 ≤ y) (h' : y < 40000) : trystref01_Months.f k c y = some (mths c y) := by
 unfold trystref01_Months.f mths
 rcases hc with rfl | rfl | rfl | rfl
 ·rfl
 ·rfl
 ·have hb := ah_bd y h (by omega); have hb' := ah_bd (y + 1) (by omega) (by omega); have hw := wk_bd y 1; have hw' := wk_bd (y + 1) 1
  rw [if_pos rfl, if_pos rfl, w64 (x := y + 1) (by omega) (by omega), fWeek1 k hk (y + 1) 1 (by omega) (by omega) (by omega) (by omega), fWeek1 k hk y 1 h (by omega) (by omega) (by omega)]
  simp only [Option.bind_some]
  rw [w64 (by omega) (by omega), fFloor _ 7 (by omega) (by omega) ⟨by omega, by omega⟩]; rfl
 ·rfl
theorem fBegins (k : Nat) (hk : 8 ≤ k) (c y : Int) (hc : Four c) (h : -40000 ≤ y) (h' : y ≤ 40000) : trystref01_begins.f k c y = some (fx c y 1 + 1) := by
 unfold trystref01_begins.f
 rw [if_neg (by rcases hc with rfl | rfl | rfl | rfl <;> omega), fFixed k hk c y 1 1 hc h h' (by omega) (by omega) (by omega) (by omega)]; rfl
theorem fNext (c y : Int) (hc : Four c) (h : -40000 ≤ y) (h' : y ≤ 40000) : trystref01_next.f c y = some (y + 1) := by
 unfold trystref01_next.f
 rw [if_neg (by rcases hc with rfl | rfl | rfl | rfl <;> omega), w64 (by omega) (by omega)]
theorem fIn (day : Int) : trystref01_In.f day = some (decide (1 ≤ day) && decide (day ≤ 3652059)) := by
 unfold trystref01_In.f
 by_cases h : day ≥ 1
 ·rw [if_pos h, decide_eq_true (show 1 ≤ day from h)]; rfl
 ·rw [if_neg h, decide_eq_false (show ¬ 1 ≤ day from h)]; rfl
theorem fIn_yes {day : Int} (h : In day) : trystref01_In.f day = some true := by
 rw [fIn, decide_eq_true h.1, decide_eq_true h.2]; rfl
/-- Days of a month of the four calendars. -/
def len (c y m : Int) : Int := if c = 0 then dim (lp y) m else if c = 1 then dim (lj y) m else if m < 1 ∨ mths c y < m then 0 else if c = 2 then 7 else if m = 13 then lc y else 30
theorem fx_end (c y : Int) (hc : c = 0 ∨ c = 1) : fx c (y + 1) 1 = fx c y 13 := by
 unfold fx
 rcases hc with rfl | rfl
 ·rw [if_pos rfl, if_pos rfl, cum_one, cum_end, ah_succ]; omega
 ·have := jul.succ y
  rw [if_neg (by omega), if_pos rfl, if_neg (by omega), if_pos rfl, cum_one, cum_end, this]; omega
theorem fx_bd (c y m : Int) (hc : Four c) (h : -40000 ≤ y) (h' : y ≤ 40000) (hm : 1 ≤ m) (hm' : m ≤ 54) : -16000000 ≤ fx c y m ∧ fx c y m ≤ 16000000 := by
 have a := ah_bd y h h'; have b := jb_bd y h h'; have d := cb_bd y h h'; have e := wk_bd y 1
 have x : -2 ≤ cum (lp y) m ∧ cum (lp y) m ≤ 2000 := by have := lp_01 y; unfold cum; split <;> omega
 have z : -2 ≤ cum (lj y) m ∧ cum (lj y) m ≤ 2000 := by have := lj_01 y; unfold cum; split <;> omega
 unfold fx
 rcases hc with rfl | rfl | rfl | rfl
 ·rw [if_pos rfl]; omega
 ·rw [if_neg (by omega), if_pos rfl]; omega
 ·rw [if_neg (by omega), if_neg (by omega), if_pos rfl]; omega
 ·rw [if_neg (by omega), if_neg (by omega), if_neg (by omega)]; omega
theorem fLength (k : Nat) (hk : 9 ≤ k) (c y m : Int) (hc : Four c) (h : -40000 ≤ y) (h' : y < 40000) : trystref01_Length.f k c y m = some (len c y m) := by
 obtain ⟨k, rfl⟩ : ∃ j, k = j + 1 := ⟨k - 1, by omega⟩
 have hM := mths_bd c y
 have e01 : (m < 1 ∨ mths c y < m) → len c y m = 0 := by
  intro z
  unfold len
  unfold mths at z hM
  rcases hc with rfl | rfl | rfl | rfl
  ·rw [if_pos rfl]; exact dim_none _ _ (by simp at z; omega)
  ·rw [if_neg (by omega), if_pos rfl]; exact dim_none _ _ (by simp at z; omega)
  ·rw [if_neg (by omega), if_neg (by omega), if_pos (by unfold mths; exact z)]
  ·rw [if_neg (by omega), if_neg (by omega), if_pos (by unfold mths; exact z)]
 unfold trystref01_Length.f
 by_cases m1 : m < 1
 ·rw [if_pos m1, e01 (Or.inl m1)]; simp only [trystref01_Length.j0, if_true]
 rw [if_neg m1, fMonths (k + 1) (by omega) c y hc h h', Option.bind_some]
 by_cases m2 : mths c y < m
 ·rw [decide_eq_true m2, e01 (Or.inr m2)]; simp only [trystref01_Length.j0, if_true]
 rw [decide_eq_false m2]
 simp only [trystref01_Length.j0]
 rw [if_neg (by simp)]
 have n3 : ¬ c = 3 := by rcases hc with rfl | rfl | rfl | rfl <;> omega
 by_cases c2 : c = 2
 ·subst c2
  rw [if_pos rfl]; unfold len
  rw [if_neg (by omega), if_neg (by omega), if_neg (by omega), if_pos rfl]
 rw [if_neg c2, if_neg n3, fMonths k (by omega) c y hc h h', Option.bind_some]
 have b1 := fx_bd c y m hc h (by omega) (by omega) (by omega)
 have b2 := fx_bd c y (m + 1) hc h (by omega) (by omega) (by omega)
 have b3 := fx_bd c (y + 1) 1 hc (by omega) (by omega) (by omega) (by omega)
 have key : (m < mths c y → fx c y (m + 1) - fx c y m = len c y m) ∧ (m = mths c y → fx c (y + 1) 1 - fx c y m = len c y m) := by
  rcases hc with rfl | rfl | rfl | rfl
  ·have s := cum_succ (lp y) m (by omega) (by simp [mths] at m2; omega)
   have q := fx_end 0 y (Or.inl rfl)
   constructor
   ·intro _; simp only [fx, len, if_true]; omega
   ·intro hm; simp only [mths] at hm; simp at hm; subst hm; rw [q]; simp only [fx, len, if_true]; simp at s; omega
  ·have s := cum_succ (lj y) m (by omega) (by simp [mths] at m2; omega)
   have q := fx_end 1 y (Or.inr rfl)
   constructor
   ·intro _; simp [fx, len]; omega
   ·intro hm; simp only [mths] at hm; simp at hm; subst hm; rw [q]; simp [fx, len]; simp at s; omega
  ·omega
  ·have s := cb_succ y
   have eM : mths 6 y = 13 := by simp [mths]
   rw [eM] at m2
   constructor
   ·intro hm; rw [eM] at hm; simp [fx, len, eM]; rw [if_neg (by omega), if_neg (by omega)]; omega
   ·intro hm; rw [eM] at hm; subst hm; simp [fx, len, eM]; omega
 by_cases m3 : m < mths c y
 ·rw [if_pos m3, w64 (x := m + 1) (by omega) (by omega), fFixed k (by omega) c y (m + 1) 1 hc h (by omega) (by omega) (by omega) (by omega) (by omega), fFixed k (by omega) c y m 1 hc h (by omega) (by omega) (by omega) (by omega) (by omega)]
  simp only [Option.bind_some]
  rw [w64 (by omega) (by omega)]; congr 1; have := key.1 m3; omega
 ·rw [if_neg m3, fNext c y hc h (by omega), Option.bind_some, fBegins k (by omega) c (y + 1) hc (by omega) (by omega), fFixed k (by omega) c y m 1 hc h (by omega) (by omega) (by omega) (by omega) (by omega)]
  simp only [Option.bind_some]
  rw [w64 (by omega) (by omega)]; congr 1; have := key.2 (by omega); omega
end Go.Proofs.Ytfdcldjoncednaa.FunB
/- What the reference's Date tells: the date of a day in the Gregorian (0), Julian (1), ISO (2) and Coptic (6) calendar. -/
namespace Go.Proofs.Ytfdcldjoncednaa.FunD
open Go.RowKit Go.Proofs.YtfdcldjoncednaaW.PrintWords Go.Proofs.YtfdcldjoncednaaW.PrintLast Go.Proofs.Ytfdcldjoncednaa.M Go.Proofs.Ytfdcldjoncednaa.Cal Go.Proofs.Ytfdcldjoncednaa.FunA Go.Proofs.Ytfdcldjoncednaa.FunB
theorem fSearch (c : Int) (hc : Four c) (day : Int) (K : Nat) (hK : 8 ≤ K) : ∀ (n k : Nat) (a b : Int), K + 2 * n + 1 ≤ k → a < b → b - a ≤ 2 ^ n → -801 ≤ a → b ≤ 15000 →
  fx c a 1 < day → day ≤ fx c b 1 → ∃ (y : Int) (k' : Nat), a ≤ y ∧ y < b ∧ fx c y 1 < day ∧ day ≤ fx c (y + 1) 1 ∧ K ≤ k' ∧ trystref01_Date.l0 k c day a b = trystref01_Date.l1 k' c day y 1 := by
 have n3 : ¬ c = 3 := by rcases hc with rfl | rfl | rfl | rfl <;> omega
 have n5 : ¬ c = 5 := by rcases hc with rfl | rfl | rfl | rfl <;> omega
 intro n
 induction n with
 | zero =>
  intro k a b h1 h2 h3 h4 h5 h6 h7
  obtain ⟨k, rfl⟩ : ∃ j, k = j + 1 := ⟨k - 1, by omega⟩
  have e : b = a + 1 := by simp at h3; omega
  subst e
  refine ⟨a, k, by omega, by omega, h6, h7, by omega, ?_⟩
  simp only [trystref01_Date.l0]
  rw [fNext c a hc (by omega) (by omega), Option.bind_some, if_neg (by omega), if_neg n3]
 | succ n ih =>
  intro k a b h1 h2 h3 h4 h5 h6 h7
  obtain ⟨k, rfl⟩ : ∃ j, k = j + 1 := ⟨k - 1, by omega⟩
  simp only [trystref01_Date.l0]
  rw [fNext c a hc (by omega) (by omega), Option.bind_some]
  by_cases c1 : a + 1 < b
  ·rw [if_pos c1, w64 (by omega) (by omega), fFloor _ 2 (by omega) (by omega) ⟨by omega, by omega⟩, Option.bind_some, if_neg n5]
   obtain ⟨k, rfl⟩ : ∃ j, k = j + 1 := ⟨k - 1, by omega⟩
   simp only [trystref01_Date.j1]
   rw [if_neg (by simp), fBegins k (by omega) c _ hc (by omega) (by omega), Option.bind_some]
   have hp : (2 : Int) ^ (n + 1) = 2 * 2 ^ n := by rw [Int.pow_succ]; omega
   rw [hp] at h3
   generalize (2 : Int) ^ n = P at *
   by_cases c2 : fx c ((a + b) / 2) 1 + 1 ≤ day
   ·rw [if_pos c2]
    obtain ⟨y, k', r1, r2, r3, r4, r5, r6⟩ := ih k ((a + b) / 2) b (by omega) (by omega) (by omega) (by omega) (by omega) (by omega) h7
    exact ⟨y, k', by omega, r2, r3, r4, r5, r6⟩
   ·rw [if_neg c2]
    obtain ⟨y, k', r1, r2, r3, r4, r5, r6⟩ := ih k a ((a + b) / 2) (by omega) (by omega) (by omega) (by omega) (by omega) h6 (by omega)
    exact ⟨y, k', r1, by omega, r3, r4, r5, r6⟩
  ·have e : b = a + 1 := by omega
   subst e
   refine ⟨a, k, by omega, by omega, h6, h7, by omega, ?_⟩
   rw [if_neg (by omega), if_neg n3]
theorem fLoop (c : Int) (hc : Four c) (day y : Int) (hd : In day) (hy : -801 ≤ y) (hy' : y ≤ 15000) : ∀ (j k : Nat) (m : Int), 1 ≤ m → m ≤ mths c y → mths c y - m = j → j + 9 ≤ k →
  fx c y m < day → ∃ m', m ≤ m' ∧ m' ≤ mths c y ∧ fx c y m' < day ∧ (m' < mths c y → day ≤ fx c y (m' + 1)) ∧ trystref01_Date.l1 k c day y m = some (y, m', day - fx c y m', 0) := by
 obtain ⟨d1, d2⟩ := hd
 have hM := mths_bd c y
 intro j
 induction j with
 | zero =>
  intro k m h1 h2 h3 h4 h5
  obtain ⟨k, rfl⟩ : ∃ j, k = j + 1 := ⟨k - 1, by omega⟩
  have hb := fx_bd c y m hc (by omega) (by omega) h1 (by omega)
  refine ⟨m, by omega, h2, h5, fun h => by omega, ?_⟩
  simp only [trystref01_Date.l1]
  rw [fMonths k (by omega) c y hc (by omega) (by omega), Option.bind_some, if_neg (by omega), fFixed k (by omega) c y m 1 hc (by omega) (by omega) (by omega) (by omega) (by omega) (by omega), Option.bind_some, w64 (x := day - (fx c y m + 1)) (by omega) (by omega), w64 (by omega) (by omega)]
  have e : day - (fx c y m + 1) + 1 = day - fx c y m := by omega
  rw [e]
 | succ j ih =>
  intro k m h1 h2 h3 h4 h5
  obtain ⟨k, rfl⟩ : ∃ j, k = j + 1 := ⟨k - 1, by omega⟩
  have hb := fx_bd c y m hc (by omega) (by omega) h1 (by omega)
  simp only [trystref01_Date.l1]
  rw [fMonths k (by omega) c y hc (by omega) (by omega), Option.bind_some, if_pos (by omega), w64 (x := m + 1) (by omega) (by omega), fFixed k (by omega) c y (m + 1) 1 hc (by omega) (by omega) (by omega) (by omega) (by omega) (by omega), Option.bind_some]
  by_cases c2 : fx c y (m + 1) + 1 ≤ day
  ·rw [if_pos c2]
   obtain ⟨m', r1, r2, r3, r4, r5⟩ := ih k (m + 1) (by omega) (by omega) (by omega) (by omega) (by omega)
   exact ⟨m', by omega, r2, r3, r4, r5⟩
  ·refine ⟨m, by omega, h2, h5, fun _ => by omega, ?_⟩
   rw [if_neg c2, fFixed k (by omega) c y m 1 hc (by omega) (by omega) (by omega) (by omega) (by omega) (by omega), Option.bind_some, w64 (x := day - (fx c y m + 1)) (by omega) (by omega), w64 (by omega) (by omega)]
   have e : day - (fx c y m + 1) + 1 = day - fx c y m := by omega
   rw [e]
def start (c : Int) : Int := if c = 1 then 1 else if c = 2 then 0 else if c = 0 then 1 else -800
theorem fLeast (c : Int) (hc : Four c) : trystref01_least.f c = some (start c) := by
 rcases hc with rfl | rfl | rfl | rfl <;> rfl
theorem fx_start (c : Int) (hc : Four c) : fx c (start c) 1 < 1 ∧ 3652059 ≤ fx c 15000 1 := by
 have h1 := wk_bd 0 1; have h2 := wk_bd 15000 1
 have e0 : ah 0 = -366 := by decide
 have e1 : ah 15000 = 5478272 := by decide
 rcases hc with rfl | rfl | rfl | rfl
 ·decide
 ·decide
 ·simp [fx, start]; omega
 ·decide
theorem fDate (k : Nat) (hk : 120 ≤ k) (c : Int) (hc : Four c) (day : Int) (hd : In day) : ∃ y m, -801 ≤ y ∧ y < 15000 ∧ fx c y 1 < day ∧ day ≤ fx c (y + 1) 1 ∧ 1 ≤ m ∧ m ≤ mths c y ∧
  fx c y m < day ∧ (m < mths c y → day ≤ fx c y (m + 1)) ∧ trystref01_Date.f k c day = some (y, m, day - fx c y m, 0) := by
 have hs := fx_start c hc
 have h0 : -800 ≤ start c ∧ start c ≤ 1 := by rcases hc with rfl | rfl | rfl | rfl <;> decide
 have h14 : (2 : Int) ^ 14 = 16384 := by decide
 obtain ⟨y, k', h1, h2, h3, h4, h5, h6⟩ := fSearch c hc day 80 (by omega) 14 k (start c) 15000 (by omega) (by omega) (by rw [h14]; omega) (by omega) (by omega) (by have := hd.1; omega) (by have := hd.2; omega)
 have hM := mths_bd c y
 obtain ⟨m, r1, r2, r3, r4, r5⟩ := fLoop c hc day y hd (by omega) (by omega) (mths c y - 1).toNat k' 1 (by omega) (by omega) (by omega) (by omega) h3
 refine ⟨y, m, by omega, h2, h3, h4, r1, r2, r3, r4, ?_⟩
 unfold trystref01_Date.f
 rw [fIn_yes hd, Option.bind_some, if_pos rfl, fLeast c hc, Option.bind_some, h6, r5]
theorem mths12 (c y : Int) (hc : c = 0 ∨ c = 1) : mths c y = 12 := by
 unfold mths; rcases hc with rfl | rfl <;> simp
/-- The reference's Gregorian date. -/
theorem fDate0 (k : Nat) (hk : 120 ≤ k) (day : Int) (hd : In day) : ∃ y m d, trystref01_Date.f k 0 day = some (y, m, d, 0) ∧ Is ah lp y m d day := by
 obtain ⟨y, m, h1, h2, h3, h4, h5, h6, h7, h8, h9⟩ := fDate k hk 0 (Or.inl rfl) day hd
 rw [mths12 0 y (Or.inl rfl)] at h6 h8
 refine ⟨y, m, _, h9, ⟨h5, h6, by omega, ?_, by simp [fx]; omega⟩⟩
 have s := cum_succ (lp y) m h5 h6
 by_cases e : m < 12
 ·have := h8 e
  simp [fx] at this ⊢; omega
 ·have e12 : m = 12 := by omega
  subst e12
  rw [fx_end 0 y (Or.inl rfl)] at h4
  simp [fx] at h4 ⊢
  have e13 : (12 : Int) + 1 = 13 := rfl
  rw [e13] at s; omega
end Go.Proofs.Ytfdcldjoncednaa.FunD
