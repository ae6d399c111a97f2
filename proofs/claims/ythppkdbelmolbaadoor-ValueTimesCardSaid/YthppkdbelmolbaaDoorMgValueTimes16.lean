/- Texts of this claim, merged: Cal, FunA, FunC, Awake7, FunQ, FunB, FunD, FunN. -/
import Derived.RowKit
import Derived.Test.YthppkdbelmolbaaDoorMgValueTimes2
import Derived.Test.YthppkdbelmolbaaDoorMgValueTimes3
import Derived.Test.YthppkdbelmolbaaDoorMgValueTimes6
import Derived.Test.YthppkdbelmolbaaDoorMgValueTimes7
import Derived.Test.YthppkdbelmolbaaDoorMgValueTimes5
import Derived.Test.YthppkdbelmolbaaDoorMgValueTimes10
import Derived.Test.YthppkdbelmolbaaDoorMgValueTimes11
import Derived.Test.YthppkdbelmolbaaDoorMgValueTimes12
import Derived.Test.YthppkdbelmolbaaDoorMgValueTimes13
/- Plain laws of the Gregorian, Julian, Coptic and ISO calendars over whole numbers: no program in sight. -/
namespace Go.Proofs.YthppkdbelmolbaaDoor.Cal
open Go.RowKit
theorem w64 {x : Int} (h : -9223372036854775808 ≤ x) (h' : x ≤ 9223372036854775807) : wrap64 x = x := by
 unfold wrap64; omega

/-- Days ahead of a Gregorian year. -/
def ah (y : Int) : Int := 365 * (y - 1) + (y - 1) / 4 - (y - 1) / 100 + (y - 1) / 400
/-- 1 in a leap year, else 0. -/
def lp (y : Int) : Int := if y % 4 = 0 then (if y % 100 = 0 then (if y % 400 = 0 then 1 else 0) else 1) else 0
theorem lp_01 (y : Int) : lp y = 0 ∨ lp y = 1 := by
 unfold lp; repeat' split
 all_goals first | exact Or.inl rfl | exact Or.inr rfl
theorem ah_succ (y : Int) : ah (y + 1) = ah y + 365 + lp y := by
 unfold ah lp
 split
 ·split
  ·split <;> omega
  ·omega
 ·omega
theorem ah_mono (a : Int) : ∀ n : Nat, ah a + 365 * n ≤ ah (a + n)
 | 0 => by simp
 | n + 1 => by
  have h := ah_mono a n
  have h1 := ah_succ (a + n)
  have h2 := lp_01 (a + n)
  have e : a + ((n + 1 : Nat) : Int) = a + n + 1 := by omega
  rw [e]; omega
theorem ah_le {a b : Int} (h : a ≤ b) : ah a + 365 * (b - a) ≤ ah b := by
 have := ah_mono a (b - a).toNat
 have e : a + ((b - a).toNat : Int) = b := by omega
 rw [e] at this; omega

/-- Days of a year ahead of a month; l: 1 in a leap year. -/
def cum (l m : Int) : Int := (367 * m - 362) / 12 - (if m > 2 then 2 - l else 0)
/-- Days of a month. -/
def dim (l m : Int) : Int :=
 if m = 2 then 28 + l else if m = 4 ∨ m = 6 ∨ m = 9 ∨ m = 11 then 30 else if 1 ≤ m ∧ m ≤ 12 then 31 else 0
theorem months {m : Int} (h1 : 1 ≤ m) (h2 : m ≤ 12) : m = 1 ∨ m = 2 ∨ m = 3 ∨ m = 4 ∨ m = 5 ∨ m = 6 ∨ m = 7 ∨ m = 8 ∨ m = 9 ∨ m = 10 ∨ m = 11 ∨ m = 12 := by omega
theorem cum_one (l : Int) : cum l 1 = 0 := by unfold cum; simp
theorem cum_end (l : Int) : cum l 13 = 365 + l := by unfold cum; simp; omega
theorem cum_succ (l m : Int) (h1 : 1 ≤ m) (h2 : m ≤ 12) : cum l (m + 1) = cum l m + dim l m := by
 rcases months h1 h2 with h | h | h | h | h | h | h | h | h | h | h | h <;> subst h <;> simp [cum, dim] <;> omega
theorem dim_lo (l m : Int) (hl : l = 0 ∨ l = 1) (h1 : 1 ≤ m) (h2 : m ≤ 12) : 28 ≤ dim l m ∧ dim l m ≤ 31 := by
 rcases months h1 h2 with h | h | h | h | h | h | h | h | h | h | h | h <;> subst h <;> simp [dim] <;> omega
theorem dim_pos (l m : Int) (h : 0 < dim l m) : 1 ≤ m ∧ m ≤ 12 := by
 unfold dim at h
 split at h
 ·omega
 ·split at h
  ·omega
  ·split at h
   ·omega
   ·omega
theorem dim_none (l m : Int) (h : m < 1 ∨ 12 < m) : dim l m = 0 := by
 unfold dim
 rw [if_neg (by omega), if_neg (by omega), if_neg (by omega)]
theorem cum_mono (l m : Int) (hl : l = 0 ∨ l = 1) (h1 : 1 ≤ m) : ∀ n : Nat, m + n ≤ 13 → cum l m + 28 * n ≤ cum l (m + n)
 | 0, _ => by simp
 | n + 1, h => by
  have h3 := cum_mono l m hl h1 n (by omega)
  have h4 := cum_succ l (m + n) (by omega) (by omega)
  have h5 := dim_lo l (m + n) hl (by omega) (by omega)
  have e : m + ((n + 1 : Nat) : Int) = m + n + 1 := by omega
  rw [e]; omega
theorem cum_le {l a b : Int} (hl : l = 0 ∨ l = 1) (h1 : 1 ≤ a) (h : a ≤ b) (h2 : b ≤ 13) : cum l a + 28 * (b - a) ≤ cum l b := by
 have := cum_mono l a hl h1 (b - a).toNat (by omega)
 have e : a + ((b - a).toNat : Int) = b := by omega
 rw [e] at this; omega
theorem cum_bd {l m : Int} (hl : l = 0 ∨ l = 1) (h1 : 1 ≤ m) (h2 : m ≤ 13) : 0 ≤ cum l m ∧ cum l m ≤ 366 := by
 have a := cum_le hl (by omega) h1 h2
 have b := cum_le hl h1 h2 (by omega)
 rw [cum_one] at a; rw [cum_end] at b; omega

/-- A date of a calendar with months as the Gregorian one has; b: days ahead of its years, l: leap years. -/
structure Is (b l : Int → Int) (y m d day : Int) : Prop where
 m1 : 1 ≤ m
 m2 : m ≤ 12
 d1 : 1 ≤ d
 d2 : d ≤ dim (l y) m
 e : day = b y + cum (l y) m + d
structure Cal (b l : Int → Int) : Prop where
 l01 : ∀ y, l y = 0 ∨ l y = 1
 succ : ∀ y, b (y + 1) = b y + 365 + l y
theorem Cal.le {b l : Int → Int} (c : Cal b l) {x y : Int} (h : x ≤ y) : b x + 365 * (y - x) ≤ b y := by
 have key : ∀ n : Nat, b x + 365 * n ≤ b (x + n) := by
  intro n
  induction n with
  | zero => simp
  | succ n ih =>
   have h1 := c.succ (x + n)
   have h2 := c.l01 (x + n)
   have e : x + ((n + 1 : Nat) : Int) = x + n + 1 := by omega
   rw [e]; omega
 have := key (y - x).toNat
 have e : x + ((y - x).toNat : Int) = y := by omega
 rw [e] at this; omega
theorem Is.year {b l : Int → Int} (c : Cal b l) {y m d day : Int} (h : Is b l y m d day) : b y < day ∧ day ≤ b (y + 1) := by
 have h1 := cum_bd (c.l01 y) h.m1 (by have := h.m2; omega)
 have h2 := cum_succ (l y) m h.m1 h.m2
 have h3 := cum_le (c.l01 y) (show 1 ≤ m + 1 by have := h.m1; omega) (show m + 1 ≤ 13 by have := h.m2; omega) (by omega)
 rw [cum_end] at h3
 have h4 := c.succ y
 have := h.d1; have := h.d2; have := h.e; have := h.m2
 omega
theorem year_one {b l : Int → Int} (c : Cal b l) {x y day : Int} (hx : b x < day) (hx' : day ≤ b (x + 1)) (hy : b y < day) (hy' : day ≤ b (y + 1)) : x = y := by
 by_cases h : x < y
 ·have := c.le (show x + 1 ≤ y by omega); omega
 ·by_cases h' : y < x
  ·have := c.le (show y + 1 ≤ x by omega); omega
  ·omega
theorem Is.one {b l : Int → Int} (c : Cal b l) {y m d y' m' d' day : Int} (h : Is b l y m d day) (h' : Is b l y' m' d' day) : y = y' ∧ m = m' ∧ d = d' := by
 have ey : y = y' := year_one c (h.year c).1 (h.year c).2 (h'.year c).1 (h'.year c).2
 subst ey
 have em : m = m' := by
  have := h.e; have := h'.e; have := h.d1; have := h'.d1; have := h.d2; have := h'.d2; have := h.m1; have := h.m2; have := h'.m1; have := h'.m2
  have s := cum_succ (l y) m h.m1 h.m2
  have s' := cum_succ (l y) m' h'.m1 h'.m2
  by_cases a : m < m'
  ·have := cum_le (c.l01 y) (show 1 ≤ m + 1 by omega) (show m + 1 ≤ m' by omega) (by omega); omega
  ·by_cases a' : m' < m
   ·have := cum_le (c.l01 y) (show 1 ≤ m' + 1 by omega) (show m' + 1 ≤ m by omega) (by omega); omega
   ·omega
 subst em
 have := h.e; have := h'.e
 exact ⟨rfl, rfl, by omega⟩
theorem greg : Cal ah lp := ⟨lp_01, ah_succ⟩

/-- A day's Gregorian year, as the program reckons it. -/
def yrC (n : Int) : Int := min (n / 36524) 3
def yrR (n : Int) : Int := n - 36524 * yrC n
def yr (day : Int) : Int :=
 400 * ((day - 1) / 146097) + 100 * yrC ((day - 1) % 146097) + 4 * (yrR ((day - 1) % 146097) / 1461) + min (yrR ((day - 1) % 146097) % 1461 / 365) 3 + 1
theorem yr_ok (day : Int) : ah (yr day) < day ∧ day ≤ ah (yr day + 1) := by
 have hs := ah_succ (yr day)
 have key : ∀ q n c f s : Int, day - 1 = 146097 * q + n → 0 ≤ n → n < 146097 → c = min (n / 36524) 3 → f = (n - 36524 * c) / 1461 → s = min ((n - 36524 * c) % 1461 / 365) 3 →
   yr day = 400 * q + 100 * c + 4 * f + s + 1 → ah (yr day) < day ∧ day ≤ ah (yr day) + 365 + lp (yr day) := by
  intro q n c f s h1 h2 h3 hc hf hs hy
  have c0 : 0 ≤ c ∧ c ≤ 3 := by omega
  have f0 : 0 ≤ f ∧ f ≤ 24 := by omega
  have s0 : 0 ≤ s ∧ s ≤ 3 := by omega
  have e4 : (yr day - 1) / 4 = 100 * q + 25 * c + f := by omega
  have e100 : (yr day - 1) / 100 = 4 * q + c := by omega
  have e400 : (yr day - 1) / 400 = q := by omega
  have ea : ah (yr day) = 365 * (yr day - 1) + (100 * q + 25 * c + f) - (4 * q + c) + q := by unfold ah; rw [e4, e100, e400]
  have m4 : yr day % 4 = 0 ↔ s = 3 := by omega
  have m100 : yr day % 100 = 0 ↔ (s = 3 ∧ f = 24) := by omega
  have m400 : yr day % 400 = 0 ↔ (s = 3 ∧ f = 24 ∧ c = 3) := by omega
  have el : lp (yr day) = if s = 3 then (if f = 24 then (if c = 3 then 1 else 0) else 1) else 0 := by
   unfold lp
   by_cases a : s = 3
   ·by_cases b : f = 24
    ·by_cases c' : c = 3
     ·rw [if_pos (m4.2 a), if_pos (m100.2 ⟨a, b⟩), if_pos (m400.2 ⟨a, b, c'⟩), if_pos a, if_pos b, if_pos c']
     ·rw [if_pos (m4.2 a), if_pos (m100.2 ⟨a, b⟩), if_neg (fun h => c' (m400.1 h).2.2), if_pos a, if_pos b, if_neg c']
    ·rw [if_pos (m4.2 a), if_neg (fun h => b (m100.1 h).2), if_pos a, if_neg b]
   ·rw [if_neg (fun h => a (m4.1 h)), if_neg a]
  rw [ea, el]
  clear ea el m4 m100 m400 e4 e100 e400
  constructor
  ·omega
  ·by_cases a : s = 3
   ·by_cases b : f = 24
    ·by_cases c' : c = 3
     ·simp only [a, b, c', if_true]; omega
     ·simp only [a, b, c', if_true, if_false]; omega
    ·simp only [a, b, if_true, if_false]; omega
   ·simp only [a, if_false]; omega
 rw [hs]
 have := key ((day - 1) / 146097) ((day - 1) % 146097) _ _ _ (by omega) (by omega) (by omega) rfl rfl rfl rfl
 omega

/-- The day with which week 1 of a year begins. -/
def wk (y s : Int) : Int := ah y - 2 + (s - (ah y - 2)) % 7

theorem wk_bd (y s : Int) : ah y - 2 ≤ wk y s ∧ wk y s ≤ ah y + 4 ∧ (wk y s - s) % 7 = 0 := by
 unfold wk
 generalize hj : ah y - 2 = j
 omega
/-- Days ahead of a Julian year. -/
def jb (y : Int) : Int := 365 * (y - 1) + (y - 1) / 4 - 2
def lj (y : Int) : Int := if y % 4 = 0 then 1 else 0
theorem lj_01 (y : Int) : lj y = 0 ∨ lj y = 1 := by unfold lj; split <;> simp
theorem jul : Cal jb lj := ⟨lj_01, fun y => by unfold jb lj; split <;> omega⟩
/-- Days ahead of a Coptic year. -/
def cb (y : Int) : Int := 103604 + 365 * (y - 1) + y / 4
/-- Days of a Coptic year's last month. -/
def lc (y : Int) : Int := if y % 4 = 3 then 6 else 5
theorem cb_succ (y : Int) : cb (y + 1) = cb y + 360 + lc y := by unfold cb lc; split <;> omega
theorem lc_56 (y : Int) : lc y = 5 ∨ lc y = 6 := by unfold lc; split <;> simp
structure IsC (y m d day : Int) : Prop where
 m1 : 1 ≤ m
 m2 : m ≤ 13
 d1 : 1 ≤ d
 d2 : d ≤ 30
 d3 : m = 13 → d ≤ lc y
 e : day = cb y + 30 * (m - 1) + d
theorem cb_le {x y : Int} (h : x ≤ y) : cb x + 365 * (y - x) ≤ cb y := by unfold cb; omega
theorem IsC.year {y m d day : Int} (h : IsC y m d day) : cb y < day ∧ day ≤ cb (y + 1) := by
 have := h.m1; have := h.m2; have := h.d1; have := h.d2; have := h.d3; have := h.e; have := cb_succ y; have := lc_56 y
 omega
theorem IsC.one {y m d y' m' d' day : Int} (h : IsC y m d day) (h' : IsC y' m' d' day) : y = y' ∧ m = m' ∧ d = d' := by
 have a := h.year; have a' := h'.year
 have ey : y = y' := by
  by_cases b : y < y'
  ·have := cb_le (show y + 1 ≤ y' by omega); omega
  ·by_cases b' : y' < y
   ·have := cb_le (show y' + 1 ≤ y by omega); omega
   ·omega
 subst ey
 have := h.e; have := h'.e; have := h.d1; have := h'.d1; have := h.d2; have := h'.d2
 exact ⟨rfl, by omega, by omega⟩
end Go.Proofs.YthppkdbelmolbaaDoor.Cal
/- What the program's day arithmetic (package rata) reckons, in plain numbers. -/
namespace Go.Proofs.YthppkdbelmolbaaDoor.FunA
open Go.RowKit Go.Proofs.YthppkdbelmolbaaDoorW.PrintWords Go.Proofs.YthppkdbelmolbaaDoorW.PrintLast Go.Proofs.YthppkdbelmolbaaDoor.Q Go.Proofs.YthppkdbelmolbaaDoor.Cal
def I64 (a : Int) : Prop := -9223372036854775808 ≤ a ∧ a ≤ 9223372036854775807
theorem quo (a b : Int) (hb : 0 < b) : Int.tdiv a b = if 0 ≤ a ∨ a % b = 0 then a / b else a / b + 1 := by
 rw [Int.tdiv_eq_ediv]
 have hd : b ∣ a ↔ a % b = 0 := Int.dvd_iff_emod_eq_zero
 by_cases h : 0 ≤ a ∨ a % b = 0
 ·rw [if_pos h, if_pos (h.imp id hd.2)]; omega
 ·rw [if_neg h, if_neg (fun k => h (k.imp id hd.1)), Int.sign_eq_one_of_pos hb]
theorem rem0 (a b : Int) : Int.tmod a b = 0 ↔ a % b = 0 := by
 rw [← Int.dvd_iff_tmod_eq_zero, Int.dvd_iff_emod_eq_zero]
theorem div_bd (a b : Int) (hb : 2 ≤ b) (ha : I64 a) : -4611686018427387905 ≤ a / b ∧ a / b ≤ 4611686018427387904 := by
 have h1 := Int.ediv_mul_le a (show b ≠ 0 by omega)
 have h2 := Int.lt_ediv_add_one_mul_self a (show 0 < b by omega)
 obtain ⟨ha, ha'⟩ := ha
 generalize a / b = q at *
 constructor
 ·by_cases h : 0 ≤ q + 1
  ·omega
  ·have := Int.mul_le_mul_of_nonpos_left (show q + 1 ≤ 0 by omega) hb
   omega
 ·by_cases h : q ≤ 0
  ·omega
  ·have := Int.mul_le_mul_of_nonneg_left hb (show 0 ≤ q by omega)
   omega
theorem rFloor (a b : Int) (hb : 2 ≤ b) (ha : I64 a) : rata_Floor.f a b = some (a / b) := by
 have hd := div_bd a b hb ha
 have hq := quo a b (by omega)
 unfold rata_Floor.f
 rw [if_neg (by omega)]
 by_cases h0 : a % b = 0
 ·rw [if_pos ((rem0 a b).2 h0), hq, if_pos (Or.inr h0), w64 (by omega) (by omega)]
 ·rw [if_neg (fun h => h0 ((rem0 a b).1 h)), hq]
  by_cases hn : a < 0
  ·rw [if_pos (by simp [hn]; omega), if_neg (by omega), w64 (x := a / b + 1) (by omega) (by omega), w64 (by omega) (by omega)]
   congr 1; omega
  ·rw [if_neg (by simp [hn]; omega), if_pos (by omega), w64 (by omega) (by omega)]
theorem wrap_sub (a x : Int) : wrap64 (a - wrap64 x) = wrap64 (a - x) := by unfold wrap64; omega
theorem rMod (a b : Int) (hb : 2 ≤ b) (hb' : b ≤ 4611686018427387904) (ha : I64 a) : rata_Mod.f a b = some (a % b) := by
 unfold rata_Mod.f
 have h1 := Int.emod_nonneg a (show b ≠ 0 by omega)
 have h2 := Int.emod_lt_of_pos a (show 0 < b by omega)
 rw [rFloor a b hb ha, Option.bind_some, wrap_sub, ← Int.emod_def, w64 (by omega) (by omega)]
theorem rAhead (y : Int) (h : -40000 ≤ y) (h' : y ≤ 40000) : rata_ahead.f y = some (ah y) := by
 unfold rata_ahead.f
 have e : wrap64 (y - 1) = y - 1 := w64 (by omega) (by omega)
 rw [e, rFloor _ 4 (by omega) ⟨by omega, by omega⟩, rFloor _ 100 (by omega) ⟨by omega, by omega⟩, rFloor _ 400 (by omega) ⟨by omega, by omega⟩]
 simp only [Option.bind_some]
 congr 1
 unfold ah wrap64; omega
theorem ah_bd (y : Int) (h : -40000 ≤ y) (h' : y ≤ 40000) : -15000000 ≤ ah y ∧ ah y ≤ 15000000 := by unfold ah; omega
/-- A day of layer 1. -/
def In (day : Int) : Prop := 1 ≤ day ∧ day ≤ 3652059
theorem rOf (day : Int) : rata_Of.f day = some (decide (1 ≤ day) && decide (day ≤ 3652059)) := by
 unfold rata_Of.f
 by_cases h : day ≥ 1
 ·rw [if_pos h, decide_eq_true (show 1 ≤ day from h)]; rfl
 ·rw [if_neg h, decide_eq_false (show ¬ 1 ≤ day from h)]; rfl
theorem rOf_yes {day : Int} (h : In day) : rata_Of.f day = some true := by
 rw [rOf, decide_eq_true h.1, decide_eq_true h.2]; rfl
end Go.Proofs.YthppkdbelmolbaaDoor.FunA
/- What the program's package rata reckons of dates, in plain numbers. -/
namespace Go.Proofs.YthppkdbelmolbaaDoor.FunC
open Go.RowKit Go.Proofs.YthppkdbelmolbaaDoorW.PrintWords Go.Proofs.YthppkdbelmolbaaDoorW.PrintLast Go.Proofs.YthppkdbelmolbaaDoor.Q Go.Proofs.YthppkdbelmolbaaDoor.Cal Go.Proofs.YthppkdbelmolbaaDoor.FunA
theorem rLeap (y : Int) : rata_Leap.f y = some (decide (lp y = 1)) := by
 unfold rata_Leap.f lp
 by_cases a : y % 4 = 0
 ·rw [if_pos ((rem0 y 4).2 a), if_pos a]
  by_cases b : y % 100 = 0
  ·rw [if_pos ((rem0 y 100).2 b), if_pos b]
   by_cases c : y % 400 = 0
   ·rw [if_pos c, (rem0 y 400).2 c]; rfl
   ·rw [if_neg c]
    have : ¬ Int.tmod y 400 = 0 := fun h => c ((rem0 y 400).1 h)
    simp [this]
  ·rw [if_neg (fun h => b ((rem0 y 100).1 h)), if_neg b]; simp
 ·rw [if_neg (fun h => a ((rem0 y 4).1 h)), if_neg a]; simp
theorem rLength (k : Nat) (hk : 2 ≤ k) (y m : Int) : rata_Length.f k y m = some (dim (lp y) m) := by
 obtain ⟨k, rfl⟩ : ∃ j, k = j + 2 := ⟨k - 2, by omega⟩
 have hl := lp_01 y
 by_cases h : 1 ≤ m ∧ m ≤ 12
 ·rcases months h.1 h.2 with e | e | e | e | e | e | e | e | e | e | e | e <;> subst e <;> simp [rata_Length.f, rata_Length.j0, rata_Length.j1, dim, rLeap]
  rcases hl with e | e <;> simp [e]
 ·rw [dim_none _ _ (by omega)]
  unfold rata_Length.f
  rw [if_neg (by omega), if_neg (by omega), if_neg (by omega), if_neg (by omega), if_neg (by omega), if_neg (by omega)]
  have e12 : (m == 12) = false := beq_eq_false_iff_ne.2 (by omega)
  have e11 : (m == 11) = false := beq_eq_false_iff_ne.2 (by omega)
  rw [e12]
  simp only [rata_Length.j0]
  rw [if_neg (by simp), if_neg (by omega), if_neg (by omega), if_neg (by omega), e11]
  simp only [rata_Length.j1]
  rw [if_neg (by simp), if_neg (by omega)]
/-- A right Gregorian date. -/
def Right (y m d : Int) : Prop := 1 ≤ y ∧ y ≤ 9999 ∧ 1 ≤ d ∧ d ≤ dim (lp y) m
theorem rRight_yes (k : Nat) (hk : 2 ≤ k) (y m d : Int) (h : Right y m d) : rata_Right.f k y m d = some true := by
 unfold rata_Right.f
 rw [if_pos h.1, if_pos h.2.1, if_pos h.2.2.1, rLength k hk, Option.bind_some, decide_eq_true h.2.2.2]
theorem rRight_no (k : Nat) (hk : 2 ≤ k) (y m d : Int) (h : ¬ Right y m d) : rata_Right.f k y m d = some false := by
 unfold rata_Right.f
 by_cases a : y ≥ 1
 ·by_cases b : y ≤ 9999
  ·by_cases c : d ≥ 1
   ·rw [if_pos a, if_pos b, if_pos c, rLength k hk, Option.bind_some, decide_eq_false (fun e => h ⟨a, b, c, e⟩)]
   ·rw [if_pos a, if_pos b, if_neg c]
  ·rw [if_pos a, if_neg b]
 ·rw [if_neg a]
theorem rGone0 (y m : Int) (hm : m ≤ 12) : ∀ (j k : Nat) (n i : Int), 1 ≤ i → i ≤ m → m - i = j → j + 2 < k → 0 ≤ n → n + 31 * j ≤ 100000 →
  rata_gone.l0 k y m n i = some (n + cum (lp y) m - cum (lp y) i) := by
 intro j
 induction j with
 | zero =>
  intro k n i h1 h2 h3 h4 h5 h6
  obtain ⟨k, rfl⟩ : ∃ j, k = j + 1 := ⟨k - 1, by omega⟩
  simp only [rata_gone.l0]
  have : i = m := by omega
  subst this
  rw [if_neg (by omega)]; congr 1; omega
 | succ j ih =>
  intro k n i h1 h2 h3 h4 h5 h6
  obtain ⟨k, rfl⟩ : ∃ j, k = j + 1 := ⟨k - 1, by omega⟩
  have hd := dim_lo (lp y) i (lp_01 y) h1 (by omega)
  have hc := cum_succ (lp y) i h1 (by omega)
  simp only [rata_gone.l0]
  rw [if_pos (by omega), rLength k (by omega), Option.bind_some, w64 (by omega) (by omega), w64 (by omega) (by omega), ih k _ (i + 1) (by omega) (by omega) (by omega) (by omega) (by omega) (by omega)]
  congr 1; omega
theorem rGone (k : Nat) (hk : 16 ≤ k) (y m : Int) (h1 : 1 ≤ m) (h2 : m ≤ 12) : rata_gone.f k y m = some (cum (lp y) m) := by
 unfold rata_gone.f
 rw [rGone0 y m h2 (m - 1).toNat k 0 1 (by omega) h1 (by omega) (by omega) (by omega) (by omega), cum_one]; congr 1; omega
theorem rDay_yes (k : Nat) (hk : 16 ≤ k) (y m d : Int) (h : Right y m d) : rata_Day.f k y m d = some (ah y + cum (lp y) m + d, 0) := by
 have hm := dim_pos (lp y) m (by have := h.2.2; omega)
 have hd := dim_lo (lp y) m (lp_01 y) hm.1 hm.2
 have hb := ah_bd y (by have := h.1; omega) (by have := h.2.1; omega)
 have hc := cum_bd (lp_01 y) hm.1 (show m ≤ 13 by omega)
 have := h.2.2
 unfold rata_Day.f
 rw [rRight_yes k (by omega) y m d h, Option.bind_some, if_pos rfl, rAhead y (by have := h.1; omega) (by have := h.2.1; omega), rGone k hk y m hm.1 hm.2]
 simp only [Option.bind_some]
 rw [w64 (x := ah y + cum (lp y) m) (by omega) (by omega), w64 (by omega) (by omega)]
theorem rDay_no (k : Nat) (hk : 2 ≤ k) (y m d : Int) (h : ¬ Right y m d) : rata_Day.f k y m d = some (0, 2) := by
 unfold rata_Day.f
 rw [rRight_no k hk y m d h, Option.bind_some, if_neg (by simp)]
theorem rYear (day : Int) (h : -10000000 ≤ day) (h' : day ≤ 10000000) : rata_Year.f day = some (yr day) := by
 unfold rata_Year.f
 rw [w64 (x := day - 1) (by omega) (by omega), rFloor _ 146097 (by omega) ⟨by omega, by omega⟩, rMod _ 146097 (by omega) (by omega) ⟨by omega, by omega⟩]
 simp only [Option.bind_some]
 have hn : 0 ≤ (day - 1) % 146097 ∧ (day - 1) % 146097 < 146097 := by omega
 have hq : -100 ≤ (day - 1) / 146097 ∧ (day - 1) / 146097 ≤ 100 := by omega
 unfold yr
 generalize (day - 1) % 146097 = n at *
 generalize (day - 1) / 146097 = q at *
 have e1 : mn (wrap64 (Int.tdiv n 36524)) 3 = yrC n := by
  rw [Int.tdiv_eq_ediv_of_nonneg (by omega), w64 (by omega) (by omega)]; unfold mn yrC; split <;> omega
 have c0 : 0 ≤ yrC n ∧ yrC n ≤ 3 ∧ 36524 * yrC n ≤ n := by unfold yrC; omega
 rw [e1, w64 (x := 36524 * yrC n) (by omega) (by omega), w64 (x := n - 36524 * yrC n) (by omega) (by omega)]
 have e2 : n - 36524 * yrC n = yrR n := rfl
 rw [e2]
 have r0 : 0 ≤ yrR n ∧ yrR n ≤ 146097 := by unfold yrR; omega
 generalize yrR n = r at *
 generalize yrC n = c at *
 rw [Int.tdiv_eq_ediv_of_nonneg (a := r) (by omega), Int.tmod_eq_emod_of_nonneg (a := r) (by omega), Int.tdiv_eq_ediv_of_nonneg (a := r % 1461) (by omega)]
 have e3 : mn (wrap64 (r % 1461 / 365)) 3 = min (r % 1461 / 365) 3 := by
  rw [w64 (by omega) (by omega)]; unfold mn; split <;> omega
 rw [e3, w64 (x := r / 1461) (by omega) (by omega)]
 congr 1
 have m0 : 0 ≤ min (r % 1461 / 365) 3 ∧ min (r % 1461 / 365) 3 ≤ 3 := by omega
 generalize min (r % 1461 / 365) 3 = z at *
 have f0 : 0 ≤ r / 1461 ∧ r / 1461 ≤ 100 := by omega
 generalize r / 1461 = f at *
 clear e1 e2 e3
 unfold wrap64; omega
theorem yr_In {day : Int} (h : In day) : 1 ≤ yr day ∧ yr day ≤ 9999 := by
 obtain ⟨h1, h2⟩ := yr_ok day
 obtain ⟨h3, h4⟩ := h
 constructor
 ·by_cases c : yr day ≤ 0
  ·have := ah_le (show yr day + 1 ≤ 1 by omega)
   have e : ah 1 = 0 := by decide
   omega
  ·omega
 ·by_cases c : 10000 ≤ yr day
  ·have := ah_le c
   have e : ah 10000 = 3652059 := by decide
   omega
  ·omega
theorem rDate0 (y : Int) : ∀ (j k : Nat) (n m : Int), 1 ≤ m → m ≤ 12 → 12 - m = j → j + 3 < k → 1 ≤ n → n + cum (lp y) m ≤ 365 + lp y →
  ∃ m' d, rata_Date.l0 k n y m 0 = some (y, m', d, 0) ∧ m ≤ m' ∧ m' ≤ 12 ∧ 1 ≤ d ∧ d ≤ dim (lp y) m' ∧ n + cum (lp y) m = cum (lp y) m' + d := by
 intro j
 induction j with
 | zero =>
  intro k n m h1 h2 h3 h4 h5 h6
  obtain ⟨k, rfl⟩ : ∃ j, k = j + 1 := ⟨k - 1, by omega⟩
  have : m = 12 := by omega
  subst this
  have e := cum_succ (lp y) 12 (by omega) (by omega)
  have e' := cum_end (lp y)
  have e2 : (12 : Int) + 1 = 13 := rfl
  rw [e2, e'] at e
  refine ⟨12, n, ?_, by omega, by omega, by omega, by omega, by omega⟩
  simp only [rata_Date.l0]
  rw [rLength k (by omega), Option.bind_some, if_neg (by omega)]
 | succ j ih =>
  intro k n m h1 h2 h3 h4 h5 h6
  obtain ⟨k, rfl⟩ : ∃ j, k = j + 1 := ⟨k - 1, by omega⟩
  have e := cum_succ (lp y) m h1 h2
  have hd := dim_lo (lp y) m (lp_01 y) h1 h2
  have hl := lp_01 y
  have hc := cum_bd (lp_01 y) h1 (show m ≤ 13 by omega)
  simp only [rata_Date.l0]
  rw [rLength k (by omega), Option.bind_some]
  by_cases c : n > dim (lp y) m
  ·rw [if_pos c, Option.bind_some, w64 (by omega) (by omega), w64 (by omega) (by omega)]
   obtain ⟨m', d, h7, h8, h9, h10, h11, h12⟩ := ih k (n - dim (lp y) m) (m + 1) (by omega) (by omega) (by omega) (by omega) (by omega) (by omega)
   exact ⟨m', d, h7, by omega, h9, h10, h11, by omega⟩
  ·rw [if_neg c]
   exact ⟨m, n, rfl, by omega, h2, h5, by omega, by omega⟩
theorem rDate_yes (k : Nat) (hk : 20 ≤ k) (day : Int) (h : In day) : ∃ m d, rata_Date.f k day = some (yr day, m, d, 0) ∧ Is ah lp (yr day) m d day := by
 have hy := yr_In h
 obtain ⟨h1, h2⟩ := yr_ok day
 have hs := ah_succ (yr day)
 have hb := ah_bd (yr day) (by omega) (by omega)
 obtain ⟨m, d, h3, h4, h5, h6, h7, h8⟩ := rDate0 (yr day) 11 k (day - ah (yr day)) 1 (by omega) (by omega) (by omega) (by omega) (by omega) (by rw [cum_one]; omega)
 rw [cum_one] at h8
 refine ⟨m, d, ?_, ⟨h4, h5, h6, h7, by omega⟩⟩
 unfold rata_Date.f
 rw [rOf_yes h, Option.bind_some, if_pos rfl, rYear day (by have := h.1; omega) (by have := h.2; omega), Option.bind_some, rAhead _ (by omega) (by omega), Option.bind_some, w64 (by have := h.1; omega) (by have := h.2; omega), h3]
theorem Is.right {y m d day : Int} (h : Is ah lp y m d day) (hy : 1 ≤ y) (hy' : y ≤ 9999) : Right y m d := ⟨hy, hy', h.d1, h.d2⟩
end Go.Proofs.YthppkdbelmolbaaDoor.FunC
/- The clock laws' first look (awake) tells true. -/
namespace Go.Proofs.YthppkdbelmolbaaDoor.Awake7
open Go.RowKit Go.Proofs.YthppkdbelmolbaaDoorW.PrintWords Go.Proofs.YthppkdbelmolbaaDoorW.PrintLast Go.Proofs.YthppkdbelmolbaaDoor.Q Go.Proofs.YthppkdbelmolbaaDoor.Cal Go.Proofs.YthppkdbelmolbaaDoor.FunA Go.Proofs.YthppkdbelmolbaaDoor.FunC Go.Proofs.YthppkdbelmolbaaDoor.Fmt
set_option linter.unusedVariables false
set_option linter.unusedSimpArgs false
theorem cRight (a : Int) : clock_Right.f a = some (decide (86400 ≤ a) && decide (a < 315537984000)) := by
 unfold clock_Right.f
 by_cases h : a ≥ 86400
 ·rw [if_pos h, decide_eq_true (show 86400 ≤ a from h)]; rfl
 ·rw [if_neg h, decide_eq_false (show ¬ 86400 ≤ a from h)]; rfl
/-- Right seconds. -/
def Ok (a : Int) : Prop := 86400 ≤ a ∧ a < 315537984000
theorem cRight_yes {a : Int} (h : Ok a) : clock_Right.f a = some true := by rw [cRight, decide_eq_true h.1, decide_eq_true h.2]; rfl
theorem cSplit {a : Int} (h : 0 ≤ a) (h' : a ≤ 9223372036854775807) : clock_split.f a = some (a / 86400, a % 86400) := by
 unfold clock_split.f
 rw [Int.tmod_eq_emod_of_nonneg h, Int.tdiv_eq_ediv_of_nonneg h, if_neg (by omega), w64 (by omega) (by omega)]
theorem cDay_yes {a : Int} (h : Ok a) : clock_Day.f a = some (a / 86400) := by
 unfold clock_Day.f
 rw [cRight_yes h, Option.bind_some, if_pos rfl, cSplit (by have := h.1; omega) (by have := h.2; omega)]; rfl
theorem cSecond_yes {a : Int} (h : Ok a) : clock_Second.f a = some (a % 86400) := by
 unfold clock_Second.f
 rw [cRight_yes h, Option.bind_some, if_pos rfl, cSplit (by have := h.1; omega) (by have := h.2; omega)]; rfl
theorem ok_in {a : Int} (h : Ok a) : In (a / 86400) := by obtain ⟨h1, h2⟩ := h; exact ⟨by omega, by omega⟩
end Go.Proofs.YthppkdbelmolbaaDoor.Awake7
/- What clock.At and clock.Of reckon, in plain numbers. -/
namespace Go.Proofs.YthppkdbelmolbaaDoor.FunQ
open Go.RowKit Go.Proofs.YthppkdbelmolbaaDoorW.PrintWords Go.Proofs.YthppkdbelmolbaaDoorW.PrintLast Go.Proofs.YthppkdbelmolbaaDoor.Q Go.Proofs.YthppkdbelmolbaaDoor.Cal Go.Proofs.YthppkdbelmolbaaDoor.FunA Go.Proofs.YthppkdbelmolbaaDoor.FunC Go.Proofs.YthppkdbelmolbaaDoor.Awake7
theorem cAt_yes {day s : Int} (h : In day) (hs : 0 ≤ s) (hs' : s < 86400) : clock_At.f day s = some (86400 * day + s, 0) := by
 obtain ⟨h1, h2⟩ := h
 unfold clock_At.f
 rw [rOf_yes ⟨h1, h2⟩, Option.bind_some, if_pos rfl, if_neg (by omega), if_neg (by omega), w64 (x := day * 86400) (by omega) (by omega), w64 (by omega) (by omega)]
 have e : day * 86400 + s = 86400 * day + s := by omega
 rw [e]
theorem right_in {y m d : Int} (h : Right y m d) : In (ah y + cum (lp y) m + d) := by
 obtain ⟨h1, h2, h3, h4⟩ := h
 have hm := dim_pos (lp y) m (by omega)
 have hi : Is ah lp y m d (ah y + cum (lp y) m + d) := ⟨hm.1, hm.2, h3, h4, rfl⟩
 have hyy := hi.year greg
 have hs := ah_le h1
 have hs' := ah_le (show y + 1 ≤ 10000 by omega)
 have e1 : ah 1 = 0 := by decide
 have e2 : ah 10000 = 3652059 := by decide
 exact ⟨by omega, by omega⟩
end Go.Proofs.YthppkdbelmolbaaDoor.FunQ
/- What the reference's day arithmetic reckons, in plain numbers: Gregorian (0), Julian (1), ISO (2) and Coptic (6) dates. -/
namespace Go.Proofs.YthppkdbelmolbaaDoor.FunB
open Go.RowKit Go.Proofs.YthppkdbelmolbaaDoorW.PrintWords Go.Proofs.YthppkdbelmolbaaDoorW.PrintLast Go.Proofs.YthppkdbelmolbaaDoor.Q Go.Proofs.YthppkdbelmolbaaDoor.Cal Go.Proofs.YthppkdbelmolbaaDoor.FunA
theorem fFloor (a b : Int) (hb : 2 ≤ b) (hb' : b ≤ 4611686018427387904) (ha : I64 a) : trystref01_Floor.f a b = some (a / b) := by
 have hd := div_bd a b hb ha
 have hq := quo a b (by omega)
 have h1 := Int.emod_nonneg a (show b ≠ 0 by omega)
 have h2 := Int.emod_lt_of_pos a (show 0 < b by omega)
 have h3 := Int.emod_def a b
 have h4 : (a / b + 1) * b = b * (a / b) + b := by rw [Int.add_mul, Int.one_mul, Int.mul_comm]
 have h5 : (a / b) * b = b * (a / b) := Int.mul_comm _ _
 obtain ⟨ha, ha'⟩ := ha
 unfold trystref01_Floor.f
 rw [if_neg (by omega), hq]
 by_cases h : 0 ≤ a ∨ a % b = 0
 ·rw [if_pos h, w64 (x := a / b) (by omega) (by omega), h5, w64 (by omega) (by omega), if_neg (by omega)]
 ·rw [if_neg h, w64 (x := a / b + 1) (by omega) (by omega), h4, w64 (x := b * (a / b) + b) (by omega) (by omega), if_pos (by omega), w64 (by omega) (by omega)]
  congr 1; omega
theorem fMod (a b : Int) (hb : 2 ≤ b) (hb' : b ≤ 4611686018427387904) (ha : I64 a) : trystref01_Mod.f a b = some (a % b) := by
 unfold trystref01_Mod.f
 have h1 := Int.emod_nonneg a (show b ≠ 0 by omega)
 have h2 := Int.emod_lt_of_pos a (show 0 < b by omega)
 rw [fFloor a b hb hb' ha, Option.bind_some, wrap_sub, ← Int.emod_def, w64 (by omega) (by omega)]
theorem fLeap (y : Int) (hy : I64 y) : trystref01_Leap.f y = some (decide (lp y = 1)) := by
 unfold trystref01_Leap.f
 rw [fMod y 4 (by omega) (by omega) hy, fMod y 400 (by omega) (by omega) hy]
 simp only [Option.bind_some]
 unfold lp
 by_cases a : y % 4 = 0
 ·rw [if_pos a, if_pos a]
  by_cases b : y % 100 = 0
  ·by_cases c : y % 400 = 0
   ·rw [if_neg (by omega), if_neg (by omega), if_pos b, if_pos c]; simp; omega
   ·rw [if_pos b, if_neg c]
    by_cases d : y % 400 = 100
    ·rw [if_pos d]; simp
    ·rw [if_neg d]
     by_cases e : y % 400 = 200
     ·rw [if_pos e]; simp
     ·rw [if_neg e]; simp; omega
  ·rw [if_neg (by omega), if_neg (by omega), if_neg b]; simp; omega
 ·rw [if_neg a, if_neg a]; simp
theorem fGreg (k : Nat) (hk : 1 ≤ k) (y m d : Int) (h : -40000 ≤ y) (h' : y ≤ 40000) (hm : 1 ≤ m) (hm' : m ≤ 100) (hd : -100000 ≤ d) (hd' : d ≤ 100000) :
  trystref01_gregorian.f k y m d = some (ah y + cum (lp y) m + d) := by
 obtain ⟨k, rfl⟩ : ∃ j, k = j + 1 := ⟨k - 1, by omega⟩
 have e : wrap64 (y - 1) = y - 1 := w64 (by omega) (by omega)
 have hl := lp_01 y
 unfold trystref01_gregorian.f
 rw [e, fFloor _ 4 (by omega) (by omega) ⟨by omega, by omega⟩, fFloor _ 100 (by omega) (by omega) ⟨by omega, by omega⟩, fFloor _ 400 (by omega) (by omega) ⟨by omega, by omega⟩]
 simp only [Option.bind_some]
 have e2 : wrap64 (Int.tdiv (wrap64 ((wrap64 (367 * m)) - 362)) 12) = (367 * m - 362) / 12 := by
  rw [w64 (x := 367 * m) (by omega) (by omega), w64 (x := 367 * m - 362) (by omega) (by omega), Int.tdiv_eq_ediv_of_nonneg (by omega), w64 (by omega) (by omega)]
 rw [e2]
 have e3 : wrap64 ((wrap64 ((wrap64 ((wrap64 ((wrap64 ((wrap64 (365 * (y - 1))) + (y - 1) / 4)) - (y - 1) / 100)) + (y - 1) / 400)) + (367 * m - 362) / 12)) + d) = ah y + (367 * m - 362) / 12 + d := by
  unfold ah wrap64; omega
 rw [e3]
 have hb := ah_bd y h h'
 by_cases c : m > 2
 ·rw [if_pos c, fLeap y ⟨by omega, by omega⟩, Option.bind_some]
  simp only [trystref01_gregorian.j0]
  unfold cum
  by_cases l : lp y = 1
  ·rw [decide_eq_true l, if_pos rfl, if_pos c, w64 (by omega) (by omega)]; congr 1; omega
  ·rw [decide_eq_false l, if_neg (by simp), if_pos c, if_pos c, w64 (by omega) (by omega)]; congr 1; omega
 ·rw [if_neg c]
  simp only [trystref01_gregorian.j0]
  unfold cum
  rw [if_neg (by simp), if_neg c, if_neg c]; congr 1; omega
theorem fWeek (s : Int) (hs : 0 ≤ s) (hs' : s ≤ 6) : ∀ (j k : Nat) (n : Int), -100000000 ≤ n → n + j ≤ 100000000 → (s - n) % 7 = j → j < k → trystref01_Week1.l0 k s n = some (n + j) := by
 intro j
 induction j with
 | zero =>
  intro k n h1 h2 h3 h4
  obtain ⟨k, rfl⟩ : ∃ m, k = m + 1 := ⟨k - 1, by omega⟩
  simp only [trystref01_Week1.l0]
  rw [fMod n 7 (by omega) (by omega) ⟨by omega, by omega⟩, Option.bind_some, if_pos (by omega)]; simp
 | succ j ih =>
  intro k n h1 h2 h3 h4
  obtain ⟨k, rfl⟩ : ∃ m, k = m + 1 := ⟨k - 1, by omega⟩
  simp only [trystref01_Week1.l0]
  rw [fMod n 7 (by omega) (by omega) ⟨by omega, by omega⟩, Option.bind_some, if_neg (by omega), w64 (by omega) (by omega), ih k (n + 1) (by omega) (by omega) (by omega) (by omega)]
  congr 1; omega
theorem fWeek1 (k : Nat) (hk : 8 ≤ k) (y s : Int) (h : -40000 ≤ y) (h' : y ≤ 40000) (hs : 0 ≤ s) (hs' : s ≤ 6) : trystref01_Week1.f k y s = some (wk y s) := by
 have hb := ah_bd y h h'
 unfold trystref01_Week1.f
 rw [fGreg k (by omega) y 1 1 h h' (by omega) (by omega) (by omega) (by omega), Option.bind_some, cum_one, w64 (by omega) (by omega)]
 have e : ah y + 0 + 1 - 3 = ah y - 2 := by omega
 rw [e, fWeek s hs hs' ((s - (ah y - 2)) % 7).toNat k (ah y - 2) (by omega) (by omega) (by omega) (by omega)]
 unfold wk; congr 1; omega
theorem jb_bd (y : Int) (h : -40000 ≤ y) (h' : y ≤ 40000) : -15000000 ≤ jb y ∧ jb y ≤ 15000000 := by unfold jb; omega
theorem cb_bd (y : Int) (h : -40000 ≤ y) (h' : y ≤ 40000) : -15000000 ≤ cb y ∧ cb y ≤ 15000000 := by unfold cb; omega
theorem fJul (k : Nat) (hk : 1 ≤ k) (y m d : Int) (h : -40000 ≤ y) (h' : y ≤ 40000) (hm : 1 ≤ m) (hm' : m ≤ 100) (hd : -100000 ≤ d) (hd' : d ≤ 100000) :
  trystref01_julian.f k y m d = some (jb y + cum (lj y) m + d) := by
 obtain ⟨k, rfl⟩ : ∃ j, k = j + 1 := ⟨k - 1, by omega⟩
 have e : wrap64 (y - 1) = y - 1 := w64 (by omega) (by omega)
 unfold trystref01_julian.f
 rw [e, fFloor _ 4 (by omega) (by omega) ⟨by omega, by omega⟩]
 simp only [Option.bind_some]
 have e2 : wrap64 (Int.tdiv (wrap64 ((wrap64 (367 * m)) - 362)) 12) = (367 * m - 362) / 12 := by
  rw [w64 (x := 367 * m) (by omega) (by omega), w64 (x := 367 * m - 362) (by omega) (by omega), Int.tdiv_eq_ediv_of_nonneg (by omega), w64 (by omega) (by omega)]
 rw [e2]
 have e3 : wrap64 ((wrap64 ((wrap64 ((wrap64 ((-2) + (wrap64 (365 * (y - 1))))) + (y - 1) / 4)) + (367 * m - 362) / 12)) + d) = jb y + (367 * m - 362) / 12 + d := by
  unfold jb wrap64; omega
 rw [e3]
 have hb := jb_bd y h h'
 by_cases c : m > 2
 ·rw [if_pos c, fMod y 4 (by omega) (by omega) ⟨by omega, by omega⟩, Option.bind_some]
  simp only [trystref01_julian.j0]
  unfold cum lj
  by_cases l : y % 4 = 0
  ·rw [if_pos (by simp [l]), if_pos c, if_pos l, w64 (by omega) (by omega)]; congr 1; omega
  ·rw [if_neg (by simp [l]), if_pos c, if_pos c, if_neg l, w64 (by omega) (by omega)]; congr 1; omega
 ·rw [if_neg c]
  simp only [trystref01_julian.j0]
  unfold cum
  rw [if_neg (by simp), if_neg c, if_neg c]; congr 1; omega
theorem fCop (y m d : Int) (h : -40000 ≤ y) (h' : y ≤ 40000) (hm : 1 ≤ m) (hm' : m ≤ 100) (hd : -100000 ≤ d) (hd' : d ≤ 100000) :
  trystref01_coptic.f y m d = some (cb y + 30 * (m - 1) + d) := by
 unfold trystref01_coptic.f
 rw [fFloor _ 4 (by omega) (by omega) ⟨by omega, by omega⟩, Option.bind_some]
 congr 1
 unfold cb wrap64; omega
/-- The day of the first of a month, less one, of the four calendars. -/
def fx (c y m : Int) : Int := if c = 0 then ah y + cum (lp y) m else if c = 1 then jb y + cum (lj y) m else if c = 2 then wk y 1 + 7 * (m - 1) - 1 else cb y + 30 * (m - 1)
def Four (c : Int) : Prop := c = 0 ∨ c = 1 ∨ c = 2 ∨ c = 6
theorem fFixed (k : Nat) (hk : 8 ≤ k) (c y m d : Int) (hc : Four c) (h : -40000 ≤ y) (h' : y ≤ 40000) (hm : 1 ≤ m) (hm' : m ≤ 100) (hd : -100000 ≤ d) (hd' : d ≤ 100000) :
  trystref01_Fixed.f k c y m d = some (fx c y m + d) := by
 unfold trystref01_Fixed.f fx
 rcases hc with rfl | rfl | rfl | rfl
 ·rw [if_pos rfl, fGreg k (by omega) y m d h h' hm hm' hd hd']; rfl
 ·rw [if_neg (by omega), if_pos rfl, fJul k (by omega) y m d h h' hm hm' hd hd']; rfl
 ·have hb := ah_bd y h h'
  have hw := wk_bd y 1
  rw [if_neg (by omega), if_neg (by omega), if_pos rfl, fWeek1 k hk y 1 h h' (by omega) (by omega), Option.bind_some, if_neg (by omega), if_neg (by omega), if_pos rfl]
  congr 1
  unfold wrap64; omega
 ·rw [if_neg (by omega), if_neg (by omega), if_neg (by omega), if_neg (by omega), if_neg (by omega), if_neg (by omega), fCop y m d h h' hm hm' hd hd']; rfl
def mths (c y : Int) : Int := if c = 2 then (wk (y + 1) 1 - wk y 1) / 7 else if c = 6 then 13 else 12
theorem wks (y s : Int) : ∃ n, (n = 52 ∨ n = 53) ∧ wk (y + 1) s - wk y s = 7 * n := by
 have h1 := wk_bd y s; have h2 := wk_bd (y + 1) s; have h3 := ah_succ y; have h4 := lp_01 y
 refine ⟨(wk (y + 1) s - wk y s) / 7, ?_, ?_⟩ <;> omega
theorem mths_bd (c y : Int) : 12 ≤ mths c y ∧ mths c y ≤ 53 := by
 obtain ⟨n, hn, h⟩ := wks y 1
 unfold mths; split
 ·omega
 ·split <;> omega
theorem fMonths (k : Nat) (hk : 8 ≤ k) (c y : Int) (hc : Four c) (h : -40000 ≤ y) (h' : y < 40000) : trystref01_Months.f k c y = some (mths c y) := by
 unfold trystref01_Months.f mths
 rcases hc with rfl | rfl | rfl | rfl
 ·rfl
 ·rfl
 ·have hb := ah_bd y h (by omega); have hb' := ah_bd (y + 1) (by omega) (by omega); have hw := wk_bd y 1; have hw' := wk_bd (y + 1) 1
  rw [if_pos rfl, if_pos rfl, w64 (x := y + 1) (by omega) (by omega), fWeek1 k hk (y + 1) 1 (by omega) (by omega) (by omega) (by omega), fWeek1 k hk y 1 h (by omega) (by omega) (by omega)]
  simp only [Option.bind_some]
  rw [w64 (by omega) (by omega), fFloor _ 7 (by omega) (by omega) ⟨by omega, by omega⟩]; rfl
 ·rfl
theorem fBegins (k : Nat) (hk : 8 ≤ k) (c y : Int) (hc : Four c) (h : -40000 ≤ y) (h' : y ≤ 40000) : trystref01_begins.f k c y = some (fx c y 1 + 1) := by
 unfold trystref01_begins.f
 rw [if_neg (by rcases hc with rfl | rfl | rfl | rfl <;> omega), fFixed k hk c y 1 1 hc h h' (by omega) (by omega) (by omega) (by omega)]; rfl
theorem fNext (c y : Int) (hc : Four c) (h : -40000 ≤ y) (h' : y ≤ 40000) : trystref01_next.f c y = some (y + 1) := by
 unfold trystref01_next.f
 rw [if_neg (by rcases hc with rfl | rfl | rfl | rfl <;> omega), w64 (by omega) (by omega)]
theorem fIn (day : Int) : trystref01_In.f day = some (decide (1 ≤ day) && decide (day ≤ 3652059)) := by
 unfold trystref01_In.f
 by_cases h : day ≥ 1
 ·rw [if_pos h, decide_eq_true (show 1 ≤ day from h)]; rfl
 ·rw [if_neg h, decide_eq_false (show ¬ 1 ≤ day from h)]; rfl
theorem fIn_yes {day : Int} (h : In day) : trystref01_In.f day = some true := by
 rw [fIn, decide_eq_true h.1, decide_eq_true h.2]; rfl
theorem fx_end (c y : Int) (hc : c = 0 ∨ c = 1) : fx c (y + 1) 1 = fx c y 13 := by
 unfold fx
 rcases hc with rfl | rfl
 ·rw [if_pos rfl, if_pos rfl, cum_one, cum_end, ah_succ]; omega
 ·have := jul.succ y
  rw [if_neg (by omega), if_pos rfl, if_neg (by omega), if_pos rfl, cum_one, cum_end, this]; omega
theorem fx_bd (c y m : Int) (hc : Four c) (h : -40000 ≤ y) (h' : y ≤ 40000) (hm : 1 ≤ m) (hm' : m ≤ 54) : -16000000 ≤ fx c y m ∧ fx c y m ≤ 16000000 := by
 have a := ah_bd y h h'; have b := jb_bd y h h'; have d := cb_bd y h h'; have e := wk_bd y 1
 have x : -2 ≤ cum (lp y) m ∧ cum (lp y) m ≤ 2000 := by have := lp_01 y; unfold cum; split <;> omega
 have z : -2 ≤ cum (lj y) m ∧ cum (lj y) m ≤ 2000 := by have := lj_01 y; unfold cum; split <;> omega
 unfold fx
 rcases hc with rfl | rfl | rfl | rfl
 ·rw [if_pos rfl]; omega
 ·rw [if_neg (by omega), if_pos rfl]; omega
 ·rw [if_neg (by omega), if_neg (by omega), if_pos rfl]; omega
 ·rw [if_neg (by omega), if_neg (by omega), if_neg (by omega)]; omega
end Go.Proofs.YthppkdbelmolbaaDoor.FunB
/- What the reference's Date tells: the date of a day in the Gregorian (0), Julian (1), ISO (2) and Coptic (6) calendar. -/
namespace Go.Proofs.YthppkdbelmolbaaDoor.FunD
open Go.RowKit Go.Proofs.YthppkdbelmolbaaDoorW.PrintWords Go.Proofs.YthppkdbelmolbaaDoorW.PrintLast Go.Proofs.YthppkdbelmolbaaDoor.Q Go.Proofs.YthppkdbelmolbaaDoor.Cal Go.Proofs.YthppkdbelmolbaaDoor.FunA Go.Proofs.YthppkdbelmolbaaDoor.FunB
theorem fSearch (c : Int) (hc : Four c) (day : Int) (K : Nat) (hK : 8 ≤ K) : ∀ (n k : Nat) (a b : Int), K + 2 * n + 1 ≤ k → a < b → b - a ≤ 2 ^ n → -801 ≤ a → b ≤ 15000 →
  fx c a 1 < day → day ≤ fx c b 1 → ∃ (y : Int) (k' : Nat), a ≤ y ∧ y < b ∧ fx c y 1 < day ∧ day ≤ fx c (y + 1) 1 ∧ K ≤ k' ∧ trystref01_Date.l0 k c day a b = trystref01_Date.l1 k' c day y 1 := by
 have n3 : ¬ c = 3 := by rcases hc with rfl | rfl | rfl | rfl <;> omega
 have n5 : ¬ c = 5 := by rcases hc with rfl | rfl | rfl | rfl <;> omega
 intro n
 induction n with
 | zero =>
  intro k a b h1 h2 h3 h4 h5 h6 h7
  obtain ⟨k, rfl⟩ : ∃ j, k = j + 1 := ⟨k - 1, by omega⟩
  have e : b = a + 1 := by simp at h3; omega
  subst e
  refine ⟨a, k, by omega, by omega, h6, h7, by omega, ?_⟩
  simp only [trystref01_Date.l0]
  rw [fNext c a hc (by omega) (by omega), Option.bind_some, if_neg (by omega), if_neg n3]
 | succ n ih =>
  intro k a b h1 h2 h3 h4 h5 h6 h7
  obtain ⟨k, rfl⟩ : ∃ j, k = j + 1 := ⟨k - 1, by omega⟩
  simp only [trystref01_Date.l0]
  rw [fNext c a hc (by omega) (by omega), Option.bind_some]
  by_cases c1 : a + 1 < b
  ·rw [if_pos c1, w64 (by omega) (by omega), fFloor _ 2 (by omega) (by omega) ⟨by omega, by omega⟩, Option.bind_some, if_neg n5]
   obtain ⟨k, rfl⟩ : ∃ j, k = j + 1 := ⟨k - 1, by omega⟩
   simp only [trystref01_Date.j1]
   rw [if_neg (by simp), fBegins k (by omega) c _ hc (by omega) (by omega), Option.bind_some]
   have hp : (2 : Int) ^ (n + 1) = 2 * 2 ^ n := by rw [Int.pow_succ]; omega
   rw [hp] at h3
   generalize (2 : Int) ^ n = P at *
   by_cases c2 : fx c ((a + b) / 2) 1 + 1 ≤ day
   ·rw [if_pos c2]
    obtain ⟨y, k', r1, r2, r3, r4, r5, r6⟩ := ih k ((a + b) / 2) b (by omega) (by omega) (by omega) (by omega) (by omega) (by omega) h7
    exact ⟨y, k', by omega, r2, r3, r4, r5, r6⟩
   ·rw [if_neg c2]
    obtain ⟨y, k', r1, r2, r3, r4, r5, r6⟩ := ih k a ((a + b) / 2) (by omega) (by omega) (by omega) (by omega) (by omega) h6 (by omega)
    exact ⟨y, k', r1, by omega, r3, r4, r5, r6⟩
  ·have e : b = a + 1 := by omega
   subst e
   refine ⟨a, k, by omega, by omega, h6, h7, by omega, ?_⟩
   rw [if_neg (by omega), if_neg n3]
theorem fLoop (c : Int) (hc : Four c) (day y : Int) (hd : In day) (hy : -801 ≤ y) (hy' : y ≤ 15000) : ∀ (j k : Nat) (m : Int), 1 ≤ m → m ≤ mths c y → mths c y - m = j → j + 9 ≤ k →
  fx c y m < day → ∃ m', m ≤ m' ∧ m' ≤ mths c y ∧ fx c y m' < day ∧ (m' < mths c y → day ≤ fx c y (m' + 1)) ∧ trystref01_Date.l1 k c day y m = some (y, m', day - fx c y m', 0) := by
 obtain ⟨d1, d2⟩ := hd
 have hM := mths_bd c y
 intro j
 induction j with
 | zero =>
  intro k m h1 h2 h3 h4 h5
  obtain ⟨k, rfl⟩ : ∃ j, k = j + 1 := ⟨k - 1, by omega⟩
  have hb := fx_bd c y m hc (by omega) (by omega) h1 (by omega)
  refine ⟨m, by omega, h2, h5, fun h => by omega, ?_⟩
  simp only [trystref01_Date.l1]
  rw [fMonths k (by omega) c y hc (by omega) (by omega), Option.bind_some, if_neg (by omega), fFixed k (by omega) c y m 1 hc (by omega) (by omega) (by omega) (by omega) (by omega) (by omega), Option.bind_some, w64 (x := day - (fx c y m + 1)) (by omega) (by omega), w64 (by omega) (by omega)]
  have e : day - (fx c y m + 1) + 1 = day - fx c y m := by omega
  rw [e]
 | succ j ih =>
  intro k m h1 h2 h3 h4 h5
  obtain ⟨k, rfl⟩ : ∃ j, k = j + 1 := ⟨k - 1, by omega⟩
  have hb := fx_bd c y m hc (by omega) (by omega) h1 (by omega)
  simp only [trystref01_Date.l1]
  rw [fMonths k (by omega) c y hc (by omega) (by omega), Option.bind_some, if_pos (by omega), w64 (x := m + 1) (by omega) (by omega), fFixed k (by omega) c y (m + 1) 1 hc (by omega) (by omega) (by omega) (by omega) (by omega) (by omega), Option.bind_some]
  by_cases c2 : fx c y (m + 1) + 1 ≤ day
  ·rw [if_pos c2]
   obtain ⟨m', r1, r2, r3, r4, r5⟩ := ih k (m + 1) (by omega) (by omega) (by omega) (by omega) (by omega)
   exact ⟨m', by omega, r2, r3, r4, r5⟩
  ·refine ⟨m, by omega, h2, h5, fun _ => by omega, ?_⟩
   rw [if_neg c2, fFixed k (by omega) c y m 1 hc (by omega) (by omega) (by omega) (by omega) (by omega) (by omega), Option.bind_some, w64 (x := day - (fx c y m + 1)) (by omega) (by omega), w64 (by omega) (by omega)]
   have e : day - (fx c y m + 1) + 1 = day - fx c y m := by omega
   rw [e]
def start (c : Int) : Int := if c = 1 then 1 else if c = 2 then 0 else if c = 0 then 1 else -800
theorem fLeast (c : Int) (hc : Four c) : trystref01_least.f c = some (start c) := by
 rcases hc with rfl | rfl | rfl | rfl <;> rfl
theorem fx_start (c : Int) (hc : Four c) : fx c (start c) 1 < 1 ∧ 3652059 ≤ fx c 15000 1 := by
 have h1 := wk_bd 0 1; have h2 := wk_bd 15000 1
 have e0 : ah 0 = -366 := by decide
 have e1 : ah 15000 = 5478272 := by decide
 rcases hc with rfl | rfl | rfl | rfl
 ·decide
 ·decide
 ·simp [fx, start]; omega
 ·decide
theorem fDate (k : Nat) (hk : 120 ≤ k) (c : Int) (hc : Four c) (day : Int) (hd : In day) : ∃ y m, -801 ≤ y ∧ y < 15000 ∧ fx c y 1 < day ∧ day ≤ fx c (y + 1) 1 ∧ 1 ≤ m ∧ m ≤ mths c y ∧
  fx c y m < day ∧ (m < mths c y → day ≤ fx c y (m + 1)) ∧ trystref01_Date.f k c day = some (y, m, day - fx c y m, 0) := by
 have hs := fx_start c hc
 have h0 : -800 ≤ start c ∧ start c ≤ 1 := by rcases hc with rfl | rfl | rfl | rfl <;> decide
 have h14 : (2 : Int) ^ 14 = 16384 := by decide
 obtain ⟨y, k', h1, h2, h3, h4, h5, h6⟩ := fSearch c hc day 80 (by omega) 14 k (start c) 15000 (by omega) (by omega) (by rw [h14]; omega) (by omega) (by omega) (by have := hd.1; omega) (by have := hd.2; omega)
 have hM := mths_bd c y
 obtain ⟨m, r1, r2, r3, r4, r5⟩ := fLoop c hc day y hd (by omega) (by omega) (mths c y - 1).toNat k' 1 (by omega) (by omega) (by omega) (by omega) h3
 refine ⟨y, m, by omega, h2, h3, h4, r1, r2, r3, r4, ?_⟩
 unfold trystref01_Date.f
 rw [fIn_yes hd, Option.bind_some, if_pos rfl, fLeast c hc, Option.bind_some, h6, r5]
theorem mths12 (c y : Int) (hc : c = 0 ∨ c = 1) : mths c y = 12 := by
 unfold mths; rcases hc with rfl | rfl <;> simp
/-- The reference's Gregorian date. -/
theorem fDate0 (k : Nat) (hk : 120 ≤ k) (day : Int) (hd : In day) : ∃ y m d, trystref01_Date.f k 0 day = some (y, m, d, 0) ∧ Is ah lp y m d day := by
 obtain ⟨y, m, h1, h2, h3, h4, h5, h6, h7, h8, h9⟩ := fDate k hk 0 (Or.inl rfl) day hd
 rw [mths12 0 y (Or.inl rfl)] at h6 h8
 refine ⟨y, m, _, h9, ⟨h5, h6, by omega, ?_, by simp [fx]; omega⟩⟩
 have s := cum_succ (lp y) m h5 h6
 by_cases e : m < 12
 ·have := h8 e
  simp [fx] at this ⊢; omega
 ·have e12 : m = 12 := by omega
  subst e12
  rw [fx_end 0 y (Or.inl rfl)] at h4
  simp [fx] at h4 ⊢
  have e13 : (12 : Int) + 1 = 13 := rfl
  rw [e13] at s; omega
end Go.Proofs.YthppkdbelmolbaaDoor.FunD
/- What the reference writes of numbers and seconds: the same bytes as clock.Format. -/
namespace Go.Proofs.YthppkdbelmolbaaDoor.FunN
open Go.RowKit Go.Proofs.YthppkdbelmolbaaDoorW.PrintWords Go.Proofs.YthppkdbelmolbaaDoorW.PrintLast Go.Proofs.YthppkdbelmolbaaDoor.Q Go.Proofs.YthppkdbelmolbaaDoor.Cal Go.Proofs.YthppkdbelmolbaaDoor.FunA Go.Proofs.YthppkdbelmolbaaDoor.FunB Go.Proofs.YthppkdbelmolbaaDoor.FunC Go.Proofs.YthppkdbelmolbaaDoor.FunD Go.Proofs.YthppkdbelmolbaaDoor.Fmt Go.Proofs.YthppkdbelmolbaaDoor.Awake7 Go.Proofs.YthppkdbelmolbaaDoor.FunQ
set_option linter.unusedVariables false
set_option linter.unusedSimpArgs false
theorem byte_one (x : Int) (h : 0 ≤ x) : strOfNums [(wrap64 (48 + Int.tmod x 10)) % 256] = ⟨#[db x 1]⟩ := by
 rw [Int.tmod_eq_emod_of_nonneg h, w64 (by omega) (by omega)]
 have e : (48 + x % 10) % 256 = 48 + x / 1 % 10 := by omega
 rw [e]
 unfold strOfNums db
 simp
theorem db_div (x b : Int) (hb : 0 < b) : db (x / 10) b = db x (10 * b) := by
 unfold db
 rw [Int.ediv_ediv_of_nonneg (by omega)]
theorem one_size (x : Int) (s : ByteArray) : ((⟨#[db x 1]⟩ : ByteArray) ++ s).size = 1 + s.size := by rw [ByteArray.size_append]; rfl
theorem app (a b : List UInt8) : ((⟨a.toArray⟩ : ByteArray) ++ ⟨b.toArray⟩) = ⟨(a ++ b).toArray⟩ := by
 apply ByteArray.ext; simp
theorem nstep (k : Nat) (x z : Int) (s : ByteArray) (hx : 0 ≤ x) (hx' : x ≤ 1000000000) (hz : -1000 ≤ z) (hz' : z ≤ 1000) (h : x > 0 ∨ z > 0) (hs : s.size ≤ 100) :
  trystref01_number.l0 (k + 1) x z s = trystref01_number.l0 k (x / 10) (z - 1) (⟨#[db x 1]⟩ ++ s) := by
 simp only [trystref01_number.l0, Option.bind_some]
 have hb : (⟨#[db x 1]⟩ : ByteArray).size = 1 := rfl
 rw [byte_one x hx, Int.tdiv_eq_ediv_of_nonneg hx, w64 (x := x / 10) (by omega) (by omega), w64 (x := z - 1) (by omega) (by omega)]
 rw [hb]
 by_cases c : x > 0
 ·rw [if_pos c, if_pos (by omega)]
 ·rw [if_neg c, if_pos (by omega), if_pos (by omega)]
theorem nend (k : Nat) (z : Int) (s : ByteArray) (hz : z ≤ 0) (hs : s.toList ≠ []) : trystref01_number.l0 (k + 1) 0 z s = some s := by
 simp only [trystref01_number.l0]
 rw [if_neg (by omega), if_neg (by omega), if_neg hs]
theorem fNum2 (k : Nat) (hk : 10 ≤ k) (n : Int) (h : 0 ≤ n) (h' : n ≤ 99) : trystref01_number.f k n 2 = some ⟨#[db n 10, db n 1]⟩ := by
 obtain ⟨k, rfl⟩ : ∃ j, k = j + 9 := ⟨k - 9, by omega⟩
 simp only [trystref01_number.f]
 have s0 : (⟨#[]⟩ : ByteArray).size = 0 := rfl
 rw [if_neg (by omega), nstep (k + 7) n 2 _ h (by omega) (by omega) (by omega) (by omega) (by omega), nstep (k + 6) (n / 10) _ _ (by omega) (by omega) (by omega) (by omega) (by omega) (by rw [one_size]; omega)]
 have e : n / 10 / 10 = 0 := by omega
 have e1 : db (n / 10) 1 = db n 10 := db_div n 1 (by omega)
 have e2 : ((⟨#[db n 10]⟩ : ByteArray) ++ ((⟨#[db n 1]⟩ : ByteArray) ++ ⟨#[]⟩)) = ⟨#[db n 10, db n 1]⟩ := by
  rw [show (⟨#[db n 1]⟩ : ByteArray) ++ ⟨#[]⟩ = ⟨#[db n 1]⟩ from app [_] [], show ((⟨#[db n 10]⟩ : ByteArray) ++ (⟨#[db n 1]⟩ : ByteArray)) = _ from app [_] [_]]; rfl
 rw [e, e1, e2, nend (k + 5) _ _ (by omega) (by rw [ByteArray.toList_eq]; simp)]
theorem fNum4 (k : Nat) (hk : 10 ≤ k) (n : Int) (h : 0 ≤ n) (h' : n ≤ 9999) : trystref01_number.f k n 4 = some ⟨#[db n 1000, db n 100, db n 10, db n 1]⟩ := by
 obtain ⟨k, rfl⟩ : ∃ j, k = j + 9 := ⟨k - 9, by omega⟩
 simp only [trystref01_number.f]
 have s0 : (⟨#[]⟩ : ByteArray).size = 0 := rfl
 rw [if_neg (by omega), nstep (k + 7) n 4 _ h (by omega) (by omega) (by omega) (by omega) (by omega), nstep (k + 6) (n / 10) _ _ (by omega) (by omega) (by omega) (by omega) (by omega) (by rw [one_size]; omega), nstep (k + 5) (n / 10 / 10) _ _ (by omega) (by omega) (by omega) (by omega) (by omega) (by rw [one_size, one_size]; omega), nstep (k + 4) (n / 10 / 10 / 10) _ _ (by omega) (by omega) (by omega) (by omega) (by omega) (by rw [one_size, one_size, one_size]; omega)]
 have e : n / 10 / 10 / 10 / 10 = 0 := by omega
 have e1 : db (n / 10) 1 = db n 10 := db_div n 1 (by omega)
 have e2 : db (n / 10 / 10) 1 = db n 100 := by rw [db_div _ 1 (by omega), db_div _ (10 * 1) (by omega)]; rfl
 have e3 : db (n / 10 / 10 / 10) 1 = db n 1000 := by rw [db_div _ 1 (by omega), db_div _ (10 * 1) (by omega), db_div _ (10 * (10 * 1)) (by omega)]; rfl
 have e4 : ((⟨#[db n 1000]⟩ : ByteArray) ++ ((⟨#[db n 100]⟩ : ByteArray) ++ ((⟨#[db n 10]⟩ : ByteArray) ++ ((⟨#[db n 1]⟩ : ByteArray) ++ ⟨#[]⟩)))) = ⟨#[db n 1000, db n 100, db n 10, db n 1]⟩ := by
  rw [show (⟨#[db n 1]⟩ : ByteArray) ++ ⟨#[]⟩ = ⟨#[db n 1]⟩ from app [_] [], show ((⟨#[db n 10]⟩ : ByteArray) ++ (⟨#[db n 1]⟩ : ByteArray)) = ⟨#[_, _]⟩ from app [_] [_], show ((⟨#[db n 100]⟩ : ByteArray) ++ (⟨#[_, _]⟩ : ByteArray)) = ⟨#[_, _, _]⟩ from app [_] [_, _], show ((⟨#[db n 1000]⟩ : ByteArray) ++ (⟨#[_, _, _]⟩ : ByteArray)) = ⟨#[_, _, _, _]⟩ from app [_] [_, _, _]]
 rw [e, e1, e2, e3, e4, nend (k + 3) _ _ (by omega) (by rw [ByteArray.toList_eq]; simp)]
theorem fSeconds (k : Nat) (hk : 200 ≤ k) (a : Int) (h : Ok a) : ∃ m d, rata_Date.f k (a / 86400) = some (yr (a / 86400), m, d, 0) ∧ Is ah lp (yr (a / 86400)) m d (a / 86400) ∧ trystref01_Date.f k 0 (a / 86400) = some (yr (a / 86400), m, d, 0) ∧
  trystref01_Seconds.f k a = some ⟨(timeBytes (yr (a / 86400)) m d (a % 86400)).toArray⟩ := by
 have hi := ok_in h
 have hy := yr_In hi
 obtain ⟨m, d, e, hd⟩ := rDate_yes k (by omega) _ hi
 obtain ⟨y', m', d', e', hd'⟩ := fDate0 k (by omega) _ hi
 obtain ⟨r1, r2, r3⟩ := Is.one greg hd' hd
 subst r1 r2 r3
 refine ⟨m', d', e, hd, e', ?_⟩
 have hdl := dim_lo (lp (yr (a / 86400))) m' (lp_01 _) hd.m1 hd.m2
 have q1 := hd.m1; have q2 := hd.m2; have q3 := hd.d1; have q4 := hd.d2
 obtain ⟨h1, h2⟩ := h
 unfold trystref01_Seconds.f
 rw [Int.tdiv_eq_ediv_of_nonneg (a := a) (by omega), Int.tmod_eq_emod_of_nonneg (a := a) (b := 86400) (by omega), Int.tmod_eq_emod_of_nonneg (a := a) (b := 60) (by omega), w64 (x := a / 86400) (by omega) (by omega), e']
 simp only [Option.bind_some]
 rw [Int.tdiv_eq_ediv_of_nonneg (a := a % 86400) (b := 3600) (by omega), Int.tdiv_eq_ediv_of_nonneg (a := a % 86400) (b := 60) (by omega), w64 (x := a % 86400 / 3600) (by omega) (by omega), w64 (x := a % 86400 / 60) (by omega) (by omega), Int.tmod_eq_emod_of_nonneg (a := a % 86400 / 60) (by omega)]
 have e60 : a % 60 = a % 86400 % 60 := by omega
 rw [e60, fNum4 k (by omega) _ (by omega) (by omega), fNum2 k (by omega) m' (by omega) (by omega), fNum2 k (by omega) d' (by omega) (by omega), fNum2 k (by omega) (a % 86400 / 3600) (by omega) (by omega), fNum2 k (by omega) (a % 86400 / 60 % 60) (by omega) (by omega), fNum2 k (by omega) (a % 86400 % 60) (by omega) (by omega)]
 simp only [Option.bind_some]
 rfl
end Go.Proofs.YthppkdbelmolbaaDoor.FunN
