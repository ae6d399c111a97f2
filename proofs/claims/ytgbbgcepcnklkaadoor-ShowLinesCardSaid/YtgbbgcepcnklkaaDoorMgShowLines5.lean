/- Texts of this claim, merged: QrefL, FunB, FunC, Qjul. -/
import Derived.Test.YtgbbgcepcnklkaaDoorMgShowLines1
import Derived.Test.YtgbbgcepcnklkaaDoorMgShowLines4
import Derived.Test.YtgbbgcepcnklkaaDoorMgShowLines3
import Derived.Test.YtgbbgcepcnklkaaDoorMgShowLines2
-- written by a program of this session (wip/own_print.sh)
namespace Go.Proofs.YtgbbgcepcnklkaaDoor.Q
theorem kept_YtgbbgcepcnklkaaDoorQrefL : True := trivial
open Go.RowKit Go.Proofs.YtgbbgcepcnklkaaDoorW.PrintWords Go.Proofs.YtgbbgcepcnklkaaDoorW.PrintLast Go.Proofs.YtgbbgcepcnklkaaDoorW.PrintMore
attribute [local go_sem] max2_int min2_int max_two min_two
set_option linter.unusedVariables false
set_option linter.unusedSimpArgs false
/-! ### trystref01_years: function 47 -/
/-! ### trystref01_Length: function 48 -/
end Go.Proofs.YtgbbgcepcnklkaaDoor.Q
/- What the reference's day arithmetic reckons, in plain numbers: Gregorian (0), Julian (1), ISO (2) and Coptic (6) dates. -/
namespace Go.Proofs.YtgbbgcepcnklkaaDoor.FunB
open Go.RowKit Go.Proofs.YtgbbgcepcnklkaaDoorW.PrintWords Go.Proofs.YtgbbgcepcnklkaaDoorW.PrintLast Go.Proofs.YtgbbgcepcnklkaaDoor.Q Go.Proofs.YtgbbgcepcnklkaaDoor.Cal Go.Proofs.YtgbbgcepcnklkaaDoor.FunA
theorem fFloor (a b : Int) (hb : 2 ≤ b) (hb' : b ≤ 4611686018427387904) (ha : I64 a) : trystref01_Floor.f a b = some (a / b) := by
 have hd := div_bd a b hb ha
 have hq := quo a b (by omega)
 have h1 := Int.emod_nonneg a (show b ≠ 0 by omega)
 have h2 := Int.emod_lt_of_pos a (show 0 < b by omega)
 have h3 := Int.emod_def a b
 have h4 : (a / b + 1) * b = b * (a / b) + b := by rw [Int.add_mul, Int.one_mul, Int.mul_comm]
 have h5 : (a / b) * b = b * (a / b) := Int.mul_comm _ _
 obtain ⟨ha, ha'⟩ := ha
 unfold trystref01_Floor.f
 rw [if_neg (by omega), hq]
 by_cases h : 0 ≤ a ∨ a % b = 0
 ·rw [if_pos h, w64 (x := a / b) (by omega) (by omega), h5, w64 (by omega) (by omega), if_neg (by omega)]
 ·rw [if_neg h, w64 (x := a / b + 1) (by omega) (by omega), h4, w64 (x := b * (a / b) + b) (by omega) (by omega), if_pos (by omega), w64 (by omega) (by omega)]
  congr 1; omega
theorem fMod (a b : Int) (hb : 2 ≤ b) (hb' : b ≤ 4611686018427387904) (ha : I64 a) : trystref01_Mod.f a b = some (a % b) := by
 unfold trystref01_Mod.f
 have h1 := Int.emod_nonneg a (show b ≠ 0 by omega)
 have h2 := Int.emod_lt_of_pos a (show 0 < b by omega)
 rw [fFloor a b hb hb' ha, Option.bind_some, wrap_sub, ← Int.emod_def, w64 (by omega) (by omega)]
theorem fLeap (y : Int) (hy : I64 y) : trystref01_Leap.f y = some (decide (lp y = 1)) := by
 unfold trystref01_Leap.f
 rw [fMod y 4 (by omega) (by omega) hy, fMod y 400 (by omega) (by omega) hy]
 simp only [Option.bind_some]
 unfold lp
 by_cases a : y % 4 = 0
 ·rw [if_pos a, if_pos a]
  by_cases b : y % 100 = 0
  ·by_cases c : y % 400 = 0
   ·rw [if_neg (by omega), if_neg (by omega), if_pos b, if_pos c]; simp; omega
   ·rw [if_pos b, if_neg c]
    by_cases d : y % 400 = 100
    ·rw [if_pos d]; simp
    ·rw [if_neg d]
     by_cases e : y % 400 = 200
     ·rw [if_pos e]; simp
     ·rw [if_neg e]; simp; omega
  ·rw [if_neg (by omega), if_neg (by omega), if_neg b]; simp; omega
 ·rw [if_neg a, if_neg a]; simp
theorem fGreg (k : Nat) (hk : 1 ≤ k) (y m d : Int) (h : -40000 ≤ y) (h' : y ≤ 40000) (hm : 1 ≤ m) (hm' : m ≤ 100) (hd : -100000 ≤ d) (hd' : d ≤ 100000) :
  trystref01_gregorian.f k y m d = some (ah y + cum (lp y) m + d) := by
 obtain ⟨k, rfl⟩ : ∃ j, k = j + 1 := ⟨k - 1, by omega⟩
 have e : wrap64 (y - 1) = y - 1 := w64 (by omega) (by omega)
 have hl := lp_01 y
 unfold trystref01_gregorian.f
 rw [e, fFloor _ 4 (by omega) (by omega) ⟨by omega, by omega⟩, fFloor _ 100 (by omega) (by omega) ⟨by omega, by omega⟩, fFloor _ 400 (by omega) (by omega) ⟨by omega, by omega⟩]
 simp only [Option.bind_some]
 have e2 : wrap64 (Int.tdiv (wrap64 ((wrap64 (367 * m)) - 362)) 12) = (367 * m - 362) / 12 := by
  rw [w64 (x := 367 * m) (by omega) (by omega), w64 (x := 367 * m - 362) (by omega) (by omega), Int.tdiv_eq_ediv_of_nonneg (by omega), w64 (by omega) (by omega)]
 rw [e2]
 have e3 : wrap64 ((wrap64 ((wrap64 ((wrap64 ((wrap64 ((wrap64 (365 * (y - 1))) + (y - 1) / 4)) - (y - 1) / 100)) + (y - 1) / 400)) + (367 * m - 362) / 12)) + d) = ah y + (367 * m - 362) / 12 + d := by
  unfold ah wrap64; omega
 rw [e3]
 have hb := ah_bd y h h'
 by_cases c : m > 2
 ·rw [if_pos c, fLeap y ⟨by omega, by omega⟩, Option.bind_some]
  simp only [trystref01_gregorian.j0]
  unfold cum
  by_cases l : lp y = 1
  ·rw [decide_eq_true l, if_pos rfl, if_pos c, w64 (by omega) (by omega)]; congr 1; omega
  ·rw [decide_eq_false l, if_neg (by simp), if_pos c, if_pos c, w64 (by omega) (by omega)]; congr 1; omega
 ·rw [if_neg c]
  simp only [trystref01_gregorian.j0]
  unfold cum
  rw [if_neg (by simp), if_neg c, if_neg c]; congr 1; omega
theorem fWeek (s : Int) (hs : 0 ≤ s) (hs' : s ≤ 6) : ∀ (j k : Nat) (n : Int), -100000000 ≤ n → n + j ≤ 100000000 → (s - n) % 7 = j → j < k → trystref01_Week1.l0 k s n = some (n + j) := by
 intro j
 induction j with
 | zero =>
  intro k n h1 h2 h3 h4
  obtain ⟨k, rfl⟩ : ∃ m, k = m + 1 := ⟨k - 1, by omega⟩
  simp only [trystref01_Week1.l0]
  rw [fMod n 7 (by omega) (by omega) ⟨by omega, by omega⟩, Option.bind_some, if_pos (by omega)]; simp
 | succ j ih =>
  intro k n h1 h2 h3 h4
  obtain ⟨k, rfl⟩ : ∃ m, k = m + 1 := ⟨k - 1, by omega⟩
  simp only [trystref01_Week1.l0]
  rw [fMod n 7 (by omega) (by omega) ⟨by omega, by omega⟩, Option.bind_some, if_neg (by omega), w64 (by omega) (by omega), ih k (n + 1) (by omega) (by omega) (by omega) (by omega)]
  congr 1; omega
theorem fWeek1 (k : Nat) (hk : 8 ≤ k) (y s : Int) (h : -40000 ≤ y) (h' : y ≤ 40000) (hs : 0 ≤ s) (hs' : s ≤ 6) : trystref01_Week1.f k y s = some (wk y s) := by
 have hb := ah_bd y h h'
 unfold trystref01_Week1.f
 rw [fGreg k (by omega) y 1 1 h h' (by omega) (by omega) (by omega) (by omega), Option.bind_some, cum_one, w64 (by omega) (by omega)]
 have e : ah y + 0 + 1 - 3 = ah y - 2 := by omega
 rw [e, fWeek s hs hs' ((s - (ah y - 2)) % 7).toNat k (ah y - 2) (by omega) (by omega) (by omega) (by omega)]
 unfold wk; congr 1; omega
theorem jb_bd (y : Int) (h : -40000 ≤ y) (h' : y ≤ 40000) : -15000000 ≤ jb y ∧ jb y ≤ 15000000 := by unfold jb; omega
theorem cb_bd (y : Int) (h : -40000 ≤ y) (h' : y ≤ 40000) : -15000000 ≤ cb y ∧ cb y ≤ 15000000 := by unfold cb; omega
theorem fJul (k : Nat) (hk : 1 ≤ k) (y m d : Int) (h : -40000 ≤ y) (h' : y ≤ 40000) (hm : 1 ≤ m) (hm' : m ≤ 100) (hd : -100000 ≤ d) (hd' : d ≤ 100000) :
  trystref01_julian.f k y m d = some (jb y + cum (lj y) m + d) := by
 obtain ⟨k, rfl⟩ : ∃ j, k = j + 1 := ⟨k - 1, by omega⟩
 have e : wrap64 (y - 1) = y - 1 := w64 (by omega) (by omega)
 unfold trystref01_julian.f
 rw [e, fFloor _ 4 (by omega) (by omega) ⟨by omega, by omega⟩]
 simp only [Option.bind_some]
 have e2 : wrap64 (Int.tdiv (wrap64 ((wrap64 (367 * m)) - 362)) 12) = (367 * m - 362) / 12 := by
  rw [w64 (x := 367 * m) (by omega) (by omega), w64 (x := 367 * m - 362) (by omega) (by omega), Int.tdiv_eq_ediv_of_nonneg (by omega), w64 (by omega) (by omega)]
 rw [e2]
 have e3 : wrap64 ((wrap64 ((wrap64 ((wrap64 ((-2) + (wrap64 (365 * (y - 1))))) + (y - 1) / 4)) + (367 * m - 362) / 12)) + d) = jb y + (367 * m - 362) / 12 + d := by
  unfold jb wrap64; omega
 rw [e3]
 have hb := jb_bd y h h'
 by_cases c : m > 2
 ·rw [if_pos c, fMod y 4 (by omega) (by omega) ⟨by omega, by omega⟩, Option.bind_some]
  simp only [trystref01_julian.j0]
  unfold cum lj
  by_cases l : y % 4 = 0
  ·rw [if_pos (by simp [l]), if_pos c, if_pos l, w64 (by omega) (by omega)]; congr 1; omega
  ·rw [if_neg (by simp [l]), if_pos c, if_pos c, if_neg l, w64 (by omega) (by omega)]; congr 1; omega
 ·rw [if_neg c]
  simp only [trystref01_julian.j0]
  unfold cum
  rw [if_neg (by simp), if_neg c, if_neg c]; congr 1; omega
theorem fCop (y m d : Int) (h : -40000 ≤ y) (h' : y ≤ 40000) (hm : 1 ≤ m) (hm' : m ≤ 100) (hd : -100000 ≤ d) (hd' : d ≤ 100000) :
  trystref01_coptic.f y m d = some (cb y + 30 * (m - 1) + d) := by
 unfold trystref01_coptic.f
 rw [fFloor _ 4 (by omega) (by omega) ⟨by omega, by omega⟩, Option.bind_some]
 congr 1
 unfold cb wrap64; omega
/-- The day of the first of a month, less one, of the four calendars. -/
def fx (c y m : Int) : Int := if c = 0 then ah y + cum (lp y) m else if c = 1 then jb y + cum (lj y) m else if c = 2 then wk y 1 + 7 * (m - 1) - 1 else cb y + 30 * (m - 1)
def Four (c : Int) : Prop := c = 0 ∨ c = 1 ∨ c = 2 ∨ c = 6
theorem fFixed (k : Nat) (hk : 8 ≤ k) (c y m d : Int) (hc : Four c) (h : -40000 ≤ y) (h' : y ≤ 40000) (hm : 1 ≤ m) (hm' : m ≤ 100) (hd : -100000 ≤ d) (hd' : d ≤ 100000) :
  trystref01_Fixed.f k c y m d = some (fx c y m + d) := by
 unfold trystref01_Fixed.f fx
 rcases hc with rfl | rfl | rfl | rfl
 ·rw [if_pos rfl, fGreg k (by omega) y m d h h' hm hm' hd hd']; rfl
 ·rw [if_neg (by omega), if_pos rfl, fJul k (by omega) y m d h h' hm hm' hd hd']; rfl
 ·have hb := ah_bd y h h'
  have hw := wk_bd y 1
  rw [if_neg (by omega), if_neg (by omega), if_pos rfl, fWeek1 k hk y 1 h h' (by omega) (by omega), Option.bind_some, if_neg (by omega), if_neg (by omega), if_pos rfl]
  congr 1
  unfold wrap64; omega
 ·rw [if_neg (by omega), if_neg (by omega), if_neg (by omega), if_neg (by omega), if_neg (by omega), if_neg (by omega), fCop y m d h h' hm hm' hd hd']; rfl
def mths (c y : Int) : Int := if c = 2 then (wk (y + 1) 1 - wk y 1) / 7 else if c = 6 then 13 else 12
theorem wks (y s : Int) : ∃ n, (n = 52 ∨ n = 53) ∧ wk (y + 1) s - wk y s = 7 * n := by
 have h1 := wk_bd y s; have h2 := wk_bd (y + 1) s; have h3 := ah_succ y; have h4 := lp_01 y
 refine ⟨(wk (y + 1) s - wk y s) / 7, ?_, ?_⟩ <;> omega
theorem mths_bd (c y : Int) : 12 ≤ mths c y ∧ mths c y ≤ 53 := by
 obtain ⟨n, hn, h⟩ := wks y 1
 unfold mths; split
 ·omega
 ·split <;> omega
theorem fMonths (k : Nat) (hk : 8 ≤ k) (c y : Int) (hc : Four c) (h : -40000 ≤ y) (h' : y < 40000) : trystref01_Months.f k c y = some (mths c y) := by
 unfold trystref01_Months.f mths
 rcases hc with rfl | rfl | rfl | rfl
 ·rfl
 ·rfl
 ·have hb := ah_bd y h (by omega); have hb' := ah_bd (y + 1) (by omega) (by omega); have hw := wk_bd y 1; have hw' := wk_bd (y + 1) 1
  rw [if_pos rfl, if_pos rfl, w64 (x := y + 1) (by omega) (by omega), fWeek1 k hk (y + 1) 1 (by omega) (by omega) (by omega) (by omega), fWeek1 k hk y 1 h (by omega) (by omega) (by omega)]
  simp only [Option.bind_some]
  rw [w64 (by omega) (by omega), fFloor _ 7 (by omega) (by omega) ⟨by omega, by omega⟩]; rfl
 ·rfl
theorem fBegins (k : Nat) (hk : 8 ≤ k) (c y : Int) (hc : Four c) (h : -40000 ≤ y) (h' : y ≤ 40000) : trystref01_begins.f k c y = some (fx c y 1 + 1) := by
 unfold trystref01_begins.f
 rw [if_neg (by rcases hc with rfl | rfl | rfl | rfl <;> omega), fFixed k hk c y 1 1 hc h h' (by omega) (by omega) (by omega) (by omega)]; rfl
theorem fNext (c y : Int) (hc : Four c) (h : -40000 ≤ y) (h' : y ≤ 40000) : trystref01_next.f c y = some (y + 1) := by
 unfold trystref01_next.f
 rw [if_neg (by rcases hc with rfl | rfl | rfl | rfl <;> omega), w64 (by omega) (by omega)]
theorem fIn (day : Int) : trystref01_In.f day = some (decide (1 ≤ day) && decide (day ≤ 3652059)) := by
 unfold trystref01_In.f
 by_cases h : day ≥ 1
 ·rw [if_pos h, decide_eq_true (show 1 ≤ day from h)]; rfl
 ·rw [if_neg h, decide_eq_false (show ¬ 1 ≤ day from h)]; rfl
theorem fIn_yes {day : Int} (h : In day) : trystref01_In.f day = some true := by
 rw [fIn, decide_eq_true h.1, decide_eq_true h.2]; rfl
theorem fIn_no {day : Int} (h : ¬ In day) : trystref01_In.f day = some false := by
 rw [fIn]
 by_cases a : 1 ≤ day
 ·rw [decide_eq_false (show ¬ day ≤ 3652059 from fun b => h ⟨a, b⟩)]; simp
 ·rw [decide_eq_false a]; rfl
/-- Days of a month of the four calendars. -/
def len (c y m : Int) : Int := if c = 0 then dim (lp y) m else if c = 1 then dim (lj y) m else if m < 1 ∨ mths c y < m then 0 else if c = 2 then 7 else if m = 13 then lc y else 30
theorem fx_end (c y : Int) (hc : c = 0 ∨ c = 1) : fx c (y + 1) 1 = fx c y 13 := by
 unfold fx
 rcases hc with rfl | rfl
 ·rw [if_pos rfl, if_pos rfl, cum_one, cum_end, ah_succ]; omega
 ·have := jul.succ y
  rw [if_neg (by omega), if_pos rfl, if_neg (by omega), if_pos rfl, cum_one, cum_end, this]; omega
theorem fx_bd (c y m : Int) (hc : Four c) (h : -40000 ≤ y) (h' : y ≤ 40000) (hm : 1 ≤ m) (hm' : m ≤ 54) : -16000000 ≤ fx c y m ∧ fx c y m ≤ 16000000 := by
 have a := ah_bd y h h'; have b := jb_bd y h h'; have d := cb_bd y h h'; have e := wk_bd y 1
 have x : -2 ≤ cum (lp y) m ∧ cum (lp y) m ≤ 2000 := by have := lp_01 y; unfold cum; split <;> omega
 have z : -2 ≤ cum (lj y) m ∧ cum (lj y) m ≤ 2000 := by have := lj_01 y; unfold cum; split <;> omega
 unfold fx
 rcases hc with rfl | rfl | rfl | rfl
 ·rw [if_pos rfl]; omega
 ·rw [if_neg (by omega), if_pos rfl]; omega
 ·rw [if_neg (by omega), if_neg (by omega), if_pos rfl]; omega
 ·rw [if_neg (by omega), if_neg (by omega), if_neg (by omega)]; omega
end Go.Proofs.YtgbbgcepcnklkaaDoor.FunB
/- What the program's package rata reckons of dates, in plain numbers. -/
namespace Go.Proofs.YtgbbgcepcnklkaaDoor.FunC
open Go.RowKit Go.Proofs.YtgbbgcepcnklkaaDoorW.PrintWords Go.Proofs.YtgbbgcepcnklkaaDoorW.PrintLast Go.Proofs.YtgbbgcepcnklkaaDoor.Q Go.Proofs.YtgbbgcepcnklkaaDoor.Cal Go.Proofs.YtgbbgcepcnklkaaDoor.FunA
theorem rLeap (y : Int) : rata_Leap.f y = some (decide (lp y = 1)) := by
 unfold rata_Leap.f lp
 by_cases a : y % 4 = 0
 ·rw [if_pos ((rem0 y 4).2 a), if_pos a]
  by_cases b : y % 100 = 0
  ·rw [if_pos ((rem0 y 100).2 b), if_pos b]
   by_cases c : y % 400 = 0
   ·rw [if_pos c, (rem0 y 400).2 c]; rfl
   ·rw [if_neg c]
    have : ¬ Int.tmod y 400 = 0 := fun h => c ((rem0 y 400).1 h)
    simp [this]
  ·rw [if_neg (fun h => b ((rem0 y 100).1 h)), if_neg b]; simp
 ·rw [if_neg (fun h => a ((rem0 y 4).1 h)), if_neg a]; simp
theorem rLength (k : Nat) (hk : 2 ≤ k) (y m : Int) : rata_Length.f k y m = some (dim (lp y) m) := by
 obtain ⟨k, rfl⟩ : ∃ j, k = j + 2 := ⟨k - 2, by omega⟩
 have hl := lp_01 y
 by_cases h : 1 ≤ m ∧ m ≤ 12
 ·rcases months h.1 h.2 with e | e | e | e | e | e | e | e | e | e | e | e <;> subst e <;> simp [rata_Length.f, rata_Length.j0, rata_Length.j1, dim, rLeap]
  rcases hl with e | e <;> simp [e]
 ·rw [dim_none _ _ (by omega)]
  unfold rata_Length.f
  rw [if_neg (by omega), if_neg (by omega), if_neg (by omega), if_neg (by omega), if_neg (by omega), if_neg (by omega)]
  have e12 : (m == 12) = false := beq_eq_false_iff_ne.2 (by omega)
  have e11 : (m == 11) = false := beq_eq_false_iff_ne.2 (by omega)
  rw [e12]
  simp only [rata_Length.j0]
  rw [if_neg (by simp), if_neg (by omega), if_neg (by omega), if_neg (by omega), e11]
  simp only [rata_Length.j1]
  rw [if_neg (by simp), if_neg (by omega)]
/-- A right Gregorian date. -/
def Right (y m d : Int) : Prop := 1 ≤ y ∧ y ≤ 9999 ∧ 1 ≤ d ∧ d ≤ dim (lp y) m
theorem rYear (day : Int) (h : -10000000 ≤ day) (h' : day ≤ 10000000) : rata_Year.f day = some (yr day) := by
 unfold rata_Year.f
 rw [w64 (x := day - 1) (by omega) (by omega), rFloor _ 146097 (by omega) ⟨by omega, by omega⟩, rMod _ 146097 (by omega) (by omega) ⟨by omega, by omega⟩]
 simp only [Option.bind_some]
 have hn : 0 ≤ (day - 1) % 146097 ∧ (day - 1) % 146097 < 146097 := by omega
 have hq : -100 ≤ (day - 1) / 146097 ∧ (day - 1) / 146097 ≤ 100 := by omega
 unfold yr
 generalize (day - 1) % 146097 = n at *
 generalize (day - 1) / 146097 = q at *
 have e1 : mn (wrap64 (Int.tdiv n 36524)) 3 = yrC n := by
  rw [Int.tdiv_eq_ediv_of_nonneg (by omega), w64 (by omega) (by omega)]; unfold mn yrC; split <;> omega
 have c0 : 0 ≤ yrC n ∧ yrC n ≤ 3 ∧ 36524 * yrC n ≤ n := by unfold yrC; omega
 rw [e1, w64 (x := 36524 * yrC n) (by omega) (by omega), w64 (x := n - 36524 * yrC n) (by omega) (by omega)]
 have e2 : n - 36524 * yrC n = yrR n := rfl
 rw [e2]
 have r0 : 0 ≤ yrR n ∧ yrR n ≤ 146097 := by unfold yrR; omega
 generalize yrR n = r at *
 generalize yrC n = c at *
 rw [Int.tdiv_eq_ediv_of_nonneg (a := r) (by omega), Int.tmod_eq_emod_of_nonneg (a := r) (by omega), Int.tdiv_eq_ediv_of_nonneg (a := r % 1461) (by omega)]
 have e3 : mn (wrap64 (r % 1461 / 365)) 3 = min (r % 1461 / 365) 3 := by
  rw [w64 (by omega) (by omega)]; unfold mn; split <;> omega
 rw [e3, w64 (x := r / 1461) (by omega) (by omega)]
 congr 1
 have m0 : 0 ≤ min (r % 1461 / 365) 3 ∧ min (r % 1461 / 365) 3 ≤ 3 := by omega
 generalize min (r % 1461 / 365) 3 = z at *
 have f0 : 0 ≤ r / 1461 ∧ r / 1461 ≤ 100 := by omega
 generalize r / 1461 = f at *
 clear e1 e2 e3
 unfold wrap64; omega
theorem yr_In {day : Int} (h : In day) : 1 ≤ yr day ∧ yr day ≤ 9999 := by
 obtain ⟨h1, h2⟩ := yr_ok day
 obtain ⟨h3, h4⟩ := h
 constructor
 ·by_cases c : yr day ≤ 0
  ·have := ah_le (show yr day + 1 ≤ 1 by omega)
   have e : ah 1 = 0 := by decide
   omega
  ·omega
 ·by_cases c : 10000 ≤ yr day
  ·have := ah_le c
   have e : ah 10000 = 3652059 := by decide
   omega
  ·omega
theorem rDate0 (y : Int) : ∀ (j k : Nat) (n m : Int), 1 ≤ m → m ≤ 12 → 12 - m = j → j + 3 < k → 1 ≤ n → n + cum (lp y) m ≤ 365 + lp y →
  ∃ m' d, rata_Date.l0 k n y m 0 = some (y, m', d, 0) ∧ m ≤ m' ∧ m' ≤ 12 ∧ 1 ≤ d ∧ d ≤ dim (lp y) m' ∧ n + cum (lp y) m = cum (lp y) m' + d := by
 intro j
 induction j with
 | zero =>
  intro k n m h1 h2 h3 h4 h5 h6
  obtain ⟨k, rfl⟩ : ∃ j, k = j + 1 := ⟨k - 1, by omega⟩
  have : m = 12 := by omega
  subst this
  have e := cum_succ (lp y) 12 (by omega) (by omega)
  have e' := cum_end (lp y)
  have e2 : (12 : Int) + 1 = 13 := rfl
  rw [e2, e'] at e
  refine ⟨12, n, ?_, by omega, by omega, by omega, by omega, by omega⟩
  simp only [rata_Date.l0]
  rw [rLength k (by omega), Option.bind_some, if_neg (by omega)]
 | succ j ih =>
  intro k n m h1 h2 h3 h4 h5 h6
  obtain ⟨k, rfl⟩ : ∃ j, k = j + 1 := ⟨k - 1, by omega⟩
  have e := cum_succ (lp y) m h1 h2
  have hd := dim_lo (lp y) m (lp_01 y) h1 h2
  have hl := lp_01 y
  have hc := cum_bd (lp_01 y) h1 (show m ≤ 13 by omega)
  simp only [rata_Date.l0]
  rw [rLength k (by omega), Option.bind_some]
  by_cases c : n > dim (lp y) m
  ·rw [if_pos c, Option.bind_some, w64 (by omega) (by omega), w64 (by omega) (by omega)]
   obtain ⟨m', d, h7, h8, h9, h10, h11, h12⟩ := ih k (n - dim (lp y) m) (m + 1) (by omega) (by omega) (by omega) (by omega) (by omega) (by omega)
   exact ⟨m', d, h7, by omega, h9, h10, h11, by omega⟩
  ·rw [if_neg c]
   exact ⟨m, n, rfl, by omega, h2, h5, by omega, by omega⟩
theorem rDate_yes (k : Nat) (hk : 20 ≤ k) (day : Int) (h : In day) : ∃ m d, rata_Date.f k day = some (yr day, m, d, 0) ∧ Is ah lp (yr day) m d day := by
 have hy := yr_In h
 obtain ⟨h1, h2⟩ := yr_ok day
 have hs := ah_succ (yr day)
 have hb := ah_bd (yr day) (by omega) (by omega)
 obtain ⟨m, d, h3, h4, h5, h6, h7, h8⟩ := rDate0 (yr day) 11 k (day - ah (yr day)) 1 (by omega) (by omega) (by omega) (by omega) (by omega) (by rw [cum_one]; omega)
 rw [cum_one] at h8
 refine ⟨m, d, ?_, ⟨h4, h5, h6, h7, by omega⟩⟩
 unfold rata_Date.f
 rw [rOf_yes h, Option.bind_some, if_pos rfl, rYear day (by have := h.1; omega) (by have := h.2; omega), Option.bind_some, rAhead _ (by omega) (by omega), Option.bind_some, w64 (by have := h.1; omega) (by have := h.2; omega), h3]
theorem rDate_no (k : Nat) (day : Int) (h : ¬ In day) : rata_Date.f k day = some (0, 0, 0, 2) := by
 unfold rata_Date.f
 rw [rOf_no h, Option.bind_some, if_neg (by simp)]
theorem Is.right {y m d day : Int} (h : Is ah lp y m d day) (hy : 1 ≤ y) (hy' : y ≤ 9999) : Right y m d := ⟨hy, hy', h.d1, h.d2⟩
end Go.Proofs.YtgbbgcepcnklkaaDoor.FunC
-- written by a program of this session (wip/own_print.sh)
namespace Go.Proofs.YtgbbgcepcnklkaaDoor.Q
open Go.RowKit Go.Proofs.YtgbbgcepcnklkaaDoorW.PrintWords Go.Proofs.YtgbbgcepcnklkaaDoorW.PrintLast Go.Proofs.YtgbbgcepcnklkaaDoorW.PrintMore
attribute [local go_sem] max2_int min2_int max_two min_two
set_option linter.unusedVariables false
set_option linter.unusedSimpArgs false
/-! ### julian_ahead: function 54 -/
def julian_ahead.f (a0 : Int) : Option (Int) := (rata_Floor.f (wrap64 (a0 - 1)) 4).bind fun t115 => (some (wrap64 ((wrap64 (365 * (wrap64 (a0 - 1)))) + t115)))
set_option maxHeartbeats 8000000 in
set_option maxRecDepth 100000 in
theorem julian_ahead.calls (a0 : Int) (r : Int) (w : World) (h : julian_ahead.f a0 = some r) :
  Calls Tryd.prog 54 #[.int .i64 a0] w fun e w' => e = .returned (.int .i64 r) ∧ Drawn0 w w' := by
 have H : ((rata_Floor.f (wrap64 (a0 - 1)) 4).bind fun t115 => (some (wrap64 ((wrap64 (365 * (wrap64 (a0 - 1)))) + t115)))) = some r := h
 clear h
 replace H := Option.bind_eq_some_iff.mp H
 obtain ⟨t115, A20, H⟩ := H
 replace H : (some (wrap64 ((wrap64 (365 * (wrap64 (a0 - 1)))) + t115))) = some r := H
 have A2 := Aside0.mk A20
 clear A20
 obtain rfl := Option.some.inj H
 go_enter Tryd.func54, Tryd.ntmps54
 go_wp2_with (first | ((with_reducible refine gate_callee (f := 53) rfl ?_); refine goesL_ (some 8) rfl rfl Tryd.func53 (by kernel_rfl) rfl #[.int .i64 (wrap64 (a0 - 1)), .int .i64 4] rfl (by (try simp only [List.map_toArray, List.map_cons, List.map_nil]); first | done | rfl | (simp only [List.length_drop, List.length_take]; rfl)) ?_; (with_reducible refine (rata_Floor.calls (wrap64 (a0 - 1)) 4 t115 _ A2.out).mono ?_); rintro e w' ⟨rfl, ⟨nd, rfl⟩⟩; refine ⟨_, rfl, ?_⟩))
 go_ret
 exact ⟨by first | rfl | (simp; done) | (simp [*]; done) | (simp [bne_nil_]; done), by repeat (first | exact Drawn0.refl _ | apply Drawn0.step)⟩

/-! ### julian_length: function 55 -/
def julian_length.f (k : Nat) (a0 : Int) (a1 : Int) : Option (Int) := if a1 = 2 then ((rata_Mod.f a0 4).bind fun t116 => (if t116 = 0 then (some 29) else (some 28))) else ((rata_Length.f k 1 a1).bind fun t117 => (some t117))
set_option maxHeartbeats 8000000 in
set_option maxRecDepth 100000 in
theorem julian_length.calls (k : Nat) (a0 : Int) (a1 : Int) (r : Int) (w : World) (h : julian_length.f k a0 a1 = some r) :
  Calls Tryd.prog 55 #[.int .i64 a0, .int .i64 a1] w fun e w' => e = .returned (.int .i64 r) ∧ Drawn0 w w' := by
 have H : (if a1 = 2 then ((rata_Mod.f a0 4).bind fun t116 => (if t116 = 0 then (some 29) else (some 28))) else ((rata_Length.f k 1 a1).bind fun t117 => (some t117))) = some r := h
 clear h
 by_cases c3 : a1 = 2
 ·rw [if_pos c3] at H
  have c3b0 : (a1 == 2) = true := beq_iff_eq.mpr c3
  have c3b1 : (a1 != 2) = false := bne_eq_false_iff_eq.mpr c3
  clear c3
  replace H := Option.bind_eq_some_iff.mp H
  obtain ⟨t116, A40, H⟩ := H
  replace H : (if t116 = 0 then (some 29) else (some 28)) = some r := H
  have A4 := Aside0.mk A40
  clear A40
  by_cases c5 : t116 = 0
  ·rw [if_pos c5] at H
   have c5b0 : (t116 == 0) = true := beq_iff_eq.mpr c5
   have c5b1 : (t116 != 0) = false := bne_eq_false_iff_eq.mpr c5
   clear c5
   obtain rfl := Option.some.inj H
   go_enter Tryd.func55, Tryd.ntmps55
   go_wp2_with (first | ((with_reducible refine gate_callee (f := 57) rfl ?_); refine goesL_ (some 8) rfl rfl Tryd.func57 (by kernel_rfl) rfl #[.int .i64 a0, .int .i64 4] rfl (by (try simp only [List.map_toArray, List.map_cons, List.map_nil]); first | done | rfl | (simp only [List.length_drop, List.length_take]; rfl)) ?_; (with_reducible refine (rata_Mod.calls a0 4 t116 _ A4.out).mono ?_); rintro e w' ⟨rfl, ⟨nd, rfl⟩⟩; refine ⟨_, rfl, ?_⟩))
   go_ret
   exact ⟨by first | rfl | (simp; done) | (simp [*]; done) | (simp [bne_nil_]; done), by repeat (first | exact Drawn0.refl _ | apply Drawn0.step)⟩
  ·rw [if_neg c5] at H
   have c5b0 : (t116 == 0) = false := beq_eq_false_iff_ne.mpr c5
   have c5b1 : (t116 != 0) = true := bne_iff_ne.mpr c5
   obtain rfl := Option.some.inj H
   go_enter Tryd.func55, Tryd.ntmps55
   go_wp2_with (first | ((with_reducible refine gate_callee (f := 57) rfl ?_); refine goesL_ (some 8) rfl rfl Tryd.func57 (by kernel_rfl) rfl #[.int .i64 a0, .int .i64 4] rfl (by (try simp only [List.map_toArray, List.map_cons, List.map_nil]); first | done | rfl | (simp only [List.length_drop, List.length_take]; rfl)) ?_; (with_reducible refine (rata_Mod.calls a0 4 t116 _ A4.out).mono ?_); rintro e w' ⟨rfl, ⟨nd, rfl⟩⟩; refine ⟨_, rfl, ?_⟩))
   go_ret
   exact ⟨by first | rfl | (simp; done) | (simp [*]; done) | (simp [bne_nil_]; done), by repeat (first | exact Drawn0.refl _ | apply Drawn0.step)⟩
 ·rw [if_neg c3] at H
  have c3b0 : (a1 == 2) = false := beq_eq_false_iff_ne.mpr c3
  have c3b1 : (a1 != 2) = true := bne_iff_ne.mpr c3
  replace H := Option.bind_eq_some_iff.mp H
  obtain ⟨t117, A60, H⟩ := H
  replace H : (some t117) = some r := H
  have A6 := Aside0.mk A60
  clear A60
  obtain rfl := Option.some.inj H
  go_enter Tryd.func55, Tryd.ntmps55
  go_wp2_with (first | ((with_reducible refine gate_callee (f := 52) rfl ?_); refine goesL_ (some 11) rfl rfl Tryd.func52 (by kernel_rfl) rfl #[.int .i64 1, .int .i64 a1] rfl (by (try simp only [List.map_toArray, List.map_cons, List.map_nil]); first | done | rfl | (simp only [List.length_drop, List.length_take]; rfl)) ?_; (with_reducible refine (rata_Length.calls k 1 a1 t117 _ A6.out).mono ?_); rintro e w' ⟨rfl, ⟨nd, rfl⟩⟩; refine ⟨_, rfl, ?_⟩))
  go_ret
  exact ⟨by first | rfl | (simp; done) | (simp [*]; done) | (simp [bne_nil_]; done), by repeat (first | exact Drawn0.refl _ | apply Drawn0.step)⟩

/-! ### julian_days: function 83 -/
/-! ### julian_FromJulian: function 41 -/
end Go.Proofs.YtgbbgcepcnklkaaDoor.Q
