/- Texts of this claim, merged: FunB, FunC, QjulB. -/
import Derived.Test.YtgbbgcepcnklkaaGreatDoorMgShowParses10
import Derived.Test.YtgbbgcepcnklkaaGreatDoorMgShowParses11
import Derived.Test.YtgbbgcepcnklkaaGreatDoorMgShowParses2
import Derived.Test.YtgbbgcepcnklkaaGreatDoorMgShowParses3
import Derived.Test.YtgbbgcepcnklkaaGreatDoorMgShowParses1
import Derived.Test.YtgbbgcepcnklkaaGreatDoorMgShowParses4
/- What the reference's day arithmetic reckons, in plain numbers: Gregorian (0), Julian (1), ISO (2) and Coptic (6) dates. -/
namespace Go.Proofs.YtgbbgcepcnklkaaGreatDoor.FunB
open Go.RowKit Go.Proofs.YtgbbgcepcnklkaaGreatDoorW.PrintWords Go.Proofs.YtgbbgcepcnklkaaGreatDoorW.PrintLast Go.Proofs.YtgbbgcepcnklkaaGreatDoor.Q Go.Proofs.YtgbbgcepcnklkaaGreatDoor.Cal Go.Proofs.YtgbbgcepcnklkaaGreatDoor.FunA
theorem fFloor (a b : Int) (hb : 2 ≤ b) (hb' : b ≤ 4611686018427387904) (ha : I64 a) : trystref01_Floor.f a b = some (a / b) := by
 have hd := div_bd a b hb ha
 have hq := quo a b (by omega)
 have h1 := Int.emod_nonneg a (show b ≠ 0 by omega)
 have h2 := Int.emod_lt_of_pos a (show 0 < b by omega)
 have h3 := Int.emod_def a b
 have h4 : (a / b + 1) * b = b * (a / b) + b := by rw [Int.add_mul, Int.one_mul, Int.mul_comm]
 have h5 : (a / b) * b = b * (a / b) := Int.mul_comm _ _
 obtain ⟨ha, ha'⟩ := ha
 unfold trystref01_Floor.f
 rw [if_neg (by omega), hq]
 by_cases h : 0 ≤ a ∨ a % b = 0
 ·rw [if_pos h, w64 (x := a / b) (by omega) (by omega), h5, w64 (by omega) (by omega), if_neg (by omega)]
 ·rw [if_neg h, w64 (x := a / b + 1) (by omega) (by omega), h4, w64 (x := b * (a / b) + b) (by omega) (by omega), if_pos (by omega), w64 (by omega) (by omega)]
  congr 1; omega
theorem fMod (a b : Int) (hb : 2 ≤ b) (hb' : b ≤ 4611686018427387904) (ha : I64 a) : trystref01_Mod.f a b = some (a % b) := by
 unfold trystref01_Mod.f
 have h1 := Int.emod_nonneg a (show b ≠ 0 by omega)
 have h2 := Int.emod_lt_of_pos a (show 0 < b by omega)
 rw [fFloor a b hb hb' ha, Option.bind_some, wrap_sub, ← Int.emod_def, w64 (by omega) (by omega)]
theorem fLeap (y : Int) (hy : I64 y) : trystref01_Leap.f y = some (decide (lp y = 1)) := by
 unfold trystref01_Leap.f
 rw [fMod y 4 (by omega) (by omega) hy, fMod y 400 (by omega) (by omega) hy]
 simp only [Option.bind_some]
 unfold lp
 by_cases a : y % 4 = 0
 ·rw [if_pos a, if_pos a]
  by_cases b : y % 100 = 0
  ·by_cases c : y % 400 = 0
   ·rw [if_neg (by omega), if_neg (by omega), if_pos b, if_pos c]; simp; omega
   ·rw [if_pos b, if_neg c]
    by_cases d : y % 400 = 100
    ·rw [if_pos d]; simp
    ·rw [if_neg d]
     by_cases e : y % 400 = 200
     ·rw [if_pos e]; simp
     ·rw [if_neg e]; simp; omega
  ·rw [if_neg (by omega), if_neg (by omega), if_neg b]; simp; omega
 ·rw [if_neg a, if_neg a]; simp
theorem fGreg (k : Nat) (hk : 1 ≤ k) (y m d : Int) (h : -40000 ≤ y) (h' : y ≤ 40000) (hm : 1 ≤ m) (hm' : m ≤ 100) (hd : -100000 ≤ d) (hd' : d ≤ 100000) :
  trystref01_gregorian.f k y m d = some (ah y + cum (lp y) m + d) := by
 obtain ⟨k, rfl⟩ : ∃ j, k = j + 1 := ⟨k - 1, by omega⟩
 have e : wrap64 (y - 1) = y - 1 := w64 (by omega) (by omega)
 have hl := lp_01 y
 unfold trystref01_gregorian.f
 rw [e, fFloor _ 4 (by omega) (by omega) ⟨by omega, by omega⟩, fFloor _ 100 (by omega) (by omega) ⟨by omega, by omega⟩, fFloor _ 400 (by omega) (by omega) ⟨by omega, by omega⟩]
 simp only [Option.bind_some]
 have e2 : wrap64 (Int.tdiv (wrap64 ((wrap64 (367 * m)) - 362)) 12) = (367 * m - 362) / 12 := by
  rw [w64 (x := 367 * m) (by omega) (by omega), w64 (x := 367 * m - 362) (by omega) (by omega), Int.tdiv_eq_ediv_of_nonneg (by omega), w64 (by omega) (by omega)]
 rw [e2]
 have e3 : wrap64 ((wrap64 ((wrap64 ((wrap64 ((wrap64 ((wrap64 (365 * (y - 1))) + (y - 1) / 4)) - (y - 1) / 100)) + (y - 1) / 400)) + (367 * m - 362) / 12)) + d) = ah y + (367 * m - 362) / 12 + d := by
  unfold ah wrap64; omega
 rw [e3]
 have hb := ah_bd y h h'
 by_cases c : m > 2
 ·rw [if_pos c, fLeap y ⟨by omega, by omega⟩, Option.bind_some]
  simp only [trystref01_gregorian.j0]
  unfold cum
  by_cases l : lp y = 1
  ·rw [decide_eq_true l, if_pos rfl, if_pos c, w64 (by omega) (by omega)]; congr 1; omega
  ·rw [decide_eq_false l, if_neg (by simp), if_pos c, if_pos c, w64 (by omega) (by omega)]; congr 1; omega
 ·rw [if_neg c]
  simp only [trystref01_gregorian.j0]
  unfold cum
  rw [if_neg (by simp), if_neg c, if_neg c]; congr 1; omega
theorem fWeek (s : Int) (hs : 0 ≤ s) (hs' : s ≤ 6) : ∀ (j k : Nat) (n : Int), -100000000 ≤ n → n + j ≤ 100000000 → (s - n) % 7 = j → j < k → trystref01_Week1.l0 k s n = some (n + j) := by
 intro j
 induction j with
 | zero =>
  intro k n h1 h2 h3 h4
  obtain ⟨k, rfl⟩ : ∃ m, k = m + 1 := ⟨k - 1, by omega⟩
  simp only [trystref01_Week1.l0]
  rw [fMod n 7 (by omega) (by omega) ⟨by omega, by omega⟩, Option.bind_some, if_pos (by omega)]; simp
 | succ j ih =>
  intro k n h1 h2 h3 h4
  obtain ⟨k, rfl⟩ : ∃ m, k = m + 1 := ⟨k - 1, by omega⟩
  simp only [trystref01_Week1.l0]
  rw [fMod n 7 (by omega) (by omega) ⟨by omega, by omega⟩, Option.bind_some, if_neg (by omega), w64 (by omega) (by omega), ih k (n + 1) (by omega) (by omega) (by omega) (by omega)]
  congr 1; omega
theorem fWeek1 (k : Nat) (hk : 8 ≤ k) (y s : Int) (h : -40000 ≤ y) (h' : y ≤ 40000) (hs : 0 ≤ s) (hs' : s ≤ 6) : trystref01_Week1.f k y s = some (wk y s) := by
 have hb := ah_bd y h h'
 unfold trystref01_Week1.f
 rw [fGreg k (by omega) y 1 1 h h' (by omega) (by omega) (by omega) (by omega), Option.bind_some, cum_one, w64 (by omega) (by omega)]
 have e : ah y + 0 + 1 - 3 = ah y - 2 := by omega
 rw [e, fWeek s hs hs' ((s - (ah y - 2)) % 7).toNat k (ah y - 2) (by omega) (by omega) (by omega) (by omega)]
 unfold wk; congr 1; omega
theorem jb_bd (y : Int) (h : -40000 ≤ y) (h' : y ≤ 40000) : -15000000 ≤ jb y ∧ jb y ≤ 15000000 := by unfold jb; omega
theorem cb_bd (y : Int) (h : -40000 ≤ y) (h' : y ≤ 40000) : -15000000 ≤ cb y ∧ cb y ≤ 15000000 := by unfold cb; omega
theorem fJul (k : Nat) (hk : 1 ≤ k) (y m d : Int) (h : -40000 ≤ y) (h' : y ≤ 40000) (hm : 1 ≤ m) (hm' : m ≤ 100) (hd : -100000 ≤ d) (hd' : d ≤ 100000) :
  trystref01_julian.f k y m d = some (jb y + cum (lj y) m + d) := by
 obtain ⟨k, rfl⟩ : ∃ j, k = j + 1 := ⟨k - 1, by omega⟩
 have e : wrap64 (y - 1) = y - 1 := w64 (by omega) (by omega)
 unfold trystref01_julian.f
 rw [e, fFloor _ 4 (by omega) (by omega) ⟨by omega, by omega⟩]
 simp only [Option.bind_some]
 have e2 : wrap64 (Int.tdiv (wrap64 ((wrap64 (367 * m)) - 362)) 12) = (367 * m - 362) / 12 := by
  rw [w64 (x := 367 * m) (by omega) (by omega), w64 (x := 367 * m - 362) (by omega) (by omega), Int.tdiv_eq_ediv_of_nonneg (by omega), w64 (by omega) (by omega)]
 rw [e2]
 have e3 : wrap64 ((wrap64 ((wrap64 ((wrap64 ((-2) + (wrap64 (365 * (y - 1))))) + (y - 1) / 4)) + (367 * m - 362) / 12)) + d) = jb y + (367 * m - 362) / 12 + d := by
  unfold jb wrap64; omega
 rw [e3]
 have hb := jb_bd y h h'
 by_cases c : m > 2
 ·rw [if_pos c, fMod y 4 (by omega) (by omega) ⟨by omega, by omega⟩, Option.bind_some]
  simp only [trystref01_julian.j0]
  unfold cum lj
  by_cases l : y % 4 = 0
  ·rw [if_pos (by simp [l]), if_pos c, if_pos l, w64 (by omega) (by omega)]; congr 1; omega
  ·rw [if_neg (by simp [l]), if_pos c, if_pos c, if_neg l, w64 (by omega) (by omega)]; congr 1; omega
 ·rw [if_neg c]
  simp only [trystref01_julian.j0]
  unfold cum
  rw [if_neg (by simp), if_neg c, if_neg c]; congr 1; omega
theorem fCop (y m d : Int) (h : -40000 ≤ y) (h' : y ≤ 40000) (hm : 1 ≤ m) (hm' : m ≤ 100) (hd : -100000 ≤ d) (hd' : d ≤ 100000) :
  trystref01_coptic.f y m d = some (cb y + 30 * (m - 1) + d) := by
 unfold trystref01_coptic.f
 rw [fFloor _ 4 (by omega) (by omega) ⟨by omega, by omega⟩, Option.bind_some]
 congr 1
 unfold cb wrap64; omega
/-- The day of the first of a month, less one, of the four calendars. -/
def fx (c y m : Int) : Int := if c = 0 then ah y + cum (lp y) m else if c = 1 then jb y + cum (lj y) m else if c = 2 then wk y 1 + 7 * (m - 1) - 1 else cb y + 30 * (m - 1)
def Four (c : Int) : Prop := c = 0 ∨ c = 1 ∨ c = 2 ∨ c = 6
theorem fFixed (k : Nat) (hk : 8 ≤ k) (c y m d : Int) (hc : Four c) (h : -40000 ≤ y) (h' : y ≤ 40000) (hm : 1 ≤ m) (hm' : m ≤ 100) (hd : -100000 ≤ d) (hd' : d ≤ 100000) :
  trystref01_Fixed.f k c y m d = some (fx c y m + d) := by
 unfold trystref01_Fixed.f fx
 rcases hc with rfl | rfl | rfl | rfl
 ·rw [if_pos rfl, fGreg k (by omega) y m d h h' hm hm' hd hd']; rfl
 ·rw [if_neg (by omega), if_pos rfl, fJul k (by omega) y m d h h' hm hm' hd hd']; rfl
 ·have hb := ah_bd y h h'
  have hw := wk_bd y 1
  rw [if_neg (by omega), if_neg (by omega), if_pos rfl, fWeek1 k hk y 1 h h' (by omega) (by omega), Option.bind_some, if_neg (by omega), if_neg (by omega), if_pos rfl]
  congr 1
  unfold wrap64; omega
 ·rw [if_neg (by omega), if_neg (by omega), if_neg (by omega), if_neg (by omega), if_neg (by omega), if_neg (by omega), fCop y m d h h' hm hm' hd hd']; rfl
def mths (c y : Int) : Int := if c = 2 then (wk (y + 1) 1 - wk y 1) / 7 else if c = 6 then 13 else 12
theorem wks (y s : Int) : ∃ n, (n = 52 ∨ n = 53) ∧ wk (y + 1) s - wk y s = 7 * n := by
 have h1 := wk_bd y s; have h2 := wk_bd (y + 1) s; have h3 := ah_succ y; have h4 := lp_01 y
 refine ⟨(wk (y + 1) s - wk y s) / 7, ?_, ?_⟩ <;> omega
theorem mths_bd (c y : Int) : 12 ≤ mths c y ∧ mths c y ≤ 53 := by
 obtain ⟨n, hn, h⟩ := wks y 1
 unfold mths; split
 ·omega
 ·split <;> omega
theorem fMonths (k : Nat) (hk : 8 ≤ k) (c y : Int) (hc : Four c) (h : -40000 ≤ y) (h' : y < 40000) : trystref01_Months.f k c y = some (mths c y) := by
 unfold trystref01_Months.f mths
 rcases hc with rfl | rfl | rfl | rfl
 ·rfl
 ·rfl
 ·have hb := ah_bd y h (by omega); have hb' := ah_bd (y + 1) (by omega) (by omega); have hw := wk_bd y 1; have hw' := wk_bd (y + 1) 1
  rw [if_pos rfl, if_pos rfl, w64 (x := y + 1) (by omega) (by omega), fWeek1 k hk (y + 1) 1 (by omega) (by omega) (by omega) (by omega), fWeek1 k hk y 1 h (by omega) (by omega) (by omega)]
  simp only [Option.bind_some]
  rw [w64 (by omega) (by omega), fFloor _ 7 (by omega) (by omega) ⟨by omega, by omega⟩]; rfl
 ·rfl
theorem fBegins (k : Nat) (hk : 8 ≤ k) (c y : Int) (hc : Four c) (h : -40000 ≤ y) (h' : y ≤ 40000) : trystref01_begins.f k c y = some (fx c y 1 + 1) := by
 unfold trystref01_begins.f
 rw [if_neg (by rcases hc with rfl | rfl | rfl | rfl <;> omega), fFixed k hk c y 1 1 hc h h' (by omega) (by omega) (by omega) (by omega)]; rfl
theorem fNext (c y : Int) (hc : Four c) (h : -40000 ≤ y) (h' : y ≤ 40000) : trystref01_next.f c y = some (y + 1) := by
 unfold trystref01_next.f
 rw [if_neg (by rcases hc with rfl | rfl | rfl | rfl <;> omega), w64 (by omega) (by omega)]
theorem fIn (day : Int) : trystref01_In.f day = some (decide (1 ≤ day) && decide (day ≤ 3652059)) := by
 unfold trystref01_In.f
 by_cases h : day ≥ 1
 ·rw [if_pos h, decide_eq_true (show 1 ≤ day from h)]; rfl
 ·rw [if_neg h, decide_eq_false (show ¬ 1 ≤ day from h)]; rfl
theorem fIn_yes {day : Int} (h : In day) : trystref01_In.f day = some true := by
 rw [fIn, decide_eq_true h.1, decide_eq_true h.2]; rfl
theorem fIn_no {day : Int} (h : ¬ In day) : trystref01_In.f day = some false := by
 rw [fIn]
 by_cases a : 1 ≤ day
 ·rw [decide_eq_false (show ¬ day ≤ 3652059 from fun b => h ⟨a, b⟩)]; simp
 ·rw [decide_eq_false a]; rfl
/-- Days of a month of the four calendars. -/
def len (c y m : Int) : Int := if c = 0 then dim (lp y) m else if c = 1 then dim (lj y) m else if m < 1 ∨ mths c y < m then 0 else if c = 2 then 7 else if m = 13 then lc y else 30
theorem fx_end (c y : Int) (hc : c = 0 ∨ c = 1) : fx c (y + 1) 1 = fx c y 13 := by
 unfold fx
 rcases hc with rfl | rfl
 ·rw [if_pos rfl, if_pos rfl, cum_one, cum_end, ah_succ]; omega
 ·have := jul.succ y
  rw [if_neg (by omega), if_pos rfl, if_neg (by omega), if_pos rfl, cum_one, cum_end, this]; omega
theorem fx_bd (c y m : Int) (hc : Four c) (h : -40000 ≤ y) (h' : y ≤ 40000) (hm : 1 ≤ m) (hm' : m ≤ 54) : -16000000 ≤ fx c y m ∧ fx c y m ≤ 16000000 := by
 have a := ah_bd y h h'; have b := jb_bd y h h'; have d := cb_bd y h h'; have e := wk_bd y 1
 have x : -2 ≤ cum (lp y) m ∧ cum (lp y) m ≤ 2000 := by have := lp_01 y; unfold cum; split <;> omega
 have z : -2 ≤ cum (lj y) m ∧ cum (lj y) m ≤ 2000 := by have := lj_01 y; unfold cum; split <;> omega
 unfold fx
 rcases hc with rfl | rfl | rfl | rfl
 ·rw [if_pos rfl]; omega
 ·rw [if_neg (by omega), if_pos rfl]; omega
 ·rw [if_neg (by omega), if_neg (by omega), if_pos rfl]; omega
 ·rw [if_neg (by omega), if_neg (by omega), if_neg (by omega)]; omega
end Go.Proofs.YtgbbgcepcnklkaaGreatDoor.FunB
/- What the program's package rata reckons of dates, in plain numbers. -/
namespace Go.Proofs.YtgbbgcepcnklkaaGreatDoor.FunC
open Go.RowKit Go.Proofs.YtgbbgcepcnklkaaGreatDoorW.PrintWords Go.Proofs.YtgbbgcepcnklkaaGreatDoorW.PrintLast Go.Proofs.YtgbbgcepcnklkaaGreatDoor.Q Go.Proofs.YtgbbgcepcnklkaaGreatDoor.Cal Go.Proofs.YtgbbgcepcnklkaaGreatDoor.FunA
theorem rLeap (y : Int) : rata_Leap.f y = some (decide (lp y = 1)) := by
 unfold rata_Leap.f lp
 by_cases a : y % 4 = 0
 ·rw [if_pos ((rem0 y 4).2 a), if_pos a]
  by_cases b : y % 100 = 0
  ·rw [if_pos ((rem0 y 100).2 b), if_pos b]
   by_cases c : y % 400 = 0
   ·rw [if_pos c, (rem0 y 400).2 c]; rfl
   ·rw [if_neg c]
    have : ¬ Int.tmod y 400 = 0 := fun h => c ((rem0 y 400).1 h)
    simp [this]
  ·rw [if_neg (fun h => b ((rem0 y 100).1 h)), if_neg b]; simp
 ·rw [if_neg (fun h => a ((rem0 y 4).1 h)), if_neg a]; simp
theorem rLength (k : Nat) (hk : 2 ≤ k) (y m : Int) : rata_Length.f k y m = some (dim (lp y) m) := by
 obtain ⟨k, rfl⟩ : ∃ j, k = j + 2 := ⟨k - 2, by omega⟩
 have hl := lp_01 y
 by_cases h : 1 ≤ m ∧ m ≤ 12
 ·rcases months h.1 h.2 with e | e | e | e | e | e | e | e | e | e | e | e <;> subst e <;> simp [rata_Length.f, rata_Length.j0, rata_Length.j1, dim, rLeap]
  rcases hl with e | e <;> simp [e]
 ·rw [dim_none _ _ (by omega)]
  unfold rata_Length.f
  rw [if_neg (by omega), if_neg (by omega), if_neg (by omega), if_neg (by omega), if_neg (by omega), if_neg (by omega)]
  have e12 : (m == 12) = false := beq_eq_false_iff_ne.2 (by omega)
  have e11 : (m == 11) = false := beq_eq_false_iff_ne.2 (by omega)
  rw [e12]
  simp only [rata_Length.j0]
  rw [if_neg (by simp), if_neg (by omega), if_neg (by omega), if_neg (by omega), e11]
  simp only [rata_Length.j1]
  rw [if_neg (by simp), if_neg (by omega)]
/-- A right Gregorian date. -/
def Right (y m d : Int) : Prop := 1 ≤ y ∧ y ≤ 9999 ∧ 1 ≤ d ∧ d ≤ dim (lp y) m
theorem rRight_yes (k : Nat) (hk : 2 ≤ k) (y m d : Int) (h : Right y m d) : rata_Right.f k y m d = some true := by
 unfold rata_Right.f
 rw [if_pos h.1, if_pos h.2.1, if_pos h.2.2.1, rLength k hk, Option.bind_some, decide_eq_true h.2.2.2]
theorem rRight_no (k : Nat) (hk : 2 ≤ k) (y m d : Int) (h : ¬ Right y m d) : rata_Right.f k y m d = some false := by
 unfold rata_Right.f
 by_cases a : y ≥ 1
 ·by_cases b : y ≤ 9999
  ·by_cases c : d ≥ 1
   ·rw [if_pos a, if_pos b, if_pos c, rLength k hk, Option.bind_some, decide_eq_false (fun e => h ⟨a, b, c, e⟩)]
   ·rw [if_pos a, if_pos b, if_neg c]
  ·rw [if_pos a, if_neg b]
 ·rw [if_neg a]
theorem rGone0 (y m : Int) (hm : m ≤ 12) : ∀ (j k : Nat) (n i : Int), 1 ≤ i → i ≤ m → m - i = j → j + 2 < k → 0 ≤ n → n + 31 * j ≤ 100000 →
  rata_gone.l0 k y m n i = some (n + cum (lp y) m - cum (lp y) i) := by
 intro j
 induction j with
 | zero =>
  intro k n i h1 h2 h3 h4 h5 h6
  obtain ⟨k, rfl⟩ : ∃ j, k = j + 1 := ⟨k - 1, by omega⟩
  simp only [rata_gone.l0]
  have : i = m := by omega
  subst this
  rw [if_neg (by omega)]; congr 1; omega
 | succ j ih =>
  intro k n i h1 h2 h3 h4 h5 h6
  obtain ⟨k, rfl⟩ : ∃ j, k = j + 1 := ⟨k - 1, by omega⟩
  have hd := dim_lo (lp y) i (lp_01 y) h1 (by omega)
  have hc := cum_succ (lp y) i h1 (by omega)
  simp only [rata_gone.l0]
  rw [if_pos (by omega), rLength k (by omega), Option.bind_some, w64 (by omega) (by omega), w64 (by omega) (by omega), ih k _ (i + 1) (by omega) (by omega) (by omega) (by omega) (by omega) (by omega)]
  congr 1; omega
theorem rGone (k : Nat) (hk : 16 ≤ k) (y m : Int) (h1 : 1 ≤ m) (h2 : m ≤ 12) : rata_gone.f k y m = some (cum (lp y) m) := by
 unfold rata_gone.f
 rw [rGone0 y m h2 (m - 1).toNat k 0 1 (by omega) h1 (by omega) (by omega) (by omega) (by omega), cum_one]; congr 1; omega
theorem rDay_yes (k : Nat) (hk : 16 ≤ k) (y m d : Int) (h : Right y m d) : rata_Day.f k y m d = some (ah y + cum (lp y) m + d, 0) := by
 have hm := dim_pos (lp y) m (by have := h.2.2; omega)
 have hd := dim_lo (lp y) m (lp_01 y) hm.1 hm.2
 have hb := ah_bd y (by have := h.1; omega) (by have := h.2.1; omega)
 have hc := cum_bd (lp_01 y) hm.1 (show m ≤ 13 by omega)
 have := h.2.2
 unfold rata_Day.f
 rw [rRight_yes k (by omega) y m d h, Option.bind_some, if_pos rfl, rAhead y (by have := h.1; omega) (by have := h.2.1; omega), rGone k hk y m hm.1 hm.2]
 simp only [Option.bind_some]
 rw [w64 (x := ah y + cum (lp y) m) (by omega) (by omega), w64 (by omega) (by omega)]
theorem rDay_no (k : Nat) (hk : 2 ≤ k) (y m d : Int) (h : ¬ Right y m d) : rata_Day.f k y m d = some (0, 2) := by
 unfold rata_Day.f
 rw [rRight_no k hk y m d h, Option.bind_some, if_neg (by simp)]
theorem rYear (day : Int) (h : -10000000 ≤ day) (h' : day ≤ 10000000) : rata_Year.f day = some (yr day) := by
 unfold rata_Year.f
 rw [w64 (x := day - 1) (by omega) (by omega), rFloor _ 146097 (by omega) ⟨by omega, by omega⟩, rMod _ 146097 (by omega) (by omega) ⟨by omega, by omega⟩]
 simp only [Option.bind_some]
 have hn : 0 ≤ (day - 1) % 146097 ∧ (day - 1) % 146097 < 146097 := by omega
 have hq : -100 ≤ (day - 1) / 146097 ∧ (day - 1) / 146097 ≤ 100 := by omega
 unfold yr
 generalize (day - 1) % 146097 = n at *
 generalize (day - 1) / 146097 = q at *
 have e1 : mn (wrap64 (Int.tdiv n 36524)) 3 = yrC n := by
  rw [Int.tdiv_eq_ediv_of_nonneg (by omega), w64 (by omega) (by omega)]; unfold mn yrC; split <;> omega
 have c0 : 0 ≤ yrC n ∧ yrC n ≤ 3 ∧ 36524 * yrC n ≤ n := by unfold yrC; omega
 rw [e1, w64 (x := 36524 * yrC n) (by omega) (by omega), w64 (x := n - 36524 * yrC n) (by omega) (by omega)]
 have e2 : n - 36524 * yrC n = yrR n := rfl
 rw [e2]
 have r0 : 0 ≤ yrR n ∧ yrR n ≤ 146097 := by unfold yrR; omega
 generalize yrR n = r at *
 generalize yrC n = c at *
 rw [Int.tdiv_eq_ediv_of_nonneg (a := r) (by omega), Int.tmod_eq_emod_of_nonneg (a := r) (by omega), Int.tdiv_eq_ediv_of_nonneg (a := r % 1461) (by omega)]
 have e3 : mn (wrap64 (r % 1461 / 365)) 3 = min (r % 1461 / 365) 3 := by
  rw [w64 (by omega) (by omega)]; unfold mn; split <;> omega
 rw [e3, w64 (x := r / 1461) (by omega) (by omega)]
 congr 1
 have m0 : 0 ≤ min (r % 1461 / 365) 3 ∧ min (r % 1461 / 365) 3 ≤ 3 := by omega
 generalize min (r % 1461 / 365) 3 = z at *
 have f0 : 0 ≤ r / 1461 ∧ r / 1461 ≤ 100 := by omega
 generalize r / 1461 = f at *
 clear e1 e2 e3
 unfold wrap64; omega
theorem yr_In {day : Int} (h : In day) : 1 ≤ yr day ∧ yr day ≤ 9999 := by
 obtain ⟨h1, h2⟩ := yr_ok day
 obtain ⟨h3, h4⟩ := h
 constructor
 ·by_cases c : yr day ≤ 0
  ·have := ah_le (show yr day + 1 ≤ 1 by omega)
   have e : ah 1 = 0 := by decide
   omega
  ·omega
 ·by_cases c : 10000 ≤ yr day
  ·have := ah_le c
   have e : ah 10000 = 3652059 := by decide
   omega
  ·omega
theorem rDate0 (y : Int) : ∀ (j k : Nat) (n m : Int), 1 ≤ m → m ≤ 12 → 12 - m = j → j + 3 < k → 1 ≤ n → n + cum (lp y) m ≤ 365 + lp y →
  ∃ m' d, rata_Date.l0 k n y m 0 = some (y, m', d, 0) ∧ m ≤ m' ∧ m' ≤ 12 ∧ 1 ≤ d ∧ d ≤ dim (lp y) m' ∧ n + cum (lp y) m = cum (lp y) m' + d := by
 intro j
 induction j with
 | zero =>
  intro k n m h1 h2 h3 h4 h5 h6
  obtain ⟨k, rfl⟩ : ∃ j, k = j + 1 := ⟨k - 1, by omega⟩
  have : m = 12 := by omega
  subst this
  have e := cum_succ (lp y) 12 (by omega) (by omega)
  have e' := cum_end (lp y)
  have e2 : (12 : Int) + 1 = 13 := rfl
  rw [e2, e'] at e
  refine ⟨12, n, ?_, by omega, by omega, by omega, by omega, by omega⟩
  simp only [rata_Date.l0]
  rw [rLength k (by omega), Option.bind_some, if_neg (by omega)]
 | succ j ih =>
  intro k n m h1 h2 h3 h4 h5 h6
  obtain ⟨k, rfl⟩ : ∃ j, k = j + 1 := ⟨k - 1, by omega⟩
  have e := cum_succ (lp y) m h1 h2
  have hd := dim_lo (lp y) m (lp_01 y) h1 h2
  have hl := lp_01 y
  have hc := cum_bd (lp_01 y) h1 (show m ≤ 13 by omega)
  simp only [rata_Date.l0]
  rw [rLength k (by omega), Option.bind_some]
  by_cases c : n > dim (lp y) m
  ·rw [if_pos c, Option.bind_some, w64 (by omega) (by omega), w64 (by omega) (by omega)]
   obtain ⟨m', d, h7, h8, h9, h10, h11, h12⟩ := ih k (n - dim (lp y) m) (m + 1) (by omega) (by omega) (by omega) (by omega) (by omega) (by omega)
   exact ⟨m', d, h7, by omega, h9, h10, h11, by omega⟩
  ·rw [if_neg c]
   exact ⟨m, n, rfl, by omega, h2, h5, by omega, by omega⟩
theorem rDate_yes (k : Nat) (hk : 20 ≤ k) (day : Int) (h : In day) : ∃ m d, rata_Date.f k day = some (yr day, m, d, 0) ∧ Is ah lp (yr day) m d day := by
 have hy := yr_In h
 obtain ⟨h1, h2⟩ := yr_ok day
 have hs := ah_succ (yr day)
 have hb := ah_bd (yr day) (by omega) (by omega)
 obtain ⟨m, d, h3, h4, h5, h6, h7, h8⟩ := rDate0 (yr day) 11 k (day - ah (yr day)) 1 (by omega) (by omega) (by omega) (by omega) (by omega) (by rw [cum_one]; omega)
 rw [cum_one] at h8
 refine ⟨m, d, ?_, ⟨h4, h5, h6, h7, by omega⟩⟩
 unfold rata_Date.f
 rw [rOf_yes h, Option.bind_some, if_pos rfl, rYear day (by have := h.1; omega) (by have := h.2; omega), Option.bind_some, rAhead _ (by omega) (by omega), Option.bind_some, w64 (by have := h.1; omega) (by have := h.2; omega), h3]
theorem rDate_no (k : Nat) (day : Int) (h : ¬ In day) : rata_Date.f k day = some (0, 0, 0, 2) := by
 unfold rata_Date.f
 rw [rOf_no h, Option.bind_some, if_neg (by simp)]
theorem Is.right {y m d day : Int} (h : Is ah lp y m d day) (hy : 1 ≤ y) (hy' : y ≤ 9999) : Right y m d := ⟨hy, hy', h.d1, h.d2⟩
end Go.Proofs.YtgbbgcepcnklkaaGreatDoor.FunC
namespace Go.Proofs.YtgbbgcepcnklkaaGreatDoor.Q
open Go.RowKit Go.Proofs.YtgbbgcepcnklkaaGreatDoorW.PrintWords Go.Proofs.YtgbbgcepcnklkaaGreatDoorW.PrintLast Go.Proofs.YtgbbgcepcnklkaaGreatDoorW.PrintMore
attribute [local go_sem] max2_int min2_int max_two min_two
set_option linter.unusedVariables false
set_option linter.unusedSimpArgs false
/-! ### julian_Julian: function 39 -/
mutual
def julian_Julian.l0 : Nat → Int → Int → Int → Int → Option (Int × Int × Int × Int)
 | 0, _, _, _, _ => none
 | k + 1, x4, x122000, x122001, x122002 => (julian_ahead.f x122000).bind fun t122 => (if t122 > x4 then (julian_Julian.l0 k x4 (wrap64 (x122000 - 1)) x122001 x122002) else ((julian_ahead.f x122000).bind fun t123 => (julian_Julian.l1 k (wrap64 (x4 - t123)) x122000 x122001 x122002)))
def julian_Julian.l1 : Nat → Int → Int → Int → Int → Option (Int × Int × Int × Int)
 | 0, _, _, _, _ => none
 | k + 1, x4, x122000, x122001, x122002 => (julian_length.f k x122000 x122001).bind fun t124 => (if x4 ≥ t124 then ((julian_length.f k x122000 x122001).bind fun t125 => (julian_Julian.l1 k (wrap64 (x4 - t125)) x122000 (wrap64 (x122001 + 1)) x122002)) else (some (x122000, x122001, wrap64 (x4 + 1), 0)))
end
def julian_Julian.f (k : Nat) (a0 : Int) : Option (Int × Int × Int × Int) := (rata_Of.f a0).bind fun t119 => (if t119 = true then ((rata_Floor.f (wrap64 ((wrap64 (4 * (wrap64 (a0 + 1)))) + 1464)) 1461).bind fun t120 => (julian_Julian.l0 k (wrap64 (a0 + 1)) t120 1 0)) else (some (0, 0, 0, 2)))
set_option maxHeartbeats 8000000 in
set_option maxRecDepth 100000 in
theorem julian_Julian.calls (k : Nat) (a0 : Int) (r1 : Int) (r2 : Int) (r3 : Int) (r4 : Int) (w : World) (h : julian_Julian.f k a0 = some (r1, r2, r3, r4)) :
  Calls Tryz.prog 39 #[.int .i64 a0] w fun e w' => e = .returned (.tuple #[.agg #[.int .i64 r1, .int .i64 r2, .int .i64 r3], .int .i64 r4]) ∧ Below w.heap.size w w' := by
 have hu41 := Tryz.underlying41
 have HB := Aside0.mk (Below.refl w.heap.size w)
 have H : ((rata_Of.f a0).bind fun t119 => (if t119 = true then ((rata_Floor.f (wrap64 ((wrap64 (4 * (wrap64 (a0 + 1)))) + 1464)) 1461).bind fun t120 => (julian_Julian.l0 k (wrap64 (a0 + 1)) t120 1 0)) else (some (0, 0, 0, 2)))) = some (r1, r2, r3, r4) := h
 clear h
 replace H := Option.bind_eq_some_iff.mp H
 obtain ⟨t119, A20, H⟩ := H
 replace H : (if t119 = true then ((rata_Floor.f (wrap64 ((wrap64 (4 * (wrap64 (a0 + 1)))) + 1464)) 1461).bind fun t120 => (julian_Julian.l0 k (wrap64 (a0 + 1)) t120 1 0)) else (some (0, 0, 0, 2))) = some (r1, r2, r3, r4) := H
 have A2 := Aside0.mk A20
 clear A20
 by_cases c3 : t119 = true
 ·subst c3
  have H1 : ((rata_Floor.f (wrap64 ((wrap64 (4 * (wrap64 (a0 + 1)))) + 1464)) 1461).bind fun t120 => (julian_Julian.l0 k (wrap64 (a0 + 1)) t120 1 0)) = some (r1, r2, r3, r4) := by rw [if_pos rfl] at H; exact H
  clear H
  have H := H1
  clear H1
  replace H := Option.bind_eq_some_iff.mp H
  obtain ⟨t120, A40, H⟩ := H
  replace H : (julian_Julian.l0 k (wrap64 (a0 + 1)) t120 1 0) = some (r1, r2, r3, r4) := H
  have A4 := Aside0.mk A40
  clear A40
  have H' := Aside0.mk H
  clear H
  go_enter Tryz.func39, Tryz.ntmps39
  go_wp2_with (first | ((with_reducible refine gate_dst (N := 2) rfl ?_); refine box_event ?hg (N := 2) ?hd (cs := #[.int .i64 0, .int .i64 0, .int .i64 0]) (t := 41) ?hr ?_; (case hd => rfl); (case hg => rfl); (case hr => first | (go_simp; done) | (go_simp; rfl)); intro gb118 hg w5 hbox hb; have n0_ := Aside0.mk (below_step (by repeat (first | (with_reducible first | exact HB.out | apply below_alloc | apply pw_below_drewN | apply below_drew1) | exact HB.out)) hb); have n1_ := Aside0.mk (hbox); have n2_ := Aside0.mk ((by rw [hg]; exact (below_size (by repeat (first | (with_reducible first | exact HB.out | apply below_alloc | apply pw_below_drewN | apply below_drew1) | exact HB.out))) : w.heap.size ≤ gb118)); have n3_ := Aside0.mk ((by rw [hg]; exact (below_size (by repeat (first | (with_reducible first | exact HB.out | apply below_alloc | apply pw_below_drewN | apply below_drew1) | exact HB.out))) : w.heap.size ≤ gb118)); clear HB; have HB := n0_; have BK118 := n1_; have GW118 := n2_; have GE118 := n3_; clear n0_ n1_ n2_ n3_; clear hb hbox hg) | ((with_reducible refine gate_callee (f := 60) rfl ?_); refine gm_ (some 7) Tryz.func60 #[.int .i64 a0] ?_; (with_reducible refine (rata_Of.calls a0 true _ A2.out).mono ?_); rintro e w' ⟨rfl, ⟨nd, rfl⟩⟩; refine ⟨_, rfl, ?_⟩; (try (rw [drewN_self w5]; generalize hq_ : World.drewN w5 _ = w5; have n0_ : Aside0 (w5.heap[gb118]? = some (.cells #[.int .i64 0, .int .i64 0, .int .i64 0] 41 (0, 0))) := ⟨by rw [← hq_]; exact (by (with_reducible repeat (first | refine blk_drewN ?_ _ | refine blk_drew ?_ | refine blk_alloc ?_ _)); exact BK118.out)⟩; have n1_ : Aside0 (Below w.heap.size w w5) := ⟨by rw [← hq_]; exact (by repeat (first | (with_reducible first | exact HB.out | apply below_alloc | apply pw_below_drewN | apply below_drew1 | refine below_set ?_ GE118.out) | exact HB.out))⟩; clear BK118 HB hq_; have BK118 := n0_; have HB := n1_; clear n0_ n1_)); (try (have hcz6_0 : w5.cell? ⟨gb118, 0, none⟩ = some (.int .i64 0) := (blk_cell BK118.out 0).trans rfl; have hcz6_1 : w5.cell? ⟨gb118, 1, none⟩ = some (.int .i64 0) := (blk_cell BK118.out 1).trans rfl; have hcz6_2 : w5.cell? ⟨gb118, 2, none⟩ = some (.int .i64 0) := (blk_cell BK118.out 2).trans rfl; have hfz6_0 := blk_frozen BK118.out 0; have hfz6_1 := blk_frozen BK118.out 1; have hfz6_2 := blk_frozen BK118.out 2))) | ((with_reducible refine gate_callee (f := 83) rfl ?_); refine gm_ (some 15) Tryz.func83 #[.int .i64 (wrap64 ((wrap64 (4 * (wrap64 (a0 + 1)))) + 1464)), .int .i64 1461] ?_; (with_reducible refine (rata_Floor.calls (wrap64 ((wrap64 (4 * (wrap64 (a0 + 1)))) + 1464)) 1461 t120 _ A4.out).mono ?_); rintro e w' ⟨rfl, ⟨nd, rfl⟩⟩; refine ⟨_, rfl, ?_⟩; (try (rw [drewN_self w5]; generalize hq_ : World.drewN w5 _ = w5; have n0_ : Aside0 (w5.heap[gb118]? = some (.cells #[.int .i64 0, .int .i64 0, .int .i64 0] 41 (0, 0))) := ⟨by rw [← hq_]; exact (by (with_reducible repeat (first | refine blk_drewN ?_ _ | refine blk_drew ?_ | refine blk_alloc ?_ _)); exact BK118.out)⟩; have n1_ : Aside0 (Below w.heap.size w w5) := ⟨by rw [← hq_]; exact (by repeat (first | (with_reducible first | exact HB.out | apply below_alloc | apply pw_below_drewN | apply below_drew1 | refine below_set ?_ GE118.out) | exact HB.out))⟩; clear BK118 HB hq_; have BK118 := n0_; have HB := n1_; clear n0_ n1_)); (try (have hcz7_0 : w5.cell? ⟨gb118, 0, none⟩ = some (.int .i64 0) := (blk_cell BK118.out 0).trans rfl; have hcz7_1 : w5.cell? ⟨gb118, 1, none⟩ = some (.int .i64 0) := (blk_cell BK118.out 1).trans rfl; have hcz7_2 : w5.cell? ⟨gb118, 2, none⟩ = some (.int .i64 0) := (blk_cell BK118.out 2).trans rfl; have hfz7_0 := blk_frozen BK118.out 0; have hfz7_1 := blk_frozen BK118.out 1; have hfz7_2 := blk_frozen BK118.out 2))) | ((with_reducible refine gate_dst (N := 5) rfl ?_); refine box_event ?hg (N := 5) ?hd (cs := #[.int .i64 0, .int .i64 0, .int .i64 0]) (t := 41) ?hr ?_; (case hd => rfl); (case hg => rfl); (case hr => first | (go_simp; done) | (go_simp; rfl)); intro gb121 hg w8 hbox hb; have n0_ := Aside0.mk (blk_below (g := gb118) (o := .cells #[.int .i64 0, .int .i64 0, .int .i64 0] 41 (0, 0)) (by (with_reducible repeat (first | refine blk_drewN ?_ _ | refine blk_drew ?_ | refine blk_alloc ?_ _)); exact BK118.out) hb); have n1_ := Aside0.mk (below_step (by repeat (first | (with_reducible first | exact HB.out | apply below_alloc | apply pw_below_drewN | apply below_drew1 | refine below_set ?_ GE118.out) | exact HB.out)) hb); have n2_ := Aside0.mk (hbox); have n3_ := Aside0.mk ((by rw [hg]; exact (below_size (by repeat (first | (with_reducible first | exact HB.out | apply below_alloc | apply pw_below_drewN | apply below_drew1 | refine below_set ?_ GE118.out) | exact HB.out))) : w.heap.size ≤ gb121)); have n4_ := Aside0.mk ((by rw [hg]; exact (below_size (by repeat (first | (with_reducible first | exact HB.out | apply below_alloc | apply pw_below_drewN | apply below_drew1 | refine below_set ?_ GE118.out) | exact HB.out))) : w.heap.size ≤ gb121)); have n5_ := Aside0.mk ((by rw [hg]; exact Nat.ne_of_lt (blk_lt (g := gb118) (o := .cells #[.int .i64 0, .int .i64 0, .int .i64 0] 41 (0, 0)) (by (with_reducible repeat (first | refine blk_drewN ?_ _ | refine blk_drew ?_ | refine blk_alloc ?_ _)); exact BK118.out)) : gb118 ≠ gb121)); have n6_ := Aside0.mk ((by rw [hg]; exact Nat.ne_of_gt (blk_lt (g := gb118) (o := .cells #[.int .i64 0, .int .i64 0, .int .i64 0] 41 (0, 0)) (by (with_reducible repeat (first | refine blk_drewN ?_ _ | refine blk_drew ?_ | refine blk_alloc ?_ _)); exact BK118.out)) : gb121 ≠ gb118)); clear BK118; clear HB; have BK118 := n0_; have HB := n1_; have BK121 := n2_; have GW121 := n3_; have GE121 := n4_; have NB118_121 := n5_; have NB121_118 := n6_; clear n0_ n1_ n2_ n3_ n4_ n5_ n6_; clear hb hbox hg; have hnb9 := NB121_118.out; have hnc9 := NB118_121.out; have hcz10_0 : w8.cell? ⟨gb121, 0, none⟩ = some (.int .i64 0) := (blk_cell BK121.out 0).trans rfl; have hcz10_1 : w8.cell? ⟨gb121, 1, none⟩ = some (.int .i64 0) := (blk_cell BK121.out 1).trans rfl; have hcz10_2 : w8.cell? ⟨gb121, 2, none⟩ = some (.int .i64 0) := (blk_cell BK121.out 2).trans rfl; have hfz10_0 := blk_frozen BK121.out 0; have hfz10_1 := blk_frozen BK121.out 1; have hfz10_2 := blk_frozen BK121.out 2))
  go_loopg [] k (fun kq w' => ∃ (x122000_1 : Int), Aside0 (julian_Julian.l0 kq (wrap64 (a0 + 1)) x122000_1 1 0 = some (r1, r2, r3, r4)) ∧ Aside0 (kq ≤ k) ∧ Aside0 (w'.heap[gb118]? = some (.cells #[.int .i64 0, .int .i64 0, .int .i64 0] 41 (0, 0))) ∧ Aside0 (w'.heap[gb121]? = some (.cells #[.int .i64 x122000_1, .int .i64 1, .int .i64 0] 41 (0, 0))) ∧ Aside0 (Below w.heap.size w w'))
  case atStart => exact ⟨(t120), H', ⟨Nat.le_refl _⟩, ⟨by (with_reducible repeat (first | refine blk_drewN ?_ _ | refine blk_drew ?_ | refine blk_alloc ?_ _)); refine blk_far ?_ NB118_121.out _; (with_reducible repeat (first | refine blk_drewN ?_ _ | refine blk_drew ?_ | refine blk_alloc ?_ _)); refine blk_far ?_ NB118_121.out _; (with_reducible repeat (first | refine blk_drewN ?_ _ | refine blk_drew ?_ | refine blk_alloc ?_ _)); refine blk_far ?_ NB118_121.out _; (with_reducible repeat (first | refine blk_drewN ?_ _ | refine blk_drew ?_ | refine blk_alloc ?_ _)); exact BK118.out⟩, ⟨by (with_reducible repeat (first | refine blk_drewN ?_ _ | refine blk_drew ?_ | refine blk_alloc ?_ _)); refine blk_put (cs := #[.int .i64 t120, .int .i64 1, .int .i64 0]) ?_ 2 _ rfl; (with_reducible repeat (first | refine blk_drewN ?_ _ | refine blk_drew ?_ | refine blk_alloc ?_ _)); refine blk_put (cs := #[.int .i64 t120, .int .i64 0, .int .i64 0]) ?_ 1 _ rfl; (with_reducible repeat (first | refine blk_drewN ?_ _ | refine blk_drew ?_ | refine blk_alloc ?_ _)); refine blk_put (cs := #[.int .i64 0, .int .i64 0, .int .i64 0]) ?_ 0 _ rfl; (with_reducible repeat (first | refine blk_drewN ?_ _ | refine blk_drew ?_ | refine blk_alloc ?_ _)); exact BK121.out⟩, ⟨by repeat (first | (with_reducible first | exact HB.out | apply below_alloc | apply pw_below_drewN | apply below_drew1 | refine below_set ?_ GE118.out | refine below_set ?_ GE121.out) | exact HB.out)⟩⟩
  case round =>
   clear H'
   try clear p2
   try clear c3
   try clear c6
   try clear p6
   try clear c8
   try clear c9
   try clear hcz10_0
   try clear hcz10_1
   try clear hcz10_2
   try clear hcz6_0
   try clear hcz6_1
   try clear hcz6_2
   try clear hcz7_0
   try clear hcz7_1
   try clear hcz7_2
   try clear hfz10_0
   try clear hfz10_1
   try clear hfz10_2
   try clear hfz6_0
   try clear hfz6_1
   try clear hfz6_2
   try clear hfz7_0
   try clear hfz7_1
   try clear hfz7_2
   obtain ⟨x122000_1, HA, HK1, BK118, BK121, HB⟩ := hrel
   cases gk with
   | zero => exact absurd HA.out (by simp [julian_Julian.l0])
   | succ k1 =>
    have H := HA.out
    clear HA
    simp only [julian_Julian.l0] at H
    replace H := Option.bind_eq_some_iff.mp H
    obtain ⟨t122, A110, H⟩ := H
    replace H : (if t122 > (wrap64 (a0 + 1)) then (julian_Julian.l0 k1 (wrap64 (a0 + 1)) (wrap64 (x122000_1 - 1)) 1 0) else ((julian_ahead.f x122000_1).bind fun t123 => (julian_Julian.l1 k1 (wrap64 ((wrap64 (a0 + 1)) - t123)) x122000_1 1 0))) = some (r1, r2, r3, r4) := H
    have A11 := Aside0.mk A110
    clear A110
    by_cases c12 : t122 > (wrap64 (a0 + 1))
    ·rw [if_pos c12] at H
     have c12b0 : decide ((wrap64 (a0 + 1)) < t122) = true := decide_eq_true c12
     clear c12
     have H' := Aside0.mk H
     clear H
     have hnb13 := NB121_118.out
     have hnc13 := NB118_121.out
     have hcz14_0 : wr.cell? ⟨gb121, 0, none⟩ = some (.int .i64 x122000_1) := (blk_cell BK121.out 0).trans rfl
     have hcz14_1 : wr.cell? ⟨gb121, 1, none⟩ = some (.int .i64 1) := (blk_cell BK121.out 1).trans rfl
     have hcz14_2 : wr.cell? ⟨gb121, 2, none⟩ = some (.int .i64 0) := (blk_cell BK121.out 2).trans rfl
     have hfz14_0 := blk_frozen BK121.out 0
     have hfz14_1 := blk_frozen BK121.out 1
     have hfz14_2 := blk_frozen BK121.out 2
     go_wp2_with (first | ((with_reducible refine gate_callee (f := 56) rfl ?_); refine gm_ (some 19) Tryz.func56 #[.int .i64 x122000_1] ?_; (with_reducible refine (julian_ahead.calls x122000_1 t122 _ A11.out).mono ?_); rintro e w' ⟨rfl, ⟨nd, rfl⟩⟩; refine ⟨_, rfl, ?_⟩; (try (rw [drewN_self wr]; generalize hq_ : World.drewN wr _ = wr; have n0_ : Aside0 (wr.heap[gb118]? = some (.cells #[.int .i64 0, .int .i64 0, .int .i64 0] 41 (0, 0))) := ⟨by rw [← hq_]; exact (by (with_reducible repeat (first | refine blk_drewN ?_ _ | refine blk_drew ?_ | refine blk_alloc ?_ _)); exact BK118.out)⟩; have n1_ : Aside0 (wr.heap[gb121]? = some (.cells #[.int .i64 x122000_1, .int .i64 1, .int .i64 0] 41 (0, 0))) := ⟨by rw [← hq_]; exact (by (with_reducible repeat (first | refine blk_drewN ?_ _ | refine blk_drew ?_ | refine blk_alloc ?_ _)); exact BK121.out)⟩; have n2_ : Aside0 (Below w.heap.size w wr) := ⟨by rw [← hq_]; exact (by repeat (first | (with_reducible first | exact HB.out | apply below_alloc | apply pw_below_drewN | apply below_drew1 | refine below_set ?_ GE118.out | refine below_set ?_ GE121.out) | exact HB.out))⟩; clear BK118 BK121 HB hq_; have BK118 := n0_; have BK121 := n1_; have HB := n2_; clear n0_ n1_ n2_)); (try (have hcz15_0 : wr.cell? ⟨gb118, 0, none⟩ = some (.int .i64 0) := (blk_cell BK118.out 0).trans rfl; have hcz15_1 : wr.cell? ⟨gb118, 1, none⟩ = some (.int .i64 0) := (blk_cell BK118.out 1).trans rfl; have hcz15_2 : wr.cell? ⟨gb118, 2, none⟩ = some (.int .i64 0) := (blk_cell BK118.out 2).trans rfl; have hfz15_0 := blk_frozen BK118.out 0; have hfz15_1 := blk_frozen BK118.out 1; have hfz15_2 := blk_frozen BK118.out 2; have hcz16_0 : wr.cell? ⟨gb121, 0, none⟩ = some (.int .i64 x122000_1) := (blk_cell BK121.out 0).trans rfl; have hcz16_1 : wr.cell? ⟨gb121, 1, none⟩ = some (.int .i64 1) := (blk_cell BK121.out 1).trans rfl; have hcz16_2 : wr.cell? ⟨gb121, 2, none⟩ = some (.int .i64 0) := (blk_cell BK121.out 2).trans rfl; have hfz16_0 := blk_frozen BK121.out 0; have hfz16_1 := blk_frozen BK121.out 1; have hfz16_2 := blk_frozen BK121.out 2))))
     go_roundg k1
     case measure => have := HK1.out; omega
     case rel => exact ⟨(wrap64 (x122000_1 - 1)), H', ⟨by have := HK1.out; omega⟩, ⟨by (with_reducible repeat (first | refine blk_drewN ?_ _ | refine blk_drew ?_ | refine blk_alloc ?_ _)); refine blk_far ?_ NB118_121.out _; (with_reducible repeat (first | refine blk_drewN ?_ _ | refine blk_drew ?_ | refine blk_alloc ?_ _)); exact BK118.out⟩, ⟨by (with_reducible repeat (first | refine blk_drewN ?_ _ | refine blk_drew ?_ | refine blk_alloc ?_ _)); refine blk_put (cs := #[.int .i64 x122000_1, .int .i64 1, .int .i64 0]) ?_ 0 _ rfl; (with_reducible repeat (first | refine blk_drewN ?_ _ | refine blk_drew ?_ | refine blk_alloc ?_ _)); exact BK121.out⟩, ⟨by repeat (first | (with_reducible first | exact HB.out | apply below_alloc | apply pw_below_drewN | apply below_drew1 | refine below_set ?_ GE118.out | refine below_set ?_ GE121.out) | exact HB.out)⟩⟩
    ·rw [if_neg c12] at H
     have c12b0 : decide ((wrap64 (a0 + 1)) < t122) = false := decide_eq_false c12
     clear c12
     replace H := Option.bind_eq_some_iff.mp H
     obtain ⟨t123, A170, H⟩ := H
     have A17d := Option.some.inj (A11.out.symm.trans A170)
     clear A170
     subst A17d
     replace H : (julian_Julian.l1 k1 (wrap64 ((wrap64 (a0 + 1)) - t122)) x122000_1 1 0) = some (r1, r2, r3, r4) := H
     have H' := Aside0.mk H
     clear H
     have hnb18 := NB121_118.out
     have hnc18 := NB118_121.out
     have hcz19_0 : wr.cell? ⟨gb121, 0, none⟩ = some (.int .i64 x122000_1) := (blk_cell BK121.out 0).trans rfl
     have hcz19_1 : wr.cell? ⟨gb121, 1, none⟩ = some (.int .i64 1) := (blk_cell BK121.out 1).trans rfl
     have hcz19_2 : wr.cell? ⟨gb121, 2, none⟩ = some (.int .i64 0) := (blk_cell BK121.out 2).trans rfl
     have hfz19_0 := blk_frozen BK121.out 0
     have hfz19_1 := blk_frozen BK121.out 1
     have hfz19_2 := blk_frozen BK121.out 2
     go_wp2_with (first | ((with_reducible refine gate_callee (f := 56) rfl ?_); refine gm_ (some 19) Tryz.func56 #[.int .i64 x122000_1] ?_; (with_reducible refine (julian_ahead.calls x122000_1 t122 _ A11.out).mono ?_); rintro e w' ⟨rfl, ⟨nd, rfl⟩⟩; refine ⟨_, rfl, ?_⟩) | ((with_reducible refine gate_callee (f := 56) rfl ?_); refine gm_ (some 29) Tryz.func56 #[.int .i64 x122000_1] ?_; (with_reducible refine (julian_ahead.calls x122000_1 t122 _ A11.out).mono ?_); rintro e w' ⟨rfl, ⟨nd, rfl⟩⟩; refine ⟨_, rfl, ?_⟩))
     go_loopg [4] k1 (fun kq v4 w' => ∃ (x4_2 : Int) (x122001_2 : Int), v4 = .int .i64 x4_2 ∧ Aside0 (julian_Julian.l1 kq x4_2 x122000_1 x122001_2 0 = some (r1, r2, r3, r4)) ∧ Aside0 (kq ≤ k1) ∧ Aside0 (w'.heap[gb118]? = some (.cells #[.int .i64 0, .int .i64 0, .int .i64 0] 41 (0, 0))) ∧ Aside0 (w'.heap[gb121]? = some (.cells #[.int .i64 x122000_1, .int .i64 x122001_2, .int .i64 0] 41 (0, 0))) ∧ Aside0 (Below w.heap.size w w'))
     case atStart => exact ⟨(wrap64 ((wrap64 (a0 + 1)) - t122)), (1), (by first | rfl | (simp; done) | (simp [*]; done)), H', ⟨Nat.le_refl _⟩, ⟨by (with_reducible repeat (first | refine blk_drewN ?_ _ | refine blk_drew ?_ | refine blk_alloc ?_ _)); exact BK118.out⟩, ⟨by (with_reducible repeat (first | refine blk_drewN ?_ _ | refine blk_drew ?_ | refine blk_alloc ?_ _)); exact BK121.out⟩, ⟨by repeat (first | (with_reducible first | exact HB.out | apply below_alloc | apply pw_below_drewN | apply below_drew1 | refine below_set ?_ GE118.out | refine below_set ?_ GE121.out) | exact HB.out)⟩⟩
     case round =>
      clear H'
      try clear c1
      try clear p2
      try clear c3
      try clear c5
      try clear c6
      try clear p6
      try clear c8
      try clear c9
      try clear c12
      try clear c12b0
      try clear c13
      try clear c18
      try clear hcz10_0
      try clear hcz10_1
      try clear hcz10_2
      try clear hcz14_0
      try clear hcz14_1
      try clear hcz14_2
      try clear hcz15_0
      try clear hcz15_1
      try clear hcz15_2
      try clear hcz16_0
      try clear hcz16_1
      try clear hcz16_2
      try clear hcz19_0
      try clear hcz19_1
      try clear hcz19_2
      try clear hcz6_0
      try clear hcz6_1
      try clear hcz6_2
      try clear hcz7_0
      try clear hcz7_1
      try clear hcz7_2
      try clear hfz10_0
      try clear hfz10_1
      try clear hfz10_2
      try clear hfz14_0
      try clear hfz14_1
      try clear hfz14_2
      try clear hfz15_0
      try clear hfz15_1
      try clear hfz15_2
      try clear hfz16_0
      try clear hfz16_1
      try clear hfz16_2
      try clear hfz19_0
      try clear hfz19_1
      try clear hfz19_2
      try clear hfz6_0
      try clear hfz6_1
      try clear hfz6_2
      try clear hfz7_0
      try clear hfz7_1
      try clear hfz7_2
      try clear p2
      try clear p6
      obtain ⟨x4_2, x122001_2, rfl, HA, HK2, BK118, BK121, HB⟩ := hrel
      cases gk with
      | zero => exact absurd HA.out (by simp [julian_Julian.l1])
      | succ k2 =>
       have H := HA.out
       clear HA
       simp only [julian_Julian.l1] at H
       replace H := Option.bind_eq_some_iff.mp H
       obtain ⟨t124, A200, H⟩ := H
       replace H : (if x4_2 ≥ t124 then ((julian_length.f k2 x122000_1 x122001_2).bind fun t125 => (julian_Julian.l1 k2 (wrap64 (x4_2 - t125)) x122000_1 (wrap64 (x122001_2 + 1)) 0)) else (some (x122000_1, x122001_2, wrap64 (x4_2 + 1), 0))) = some (r1, r2, r3, r4) := H
       have A20 := Aside0.mk A200
       clear A200
       by_cases c21 : x4_2 ≥ t124
       ·rw [if_pos c21] at H
        have c21b0 : decide (t124 ≤ x4_2) = true := decide_eq_true c21
        clear c21
        replace H := Option.bind_eq_some_iff.mp H
        obtain ⟨t125, A220, H⟩ := H
        have A22d := Option.some.inj (A20.out.symm.trans A220)
        clear A220
        subst A22d
        replace H : (julian_Julian.l1 k2 (wrap64 (x4_2 - t124)) x122000_1 (wrap64 (x122001_2 + 1)) 0) = some (r1, r2, r3, r4) := H
        have H' := Aside0.mk H
        clear H
        have hnb23 := NB121_118.out
        have hnc23 := NB118_121.out
        have hcz24_0 : wr.cell? ⟨gb121, 0, none⟩ = some (.int .i64 x122000_1) := (blk_cell BK121.out 0).trans rfl
        have hcz24_1 : wr.cell? ⟨gb121, 1, none⟩ = some (.int .i64 x122001_2) := (blk_cell BK121.out 1).trans rfl
        have hcz24_2 : wr.cell? ⟨gb121, 2, none⟩ = some (.int .i64 0) := (blk_cell BK121.out 2).trans rfl
        have hfz24_0 := blk_frozen BK121.out 0
        have hfz24_1 := blk_frozen BK121.out 1
        have hfz24_2 := blk_frozen BK121.out 2
        go_wp2_with (first | ((with_reducible refine gate_callee (f := 55) rfl ?_); refine gm_ (some 36) Tryz.func55 #[.int .i64 x122000_1, .int .i64 x122001_2] ?_; (with_reducible refine (julian_length.calls k2 x122000_1 x122001_2 t124 _ A20.out).mono ?_); rintro e w' ⟨rfl, ⟨nd, rfl⟩⟩; refine ⟨_, rfl, ?_⟩; (try (rw [drewN_self wr]; generalize hq_ : World.drewN wr _ = wr; have n0_ : Aside0 (wr.heap[gb118]? = some (.cells #[.int .i64 0, .int .i64 0, .int .i64 0] 41 (0, 0))) := ⟨by rw [← hq_]; exact (by (with_reducible repeat (first | refine blk_drewN ?_ _ | refine blk_drew ?_ | refine blk_alloc ?_ _)); exact BK118.out)⟩; have n1_ : Aside0 (wr.heap[gb121]? = some (.cells #[.int .i64 x122000_1, .int .i64 x122001_2, .int .i64 0] 41 (0, 0))) := ⟨by rw [← hq_]; exact (by (with_reducible repeat (first | refine blk_drewN ?_ _ | refine blk_drew ?_ | refine blk_alloc ?_ _)); exact BK121.out)⟩; have n2_ : Aside0 (Below w.heap.size w wr) := ⟨by rw [← hq_]; exact (by repeat (first | (with_reducible first | exact HB.out | apply below_alloc | apply pw_below_drewN | apply below_drew1 | refine below_set ?_ GE118.out | refine below_set ?_ GE121.out) | exact HB.out))⟩; clear BK118 BK121 HB hq_; have BK118 := n0_; have BK121 := n1_; have HB := n2_; clear n0_ n1_ n2_)); (try (have hcz25_0 : wr.cell? ⟨gb118, 0, none⟩ = some (.int .i64 0) := (blk_cell BK118.out 0).trans rfl; have hcz25_1 : wr.cell? ⟨gb118, 1, none⟩ = some (.int .i64 0) := (blk_cell BK118.out 1).trans rfl; have hcz25_2 : wr.cell? ⟨gb118, 2, none⟩ = some (.int .i64 0) := (blk_cell BK118.out 2).trans rfl; have hfz25_0 := blk_frozen BK118.out 0; have hfz25_1 := blk_frozen BK118.out 1; have hfz25_2 := blk_frozen BK118.out 2; have hcz26_0 : wr.cell? ⟨gb121, 0, none⟩ = some (.int .i64 x122000_1) := (blk_cell BK121.out 0).trans rfl; have hcz26_1 : wr.cell? ⟨gb121, 1, none⟩ = some (.int .i64 x122001_2) := (blk_cell BK121.out 1).trans rfl; have hcz26_2 : wr.cell? ⟨gb121, 2, none⟩ = some (.int .i64 0) := (blk_cell BK121.out 2).trans rfl; have hfz26_0 := blk_frozen BK121.out 0; have hfz26_1 := blk_frozen BK121.out 1; have hfz26_2 := blk_frozen BK121.out 2))) | ((with_reducible refine gate_callee (f := 55) rfl ?_); refine gm_ (some 43) Tryz.func55 #[.int .i64 x122000_1, .int .i64 x122001_2] ?_; (with_reducible refine (julian_length.calls k2 x122000_1 x122001_2 t124 _ A20.out).mono ?_); rintro e w' ⟨rfl, ⟨nd, rfl⟩⟩; refine ⟨_, rfl, ?_⟩; (try (rw [drewN_self wr]; generalize hq_ : World.drewN wr _ = wr; have n0_ : Aside0 (wr.heap[gb118]? = some (.cells #[.int .i64 0, .int .i64 0, .int .i64 0] 41 (0, 0))) := ⟨by rw [← hq_]; exact (by (with_reducible repeat (first | refine blk_drewN ?_ _ | refine blk_drew ?_ | refine blk_alloc ?_ _)); exact BK118.out)⟩; have n1_ : Aside0 (wr.heap[gb121]? = some (.cells #[.int .i64 x122000_1, .int .i64 x122001_2, .int .i64 0] 41 (0, 0))) := ⟨by rw [← hq_]; exact (by (with_reducible repeat (first | refine blk_drewN ?_ _ | refine blk_drew ?_ | refine blk_alloc ?_ _)); exact BK121.out)⟩; have n2_ : Aside0 (Below w.heap.size w wr) := ⟨by rw [← hq_]; exact (by repeat (first | (with_reducible first | exact HB.out | apply below_alloc | apply pw_below_drewN | apply below_drew1 | refine below_set ?_ GE118.out | refine below_set ?_ GE121.out) | exact HB.out))⟩; clear BK118 BK121 HB hq_; have BK118 := n0_; have BK121 := n1_; have HB := n2_; clear n0_ n1_ n2_)); (try (have hcz27_0 : wr.cell? ⟨gb118, 0, none⟩ = some (.int .i64 0) := (blk_cell BK118.out 0).trans rfl; have hcz27_1 : wr.cell? ⟨gb118, 1, none⟩ = some (.int .i64 0) := (blk_cell BK118.out 1).trans rfl; have hcz27_2 : wr.cell? ⟨gb118, 2, none⟩ = some (.int .i64 0) := (blk_cell BK118.out 2).trans rfl; have hfz27_0 := blk_frozen BK118.out 0; have hfz27_1 := blk_frozen BK118.out 1; have hfz27_2 := blk_frozen BK118.out 2; have hcz28_0 : wr.cell? ⟨gb121, 0, none⟩ = some (.int .i64 x122000_1) := (blk_cell BK121.out 0).trans rfl; have hcz28_1 : wr.cell? ⟨gb121, 1, none⟩ = some (.int .i64 x122001_2) := (blk_cell BK121.out 1).trans rfl; have hcz28_2 : wr.cell? ⟨gb121, 2, none⟩ = some (.int .i64 0) := (blk_cell BK121.out 2).trans rfl; have hfz28_0 := blk_frozen BK121.out 0; have hfz28_1 := blk_frozen BK121.out 1; have hfz28_2 := blk_frozen BK121.out 2))))
        go_roundg k2
        case measure => have := HK1.out; have := HK2.out; omega
        case rel => exact ⟨(wrap64 (x4_2 - t124)), (wrap64 (x122001_2 + 1)), (by first | rfl | (simp; done) | (simp [*]; done)), H', ⟨by have := HK1.out; have := HK2.out; omega⟩, ⟨by (with_reducible repeat (first | refine blk_drewN ?_ _ | refine blk_drew ?_ | refine blk_alloc ?_ _)); refine blk_far ?_ NB118_121.out _; (with_reducible repeat (first | refine blk_drewN ?_ _ | refine blk_drew ?_ | refine blk_alloc ?_ _)); exact BK118.out⟩, ⟨by (with_reducible repeat (first | refine blk_drewN ?_ _ | refine blk_drew ?_ | refine blk_alloc ?_ _)); refine blk_put (cs := #[.int .i64 x122000_1, .int .i64 x122001_2, .int .i64 0]) ?_ 1 _ rfl; (with_reducible repeat (first | refine blk_drewN ?_ _ | refine blk_drew ?_ | refine blk_alloc ?_ _)); exact BK121.out⟩, ⟨by repeat (first | (with_reducible first | exact HB.out | apply below_alloc | apply pw_below_drewN | apply below_drew1 | refine below_set ?_ GE118.out | refine below_set ?_ GE121.out) | exact HB.out)⟩⟩
       ·rw [if_neg c21] at H
        have c21b0 : decide (t124 ≤ x4_2) = false := decide_eq_false c21
        clear c21
        simp only [Option.some.injEq, Prod.mk.injEq] at H
        obtain ⟨rfl, rfl, rfl, rfl⟩ := H
        have hnb29 := NB121_118.out
        have hnc29 := NB118_121.out
        have hcz30_0 : wr.cell? ⟨gb121, 0, none⟩ = some (.int .i64 x122000_1) := (blk_cell BK121.out 0).trans rfl
        have hcz30_1 : wr.cell? ⟨gb121, 1, none⟩ = some (.int .i64 x122001_2) := (blk_cell BK121.out 1).trans rfl
        have hcz30_2 : wr.cell? ⟨gb121, 2, none⟩ = some (.int .i64 0) := (blk_cell BK121.out 2).trans rfl
        have hfz30_0 := blk_frozen BK121.out 0
        have hfz30_1 := blk_frozen BK121.out 1
        have hfz30_2 := blk_frozen BK121.out 2
        go_wp2_with (first | ((with_reducible refine gate_callee (f := 55) rfl ?_); refine gm_ (some 36) Tryz.func55 #[.int .i64 x122000_1, .int .i64 x122001_2] ?_; (with_reducible refine (julian_length.calls k2 x122000_1 x122001_2 t124 _ A20.out).mono ?_); rintro e w' ⟨rfl, ⟨nd, rfl⟩⟩; refine ⟨_, rfl, ?_⟩; (try (rw [drewN_self wr]; generalize hq_ : World.drewN wr _ = wr; have n0_ : Aside0 (wr.heap[gb118]? = some (.cells #[.int .i64 0, .int .i64 0, .int .i64 0] 41 (0, 0))) := ⟨by rw [← hq_]; exact (by (with_reducible repeat (first | refine blk_drewN ?_ _ | refine blk_drew ?_ | refine blk_alloc ?_ _)); exact BK118.out)⟩; have n1_ : Aside0 (wr.heap[gb121]? = some (.cells #[.int .i64 x122000_1, .int .i64 x122001_2, .int .i64 0] 41 (0, 0))) := ⟨by rw [← hq_]; exact (by (with_reducible repeat (first | refine blk_drewN ?_ _ | refine blk_drew ?_ | refine blk_alloc ?_ _)); exact BK121.out)⟩; have n2_ : Aside0 (Below w.heap.size w wr) := ⟨by rw [← hq_]; exact (by repeat (first | (with_reducible first | exact HB.out | apply below_alloc | apply pw_below_drewN | apply below_drew1 | refine below_set ?_ GE118.out | refine below_set ?_ GE121.out) | exact HB.out))⟩; clear BK118 BK121 HB hq_; have BK118 := n0_; have BK121 := n1_; have HB := n2_; clear n0_ n1_ n2_)); (try (have hcz31_0 : wr.cell? ⟨gb118, 0, none⟩ = some (.int .i64 0) := (blk_cell BK118.out 0).trans rfl; have hcz31_1 : wr.cell? ⟨gb118, 1, none⟩ = some (.int .i64 0) := (blk_cell BK118.out 1).trans rfl; have hcz31_2 : wr.cell? ⟨gb118, 2, none⟩ = some (.int .i64 0) := (blk_cell BK118.out 2).trans rfl; have hfz31_0 := blk_frozen BK118.out 0; have hfz31_1 := blk_frozen BK118.out 1; have hfz31_2 := blk_frozen BK118.out 2; have hcz32_0 : wr.cell? ⟨gb121, 0, none⟩ = some (.int .i64 x122000_1) := (blk_cell BK121.out 0).trans rfl; have hcz32_1 : wr.cell? ⟨gb121, 1, none⟩ = some (.int .i64 x122001_2) := (blk_cell BK121.out 1).trans rfl; have hcz32_2 : wr.cell? ⟨gb121, 2, none⟩ = some (.int .i64 0) := (blk_cell BK121.out 2).trans rfl; have hfz32_0 := blk_frozen BK121.out 0; have hfz32_1 := blk_frozen BK121.out 1; have hfz32_2 := blk_frozen BK121.out 2)); have hcz33_0 : wr.cell? ⟨gb118, 0, none⟩ = some (.int .i64 0) := (blk_cell BK118.out 0).trans rfl; have hcz33_1 : wr.cell? ⟨gb118, 1, none⟩ = some (.int .i64 0) := (blk_cell BK118.out 1).trans rfl; have hcz33_2 : wr.cell? ⟨gb118, 2, none⟩ = some (.int .i64 0) := (blk_cell BK118.out 2).trans rfl; have hfz33_0 := blk_frozen BK118.out 0; have hfz33_1 := blk_frozen BK118.out 1; have hfz33_2 := blk_frozen BK118.out 2))
        refine bodyPost_ret (results_ct rfl _ _ gb118 41 #[.int .i64 x122000_1, .int .i64 x122001_2, .int .i64 (wrap64 (x4_2 + 1))] (0, 0) _ rfl (by (with_reducible repeat (first | refine blk_drewN ?_ _ | refine blk_drew ?_ | refine blk_alloc ?_ _)); refine blk_put (cs := #[.int .i64 x122000_1, .int .i64 x122001_2, .int .i64 0]) ?_ 2 _ rfl; (with_reducible repeat (first | refine blk_drewN ?_ _ | refine blk_drew ?_ | refine blk_alloc ?_ _)); refine blk_put (cs := #[.int .i64 x122000_1, .int .i64 0, .int .i64 0]) ?_ 1 _ rfl; (with_reducible repeat (first | refine blk_drewN ?_ _ | refine blk_drew ?_ | refine blk_alloc ?_ _)); refine blk_put (cs := #[.int .i64 0, .int .i64 0, .int .i64 0]) ?_ 0 _ rfl; (with_reducible repeat (first | refine blk_drewN ?_ _ | refine blk_drew ?_ | refine blk_alloc ?_ _)); refine blk_far ?_ NB118_121.out _; (with_reducible repeat (first | refine blk_drewN ?_ _ | refine blk_drew ?_ | refine blk_alloc ?_ _)); exact BK118.out) Tryz.underlying41 rfl (by kernel_rfl)) rfl ?_
        exact ⟨by first | rfl | (simp [*, errW_none, errW_some] <;> rfl), by repeat (first | (with_reducible first | exact HB.out | apply below_alloc | apply pw_below_drewN | apply below_drew1 | refine below_set ?_ GE118.out | refine below_set ?_ GE121.out) | exact HB.out)⟩
 ·replace c3 := Bool.eq_false_iff.mpr c3
  subst c3
  have H1 : (some (0, 0, 0, 2)) = some (r1, r2, r3, r4) := by rw [if_neg (show ¬ (false = true) by decide)] at H; exact H
  clear H
  have H := H1
  clear H1
  simp only [Option.some.injEq, Prod.mk.injEq] at H
  obtain ⟨rfl, rfl, rfl, rfl⟩ := H
  go_enter Tryz.func39, Tryz.ntmps39
  go_wp2_with (first | ((with_reducible refine gate_dst (N := 2) rfl ?_); refine box_event ?hg (N := 2) ?hd (cs := #[.int .i64 0, .int .i64 0, .int .i64 0]) (t := 41) ?hr ?_; (case hd => rfl); (case hg => rfl); (case hr => first | (go_simp; done) | (go_simp; rfl)); intro gb118 hg w34 hbox hb; have n0_ := Aside0.mk (below_step (by repeat (first | (with_reducible first | exact HB.out | apply below_alloc | apply pw_below_drewN | apply below_drew1) | exact HB.out)) hb); have n1_ := Aside0.mk (hbox); have n2_ := Aside0.mk ((by rw [hg]; exact (below_size (by repeat (first | (with_reducible first | exact HB.out | apply below_alloc | apply pw_below_drewN | apply below_drew1) | exact HB.out))) : w.heap.size ≤ gb118)); have n3_ := Aside0.mk ((by rw [hg]; exact (below_size (by repeat (first | (with_reducible first | exact HB.out | apply below_alloc | apply pw_below_drewN | apply below_drew1) | exact HB.out))) : w.heap.size ≤ gb118)); clear HB; have HB := n0_; have BK118 := n1_; have GW118 := n2_; have GE118 := n3_; clear n0_ n1_ n2_ n3_; clear hb hbox hg) | ((with_reducible refine gate_callee (f := 60) rfl ?_); refine gm_ (some 7) Tryz.func60 #[.int .i64 a0] ?_; (with_reducible refine (rata_Of.calls a0 false _ A2.out).mono ?_); rintro e w' ⟨rfl, ⟨nd, rfl⟩⟩; refine ⟨_, rfl, ?_⟩; (try (rw [drewN_self w34]; generalize hq_ : World.drewN w34 _ = w34; have n0_ : Aside0 (w34.heap[gb118]? = some (.cells #[.int .i64 0, .int .i64 0, .int .i64 0] 41 (0, 0))) := ⟨by rw [← hq_]; exact (by (with_reducible repeat (first | refine blk_drewN ?_ _ | refine blk_drew ?_ | refine blk_alloc ?_ _)); exact BK118.out)⟩; have n1_ : Aside0 (Below w.heap.size w w34) := ⟨by rw [← hq_]; exact (by repeat (first | (with_reducible first | exact HB.out | apply below_alloc | apply pw_below_drewN | apply below_drew1 | refine below_set ?_ GE118.out) | exact HB.out))⟩; clear BK118 HB hq_; have BK118 := n0_; have HB := n1_; clear n0_ n1_)); (try (have hcz35_0 : w34.cell? ⟨gb118, 0, none⟩ = some (.int .i64 0) := (blk_cell BK118.out 0).trans rfl; have hcz35_1 : w34.cell? ⟨gb118, 1, none⟩ = some (.int .i64 0) := (blk_cell BK118.out 1).trans rfl; have hcz35_2 : w34.cell? ⟨gb118, 2, none⟩ = some (.int .i64 0) := (blk_cell BK118.out 2).trans rfl; have hfz35_0 := blk_frozen BK118.out 0; have hfz35_1 := blk_frozen BK118.out 1; have hfz35_2 := blk_frozen BK118.out 2)); have hcz36_0 : w34.cell? ⟨gb118, 0, none⟩ = some (.int .i64 0) := (blk_cell BK118.out 0).trans rfl; have hcz36_1 : w34.cell? ⟨gb118, 1, none⟩ = some (.int .i64 0) := (blk_cell BK118.out 1).trans rfl; have hcz36_2 : w34.cell? ⟨gb118, 2, none⟩ = some (.int .i64 0) := (blk_cell BK118.out 2).trans rfl; have hfz36_0 := blk_frozen BK118.out 0; have hfz36_1 := blk_frozen BK118.out 1; have hfz36_2 := blk_frozen BK118.out 2))
  refine bodyPost_ret (results_ct rfl _ _ gb118 41 #[.int .i64 0, .int .i64 0, .int .i64 0] (0, 0) _ rfl (by (with_reducible repeat (first | refine blk_drewN ?_ _ | refine blk_drew ?_ | refine blk_alloc ?_ _)); refine blk_put (cs := #[.int .i64 0, .int .i64 0, .int .i64 0]) ?_ 2 _ rfl; (with_reducible repeat (first | refine blk_drewN ?_ _ | refine blk_drew ?_ | refine blk_alloc ?_ _)); refine blk_put (cs := #[.int .i64 0, .int .i64 0, .int .i64 0]) ?_ 1 _ rfl; (with_reducible repeat (first | refine blk_drewN ?_ _ | refine blk_drew ?_ | refine blk_alloc ?_ _)); refine blk_put (cs := #[.int .i64 0, .int .i64 0, .int .i64 0]) ?_ 0 _ rfl; (with_reducible repeat (first | refine blk_drewN ?_ _ | refine blk_drew ?_ | refine blk_alloc ?_ _)); exact BK118.out) Tryz.underlying41 rfl (by kernel_rfl)) rfl ?_
  exact ⟨by first | rfl | (simp [*, errW_none, errW_some] <;> rfl), by repeat (first | (with_reducible first | exact HB.out | apply below_alloc | apply pw_below_drewN | apply below_drew1 | refine below_set ?_ GE118.out) | exact HB.out)⟩

end Go.Proofs.YtgbbgcepcnklkaaGreatDoor.Q
