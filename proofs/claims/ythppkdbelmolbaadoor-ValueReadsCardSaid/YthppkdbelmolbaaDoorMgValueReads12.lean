/- Texts of this claim, merged: FunB, FunD, FunN, FunP, FunE, Secs, QnumV, Bytes, Zone. -/
import Derived.Test.YthppkdbelmolbaaDoorMgValueReads11
import Derived.Test.YthppkdbelmolbaaDoorMgValueReads8
import Derived.Test.YthppkdbelmolbaaDoorMgValueReads9
import Derived.Test.YthppkdbelmolbaaDoorMgValueReads5
import Derived.Test.YthppkdbelmolbaaDoorMgValueReads10
import Derived.Test.YthppkdbelmolbaaDoorMgValueReads1
import Derived.Test.YthppkdbelmolbaaDoorMgValueReads7
import Derived.Test.YthppkdbelmolbaaDoorMgValueReads2
/- What the reference's day arithmetic reckons, in plain numbers: Gregorian (0), Julian (1), ISO (2) and Coptic (6) dates. -/
namespace Go.Proofs.YthppkdbelmolbaaDoor.FunB
open Go.RowKit Go.Proofs.YthppkdbelmolbaaDoorW.PrintWords Go.Proofs.YthppkdbelmolbaaDoorW.PrintLast Go.Proofs.YthppkdbelmolbaaDoor.Q Go.Proofs.YthppkdbelmolbaaDoor.Cal Go.Proofs.YthppkdbelmolbaaDoor.FunA
theorem fFloor (a b : Int) (hb : 2 ≤ b) (hb' : b ≤ 4611686018427387904) (ha : I64 a) : trystref01_Floor.f a b = some (a / b) := by
  have hd := div_bd a b hb ha
  have hq := quo a b (by omega)
  have h1 := Int.emod_nonneg a (show b ≠ 0 by omega)
  have h2 := Int.emod_lt_of_pos a (show 0 < b by omega)
  have h3 := Int.emod_def a b
  have h4 : (a / b + 1) * b = b * (a / b) + b := by rw [Int.add_mul, Int.one_mul, Int.mul_comm]
  have h5 : (a / b) * b = b * (a / b) := Int.mul_comm _ _
  obtain ⟨ha, ha'⟩ := ha
  unfold trystref01_Floor.f
  rw [if_neg (by omega), hq]
  by_cases h : 0 ≤ a ∨ a % b = 0
  · rw [if_pos h, w64 (x := a / b) (by omega) (by omega), h5, w64 (by omega) (by omega), if_neg (by omega)]
  · rw [if_neg h, w64 (x := a / b + 1) (by omega) (by omega), h4, w64 (x := b * (a / b) + b) (by omega) (by omega), if_pos (by omega), w64 (by omega) (by omega)]
    congr 1; omega
theorem fMod (a b : Int) (hb : 2 ≤ b) (hb' : b ≤ 4611686018427387904) (ha : I64 a) : trystref01_Mod.f a b = some (a % b) := by
  unfold trystref01_Mod.f
  have h1 := Int.emod_nonneg a (show b ≠ 0 by omega)
  have h2 := Int.emod_lt_of_pos a (show 0 < b by omega)
  rw [fFloor a b hb hb' ha, Option.bind_some, wrap_sub, ← Int.emod_def, w64 (by omega) (by omega)]
theorem fLeap (y : Int) (hy : I64 y) : trystref01_Leap.f y = some (decide (lp y = 1)) := by
  unfold trystref01_Leap.f
  rw [fMod y 4 (by omega) (by omega) hy, fMod y 400 (by omega) (by omega) hy]
  simp only [Option.bind_some]
  unfold lp
  by_cases a : y % 4 = 0
  · rw [if_pos a, if_pos a]
    by_cases b : y % 100 = 0
    · by_cases c : y % 400 = 0
      · rw [if_neg (by omega), if_neg (by omega), if_pos b, if_pos c]; simp; omega
      · rw [if_pos b, if_neg c]
        by_cases d : y % 400 = 100
        · rw [if_pos d]; simp
        · rw [if_neg d]
          by_cases e : y % 400 = 200
          · rw [if_pos e]; simp
          · rw [if_neg e]; simp; omega
    · rw [if_neg (by omega), if_neg (by omega), if_neg b]; simp; omega
  · rw [if_neg a, if_neg a]; simp
theorem fGreg (k : Nat) (hk : 1 ≤ k) (y m d : Int) (h : -40000 ≤ y) (h' : y ≤ 40000) (hm : 1 ≤ m) (hm' : m ≤ 100) (hd : -100000 ≤ d) (hd' : d ≤ 100000) :
    trystref01_gregorian.f k y m d = some (ah y + cum (lp y) m + d) := by
  obtain ⟨k, rfl⟩ : ∃ j, k = j + 1 := ⟨k - 1, by omega⟩
  have e : wrap64 (y - 1) = y - 1 := w64 (by omega) (by omega)
  have hl := lp_01 y
  unfold trystref01_gregorian.f
  rw [e, fFloor _ 4 (by omega) (by omega) ⟨by omega, by omega⟩, fFloor _ 100 (by omega) (by omega) ⟨by omega, by omega⟩, fFloor _ 400 (by omega) (by omega) ⟨by omega, by omega⟩]
  simp only [Option.bind_some]
  have e2 : wrap64 (Int.tdiv (wrap64 ((wrap64 (367 * m)) - 362)) 12) = (367 * m - 362) / 12 := by
    rw [w64 (x := 367 * m) (by omega) (by omega), w64 (x := 367 * m - 362) (by omega) (by omega), Int.tdiv_eq_ediv_of_nonneg (by omega), w64 (by omega) (by omega)]
  rw [e2]
  have e3 : wrap64 ((wrap64 ((wrap64 ((wrap64 ((wrap64 ((wrap64 (365 * (y - 1))) + (y - 1) / 4)) - (y - 1) / 100)) + (y - 1) / 400)) + (367 * m - 362) / 12)) + d) = ah y + (367 * m - 362) / 12 + d := by
    unfold ah wrap64; omega
  rw [e3]
  have hb := ah_bd y h h'
  by_cases c : m > 2
  · rw [if_pos c, fLeap y ⟨by omega, by omega⟩, Option.bind_some]
    simp only [trystref01_gregorian.j0]
    unfold cum
    by_cases l : lp y = 1
    · rw [decide_eq_true l, if_pos rfl, if_pos c, w64 (by omega) (by omega)]; congr 1; omega
    · rw [decide_eq_false l, if_neg (by simp), if_pos c, if_pos c, w64 (by omega) (by omega)]; congr 1; omega
  · rw [if_neg c]
    simp only [trystref01_gregorian.j0]
    unfold cum
    rw [if_neg (by simp), if_neg c, if_neg c]; congr 1; omega
theorem fWeek (s : Int) (hs : 0 ≤ s) (hs' : s ≤ 6) : ∀ (j k : Nat) (n : Int), -100000000 ≤ n → n + j ≤ 100000000 → (s - n) % 7 = j → j < k → trystref01_Week1.l0 k s n = some (n + j) := by
  intro j
  induction j with
  | zero =>
    intro k n h1 h2 h3 h4
    obtain ⟨k, rfl⟩ : ∃ m, k = m + 1 := ⟨k - 1, by omega⟩
    simp only [trystref01_Week1.l0]
    rw [fMod n 7 (by omega) (by omega) ⟨by omega, by omega⟩, Option.bind_some, if_pos (by omega)]; simp
  | succ j ih =>
    intro k n h1 h2 h3 h4
    obtain ⟨k, rfl⟩ : ∃ m, k = m + 1 := ⟨k - 1, by omega⟩
    simp only [trystref01_Week1.l0]
    rw [fMod n 7 (by omega) (by omega) ⟨by omega, by omega⟩, Option.bind_some, if_neg (by omega), w64 (by omega) (by omega), ih k (n + 1) (by omega) (by omega) (by omega) (by omega)]
    congr 1; omega
theorem fWeek1 (k : Nat) (hk : 8 ≤ k) (y s : Int) (h : -40000 ≤ y) (h' : y ≤ 40000) (hs : 0 ≤ s) (hs' : s ≤ 6) : trystref01_Week1.f k y s = some (wk y s) := by
  have hb := ah_bd y h h'
  unfold trystref01_Week1.f
  rw [fGreg k (by omega) y 1 1 h h' (by omega) (by omega) (by omega) (by omega), Option.bind_some, cum_one, w64 (by omega) (by omega)]
  have e : ah y + 0 + 1 - 3 = ah y - 2 := by omega
  rw [e, fWeek s hs hs' ((s - (ah y - 2)) % 7).toNat k (ah y - 2) (by omega) (by omega) (by omega) (by omega)]
  unfold wk; congr 1; omega
theorem jb_bd (y : Int) (h : -40000 ≤ y) (h' : y ≤ 40000) : -15000000 ≤ jb y ∧ jb y ≤ 15000000 := by unfold jb; omega
theorem cb_bd (y : Int) (h : -40000 ≤ y) (h' : y ≤ 40000) : -15000000 ≤ cb y ∧ cb y ≤ 15000000 := by unfold cb; omega
theorem fJul (k : Nat) (hk : 1 ≤ k) (y m d : Int) (h : -40000 ≤ y) (h' : y ≤ 40000) (hm : 1 ≤ m) (hm' : m ≤ 100) (hd : -100000 ≤ d) (hd' : d ≤ 100000) :
    trystref01_julian.f k y m d = some (jb y + cum (lj y) m + d) := by
  obtain ⟨k, rfl⟩ : ∃ j, k = j + 1 := ⟨k - 1, by omega⟩
  have e : wrap64 (y - 1) = y - 1 := w64 (by omega) (by omega)
  unfold trystref01_julian.f
  rw [e, fFloor _ 4 (by omega) (by omega) ⟨by omega, by omega⟩]
  simp only [Option.bind_some]
  have e2 : wrap64 (Int.tdiv (wrap64 ((wrap64 (367 * m)) - 362)) 12) = (367 * m - 362) / 12 := by
    rw [w64 (x := 367 * m) (by omega) (by omega), w64 (x := 367 * m - 362) (by omega) (by omega), Int.tdiv_eq_ediv_of_nonneg (by omega), w64 (by omega) (by omega)]
  rw [e2]
  have e3 : wrap64 ((wrap64 ((wrap64 ((wrap64 ((-2) + (wrap64 (365 * (y - 1))))) + (y - 1) / 4)) + (367 * m - 362) / 12)) + d) = jb y + (367 * m - 362) / 12 + d := by
    unfold jb wrap64; omega
  rw [e3]
  have hb := jb_bd y h h'
  by_cases c : m > 2
  · rw [if_pos c, fMod y 4 (by omega) (by omega) ⟨by omega, by omega⟩, Option.bind_some]
    simp only [trystref01_julian.j0]
    unfold cum lj
    by_cases l : y % 4 = 0
    · rw [if_pos (by simp [l]), if_pos c, if_pos l, w64 (by omega) (by omega)]; congr 1; omega
    · rw [if_neg (by simp [l]), if_pos c, if_pos c, if_neg l, w64 (by omega) (by omega)]; congr 1; omega
  · rw [if_neg c]
    simp only [trystref01_julian.j0]
    unfold cum
    rw [if_neg (by simp), if_neg c, if_neg c]; congr 1; omega
theorem fCop (y m d : Int) (h : -40000 ≤ y) (h' : y ≤ 40000) (hm : 1 ≤ m) (hm' : m ≤ 100) (hd : -100000 ≤ d) (hd' : d ≤ 100000) :
    trystref01_coptic.f y m d = some (cb y + 30 * (m - 1) + d) := by
  unfold trystref01_coptic.f
  rw [fFloor _ 4 (by omega) (by omega) ⟨by omega, by omega⟩, Option.bind_some]
  congr 1
  unfold cb wrap64; omega
/-- The day of the first of a month, less one, of the four calendars. -/
def fx (c y m : Int) : Int := if c = 0 then ah y + cum (lp y) m else if c = 1 then jb y + cum (lj y) m else if c = 2 then wk y 1 + 7 * (m - 1) - 1 else cb y + 30 * (m - 1)
def Four (c : Int) : Prop := c = 0 ∨ c = 1 ∨ c = 2 ∨ c = 6
theorem fFixed (k : Nat) (hk : 8 ≤ k) (c y m d : Int) (hc : Four c) (h : -40000 ≤ y) (h' : y ≤ 40000) (hm : 1 ≤ m) (hm' : m ≤ 100) (hd : -100000 ≤ d) (hd' : d ≤ 100000) :
    trystref01_Fixed.f k c y m d = some (fx c y m + d) := by
  unfold trystref01_Fixed.f fx
  rcases hc with rfl | rfl | rfl | rfl
  · rw [if_pos rfl, fGreg k (by omega) y m d h h' hm hm' hd hd']; rfl
  · rw [if_neg (by omega), if_pos rfl, fJul k (by omega) y m d h h' hm hm' hd hd']; rfl
  · have hb := ah_bd y h h'
    have hw := wk_bd y 1
    rw [if_neg (by omega), if_neg (by omega), if_pos rfl, fWeek1 k hk y 1 h h' (by omega) (by omega), Option.bind_some, if_neg (by omega), if_neg (by omega), if_pos rfl]
    congr 1
    unfold wrap64; omega
  · rw [if_neg (by omega), if_neg (by omega), if_neg (by omega), if_neg (by omega), if_neg (by omega), if_neg (by omega), fCop y m d h h' hm hm' hd hd']; rfl
def mths (c y : Int) : Int := if c = 2 then (wk (y + 1) 1 - wk y 1) / 7 else if c = 6 then 13 else 12
theorem wks (y s : Int) : ∃ n, (n = 52 ∨ n = 53) ∧ wk (y + 1) s - wk y s = 7 * n := by
  have h1 := wk_bd y s; have h2 := wk_bd (y + 1) s; have h3 := ah_succ y; have h4 := lp_01 y
  refine ⟨(wk (y + 1) s - wk y s) / 7, ?_, ?_⟩ <;> omega
theorem mths_bd (c y : Int) : 12 ≤ mths c y ∧ mths c y ≤ 53 := by
  obtain ⟨n, hn, h⟩ := wks y 1
  unfold mths; split
  · omega
  · split <;> omega
theorem fMonths (k : Nat) (hk : 8 ≤ k) (c y : Int) (hc : Four c) (h : -40000 ≤ y) (h' : y < 40000) : trystref01_Months.f k c y = some (mths c y) := by
  unfold trystref01_Months.f mths
  rcases hc with rfl | rfl | rfl | rfl
  · rfl
  · rfl
  · have hb := ah_bd y h (by omega); have hb' := ah_bd (y + 1) (by omega) (by omega); have hw := wk_bd y 1; have hw' := wk_bd (y + 1) 1
    rw [if_pos rfl, if_pos rfl, w64 (x := y + 1) (by omega) (by omega), fWeek1 k hk (y + 1) 1 (by omega) (by omega) (by omega) (by omega), fWeek1 k hk y 1 h (by omega) (by omega) (by omega)]
    simp only [Option.bind_some]
    rw [w64 (by omega) (by omega), fFloor _ 7 (by omega) (by omega) ⟨by omega, by omega⟩]; rfl
  · rfl
theorem fBegins (k : Nat) (hk : 8 ≤ k) (c y : Int) (hc : Four c) (h : -40000 ≤ y) (h' : y ≤ 40000) : trystref01_begins.f k c y = some (fx c y 1 + 1) := by
  unfold trystref01_begins.f
  rw [if_neg (by rcases hc with rfl | rfl | rfl | rfl <;> omega), fFixed k hk c y 1 1 hc h h' (by omega) (by omega) (by omega) (by omega)]; rfl
theorem fNext (c y : Int) (hc : Four c) (h : -40000 ≤ y) (h' : y ≤ 40000) : trystref01_next.f c y = some (y + 1) := by
  unfold trystref01_next.f
  rw [if_neg (by rcases hc with rfl | rfl | rfl | rfl <;> omega), w64 (by omega) (by omega)]
theorem fIn (day : Int) : trystref01_In.f day = some (decide (1 ≤ day) && decide (day ≤ 3652059)) := by
  unfold trystref01_In.f
  by_cases h : day ≥ 1
  · rw [if_pos h, decide_eq_true (show 1 ≤ day from h)]; rfl
  · rw [if_neg h, decide_eq_false (show ¬ 1 ≤ day from h)]; rfl
theorem fIn_yes {day : Int} (h : In day) : trystref01_In.f day = some true := by
  rw [fIn, decide_eq_true h.1, decide_eq_true h.2]; rfl
theorem fIn_no {day : Int} (h : ¬ In day) : trystref01_In.f day = some false := by
  rw [fIn]
  by_cases a : 1 ≤ day
  · rw [decide_eq_false (show ¬ day ≤ 3652059 from fun b => h ⟨a, b⟩)]; simp
  · rw [decide_eq_false a]; rfl
/-- Days of a month of the four calendars. -/
def len (c y m : Int) : Int := if c = 0 then dim (lp y) m else if c = 1 then dim (lj y) m else if m < 1 ∨ mths c y < m then 0 else if c = 2 then 7 else if m = 13 then lc y else 30
theorem fx_end (c y : Int) (hc : c = 0 ∨ c = 1) : fx c (y + 1) 1 = fx c y 13 := by
  unfold fx
  rcases hc with rfl | rfl
  · rw [if_pos rfl, if_pos rfl, cum_one, cum_end, ah_succ]; omega
  · have := jul.succ y
    rw [if_neg (by omega), if_pos rfl, if_neg (by omega), if_pos rfl, cum_one, cum_end, this]; omega
theorem fx_bd (c y m : Int) (hc : Four c) (h : -40000 ≤ y) (h' : y ≤ 40000) (hm : 1 ≤ m) (hm' : m ≤ 54) : -16000000 ≤ fx c y m ∧ fx c y m ≤ 16000000 := by
  have a := ah_bd y h h'; have b := jb_bd y h h'; have d := cb_bd y h h'; have e := wk_bd y 1
  have x : -2 ≤ cum (lp y) m ∧ cum (lp y) m ≤ 2000 := by have := lp_01 y; unfold cum; split <;> omega
  have z : -2 ≤ cum (lj y) m ∧ cum (lj y) m ≤ 2000 := by have := lj_01 y; unfold cum; split <;> omega
  unfold fx
  rcases hc with rfl | rfl | rfl | rfl
  · rw [if_pos rfl]; omega
  · rw [if_neg (by omega), if_pos rfl]; omega
  · rw [if_neg (by omega), if_neg (by omega), if_pos rfl]; omega
  · rw [if_neg (by omega), if_neg (by omega), if_neg (by omega)]; omega
theorem fLength (k : Nat) (hk : 9 ≤ k) (c y m : Int) (hc : Four c) (h : -40000 ≤ y) (h' : y < 40000) : trystref01_Length.f k c y m = some (len c y m) := by
  obtain ⟨k, rfl⟩ : ∃ j, k = j + 1 := ⟨k - 1, by omega⟩
  have hM := mths_bd c y
  have e01 : (m < 1 ∨ mths c y < m) → len c y m = 0 := by
    intro z
    unfold len
    unfold mths at z hM
    rcases hc with rfl | rfl | rfl | rfl
    · rw [if_pos rfl]; exact dim_none _ _ (by simp at z; omega)
    · rw [if_neg (by omega), if_pos rfl]; exact dim_none _ _ (by simp at z; omega)
    · rw [if_neg (by omega), if_neg (by omega), if_pos (by unfold mths; exact z)]
    · rw [if_neg (by omega), if_neg (by omega), if_pos (by unfold mths; exact z)]
  unfold trystref01_Length.f
  by_cases m1 : m < 1
  · rw [if_pos m1, e01 (Or.inl m1)]; simp only [trystref01_Length.j0, if_true]
  rw [if_neg m1, fMonths (k + 1) (by omega) c y hc h h', Option.bind_some]
  by_cases m2 : mths c y < m
  · rw [decide_eq_true m2, e01 (Or.inr m2)]; simp only [trystref01_Length.j0, if_true]
  rw [decide_eq_false m2]
  simp only [trystref01_Length.j0]
  rw [if_neg (by simp)]
  have n3 : ¬ c = 3 := by rcases hc with rfl | rfl | rfl | rfl <;> omega
  by_cases c2 : c = 2
  · subst c2
    rw [if_pos rfl]; unfold len
    rw [if_neg (by omega), if_neg (by omega), if_neg (by omega), if_pos rfl]
  rw [if_neg c2, if_neg n3, fMonths k (by omega) c y hc h h', Option.bind_some]
  have b1 := fx_bd c y m hc h (by omega) (by omega) (by omega)
  have b2 := fx_bd c y (m + 1) hc h (by omega) (by omega) (by omega)
  have b3 := fx_bd c (y + 1) 1 hc (by omega) (by omega) (by omega) (by omega)
  have key : (m < mths c y → fx c y (m + 1) - fx c y m = len c y m) ∧ (m = mths c y → fx c (y + 1) 1 - fx c y m = len c y m) := by
    rcases hc with rfl | rfl | rfl | rfl
    · have s := cum_succ (lp y) m (by omega) (by simp [mths] at m2; omega)
      have q := fx_end 0 y (Or.inl rfl)
      constructor
      · intro _; simp only [fx, len, if_true]; omega
      · intro hm; simp only [mths] at hm; simp at hm; subst hm; rw [q]; simp only [fx, len, if_true]; simp at s; omega
    · have s := cum_succ (lj y) m (by omega) (by simp [mths] at m2; omega)
      have q := fx_end 1 y (Or.inr rfl)
      constructor
      · intro _; simp [fx, len]; omega
      · intro hm; simp only [mths] at hm; simp at hm; subst hm; rw [q]; simp [fx, len]; simp at s; omega
    · omega
    · have s := cb_succ y
      have eM : mths 6 y = 13 := by simp [mths]
      rw [eM] at m2
      constructor
      · intro hm; rw [eM] at hm; simp [fx, len, eM]; rw [if_neg (by omega), if_neg (by omega)]; omega
      · intro hm; rw [eM] at hm; subst hm; simp [fx, len, eM]; omega
  by_cases m3 : m < mths c y
  · rw [if_pos m3, w64 (x := m + 1) (by omega) (by omega), fFixed k (by omega) c y (m + 1) 1 hc h (by omega) (by omega) (by omega) (by omega) (by omega), fFixed k (by omega) c y m 1 hc h (by omega) (by omega) (by omega) (by omega) (by omega)]
    simp only [Option.bind_some]
    rw [w64 (by omega) (by omega)]; congr 1; have := key.1 m3; omega
  · rw [if_neg m3, fNext c y hc h (by omega), Option.bind_some, fBegins k (by omega) c (y + 1) hc (by omega) (by omega), fFixed k (by omega) c y m 1 hc h (by omega) (by omega) (by omega) (by omega) (by omega)]
    simp only [Option.bind_some]
    rw [w64 (by omega) (by omega)]; congr 1; have := key.2 (by omega); omega
end Go.Proofs.YthppkdbelmolbaaDoor.FunB
/- What the reference's Date tells: the date of a day in the Gregorian (0), Julian (1), ISO (2) and Coptic (6) calendar. -/
namespace Go.Proofs.YthppkdbelmolbaaDoor.FunD
open Go.RowKit Go.Proofs.YthppkdbelmolbaaDoorW.PrintWords Go.Proofs.YthppkdbelmolbaaDoorW.PrintLast Go.Proofs.YthppkdbelmolbaaDoor.Q Go.Proofs.YthppkdbelmolbaaDoor.Cal Go.Proofs.YthppkdbelmolbaaDoor.FunA Go.Proofs.YthppkdbelmolbaaDoor.FunB
end Go.Proofs.YthppkdbelmolbaaDoor.FunD
/- What the reference writes of numbers and seconds: the same bytes as clock.Format. -/
namespace Go.Proofs.YthppkdbelmolbaaDoor.FunN
open Go.RowKit Go.Proofs.YthppkdbelmolbaaDoorW.PrintWords Go.Proofs.YthppkdbelmolbaaDoorW.PrintLast Go.Proofs.YthppkdbelmolbaaDoor.Q Go.Proofs.YthppkdbelmolbaaDoor.Cal Go.Proofs.YthppkdbelmolbaaDoor.FunA Go.Proofs.YthppkdbelmolbaaDoor.FunB Go.Proofs.YthppkdbelmolbaaDoor.FunC Go.Proofs.YthppkdbelmolbaaDoor.FunD Go.Proofs.YthppkdbelmolbaaDoor.Fmt Go.Proofs.YthppkdbelmolbaaDoor.Awake7 Go.Proofs.YthppkdbelmolbaaDoor.FunQ
set_option linter.unusedVariables false
set_option linter.unusedSimpArgs false
end Go.Proofs.YthppkdbelmolbaaDoor.FunN
/- What clock.number, ParseDate and Parse answer to bytes: just the dates and times that are written so are read. -/
namespace Go.Proofs.YthppkdbelmolbaaDoor.FunP
open Go.RowKit Go.Proofs.YthppkdbelmolbaaDoorW.PrintWords Go.Proofs.YthppkdbelmolbaaDoorW.PrintLast Go.Proofs.YthppkdbelmolbaaDoor.Q Go.Proofs.YthppkdbelmolbaaDoor.Cal Go.Proofs.YthppkdbelmolbaaDoor.FunA Go.Proofs.YthppkdbelmolbaaDoor.FunB Go.Proofs.YthppkdbelmolbaaDoor.FunC Go.Proofs.YthppkdbelmolbaaDoor.FunD Go.Proofs.YthppkdbelmolbaaDoor.Fmt Go.Proofs.YthppkdbelmolbaaDoor.Awake7 Go.Proofs.YthppkdbelmolbaaDoor.FunQ Go.Proofs.YthppkdbelmolbaaDoor.FunN
set_option linter.unusedVariables false
set_option linter.unusedSimpArgs false
theorem ex (l : List UInt8) (i j : Nat) : (⟨l.toArray⟩ : ByteArray).extract i j = ⟨((l.take j).drop i).toArray⟩ := by
  apply ByteArray.ext
  rw [ByteArray.data_extract]
  simp [List.extract_toArray, List.extract_eq_take_drop, List.drop_take]
theorem btl (l : List UInt8) (i : Nat) (h : i < l.length) : bt ⟨l.toArray⟩ (i : Int) = ((l[i].toNat : Nat) : Int) := by
  unfold bt
  rw [dif_pos (show ((i : Int).toNat) < (⟨l.toArray⟩ : ByteArray).size by simpa [ByteArray.size] using h)]
  rfl
theorem sz (l : List UInt8) : (⟨l.toArray⟩ : ByteArray).size = l.length := by simp [ByteArray.size]
def Dig (b : UInt8) : Prop := 48 ≤ b.toNat ∧ b.toNat ≤ 57
instance (b : UInt8) : Decidable (Dig b) := by unfold Dig; infer_instance
instance (y m d : Int) : Decidable (Right y m d) := by unfold Right; infer_instance
theorem rDay_some (k : Nat) (hk : 16 ≤ k) (y m d : Int) : ∃ r, rata_Day.f k y m d = some r := by
  by_cases c : Right y m d
  · exact ⟨_, rDay_yes k hk y m d c⟩
  · exact ⟨_, rDay_no k (by omega) y m d c⟩
def dv (b : UInt8) : Int := (b.toNat : Int) - 48
theorem nst (k : Nat) (s : ByteArray) (acc n i : Int) (b : UInt8) (h : i < n) (h0 : 0 ≤ i) (hn : n = s.size) (hb : bt s i = ((b.toNat : Nat) : Int)) (ha : 0 ≤ acc) (ha' : acc ≤ 1000000) (hn' : n ≤ 1000) :
    clock_number.l0 (k + 1) s acc n i = if Dig b then clock_number.l0 k s (10 * acc + dv b) n (i + 1) else some (0, false) := by
  simp only [clock_number.l0]
  rw [if_pos h, if_pos h0, if_pos (hn ▸ h), hb]
  by_cases c : Dig b
  · obtain ⟨c1, c2⟩ := c
    rw [if_neg (by omega), if_neg (by omega), if_pos (show Dig b from ⟨c1, c2⟩)]
    have e : (((b.toNat : Nat) : Int) - 48) % 256 = dv b := by unfold dv; omega
    have d0 : 0 ≤ dv b ∧ dv b ≤ 9 := by unfold dv; omega
    rw [e, w64 (x := 10 * acc) (by omega) (by omega), w64 (by omega) (by omega), w64 (by omega) (by omega)]
  · rw [if_neg c]
    unfold Dig at c
    by_cases c1 : ((b.toNat : Nat) : Int) < 48
    · rw [if_pos c1]
    · rw [if_neg c1, if_pos (by omega)]
theorem nen (k : Nat) (s : ByteArray) (acc n : Int) : clock_number.l0 (k + 1) s acc n n = some (acc, true) := by
  simp only [clock_number.l0]
  rw [if_neg (by omega)]
theorem dv_bd {b : UInt8} (h : Dig b) : 0 ≤ dv b ∧ dv b ≤ 9 := by obtain ⟨h1, h2⟩ := h; unfold dv; omega
theorem num2 (k : Nat) (hk : 10 ≤ k) (a b : UInt8) : clock_number.f k ⟨[a, b].toArray⟩ = some (if Dig a ∧ Dig b then (10 * dv a + dv b, true) else (0, false)) := by
  obtain ⟨k, rfl⟩ : ∃ j, k = j + 9 := ⟨k - 9, by omega⟩
  unfold clock_number.f
  rw [sz]
  rw [nst (k + 8) _ 0 _ 0 a (by simp) (by omega) (by rw [sz]) (btl [a, b] 0 (by simp)) (by omega) (by omega) (by simp)]
  by_cases ca : Dig a
  · have da := dv_bd ca
    rw [if_pos ca, nst (k + 7) _ _ _ (0 + 1) b (by simp) (by omega) (by rw [sz]) (btl [a, b] 1 (by simp)) (by omega) (by omega) (by simp)]
    by_cases cb : Dig b
    · rw [if_pos cb, if_pos ⟨ca, cb⟩]
      have e := nen (k + 6) ⟨[a, b].toArray⟩ (10 * (10 * 0 + dv a) + dv b) 2
      have e2 : 10 * (10 * 0 + dv a) + dv b = 10 * dv a + dv b := by omega
      rw [e2] at e ⊢
      exact e
    · rw [if_neg cb, if_neg (fun h => cb h.2)]
  · rw [if_neg ca, if_neg (fun h => ca h.1)]
theorem num4 (k : Nat) (hk : 10 ≤ k) (a b c d : UInt8) : clock_number.f k ⟨[a, b, c, d].toArray⟩ = some (if Dig a ∧ Dig b ∧ Dig c ∧ Dig d then (1000 * dv a + 100 * dv b + 10 * dv c + dv d, true) else (0, false)) := by
  obtain ⟨k, rfl⟩ : ∃ j, k = j + 9 := ⟨k - 9, by omega⟩
  unfold clock_number.f
  rw [sz]
  rw [nst (k + 8) _ 0 _ 0 a (by simp) (by omega) (by rw [sz]) (btl [a, b, c, d] 0 (by simp)) (by omega) (by omega) (by simp)]
  by_cases ca : Dig a
  · have da := dv_bd ca
    rw [if_pos ca, nst (k + 7) _ _ _ (0 + 1) b (by simp) (by omega) (by rw [sz]) (btl [a, b, c, d] 1 (by simp)) (by omega) (by omega) (by simp)]
    by_cases cb : Dig b
    · have dB := dv_bd cb
      rw [if_pos cb, nst (k + 6) _ _ _ (0 + 1 + 1) c (by simp) (by omega) (by rw [sz]) (btl [a, b, c, d] 2 (by simp)) (by omega) (by omega) (by simp)]
      by_cases cc : Dig c
      · have dc := dv_bd cc
        rw [if_pos cc, nst (k + 5) _ _ _ (0 + 1 + 1 + 1) d (by simp) (by omega) (by rw [sz]) (btl [a, b, c, d] 3 (by simp)) (by omega) (by omega) (by simp)]
        by_cases cd : Dig d
        · rw [if_pos cd, if_pos ⟨ca, cb, cc, cd⟩]
          have e := nen (k + 4) ⟨[a, b, c, d].toArray⟩ (10 * (10 * (10 * (10 * 0 + dv a) + dv b) + dv c) + dv d) 4
          have e2 : 10 * (10 * (10 * (10 * 0 + dv a) + dv b) + dv c) + dv d = 1000 * dv a + 100 * dv b + 10 * dv c + dv d := by omega
          rw [e2] at e ⊢
          exact e
        · rw [if_neg cd, if_neg (fun h => cd h.2.2.2)]
      · rw [if_neg cc, if_neg (fun h => cc h.2.2.1)]
    · rw [if_neg cb, if_neg (fun h => cb h.2.1)]
  · rw [if_neg ca, if_neg (fun h => ca h.1)]
/-- Eight bytes read as a day. -/
theorem pd8 (k : Nat) (hk : 40 ≤ k) (b0 b1 b2 b3 b4 b5 b6 b7 : UInt8) :
    clock_ParseDate.f k ⟨[b0, b1, b2, b3, b4, b5, b6, b7].toArray⟩ = if (Dig b0 ∧ Dig b1 ∧ Dig b2 ∧ Dig b3) ∧ (Dig b4 ∧ Dig b5) ∧ (Dig b6 ∧ Dig b7) ∧ Right (1000 * dv b0 + 100 * dv b1 + 10 * dv b2 + dv b3) (10 * dv b4 + dv b5) (10 * dv b6 + dv b7) then
      some (ah (1000 * dv b0 + 100 * dv b1 + 10 * dv b2 + dv b3) + cum (lp (1000 * dv b0 + 100 * dv b1 + 10 * dv b2 + dv b3)) (10 * dv b4 + dv b5) + (10 * dv b6 + dv b7), 0) else some (0, 7) := by
  unfold clock_ParseDate.f
  simp only [sz, ex, List.length_cons, List.length_nil, List.take_succ_cons, List.take_zero, List.drop_succ_cons, List.drop_zero, Nat.reduceAdd, num2 k (by omega), num4 k (by omega), Option.bind_some]
  rw [if_pos (by omega), if_pos (by omega), if_pos (by omega), if_pos (by omega), if_pos (by omega)]
  by_cases c1 : Dig b0 ∧ Dig b1 ∧ Dig b2 ∧ Dig b3
  · rw [if_pos c1]
    by_cases c2 : Dig b4 ∧ Dig b5
    · rw [if_pos c2]
      by_cases c3 : Dig b6 ∧ Dig b7
      · rw [if_pos c3]
        by_cases c4 : Right (1000 * dv b0 + 100 * dv b1 + 10 * dv b2 + dv b3) (10 * dv b4 + dv b5) (10 * dv b6 + dv b7)
        · rw [if_pos ⟨c1, c2, c3, c4⟩]
          simp only [rDay_yes k (by omega) _ _ _ c4, Option.bind_some, if_true]
        · rw [if_neg (fun h => c4 h.2.2.2)]
          simp only [rDay_no k (by omega) _ _ _ c4, Option.bind_some, if_true]
          simp
      · rw [if_neg (show ¬ ((Dig b0 ∧ Dig b1 ∧ Dig b2 ∧ Dig b3) ∧ (Dig b4 ∧ Dig b5) ∧ (Dig b6 ∧ Dig b7) ∧ Right (1000 * dv b0 + 100 * dv b1 + 10 * dv b2 + dv b3) (10 * dv b4 + dv b5) (10 * dv b6 + dv b7)) from fun h => c3 h.2.2.1), if_neg c3]
        obtain ⟨r, e⟩ := rDay_some k (by omega) (1000 * dv b0 + 100 * dv b1 + 10 * dv b2 + dv b3) (10 * dv b4 + dv b5) 0
        simp [e]
    · rw [if_neg (show ¬ ((Dig b0 ∧ Dig b1 ∧ Dig b2 ∧ Dig b3) ∧ (Dig b4 ∧ Dig b5) ∧ (Dig b6 ∧ Dig b7) ∧ Right (1000 * dv b0 + 100 * dv b1 + 10 * dv b2 + dv b3) (10 * dv b4 + dv b5) (10 * dv b6 + dv b7)) from fun h => c2 h.2.1), if_neg c2]
      simp only []
      obtain ⟨r, e⟩ := rDay_some k (by omega) (1000 * dv b0 + 100 * dv b1 + 10 * dv b2 + dv b3) 0 (if Dig b6 ∧ Dig b7 then (10 * dv b6 + dv b7, true) else (0, false)).1
      simp [e]
  · rw [if_neg (show ¬ ((Dig b0 ∧ Dig b1 ∧ Dig b2 ∧ Dig b3) ∧ (Dig b4 ∧ Dig b5) ∧ (Dig b6 ∧ Dig b7) ∧ Right (1000 * dv b0 + 100 * dv b1 + 10 * dv b2 + dv b3) (10 * dv b4 + dv b5) (10 * dv b6 + dv b7)) from fun h => c1 h.1), if_neg c1]
    obtain ⟨r, e⟩ := rDay_some k (by omega) 0 (if Dig b4 ∧ Dig b5 then (10 * dv b4 + dv b5, true) else (0, false)).1 (if Dig b6 ∧ Dig b7 then (10 * dv b6 + dv b7, true) else (0, false)).1
    simp [e]
theorem list8 (l : List UInt8) (h : l.length = 8) : ∃ b0 b1 b2 b3 b4 b5 b6 b7, l = [b0, b1, b2, b3, b4, b5, b6, b7] := by
  match l, h with
  | [b0, b1, b2, b3, b4, b5, b6, b7], _ => exact ⟨b0, b1, b2, b3, b4, b5, b6, b7, rfl⟩
theorem list15 (l : List UInt8) (h : l.length = 15) : ∃ b0 b1 b2 b3 b4 b5 b6 b7 b8 b9 b10 b11 b12 b13 b14, l = [b0, b1, b2, b3, b4, b5, b6, b7, b8, b9, b10, b11, b12, b13, b14] := by
  match l, h with
  | [b0, b1, b2, b3, b4, b5, b6, b7, b8, b9, b10, b11, b12, b13, b14], _ => exact ⟨b0, b1, b2, b3, b4, b5, b6, b7, b8, b9, b10, b11, b12, b13, b14, rfl⟩
theorem ofL (s : ByteArray) : s = ⟨s.data.toList.toArray⟩ := by cases s; simp
/-- Fifteen bytes read as seconds: what stands of the time. -/
theorem pj (k : Nat) (hk : 40 ≤ k) (b0 b1 b2 b3 b4 b5 b6 b7 b8 b9 b10 b11 b12 b13 b14 : UInt8) (n e : Int) (hp : clock_ParseDate.f k ⟨[b0, b1, b2, b3, b4, b5, b6, b7].toArray⟩ = some (n, e)) (hn : e = 0 → In n) :
    clock_Parse.j0 (k + 1) ⟨[b0, b1, b2, b3, b4, b5, b6, b7, b8, b9, b10, b11, b12, b13, b14].toArray⟩ false =
      if e = 0 ∧ (Dig b9 ∧ Dig b10) ∧ (Dig b11 ∧ Dig b12) ∧ (Dig b13 ∧ Dig b14) ∧ 10 * dv b9 + dv b10 ≤ 23 ∧ 10 * dv b11 + dv b12 ≤ 59 ∧ 10 * dv b13 + dv b14 ≤ 59 then
        some (86400 * n + (3600 * (10 * dv b9 + dv b10) + 60 * (10 * dv b11 + dv b12) + (10 * dv b13 + dv b14)), 0) else some (0, 7) := by
  simp only [clock_Parse.j0]
  simp only [sz, ex, List.length_cons, List.length_nil, List.take_succ_cons, List.take_zero, List.drop_succ_cons, List.drop_zero, Nat.reduceAdd, num2 k (by omega), hp, Option.bind_some]
  rw [if_neg (by simp), if_pos (by omega), if_pos (by omega), if_pos (by omega), if_pos (by omega), if_pos (by omega), if_pos (by omega)]
  by_cases c0 : e = 0
  · rw [if_pos c0]
    by_cases c1 : Dig b9 ∧ Dig b10
    · by_cases c2 : Dig b11 ∧ Dig b12
      · by_cases c3 : Dig b13 ∧ Dig b14
        · have a1 := dv_bd c1.1; have a2 := dv_bd c1.2; have a3 := dv_bd c2.1; have a4 := dv_bd c2.2; have a5 := dv_bd c3.1; have a6 := dv_bd c3.2
          rw [if_pos c1, if_pos c2, if_pos c3]
          simp only [if_true]
          by_cases c4 : 10 * dv b9 + dv b10 ≤ 23
          · rw [if_neg (by omega)]
            by_cases c5 : 10 * dv b11 + dv b12 ≤ 59
            · rw [if_neg (by omega)]
              by_cases c6 : 10 * dv b13 + dv b14 ≤ 59
              · rw [if_neg (by omega), if_pos ⟨c0, c1, c2, c3, c4, c5, c6⟩, w64 (x := 3600 * _) (by omega) (by omega), w64 (x := 60 * _) (by omega) (by omega), w64 (x := 3600 * (10 * dv b9 + dv b10) + 60 * (10 * dv b11 + dv b12)) (by omega) (by omega), w64 (by omega) (by omega), cAt_yes (hn c0) (by omega) (by omega), Option.bind_some]
              · rw [if_pos (by omega), if_neg (fun h => c6 h.2.2.2.2.2.2)]
            · rw [if_pos (by omega), if_neg (fun h => c5 h.2.2.2.2.2.1)]
          · rw [if_pos (by omega), if_neg (fun h => c4 h.2.2.2.2.1)]
        · rw [if_neg (fun h => c3 h.2.2.2.1 : ¬ (e = 0 ∧ (Dig b9 ∧ Dig b10) ∧ (Dig b11 ∧ Dig b12) ∧ (Dig b13 ∧ Dig b14) ∧ 10 * dv b9 + dv b10 ≤ 23 ∧ 10 * dv b11 + dv b12 ≤ 59 ∧ 10 * dv b13 + dv b14 ≤ 59)), if_neg c3]
          simp
      · rw [if_neg (fun h => c2 h.2.2.1 : ¬ (e = 0 ∧ (Dig b9 ∧ Dig b10) ∧ (Dig b11 ∧ Dig b12) ∧ (Dig b13 ∧ Dig b14) ∧ 10 * dv b9 + dv b10 ≤ 23 ∧ 10 * dv b11 + dv b12 ≤ 59 ∧ 10 * dv b13 + dv b14 ≤ 59)), if_neg c2]
        simp
    · rw [if_neg (fun h => c1 h.2.1 : ¬ (e = 0 ∧ (Dig b9 ∧ Dig b10) ∧ (Dig b11 ∧ Dig b12) ∧ (Dig b13 ∧ Dig b14) ∧ 10 * dv b9 + dv b10 ≤ 23 ∧ 10 * dv b11 + dv b12 ≤ 59 ∧ 10 * dv b13 + dv b14 ≤ 59)), if_neg c1]
      simp
  · rw [if_neg c0, if_neg (fun h => c0 h.1)]
theorem jno (k : Nat) (s : ByteArray) : clock_Parse.j0 (k + 1) s true = some (0, 7) := by
  simp only [clock_Parse.j0]
  rfl
end Go.Proofs.YthppkdbelmolbaaDoor.FunP
/- What the reference's Day tells: the day of a date of the Gregorian (0), Julian (1), ISO (2) and Coptic (6) calendar, or an error. -/
namespace Go.Proofs.YthppkdbelmolbaaDoor.FunE
open Go.RowKit Go.Proofs.YthppkdbelmolbaaDoorW.PrintWords Go.Proofs.YthppkdbelmolbaaDoorW.PrintLast Go.Proofs.YthppkdbelmolbaaDoor.Q Go.Proofs.YthppkdbelmolbaaDoor.Cal Go.Proofs.YthppkdbelmolbaaDoor.FunA Go.Proofs.YthppkdbelmolbaaDoor.FunB
/-- The reference's Day, of the four calendars. -/
theorem fDay_no (k : Nat) (hk : 9 ≤ k) (c y m d a b : Int) (hc : Four c) (hy : trystref01_years.f c = some (a, b)) (ha : -40000 ≤ a) (hb : b < 40000) (h : ¬ (a ≤ y ∧ y ≤ b ∧ 1 ≤ d ∧ d ≤ len c y m)) : trystref01_Day.f k c y m d = some (0, 2) := by
  unfold trystref01_Day.f
  rw [hy, Option.bind_some]
  by_cases e : y < a ∨ b < y ∨ (c = 5 ∧ y = 0) ∨ d < 1
  · rw [if_pos e]
  · rw [if_neg e, fLength k hk c y m hc (by omega) (by omega), Option.bind_some, if_pos (by omega)]
theorem fDay_yes (k : Nat) (hk : 9 ≤ k) (c y m d a b : Int) (hc : Four c) (hy : trystref01_years.f c = some (a, b)) (ha : -40000 ≤ a) (hb : b < 40000) (h : a ≤ y ∧ y ≤ b ∧ 1 ≤ d ∧ d ≤ len c y m) (hm : 1 ≤ m ∧ m ≤ 100) (hd : d ≤ 1000) : trystref01_Day.f k c y m d = some (if 1 ≤ fx c y m + d ∧ fx c y m + d ≤ 3652059 then (fx c y m + d, 0) else (0, 2)) := by
  unfold trystref01_Day.f
  have n5 : ¬ c = 5 := by rcases hc with rfl | rfl | rfl | rfl <;> omega
  rw [hy, Option.bind_some, if_neg (by omega), fLength k hk c y m hc (by omega) (by omega), Option.bind_some, if_neg (by omega), fFixed k (by omega) c y m d hc (by omega) (by omega) hm.1 hm.2 (by omega) (by omega), Option.bind_some]
  by_cases e : 1 ≤ fx c y m + d ∧ fx c y m + d ≤ 3652059
  · rw [fIn_yes e, Option.bind_some, if_pos rfl, if_pos e]
  · rw [fIn_no e, Option.bind_some, if_neg (by simp), if_neg e]
end Go.Proofs.YthppkdbelmolbaaDoor.FunE
/- Seconds of fifteen signs, the reference's and clock.Parse's: the same answer. -/
namespace Go.Proofs.YthppkdbelmolbaaDoor.Secs
open Go.RowKit Go.Proofs.YthppkdbelmolbaaDoorW.PrintWords Go.Proofs.YthppkdbelmolbaaDoorW.PrintLast Go.Proofs.YthppkdbelmolbaaDoor.Q Go.Proofs.YthppkdbelmolbaaDoor.Cal Go.Proofs.YthppkdbelmolbaaDoor.FunA Go.Proofs.YthppkdbelmolbaaDoor.FunB Go.Proofs.YthppkdbelmolbaaDoor.FunC Go.Proofs.YthppkdbelmolbaaDoor.FunE Go.Proofs.YthppkdbelmolbaaDoor.Fmt Go.Proofs.YthppkdbelmolbaaDoor.Awake7 Go.Proofs.YthppkdbelmolbaaDoor.FunQ Go.Proofs.YthppkdbelmolbaaDoor.FunP
set_option linter.unusedVariables false
set_option linter.unusedSimpArgs false
theorem tl (l : List UInt8) : (⟨l.toArray⟩ : ByteArray).toList = l := by rw [ByteArray.toList_eq]
theorem rst (k : Nat) (s : ByteArray) (acc n i : Int) (b : UInt8) (h : i < n) (h0 : 0 ≤ i) (hn : n = s.size) (hb : bt s i = ((b.toNat : Nat) : Int)) (ha : 0 ≤ acc) (ha' : acc ≤ 1000000) (hn' : n ≤ 1000) :
    trystref12_Digits.l0 (k + 1) s acc n i = if Dig b then trystref12_Digits.l0 k s (10 * acc + dv b) n (i + 1) else some (-1) := by
  simp only [trystref12_Digits.l0]
  rw [if_pos h, if_pos h0, if_pos (hn ▸ h), hb]
  by_cases c : Dig b
  · obtain ⟨c1, c2⟩ := c
    rw [if_neg (by omega), if_neg (by omega), if_pos (show Dig b from ⟨c1, c2⟩)]
    have e : (((b.toNat : Nat) : Int) - 48) % 256 = dv b := by unfold dv; omega
    have d0 : 0 ≤ dv b ∧ dv b ≤ 9 := by unfold dv; omega
    rw [e, w64 (x := acc * 10) (by omega) (by omega), w64 (by omega) (by omega), w64 (by omega) (by omega), show acc * 10 = 10 * acc by omega]
  · rw [if_neg c]
    unfold Dig at c
    by_cases c1 : ((b.toNat : Nat) : Int) < 48
    · rw [if_pos c1]
    · rw [if_neg c1, if_pos (by omega)]
theorem rend (k : Nat) (l : List UInt8) (acc n : Int) (h : l ≠ []) : trystref12_Digits.l0 (k + 1) ⟨l.toArray⟩ acc n n = some acc := by
  simp only [trystref12_Digits.l0]
  rw [if_neg (by omega), tl, if_neg h]
theorem rd2 (k : Nat) (hk : 10 ≤ k) (a b : UInt8) : trystref12_Digits.f k ⟨[a, b].toArray⟩ = some (if Dig a ∧ Dig b then 10 * dv a + dv b else -1) := by
  obtain ⟨k, rfl⟩ : ∃ j, k = j + 9 := ⟨k - 9, by omega⟩
  unfold trystref12_Digits.f
  rw [sz]
  rw [rst (k + 8) _ 0 _ 0 a (by simp) (by omega) (by rw [sz]) (btl [a, b] 0 (by simp)) (by omega) (by omega) (by simp)]
  by_cases ca : Dig a
  · have da := dv_bd ca
    rw [if_pos ca, rst (k + 7) _ _ _ (0 + 1) b (by simp) (by omega) (by rw [sz]) (btl [a, b] 1 (by simp)) (by omega) (by omega) (by simp)]
    by_cases cb : Dig b
    · rw [if_pos cb, if_pos ⟨ca, cb⟩]
      have e := rend (k + 6) [a, b] (10 * (10 * 0 + dv a) + dv b) 2 (by simp)
      have e2 : 10 * (10 * 0 + dv a) + dv b = 10 * dv a + dv b := by omega
      rw [e2] at e ⊢
      exact e
    · rw [if_neg cb, if_neg (fun h => cb h.2)]
  · rw [if_neg ca, if_neg (fun h => ca h.1)]
theorem rd4 (k : Nat) (hk : 10 ≤ k) (a b c d : UInt8) : trystref12_Digits.f k ⟨[a, b, c, d].toArray⟩ = some (if Dig a ∧ Dig b ∧ Dig c ∧ Dig d then 1000 * dv a + 100 * dv b + 10 * dv c + dv d else -1) := by
  obtain ⟨k, rfl⟩ : ∃ j, k = j + 9 := ⟨k - 9, by omega⟩
  unfold trystref12_Digits.f
  rw [sz]
  rw [rst (k + 8) _ 0 _ 0 a (by simp) (by omega) (by rw [sz]) (btl [a, b, c, d] 0 (by simp)) (by omega) (by omega) (by simp)]
  by_cases ca : Dig a
  · have da := dv_bd ca
    rw [if_pos ca, rst (k + 7) _ _ _ (0 + 1) b (by simp) (by omega) (by rw [sz]) (btl [a, b, c, d] 1 (by simp)) (by omega) (by omega) (by simp)]
    by_cases cb : Dig b
    · have dB := dv_bd cb
      rw [if_pos cb, rst (k + 6) _ _ _ (0 + 1 + 1) c (by simp) (by omega) (by rw [sz]) (btl [a, b, c, d] 2 (by simp)) (by omega) (by omega) (by simp)]
      by_cases cc : Dig c
      · have dc := dv_bd cc
        rw [if_pos cc, rst (k + 5) _ _ _ (0 + 1 + 1 + 1) d (by simp) (by omega) (by rw [sz]) (btl [a, b, c, d] 3 (by simp)) (by omega) (by omega) (by simp)]
        by_cases cd : Dig d
        · rw [if_pos cd, if_pos ⟨ca, cb, cc, cd⟩]
          have e := rend (k + 4) [a, b, c, d] (10 * (10 * (10 * (10 * 0 + dv a) + dv b) + dv c) + dv d) 4 (by simp)
          have e2 : 10 * (10 * (10 * (10 * 0 + dv a) + dv b) + dv c) + dv d = 1000 * dv a + 100 * dv b + 10 * dv c + dv d := by omega
          rw [e2] at e ⊢
          exact e
        · rw [if_neg cd, if_neg (fun h => cd h.2.2.2)]
      · rw [if_neg cc, if_neg (fun h => cc h.2.2.1)]
    · rw [if_neg cb, if_neg (fun h => cb h.2.1)]
  · rw [if_neg ca, if_neg (fun h => ca h.1)]
theorem fday_yes (k : Nat) (hk : 9 ≤ k) {y m d : Int} (h : Right y m d) : trystref01_Day.f k 0 y m d = some (ah y + cum (lp y) m + d, 0) := by
  have hi := right_in h
  have hm := dim_pos (lp y) m (by have := h.2.2; omega)
  have hd := dim_lo (lp y) m (lp_01 y) hm.1 hm.2
  obtain ⟨h1, h2, h3, h4⟩ := h
  obtain ⟨i1, i2⟩ := hi
  rw [fDay_yes k hk 0 y m d 1 9999 (Or.inl rfl) rfl (by omega) (by omega) ⟨h1, h2, h3, by simp [len]; exact h4⟩ ⟨hm.1, by omega⟩ (by omega), if_pos (by simp [fx]; omega)]
  simp [fx]
theorem fday_no (k : Nat) (hk : 9 ≤ k) {y m d : Int} (h : ¬ Right y m d) : trystref01_Day.f k 0 y m d = some (0, 2) :=
  fDay_no k hk 0 y m d 1 9999 (Or.inl rfl) rfl (by omega) (by omega) (fun z => h ⟨z.1, z.2.1, z.2.2.1, by have := z.2.2.2; simpa [len] using this⟩)
theorem sj1t (k : Nat) (a b c d e f : Int) : trystref12_seconds.j1 (k + 1) a b c d e f true = some (-1) := by simp only [trystref12_seconds.j1]; rfl
theorem sj0t (k : Nat) (s : ByteArray) : trystref12_seconds.j0 (k + 1) s true = some (-1) := by simp only [trystref12_seconds.j0]; rfl
/-- The last steps: some number is no number, or they all are. -/
theorem slast (k : Nat) (a b c d e f : Int) (g : Prop) [Decidable g] (hg : g ↔ (0 ≤ a ∧ 0 ≤ b ∧ 0 ≤ c ∧ 0 ≤ d ∧ 0 ≤ e ∧ 0 ≤ f ∧ d ≤ 23 ∧ e ≤ 59 ∧ f ≤ 59)) :
    (if a < 0 then (trystref12_seconds.j1 (k + 1) a b c d e f true) else (if b < 0 then (trystref12_seconds.j1 (k + 1) a b c d e f true) else (if c < 0 then (trystref12_seconds.j1 (k + 1) a b c d e f true) else (if d < 0 then (trystref12_seconds.j1 (k + 1) a b c d e f true) else (if e < 0 then (trystref12_seconds.j1 (k + 1) a b c d e f true) else (if f < 0 then (trystref12_seconds.j1 (k + 1) a b c d e f true) else (if d > 23 then (trystref12_seconds.j1 (k + 1) a b c d e f true) else (if e > 59 then (trystref12_seconds.j1 (k + 1) a b c d e f true) else (trystref12_seconds.j1 (k + 1) a b c d e f (decide (f > 59))))))))))) = if g then trystref12_seconds.j1 (k + 1) a b c d e f false else some (-1) := by
  by_cases c1 : g
  · rw [if_pos c1]
    obtain ⟨h1, h2, h3, h4, h5, h6, h7, h8, h9⟩ := hg.mp c1
    rw [if_neg (by omega), if_neg (by omega), if_neg (by omega), if_neg (by omega), if_neg (by omega), if_neg (by omega), if_neg (by omega), if_neg (by omega), decide_eq_false (by omega)]
  · rw [if_neg c1]
    simp only [sj1t]
    have hn := fun z => c1 (hg.mpr z)
    by_cases d9 : f > 59
    · rw [decide_eq_true d9, sj1t]
      repeat' split
      all_goals rfl
    · rw [decide_eq_false d9]
      repeat' split
      all_goals first | rfl | (exfalso; exact hn ⟨by omega, by omega, by omega, by omega, by omega, by omega, by omega, by omega, by omega⟩)
theorem secs15 (k : Nat) (hk : 50 ≤ k) (b0 b1 b2 b3 b4 b5 b6 b7 b9 b10 b11 b12 b13 b14 : UInt8) :
    (∃ n, 0 ≤ n ∧ clock_Parse.j0 (k + 1) ⟨[b0, b1, b2, b3, b4, b5, b6, b7, 84, b9, b10, b11, b12, b13, b14].toArray⟩ false = some (n, 0) ∧ trystref12_seconds.j0 (k + 2) ⟨[b0, b1, b2, b3, b4, b5, b6, b7, 84, b9, b10, b11, b12, b13, b14].toArray⟩ false = some n) ∨
    (clock_Parse.j0 (k + 1) ⟨[b0, b1, b2, b3, b4, b5, b6, b7, 84, b9, b10, b11, b12, b13, b14].toArray⟩ false = some (0, 7) ∧ trystref12_seconds.j0 (k + 2) ⟨[b0, b1, b2, b3, b4, b5, b6, b7, 84, b9, b10, b11, b12, b13, b14].toArray⟩ false = some (-1)) := by
  have hp := pd8 k (by omega) b0 b1 b2 b3 b4 b5 b6 b7
  have hs : trystref12_seconds.j0 (k + 2) ⟨[b0, b1, b2, b3, b4, b5, b6, b7, 84, b9, b10, b11, b12, b13, b14].toArray⟩ false =
      if ((Dig b0 ∧ Dig b1 ∧ Dig b2 ∧ Dig b3) ∧ (Dig b4 ∧ Dig b5) ∧ (Dig b6 ∧ Dig b7)) ∧ (Dig b9 ∧ Dig b10) ∧ (Dig b11 ∧ Dig b12) ∧ (Dig b13 ∧ Dig b14) ∧ 10 * dv b9 + dv b10 ≤ 23 ∧ 10 * dv b11 + dv b12 ≤ 59 ∧ 10 * dv b13 + dv b14 ≤ 59 then
        trystref12_seconds.j1 (k + 1) (1000 * dv b0 + 100 * dv b1 + 10 * dv b2 + dv b3) (10 * dv b4 + dv b5) (10 * dv b6 + dv b7) (10 * dv b9 + dv b10) (10 * dv b11 + dv b12) (10 * dv b13 + dv b14) false else some (-1) := by
    simp only [trystref12_seconds.j0]
    simp only [sz, ex, List.length_cons, List.length_nil, List.take_succ_cons, List.take_zero, List.drop_succ_cons, List.drop_zero, Nat.reduceAdd, rd2 (k + 1) (by omega), rd4 (k + 1) (by omega), Option.bind_some]
    rw [if_neg (by simp), if_pos (by omega), if_pos (by omega), if_pos (by omega), if_pos (by omega), if_pos (by omega), if_pos (by omega), if_pos (by omega), if_pos (by omega), if_pos (by omega), if_pos (by omega)]
    by_cases c : ((Dig b0 ∧ Dig b1 ∧ Dig b2 ∧ Dig b3) ∧ (Dig b4 ∧ Dig b5) ∧ (Dig b6 ∧ Dig b7)) ∧ (Dig b9 ∧ Dig b10) ∧ (Dig b11 ∧ Dig b12) ∧ (Dig b13 ∧ Dig b14)
    · obtain ⟨⟨c1, c2, c3⟩, c4, c5, c6⟩ := c
      have a0 := dv_bd c1.1; have a1 := dv_bd c1.2.1; have a2 := dv_bd c1.2.2.1; have a3 := dv_bd c1.2.2.2; have a4 := dv_bd c2.1; have a5 := dv_bd c2.2; have a6 := dv_bd c3.1; have a7 := dv_bd c3.2
      have a9 := dv_bd c4.1; have a10 := dv_bd c4.2; have a11 := dv_bd c5.1; have a12 := dv_bd c5.2; have a13 := dv_bd c6.1; have a14 := dv_bd c6.2
      rw [if_pos c1, if_pos c2, if_pos c3, if_pos c4, if_pos c5, if_pos c6]
      exact slast k _ _ _ _ _ _ _ ⟨fun z => ⟨by omega, by omega, by omega, by omega, by omega, by omega, z.2.2.2.2.1, z.2.2.2.2.2.1, z.2.2.2.2.2.2⟩, fun z => ⟨⟨c1, c2, c3⟩, c4, c5, c6, z.2.2.2.2.2.2.1, z.2.2.2.2.2.2.2.1, z.2.2.2.2.2.2.2.2⟩⟩
    · refine Eq.trans (slast k _ _ _ _ _ _ False ⟨False.elim, fun z => ?_⟩) ((if_neg id).trans (if_neg (fun z => c ⟨z.1, z.2.1, z.2.2.1, z.2.2.2.1⟩)).symm)
      apply c
      obtain ⟨z1, z2, z3, z4, z5, z6, _⟩ := z
      refine ⟨⟨?_, ?_, ?_⟩, ?_, ?_, ?_⟩ <;> (apply Decidable.byContradiction; intro hc)
      · rw [if_neg hc] at z1; omega
      · rw [if_neg hc] at z2; omega
      · rw [if_neg hc] at z3; omega
      · rw [if_neg hc] at z4; omega
      · rw [if_neg hc] at z5; omega
      · rw [if_neg hc] at z6; omega
  by_cases cr : ((Dig b0 ∧ Dig b1 ∧ Dig b2 ∧ Dig b3) ∧ (Dig b4 ∧ Dig b5) ∧ (Dig b6 ∧ Dig b7) ∧ Right (1000 * dv b0 + 100 * dv b1 + 10 * dv b2 + dv b3) (10 * dv b4 + dv b5) (10 * dv b6 + dv b7))
  · rw [if_pos cr] at hp
    obtain ⟨c1, c2, c3, hr⟩ := cr
    have hi := right_in hr
    rw [pj k (by omega) _ _ _ _ _ _ _ _ _ _ _ _ _ _ _ _ _ hp (fun _ => hi), hs]
    by_cases ct : (Dig b9 ∧ Dig b10) ∧ (Dig b11 ∧ Dig b12) ∧ (Dig b13 ∧ Dig b14) ∧ 10 * dv b9 + dv b10 ≤ 23 ∧ 10 * dv b11 + dv b12 ≤ 59 ∧ 10 * dv b13 + dv b14 ≤ 59
    · left
      have a9 := dv_bd ct.1.1; have a10 := dv_bd ct.1.2; have a11 := dv_bd ct.2.1.1; have a12 := dv_bd ct.2.1.2; have a13 := dv_bd ct.2.2.1.1; have a14 := dv_bd ct.2.2.1.2
      obtain ⟨i1, i2⟩ := hi
      rw [if_pos ⟨rfl, ct⟩, if_pos ⟨⟨c1, c2, c3⟩, ct⟩]
      refine ⟨_, ?_, rfl, ?_⟩
      · obtain ⟨_, _, _, t1, t2, t3⟩ := ct
        omega
      · simp only [trystref12_seconds.j1]
        rw [if_neg (by simp), fday_yes k (by omega) hr, Option.bind_some, if_pos rfl]
        obtain ⟨_, _, _, t1, t2, t3⟩ := ct
        generalize ah (1000 * dv b0 + 100 * dv b1 + 10 * dv b2 + dv b3) + cum (lp (1000 * dv b0 + 100 * dv b1 + 10 * dv b2 + dv b3)) (10 * dv b4 + dv b5) + (10 * dv b6 + dv b7) = day at i1 i2 ⊢
        rw [w64 (x := 86400 * day) (by omega) (by omega), w64 (x := 3600 * (10 * dv b9 + dv b10)) (by omega) (by omega), w64 (x := 60 * (10 * dv b11 + dv b12)) (by omega) (by omega), w64 (x := 86400 * day + 3600 * (10 * dv b9 + dv b10)) (by omega) (by omega), w64 (x := 86400 * day + 3600 * (10 * dv b9 + dv b10) + 60 * (10 * dv b11 + dv b12)) (by omega) (by omega), w64 (by omega) (by omega)]
        congr 1
        omega
    · right
      rw [if_neg (fun z => ct z.2), if_neg (fun z => ct z.2)]
      exact ⟨rfl, rfl⟩
  · rw [if_neg cr] at hp
    right
    rw [pj k (by omega) _ _ _ _ _ _ _ _ _ _ _ _ _ _ _ _ _ hp (by omega), hs, if_neg (by omega)]
    refine ⟨rfl, ?_⟩
    split
    · rename_i z
      simp only [trystref12_seconds.j1]
      rw [if_neg (by simp), fday_no k (by omega) (fun hr => cr ⟨z.1.1, z.1.2.1, z.1.2.2, hr⟩), Option.bind_some, if_neg (by simp)]
    · rfl
theorem secs (k : Nat) (hk : 60 ≤ k) (l : List UInt8) : (∃ n, 0 ≤ n ∧ clock_Parse.f k ⟨l.toArray⟩ = some (n, 0) ∧ trystref12_seconds.f (k + 1) ⟨l.toArray⟩ = some n) ∨ (clock_Parse.f k ⟨l.toArray⟩ = some (0, 7) ∧ trystref12_seconds.f (k + 1) ⟨l.toArray⟩ = some (-1)) := by
  obtain ⟨k, rfl⟩ : ∃ j, k = j + 1 := ⟨k - 1, by omega⟩
  unfold clock_Parse.f trystref12_seconds.f
  rw [sz]
  by_cases c : l.length = 15
  · obtain ⟨b0, b1, b2, b3, b4, b5, b6, b7, b8, b9, b10, b11, b12, b13, b14, rfl⟩ := list15 _ c
    have hb8 : bt ⟨[b0, b1, b2, b3, b4, b5, b6, b7, b8, b9, b10, b11, b12, b13, b14].toArray⟩ 8 = ((b8.toNat : Nat) : Int) := btl [b0, b1, b2, b3, b4, b5, b6, b7, b8, b9, b10, b11, b12, b13, b14] 8 (by simp)
    rw [hb8]
    have l15 : (([b0, b1, b2, b3, b4, b5, b6, b7, b8, b9, b10, b11, b12, b13, b14].length : Nat) : Int) = 15 := by simp
    rw [l15, if_pos rfl, if_pos (by omega), if_pos rfl, if_pos (by omega)]
    by_cases c8 : b8 = 84
    · subst c8
      exact secs15 k (by omega) ..
    · have hb : ((((b8.toNat : Nat) : Int)) != 84) = true := by
        rw [bne_iff_ne]
        intro h
        apply c8
        apply UInt8.toNat_inj.mp
        show b8.toNat = 84
        omega
      rw [hb]
      right
      exact ⟨jno k _, sj0t (k + 1) _⟩
  · have l15 : ¬ ((l.length : Nat) : Int) = 15 := by omega
    rw [if_neg l15, if_neg l15]
    right
    exact ⟨jno k _, sj0t (k + 1) _⟩
end Go.Proofs.YthppkdbelmolbaaDoor.Secs
-- written by a program of this session (wip/own_print.sh)
namespace Go.Proofs.YthppkdbelmolbaaDoor.Q
open Go.RowKit Go.Proofs.YthppkdbelmolbaaDoorW.PrintWords Go.Proofs.YthppkdbelmolbaaDoorW.PrintLast Go.Proofs.YthppkdbelmolbaaDoorW.PrintMore
attribute [local go_sem] max2_int min2_int max_two min_two max_three min_three max_four min_four   -- for this text's walks alone
set_option linter.unusedVariables false
set_option linter.unusedSimpArgs false
/-! ### value_digits: function 27 -/
/-! ### value_Number: function 10 -/
end Go.Proofs.YthppkdbelmolbaaDoor.Q
/- Bytes as lists; the digit loops of value and of the reference, side by side; CutPrefix at one byte. -/
namespace Go.Proofs.YthppkdbelmolbaaDoor.Bytes
open Go.RowKit Go.Proofs.YthppkdbelmolbaaDoorW.PrintWords Go.Proofs.YthppkdbelmolbaaDoorW.PrintLast Go.Proofs.YthppkdbelmolbaaDoor.Q Go.Proofs.YthppkdbelmolbaaDoor.Cal
set_option linter.unusedVariables false
set_option linter.unusedSimpArgs false
theorem ex (l : List UInt8) (i j : Nat) : (⟨l.toArray⟩ : ByteArray).extract i j = ⟨((l.take j).drop i).toArray⟩ := by
  apply ByteArray.ext
  rw [ByteArray.data_extract]
  simp [List.extract_toArray, List.extract_eq_take_drop, List.drop_take]
theorem btl (l : List UInt8) (i : Nat) (h : i < l.length) : bt ⟨l.toArray⟩ (i : Int) = ((l[i].toNat : Nat) : Int) := by
  unfold bt
  rw [dif_pos (show ((i : Int).toNat) < (⟨l.toArray⟩ : ByteArray).size by simpa [ByteArray.size] using h)]
  rfl
theorem sz (l : List UInt8) : (⟨l.toArray⟩ : ByteArray).size = l.length := by simp [ByteArray.size]
theorem ofL (s : ByteArray) : s = ⟨s.data.toList.toArray⟩ := by cases s; simp
theorem tl (l : List UInt8) : (⟨l.toArray⟩ : ByteArray).toList = l := by rw [ByteArray.toList_eq]
end Go.Proofs.YthppkdbelmolbaaDoor.Bytes
/- ZoneName of value and of the reference: the same answer. -/
namespace Go.Proofs.YthppkdbelmolbaaDoor.Zone
open Go.RowKit Go.Proofs.YthppkdbelmolbaaDoorW.PrintWords Go.Proofs.YthppkdbelmolbaaDoorW.PrintLast Go.Proofs.YthppkdbelmolbaaDoor.Q Go.Proofs.YthppkdbelmolbaaDoor.Cal Go.Proofs.YthppkdbelmolbaaDoor.Bytes
set_option linter.unusedVariables false
set_option linter.unusedSimpArgs false
/-- The signs of zones' names. -/
def Zc (z : Int) : Prop := (97 ≤ z ∧ z ≤ 122) ∨ (65 ≤ z ∧ z ≤ 90) ∨ (48 ≤ z ∧ z ≤ 57) ∨ z = 47 ∨ z = 95 ∨ z = 45 ∨ z = 43
instance (z : Int) : Decidable (Zc z) := by unfold Zc; infer_instance
set_option maxRecDepth 100000 in
theorem idxN : ∀ n : Fin 256, (Lib.indexByte [47, 95, 45, 43] (n.val).toUInt8 < 0) = ¬ (n.val = 47 ∨ n.val = 95 ∨ n.val = 45 ∨ n.val = 43) := by
  have h : ∀ n : Fin 256, decide (Lib.indexByte [47, 95, 45, 43] (n.val).toUInt8 < 0) = decide (¬ (n.val = 47 ∨ n.val = 95 ∨ n.val = 45 ∨ n.val = 43)) := by decide +kernel
  intro n
  have := h n
  rw [decide_eq_decide] at this
  exact propext this
theorem sep (z : Int) (h0 : 0 ≤ z) (h1 : z ≤ 255) (X : Option Bool) :
    ((strings_IndexByte.f (⟨#[47, 95, 45, 43]⟩ : ByteArray) z).bind fun t => if t < 0 then some false else X) = if z = 47 ∨ z = 95 ∨ z = 45 ∨ z = 43 then X else some false := by
  have hn := idxN ⟨z.toNat, by omega⟩
  simp only [strings_IndexByte.f, Option.bind_some]
  by_cases c : z = 47 ∨ z = 95 ∨ z = 45 ∨ z = 43
  · rw [if_pos c, if_neg]
    intro hlt
    exact (hn.mp hlt) (by simp only; omega)
  · rw [if_neg c, if_pos]
    exact hn.mpr (by simp only; omega)
set_option maxHeartbeats 4000000 in
theorem vstep (k : Nat) (s : ByteArray) (n i z : Int) (hi : i < n) (h0 : 0 ≤ i) (hn : n = s.size) (hb : bt s i = z) (z0 : 0 ≤ z) (z1 : z ≤ 255) :
    value_ZoneName.l0 (k + 1) s n i = if Zc z then value_ZoneName.l0 k s n (wrap64 (i + 1)) else some false := by
  simp only [value_ZoneName.l0, hb]
  rw [if_pos hi, if_pos h0, if_pos (hn ▸ hi)]
  simp only [sep z z0 z1]
  generalize value_ZoneName.l0 k s n (wrap64 (i + 1)) = X
  by_cases c : Zc z
  · rw [if_pos c]
    unfold Zc at c
    repeat' split
    all_goals first | rfl | (exfalso; omega)
  · rw [if_neg c]
    unfold Zc at c
    repeat' split
    all_goals first | rfl | (exfalso; omega)
set_option maxHeartbeats 4000000 in
theorem rstep (k : Nat) (s : ByteArray) (n i z : Int) (hi : i < n) (h0 : 0 ≤ i) (hn : n = s.size) (hb : bt s i = z) (z0 : 0 ≤ z) (z1 : z ≤ 255) :
    trystref12_ZoneName.l0 (k + 1) s n i = if Zc z then trystref12_ZoneName.l0 k s n (wrap64 (i + 1)) else some false := by
  simp only [trystref12_ZoneName.l0, hb]
  rw [if_pos hi, if_pos h0, if_pos (hn ▸ hi)]
  generalize trystref12_ZoneName.l0 k s n (wrap64 (i + 1)) = X
  by_cases c : Zc z
  · rw [if_pos c]
    unfold Zc at c
    repeat' split
    all_goals first | rfl | (exfalso; omega)
  · rw [if_neg c]
    unfold Zc at c
    repeat' split
    all_goals first | rfl | (exfalso; omega)
theorem zones (l : List UInt8) (hl : l.length ≤ 9223372036854775807) : ∀ (j i : Nat), j + i = l.length → ∃ b, ∀ k, j + 1 ≤ k → value_ZoneName.l0 k ⟨l.toArray⟩ l.length i = some b ∧ trystref12_ZoneName.l0 k ⟨l.toArray⟩ l.length i = some b := by
  intro j
  induction j with
  | zero =>
    intro i hj
    refine ⟨decide (1 ≤ (l.length : Int)) && decide ((l.length : Int) ≤ 60), fun k hk => ?_⟩
    obtain ⟨k, rfl⟩ : ∃ m, k = m + 1 := ⟨k - 1, by omega⟩
    simp only [value_ZoneName.l0, trystref12_ZoneName.l0, sz]
    have c0 : ¬ ((i : Nat) : Int) < (l.length : Int) := by omega
    refine ⟨?_, ?_⟩
    · rw [if_neg c0]
      by_cases c : (l.length : Int) ≥ 1
      · rw [if_pos c, decide_eq_true (show 1 ≤ (l.length : Int) from c)]; rfl
      · rw [if_neg c, decide_eq_false (show ¬ 1 ≤ (l.length : Int) from c)]; rfl
    · rw [if_neg c0]
      by_cases c : (l.length : Int) > 0
      · rw [if_pos c, decide_eq_true (show 1 ≤ (l.length : Int) by omega)]; rfl
      · rw [if_neg c, decide_eq_false (show ¬ 1 ≤ (l.length : Int) by omega)]; rfl
  | succ j ih =>
    intro i hj
    have hi : i < l.length := by omega
    have hlt := UInt8.toNat_lt (l[i]'hi)
    have ew : wrap64 (((i : Nat) : Int) + 1) = ((i + 1 : Nat) : Int) := by rw [w64 (by omega) (by omega)]; omega
    by_cases c : Zc (((l[i]'hi).toNat : Nat) : Int)
    · obtain ⟨b, hb⟩ := ih (i + 1) (by omega)
      refine ⟨b, fun k hk => ?_⟩
      obtain ⟨k, rfl⟩ : ∃ m, k = m + 1 := ⟨k - 1, by omega⟩
      rw [vstep k _ _ _ _ (by omega) (by omega) (by rw [sz]) (btl l i hi) (by omega) (by omega), rstep k _ _ _ _ (by omega) (by omega) (by rw [sz]) (btl l i hi) (by omega) (by omega), if_pos c, if_pos c, ew]
      exact hb k (by omega)
    · refine ⟨false, fun k hk => ?_⟩
      obtain ⟨k, rfl⟩ : ∃ m, k = m + 1 := ⟨k - 1, by omega⟩
      rw [vstep k _ _ _ _ (by omega) (by omega) (by rw [sz]) (btl l i hi) (by omega) (by omega), rstep k _ _ _ _ (by omega) (by omega) (by rw [sz]) (btl l i hi) (by omega) (by omega), if_neg c, if_neg c]
      exact ⟨rfl, rfl⟩
/-- One answer for each name. -/
theorem zone (l : List UInt8) (hl : l.length ≤ 9223372036854775807) : ∃ b, ∀ k, l.length + 1 ≤ k → value_ZoneName.f k ⟨l.toArray⟩ = some b ∧ trystref12_ZoneName.f k ⟨l.toArray⟩ = some b := by
  obtain ⟨b, hb⟩ := zones l hl l.length 0 (by omega)
  refine ⟨b, fun k hk => ?_⟩
  unfold value_ZoneName.f trystref12_ZoneName.f
  rw [sz]
  exact hb k hk
end Go.Proofs.YthppkdbelmolbaaDoor.Zone
