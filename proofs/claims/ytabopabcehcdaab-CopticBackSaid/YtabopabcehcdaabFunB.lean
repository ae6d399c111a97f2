/- What the reference's day arithmetic reckons, in plain numbers: Gregorian (0), Julian (1), ISO (2) and Coptic (6) dates. -/
import Derived.Test.YtabopabcehcdaabFunA
import Derived.Test.YtabopabcehcdaabQrefA
namespace Go.Proofs.Ytabopabcehcdaab.FunB
open Go.RowKit Go.Proofs.YtabopabcehcdaabW.PrintWords Go.Proofs.YtabopabcehcdaabW.PrintLast Go.Proofs.Ytabopabcehcdaab.Q Go.Proofs.Ytabopabcehcdaab.Cal Go.Proofs.Ytabopabcehcdaab.FunA

theorem jb_bd (y : Int) (h : -40000 ≤ y) (h' : y ≤ 40000) : -15000000 ≤ jb y ∧ jb y ≤ 15000000 := by unfold jb; omega
theorem cb_bd (y : Int) (h : -40000 ≤ y) (h' : y ≤ 40000) : -15000000 ≤ cb y ∧ cb y ≤ 15000000 := by unfold cb; omega
/-- The day of the first of a month, less one, of the four calendars. -/
def fx (c y m : Int) : Int := if c = 0 then ah y + cum (lp y) m else if c = 1 then jb y + cum (lj y) m else if c = 2 then wk y 1 + 7 * (m - 1) - 1 else cb y + 30 * (m - 1)
def Four (c : Int) : Prop := c = 0 ∨ c = 1 ∨ c = 2 ∨ c = 6
def mths (c y : Int) : Int := if c = 2 then (wk (y + 1) 1 - wk y 1) / 7 else if c = 6 then 13 else 12
theorem wks (y s : Int) : ∃ n, (n = 52 ∨ n = 53) ∧ wk (y + 1) s - wk y s = 7 * n := by
  have h1 := wk_bd y s; have h2 := wk_bd (y + 1) s; have h3 := ah_succ y; have h4 := lp_01 y
  refine ⟨(wk (y + 1) s - wk y s) / 7, ?_, ?_⟩ <;> omega
theorem mths_bd (c y : Int) : 12 ≤ mths c y ∧ mths c y ≤ 53 := by
  obtain ⟨n, hn, h⟩ := wks y 1
  unfold mths; split
  · omega
  · split <;> omega
theorem fIn (day : Int) : trystref01_In.f day = some (decide (1 ≤ day) && decide (day ≤ 3652059)) := by
  unfold trystref01_In.f
  by_cases h : day ≥ 1
  · rw [if_pos h, decide_eq_true (show 1 ≤ day from h)]; rfl
  · rw [if_neg h, decide_eq_false (show ¬ 1 ≤ day from h)]; rfl
theorem fIn_yes {day : Int} (h : In day) : trystref01_In.f day = some true := by
  rw [fIn, decide_eq_true h.1, decide_eq_true h.2]; rfl
theorem fIn_no {day : Int} (h : ¬ In day) : trystref01_In.f day = some false := by
  rw [fIn]
  by_cases a : 1 ≤ day
  · rw [decide_eq_false (show ¬ day ≤ 3652059 from fun b => h ⟨a, b⟩)]; simp
  · rw [decide_eq_false a]; rfl
/-- Days of a month of the four calendars. -/
def len (c y m : Int) : Int := if c = 0 then dim (lp y) m else if c = 1 then dim (lj y) m else if m < 1 ∨ mths c y < m then 0 else if c = 2 then 7 else if m = 13 then lc y else 30
theorem fx_end (c y : Int) (hc : c = 0 ∨ c = 1) : fx c (y + 1) 1 = fx c y 13 := by
  unfold fx
  rcases hc with rfl | rfl
  · rw [if_pos rfl, if_pos rfl, cum_one, cum_end, ah_succ]; omega
  · have := jul.succ y
    rw [if_neg (by omega), if_pos rfl, if_neg (by omega), if_pos rfl, cum_one, cum_end, this]; omega
theorem fx_bd (c y m : Int) (hc : Four c) (h : -40000 ≤ y) (h' : y ≤ 40000) (hm : 1 ≤ m) (hm' : m ≤ 54) : -16000000 ≤ fx c y m ∧ fx c y m ≤ 16000000 := by
  have a := ah_bd y h h'; have b := jb_bd y h h'; have d := cb_bd y h h'; have e := wk_bd y 1
  have x : -2 ≤ cum (lp y) m ∧ cum (lp y) m ≤ 2000 := by have := lp_01 y; unfold cum; split <;> omega
  have z : -2 ≤ cum (lj y) m ∧ cum (lj y) m ≤ 2000 := by have := lj_01 y; unfold cum; split <;> omega
  unfold fx
  rcases hc with rfl | rfl | rfl | rfl
  · rw [if_pos rfl]; omega
  · rw [if_neg (by omega), if_pos rfl]; omega
  · rw [if_neg (by omega), if_neg (by omega), if_pos rfl]; omega
  · rw [if_neg (by omega), if_neg (by omega), if_neg (by omega)]; omega
end Go.Proofs.Ytabopabcehcdaab.FunB
