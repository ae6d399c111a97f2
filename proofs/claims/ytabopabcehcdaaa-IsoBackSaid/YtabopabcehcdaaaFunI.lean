/- What the program's package iso reckons, in plain numbers. -/
import Derived.Test.YtabopabcehcdaaaFunC
import Derived.Test.YtabopabcehcdaaaQiso
import Derived.Test.YtabopabcehcdaaaQisoB
namespace Go.Proofs.Ytabopabcehcdaaa.FunI
open Go.RowKit Go.Proofs.YtabopabcehcdaaaW.PrintWords Go.Proofs.YtabopabcehcdaaaW.PrintLast Go.Proofs.Ytabopabcehcdaaa.Q Go.Proofs.Ytabopabcehcdaaa.Cal Go.Proofs.Ytabopabcehcdaaa.FunA Go.Proofs.Ytabopabcehcdaaa.FunC

theorem wk_rng (y s : Int) (h : -40000 ≤ y) (h' : y ≤ 40000) : -15000002 ≤ wk y s ∧ wk y s ≤ 15000004 := by
  have := ah_bd y h h'; have := wk_bd y s; omega
theorem iFirst (y s : Int) (h : -40000 ≤ y) (h' : y ≤ 40000) (hs : 0 ≤ s) (hs' : s ≤ 6) : iso_first.f y s = some (wk y s) := by
  have hb := ah_bd y h h'
  unfold iso_first.f
  rw [rBegins y h h', Option.bind_some, w64 (x := ah y + 1 + 3) (by omega) (by omega), rWeekday _ ⟨by omega, by omega⟩, Option.bind_some, w64 (x := (ah y + 1 + 3) % 7 - s) (by omega) (by omega), rMod _ 7 (by omega) (by omega) ⟨by omega, by omega⟩, Option.bind_some, w64 (by omega) (by omega)]
  congr 1
  unfold wk; omega
def Wday (s : Int) : Prop := 0 ≤ s ∧ s ≤ 6
theorem iRight_yes (s : Int) (h : Wday s) : iso_right.f s = some true := by
  unfold iso_right.f; rw [if_pos h.1, decide_eq_true (by have := h.2; omega)]
theorem iRight_no (s : Int) (h : ¬ Wday s) : iso_right.f s = some false := by
  unfold iso_right.f
  by_cases a : s ≥ 0
  · rw [if_pos a, decide_eq_false (fun e => h ⟨a, by omega⟩)]
  · rw [if_neg a]
theorem iWeeks_range (k : Nat) (hk : 1 ≤ k) (y s : Int) (h : y < 0 ∨ 9999 < y) : iso_Weeks.f k y s = some (0, 2) := by
  obtain ⟨k, rfl⟩ : ∃ j, k = j + 1 := ⟨k - 1, by omega⟩
  unfold iso_Weeks.f
  by_cases a : y < 0
  · rw [if_pos a]; simp only [iso_Weeks.j0, if_true]
  · rw [if_neg a, decide_eq_true (by omega)]; simp only [iso_Weeks.j0, if_true]
theorem iWeeks_arg (k : Nat) (hk : 1 ≤ k) (y s : Int) (h : 0 ≤ y) (h' : y ≤ 9999) (hs : ¬ Wday s) : iso_Weeks.f k y s = some (0, 1) := by
  obtain ⟨k, rfl⟩ : ∃ j, k = j + 1 := ⟨k - 1, by omega⟩
  unfold iso_Weeks.f
  rw [if_neg (by omega), decide_eq_false (by omega)]
  simp only [iso_Weeks.j0]
  rw [if_neg (by simp), iRight_no s hs, Option.bind_some, if_neg (by simp)]
theorem iWeeks_yes (k : Nat) (hk : 1 ≤ k) (y s : Int) (h : 0 ≤ y) (h' : y ≤ 9999) (hs : Wday s) : iso_Weeks.f k y s = some ((wk (y + 1) s - wk y s) / 7, 0) := by
  obtain ⟨k, rfl⟩ : ∃ j, k = j + 1 := ⟨k - 1, by omega⟩
  have hw := wk_bd y s; have hw' := wk_bd (y + 1) s; have ha := ah_succ y; have hl := lp_01 y
  have hr := wk_rng y s (by omega) (by omega); have hr' := wk_rng (y + 1) s (by omega) (by omega)
  unfold iso_Weeks.f
  rw [if_neg (by omega), decide_eq_false (by omega)]
  simp only [iso_Weeks.j0]
  rw [if_neg (by simp), iRight_yes s hs, Option.bind_some, if_pos rfl, w64 (x := y + 1) (by omega) (by omega), iFirst (y + 1) s (by omega) (by omega) hs.1 hs.2, iFirst y s (by omega) (by omega) hs.1 hs.2]
  simp only [Option.bind_some]
  rw [w64 (x := wk (y + 1) s - wk y s) (by omega) (by omega), Int.tdiv_eq_ediv_of_nonneg (by omega), w64 (by omega) (by omega)]
theorem iFirst_range (k : Nat) (hk : 1 ≤ k) (y s : Int) (h : y < 0 ∨ 10000 < y) : iso_First.f k y s = some (0, 2) := by
  obtain ⟨k, rfl⟩ : ∃ j, k = j + 1 := ⟨k - 1, by omega⟩
  unfold iso_First.f
  by_cases a : y < 0
  · rw [if_pos a]; simp only [iso_First.j0, if_true]
  · rw [if_neg a, decide_eq_true (by omega)]; simp only [iso_First.j0, if_true]
theorem iFirst_arg (k : Nat) (hk : 1 ≤ k) (y s : Int) (h : 0 ≤ y) (h' : y ≤ 10000) (hs : ¬ Wday s) : iso_First.f k y s = some (0, 1) := by
  obtain ⟨k, rfl⟩ : ∃ j, k = j + 1 := ⟨k - 1, by omega⟩
  unfold iso_First.f
  rw [if_neg (by omega), decide_eq_false (by omega)]
  simp only [iso_First.j0]
  rw [if_neg (by simp), iRight_no s hs, Option.bind_some, if_neg (by simp)]
theorem iFirst_yes (k : Nat) (hk : 1 ≤ k) (y s : Int) (h : 0 ≤ y) (h' : y ≤ 10000) (hs : Wday s) : iso_First.f k y s = some (wk y s, 0) := by
  obtain ⟨k, rfl⟩ : ∃ j, k = j + 1 := ⟨k - 1, by omega⟩
  unfold iso_First.f
  rw [if_neg (by omega), decide_eq_false (by omega)]
  simp only [iso_First.j0]
  rw [if_neg (by simp), iRight_yes s hs, Option.bind_some, if_pos rfl, iFirst y s (by omega) (by omega) hs.1 hs.2, Option.bind_some]
theorem iWeek0 (day s : Int) (hd : In day) (hs : Wday s) : ∀ (j k : Nat) (y : Int), y - (yr day - 1) = j → j + 1 ≤ k → y ≤ yr day + 1 → day < wk (y + 1) s →
    ∃ z, yr day - 1 ≤ z ∧ z ≤ yr day + 1 ∧ wk z s ≤ day ∧ day < wk (z + 1) s ∧ iso_Week.l0 k day s y = some (z, (day - wk z s) / 7 + 1, 0) := by
  have hy := yr_In hd
  have ho := yr_ok day
  intro j
  induction j with
  | zero =>
    intro k y h1 h2 h3 h4
    obtain ⟨k, rfl⟩ : ∃ j, k = j + 1 := ⟨k - 1, by omega⟩
    have e : y = yr day - 1 := by omega
    subst e
    have hw := wk_bd (yr day - 1) s
    have ha := ah_le (show yr day - 1 ≤ yr day by omega)
    have hr := wk_rng (yr day - 1) s (by omega) (by omega)
    have hm := hd.1; have hm' := hd.2
    refine ⟨yr day - 1, by omega, by omega, by omega, h4, ?_⟩
    simp only [iso_Week.l0]
    rw [iFirst _ s (by omega) (by omega) hs.1 hs.2, Option.bind_some, if_neg (by omega), Option.bind_some, w64 (x := day - wk (yr day - 1) s) (by omega) (by omega), Int.tdiv_eq_ediv_of_nonneg (by omega), w64 (x := (day - wk (yr day - 1) s) / 7) (by omega) (by omega), w64 (by omega) (by omega)]
  | succ j ih =>
    intro k y h1 h2 h3 h4
    obtain ⟨k, rfl⟩ : ∃ j, k = j + 1 := ⟨k - 1, by omega⟩
    have hr := wk_rng y s (by omega) (by omega)
    have hm := hd.1; have hm' := hd.2
    simp only [iso_Week.l0]
    rw [iFirst _ s (by omega) (by omega) hs.1 hs.2, Option.bind_some]
    by_cases c : day < wk y s
    · rw [if_pos c, w64 (by omega) (by omega)]
      exact ih k (y - 1) (by omega) (by omega) (by omega) (by rw [show y - 1 + 1 = y by omega]; exact c)
    · refine ⟨y, by omega, h3, by omega, h4, ?_⟩
      rw [if_neg c, Option.bind_some, w64 (x := day - wk y s) (by omega) (by omega), Int.tdiv_eq_ediv_of_nonneg (by omega), w64 (x := (day - wk y s) / 7) (by omega) (by omega), w64 (by omega) (by omega)]
theorem iWeek_yes (k : Nat) (hk : 4 ≤ k) (day s : Int) (hd : In day) (hs : Wday s) : ∃ z, 0 ≤ z ∧ z ≤ 10000 ∧ wk z s ≤ day ∧ day < wk (z + 1) s ∧ iso_Week.f k day s = some (z, (day - wk z s) / 7 + 1, 0) := by
  have hy := yr_In hd
  have ho := yr_ok day
  have hw := wk_bd (yr day + 1 + 1) s
  have ha := ah_le (show yr day + 1 ≤ yr day + 1 + 1 by omega)
  obtain ⟨z, h1, h2, h3, h4, h5⟩ := iWeek0 day s hd hs 2 k (yr day + 1) (by omega) (by omega) (by omega) (by omega)
  refine ⟨z, by omega, by omega, h3, h4, ?_⟩
  unfold iso_Week.f
  rw [rOf_yes hd, Option.bind_some, if_pos rfl, iRight_yes s hs, Option.bind_some, if_pos rfl, rYear day (by have := hd.1; omega) (by have := hd.2; omega), Option.bind_some, w64 (by omega) (by omega), h5]
theorem iWeek_range (k : Nat) (day s : Int) (hd : ¬ In day) : iso_Week.f k day s = some (0, 0, 2) := by
  unfold iso_Week.f
  rw [rOf_no hd, Option.bind_some, if_neg (by simp)]
theorem iWeek_arg (k : Nat) (day s : Int) (hd : In day) (hs : ¬ Wday s) : iso_Week.f k day s = some (0, 0, 1) := by
  unfold iso_Week.f
  rw [rOf_yes hd, Option.bind_some, if_pos rfl, iRight_no s hs, Option.bind_some, if_neg (by simp)]
theorem wk_le {x y : Int} (s : Int) (h : x ≤ y) : wk x s + 359 * (y - x) ≤ wk y s := by
  by_cases e : x = y
  · subst e; omega
  · have := ah_le h; have := wk_bd x s; have := wk_bd y s; omega
theorem wk_one {x y s day : Int} (hx : wk x s ≤ day) (hx' : day < wk (x + 1) s) (hy : wk y s ≤ day) (hy' : day < wk (y + 1) s) : x = y := by
  by_cases a : x < y
  · have := wk_le s (show x + 1 ≤ y by omega); omega
  · by_cases b : y < x
    · have := wk_le s (show y + 1 ≤ x by omega); omega
    · omega
/-- The ISO date of a day. -/
theorem iISO_yes (k : Nat) (hk : 4 ≤ k) (day : Int) (hd : In day) : ∃ z, 0 ≤ z ∧ z ≤ 10000 ∧ wk z 1 ≤ day ∧ day < wk (z + 1) 1 ∧ iso_ISO.f k day = some (z, (day - wk z 1) / 7 + 1, (day - wk z 1) % 7 + 1, 0) := by
  obtain ⟨z, h1, h2, h3, h4, h5⟩ := iWeek_yes k hk day 1 hd ⟨by omega, by omega⟩
  have hw := wk_bd z 1
  have hm := hd.1; have hm' := hd.2
  refine ⟨z, h1, h2, h3, h4, ?_⟩
  unfold iso_ISO.f
  rw [h5]
  simp only [Option.bind_some, if_true]
  rw [rWeekday day ⟨by omega, by omega⟩, Option.bind_some, w64 (x := day % 7 - 1) (by omega) (by omega), rMod _ 7 (by omega) (by omega) ⟨by omega, by omega⟩, Option.bind_some, w64 (by omega) (by omega)]
  have e : (day % 7 - 1) % 7 = (day - wk z 1) % 7 := by omega
  rw [e]
theorem iISO_no (k : Nat) (day : Int) (hd : ¬ In day) : iso_ISO.f k day = some (0, 0, 0, 2) := by
  unfold iso_ISO.f
  rw [iWeek_range k day 1 hd]; simp
/-- Days of the weeks of a year. -/
def RightI (y m d : Int) : Prop := 0 ≤ y ∧ y ≤ 9999 ∧ 1 ≤ m ∧ m ≤ (wk (y + 1) 1 - wk y 1) / 7 ∧ 1 ≤ d ∧ d ≤ 7
theorem iFrom_no (k : Nat) (hk : 2 ≤ k) (y m d : Int) (h : ¬ RightI y m d) : iso_FromISO.f k y m d = some (0, 2) := by
  have key : iso_FromISO.j0 k true y m d = some (0, 2) := by
    obtain ⟨k, rfl⟩ : ∃ j, k = j + 1 := ⟨k - 1, by omega⟩
    simp only [iso_FromISO.j0, if_true]
  unfold iso_FromISO.f
  by_cases a : 0 ≤ y ∧ y ≤ 9999
  · rw [iWeeks_yes k (by omega) y 1 a.1 a.2 ⟨by omega, by omega⟩]
    simp only [Option.bind_some, if_true]
    by_cases b : m < 1
    · rw [if_pos b, key]
    · by_cases c : m > (wk (y + 1) 1 - wk y 1) / 7
      · rw [if_neg b, if_pos c, key]
      · by_cases e : d < 1
        · rw [if_neg b, if_neg c, if_pos e, key]
        · rw [if_neg b, if_neg c, if_neg e, decide_eq_true (show d > 7 from by
            by_cases g : d ≤ 7
            · exact absurd ⟨a.1, a.2, by omega, by omega, by omega, g⟩ h
            · omega), key]
  · rw [iWeeks_range k (by omega) y 1 (by omega)]
    simp only [Option.bind_some]
    rw [if_neg (by omega), key]
theorem iFrom_yes (k : Nat) (hk : 2 ≤ k) (y m d : Int) (h : RightI y m d) : iso_FromISO.f k y m d = some (if 1 ≤ wk y 1 + 7 * (m - 1) + d - 1 ∧ wk y 1 + 7 * (m - 1) + d - 1 ≤ 3652059 then (wk y 1 + 7 * (m - 1) + d - 1, 0) else (0, 2)) := by
  obtain ⟨h1, h2, h3, h4, h5, h6⟩ := h
  have hr := wk_rng y 1 (by omega) (by omega)
  obtain ⟨n, hn, hw⟩ := (show ∃ n, (wk (y + 1) 1 - wk y 1) / 7 = n ∧ n ≤ 60 from ⟨_, rfl, by have := wk_bd y 1; have := wk_bd (y + 1) 1; have := ah_succ y; have := lp_01 y; omega⟩)
  unfold iso_FromISO.f
  rw [iWeeks_yes k (by omega) y 1 h1 h2 ⟨by omega, by omega⟩]
  simp only [Option.bind_some, if_true]
  rw [if_neg (by omega), if_neg (by omega), if_neg (by omega), decide_eq_false (by omega)]
  obtain ⟨k, rfl⟩ : ∃ j, k = j + 1 := ⟨k - 1, by omega⟩
  simp only [iso_FromISO.j0]
  rw [if_neg (by simp), iFirst y 1 (by omega) (by omega) (by omega) (by omega), Option.bind_some, w64 (x := m - 1) (by omega) (by omega), w64 (x := 7 * (m - 1)) (by omega) (by omega), w64 (x := wk y 1 + 7 * (m - 1)) (by omega) (by omega), w64 (x := wk y 1 + 7 * (m - 1) + d) (by omega) (by omega), w64 (x := wk y 1 + 7 * (m - 1) + d - 1) (by omega) (by omega)]
  by_cases c : 1 ≤ wk y 1 + 7 * (m - 1) + d - 1 ∧ wk y 1 + 7 * (m - 1) + d - 1 ≤ 3652059
  · rw [rOf_yes c, Option.bind_some, if_pos rfl, if_pos c]
  · rw [rOf_no c, Option.bind_some, if_neg (by simp), if_neg c]
theorem awake3 (k : Nat) (hk : 2 ≤ k) : trystlaw03_awake.f k = some true := by
  unfold trystlaw03_awake.f
  rw [iFrom_yes k hk 1 1 1 (by unfold RightI; decide)]; decide
end Go.Proofs.Ytabopabcehcdaaa.FunI
