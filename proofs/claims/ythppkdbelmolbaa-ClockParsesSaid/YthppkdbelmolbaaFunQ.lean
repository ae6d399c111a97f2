/- What clock.At and clock.Of reckon, in plain numbers. -/
import Derived.Test.YthppkdbelmolbaaAwake7
import Derived.Test.YthppkdbelmolbaaQclockB
namespace Go.Proofs.Ythppkdbelmolbaa.FunQ
open Go.RowKit Go.Proofs.YthppkdbelmolbaaW.PrintWords Go.Proofs.YthppkdbelmolbaaW.PrintLast Go.Proofs.Ythppkdbelmolbaa.Q Go.Proofs.Ythppkdbelmolbaa.Cal Go.Proofs.Ythppkdbelmolbaa.FunA Go.Proofs.Ythppkdbelmolbaa.FunC Go.Proofs.Ythppkdbelmolbaa.Awake7

theorem cAt_yes {day s : Int} (h : In day) (hs : 0 ≤ s) (hs' : s < 86400) : clock_At.f day s = some (86400 * day + s, 0) := by
  obtain ⟨h1, h2⟩ := h
  unfold clock_At.f
  rw [rOf_yes ⟨h1, h2⟩, Option.bind_some, if_pos rfl, if_neg (by omega), if_neg (by omega), w64 (x := day * 86400) (by omega) (by omega), w64 (by omega) (by omega)]
  have e : day * 86400 + s = 86400 * day + s := by omega
  rw [e]
theorem cAt_no {day s : Int} (h : ¬ (In day ∧ 0 ≤ s ∧ s < 86400)) : clock_At.f day s = some (0, 2) := by
  unfold clock_At.f
  by_cases c : In day
  · rw [rOf_yes c, Option.bind_some, if_pos rfl]
    by_cases d : s < 0
    · rw [if_pos d]
    · rw [if_neg d, if_pos (by
        by_cases e : s < 86400
        · exact absurd ⟨c, by omega, e⟩ h
        · omega)]
  · rw [rOf_no c, Option.bind_some, if_neg (by simp)]
/-- A right time of a day. -/
def Time (h m s : Int) : Prop := 0 ≤ h ∧ h ≤ 23 ∧ 0 ≤ m ∧ m ≤ 59 ∧ 0 ≤ s ∧ s ≤ 59
theorem right_in {y m d : Int} (h : Right y m d) : In (ah y + cum (lp y) m + d) := by
  obtain ⟨h1, h2, h3, h4⟩ := h
  have hm := dim_pos (lp y) m (by omega)
  have hi : Is ah lp y m d (ah y + cum (lp y) m + d) := ⟨hm.1, hm.2, h3, h4, rfl⟩
  have hyy := hi.year greg
  have hs := ah_le h1
  have hs' := ah_le (show y + 1 ≤ 10000 by omega)
  have e1 : ah 1 = 0 := by decide
  have e2 : ah 10000 = 3652059 := by decide
  exact ⟨by omega, by omega⟩
theorem cOf_yes (k : Nat) (hk : 16 ≤ k) {y m d h mi s : Int} (hr : Right y m d) (ht : Time h mi s) : clock_Of.f k y m d h mi s = some (86400 * (ah y + cum (lp y) m + d) + (3600 * h + 60 * mi + s), 0) := by
  have hi := right_in hr
  obtain ⟨t1, t2, t3, t4, t5, t6⟩ := ht
  unfold clock_Of.f
  rw [rDay_yes k hk y m d hr]
  simp only [Option.bind_some, if_true]
  rw [if_neg (by omega), if_neg (by omega), if_neg (by omega), if_neg (by omega), if_neg (by omega), if_neg (by omega), w64 (x := 3600 * h) (by omega) (by omega), w64 (x := 60 * mi) (by omega) (by omega), w64 (x := 3600 * h + 60 * mi) (by omega) (by omega), w64 (x := 3600 * h + 60 * mi + s) (by omega) (by omega), cAt_yes hi (by omega) (by omega)]
  rfl
theorem cOf_no (k : Nat) (hk : 16 ≤ k) {y m d h mi s : Int} (hn : ¬ (Right y m d ∧ Time h mi s)) : clock_Of.f k y m d h mi s = some (0, 2) := by
  unfold clock_Of.f
  by_cases hr : Right y m d
  · rw [rDay_yes k hk y m d hr]
    simp only [Option.bind_some, if_true]
    have ht : ¬ Time h mi s := fun z => hn ⟨hr, z⟩
    unfold Time at ht
    by_cases c1 : h < 0
    · rw [if_pos c1]
    rw [if_neg c1]
    by_cases c2 : h > 23
    · rw [if_pos c2]
    rw [if_neg c2]
    by_cases c3 : mi < 0
    · rw [if_pos c3]
    rw [if_neg c3]
    by_cases c4 : mi > 59
    · rw [if_pos c4]
    rw [if_neg c4]
    by_cases c5 : s < 0
    · rw [if_pos c5]
    rw [if_neg c5]
    by_cases c6 : s > 59
    · rw [if_pos c6]
    exact absurd ⟨by omega, by omega, by omega, by omega, by omega, by omega⟩ ht
  · rw [rDay_no k (by omega) y m d hr]
    simp
end Go.Proofs.Ythppkdbelmolbaa.FunQ
