/- The clock laws' first look (awake) tells true. -/
import Derived.Test.YthppkdbelmolbaaFmt
import Derived.Test.YthppkdbelmolbaaFunC
namespace Go.Proofs.Ythppkdbelmolbaa.Awake7
open Go.RowKit Go.Proofs.YthppkdbelmolbaaW.PrintWords Go.Proofs.YthppkdbelmolbaaW.PrintLast Go.Proofs.Ythppkdbelmolbaa.Q Go.Proofs.Ythppkdbelmolbaa.Cal Go.Proofs.Ythppkdbelmolbaa.FunA Go.Proofs.Ythppkdbelmolbaa.FunC Go.Proofs.Ythppkdbelmolbaa.Fmt
set_option linter.unusedVariables false
set_option linter.unusedSimpArgs false

theorem cRight (a : Int) : clock_Right.f a = some (decide (86400 ≤ a) && decide (a < 315537984000)) := by
  unfold clock_Right.f
  by_cases h : a ≥ 86400
  · rw [if_pos h, decide_eq_true (show 86400 ≤ a from h)]; rfl
  · rw [if_neg h, decide_eq_false (show ¬ 86400 ≤ a from h)]; rfl
/-- Right seconds. -/
def Ok (a : Int) : Prop := 86400 ≤ a ∧ a < 315537984000
theorem cRight_yes {a : Int} (h : Ok a) : clock_Right.f a = some true := by rw [cRight, decide_eq_true h.1, decide_eq_true h.2]; rfl
theorem cRight_no {a : Int} (h : ¬ Ok a) : clock_Right.f a = some false := by
  rw [cRight]
  by_cases c : 86400 ≤ a
  · rw [decide_eq_false (show ¬ a < 315537984000 from fun z => h ⟨c, z⟩)]; simp
  · rw [decide_eq_false c]; rfl
theorem cSplit {a : Int} (h : 0 ≤ a) (h' : a ≤ 9223372036854775807) : clock_split.f a = some (a / 86400, a % 86400) := by
  unfold clock_split.f
  rw [Int.tmod_eq_emod_of_nonneg h, Int.tdiv_eq_ediv_of_nonneg h, if_neg (by omega), w64 (by omega) (by omega)]
theorem cDay_yes {a : Int} (h : Ok a) : clock_Day.f a = some (a / 86400) := by
  unfold clock_Day.f
  rw [cRight_yes h, Option.bind_some, if_pos rfl, cSplit (by have := h.1; omega) (by have := h.2; omega)]; rfl
theorem cSecond_yes {a : Int} (h : Ok a) : clock_Second.f a = some (a % 86400) := by
  unfold clock_Second.f
  rw [cRight_yes h, Option.bind_some, if_pos rfl, cSplit (by have := h.1; omega) (by have := h.2; omega)]; rfl
theorem cDay_no {a : Int} (h : ¬ Ok a) : clock_Day.f a = some 0 := by
  unfold clock_Day.f
  rw [cRight_no h, Option.bind_some, if_neg (by simp)]
theorem cSecond_no {a : Int} (h : ¬ Ok a) : clock_Second.f a = some 0 := by
  unfold clock_Second.f
  rw [cRight_no h, Option.bind_some, if_neg (by simp)]
theorem ok_in {a : Int} (h : Ok a) : In (a / 86400) := by obtain ⟨h1, h2⟩ := h; exact ⟨by omega, by omega⟩
theorem first_day : rata_Date.f 40 1 = some (1, 1, 1, 0) := by
  obtain ⟨m, d, e, h⟩ := rDate_yes 40 (by omega) 1 ⟨by omega, by omega⟩
  have hy : yr 1 = 1 := by decide
  rw [hy] at e h
  obtain ⟨_, r2, r3⟩ := Is.one greg h (show Is ah lp 1 1 1 1 from ⟨by omega, by omega, by omega, by decide, by decide⟩)
  rw [e, r2, r3]
theorem first_bytes : (⟨(timeBytes 1 1 1 0).toArray⟩ : ByteArray) = ⟨#[48, 48, 48, 49, 48, 49, 48, 49, 84, 48, 48, 48, 48, 48, 48]⟩ := by decide
set_option maxHeartbeats 4000000 in
set_option maxRecDepth 100000 in
theorem awake (w : World) : Calls Try.prog 8 #[] w fun e w' => e = .returned (.bool true) ∧ Below w.heap.size w w' := by
  have ho : Ok 86400 := ⟨by omega, by omega⟩
  have F := fun W => format_yes 40 86400 1 1 1 1 0 W (cRight_yes ho) (cDay_yes ho) first_day (cSecond_yes ho) (by omega) (by omega) (by omega) (by omega) (by omega) (by omega) (by omega) (by omega)
  rw [first_bytes] at F
  have HF := Lib.hid F; clear F ho
  go_enter Try.func8, Try.ntmps8
  go_wp2_with fail
  refine (HF.out _).mono ?_
  rintro e w1 ⟨rfl, hB1⟩
  go_wp2
  go_ret
  exact ⟨rfl, hB1⟩
end Go.Proofs.Ythppkdbelmolbaa.Awake7
