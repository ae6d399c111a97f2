/- Week, First and Weeks are as specified for all days, years and first weekdays: for all whole numbers of 64 bits, with no condition. -/
import Derived.Test.YtabopabcehcdaaaFunI
import Derived.Test.YtabopabcehcdaaaFunB
import Derived.Test.YtabopabcehcdaaaQtrystlaw03IsoWeeks
namespace Go.Proofs.Ytabopabcehcdaaa.Pure
open Go.RowKit Go.Proofs.YtabopabcehcdaaaW.PrintWords Go.Proofs.YtabopabcehcdaaaW.PrintLast Go.Proofs.Ytabopabcehcdaaa.Q Go.Proofs.Ytabopabcehcdaaa.Cal Go.Proofs.Ytabopabcehcdaaa.FunA Go.Proofs.Ytabopabcehcdaaa.FunB Go.Proofs.Ytabopabcehcdaaa.FunC Go.Proofs.Ytabopabcehcdaaa.FunI

/-- What First and Weeks tell. -/
structure FW (y s f fe n ne : Int) : Prop where
  range : (y < 0 ∨ 10000 < y) → f = 0 ∧ fe = 2 ∧ n = 0 ∧ ne = 2
  arg : 0 ≤ y → y ≤ 10000 → ¬ Wday s → f = 0 ∧ fe = 1 ∧ n = 0 ∧ (ne = 1 ∨ y = 10000 ∧ ne = 2)
  last : y = 10000 → Wday s → f = wk y s ∧ fe = 0 ∧ n = 0 ∧ ne = 2
  yes : 0 ≤ y → y ≤ 9999 → Wday s → f = wk y s ∧ fe = 0 ∧ n = (wk (y + 1) s - wk y s) / 7 ∧ ne = 0

theorem tell (y s : Int) : ∃ f fe n ne, iso_First.f 200 y s = some (f, fe) ∧ iso_Weeks.f 200 y s = some (n, ne) ∧ FW y s f fe n ne := by
  by_cases h : 0 ≤ y ∧ y ≤ 10000
  · by_cases hs : 0 ≤ s ∧ s ≤ 6
    · by_cases e : y = 10000
      · refine ⟨_, _, _, _, iFirst_yes 200 (by omega) y s h.1 h.2 hs, iWeeks_range 200 (by omega) y s (by omega), ⟨fun z => by omega, fun _ _ z => absurd hs z, fun _ _ => ⟨rfl, rfl, rfl, rfl⟩, fun _ _ _ => by omega⟩⟩
      · refine ⟨_, _, _, _, iFirst_yes 200 (by omega) y s h.1 h.2 hs, iWeeks_yes 200 (by omega) y s h.1 (by omega) hs, ⟨fun z => by omega, fun _ _ z => absurd hs z, fun z => absurd z e, fun _ _ _ => ⟨rfl, rfl, rfl, rfl⟩⟩⟩
    · by_cases e : y = 10000
      · refine ⟨_, _, _, _, iFirst_arg 200 (by omega) y s h.1 h.2 hs, iWeeks_range 200 (by omega) y s (by omega), ⟨fun z => by omega, fun _ _ _ => ⟨rfl, rfl, rfl, Or.inr ⟨e, rfl⟩⟩, fun _ z => absurd z hs, fun _ _ z => absurd z hs⟩⟩
      · refine ⟨_, _, _, _, iFirst_arg 200 (by omega) y s h.1 h.2 hs, iWeeks_arg 200 (by omega) y s h.1 (by omega) hs, ⟨fun z => by omega, fun _ _ _ => ⟨rfl, rfl, rfl, Or.inl rfl⟩, fun z => absurd z e, fun _ _ z => absurd z hs⟩⟩
  · refine ⟨_, _, _, _, iFirst_range 200 (by omega) y s (by omega), iWeeks_range 200 (by omega) y s (by omega), ⟨fun _ => ⟨rfl, rfl, rfl, rfl⟩, fun a b => absurd ⟨a, b⟩ h, fun a => by omega, fun a b => by omega⟩⟩
theorem part1 (y s f fe n ne : Int) (b : Bool) (hb : b = decide (¬ (0 ≤ s ∧ s ≤ 6))) (h : FW y s f fe n ne) (k : Nat) (hk : 20 ≤ k) : trystlaw03_IsoWeeks.j1 k s y f fe n ne b = some true := by
  obtain ⟨k, rfl⟩ : ∃ j, k = j + 3 := ⟨k - 3, by omega⟩
  have key : trystlaw03_IsoWeeks.j1 (k + 3) s y f fe n ne b = trystlaw03_IsoWeeks.j2 (k + 2) s y f fe n ne b (decide (y < 0 ∨ 10000 < y)) := by
    simp only [trystlaw03_IsoWeeks.j1]
    by_cases c : y < 0
    · rw [if_pos c, decide_eq_true (show y < 0 ∨ 10000 < y from Or.inl c)]
    · rw [if_neg c]
      by_cases d : y > 10000
      · rw [decide_eq_true d, decide_eq_true (show y < 0 ∨ 10000 < y from Or.inr d)]
      · rw [decide_eq_false d, decide_eq_false (show ¬ (y < 0 ∨ 10000 < y) by omega)]
  rw [key]
  simp only [trystlaw03_IsoWeeks.j2]
  by_cases r : y < 0 ∨ 10000 < y
  · obtain ⟨e1, e2, e3, e4⟩ := h.range r
    rw [decide_eq_true r]; simp [e1, e2, e3, e4]
  · rw [decide_eq_false r, if_neg (by simp), hb]
    by_cases hs : 0 ≤ s ∧ s ≤ 6
    · rw [decide_eq_false (fun z => z hs), if_neg (by simp)]
      have hw : ∀ z, -40000 ≤ z → z ≤ 40000 → trystref01_Week1.f (k + 1) z s = some (wk z s) := fun z z1 z2 => fWeek1 (k + 1) (by omega) z s z1 z2 hs.1 hs.2
      by_cases e : y = 10000
      · obtain ⟨e1, e2, e3, e4⟩ := h.last e hs
        rw [if_pos e2, hw y (by omega) (by omega), Option.bind_some, e1]
        simp only [trystlaw03_IsoWeeks.j3]
        simp [e, e3, e4]
      · obtain ⟨e1, e2, e3, e4⟩ := h.yes (by omega) (by omega) hs
        obtain ⟨q, hq, hq'⟩ := wks y s
        have hr := wk_rng y s (by omega) (by omega); have hr' := wk_rng (y + 1) s (by omega) (by omega)
        rw [if_pos e2, hw y (by omega) (by omega), Option.bind_some, e1]
        simp only [trystlaw03_IsoWeeks.j3]
        rw [if_neg (by simp), if_neg e, if_pos e4, w64 (x := y + 1) (by omega) (by omega), fWeek1 k (by omega) (y + 1) s (by omega) (by omega) hs.1 hs.2, Option.bind_some, w64 (x := wk (y + 1) s - wk y s) (by omega) (by omega), Int.tdiv_eq_ediv_of_nonneg (by omega), w64 (by omega) (by omega), if_pos e3]
        by_cases c : n = 52
        · rw [if_pos c]
        · rw [if_neg c]
          have : n = 53 := by omega
          rw [this]; rfl
    · obtain ⟨e1, e2, e3, e4⟩ := h.arg (by omega) (by omega) hs
      rw [decide_eq_true hs, if_pos rfl, if_pos e2, if_pos e1, if_pos e3]
      rcases e4 with e4 | ⟨e4, e5⟩
      · rw [if_pos e4]
      · rw [if_neg (by omega), if_pos e4, e5]; rfl
theorem IsoWeeks : trystlaw03_IsoWeeks.Pure := by
  intro a s y wa ws wy
  refine ⟨200, ?_⟩
  obtain ⟨f, fe, n, ne, hf, hn, h⟩ := tell y s
  have key : ∀ p q r, iso_Week.f 200 a s = some (p, q, r) → trystlaw03_IsoWeeks.f 200 a s y = trystlaw03_IsoWeeks.j0 200 a s y p q r f fe n ne (decide (¬ (0 ≤ s ∧ s ≤ 6))) := by
    intro p q r hp
    unfold trystlaw03_IsoWeeks.f
    rw [awake3 200 (by omega), Option.bind_some, if_pos rfl, hp, hf, hn]
    simp only [Option.bind_some]
    by_cases c : s < 0
    · rw [if_pos c, decide_eq_true (show ¬ (0 ≤ s ∧ s ≤ 6) by omega)]
    · rw [if_neg c]
      by_cases d : s > 6
      · rw [decide_eq_true d, decide_eq_true (show ¬ (0 ≤ s ∧ s ≤ 6) by omega)]
      · rw [decide_eq_false d, decide_eq_false (show ¬ ¬ (0 ≤ s ∧ s ≤ 6) by omega)]
  have p1 := part1 y s f fe n ne _ rfl h 199 (by omega)
  by_cases ha : In a
  · by_cases hs : 0 ≤ s ∧ s ≤ 6
    · obtain ⟨z, z1, z2, z3, z4, z5⟩ := iWeek_yes 200 (by omega) a s ha hs
      have hr := wk_rng z s (by omega) (by omega); have hr' := wk_rng (z + 1) s (by omega) (by omega)
      have hm := ha.1; have hm' := ha.2
      rw [key _ _ _ z5]
      simp only [trystlaw03_IsoWeeks.j0]
      rw [fIn_yes ha, Option.bind_some, if_pos rfl, if_neg (by rw [decide_eq_false (fun z => z hs)]; simp), fWeek1 199 (by omega) z s (by omega) (by omega) hs.1 hs.2, Option.bind_some, if_pos trivial, if_neg (by omega), w64 (x := z + 1) (by omega) (by omega), fWeek1 199 (by omega) (z + 1) s (by omega) (by omega) hs.1 hs.2, Option.bind_some, if_neg (by omega), w64 (x := a - wk z s) (by omega) (by omega), Int.tdiv_eq_ediv_of_nonneg (by omega), w64 (x := (a - wk z s) / 7) (by omega) (by omega), w64 (x := (a - wk z s) / 7 + 1) (by omega) (by omega), if_pos rfl]
      exact p1
    · rw [key _ _ _ (iWeek_arg 200 a s ha hs)]
      simp only [trystlaw03_IsoWeeks.j0]
      rw [fIn_yes ha, Option.bind_some, if_pos rfl, if_pos (decide_eq_true hs), if_pos trivial, if_pos trivial, if_pos trivial]
      exact p1
  · rw [key _ _ _ (iWeek_range 200 a s ha)]
    simp only [trystlaw03_IsoWeeks.j0]
    rw [fIn_no ha, Option.bind_some, if_neg (by simp), if_pos trivial, if_pos trivial, if_pos trivial]
    exact p1
end Go.Proofs.Ytabopabcehcdaaa.Pure
