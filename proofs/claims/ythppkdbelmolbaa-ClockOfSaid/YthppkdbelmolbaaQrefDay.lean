/- The reference's Day, walked: it tells a date's day, or an error, as trystref01_Day.f reckons it. -/
import Derived.Test.YthppkdbelmolbaaQrefA
import Derived.Test.YthppkdbelmolbaaQrefL
import Derived.BigQuiet
import Derived.Deep.QuietTactic
import Derived.Lib.Hide
namespace Go.Proofs.Ythppkdbelmolbaa.Q
open Go.RowKit Go.Proofs.YthppkdbelmolbaaW.PrintWords Go.Proofs.YthppkdbelmolbaaW.PrintLast
set_option linter.unusedVariables false
set_option linter.unusedSimpArgs false

def trystref01_Day.f (k : Nat) (c y m d : Int) : Option (Int × Int) :=
  (trystref01_years.f c).bind fun t =>
    if y < t.1 ∨ t.2 < y ∨ (c = 5 ∧ y = 0) ∨ d < 1 then some (0, 2)
    else (trystref01_Length.f k c y m).bind fun n =>
      if n < d then some (0, 2)
      else (trystref01_Fixed.f k c y m d).bind fun f => (trystref01_In.f f).bind fun b => if b = true then some (f, 0) else some (0, 2)

theorem trystref01_Day.mono : ∀ a0 a1 a2 a3 k, LeO (trystref01_Day.f k a0 a1 a2 a3) (trystref01_Day.f (k + 1) a0 a1 a2 a3) := by
  intro a0 a1 a2 a3 k
  unfold trystref01_Day.f
  refine LeO.bind (LeO.refl _) (fun t => LeO.ite (LeO.refl _) (LeO.bind (trystref01_Length.mono _ _ _ _) (fun n => LeO.ite (LeO.refl _) (LeO.bind (trystref01_Fixed.mono _ _ _ _ _) (fun f => LeO.refl _)))))
theorem trystref01_Day.quiet_len (k : Nat) (c y m n : Int) (h : trystref01_Length.f k c y m = some n) (w : World) {a N : Nat} :
    Calls Try.prog 37 #[.int .i64 c, .int .i64 y, .int .i64 m] (w.drewN (a + N)) fun e w' => e = .returned (.int .i64 n) ∧ ∃ j, w' = w.drewN (a + j) :=
  (trystref01_Length.calls k c y m n _ h).mono fun e w' ⟨he, ⟨j, hj⟩⟩ => ⟨he, N + j, by rw [hj, World.drewN_drewN, Nat.add_assoc]⟩

set_option maxHeartbeats 4000000 in
set_option maxRecDepth 100000 in
theorem trystref01_Day.calls (k : Nat) (c y m d r1 r2 : Int) (w : World) (h : trystref01_Day.f k c y m d = some (r1, r2)) :
    Calls Try.prog 18 #[.int .i64 c, .agg #[.int .i64 y, .int .i64 m, .int .i64 d]] w
      fun e w' => e = .returned (.tuple #[.int .i64 r1, .int .i64 r2]) ∧ Below w.heap.size w w' := by
  unfold trystref01_Day.f at h
  obtain ⟨⟨a, b⟩, hy, h⟩ := Option.bind_eq_some_iff.mp h
  have HY := Lib.hid hy; clear hy
  simp only at h
  by_cases h1 : y < a
  · rw [if_pos (Or.inl h1)] at h
    simp only [Option.some.injEq, Prod.mk.injEq] at h
    obtain ⟨rfl, rfl⟩ := h
    have b1 : decide (y < a) = true := decide_eq_true h1
    go_enter Try.func18, Try.ntmps18
    go_wp2_with (go_at_call 36; refine (trystref01_years.calls c a b _ HY.out).mono ?_; rintro e w' ⟨rfl, ⟨nd, rfl⟩⟩)
    go_quiet (fail)
    go_wp2
    go_ret2
    exact ⟨rfl, by repeat (first | exact (Below.refl _ _).alloc (Nat.le_refl _) _ | apply pw_below_drewN)⟩
  by_cases h2 : b < y
  · rw [if_pos (Or.inr (Or.inl h2))] at h
    simp only [Option.some.injEq, Prod.mk.injEq] at h
    obtain ⟨rfl, rfl⟩ := h
    have b1 : decide (y < a) = false := decide_eq_false h1
    have b2 : decide (b < y) = true := decide_eq_true h2
    go_enter Try.func18, Try.ntmps18
    go_wp2_with (go_at_call 36; refine (trystref01_years.calls c a b _ HY.out).mono ?_; rintro e w' ⟨rfl, ⟨nd, rfl⟩⟩)
    go_quiet (fail)
    go_wp2
    go_ret2
    exact ⟨rfl, by repeat (first | exact (Below.refl _ _).alloc (Nat.le_refl _) _ | apply pw_below_drewN)⟩
  by_cases h3 : c = 5 ∧ y = 0
  · rw [if_pos (Or.inr (Or.inr (Or.inl h3)))] at h
    simp only [Option.some.injEq, Prod.mk.injEq] at h
    obtain ⟨rfl, rfl⟩ := h
    have b1 : decide (y < a) = false := decide_eq_false h1
    have b2 : decide (b < y) = false := decide_eq_false h2
    have b3 : (c == 5) = true := beq_iff_eq.2 h3.1
    have b4 : (y == 0) = true := beq_iff_eq.2 h3.2
    clear h3
    go_enter Try.func18, Try.ntmps18
    go_wp2_with (go_at_call 36; refine (trystref01_years.calls c a b _ HY.out).mono ?_; rintro e w' ⟨rfl, ⟨nd, rfl⟩⟩)
    go_quiet (fail)
    go_wp2
    go_ret2
    exact ⟨rfl, by repeat (first | exact (Below.refl _ _).alloc (Nat.le_refl _) _ | apply pw_below_drewN)⟩
  have b1 : decide (y < a) = false := decide_eq_false h1
  have b2 : decide (b < y) = false := decide_eq_false h2
  have h4 : (c == 5) = false ∨ ((c == 5) = true ∧ (y == 0) = false) := by
    by_cases e : c = 5
    · exact Or.inr ⟨beq_iff_eq.2 e, beq_eq_false_iff_ne.2 (fun z => h3 ⟨e, z⟩)⟩
    · exact Or.inl (beq_eq_false_iff_ne.2 e)
  by_cases h5 : d < 1
  · rw [if_pos (Or.inr (Or.inr (Or.inr h5)))] at h
    simp only [Option.some.injEq, Prod.mk.injEq] at h
    obtain ⟨rfl, rfl⟩ := h
    have b5 : decide (d < 1) = true := decide_eq_true h5
    clear h1 h2 h3 h5
    rcases h4 with b3 | ⟨b3, b4⟩
    all_goals
      go_enter Try.func18, Try.ntmps18
      go_wp2_with (go_at_call 36; refine (trystref01_years.calls c a b _ HY.out).mono ?_; rintro e w' ⟨rfl, ⟨nd, rfl⟩⟩)
      go_quiet (fail)
      go_wp2
      go_ret2
      exact ⟨rfl, by repeat (first | exact (Below.refl _ _).alloc (Nat.le_refl _) _ | apply pw_below_drewN)⟩
  rw [if_neg (by intro z; rcases z with z | z | z | z <;> contradiction)] at h
  obtain ⟨n, hn, h⟩ := Option.bind_eq_some_iff.mp h
  have HN := Lib.hid hn; clear hn
  have b5 : decide (d < 1) = false := decide_eq_false h5
  by_cases h6 : n < d
  · rw [if_pos h6] at h
    simp only [Option.some.injEq, Prod.mk.injEq] at h
    obtain ⟨rfl, rfl⟩ := h
    have b6 : decide (n < d) = true := decide_eq_true h6
    clear h1 h2 h3 h5 h6
    rcases h4 with b3 | ⟨b3, b4⟩
    all_goals
      go_enter Try.func18, Try.ntmps18
      go_wp2_with (go_at_call 36; refine (trystref01_years.calls c a b _ HY.out).mono ?_; rintro e w' ⟨rfl, ⟨nd, rfl⟩⟩)
      go_quiet ((go_at_call 37; exact trystref01_Day.quiet_len k c y m n HN.out _))
      go_wp2
      go_ret2
      exact ⟨rfl, by repeat (first | exact (Below.refl _ _).alloc (Nat.le_refl _) _ | apply pw_below_drewN)⟩
  rw [if_neg h6] at h
  have b6 : decide (n < d) = false := decide_eq_false h6
  obtain ⟨f, hf, h⟩ := Option.bind_eq_some_iff.mp h
  have HF := Lib.hid hf; clear hf
  obtain ⟨q, hq, h⟩ := Option.bind_eq_some_iff.mp h
  have HQ := Lib.hid hq; clear hq
  clear h1 h2 h3 h5 h6
  cases q
  all_goals
    simp only [if_true, if_false, Bool.false_eq_true, Option.some.injEq, Prod.mk.injEq] at h
    obtain ⟨rfl, rfl⟩ := h
    rcases h4 with b3 | ⟨b3, b4⟩
    all_goals
      go_enter Try.func18, Try.ntmps18
      go_wp2_with (go_at_call 36; refine (trystref01_years.calls c a b _ HY.out).mono ?_; rintro e w' ⟨rfl, ⟨nd, rfl⟩⟩)
      go_quiet ((go_at_call 37; exact trystref01_Day.quiet_len k c y m n HN.out _))
      go_wp2_with (first
        | (go_at_call 33; refine (trystref01_Fixed.calls k c y m d _ _ HF.out).mono ?_; rintro e w' ⟨rfl, ⟨nd2, rfl⟩⟩)
        | (go_at_call 24; refine (trystref01_In.calls _ _ _ HQ.out).mono ?_; rintro e w' ⟨rfl, ⟨nd3, rfl⟩⟩))
      go_ret2
      exact ⟨rfl, by repeat (first | exact (Below.refl _ _).alloc (Nat.le_refl _) _ | apply pw_below_drewN)⟩
end Go.Proofs.Ythppkdbelmolbaa.Q
