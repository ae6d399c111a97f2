/- Add of any seconds and number is the specified seconds or an error, and there and back is the same: for all whole numbers of 64 bits, with no condition. -/
import Derived.Test.YthppkdbelmolbaaAwake7
namespace Go.Proofs.Ythppkdbelmolbaa.Pure
open Go.RowKit Go.Proofs.YthppkdbelmolbaaW.PrintWords Go.Proofs.YthppkdbelmolbaaW.PrintLast Go.Proofs.Ythppkdbelmolbaa.Q Go.Proofs.Ythppkdbelmolbaa.Cal Go.Proofs.Ythppkdbelmolbaa.FunA Go.Proofs.Ythppkdbelmolbaa.FunC Go.Proofs.Ythppkdbelmolbaa.Fmt Go.Proofs.Ythppkdbelmolbaa.Awake7
set_option linter.unusedVariables false
set_option linter.unusedSimpArgs false
namespace ClockAddsW
theorem cAdd_yes {a n : Int} (h : Ok a) (h' : Ok (a + n)) : clock_Add.f a n = some (a + n, 0) := by
  obtain ⟨h1, h2⟩ := h; obtain ⟨h3, h4⟩ := h'
  unfold clock_Add.f
  rw [cRight_yes ⟨h1, h2⟩, Option.bind_some, if_pos rfl, if_neg (by omega), if_neg (by omega), w64 (by omega) (by omega), cRight_yes ⟨h3, h4⟩, Option.bind_some, if_pos rfl]
theorem cAdd_no {a n : Int} (h : ¬ (Ok a ∧ Ok (a + n))) : clock_Add.f a n = some (0, 2) := by
  unfold clock_Add.f
  by_cases c : Ok a
  · rw [cRight_yes c, Option.bind_some, if_pos rfl]
    by_cases d : n > 315537984000
    · rw [if_pos d]
    · by_cases e : n < -315537984000
      · rw [if_neg d, if_pos e]
      · have := c.1; have := c.2
        rw [if_neg d, if_neg e, w64 (by omega) (by omega), cRight_no (fun z => h ⟨c, z⟩), Option.bind_some, if_neg (by simp)]
  · rw [cRight_no c, Option.bind_some, if_neg (by simp)]
theorem fRight_eq (a : Int) : trystref01_Right.f a = clock_Right.f a := rfl
set_option maxHeartbeats 4000000 in
set_option maxRecDepth 100000 in
theorem yes (a n : Int) (w : World) (h : Ok a) (h' : Ok (a + n)) :
    Calls Try.prog 3 #[.int .i64 a, .int .i64 n] w fun e w' => e = .returned (.bool true) ∧ Below w.heap.size w w' := by
  have e1 := cAdd_yes h h'
  have e2 : clock_Add.f (a + n) (-n) = some (a, 0) := by
    have e0 : a + n + -n = a := by omega
    have := cAdd_yes h' (n := -n) (by rw [e0]; exact h)
    rw [e0] at this; exact this
  have f1 : trystref01_Right.f a = some true := cRight_yes h
  have f2 : trystref01_Right.f (a + n) = some true := cRight_yes h'
  obtain ⟨h1, h2⟩ := h; obtain ⟨h3, h4⟩ := h'
  have E1 := Lib.hid e1; have E2 := Lib.hid e2; have F1 := Lib.hid f1; have F2 := Lib.hid f2
  clear e1 e2 f1 f2
  have b1 : decide (1099511627776 < n) = false := decide_eq_false (by omega)
  have b2 : decide (n < -1099511627776) = false := decide_eq_false (by omega)
  have hb : -1000000000000 ≤ n ∧ n ≤ 1000000000000 := by omega
  obtain ⟨hb1, hb2⟩ := hb
  have hs1 : 86400 ≤ a + n := h3
  have hs2 : a + n ≤ 315537984000 := by omega
  go_enter Try.func3, Try.ntmps3
  go_wp2_with fail
  refine (awake _).mono ?_
  rintro e wA ⟨rfl, hA⟩
  go_wp2_with fail
  refine (clock_Add.calls a n _ _ _ E1.out).mono ?_
  rintro e w1 ⟨rfl, ⟨n1, rfl⟩⟩
  go_wp2_with fail
  refine (trystref01_Right.calls a _ _ F1.out).mono ?_
  rintro e w1 ⟨rfl, ⟨n2, rfl⟩⟩
  go_wp2_with fail
  refine (trystref01_Right.calls (a + n) _ _ F2.out).mono ?_
  rintro e w1 ⟨rfl, ⟨n3, rfl⟩⟩
  go_wp2_with fail
  refine (clock_Add.calls (a + n) (-n) _ _ _ E2.out).mono ?_
  rintro e w1 ⟨rfl, ⟨n4, rfl⟩⟩
  go_wp2
  go_ret
  exact ⟨rfl, by repeat (with_reducible first | exact hA | apply pw_below_drewN)⟩
set_option maxHeartbeats 4000000 in
set_option maxRecDepth 100000 in
theorem no (a n : Int) (w : World) (hi : I64 a) (hn : I64 n) (h : ¬ (Ok a ∧ Ok (a + n))) :
    Calls Try.prog 3 #[.int .i64 a, .int .i64 n] w fun e w' => e = .returned (.bool true) ∧ Below w.heap.size w w' := by
  have E1 := Lib.hid (cAdd_no h)
  have k : (∃ q, trystref01_Right.f a = some q ∧ q = false) ∨ (trystref01_Right.f a = some true ∧ decide (1099511627776 < n) = true) ∨
      (trystref01_Right.f a = some true ∧ decide (1099511627776 < n) = false ∧ decide (n < -1099511627776) = true) ∨
      (trystref01_Right.f a = some true ∧ decide (1099511627776 < n) = false ∧ decide (n < -1099511627776) = false ∧ (0 ≤ a ∧ a ≤ 315537984000 ∧ -1099511627776 ≤ n ∧ n ≤ 1099511627776) ∧ trystref01_Right.f (a + n) = some false) := by
    by_cases c : Ok a
    · have f1 : trystref01_Right.f a = some true := cRight_yes c
      by_cases d : 1099511627776 < n
      · exact Or.inr (Or.inl ⟨f1, decide_eq_true d⟩)
      · by_cases e : n < -1099511627776
        · exact Or.inr (Or.inr (Or.inl ⟨f1, decide_eq_false d, decide_eq_true e⟩))
        · exact Or.inr (Or.inr (Or.inr ⟨f1, decide_eq_false d, decide_eq_false e, ⟨by have := c.1; omega, by have := c.2; omega, by omega, by omega⟩, cRight_no (fun z => h ⟨c, z⟩)⟩))
    · exact Or.inl ⟨false, cRight_no c, rfl⟩
  clear h hi hn
  rcases k with ⟨q, f1, rfl⟩ | ⟨f1, b1⟩ | ⟨f1, b1, b2⟩ | ⟨f1, b1, b2, ⟨hb1, hb2, hb3, hb4⟩, f2⟩
  · have F1 := Lib.hid f1; clear f1
    go_enter Try.func3, Try.ntmps3
    go_wp2_with fail
    refine (awake _).mono ?_
    rintro e wA ⟨rfl, hA⟩
    go_wp2_with fail
    refine (clock_Add.calls a n _ _ _ E1.out).mono ?_
    rintro e w1 ⟨rfl, ⟨n1, rfl⟩⟩
    go_wp2_with fail
    refine (trystref01_Right.calls a _ _ F1.out).mono ?_
    rintro e w1 ⟨rfl, ⟨n2, rfl⟩⟩
    go_wp2
    go_ret
    exact ⟨rfl, by repeat (with_reducible first | exact hA | apply pw_below_drewN)⟩
  · have F1 := Lib.hid f1; clear f1
    go_enter Try.func3, Try.ntmps3
    go_wp2_with fail
    refine (awake _).mono ?_
    rintro e wA ⟨rfl, hA⟩
    go_wp2_with fail
    refine (clock_Add.calls a n _ _ _ E1.out).mono ?_
    rintro e w1 ⟨rfl, ⟨n1, rfl⟩⟩
    go_wp2_with fail
    refine (trystref01_Right.calls a _ _ F1.out).mono ?_
    rintro e w1 ⟨rfl, ⟨n2, rfl⟩⟩
    go_wp2
    go_ret
    exact ⟨rfl, by repeat (with_reducible first | exact hA | apply pw_below_drewN)⟩
  · have F1 := Lib.hid f1; clear f1
    go_enter Try.func3, Try.ntmps3
    go_wp2_with fail
    refine (awake _).mono ?_
    rintro e wA ⟨rfl, hA⟩
    go_wp2_with fail
    refine (clock_Add.calls a n _ _ _ E1.out).mono ?_
    rintro e w1 ⟨rfl, ⟨n1, rfl⟩⟩
    go_wp2_with fail
    refine (trystref01_Right.calls a _ _ F1.out).mono ?_
    rintro e w1 ⟨rfl, ⟨n2, rfl⟩⟩
    go_wp2
    go_ret
    exact ⟨rfl, by repeat (with_reducible first | exact hA | apply pw_below_drewN)⟩
  · have F1 := Lib.hid f1; have F2 := Lib.hid f2; clear f1 f2
    go_enter Try.func3, Try.ntmps3
    go_wp2_with fail
    refine (awake _).mono ?_
    rintro e wA ⟨rfl, hA⟩
    go_wp2_with fail
    refine (clock_Add.calls a n _ _ _ E1.out).mono ?_
    rintro e w1 ⟨rfl, ⟨n1, rfl⟩⟩
    go_wp2_with fail
    refine (trystref01_Right.calls a _ _ F1.out).mono ?_
    rintro e w1 ⟨rfl, ⟨n2, rfl⟩⟩
    go_wp2_with fail
    refine (trystref01_Right.calls (a + n) _ _ F2.out).mono ?_
    rintro e w1 ⟨rfl, ⟨n3, rfl⟩⟩
    go_wp2
    go_ret
    exact ⟨rfl, by repeat (with_reducible first | exact hA | apply pw_below_drewN)⟩
end ClockAddsW
theorem ClockAdds_calls (a n : Int) (w : World) (wa : (Lit.int .i64 a).wf = true) (wn : (Lit.int .i64 n).wf = true) :
    Calls Try.prog 3 #[.int .i64 a, .int .i64 n] w fun e w' => e = .returned (.bool true) ∧ Below w.heap.size w w' := by
  by_cases h : Ok a ∧ Ok (a + n)
  · exact ClockAddsW.yes a n w h.1 h.2
  · exact ClockAddsW.no a n w (wf_i64 wa) (wf_i64 wn) h
end Go.Proofs.Ythppkdbelmolbaa.Pure
