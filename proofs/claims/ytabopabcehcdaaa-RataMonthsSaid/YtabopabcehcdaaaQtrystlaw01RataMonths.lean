-- written by a program of this session (wip/own_print.sh)
import Derived.Test.YtabopabcehcdaaaQ0
import Derived.Test.YtabopabcehcdaaaQrefA
import Derived.Test.YtabopabcehcdaaaQrefL
import Derived.Test.YtabopabcehcdaaaQrataB
namespace Go.Proofs.Ytabopabcehcdaaa.Q
open Go.RowKit Go.Proofs.YtabopabcehcdaaaW.PrintWords Go.Proofs.YtabopabcehcdaaaW.PrintLast Go.Proofs.YtabopabcehcdaaaW.PrintMore
attribute [local go_sem] max2_int min2_int max_two min_two max_three min_three max_four min_four   -- for this text's walks alone
set_option linter.unusedVariables false
set_option linter.unusedSimpArgs false

/-! ### trystlaw01_RataMonths: function 5 -/
def trystlaw01_RataMonths.f (k : Nat) (a0 : Int) (a1 : Int) : Option (Bool) := (trystlaw01_awake.f k).bind fun t205 => (if t205 = true then ((rata_Leap.f (wrap64 (a0))).bind fun t206 => ((trystref01_Leap.f (wrap64 (a0))).bind fun t207 => (if (t206 == t207) = true then ((rata_Length.f k (wrap64 (a0)) a1).bind fun t208 => ((trystref01_Length.f k 0 (wrap64 (a0)) a1).bind fun t209 => (some (t208 == t209)))) else (some false)))) else (some false))
theorem trystlaw01_RataMonths.mono : ∀ a0 a1 k, LeO (trystlaw01_RataMonths.f k a0 a1) (trystlaw01_RataMonths.f (k + 1) a0 a1) := by
  intro a0 a1 k
  unfold trystlaw01_RataMonths.f
  repeat' first
      | (with_reducible exact rata_Length.mono _ _ _)
      | (with_reducible exact trystlaw01_awake.mono _)
      | (with_reducible exact trystref01_Length.mono _ _ _ _)
      | (with_reducible exact LeO.refl _)
      | (with_reducible exact LeO.none _)
      | (with_reducible refine LeO.ite ?_ ?_)
      | (with_reducible refine LeO.bind ?_ (fun _ => ?_))
      | exact rata_Length.mono _ _ _
      | exact trystlaw01_awake.mono _
      | exact trystref01_Length.mono _ _ _ _
      | exact LeO.none _
      | refine LeO.ite ?_ ?_
      | refine LeO.bind ?_ (fun _ => ?_)
set_option maxHeartbeats 8000000 in
set_option maxRecDepth 100000 in
theorem trystlaw01_RataMonths.calls (k : Nat) (a0 : Int) (a1 : Int) (r : Bool) (w : World) (h : trystlaw01_RataMonths.f k a0 a1 = some r) :
    Calls Try.prog 5 #[.int .i16 a0, .int .i64 a1] w fun e w' => e = .returned (.bool r) ∧ Below w.heap.size w w' := by
  have HB := Aside0.mk (Below.refl w.heap.size w)
  have H : ((trystlaw01_awake.f k).bind fun t205 => (if t205 = true then ((rata_Leap.f (wrap64 (a0))).bind fun t206 => ((trystref01_Leap.f (wrap64 (a0))).bind fun t207 => (if (t206 == t207) = true then ((rata_Length.f k (wrap64 (a0)) a1).bind fun t208 => ((trystref01_Length.f k 0 (wrap64 (a0)) a1).bind fun t209 => (some (t208 == t209)))) else (some false)))) else (some false))) = some r := h
  clear h
  replace H := Option.bind_eq_some_iff.mp H
  obtain ⟨t205, A30, H⟩ := H
  replace H : (if t205 = true then ((rata_Leap.f (wrap64 (a0))).bind fun t206 => ((trystref01_Leap.f (wrap64 (a0))).bind fun t207 => (if (t206 == t207) = true then ((rata_Length.f k (wrap64 (a0)) a1).bind fun t208 => ((trystref01_Length.f k 0 (wrap64 (a0)) a1).bind fun t209 => (some (t208 == t209)))) else (some false)))) else (some false)) = some r := H
  have A3 := Aside0.mk A30
  clear A30
  by_cases c4 : t205 = true
  · subst c4
    have H1 : ((rata_Leap.f (wrap64 (a0))).bind fun t206 => ((trystref01_Leap.f (wrap64 (a0))).bind fun t207 => (if (t206 == t207) = true then ((rata_Length.f k (wrap64 (a0)) a1).bind fun t208 => ((trystref01_Length.f k 0 (wrap64 (a0)) a1).bind fun t209 => (some (t208 == t209)))) else (some false)))) = some r := by rw [if_pos rfl] at H; exact H
    clear H
    have H := H1
    clear H1
    replace H := Option.bind_eq_some_iff.mp H
    obtain ⟨t206, A50, H⟩ := H
    replace H : ((trystref01_Leap.f (wrap64 (a0))).bind fun t207 => (if (t206 == t207) = true then ((rata_Length.f k (wrap64 (a0)) a1).bind fun t208 => ((trystref01_Length.f k 0 (wrap64 (a0)) a1).bind fun t209 => (some (t208 == t209)))) else (some false))) = some r := H
    have A5 := Aside0.mk A50
    clear A50
    replace H := Option.bind_eq_some_iff.mp H
    obtain ⟨t207, A60, H⟩ := H
    replace H : (if (t206 == t207) = true then ((rata_Length.f k (wrap64 (a0)) a1).bind fun t208 => ((trystref01_Length.f k 0 (wrap64 (a0)) a1).bind fun t209 => (some (t208 == t209)))) else (some false)) = some r := H
    have A6 := Aside0.mk A60
    clear A60
    by_cases c7 : (t206 == t207) = true
    · rw [if_pos c7] at H
      have c7b0 : (t206 == t207) = true := c7
      (try (have c7b1 : decide (t206 = t207) = true := by simpa using c7))
      (try (have c7b2 : (t206 == t207) = true := by simpa using c7))
      clear c7
      replace H := Option.bind_eq_some_iff.mp H
      obtain ⟨t208, A80, H⟩ := H
      replace H : ((trystref01_Length.f k 0 (wrap64 (a0)) a1).bind fun t209 => (some (t208 == t209))) = some r := H
      have A8 := Aside0.mk A80
      clear A80
      replace H := Option.bind_eq_some_iff.mp H
      obtain ⟨t209, A90, H⟩ := H
      replace H : (some (t208 == t209)) = some r := H
      have A9 := Aside0.mk A90
      clear A90
      obtain rfl := Option.some.inj H
      go_enter Try.func5, Try.ntmps5
      go_wp2_with (first | ((with_reducible refine gate_callee (f := 24) rfl ?_); refine goesL_ (some 6) rfl rfl Try.func24 (by kernel_rfl) rfl #[] rfl (by (try simp only [List.map_toArray, List.map_cons, List.map_nil]); first | done | rfl | (simp only [List.length_drop, List.length_take]; rfl)) ?_; (with_reducible refine (trystlaw01_awake.calls k  true _ A3.out).mono ?_); rintro e w10 ⟨rfl, hb⟩; refine ⟨_, rfl, ?_⟩; have n0_ := Aside0.mk (below_step (by repeat (first | (with_reducible first | exact HB.out | apply below_alloc | apply pw_below_drewN | apply below_drew1) | exact HB.out)) hb); clear HB; have HB := n0_; clear n0_; (try clear hb); (try clear hb2); (try clear hk); (try clear hi)) | ((with_reducible refine gate_callee (f := 27) rfl ?_); refine goesL_ (some 11) rfl rfl Try.func27 (by kernel_rfl) rfl #[.int .i64 (wrap64 (a0))] rfl (by (try simp only [List.map_toArray, List.map_cons, List.map_nil]); first | done | rfl | (simp only [List.length_drop, List.length_take]; rfl)) ?_; (with_reducible refine (rata_Leap.calls (wrap64 (a0)) t206 _ A5.out).mono ?_); rintro e w' ⟨rfl, ⟨nd, rfl⟩⟩; refine ⟨_, rfl, ?_⟩) | ((with_reducible refine gate_callee (f := 28) rfl ?_); refine goesL_ (some 13) rfl rfl Try.func28 (by kernel_rfl) rfl #[.int .i64 (wrap64 (a0))] rfl (by (try simp only [List.map_toArray, List.map_cons, List.map_nil]); first | done | rfl | (simp only [List.length_drop, List.length_take]; rfl)) ?_; (with_reducible refine (trystref01_Leap.calls (wrap64 (a0)) t207 _ A6.out).mono ?_); rintro e w' ⟨rfl, ⟨nd, rfl⟩⟩; refine ⟨_, rfl, ?_⟩) | (go_at_call 29; (with_reducible refine (rata_Length.calls k (wrap64 (a0)) a1 t208 _ A8.out).mono ?_); rintro e w' ⟨rfl, ⟨nd, rfl⟩⟩) | (go_at_call 30; (with_reducible refine (trystref01_Length.calls k 0 (wrap64 (a0)) a1 t209 _ A9.out).mono ?_); rintro e w' ⟨rfl, ⟨nd, rfl⟩⟩))
      go_ret
      exact ⟨by first | rfl | (simp [errW_none, errW_some] <;> rfl) | (simp [*, errW_none, errW_some] <;> rfl), by repeat (first | (with_reducible first | exact HB.out | apply below_alloc | apply pw_below_drewN | apply below_drew1) | exact HB.out)⟩
    · rw [if_neg c7] at H
      have c7b0 : (t206 == t207) = false := by simpa using c7
      (try (have c7b1 : decide (t206 = t207) = false := by simpa using c7))
      (try (have c7b2 : (t206 == t207) = false := by simpa using c7))
      (try (have c7b3 : ¬ (t206 = t207) := by simpa using c7))
      clear c7
      obtain rfl := Option.some.inj H
      go_enter Try.func5, Try.ntmps5
      go_wp2_with (first | ((with_reducible refine gate_callee (f := 24) rfl ?_); refine goesL_ (some 6) rfl rfl Try.func24 (by kernel_rfl) rfl #[] rfl (by (try simp only [List.map_toArray, List.map_cons, List.map_nil]); first | done | rfl | (simp only [List.length_drop, List.length_take]; rfl)) ?_; (with_reducible refine (trystlaw01_awake.calls k  true _ A3.out).mono ?_); rintro e w11 ⟨rfl, hb⟩; refine ⟨_, rfl, ?_⟩; have n0_ := Aside0.mk (below_step (by repeat (first | (with_reducible first | exact HB.out | apply below_alloc | apply pw_below_drewN | apply below_drew1) | exact HB.out)) hb); clear HB; have HB := n0_; clear n0_; (try clear hb); (try clear hb2); (try clear hk); (try clear hi)) | ((with_reducible refine gate_callee (f := 27) rfl ?_); refine goesL_ (some 11) rfl rfl Try.func27 (by kernel_rfl) rfl #[.int .i64 (wrap64 (a0))] rfl (by (try simp only [List.map_toArray, List.map_cons, List.map_nil]); first | done | rfl | (simp only [List.length_drop, List.length_take]; rfl)) ?_; (with_reducible refine (rata_Leap.calls (wrap64 (a0)) t206 _ A5.out).mono ?_); rintro e w' ⟨rfl, ⟨nd, rfl⟩⟩; refine ⟨_, rfl, ?_⟩) | ((with_reducible refine gate_callee (f := 28) rfl ?_); refine goesL_ (some 13) rfl rfl Try.func28 (by kernel_rfl) rfl #[.int .i64 (wrap64 (a0))] rfl (by (try simp only [List.map_toArray, List.map_cons, List.map_nil]); first | done | rfl | (simp only [List.length_drop, List.length_take]; rfl)) ?_; (with_reducible refine (trystref01_Leap.calls (wrap64 (a0)) t207 _ A6.out).mono ?_); rintro e w' ⟨rfl, ⟨nd, rfl⟩⟩; refine ⟨_, rfl, ?_⟩))
      go_ret
      exact ⟨by first | rfl | (simp [errW_none, errW_some] <;> rfl) | (simp [*, errW_none, errW_some] <;> rfl), by repeat (first | (with_reducible first | exact HB.out | apply below_alloc | apply pw_below_drewN | apply below_drew1) | exact HB.out)⟩
  · replace c4 := Bool.eq_false_iff.mpr c4
    subst c4
    have H1 : (some false) = some r := by rw [if_neg (show ¬ (false = true) by decide)] at H; exact H
    clear H
    have H := H1
    clear H1
    obtain rfl := Option.some.inj H
    go_enter Try.func5, Try.ntmps5
    go_wp2_with (first | ((with_reducible refine gate_callee (f := 24) rfl ?_); refine goesL_ (some 6) rfl rfl Try.func24 (by kernel_rfl) rfl #[] rfl (by (try simp only [List.map_toArray, List.map_cons, List.map_nil]); first | done | rfl | (simp only [List.length_drop, List.length_take]; rfl)) ?_; (with_reducible refine (trystlaw01_awake.calls k  false _ A3.out).mono ?_); rintro e w12 ⟨rfl, hb⟩; refine ⟨_, rfl, ?_⟩; have n0_ := Aside0.mk (below_step (by repeat (first | (with_reducible first | exact HB.out | apply below_alloc | apply pw_below_drewN | apply below_drew1) | exact HB.out)) hb); clear HB; have HB := n0_; clear n0_; (try clear hb); (try clear hb2); (try clear hk); (try clear hi)))
    go_ret
    exact ⟨by first | rfl | (simp [errW_none, errW_some] <;> rfl) | (simp [*, errW_none, errW_some] <;> rfl), by repeat (first | (with_reducible first | exact HB.out | apply below_alloc | apply pw_below_drewN | apply below_drew1) | exact HB.out)⟩

/-- THE ONE PURE STATEMENT of trystlaw01_RataMonths: yours. -/
def trystlaw01_RataMonths.Pure : Prop := ∀ (a0 : Int) (a1 : Int), (Lit.int .i16 a0).wf = true → (Lit.int .i64 a1).wf = true → ∃ k, trystlaw01_RataMonths.f k a0 a1 = some true
theorem trystlaw01_RataMonths.walk (P : trystlaw01_RataMonths.Pure) (a0 : Int) (a1 : Int) (w : World) (w0 : (Lit.int .i16 a0).wf = true) (w1 : (Lit.int .i64 a1).wf = true) :
    Calls Try.prog 5 #[.int .i16 a0, .int .i64 a1] w fun e w' => e = .returned (.bool true) ∧ Below w.heap.size w w' := by
  obtain ⟨k, h⟩ := P a0 a1 w0 w1
  refine (trystlaw01_RataMonths.calls k a0 a1 true w h).mono ?_
  rintro e w' ⟨rfl, hd⟩
  exact ⟨rfl, hd⟩

end Go.Proofs.Ytabopabcehcdaaa.Q
