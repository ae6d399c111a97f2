/- Newer of two events that hold nothing but a sequence and a stamp. -/
import Derived.Test.YtddoidcbpcmlaaaQ0
import Derived.Laws.Tables
import Derived.Lib.Hide
namespace Go.Proofs.Ytddoidcbpcmlaaa.NewerW
open Go.RowKit Go.Proofs.YtddoidcbpcmlaaaW.PrintWords Go.Proofs.YtddoidcbpcmlaaaW.PrintLast Go.Proofs.Ytddoidcbpcmlaaa.Q
set_option linter.unusedVariables false
set_option linter.unusedSimpArgs false
/-- The cells of an event of a sequence and a stamp. -/
abbrev evc (s t : Int) : Array Value := #[.string ⟨#[]⟩, .int .i64 s, .int .i64 t, .int .i64 0, .int .i64 0, .string ⟨#[]⟩, .bool false, .int .i64 0, .int .i64 0, .int .i64 0, .int .i64 0, .int .i64 0, .string ⟨#[]⟩, .bool false, .int .i64 0, .slice none 0 0, .slice none 0 0, .slice none 0 0, .slice none 0 0, .slice none 0 0, .slice none 0 0, .slice none 0 0, .slice none 0 0, .slice none 0 0, .slice none 0 0, .slice none 0 0, .int .i64 0, .string ⟨#[]⟩, .string ⟨#[]⟩, .int .i64 0, .string ⟨#[]⟩, .slice none 0 0, .bool false, .int .i64 0, .int .i64 0, .string ⟨#[]⟩, .bool false, .slice none 0 0]
set_option maxHeartbeats 8000000 in
set_option maxRecDepth 100000 in
theorem newer_gt (s t s' t' : Int) (w : World) (h : s' < s) :
    Calls Try.prog 10 #[.agg (evc s t), .agg (evc s' t')] w fun e w' => e = .returned (.bool true) ∧ Below w.heap.size w w' := by
  have b0 : decide (s' < s) = true := decide_eq_true h
  clear h
  go_enter Try.func10, Try.ntmps10
  go_wp2
  go_ret
  exact ⟨rfl, by repeat (with_reducible first | exact Below.refl _ _ | apply pw_below_drewN | apply below_alloc)⟩
set_option maxHeartbeats 8000000 in
set_option maxRecDepth 100000 in
theorem newer_lt (s t s' t' : Int) (w : World) (h : ¬ s' < s) (h2 : ¬ s = s') :
    Calls Try.prog 10 #[.agg (evc s t), .agg (evc s' t')] w fun e w' => e = .returned (.bool false) ∧ Below w.heap.size w w' := by
  have b0 : decide (s' < s) = false := decide_eq_false h
  have b1 : (s == s') = false := beq_eq_false_iff_ne.mpr h2
  clear h h2
  go_enter Try.func10, Try.ntmps10
  go_wp2
  go_ret
  exact ⟨rfl, by repeat (with_reducible first | exact Below.refl _ _ | apply pw_below_drewN | apply below_alloc)⟩
set_option maxHeartbeats 8000000 in
set_option maxRecDepth 100000 in
theorem newer_eq (s t t' : Int) (w : World) :
    Calls Try.prog 10 #[.agg (evc s t), .agg (evc s t')] w fun e w' => e = .returned (.bool (decide (t' < t))) ∧ Below w.heap.size w w' := by
  have b0 : decide (s < s) = false := decide_eq_false (by omega)
  have b1 : (s == s) = true := beq_iff_eq.mpr rfl
  go_enter Try.func10, Try.ntmps10
  go_wp2
  go_ret
  exact ⟨rfl, by repeat (with_reducible first | exact Below.refl _ _ | apply pw_below_drewN | apply below_alloc)⟩
theorem newer (s t s' t' : Int) (w : World) :
    Calls Try.prog 10 #[.agg (evc s t), .agg (evc s' t')] w fun e w' => e = .returned (.bool (decide (s' < s) || (s == s' && decide (t' < t)))) ∧ Below w.heap.size w w' := by
  by_cases h : s' < s
  · refine (newer_gt s t s' t' w h).mono ?_
    rintro e w' ⟨rfl, hB⟩
    exact ⟨by rw [decide_eq_true h]; rfl, hB⟩
  · by_cases h2 : s = s'
    · subst h2
      refine (newer_eq s t t' w).mono ?_
      rintro e w' ⟨rfl, hB⟩
      exact ⟨by rw [decide_eq_false h]; simp, hB⟩
    · refine (newer_lt s t s' t' w h h2).mono ?_
      rintro e w' ⟨rfl, hB⟩
      exact ⟨by rw [decide_eq_false h, beq_eq_false_iff_ne.mpr h2]; rfl, hB⟩
/-- The same cells, closed to simp. -/
@[irreducible] def ev (s t : Int) : Array Value := evc s t
theorem ev_size (s t : Int) : (ev s t).size = 38 := by unfold ev; rfl
theorem zev (w : World) : (zeroValue 36).run Try.prog w = .ok (.agg (ev 0 0)) w := by unfold ev; exact Try.zeroValue36 w
set_option maxRecDepth 100000 in
theorem bev (w : World) (s t : Int) : (Instr.build 36 #[(1, .int .i64 s), (2, .int .i64 t)]).run Try.prog w = .ok (.agg (ev s t)) w := run_build w _ _ _ (by unfold ev; kernel_rfl)
theorem stev (W : World) (g : Nat) (s t : Int) (hg : W.heap[g]? = some (.cells (ev 0 0) 36 (0, 0))) : (storeVar 36 ⟨g, 0, none⟩ (.agg (ev s t))).run Try.prog W = .ok () (W.setRow g (ev s t)) :=
  run_storeVar_row W g 36 36 (ev 0 0) (ev s t) hg (by rw [ev_size]; kernel_rfl) (by rw [ev_size, ev_size]) (by unfold ev; kernel_rfl)
theorem ldev (W : World) (g : Nat) (s t : Int) (hg : W.heap[g]? = some (.cells (ev s t) 36 (0, 0))) : (loadVar 36 ⟨g, 0, none⟩).run Try.prog W = .ok (.agg (ev s t)) W :=
  run_loadVar_row W g 36 36 (ev s t) (0, 0) _ hg Try.underlying36 rfl (by rw [ev_size]; kernel_rfl)
theorem newerE (s t s' t' : Int) (w : World) :
    Calls Try.prog 10 #[.agg (ev s t), .agg (ev s' t')] w fun e w' => e = .returned (.bool (decide (s' < s) || (s == s' && decide (t' < t)))) ∧ Below w.heap.size w w' := by
  unfold ev; exact newer s t s' t' w
end Go.Proofs.Ytddoidcbpcmlaaa.NewerW
