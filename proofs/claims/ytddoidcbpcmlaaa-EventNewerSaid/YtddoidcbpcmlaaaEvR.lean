/- What four operations do at an event that holds a sequence and a stamp: built, laid, stored, loaded: its cells closed. -/
import Derived.Test.YtddoidcbpcmlaaaNewerW
namespace Go.Proofs.Ytddoidcbpcmlaaa.EvR
open Go.RowKit Go.Proofs.YtddoidcbpcmlaaaW.PrintWords Go.Proofs.YtddoidcbpcmlaaaW.PrintLast Go.Proofs.Ytddoidcbpcmlaaa.NewerW
set_option linter.unusedVariables false
set_option linter.unusedSimpArgs false
abbrev T : TypeId := 36
theorem xbuild {ρ : Operand → Value} {o : Oper} (x y : Operand) (s t : Int) (hop : o.op = .build T #[(1, x), (2, y)]) (hx : ρ x = .int .i64 s) (hy : ρ y = .int .i64 t) (w : World) : (execOp ρ o).run Try.prog w = .ok (.value (.agg (ev s t))) w := by
  unfold execOp
  rw [hop]
  have e : (#[(1, x), (2, y)] : Array (Nat × Operand)).map (fun p => (p.1, ρ p.2)) = #[(1, .int .i64 s), (2, .int .i64 t)] := by simp [hx, hy]
  show (do pure (Next.value (← Instr.build T ((#[(1, x), (2, y)] : Array (Nat × Operand)).map (fun p => (p.1, ρ p.2))))) : Sem Next).run Try.prog w = _
  rw [e, Sem.run_bind, bev]
  rfl
theorem xalloc {ρ : Operand → Value} {o : Oper} (hop : o.op = .alloc T) (w : World) : (execOp ρ o).run Try.prog w = .ok (.value (.pointer (some ⟨w.heap.size, 0, none⟩))) (w.alloc (.cells (ev 0 0) T (0, 0))) := by
  unfold execOp
  rw [hop]
  have hz := zev w
  show (do pure (Next.value (← Instr.alloc T true (.tuple #[]))) : Sem Next).run Try.prog w = _
  simp [Instr.alloc, hz, go_sem]
theorem xstore {ρ : Operand → Value} {o : Oper} (p x : Operand) (g : Nat) (s t : Int) (hop : o.op = .store T p x) (hp : ρ p = .pointer (some ⟨g, 0, none⟩)) (hx : ρ x = .agg (ev s t)) (w : World) (hg : w.heap[g]? = some (.cells (ev 0 0) T (0, 0))) : (execOp ρ o).run Try.prog w = .ok .skip (w.setRow g (ev s t)) := by
  unfold execOp
  rw [hop]
  show (do Instr.storeAt T (ρ p) (ρ x); pure Next.skip : Sem Next).run Try.prog w = _
  rw [hp, hx]
  simp only [Instr.storeAt, Instr.sureAddr, Sem.run_bind, Sem.run_pure, Result.andThen_ok, stev w g s t hg]
theorem xload {ρ : Operand → Value} {o : Oper} (p : Operand) (g : Nat) (s t : Int) (hop : o.op = .load T p) (hp : ρ p = .pointer (some ⟨g, 0, none⟩)) (w : World) (hg : w.heap[g]? = some (.cells (ev s t) T (0, 0))) : (execOp ρ o).run Try.prog w = .ok (.value (.agg (ev s t))) w := by
  unfold execOp
  rw [hop]
  show (do pure (Next.value (← Instr.loadAt T (ρ p))) : Sem Next).run Try.prog w = _
  rw [hp]
  simp only [Instr.loadAt, Instr.sureAddr, Sem.run_bind, Sem.run_pure, Result.andThen_ok, ldev w g s t hg]
/-- Newer, its answer closed. -/
@[irreducible] def nw (s t s' t' : Int) : Bool := decide (s' < s) || (s == s' && decide (t' < t))
theorem newerN (s t s' t' : Int) (w : World) :
    Calls Try.prog 10 #[.agg (ev s t), .agg (ev s' t')] w fun e w' => e = .returned (.bool (nw s t s' t')) ∧ Below w.heap.size w w' := by
  unfold nw; exact newerE s t s' t' w
theorem nw_asym (s t s' t' : Int) (h : nw s t s' t' = true) : nw s' t' s t = false := by
  unfold nw at h ⊢
  cases q : (decide (s < s') || (s' == s && decide (t < t'))) with
  | false => rfl
  | true =>
    exfalso
    simp at h q
    omega
theorem nw_tot (s t s' t' : Int) (h : nw s t s' t' = false) (h2 : nw s' t' s t = false) : s = s' ∧ t = t' := by
  unfold nw at h h2
  simp at h h2
  by_cases c : s = s'
  · subst c
    have := h.2 rfl
    have := h2.2 rfl
    exact ⟨rfl, by omega⟩
  · omega
theorem nw_trans (s t s' t' s2 t2 : Int) (h : nw s t s' t' = true) (h2 : nw s' t' s2 t2 = true) : nw s t s2 t2 = true := by
  unfold nw at h h2 ⊢
  simp at h h2 ⊢
  omega
theorem nw_self (s t : Int) : nw s t s t = false := by unfold nw; simp
theorem newerSelf (s t : Int) (w : World) :
    Calls Try.prog 10 #[.agg (ev s t), .agg (ev s t)] w fun e w' => e = .returned (.bool false) ∧ Below w.heap.size w w' := by
  have h := newerN s t s t w
  rw [nw_self] at h
  exact h
end Go.Proofs.Ytddoidcbpcmlaaa.EvR
