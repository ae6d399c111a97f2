/- An array of two or three whole numbers by value, as a row's reading has it: taken apart, and put together. -/
import Derived.Test.YtddoidcbpcmlaaaRows
import Derived.Lib.SmallJoins
import Derived.Laws.IdiomArrays
import Derived.OpenShut
namespace Go.Proofs.Ytddoidcbpcmlaaa.Arr
open Go.ChangeShapes Go.RowKit
variable {H : Type} {enc : TypeId × Value → H} {P : Program} {w : World} {base : Nat} {spare : Nat → Bool} {held : Bool}

theorem list3 : ∀ l : List Value, l.length = 3 → ∃ a b c, l = [a, b, c]
  | [a, b, c], _ => ⟨a, b, c, rfl⟩
theorem list2 : ∀ l : List Value, l.length = 2 → ∃ a b, l = [a, b]
  | [a, b], _ => ⟨a, b, rfl⟩
theorem trod_array2 {t e : TypeId} {fuel : Nat} {c0 c1 : Value} {x : DataW H × List MemPlace} (ht : P.underlying t = some (.array 2 e)) (hce : P.cellsOf e = 1)
    (h : DataW.trod enc P w base spare held fuel t [c0, c1] = some x) :
    ∃ y0 y1 n, x = (.agg [y0.1, y1.1], y0.2 ++ y1.2) ∧ DataW.trod enc P w base spare held n e [c0] = some y0 ∧ DataW.trod enc P w base spare held n e [c1] = some y1 := by
  cases fuel with
  | zero => simp [DataW.trod] at h
  | succ n =>
    unfold DataW.trod at h
    rw [ht] at h
    have r2 : List.range 2 = [0, 1] := rfl
    simp [r2, hce] at h
    obtain ⟨_, h⟩ := h
    cases h0 : DataW.trod enc P w base spare held n e [c0] with
    | none => simp [h0] at h
    | some y0 =>
      cases h1 : DataW.trod enc P w base spare held n e [c1] with
      | none => simp [h0, h1] at h
      | some y1 =>
        simp [h0, h1] at h
        exact ⟨y0, y1, n, h.symm, h0, h1⟩
theorem open3 {r : Reach} {b0 : Nat} {t e : TypeId} {k : IntKind} {v : Value} {d : DataW H} {p : List MemPlace} (ht : P.underlying t = some (.array 3 e)) (hc : P.cellsOf t = 3) (hce : P.cellsOf e = 1) (he : P.underlying e = some (.int k))
    (hv : Value.okWide P w r b0 t v) (h : DataW.Trod enc P w base spare held t v d p) :
    ∃ x0 x1 x2 : Int, v = .agg #[.int k x0, .int k x1, .int k x2] ∧ d = .agg [.lit (.int k x0), .lit (.int k x1), .lit (.int k x2)] ∧ p = [] ∧ (Lit.int k x0).wf = true ∧ (Lit.int k x1).wf = true ∧ (Lit.int k x2).wf = true := by
  obtain ⟨cs, rfl, hsz, _⟩ : ∃ cs, v = .agg cs ∧ cs.size = P.cellsOf t ∧ Row.okWide P w r b0 t cs := by
    simpa [Value.okWide, ht] using hv
  rw [hc] at hsz
  obtain ⟨l⟩ := cs
  obtain ⟨c0, c1, c2, rfl⟩ := list3 l hsz
  obtain ⟨fuel, hf⟩ := h
  obtain ⟨y0, y1, y2, m, hx, hy0, hy1, hy2⟩ := trod_array3 ht hce hf
  obtain ⟨x0, e0, rfl, w0⟩ := DataW.trod_int he hy0
  obtain ⟨x1, e1, rfl, w1⟩ := DataW.trod_int he hy1
  obtain ⟨x2, e2, rfl, w2⟩ := DataW.trod_int he hy2
  simp at e0 e1 e2
  subst e0 e1 e2
  simp only [Prod.mk.injEq] at hx
  obtain ⟨rfl, rfl⟩ := hx
  exact ⟨x0, x1, x2, rfl, rfl, rfl, w0, w1, w2⟩
theorem shut3 {t e : TypeId} {k : IntKind} {x0 x1 x2 : Int} (ht : P.underlying t = some (.array 3 e)) (hc : P.cellsOf t = 3) (hce : P.cellsOf e = 1) (he : P.underlying e = some (.int k))
    (w0 : (Lit.int k x0).wf = true) (w1 : (Lit.int k x1).wf = true) (w2 : (Lit.int k x2).wf = true) :
    DataW.Trod enc P w base spare held t (.agg #[.int k x0, .int k x1, .int k x2]) (.agg [.lit (.int k x0), .lit (.int k x1), .lit (.int k x2)]) [] :=
  ⟨2, by simp [DataW.trod, Value.cells, ht, he, hc, hce, w0, w1, w2, show List.range 3 = [0, 1, 2] from rfl]⟩
theorem open2 {r : Reach} {b0 : Nat} {t e : TypeId} {k : IntKind} {v : Value} {d : DataW H} {p : List MemPlace} (ht : P.underlying t = some (.array 2 e)) (hc : P.cellsOf t = 2) (hce : P.cellsOf e = 1) (he : P.underlying e = some (.int k))
    (hv : Value.okWide P w r b0 t v) (h : DataW.Trod enc P w base spare held t v d p) :
    ∃ x0 x1 : Int, v = .agg #[.int k x0, .int k x1] ∧ d = .agg [.lit (.int k x0), .lit (.int k x1)] ∧ p = [] ∧ (Lit.int k x0).wf = true ∧ (Lit.int k x1).wf = true := by
  obtain ⟨cs, rfl, hsz, _⟩ : ∃ cs, v = .agg cs ∧ cs.size = P.cellsOf t ∧ Row.okWide P w r b0 t cs := by
    simpa [Value.okWide, ht] using hv
  rw [hc] at hsz
  obtain ⟨l⟩ := cs
  obtain ⟨c0, c1, rfl⟩ := list2 l hsz
  obtain ⟨fuel, hf⟩ := h
  obtain ⟨y0, y1, m, hx, hy0, hy1⟩ := trod_array2 ht hce hf
  obtain ⟨x0, e0, rfl, w0⟩ := DataW.trod_int he hy0
  obtain ⟨x1, e1, rfl, w1⟩ := DataW.trod_int he hy1
  simp at e0 e1
  subst e0 e1
  simp only [Prod.mk.injEq] at hx
  obtain ⟨rfl, rfl⟩ := hx
  exact ⟨x0, x1, rfl, rfl, rfl, w0, w1⟩
theorem shut2 {t e : TypeId} {k : IntKind} {x0 x1 : Int} (ht : P.underlying t = some (.array 2 e)) (hc : P.cellsOf t = 2) (hce : P.cellsOf e = 1) (he : P.underlying e = some (.int k))
    (w0 : (Lit.int k x0).wf = true) (w1 : (Lit.int k x1).wf = true) :
    DataW.Trod enc P w base spare held t (.agg #[.int k x0, .int k x1]) (.agg [.lit (.int k x0), .lit (.int k x1)]) [] :=
  ⟨2, by simp [DataW.trod, Value.cells, ht, he, hc, hce, w0, w1, show List.range 2 = [0, 1] from rfl]⟩
end Go.Proofs.Ytddoidcbpcmlaaa.Arr
