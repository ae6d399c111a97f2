/- What an argument of people reads as. -/
import Derived.Test.YtddoidcbpcmlaaaOp
namespace Go.Proofs.Ytddoidcbpcmlaaa.OpPerson
open Go.ChangeShapes Go.WideShapes Go.RowKit Go.Deep Go.Proofs.YtddoidcbpcmlaaaW.PrintWords Go.Proofs.YtddoidcbpcmlaaaW.PrintLast Go.Proofs.Ytddoidcbpcmlaaa.Q Go.Proofs.Ytddoidcbpcmlaaa.Op
set_option linter.unusedVariables false
set_option linter.unusedSimpArgs false
instance : Inhabited S40 := ⟨z40⟩
abbrev sI : TypeId := 3
def fp : S40 → ByteArray × Int × Int × Bool × ByteArray × ByteArray := fun x => (x.f0, x.f1, x.f2, x.f3, x.f4, x.f5)
def gp : ByteArray × Int × Int × Bool × ByteArray × ByteArray → S40 := fun x => ⟨x.1, x.2.1, x.2.2.1, x.2.2.2.1, x.2.2.2.2.1, x.2.2.2.2.2⟩
/-- What holds of a person that came in. -/
def Ph (x : S40) : Prop := x.f0.size ≤ maxLen ∧ (Lit.int .i64 x.f1).wf = true ∧ (Lit.int .i64 x.f2).wf = true ∧ True ∧ x.f4.size ≤ maxLen ∧ x.f5.size ≤ maxLen
set_option maxRecDepth 100000 in
theorem op : Opk Try.prog 40 k40 Ph :=
  Opk.iso (d := Kd.pair Kd.string (Kd.pair (Kd.int .i64) (Kd.pair (Kd.int .i64) (Kd.pair Kd.bool (Kd.pair Kd.string Kd.string))))) (φ := fun x => x.1.size ≤ maxLen ∧ (Lit.int .i64 x.2.1).wf = true ∧ (Lit.int .i64 x.2.2.1).wf = true ∧ True ∧ x.2.2.2.2.1.size ≤ maxLen ∧ x.2.2.2.2.2.size ≤ maxLen) fp gp (fun _ => rfl) (Opk.struct (P := Try.prog) Try.underlying40 (by kernel_rfl)
    (Fl.cons rfl (Opk.string Try.underlying9 (by kernel_rfl)) (Fl.cons rfl (Opk.int Try.underlying3 (by kernel_rfl)) (Fl.cons rfl (Opk.int Try.underlying3 (by kernel_rfl))
      (Fl.cons rfl (Opk.bool Try.underlying4 (by kernel_rfl)) (Fl.cons rfl (Opk.string Try.underlying9 (by kernel_rfl)) (Fl.last rfl (Opk.string Try.underlying9 (by kernel_rfl)))))))))
theorem opS : Opk Try.prog 33 (Kd.slice 40 k40) (fun l => l.length ≤ maxLen ∧ ∀ x ∈ l, Ph x) :=
  Opk.slice Try.underlying33 (by kernel_rfl) op
theorem ph_fit {x : S40} (h : Ph x) : x.f0.size ≤ 9223372036854775807 ∧ x.f4.size ≤ 9223372036854775807 ∧ x.f5.size ≤ 9223372036854775807 := by
  obtain ⟨h1, _, _, _, h2, h3⟩ := h
  unfold maxLen at h1 h2 h3
  exact ⟨by omega, by omega, by omega⟩
end Go.Proofs.Ytddoidcbpcmlaaa.OpPerson
