/- What an argument of spans, or of times, reads as. -/
import Derived.Test.YtddoidcbpcmlaaaOpA
namespace Go.Proofs.Ytddoidcbpcmlaaa.OpSpan
open Go.ChangeShapes Go.WideShapes Go.RowKit Go.Deep Go.Proofs.YtddoidcbpcmlaaaW.PrintWords Go.Proofs.YtddoidcbpcmlaaaW.PrintLast Go.Proofs.Ytddoidcbpcmlaaa.G Go.Proofs.Ytddoidcbpcmlaaa.Op
set_option linter.unusedVariables false
set_option linter.unusedSimpArgs false
instance : Inhabited S67 := ⟨z67⟩
def Ph (x : S67) : Prop := (Lit.int .i64 x.f0).wf = true ∧ (Lit.int .i64 x.f1).wf = true
set_option maxRecDepth 100000 in
theorem op : Opk Try.prog 67 k67 Ph :=
  Opk.iso (d := Kd.pair (Kd.int .i64) (Kd.int .i64)) (φ := fun x => (Lit.int .i64 x.1).wf = true ∧ (Lit.int .i64 x.2).wf = true) (fun x : S67 => (x.f0, x.f1)) (fun x : Int × Int => (⟨x.1, x.2⟩ : S67)) (fun _ => rfl) (Opk.struct (P := Try.prog) Try.underlying67 (by kernel_rfl)
    (Fl.cons rfl (Opk.int Try.underlying2 (by kernel_rfl)) (Fl.last rfl (Opk.int Try.underlying2 (by kernel_rfl)))))
theorem opS : Opk Try.prog 57 (Kd.slice 67 k67) (fun l => l.length ≤ maxLen ∧ ∀ x ∈ l, Ph x) :=
  Opk.slice Try.underlying57 (by kernel_rfl) op
end Go.Proofs.Ytddoidcbpcmlaaa.OpSpan
