/- What an argument of times reads as. -/
import Derived.Test.YtddoidcbpcmlaaaOpA
namespace Go.Proofs.Ytddoidcbpcmlaaa.OpTime
open Go.ChangeShapes Go.WideShapes Go.RowKit Go.Deep Go.Proofs.YtddoidcbpcmlaaaW.PrintWords Go.Proofs.YtddoidcbpcmlaaaW.PrintLast Go.Proofs.Ytddoidcbpcmlaaa.G Go.Proofs.Ytddoidcbpcmlaaa.Op
set_option linter.unusedVariables false
set_option linter.unusedSimpArgs false
instance : Inhabited S65 := ⟨z65⟩
def Ph (x : S65) : Prop := (Lit.int .i64 x.f0).wf = true ∧ (Lit.int .i64 x.f1).wf = true ∧ (Lit.int .i64 x.f2).wf = true ∧ x.f3.size ≤ maxLen ∧ (Lit.int .i64 x.f4).wf = true
set_option maxRecDepth 100000 in
theorem op : Opk Try.prog 65 k65 Ph :=
  Opk.iso (d := Kd.pair (Kd.int .i64) (Kd.pair (Kd.int .i64) (Kd.pair (Kd.int .i64) (Kd.pair Kd.string (Kd.int .i64))))) (φ := fun x => (Lit.int .i64 x.1).wf = true ∧ (Lit.int .i64 x.2.1).wf = true ∧ (Lit.int .i64 x.2.2.1).wf = true ∧ x.2.2.2.1.size ≤ maxLen ∧ (Lit.int .i64 x.2.2.2.2).wf = true) (fun x : S65 => (x.f0, x.f1, x.f2, x.f3, x.f4)) (fun x : Int × Int × Int × ByteArray × Int => (⟨x.1, x.2.1, x.2.2.1, x.2.2.2.1, x.2.2.2.2⟩ : S65)) (fun _ => rfl) (Opk.struct (P := Try.prog) Try.underlying65 (by kernel_rfl)
    (Fl.cons rfl (Opk.int Try.underlying2 (by kernel_rfl)) (Fl.cons rfl (Opk.int Try.underlying2 (by kernel_rfl)) (Fl.cons rfl (Opk.int Try.underlying2 (by kernel_rfl))
      (Fl.cons rfl (Opk.string Try.underlying9 (by kernel_rfl)) (Fl.last rfl (Opk.int Try.underlying3 (by kernel_rfl))))))))
theorem opS : Opk Try.prog 63 (Kd.slice 65 k65) (fun l => l.length ≤ maxLen ∧ ∀ x ∈ l, Ph x) :=
  Opk.slice Try.underlying63 (by kernel_rfl) op
end Go.Proofs.Ytddoidcbpcmlaaa.OpTime
