/- The program's day of every Coptic date is the specified day or error: for all whole numbers of 64 bits, with no condition. -/
import Derived.Test.YtabopabcehcdaaaFunK
import Derived.Test.YtabopabcehcdaaaFunE
import Derived.Test.YtabopabcehcdaaaQtrystlaw02CopticDays
namespace Go.Proofs.Ytabopabcehcdaaa.Pure
open Go.RowKit Go.Proofs.YtabopabcehcdaaaW.PrintWords Go.Proofs.YtabopabcehcdaaaW.PrintLast Go.Proofs.Ytabopabcehcdaaa.Q Go.Proofs.Ytabopabcehcdaaa.Cal Go.Proofs.Ytabopabcehcdaaa.FunA Go.Proofs.Ytabopabcehcdaaa.FunB Go.Proofs.Ytabopabcehcdaaa.FunC Go.Proofs.Ytabopabcehcdaaa.FunE Go.Proofs.Ytabopabcehcdaaa.FunJ Go.Proofs.Ytabopabcehcdaaa.FunK

theorem CopticDays (y m d : Int) : trystlaw02_CopticDays.f 40 y m d = some true := by
  unfold trystlaw02_CopticDays.f
  rw [awake2 40 (by omega), Option.bind_some, if_pos rfl]
  have hl : len 6 y m = clen y m := by simp [len, clen, mths]
  by_cases h : RightC y m d
  · have hm := clen_pos y m (by have := h.2.2; omega)
    obtain ⟨h1, h2, h3, h4⟩ := h
    rw [kFrom_yes 40 (by omega) y m d ⟨h1, h2, h3, h4⟩, fDay_yes 40 (by omega) 6 y m d (-20000) 20000 (Or.inr (Or.inr (Or.inr rfl))) rfl (by omega) (by omega) ⟨h1, h2, h3, by rw [hl]; exact h4⟩ ⟨hm.1, by omega⟩ (by omega)]
    have e : fx 6 y m + d = cb y + 30 * (m - 1) + d := by simp [fx]
    rw [e]
    unfold dayOr
    by_cases c : 1 ≤ cb y + 30 * (m - 1) + d ∧ cb y + 30 * (m - 1) + d ≤ 3652059
    · rw [if_pos c]; simp
    · rw [if_neg c]; simp
  · rw [kFrom_no 40 (by omega) y m d h, fDay_no 40 (by omega) 6 y m d (-20000) 20000 (Or.inr (Or.inr (Or.inr rfl))) rfl (by omega) (by omega) (by rw [hl]; exact h)]
    simp
theorem CopticDays_calls (y m d : Int) (w : World) (_ : (Lit.int .i64 y).wf = true) (_ : (Lit.int .i64 m).wf = true) (_ : (Lit.int .i64 d).wf = true) :
    Calls Try.prog 15 #[.agg #[.int .i64 y, .int .i64 m, .int .i64 d]] w fun e w' => e = .returned (.bool true) ∧ Below w.heap.size w w' :=
  trystlaw02_CopticDays.calls 40 y m d true w (CopticDays y m d)
end Go.Proofs.Ytabopabcehcdaaa.Pure
