/- For every day the program's Coptic date is the specified date or error: for every whole number of 64 bits, with no condition. -/
import Derived.Test.YtabopabcehcdaaaFunK
import Derived.Test.YtabopabcehcdaaaFunD
import Derived.Test.YtabopabcehcdaaaQtrystlaw02CopticDates
namespace Go.Proofs.Ytabopabcehcdaaa.Pure
open Go.RowKit Go.Proofs.YtabopabcehcdaaaW.PrintWords Go.Proofs.YtabopabcehcdaaaW.PrintLast Go.Proofs.Ytabopabcehcdaaa.Q Go.Proofs.Ytabopabcehcdaaa.Cal Go.Proofs.Ytabopabcehcdaaa.FunA Go.Proofs.Ytabopabcehcdaaa.FunB Go.Proofs.Ytabopabcehcdaaa.FunC Go.Proofs.Ytabopabcehcdaaa.FunD Go.Proofs.Ytabopabcehcdaaa.FunJ Go.Proofs.Ytabopabcehcdaaa.FunK

theorem CopticDates : trystlaw02_CopticDates.Pure := by
  intro a wf
  refine ⟨200, ?_⟩
  unfold trystlaw02_CopticDates.f
  rw [awake2 200 (by omega), Option.bind_some, if_pos rfl]
  by_cases h : In a
  · obtain ⟨y, m, d, e, hd, _, _⟩ := kDate_yes a h
    obtain ⟨y', m', d', e', hd'⟩ := fDate6 200 (by omega) a h
    obtain ⟨r1, r2, r3⟩ := IsC.one hd hd'
    rw [e, e', r1, r2, r3]; simp
  · rw [kDate_no a h, fDate_no _ _ a h]; simp
end Go.Proofs.Ytabopabcehcdaaa.Pure
