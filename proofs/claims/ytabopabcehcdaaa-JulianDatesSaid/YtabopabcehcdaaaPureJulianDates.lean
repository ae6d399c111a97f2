/- For every day the program's Julian date is the specified date or error: for every whole number of 64 bits, with no condition. -/
import Derived.Test.YtabopabcehcdaaaFunJ
import Derived.Test.YtabopabcehcdaaaFunD
import Derived.Test.YtabopabcehcdaaaQtrystlaw02JulianDates
namespace Go.Proofs.Ytabopabcehcdaaa.Pure
open Go.RowKit Go.Proofs.YtabopabcehcdaaaW.PrintWords Go.Proofs.YtabopabcehcdaaaW.PrintLast Go.Proofs.Ytabopabcehcdaaa.Q Go.Proofs.Ytabopabcehcdaaa.Cal Go.Proofs.Ytabopabcehcdaaa.FunA Go.Proofs.Ytabopabcehcdaaa.FunB Go.Proofs.Ytabopabcehcdaaa.FunC Go.Proofs.Ytabopabcehcdaaa.FunD Go.Proofs.Ytabopabcehcdaaa.FunJ

theorem JulianDates : trystlaw02_JulianDates.Pure := by
  intro a wf
  refine ⟨200, ?_⟩
  unfold trystlaw02_JulianDates.f
  rw [awake2 200 (by omega), Option.bind_some, if_pos rfl]
  by_cases h : In a
  · obtain ⟨y, m, d, e, hd, _, _⟩ := jDate_yes 200 (by omega) a h
    obtain ⟨y', m', d', e', hd'⟩ := fDate1 200 (by omega) a h
    obtain ⟨r1, r2, r3⟩ := Is.one jul hd hd'
    rw [e, e', r1, r2, r3]; simp
  · rw [jDate_no _ a h, fDate_no _ _ a h]; simp
end Go.Proofs.Ytabopabcehcdaaa.Pure
