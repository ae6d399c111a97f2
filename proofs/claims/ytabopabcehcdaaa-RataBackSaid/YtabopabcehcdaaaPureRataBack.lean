/- The day of a day's Gregorian date is the day: for every whole number of 64 bits, with no condition. -/
import Derived.Test.YtabopabcehcdaaaFunC
import Derived.Test.YtabopabcehcdaaaFunB
import Derived.Test.YtabopabcehcdaaaQtrystlaw01RataBack
namespace Go.Proofs.Ytabopabcehcdaaa.Pure
open Go.RowKit Go.Proofs.YtabopabcehcdaaaW.PrintWords Go.Proofs.YtabopabcehcdaaaW.PrintLast Go.Proofs.Ytabopabcehcdaaa.Q Go.Proofs.Ytabopabcehcdaaa.Cal Go.Proofs.Ytabopabcehcdaaa.FunA Go.Proofs.Ytabopabcehcdaaa.FunB Go.Proofs.Ytabopabcehcdaaa.FunC

theorem RataBack : trystlaw01_RataBack.Pure := by
  intro a wf
  refine ⟨40, ?_⟩
  unfold trystlaw01_RataBack.f
  rw [awake1 40 (by omega), Option.bind_some, if_pos rfl]
  by_cases h : In a
  · obtain ⟨m, d, e, hd⟩ := rDate_yes 40 (by omega) a h
    have hy := yr_In h
    have hr := Is.right hd hy.1 hy.2
    rw [e]
    simp only [Option.bind_some]
    rw [if_pos trivial, rDay_yes 40 (by omega) _ _ _ hr, rRight_yes 40 (by omega) _ _ _ hr]
    simp only [Option.bind_some]
    rw [if_pos trivial, if_pos hd.e.symm]
  · rw [rDate_no _ a h, fIn_no h]
    simp
end Go.Proofs.Ytabopabcehcdaaa.Pure
