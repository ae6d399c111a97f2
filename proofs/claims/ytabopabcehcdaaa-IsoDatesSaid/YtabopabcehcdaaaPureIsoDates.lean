/- For every day the program's ISO week date is the specified date or error: for every whole number of 64 bits, with no condition. -/
import Derived.Test.YtabopabcehcdaaaFunI
import Derived.Test.YtabopabcehcdaaaFunD
import Derived.Test.YtabopabcehcdaaaQtrystlaw03IsoDates
namespace Go.Proofs.Ytabopabcehcdaaa.Pure
open Go.RowKit Go.Proofs.YtabopabcehcdaaaW.PrintWords Go.Proofs.YtabopabcehcdaaaW.PrintLast Go.Proofs.Ytabopabcehcdaaa.Q Go.Proofs.Ytabopabcehcdaaa.Cal Go.Proofs.Ytabopabcehcdaaa.FunA Go.Proofs.Ytabopabcehcdaaa.FunB Go.Proofs.Ytabopabcehcdaaa.FunC Go.Proofs.Ytabopabcehcdaaa.FunD Go.Proofs.Ytabopabcehcdaaa.FunI

theorem IsoDates : trystlaw03_IsoDates.Pure := by
  intro a wf
  refine ⟨200, ?_⟩
  unfold trystlaw03_IsoDates.f
  rw [awake3 200 (by omega), Option.bind_some, if_pos rfl]
  by_cases h : In a
  · obtain ⟨y, _, _, h1, h2, e⟩ := iISO_yes 200 (by omega) a h
    obtain ⟨y', m', d', e', _, _, h3, h4, h5, h6⟩ := fDate2 200 (by omega) a h
    have r := wk_one h1 h2 h3 h4
    subst r
    rw [e, e', h5, h6]; simp
  · rw [iISO_no _ a h, fDate_no _ _ a h]; simp
end Go.Proofs.Ytabopabcehcdaaa.Pure
