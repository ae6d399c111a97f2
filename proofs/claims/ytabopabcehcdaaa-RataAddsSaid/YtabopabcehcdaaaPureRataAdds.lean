/- Add of any day and number is the specified day or an error, and there and back is the same: for all whole numbers of 64 bits, with no condition. -/
import Derived.Test.YtabopabcehcdaaaFunC
import Derived.Test.YtabopabcehcdaaaFunB
import Derived.Test.YtabopabcehcdaaaQtrystlaw01RataAdds
namespace Go.Proofs.Ytabopabcehcdaaa.Pure
open Go.RowKit Go.Proofs.YtabopabcehcdaaaW.PrintWords Go.Proofs.YtabopabcehcdaaaW.PrintLast Go.Proofs.Ytabopabcehcdaaa.Q Go.Proofs.Ytabopabcehcdaaa.Cal Go.Proofs.Ytabopabcehcdaaa.FunA Go.Proofs.Ytabopabcehcdaaa.FunB Go.Proofs.Ytabopabcehcdaaa.FunC

theorem RataAdds : trystlaw01_RataAdds.Pure := by
  intro a n wf wn
  have hi := wf_i64 wf
  have hn := wf_i64 wn
  refine ⟨40, ?_⟩
  unfold trystlaw01_RataAdds.f
  rw [awake1 40 (by omega), Option.bind_some, if_pos rfl]
  by_cases h : In a ∧ In (a + n)
  · obtain ⟨h, h'⟩ := h
    have h1 := h.1; have h2 := h.2; have h3 := h'.1; have h4 := h'.2
    have e : rata_Add.f (a + n) (-n) = some (a, 0) := by
      have e0 : a + n + -n = a := by omega
      rw [rAdd_yes _ _ h' (by rw [e0]; exact h), e0]
    rw [rAdd_yes a n h h', fIn_yes h]
    simp only [Option.bind_some, if_true]
    rw [if_neg (by omega), if_neg (by omega), w64 (x := a + n) (by omega) (by omega), fIn_yes h', w64 (x := -n) (by omega) (by omega), e]
    simp
  · rw [rAdd_no a n h]
    by_cases c : In a
    · have h1 := c.1; have h2 := c.2
      rw [fIn_yes c]
      simp only [Option.bind_some, if_true]
      by_cases d : n < -4000000
      · rw [if_pos d]; simp
      · by_cases d' : n > 4000000
        · rw [if_neg d, if_pos d']; simp
        · rw [if_neg d, if_neg d', w64 (by omega) (by omega), fIn_no (fun z => h ⟨c, z⟩)]; simp
    · rw [fIn_no c]; simp
end Go.Proofs.Ytabopabcehcdaaa.Pure
