/- Leap and Length of all years of 16 bits and all months are as specified: with no condition. -/
import Derived.Test.YtabopabcehcdaaaFunC
import Derived.Test.YtabopabcehcdaaaFunB
import Derived.Test.YtabopabcehcdaaaQtrystlaw01RataMonths
namespace Go.Proofs.Ytabopabcehcdaaa.Pure
open Go.RowKit Go.Proofs.YtabopabcehcdaaaW.PrintWords Go.Proofs.YtabopabcehcdaaaW.PrintLast Go.Proofs.Ytabopabcehcdaaa.Q Go.Proofs.Ytabopabcehcdaaa.Cal Go.Proofs.Ytabopabcehcdaaa.FunA Go.Proofs.Ytabopabcehcdaaa.FunB Go.Proofs.Ytabopabcehcdaaa.FunC

theorem RataMonths : trystlaw01_RataMonths.Pure := by
  intro y m wy wm
  have hy : -32768 ≤ y ∧ y ≤ 32767 := by
    simp [Lit.wf, IntKind.min, IntKind.max, IntKind.signed, IntKind.bits] at wy; exact ⟨by omega, by omega⟩
  refine ⟨40, ?_⟩
  unfold trystlaw01_RataMonths.f
  rw [awake1 40 (by omega), Option.bind_some, if_pos rfl, w64 (by omega) (by omega), rLeap, fLeap y ⟨by omega, by omega⟩, rLength 40 (by omega), fLength 40 (by omega) 0 y m (Or.inl rfl) (by omega) (by omega)]
  simp [len]
end Go.Proofs.Ytabopabcehcdaaa.Pure
