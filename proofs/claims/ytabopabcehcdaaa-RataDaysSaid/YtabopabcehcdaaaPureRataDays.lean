/- Right and Day are as specified for every date: for all whole numbers of 64 bits, with no condition. -/
import Derived.Test.YtabopabcehcdaaaFunC
import Derived.Test.YtabopabcehcdaaaFunB
import Derived.Test.YtabopabcehcdaaaFunE
import Derived.Test.YtabopabcehcdaaaQtrystlaw01RataDays
namespace Go.Proofs.Ytabopabcehcdaaa.Pure
open Go.RowKit Go.Proofs.YtabopabcehcdaaaW.PrintWords Go.Proofs.YtabopabcehcdaaaW.PrintLast Go.Proofs.Ytabopabcehcdaaa.Q Go.Proofs.Ytabopabcehcdaaa.Cal Go.Proofs.Ytabopabcehcdaaa.FunA Go.Proofs.Ytabopabcehcdaaa.FunB Go.Proofs.Ytabopabcehcdaaa.FunC Go.Proofs.Ytabopabcehcdaaa.FunE

theorem RataDays (y m d : Int) : trystlaw01_RataDays.f 40 y m d = some true := by
  unfold trystlaw01_RataDays.f
  rw [awake1 40 (by omega), Option.bind_some, if_pos rfl]
  by_cases h : Right y m d
  · have hm := dim_pos (lp y) m (by have := h.2.2; omega)
    have hd := dim_lo (lp y) m (lp_01 y) hm.1 hm.2
    obtain ⟨h1, h2, h3, h4⟩ := h
    have hs := ah_le h1
    have hs' := ah_le (show y + 1 ≤ 10000 by omega)
    have e1 : ah 1 = 0 := by decide
    have e2 : ah 10000 = 3652059 := by decide
    have hi : Is ah lp y m d (ah y + cum (lp y) m + d) := ⟨hm.1, hm.2, h3, h4, rfl⟩
    have hyy := hi.year greg
    rw [rDay_yes 40 (by omega) y m d ⟨h1, h2, h3, h4⟩, rRight_yes 40 (by omega) y m d ⟨h1, h2, h3, h4⟩, fDay_yes 40 (by omega) 0 y m d 1 9999 (Or.inl rfl) rfl (by omega) (by omega) ⟨h1, h2, h3, by simp [len]; exact h4⟩ ⟨hm.1, by omega⟩ (by omega), if_pos (by simp [fx]; omega)]
    simp [fx]
  · rw [rDay_no 40 (by omega) y m d h, rRight_no 40 (by omega) y m d h, fDay_no 40 (by omega) 0 y m d 1 9999 (Or.inl rfl) rfl (by omega) (by omega) (fun z => h ⟨z.1, z.2.1, z.2.2.1, by have := z.2.2.2; simpa [len] using this⟩)]
    simp
theorem RataDays_calls (y m d : Int) (w : World) (_ : (Lit.int .i64 y).wf = true) (_ : (Lit.int .i64 m).wf = true) (_ : (Lit.int .i64 d).wf = true) :
    Calls Try.prog 4 #[.agg #[.int .i64 y, .int .i64 m, .int .i64 d]] w fun e w' => e = .returned (.bool true) ∧ Below w.heap.size w w' :=
  trystlaw01_RataDays.calls 40 y m d true w (RataDays y m d)
end Go.Proofs.Ytabopabcehcdaaa.Pure
