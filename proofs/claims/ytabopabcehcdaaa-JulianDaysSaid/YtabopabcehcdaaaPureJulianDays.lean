/- The program's day of every Julian date is the specified day or error: for all whole numbers of 64 bits, with no condition. -/
import Derived.Test.YtabopabcehcdaaaFunJ
import Derived.Test.YtabopabcehcdaaaFunE
import Derived.Test.YtabopabcehcdaaaQtrystlaw02JulianDays
namespace Go.Proofs.Ytabopabcehcdaaa.Pure
open Go.RowKit Go.Proofs.YtabopabcehcdaaaW.PrintWords Go.Proofs.YtabopabcehcdaaaW.PrintLast Go.Proofs.Ytabopabcehcdaaa.Q Go.Proofs.Ytabopabcehcdaaa.Cal Go.Proofs.Ytabopabcehcdaaa.FunA Go.Proofs.Ytabopabcehcdaaa.FunB Go.Proofs.Ytabopabcehcdaaa.FunC Go.Proofs.Ytabopabcehcdaaa.FunE Go.Proofs.Ytabopabcehcdaaa.FunJ

theorem JulianDays (y m d : Int) : trystlaw02_JulianDays.f 40 y m d = some true := by
  unfold trystlaw02_JulianDays.f
  rw [awake2 40 (by omega), Option.bind_some, if_pos rfl]
  by_cases h : RightJ y m d
  · have hm := dim_pos (lj y) m (by have := h.2.2; omega)
    have hd := dim_lo (lj y) m (lj_01 y) hm.1 hm.2
    obtain ⟨h1, h2, h3, h4⟩ := h
    rw [jFrom_yes 40 (by omega) y m d ⟨h1, h2, h3, h4⟩, fDay_yes 40 (by omega) 1 y m d 1 20000 (Or.inr (Or.inl rfl)) rfl (by omega) (by omega) ⟨h1, h2, h3, by simp [len]; exact h4⟩ ⟨hm.1, by omega⟩ (by omega)]
    have e : fx 1 y m + d = jb y + cum (lj y) m + d := by simp [fx]
    rw [e]
    unfold dayOr
    by_cases c : 1 ≤ jb y + cum (lj y) m + d ∧ jb y + cum (lj y) m + d ≤ 3652059
    · rw [if_pos c]; simp
    · rw [if_neg c]; simp
  · rw [jFrom_no 40 (by omega) y m d h, fDay_no 40 (by omega) 1 y m d 1 20000 (Or.inr (Or.inl rfl)) rfl (by omega) (by omega) (fun z => h ⟨z.1, z.2.1, z.2.2.1, by have := z.2.2.2; simpa [len] using this⟩)]
    simp
theorem JulianDays_calls (y m d : Int) (w : World) (_ : (Lit.int .i64 y).wf = true) (_ : (Lit.int .i64 m).wf = true) (_ : (Lit.int .i64 d).wf = true) :
    Calls Try.prog 7 #[.agg #[.int .i64 y, .int .i64 m, .int .i64 d]] w fun e w' => e = .returned (.bool true) ∧ Below w.heap.size w w' :=
  trystlaw02_JulianDays.calls 40 y m d true w (JulianDays y m d)
end Go.Proofs.Ytabopabcehcdaaa.Pure
