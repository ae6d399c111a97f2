/- The program's day of every ISO week date is the specified day or error: for all whole numbers of 64 bits, with no condition. -/
import Derived.Test.YtabopabcehcdaaaFunI
import Derived.Test.YtabopabcehcdaaaFunE
import Derived.Test.YtabopabcehcdaaaQtrystlaw03IsoDays
namespace Go.Proofs.Ytabopabcehcdaaa.Pure
open Go.RowKit Go.Proofs.YtabopabcehcdaaaW.PrintWords Go.Proofs.YtabopabcehcdaaaW.PrintLast Go.Proofs.Ytabopabcehcdaaa.Q Go.Proofs.Ytabopabcehcdaaa.Cal Go.Proofs.Ytabopabcehcdaaa.FunA Go.Proofs.Ytabopabcehcdaaa.FunB Go.Proofs.Ytabopabcehcdaaa.FunC Go.Proofs.Ytabopabcehcdaaa.FunE Go.Proofs.Ytabopabcehcdaaa.FunI

theorem IsoDays (y m d : Int) : trystlaw03_IsoDays.f 40 y m d = some true := by
  unfold trystlaw03_IsoDays.f
  rw [awake3 40 (by omega), Option.bind_some, if_pos rfl]
  obtain ⟨n, hn, hw⟩ := wks y 1
  have hM : mths 2 y = (wk (y + 1) 1 - wk y 1) / 7 := by simp [mths]
  have hl : (1 ≤ d ∧ d ≤ len 2 y m) ↔ (1 ≤ m ∧ m ≤ (wk (y + 1) 1 - wk y 1) / 7 ∧ 1 ≤ d ∧ d ≤ 7) := by
    unfold len
    rw [if_neg (by omega), if_neg (by omega), hM]
    by_cases c : m < 1 ∨ (wk (y + 1) 1 - wk y 1) / 7 < m
    · rw [if_pos c]; omega
    · rw [if_neg c, if_pos rfl]; omega
  by_cases h : RightI y m d
  · have hh := h
    obtain ⟨h1, h2, h3, h4, h5, h6⟩ := h
    have hl' := hl.2 ⟨h3, h4, h5, h6⟩
    rw [iFrom_yes 40 (by omega) y m d hh, fDay_yes 40 (by omega) 2 y m d 0 9999 (Or.inr (Or.inr (Or.inl rfl))) rfl (by omega) (by omega) ⟨h1, h2, hl'.1, hl'.2⟩ ⟨h3, by omega⟩ (by omega)]
    have e : fx 2 y m + d = wk y 1 + 7 * (m - 1) + d - 1 := by simp [fx]; omega
    rw [e]
    by_cases c : 1 ≤ wk y 1 + 7 * (m - 1) + d - 1 ∧ wk y 1 + 7 * (m - 1) + d - 1 ≤ 3652059
    · rw [if_pos c]; simp
    · rw [if_neg c]; simp
  · rw [iFrom_no 40 (by omega) y m d h, fDay_no 40 (by omega) 2 y m d 0 9999 (Or.inr (Or.inr (Or.inl rfl))) rfl (by omega) (by omega) (fun z => h ⟨z.1, z.2.1, hl.1 z.2.2⟩)]
    simp
theorem IsoDays_calls (y m d : Int) (w : World) (_ : (Lit.int .i64 y).wf = true) (_ : (Lit.int .i64 m).wf = true) (_ : (Lit.int .i64 d).wf = true) :
    Calls Try.prog 3 #[.agg #[.int .i64 y, .int .i64 m, .int .i64 d]] w fun e w' => e = .returned (.bool true) ∧ Below w.heap.size w w' :=
  trystlaw03_IsoDays.calls 40 y m d true w (IsoDays y m d)
end Go.Proofs.Ytabopabcehcdaaa.Pure
