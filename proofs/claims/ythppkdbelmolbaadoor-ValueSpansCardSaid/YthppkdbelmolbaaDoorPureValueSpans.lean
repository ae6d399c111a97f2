/- For every string, ParseDuration returns the specified result: with no condition. -/
import Derived.Test.YthppkdbelmolbaaDoorQtrystlaw12ValueSpans
import Derived.Test.YthppkdbelmolbaaDoorSpansR
namespace Go.Proofs.YthppkdbelmolbaaDoor.Pure
open Go.RowKit Go.Proofs.YthppkdbelmolbaaDoorW.PrintWords Go.Proofs.YthppkdbelmolbaaDoorW.PrintLast Go.Proofs.YthppkdbelmolbaaDoor.Q Go.Proofs.YthppkdbelmolbaaDoor.Cal Go.Proofs.YthppkdbelmolbaaDoor.SpansR
set_option linter.unusedVariables false
set_option linter.unusedSimpArgs false
theorem ValueSpans (s : ByteArray) : ∃ k, trystlaw12_ValueSpans.f k s = some true := by
  refine ⟨701, ?_⟩
  have ha : trystlaw12_awake.f = some true := by simp [trystlaw12_awake.f]
  unfold trystlaw12_ValueSpans.f
  rw [ha, Option.bind_some, if_pos rfl]
  simp only [trystlaw12_ValueSpans.j0]
  by_cases c : (s.size : Int) > 200
  · rw [decide_eq_true c, if_pos rfl, ha, Option.bind_some]
  · rw [decide_eq_false c, if_neg (by decide)]
    obtain ⟨a, h1, h2⟩ := same s (by omega) 700 (by omega)
    rw [h1, h2]
    simp
theorem ValueSpans_calls (s : ByteArray) (w : World) (ws : s.size ≤ maxLen) :
    Calls Tryd.prog 8 #[.string s] w fun e w' => e = .returned (.bool true) ∧ Below w.heap.size w w' := by
  obtain ⟨k, hk⟩ := ValueSpans s
  exact trystlaw12_ValueSpans.calls k s true w hk
end Go.Proofs.YthppkdbelmolbaaDoor.Pure
