/- The day after a day has the next weekday and the next Gregorian date: for every whole number of 64 bits, with no condition. -/
import Derived.Test.YtabopabcehcdaaaFunC
import Derived.Test.YtabopabcehcdaaaQtrystlaw01RataNext
namespace Go.Proofs.Ytabopabcehcdaaa.Pure
open Go.RowKit Go.Proofs.YtabopabcehcdaaaW.PrintWords Go.Proofs.YtabopabcehcdaaaW.PrintLast Go.Proofs.Ytabopabcehcdaaa.Q Go.Proofs.Ytabopabcehcdaaa.Cal Go.Proofs.Ytabopabcehcdaaa.FunA Go.Proofs.Ytabopabcehcdaaa.FunC

theorem RataNext : trystlaw01_RataNext.Pure := by
  intro a wf
  have hi := wf_i64 wf
  refine ⟨40, ?_⟩
  unfold trystlaw01_RataNext.f
  rw [awake1 40 (by omega), Option.bind_some, if_pos rfl]
  by_cases c : 1 ≤ a ∧ a < 3652059
  · have h : In a := ⟨c.1, by omega⟩
    have h' : In (a + 1) := ⟨by omega, by omega⟩
    obtain ⟨m, d, e, hd⟩ := rDate_yes 39 (by omega) a h
    obtain ⟨m', d', e', hd'⟩ := rDate_yes 39 (by omega) (a + 1) h'
    rw [if_neg (by omega), decide_eq_false (by omega)]
    simp only [trystlaw01_RataNext.j0]
    rw [if_neg (by simp), w64 (x := a + 1) (by omega) (by omega), e, e', rWeekday a ⟨by omega, by omega⟩, rWeekday (a + 1) ⟨by omega, by omega⟩]
    simp only [Option.bind_some, if_true]
    have hw : (Int.tmod (wrap64 (a % 7 + 1)) 7 != (a + 1) % 7) = false := by
      rw [w64 (by omega) (by omega), Int.tmod_eq_emod_of_nonneg (by omega)]; simp
    rw [hw]
    simp only [trystlaw01_RataNext.j1]
    rw [if_neg (by simp), rLength 38 (by omega), Option.bind_some]
    have hdl := dim_lo (lp (yr a)) m (lp_01 _) hd.m1 hd.m2
    have hy := yr_In h
    have q1 := hd.m1; have q2 := hd.m2; have q3 := hd.d1; have q4 := hd.d2; have q5 := hd.e
    by_cases l : d < dim (lp (yr a)) m
    · have hn : Is ah lp (yr a) m (d + 1) (a + 1) := ⟨q1, q2, by omega, by omega, by omega⟩
      obtain ⟨r1, r2, r3⟩ := Is.one greg hd' hn
      rw [if_pos l, w64 (by omega) (by omega), r1, r2, r3]; simp
    · have hs := cum_succ (lp (yr a)) m q1 q2
      by_cases n : m < 12
      · have hn : Is ah lp (yr a) (m + 1) 1 (a + 1) := ⟨by omega, by omega, by omega, by have := dim_lo (lp (yr a)) (m + 1) (lp_01 _) (by omega) (by omega); omega, by omega⟩
        obtain ⟨r1, r2, r3⟩ := Is.one greg hd' hn
        rw [if_neg l, if_pos n, w64 (by omega) (by omega), r1, r2, r3]; simp
      · have e12 : m = 12 := by omega
        subst e12
        have hs' := ah_succ (yr a)
        have he := cum_end (lp (yr a))
        have e13 : (12 : Int) + 1 = 13 := rfl
        rw [e13, he] at hs
        have hn : Is ah lp (yr a + 1) 1 1 (a + 1) := ⟨by omega, by omega, by omega, by have := dim_lo (lp (yr a + 1)) 1 (lp_01 _) (by omega) (by omega); omega, by rw [cum_one]; omega⟩
        obtain ⟨r1, r2, r3⟩ := Is.one greg hd' hn
        rw [if_neg l, if_neg n, w64 (by omega) (by omega), r1, r2, r3]; simp
  · have key : ∀ b : Bool, b = true → trystlaw01_RataNext.j0 40 a b = some true := by
      intro b hb; subst hb
      simp only [trystlaw01_RataNext.j0, if_true]
      rw [awake1 39 (by omega)]; rfl
    by_cases c1 : a < 1
    · rw [if_pos c1]; exact key true rfl
    · rw [if_neg c1, decide_eq_true (by omega)]; exact key true rfl
end Go.Proofs.Ytabopabcehcdaaa.Pure
