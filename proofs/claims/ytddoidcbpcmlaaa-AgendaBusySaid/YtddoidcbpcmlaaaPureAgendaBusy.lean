/- Busy are the neat spans of the times that aren't cancelled. -/
import Derived.Test.YtddoidcbpcmlaaaAgeW
import Derived.Test.YtddoidcbpcmlaaaGagendaBusy
import Derived.Test.YtddoidcbpcmlaaaGtrystlaw28AgendaBusy
import Derived.Test.YtddoidcbpcmlaaaOpTime
namespace Go.Proofs.Ytddoidcbpcmlaaa.Pure
open Go.RowKit Go.Proofs.YtddoidcbpcmlaaaW.PrintWords Go.Proofs.YtddoidcbpcmlaaaW.PrintLast Go.Proofs.Ytddoidcbpcmlaaa.G
set_option linter.unusedVariables false
set_option linter.unusedSimpArgs false
namespace AgendaBusyW
abbrev S := S67
abbrev T := S65
def bs : List T → List S
  | [] => []
  | t :: r => if t.f4 = 3 then bs r else ⟨t.f0, t.f1⟩ :: bs r
theorem bs_len (l : List T) : (bs l).length ≤ l.length := by
  induction l with
  | nil => exact Nat.le_refl _
  | cons s r ih => unfold bs; split <;> simp <;> omega
theorem rd_at (pre : List T) (s : T) (r : List T) : rd_T65 (pre ++ s :: r) (pre.length : Int) = s := by
  unfold rd_T65
  simp
theorem wr (n : Nat) (h : n < 4611686018427387904) : wrap64 ((n : Int) + 1) = ((n + 1 : Nat) : Int) := by unfold wrap64; omega
theorem busy_go (r : List T) : ∀ (pre : List T) (acc : List S) (k : Nat), 200 + r.length < k → (pre ++ r).length < 70 → acc.length ≤ pre.length →
    agenda_Busy.l0 k acc (pre ++ r) ((pre ++ r).length : Int) (pre.length : Int) = some (AgeW.neatS (acc ++ bs r)) := by
  induction r with
  | nil =>
    intro pre acc k hk hb ha
    obtain ⟨k, rfl⟩ : ∃ m, k = m + 1 := ⟨k - 1, by omega⟩
    have hb2 : pre.length < 70 := by simpa using hb
    simp only [agenda_Busy.l0]
    rw [if_neg (by simp), AgeW.neat acc k (by simp at hk; omega) (by omega), Option.bind_some]
    simp [bs]
  | cons s r ih =>
    intro pre acc k hk hb ha
    obtain ⟨k, rfl⟩ : ∃ m, k = m + 1 := ⟨k - 1, by omega⟩
    have hb2 : pre.length + (r.length + 1) < 70 := by simpa using hb
    simp only [agenda_Busy.l0]
    rw [if_pos (by simp; omega), if_pos (by omega), if_pos (by simp; omega), rd_at, wr pre.length (by omega)]
    have e1 : pre ++ s :: r = (pre ++ [s]) ++ r := by simp
    have e2 : ((pre.length + 1 : Nat) : Int) = ((pre ++ [s]).length : Int) := by simp
    unfold bs
    by_cases c : s.f4 = 3
    · rw [if_pos c, if_pos c, e1, e2]
      exact ih (pre ++ [s]) acc k (by simp at hk; omega) (by simpa using hb2) (by simp; omega)
    · rw [if_neg c, if_neg c, if_pos (by omega), e1, e2]
      have := ih (pre ++ [s]) (acc ++ [⟨s.f0, s.f1⟩]) k (by simp at hk; omega) (by simpa using hb2) (by simp; omega)
      rw [this]; simp
theorem same_go (n : List S) (hn : n.length < 1000) (d : Nat) : ∀ (i : Nat) (k : Nat), n.length - i = d → i ≤ n.length → d < k → trystlaw28_AgendaBusy.l1 k n n (n.length : Int) (i : Int) = some true := by
  induction d with
  | zero =>
    intro i k hd hi hk
    obtain ⟨k, rfl⟩ : ∃ m, k = m + 1 := ⟨k - 1, by omega⟩
    simp only [trystlaw28_AgendaBusy.l1]
    rw [if_neg (by omega)]
  | succ d ih =>
    intro i k hd hi hk
    obtain ⟨k, rfl⟩ : ∃ m, k = m + 1 := ⟨k - 1, by omega⟩
    simp only [trystlaw28_AgendaBusy.l1]
    rw [if_pos (by omega), if_pos (by omega), if_pos (by omega), if_pos (by omega), if_neg (by simp), wr i (by omega)]
    exact ih (i + 1) k (by omega) (by omega) (by omega)
theorem law_go (r : List T) : ∀ (pre : List T) (acc : List S) (k : Nat), 300 + r.length < k → (pre ++ r).length < 70 → acc.length ≤ pre.length → acc ++ bs r = bs (pre ++ r) →
    trystlaw28_AgendaBusy.l0 k (pre ++ r) acc ((pre ++ r).length : Int) (pre.length : Int) = some true := by
  induction r with
  | nil =>
    intro pre acc k hk hb ha he
    obtain ⟨k, rfl⟩ : ∃ m, k = m + 1 := ⟨k - 1, by omega⟩
    have hb2 : pre.length < 70 := by simpa using hb
    simp only [trystlaw28_AgendaBusy.l0]
    have h1 := busy_go (pre ++ []) [] [] k (by simp at hk ⊢; omega) (by simpa using hb2) (by simp)
    have h2 : agenda_Busy.f k (pre ++ []) = some (AgeW.neatS (bs (pre ++ []))) := by unfold agenda_Busy.f; simpa using h1
    have h3 : acc = bs (pre ++ []) := by rw [← he]; simp [bs]
    have h4 := AgeW.neatS_len acc
    rw [if_neg (by simp), h2, Option.bind_some, ← h3, AgeW.neat acc k (by simp at hk; omega) (by omega), Option.bind_some, if_pos rfl]
    exact same_go (AgeW.neatS acc) (by omega) _ 0 k rfl (by omega) (by simp at hk; omega)
  | cons s r ih =>
    intro pre acc k hk hb ha he
    obtain ⟨k, rfl⟩ : ∃ m, k = m + 1 := ⟨k - 1, by omega⟩
    have hb2 : pre.length + (r.length + 1) < 70 := by simpa using hb
    simp only [trystlaw28_AgendaBusy.l0]
    rw [if_pos (by simp; omega), if_pos (by omega), if_pos (by simp; omega), rd_at, wr pre.length (by omega)]
    have e1 : pre ++ s :: r = (pre ++ [s]) ++ r := by simp
    have e2 : ((pre.length + 1 : Nat) : Int) = ((pre ++ [s]).length : Int) := by simp
    by_cases c : s.f4 = 3
    · rw [if_pos c, e1, e2]
      refine ih (pre ++ [s]) acc k (by simp at hk; omega) (by simpa using hb2) (by simp; omega) ?_
      rw [← e1, ← he]
      show _ = acc ++ (if s.f4 = 3 then _ else _)
      rw [if_pos c]
    · rw [if_neg c, if_pos (by omega), e1, e2]
      refine ih (pre ++ [s]) (acc ++ [⟨s.f0, s.f1⟩]) k (by simp at hk; omega) (by simpa using hb2) (by simp; omega) ?_
      rw [← e1, ← he]
      show _ = acc ++ (if s.f4 = 3 then _ else _)
      rw [if_neg c]
      simp
theorem law (l : List T) : ∃ k, trystlaw28_AgendaBusy.f k l = some true := by
  refine ⟨500, ?_⟩
  unfold trystlaw28_AgendaBusy.f
  rw [AgeW.awake 500 (by omega), Option.bind_some, if_pos rfl]
  by_cases c : (l.length : Int) > 60
  · rw [decide_eq_true c]
    simp only [trystlaw28_AgendaBusy.j0, if_true, eq_self]
    rw [AgeW.awake _ (by omega)]; rfl
  · rw [decide_eq_false c]
    simp only [trystlaw28_AgendaBusy.j0, Bool.false_eq_true, if_false]
    have := law_go l [] [] 499 (by omega) (by simp; omega) (by simp) (by simp)
    simpa using this
end AgendaBusyW
theorem AgendaBusy_calls (A : Option Addr) (c : Nat) (l : List S65) (w : World) (hC : Kd.C k65 w A l.length l) (hc : l.length ≤ c) (hf : ∀ x ∈ l, OpTime.Ph x) :
    Calls Try.prog 7 #[.slice A l.length c] w fun e w' => e = .returned (.bool true) ∧ Below w.heap.size w w' := by
  obtain ⟨k, hk⟩ := AgendaBusyW.law l
  exact trystlaw28_AgendaBusy.calls k A c l true w hC hc hk
end Go.Proofs.Ytddoidcbpcmlaaa.Pure
