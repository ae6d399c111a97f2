/- What agenda.Neat tells, as printed: for a list that isn't huge, some neat result; the law's awake. -/
import Derived.Test.YtddoidcbpcmlaaaGagendaNeat
import Derived.Test.YtddoidcbpcmlaaaGtrystlaw28awake
import Derived.Test.YtddoidcbpcmlaaaAgeN
namespace Go.Proofs.Ytddoidcbpcmlaaa.AgeW
open Go.RowKit Go.Proofs.YtddoidcbpcmlaaaW.PrintWords Go.Proofs.YtddoidcbpcmlaaaW.PrintLast Go.Proofs.Ytddoidcbpcmlaaa.G
set_option linter.unusedVariables false
set_option linter.unusedSimpArgs false
abbrev S := S67
def pr (x : S) : Int × Int := (x.f0, x.f1)
def bk (x : Int × Int) : S := ⟨x.1, x.2⟩
theorem bk_pr (x : S) : bk (pr x) = x := rfl
theorem within (a : Int) : agenda_within.f a = some (AgeN.cl a) := by
  unfold agenda_within.f AgeN.cl mx mn
  congr 1
  split <;> split <;> omega
def cleanS : List S → List S
  | [] => []
  | s :: r => if AgeN.cl s.f0 < AgeN.cl s.f1 then ⟨AgeN.cl s.f0, AgeN.cl s.f1⟩ :: cleanS r else cleanS r
theorem cleanS_len (l : List S) : (cleanS l).length ≤ l.length := by
  induction l with
  | nil => exact Nat.le_refl _
  | cons s r ih => unfold cleanS; split <;> simp <;> omega
theorem cleanS_pr (l : List S) : (cleanS l).map pr = AgeN.clean (l.map pr) := by
  induction l with
  | nil => rfl
  | cons s r ih =>
    unfold cleanS AgeN.clean
    rw [List.map_cons, List.map_cons, List.filter_cons]
    show _ = if decide (AgeN.cl s.f0 < AgeN.cl s.f1) = true then _ else _
    by_cases c : AgeN.cl s.f0 < AgeN.cl s.f1
    · rw [if_pos c, if_pos (decide_eq_true c), List.map_cons, ih]; rfl
    · rw [if_neg c, if_neg (by simpa using c), ih]; rfl
def mgS : S → List S → List S
  | c, [] => [c]
  | c, s :: r => if s.f0 ≤ c.f1 then mgS ⟨c.f0, mx c.f1 s.f1⟩ r else c :: mgS s r
theorem mgS_pr (r : List S) : ∀ c, (mgS c r).map pr = AgeN.mg (pr c) (r.map pr) := by
  induction r with
  | nil => intro c; rfl
  | cons s r ih =>
    intro c
    unfold mgS AgeN.mg
    rw [List.map_cons]
    show _ = if s.f0 ≤ c.f1 then _ else _
    by_cases q : s.f0 ≤ c.f1
    · rw [if_pos q]
      rw [if_pos q, ih]
      have e : mx c.f1 s.f1 = max c.f1 s.f1 := by unfold mx; split <;> omega
      show AgeN.mg (c.f0, mx c.f1 s.f1) _ = _
      rw [e]; rfl
    · rw [if_neg q]
      rw [if_neg q, List.map_cons, ih]
def mergeS : List S → List S
  | [] => []
  | s :: r => mgS s r
theorem mergeS_pr (l : List S) : (mergeS l).map pr = AgeN.merge (l.map pr) := by
  cases l with
  | nil => rfl
  | cons s r => exact mgS_pr r s
theorem mgS_len (r : List S) : ∀ c, (mgS c r).length ≤ r.length + 1 := by
  induction r with
  | nil => intro c; simp [mgS]
  | cons s r ih =>
    intro c
    unfold mgS
    split
    · have := ih ⟨c.f0, mx c.f1 s.f1⟩; simp; omega
    · have := ih s; simp; omega
theorem mergeS_len (l : List S) : (mergeS l).length ≤ l.length := by
  cases l with
  | nil => exact Nat.le_refl _
  | cons s r => have := mgS_len r s; simpa [mergeS] using this
def neatS (l : List S) : List S := mergeS (SortS.srt (cleanS l))
theorem neatS_len (l : List S) : (neatS l).length ≤ l.length := by
  have a := mergeS_len (SortS.srt (cleanS l))
  rw [SortS.srt_length] at a
  have b := cleanS_len l
  unfold neatS
  omega
theorem asc_of (l : List (Int × Int)) : (∀ i j, i < j → j < l.length → l[i]!.1 ≤ l[j]!.1) → AgeN.Asc l := by
  induction l with
  | nil => intro _; trivial
  | cons s r ih =>
    intro h
    refine ⟨fun x hx => ?_, ih (fun i j hij hj => ?_)⟩
    · obtain ⟨j, hj, rfl⟩ := List.getElem_of_mem hx
      have := h 0 (j + 1) (by omega) (by simpa using hj)
      rw [getElem!_pos _ 0 (by simp), getElem!_pos _ (j + 1) (by simpa using hj)] at this
      simpa using this
    · have := h (i + 1) (j + 1) (by omega) (by simpa using hj)
      simpa using this
theorem neatS_is (l : List S) : AgeN.IsNeat (l.map pr) ((neatS l).map pr) := by
  refine ⟨(SortS.srt (cleanS l)).map pr, ?_, ?_, ?_⟩
  · rw [← cleanS_pr]
    exact (SortS.srt_spec (cleanS l)).1.map pr
  · refine asc_of _ (fun i j hij hj => ?_)
    rw [List.length_map] at hj
    have hl := SortS.srt_length (cleanS l)
    have := (SortS.srt_spec (cleanS l)).2 i j hij (by omega)
    rw [getElem!_pos (SortS.srt (cleanS l)) i (by omega), getElem!_pos (SortS.srt (cleanS l)) j (by omega)] at this
    rw [getElem!_pos _ i (by rw [List.length_map]; omega), getElem!_pos _ j (by rw [List.length_map]; omega), List.getElem_map, List.getElem_map]
    exact this
  · exact mergeS_pr _
theorem rd_at (pre : List S) (s : S) (r : List S) : rd_T67 (pre ++ s :: r) (pre.length : Int) = s := by
  unfold rd_T67
  simp
theorem wr (n : Nat) (h : n < 4611686018427387904) : wrap64 ((n : Int) + 1) = ((n + 1 : Nat) : Int) := by unfold wrap64; omega
/-- The merge loop. -/
theorem l1_go (r : List S) : ∀ (pre o : List S) (c : S) (k : Nat), r.length < k → (pre ++ r).length < 4398046511104 → o.length + 1 ≤ pre.length →
    agenda_Neat.l1 k (o ++ [c]) (pre ++ r) ((pre ++ r).length : Int) (pre.length : Int) = some (o ++ mgS c r) := by
  induction r with
  | nil =>
    intro pre o c k hk hb ho
    obtain ⟨k, rfl⟩ : ∃ m, k = m + 1 := ⟨k - 1, by simp at hk; omega⟩
    simp only [agenda_Neat.l1]
    rw [if_neg (by simp)]
    rfl
  | cons s r ih =>
    intro pre o c k hk hb ho
    obtain ⟨k, rfl⟩ : ∃ m, k = m + 1 := ⟨k - 1, by simp at hk; omega⟩
    have hb2 : pre.length + (r.length + 1) < 4398046511104 := by simpa using hb
    simp only [agenda_Neat.l1]
    rw [if_pos (by simp; omega), if_pos (by omega), if_pos (by simp; omega), if_pos (by simp <;> omega), rd_at]
    have hw : wrap64 (((o ++ [c]).length : Int) - 1) = (o.length : Int) := by
      have : ((o ++ [c]).length : Int) = (o.length : Int) + 1 := by simp
      rw [this]; unfold wrap64; omega
    rw [hw, if_pos (by omega), if_pos (by simp <;> omega)]
    have hc : rd_T67 (o ++ [c]) (o.length : Int) = c := rd_at o c []
    rw [hc, wr pre.length (by omega)]
    have e1 : pre ++ s :: r = (pre ++ [s]) ++ r := by simp
    have e2 : ((pre.length + 1 : Nat) : Int) = ((pre ++ [s]).length : Int) := by simp
    have hk2 : r.length < k := by simp at hk; omega
    unfold mgS
    by_cases q : s.f0 ≤ c.f1
    · rw [if_pos q]
      rw [if_pos q]
      have e3 : (o ++ [c]).set (o.length : Int).toNat ⟨c.f0, mx c.f1 s.f1⟩ = o ++ [⟨c.f0, mx c.f1 s.f1⟩] := by simp
      rw [e3, e1, e2]
      exact ih (pre ++ [s]) o _ k hk2 (by simpa using hb2) (by simp; omega)
    · rw [if_neg q]
      rw [if_neg q, if_pos (by simp; omega)]
      rw [e1, e2]
      have := ih (pre ++ [s]) (o ++ [c]) s k hk2 (by simpa using hb2) (by simp; omega)
      rw [show (o ++ [c]) ++ mgS s r = o ++ (c :: mgS s r) by simp] at this
      exact this
theorem l1_all (l : List S) (k : Nat) (hk : l.length < k) (hb : l.length < 4398046511104) : agenda_Neat.l1 k [] l (l.length : Int) 0 = some (mergeS l) := by
  cases l with
  | nil =>
    obtain ⟨k, rfl⟩ : ∃ m, k = m + 1 := ⟨k - 1, by simp at hk; omega⟩
    simp only [agenda_Neat.l1]
    rw [if_neg (by simp)]
    rfl
  | cons s r =>
    obtain ⟨k, rfl⟩ : ∃ m, k = m + 1 := ⟨k - 1, by simp at hk; omega⟩
    simp only [agenda_Neat.l1]
    have h0 := rd_at [] s r
    simp only [List.nil_append, List.length_nil, Int.natCast_zero] at h0
    have h1 := wr 0 (by omega)
    simp only [Int.natCast_zero] at h1
    rw [if_pos (by simp), if_pos (by omega), if_pos (by simp), if_neg (by simp), if_pos (by simp), h0, h1]
    have := l1_go r [s] [] s k (by simp at hk; omega) (by simpa using hb) (by simp)
    simpa [mergeS] using this
theorem l0_go (r : List S) : ∀ (pre acc : List S) (k : Nat), 2 * r.length + acc.length + 2 ≤ k → (pre ++ r).length < 4398046511104 → acc.length ≤ pre.length →
    agenda_Neat.l0 k acc (pre ++ r) ((pre ++ r).length : Int) (pre.length : Int) = some (mergeS (SortS.srt (acc ++ cleanS r))) := by
  induction r with
  | nil =>
    intro pre acc k hk hb ha
    obtain ⟨k, rfl⟩ : ∃ m, k = m + 1 := ⟨k - 1, by omega⟩
    have hb2 : pre.length < 4398046511104 := by simpa using hb
    simp only [agenda_Neat.l0]
    rw [if_neg (by simp), if_pos (by omega)]
    have hl := SortS.srt_length acc
    have := l1_all (SortS.srt acc) k (by rw [hl]; simp at hk; omega) (by omega)
    rw [hl] at this
    simpa [cleanS] using this
  | cons s r ih =>
    intro pre acc k hk hb ha
    obtain ⟨k, rfl⟩ : ∃ m, k = m + 1 := ⟨k - 1, by omega⟩
    have hb2 : pre.length + (r.length + 1) < 4398046511104 := by simpa using hb
    simp only [agenda_Neat.l0]
    rw [if_pos (by simp; omega), if_pos (by omega), if_pos (by simp; omega), rd_at, within, Option.bind_some, within, Option.bind_some, wr pre.length (by omega)]
    have e1 : pre ++ s :: r = (pre ++ [s]) ++ r := by simp
    have e2 : ((pre.length + 1 : Nat) : Int) = ((pre ++ [s]).length : Int) := by simp
    unfold cleanS
    by_cases c : AgeN.cl s.f0 < AgeN.cl s.f1
    · rw [if_pos c, if_pos (by omega), if_pos c, e1, e2]
      have := ih (pre ++ [s]) (acc ++ [⟨AgeN.cl s.f0, AgeN.cl s.f1⟩]) k (by simp at hk ⊢; omega) (by simpa using hb2) (by simp; omega)
      rw [this]; simp
    · rw [if_neg c, if_neg c, e1, e2]
      exact ih (pre ++ [s]) acc k (by simp at hk; omega) (by simpa using hb2) (by simp; omega)
/-- agenda.Neat, told. -/
theorem neat (l : List S) (k : Nat) (hk : 2 * l.length + 2 ≤ k) (hb : l.length < 4398046511104) : agenda_Neat.f k l = some (neatS l) := by
  have := l0_go l [] [] k (by simpa using hk) (by simpa using hb) (by simp)
  simpa [agenda_Neat.f, neatS] using this
theorem awake (k : Nat) (hk : 6 ≤ k) : trystlaw28_awake.f k = some true := by
  unfold trystlaw28_awake.f
  rw [neat _ _ (by simpa using hk) (by simp), Option.bind_some]
  have h := neatS_is [(⟨1, 3⟩ : S), (⟨3, 5⟩ : S)]
  have h2 : AgeN.IsNeat ([(⟨1, 3⟩ : S), (⟨3, 5⟩ : S)].map pr) [(1, 5)] := by
    refine ⟨[(1, 3), (3, 5)], ?_, ⟨?_, ?_, trivial⟩, by decide⟩
    · exact List.Perm.of_eq (by decide)
    · intro x hx; simp at hx; subst hx; decide
    · intro x hx; cases hx
  have e := AgeN.isNeat_one h h2
  generalize neatS [(⟨1, 3⟩ : S), (⟨3, 5⟩ : S)] = n at e ⊢
  rcases n with _ | ⟨x, _ | ⟨y, r⟩⟩
  · simp at e
  · simp [pr] at e
    simp [rd_T67, e.2]
  · simp at e
end Go.Proofs.Ytddoidcbpcmlaaa.AgeW
