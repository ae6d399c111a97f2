/- Whole durations: the reference's scan, and both answers are one. -/
import Derived.Test.YthppkdbelmolbaaDoorSpansP
import Derived.Test.YthppkdbelmolbaaDoorQdurR
namespace Go.Proofs.YthppkdbelmolbaaDoor.SpansR
open Go.RowKit Go.Proofs.YthppkdbelmolbaaDoorW.PrintWords Go.Proofs.YthppkdbelmolbaaDoorW.PrintLast Go.Proofs.YthppkdbelmolbaaDoor.Q Go.Proofs.YthppkdbelmolbaaDoor.Cal Go.Proofs.YthppkdbelmolbaaDoor.Bytes Go.Proofs.YthppkdbelmolbaaDoor.Spans Go.Proofs.YthppkdbelmolbaaDoor.SpansP
set_option linter.unusedVariables false
set_option linter.unusedSimpArgs false
theorem tmsA_bd (l : List UInt8) : ∀ cnt acc M, tmsA cnt acc l = some M → 0 ≤ acc → acc < Spans.p10 cnt → M.length ≤ l.length ∧ ∀ x ∈ M, 0 ≤ x.1 ∧ x.1 < 10000000000 := by
  induction l with
  | nil =>
    intro cnt acc M h _ _
    unfold tmsA at h
    by_cases e : cnt = 0
    · rw [if_pos e] at h; obtain rfl := Option.some.inj h; exact ⟨by simp, fun x hx => by cases hx⟩
    · rw [if_neg e] at h; cases h
  | cons b l ih =>
    intro cnt acc M h h0 h1
    unfold tmsA at h
    by_cases d : Dig b
    · rw [if_pos d] at h
      have hb := dv_bd d
      have e : Spans.p10 (cnt + 1) = 10 * Spans.p10 cnt := rfl
      obtain ⟨a1, a2⟩ := ih _ _ _ h (by omega) (by omega)
      exact ⟨by simp; omega, a2⟩
    · rw [if_neg d] at h
      by_cases e : 1 ≤ cnt ∧ cnt ≤ 10
      · rw [if_pos e] at h
        cases h2 : tmsA 0 0 l with
        | none => rw [h2] at h; cases h
        | some M2 =>
          rw [h2] at h
          obtain rfl := Option.some.inj h
          obtain ⟨a1, a2⟩ := ih _ _ _ h2 (by omega) (by decide)
          have := p10_mono e.2
          have e10 : Spans.p10 10 = 10000000000 := by decide
          refine ⟨by simp; omega, fun x hx => ?_⟩
          rcases List.mem_cons.1 hx with q | q
          · subst q; exact ⟨h0, by simp only; omega⟩
          · exact a2 x q
      · rw [if_neg e] at h; cases h
theorem tms_bd {l : List UInt8} {M} (h : tms l = some M) : M.length ≤ l.length ∧ ∀ x ∈ M, 0 ≤ x.1 ∧ x.1 < 10000000000 := tmsA_bd l 0 0 M h (by omega) (by decide)
theorem rdA (p r : List (Int × UInt8)) (x : Int × UInt8) : rd_T61 ((p ++ x :: r).map toS) ((p.length : Nat) : Int) = toS x := by
  unfold rd_T61
  have e : (((p.length : Nat) : Int)).toNat = (p.map toS).length := by simp
  rw [e, List.map_append, List.map_cons]
  simp [List.getD]
theorem so1 (c : UInt8) : strOfNums [((c.toNat : Nat) : Int)] = ⟨#[c]⟩ := by
  unfold strOfNums
  have : (((c.toNat : Nat) : Int)).toNat = c.toNat := by omega
  simp [this]
theorem appA (w : List UInt8) (c : UInt8) : (⟨w.toArray⟩ : ByteArray) ++ ⟨#[c]⟩ = ⟨(w ++ [c]).toArray⟩ := by
  apply ByteArray.ext
  simp [ByteArray.data_append]
theorem good_chain {α : Type} (w : List UInt8) (X : Bool → α) : (if w = [72] then X false else if w = [72, 77] then X false else if w = [72, 77, 83] then X false else if w = [77] then X false else if w = [77, 83] then X false else X (w != [83])) = X (!good w) := by
  unfold good
  by_cases a1 : w = [72]
  · subst a1; rfl
  rw [if_neg a1, beq_eq_false_iff_ne.mpr a1]
  by_cases a2 : w = [72, 77]
  · subst a2; rfl
  rw [if_neg a2, beq_eq_false_iff_ne.mpr a2]
  by_cases a3 : w = [72, 77, 83]
  · subst a3; rfl
  rw [if_neg a3, beq_eq_false_iff_ne.mpr a3]
  by_cases a4 : w = [77]
  · subst a4; rfl
  rw [if_neg a4, beq_eq_false_iff_ne.mpr a4]
  by_cases a5 : w = [77, 83]
  · subst a5; rfl
  rw [if_neg a5, beq_eq_false_iff_ne.mpr a5]
  simp only [Bool.false_or]
  rfl
theorem j9 (k : Nat) (hk : 1 ≤ k) (by_ n : Int) (b : Bool) : trystref12_ParseDuration.j9 k by_ n b = some (if b = true then (0, 7) else fin by_ n) := by
  obtain ⟨k, rfl⟩ : ∃ m, k = m + 1 := ⟨k - 1, by omega⟩
  simp only [trystref12_ParseDuration.j9, fin]
  cases b
  · simp only [Bool.false_eq_true, if_false]
    split <;> rfl
  · rfl
theorem l1 (by_ : Int) (r : List (Int × UInt8)) : ∀ (p : List (Int × UInt8)) (k : Nat) (n : Int), r.length + 3 ≤ k → (p ++ r).length ≤ 1000 → (∀ x ∈ r, 0 ≤ x.1 ∧ x.1 < 10000000000) → 0 ≤ n → n ≤ 10000000000000000 + 36000000000000 * (p.length : Int) →
    trystref12_ParseDuration.l1 k by_ n ((p ++ r).map toS) ⟨(word p).toArray⟩ (((p ++ r).length : Nat) : Int) ((p.length : Nat) : Int) = some (if good (word (p ++ r)) = true then fin by_ (n + sum r) else (0, 7)) := by
  induction r with
  | nil =>
    intro p k n hk hl hx h0 h1
    obtain ⟨k, rfl⟩ : ∃ m, k = m + 1 := ⟨k - 1, by omega⟩
    simp only [trystref12_ParseDuration.l1, List.append_nil, tl, sum, Int.add_zero]
    rw [if_neg (by omega)]
    refine (good_chain (word p) (fun b => trystref12_ParseDuration.j9 k by_ n b)).trans ?_
    show trystref12_ParseDuration.j9 k by_ n (!good (word p)) = _
    rw [j9 k (by omega)]
    cases good (word p) <;> rfl
  | cons x r ih =>
    intro p k n hk hl hx h0 h1
    obtain ⟨k, rfl⟩ : ∃ m, k = m + 1 := ⟨k - 1, by omega⟩
    have hlen : (p ++ x :: r).length = p.length + (r.length + 1) := by simp
    have hml : ((p ++ x :: r).map toS).length = p.length + (r.length + 1) := by simp
    have hx1 := hx x (by simp)
    have hw : (word p).length = p.length := by simp [word]
    have hpx : (p ++ [x]).length = p.length + 1 := by simp
    have ea : p ++ x :: r = p ++ [x] ++ r := by simp
    have ew : word p ++ [x.2] = word (p ++ [x]) := by simp [word]
    have s1 : (⟨#[x.2]⟩ : ByteArray).size = 1 := rfl
    have step : ∀ m : Int, 0 ≤ m → m ≤ 36000000000000 → m = wt x.2 * x.1 →
        trystref12_ParseDuration.l1 k by_ (n + m) ((p ++ x :: r).map toS) ⟨(word (p ++ [x])).toArray⟩ (((p ++ x :: r).length : Nat) : Int) (((p.length : Nat) : Int) + 1) = some (if good (word (p ++ x :: r)) = true then fin by_ (n + sum (x :: r)) else (0, 7)) := by
      intro m m0 m1 m2
      have := ih (p ++ [x]) k (n + m) (by simp at hk; omega) (by rw [← ea]; exact hl) (fun y hy => hx y (by simp [hy])) (by omega) (by rw [hpx]; omega)
      rw [← ea, hpx] at this
      have e2 : n + sum (x :: r) = n + m + sum r := by
        show n + (wt x.2 * x.1 + sum r) = _
        omega
      rw [e2]
      exact_mod_cast this
    simp only [trystref12_ParseDuration.l1]
    rw [rdA, if_pos (by omega), if_pos (by omega), if_pos (by rw [hml]; omega)]
    simp only [toS]
    rw [Option.bind_some, so1, sz, s1, appA, ew, if_pos (by omega), w64 (x := ((p.length : Nat) : Int) + 1) (by omega) (by omega)]
    simp only [c72, c77, c83]
    by_cases d : x.2 = 72
    · rw [if_pos d, w64 (x := 3600 * x.1) (by omega) (by omega), w64 (by omega) (by omega)]
      exact step _ (by omega) (by omega) (by rw [d]; rfl)
    · rw [if_neg d]
      by_cases d2 : x.2 = 77
      · rw [if_pos d2, w64 (x := 60 * x.1) (by omega) (by omega), w64 (by omega) (by omega)]
        exact step _ (by omega) (by omega) (by rw [d2]; rfl)
      · rw [if_neg d2]
        by_cases d3 : x.2 = 83
        · rw [if_pos d3, w64 (by omega) (by omega)]
          exact step _ (by omega) (by omega) (by rw [d3]; show x.1 = 1 * x.1; omega)
        · rw [if_neg d3]
          have := step 0 (by omega) (by omega) (by unfold wt; rw [if_neg d, if_neg d2, if_neg d3]; omega)
          rw [Int.add_zero] at this
          exact this
/-- The place of the first T, or -1. -/
def tp (D : List UInt8) : Option (List UInt8) → Int
  | none => -1
  | some _ => ((D.length : Nat) : Int)
def bd (D : List UInt8) (R : Option (List UInt8)) : List UInt8 := D ++ R.elim [] (fun r => 84 :: r)
/-- What comes behind the days. -/
def rest (by_ n : Int) : Option (List UInt8) → Int × Int
  | none => fin by_ n
  | some r => if (rv r).2 = true then fin by_ (n + (rv r).1) else (0, 7)
theorem j7 (k : Nat) (D : List UInt8) (R : Option (List UInt8)) (by_ n : Int) (hk : 2 * (bd D R).length + 20 ≤ k) (hl : (bd D R).length ≤ 1000) (h0 : 0 ≤ n) (h1 : n ≤ 10000000000000000) :
    trystref12_ParseDuration.j7 k ⟨(bd D R).toArray⟩ by_ (tp D R) n false = some (rest by_ n R) := by
  obtain ⟨k, rfl⟩ : ∃ m, k = m + 1 := ⟨k - 1, by omega⟩
  simp only [trystref12_ParseDuration.j7, Bool.false_eq_true, if_false]
  cases R with
  | none =>
    simp only [tp, rest, fin]
    refine (if_neg (show ¬ ((-1 : Int) ≥ 0) by omega)).trans ?_
    split <;> rfl
  | some r =>
    have hb : (bd D (some r)).length = D.length + (r.length + 1) := by simp [bd]
    simp only [rest]
    have tpS : tp D (some r) = ((D.length : Nat) : Int) := rfl
    rw [tpS]
    have et : (((D.length : Nat) : Int) + 1).toNat = D.length + 1 := by omega
    have ee : ((bd D (some r)).take (bd D (some r)).length).drop (D.length + 1) = r := by
      rw [List.take_length]
      simp [bd]
    rw [if_pos (show ((D.length : Nat) : Int) ≥ 0 by omega), w64 (x := ((D.length : Nat) : Int) + 1) (by omega) (by omega), if_pos (show (0 : Int) ≤ ((D.length : Nat) : Int) + 1 by omega), if_pos (by rw [sz, hb]; omega), et, sz, ex, ee]
    obtain ⟨L, t1, t2⟩ := terms r k (by omega) (by omega)
    rw [t1, Option.bind_some]
    unfold rv
    cases h : tms r with
    | none => rfl
    | some M =>
      obtain ⟨b1, b2⟩ := tms_bd h
      rw [t2 M h]
      simp only [Option.elim_some]
      by_cases c : 0 < M.length
      · refine (if_pos (decide_eq_true c)).trans ?_
        rw [decide_eq_true c]
        have := l1 by_ M [] k n (by omega) (by simp; omega) b2 h0 (by simpa using h1)
        simp only [List.nil_append, List.length_nil, List.length_map] at this
        have el : (M.map toS).length = M.length := by simp
        rw [el, Bool.true_and]
        exact this
      · refine (if_neg (by rw [decide_eq_false c]; decide)).trans ?_
        rw [decide_eq_false c, Bool.false_and, if_neg (by decide)]
theorem j6 (k : Nat) (D : List UInt8) (R : Option (List UInt8)) (by_ n : Int) (hk : 2 * (bd D R).length + 21 ≤ k) (hl : (bd D R).length ≤ 1000) (h0 : 0 ≤ n) (h1 : n ≤ 10000000000000000) (hD : D ≠ []) :
    trystref12_ParseDuration.j6 k ⟨(bd D R).toArray⟩ by_ (tp D R) n ⟨D.toArray⟩ = some (rest by_ n R) := by
  obtain ⟨k, rfl⟩ : ∃ m, k = m + 1 := ⟨k - 1, by omega⟩
  simp only [trystref12_ParseDuration.j6, tl]
  rw [if_neg hD, j7 k D R by_ n (by omega) hl h0 h1]
theorem j5t (k : Nat) (hk : 1 ≤ k) (a b c d e) : trystref12_ParseDuration.j5 k a b c d e true = some (0, 7) := by
  obtain ⟨k, rfl⟩ : ∃ m, k = m + 1 := ⟨k - 1, by omega⟩
  simp only [trystref12_ParseDuration.j5, if_true]
theorem j5f (k : Nat) (D : List UInt8) (R : Option (List UInt8)) (by_ v : Int) (c : UInt8) (hk : 2 * (bd D R).length + 22 ≤ k) (hl : (bd D R).length ≤ 1000) (h0 : 0 ≤ v) (h1 : v < 10000000000) (hD : D ≠ []) :
    trystref12_ParseDuration.j5 k ⟨(bd D R).toArray⟩ by_ (tp D R) ⟨D.toArray⟩ ([(v, c)].map toS) false = some (rest by_ (if c = 87 then 604800 * v else 86400 * v) R) := by
  obtain ⟨k, rfl⟩ : ∃ m, k = m + 1 := ⟨k - 1, by omega⟩
  have e0 : rd_T61 ([(v, c)].map toS) 0 = toS (v, c) := rfl
  simp only [trystref12_ParseDuration.j5, Bool.false_eq_true, if_false, e0]
  rw [if_pos (by simp)]
  simp only [toS, c87]
  by_cases d : c = 87
  · rw [if_pos d, if_pos d, w64 (by omega) (by omega), j6 k D R by_ _ (by omega) hl (by omega) (by omega) hD]
  · rw [if_neg d, if_neg d, w64 (by omega) (by omega), j6 k D R by_ _ (by omega) hl (by omega) (by omega) hD]
theorem rd_eq (by_ : Int) (D : List UInt8) (R : Option (List UInt8)) : SpansP.rd by_ D R = match dn D R.isSome with
    | none => (0, 7)
    | some n => rest by_ n R := by
  unfold SpansP.rd
  cases dn D R.isSome with
  | none => rfl
  | some n => cases R <;> rfl
theorem j4 (k : Nat) (D : List UInt8) (R : Option (List UInt8)) (by_ : Int) (hk : 2 * (bd D R).length + 23 ≤ k) (hl : (bd D R).length ≤ 1000) :
    trystref12_ParseDuration.j4 k ⟨(bd D R).toArray⟩ by_ (tp D R) 0 ⟨D.toArray⟩ = some (SpansP.rd by_ D R) := by
  obtain ⟨k, rfl⟩ : ∃ m, k = m + 1 := ⟨k - 1, by omega⟩
  simp only [trystref12_ParseDuration.j4, tl]
  rw [rd_eq]
  have hDl : D.length ≤ (bd D R).length := by unfold bd; simp
  by_cases c : D = []
  · rw [if_pos c]
    obtain ⟨k, rfl⟩ : ∃ m, k = m + 1 := ⟨k - 1, by omega⟩
    simp only [trystref12_ParseDuration.j6, tl]
    rw [if_pos c]
    cases R with
    | none =>
      obtain ⟨k, rfl⟩ : ∃ m, k = m + 1 := ⟨k - 1, by omega⟩
      simp only [trystref12_ParseDuration.j7, tp, dn]
      rw [if_pos c]
      rfl
    | some r =>
      have e : (decide (tp D (some r) < 0)) = false := decide_eq_false (by simp only [tp]; omega)
      rw [e, j7 k D (some r) by_ 0 (by omega) hl (by omega) (by omega)]
      unfold dn
      rw [if_pos c]
      rfl
  · rw [if_neg c]
    obtain ⟨L, t1, t2⟩ := terms D k (by omega) (by omega)
    rw [t1, Option.bind_some]
    unfold dn
    rw [if_neg c]
    cases h : tms D with
    | none =>
      simp only [Option.elim_none, Bool.false_eq_true, if_false]
      rw [j5t k (by omega)]
    | some M =>
      obtain ⟨b1, b2⟩ := tms_bd h
      rw [t2 M h]
      simp only [Option.elim_some]
      match M, b2 with
      | [], _ =>
        rw [if_neg (by decide), j5t k (by omega)]
      | [(v, s)], b2 =>
        have hv := b2 (v, s) (by simp)
        simp only at hv
        have e0 : rd_T61 ([(v, s)].map toS) 0 = toS (v, s) := rfl
        have e1 : decide (0 < [(v, s)].length) = true := rfl
        rw [e1, if_pos rfl, e0, if_pos (by simp), if_pos (by simp)]
        simp only [toS, c68, c87]
        by_cases d : s = 68
        · rw [if_pos d, if_pos d]
          have := j5f k D R by_ v s (by omega) hl hv.1 hv.2 c
          rw [if_neg (by rw [d]; decide)] at this
          exact this
        · rw [if_neg d, if_neg d]
          by_cases d2 : s = 87
          · rw [if_pos d2, if_pos d2]
            cases R with
            | none =>
              have e : (decide (tp D none ≥ 0)) = false := rfl
              rw [e]
              have := j5f k D none by_ v s (by omega) hl hv.1 hv.2 c
              rw [if_pos d2] at this
              exact this
            | some r =>
              have e : (decide (tp D (some r) ≥ 0)) = true := decide_eq_true (by simp only [tp]; omega)
              rw [e, j5t k (by omega)]
              rfl
          · rw [if_neg d2, if_neg d2, j5t k (by omega)]
      | a :: b :: M2, _ =>
        rw [if_pos (by simp), if_neg (by simp; omega), j5t k (by omega)]
theorem l0b (X : List UInt8) (by_ : Int) (d : Nat) (A : Int × Int) (K : Nat) (hX : X.length ≤ 1000) (hd : d ≤ X.length)
    (H : ∀ m, K ≤ m → trystref12_ParseDuration.j4 m ⟨X.toArray⟩ by_ ((d : Nat) : Int) 0 ⟨(X.take d).toArray⟩ = some A) (r : List UInt8) : ∀ (p : List UInt8) (k : Nat), X = p ++ r → r.length + 1 + K ≤ k →
    trystref12_ParseDuration.l0 k ⟨X.toArray⟩ by_ ((d : Nat) : Int) ((X.length : Nat) : Int) ((p.length : Nat) : Int) = some A := by
  induction r with
  | nil =>
    intro p k hp hk
    obtain ⟨k, rfl⟩ : ∃ m, k = m + 1 := ⟨k - 1, by omega⟩
    simp only [trystref12_ParseDuration.l0]
    have : X.length = p.length := by rw [hp]; simp
    have e : (((d : Nat) : Int)).toNat = d := by omega
    have e2 : (X.take d).drop 0 = X.take d := rfl
    rw [if_neg (by omega), if_pos (by omega), if_pos (by omega), if_pos (by rw [sz]; omega), e, ex, e2]
    exact H k (by simp at hk; omega)
  | cons x r ih =>
    intro p k hp hk
    obtain ⟨k, rfl⟩ : ∃ m, k = m + 1 := ⟨k - 1, by omega⟩
    have hXl : X.length = p.length + (r.length + 1) := by rw [hp]; simp
    have hpx : (((p ++ [x]).length : Nat) : Int) = ((p.length : Nat) : Int) + 1 := by simp
    have := ih (p ++ [x]) k (by rw [hp]; simp) (by simp at hk; omega)
    rw [hpx] at this
    simp only [trystref12_ParseDuration.l0]
    rw [if_pos (by omega), if_pos (by omega), if_pos (by rw [sz]; omega), w64 (x := ((p.length : Nat) : Int) + 1) (by omega) (by omega), if_neg (show ¬ ((d : Nat) : Int) < 0 by omega), this]
    simp
theorem c84 (c : UInt8) : (((c.toNat : Nat) : Int) = 84) = (c = 84) := propext (c_eq c 84 (by omega))
theorem l0a (by_ : Int) (r : List UInt8) : ∀ (p : List UInt8) (k : Nat), (p ++ r).length ≤ 1000 → r.length + 2 * (p ++ r).length + 30 ≤ k →
    trystref12_ParseDuration.l0 k ⟨(p ++ r).toArray⟩ by_ (-1) (((p ++ r).length : Nat) : Int) ((p.length : Nat) : Int) = some (SpansP.rd by_ (p ++ (cutT r).1) (cutT r).2) := by
  induction r with
  | nil =>
    intro p k hl hk
    obtain ⟨k, rfl⟩ : ∃ m, k = m + 1 := ⟨k - 1, by omega⟩
    simp only [trystref12_ParseDuration.l0, List.append_nil, cutT] at hl hk ⊢
    rw [if_neg (by omega), if_neg (by omega)]
    have e : bd p none = p := by simp [bd]
    have := j4 k p none by_ (by rw [e]; omega) (by rw [e]; omega)
    rw [e] at this
    exact this
  | cons x r ih =>
    intro p k hl hk
    obtain ⟨k, rfl⟩ : ∃ m, k = m + 1 := ⟨k - 1, by omega⟩
    have hXl : (p ++ x :: r).length = p.length + (r.length + 1) := by simp
    have hpx : (((p ++ [x]).length : Nat) : Int) = ((p.length : Nat) : Int) + 1 := by simp
    have hr : (x :: r).length = r.length + 1 := rfl
    have ea : p ++ x :: r = p ++ [x] ++ r := by simp
    simp only [trystref12_ParseDuration.l0]
    rw [if_pos (by omega), if_pos (by omega), if_pos (by rw [sz]; omega), w64 (x := ((p.length : Nat) : Int) + 1) (by omega) (by omega), bta, if_pos (show (-1 : Int) < 0 by omega)]
    simp only [c84]
    by_cases c : x = 84
    · rw [if_pos c]
      subst c
      have e : bd p (some r) = p ++ 84 :: r := rfl
      have et : (p ++ 84 :: r).take p.length = p := by simp
      have := l0b (p ++ 84 :: r) by_ p.length (SpansP.rd by_ p (some r)) (2 * (p ++ 84 :: r).length + 23) hl (by omega) (fun m hm => by
        rw [et]
        exact j4 m p (some r) by_ hm hl) r (p ++ [84]) k (by simp) (by omega)
      rw [hpx] at this
      rw [this]
      simp [cutT]
    · rw [if_neg c]
      have := ih (p ++ [x]) k (by rw [← ea]; exact hl) (by rw [← ea]; omega)
      rw [← ea, hpx] at this
      rw [this]
      have : cutT (x :: r) = (x :: (cutT r).1, (cutT r).2) := by
        show (if x = 84 then _ else _) = _
        rw [if_neg c]
      rw [this]
      simp
/-- The sign, and what it stands before. -/
def sg : List UInt8 → Int × List UInt8
  | [] => (1, [])
  | x :: r => if x = 45 then (-1, r) else if x = 43 then (1, r) else (1, x :: r)
theorem sg_cons (x : UInt8) (r : List UInt8) : sg (x :: r) = if x = 45 then (-1, r) else if x = 43 then (1, r) else (1, x :: r) := rfl
def body (by_ : Int) : List UInt8 → Int × Int
  | [] => (0, 7)
  | x :: b => if x = 80 then SpansP.rd by_ (cutT b).1 (cutT b).2 else (0, 7)
theorem body_cons (by_ : Int) (x : UInt8) (b : List UInt8) : body by_ (x :: b) = if x = 80 then SpansP.rd by_ (cutT b).1 (cutT b).2 else (0, 7) := rfl
theorem tailx (x : UInt8) (r : List UInt8) : (⟨(x :: r).toArray⟩ : ByteArray).extract 1 (⟨(x :: r).toArray⟩ : ByteArray).size = ⟨r.toArray⟩ := by
  rw [ex, sz]
  simp
theorem bt0 (x : UInt8) (r : List UInt8) : bt ⟨(x :: r).toArray⟩ 0 = ((x.toNat : Nat) : Int) := bta [] x r
theorem c80 (c : UInt8) : (((c.toNat : Nat) : Int) = 80) = (c = 80) := propext (c_eq c 80 (by omega))
theorem c45 (c : UInt8) : (((c.toNat : Nat) : Int) = 45) = (c = 45) := propext (c_eq c 45 (by omega))
theorem c43 (c : UInt8) : (((c.toNat : Nat) : Int) = 43) = (c = 43) := propext (c_eq c 43 (by omega))
theorem j1 (k : Nat) (by_ : Int) (l : List UInt8) (hl : l.length ≤ 1000) (hk : 3 * l.length + 33 ≤ k) : trystref12_ParseDuration.j1 k ⟨l.toArray⟩ by_ = some (body by_ l) := by
  obtain ⟨k, rfl⟩ : ∃ m, k = m + 2 := ⟨k - 2, by omega⟩
  simp only [trystref12_ParseDuration.j1, trystref12_ParseDuration.j2]
  cases l with
  | nil => rfl
  | cons x r =>
    have hs : (⟨(x :: r).toArray⟩ : ByteArray).size = r.length + 1 := by rw [sz]; rfl
    have hr : (x :: r).length = r.length + 1 := rfl
    rw [tailx, bt0, if_neg (by rw [hs]; omega), if_pos (by rw [hs]; omega), sz]
    by_cases c : x = 80
    · have e : (((x.toNat : Nat) : Int) != 80) = false := by rw [c]; rfl
      have := l0a by_ r [] k (by simp; omega) (by simp; omega)
      simp only [List.nil_append, List.length_nil] at this
      rw [e, if_neg (by decide), if_pos (by rw [hr]; omega)]
      refine this.trans ?_
      show _ = some (if x = 80 then _ else _)
      rw [if_pos c]
    · have e : (((x.toNat : Nat) : Int) != 80) = true := by
        rw [bne_iff_ne]
        rw [Ne, c80]; exact c
      rw [e, if_pos rfl]
      show _ = some (if x = 80 then _ else _)
      rw [if_neg c]
theorem ref (k : Nat) (l : List UInt8) (hl : l.length ≤ 1000) (hk : 3 * l.length + 40 ≤ k) : trystref12_ParseDuration.f k ⟨l.toArray⟩ = some (body (sg l).1 (sg l).2) := by
  obtain ⟨k, rfl⟩ : ∃ m, k = m + 1 := ⟨k - 1, by omega⟩
  simp only [trystref12_ParseDuration.f, trystref12_ParseDuration.j0]
  cases l with
  | nil =>
    rw [if_neg (by rw [sz]; simp), if_neg (by decide), j1 k 1 [] (by simp) (by simp; omega)]
    rfl
  | cons x r =>
    have hs : (⟨(x :: r).toArray⟩ : ByteArray).size = r.length + 1 := by rw [sz]; rfl
    have hr : (x :: r).length = r.length + 1 := rfl
    have a1 : ((⟨(x :: r).toArray⟩ : ByteArray).size : Int) > 0 := by rw [hs]; omega
    have a2 : 0 < ((⟨(x :: r).toArray⟩ : ByteArray).size : Int) := a1
    have a3 : 1 ≤ ((⟨(x :: r).toArray⟩ : ByteArray).size : Int) := by omega
    simp only [if_pos a1, if_pos a2, if_pos a3, tailx, bt0, c45]
    rw [sg_cons]
    by_cases c : x = 45
    · simp only [if_pos c, if_true]
      exact j1 k _ r (by omega) (by omega)
    · simp only [if_neg c]
      by_cases c2 : x = 43
      · have e : (((x.toNat : Nat) : Int) == 43) = true := by rw [c2]; rfl
        rw [e, if_pos rfl, if_pos c2]
        exact j1 k _ r (by omega) (by omega)
      · have e : (((x.toNat : Nat) : Int) == 43) = false := by
          rw [beq_eq_false_iff_ne, Ne, c43]; exact c2
        rw [e, if_neg (by decide), if_neg c2]
        exact j1 k _ (x :: r) hl (by omega)
theorem hp_nil (p : UInt8) : strings_HasPrefix.f ⟨([] : List UInt8).toArray⟩ ⟨#[p]⟩ = some false := by
  unfold strings_HasPrefix.f stringslite_HasPrefix.f
  have s1 : (⟨#[p]⟩ : ByteArray).size = 1 := rfl
  rw [s1, sz, if_neg (by simp)]
  rfl
theorem hp_cons (b : UInt8) (t : List UInt8) (p : UInt8) : strings_HasPrefix.f ⟨(b :: t).toArray⟩ ⟨#[p]⟩ = some (decide (b = p)) := by
  have s1 : (⟨#[p]⟩ : ByteArray).size = 1 := rfl
  have t1 : (⟨#[p]⟩ : ByteArray).toList = [p] := tl [p]
  have e1 : ((1 : Nat) : Int).toNat = 1 := rfl
  unfold strings_HasPrefix.f stringslite_HasPrefix.f
  rw [s1, t1, e1, sz, if_pos (by simp; omega), if_pos (by omega), if_pos (by simp; omega), ex, tl]
  simp only [List.take_succ_cons, List.take_zero, List.drop_zero, Option.bind_some]
  by_cases c : b = p
  · subst c; simp
  · simp [c]
theorem signed (l : List UInt8) : value_signed.f ⟨l.toArray⟩ = some ((sg l).1, ⟨(sg l).2.toArray⟩) := by
  unfold value_signed.f
  cases l with
  | nil => rw [hp_nil, Option.bind_some, if_neg (by decide), hp_nil, Option.bind_some, if_neg (by decide)]; rfl
  | cons x r =>
    have hr : (x :: r).length = r.length + 1 := rfl
    have a3 : 1 ≤ ((⟨(x :: r).toArray⟩ : ByteArray).size : Int) := by rw [sz, hr]; omega
    rw [hp_cons, Option.bind_some, hp_cons, Option.bind_some, if_pos a3, if_pos a3, tailx]
    rw [sg_cons]
    by_cases c : x = 45
    · rw [decide_eq_true c, if_pos rfl, if_pos c]
    · rw [decide_eq_false c, if_neg (by decide), if_neg c]
      by_cases c2 : x = 43
      · rw [decide_eq_true c2, if_pos rfl, if_pos c2]
      · rw [decide_eq_false c2, if_neg (by decide), if_neg c2]
theorem sg_len (l : List UInt8) : (sg l).2.length ≤ l.length := by
  cases l with
  | nil => simp [sg]
  | cons x r =>
    rw [sg_cons]
    by_cases c : x = 45
    · rw [if_pos c]; simp
    · rw [if_neg c]
      by_cases c2 : x = 43
      · rw [if_pos c2]; simp
      · rw [if_neg c2]; simp
theorem val (k : Nat) (l : List UInt8) (hl : l.length ≤ 1000) (hk : 20 ≤ k) : value_ParseDuration.f k ⟨l.toArray⟩ = some (body (sg l).1 (sg l).2) := by
  unfold value_ParseDuration.f
  have hs := sg_len l
  rw [signed, Option.bind_some]
  generalize (sg l).1 = by_
  generalize hb : (sg l).2 = b at hs ⊢
  have key : ∀ u : Int × Bool, value_unsigned.f k ⟨b.toArray⟩ = some u → ((value_unsigned.f k ⟨b.toArray⟩).bind fun bt461 => (if bt461.2 = true then (if bt461.1 > 10000000000 then (some ((0 : Int), (7 : Int))) else (some (wrap64 (by_ * bt461.1), 0))) else (some (0, 7)))) = some (if u.2 = true then fin by_ u.1 else (0, 7)) := by
    intro u hu
    rw [hu, Option.bind_some]
    unfold fin
    split
    · split <;> rfl
    · rfl
  cases b with
  | nil => exact key (0, false) (unsig_no k [] (fun r h => by cases h))
  | cons x b =>
    rw [body_cons]
    by_cases c : x = 80
    · subst c
      obtain ⟨z1, z2⟩ := cutT_eq b
      rw [if_pos rfl]
      refine (key (uv b) (unsig k (by omega) b (by simp at hs; omega))).trans ?_
      have := uv_rd by_ (cutT b).1 (cutT b).2 z1
      rw [← z2] at this
      rw [this]
    · rw [if_neg c]
      exact key (0, false) (unsig_no k (x :: b) (fun r h => c (by injection h)))
theorem same (s : ByteArray) (hs : s.size ≤ 200) (k : Nat) (hk : 700 ≤ k) : ∃ a, value_ParseDuration.f k s = some a ∧ trystref12_ParseDuration.f k s = some a := by
  have e := ofL s
  have hl : s.data.toList.length ≤ 200 := by rw [e, sz] at hs; exact hs
  rw [e]
  exact ⟨_, val k _ (by omega) (by omega), ref k _ (by omega) (by omega)⟩
end Go.Proofs.YthppkdbelmolbaaDoor.SpansR
