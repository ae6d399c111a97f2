/- Whole durations: value's and the reference's reading, side by side. -/
import Derived.Test.YthppkdbelmolbaaDoorSpans
namespace Go.Proofs.YthppkdbelmolbaaDoor.SpansP
open Go.RowKit Go.Proofs.YthppkdbelmolbaaDoorW.PrintWords Go.Proofs.YthppkdbelmolbaaDoorW.PrintLast Go.Proofs.YthppkdbelmolbaaDoor.Q Go.Proofs.YthppkdbelmolbaaDoor.Cal Go.Proofs.YthppkdbelmolbaaDoor.Bytes Go.Proofs.YthppkdbelmolbaaDoor.Spans
set_option linter.unusedVariables false
set_option linter.unusedSimpArgs false
theorem tmA_bd (l : List UInt8) : ∀ cnt acc v c r, tmA cnt acc l = some (v, c, r) → 0 ≤ acc → acc < Spans.p10 cnt → 0 ≤ v ∧ v < 10000000000 ∧ r.length < l.length := by
  induction l with
  | nil => intro cnt acc v c r h; cases h
  | cons b l ih =>
    intro cnt acc v c r h h0 h1
    unfold tmA at h
    by_cases d : Dig b
    · rw [if_pos d] at h
      have hb := dv_bd d
      have e : Spans.p10 (cnt + 1) = 10 * Spans.p10 cnt := rfl
      obtain ⟨a1, a2, a3⟩ := ih _ _ _ _ _ h (by omega) (by omega)
      exact ⟨a1, a2, by simp; omega⟩
    · rw [if_neg d] at h
      by_cases e : 1 ≤ cnt ∧ cnt ≤ 10
      · rw [if_pos e] at h
        have h' := Option.some.inj h
        simp only [Prod.mk.injEq] at h'
        obtain ⟨rfl, rfl, rfl⟩ := h'
        have := p10_mono e.2
        have e10 : Spans.p10 10 = 10000000000 := by decide
        exact ⟨h0, by omega, by simp⟩
      · rw [if_neg e] at h; cases h
theorem tm_bd {l : List UInt8} {v : Int} {c : UInt8} {r : List UInt8} (h : tm l = some (v, c, r)) : 0 ≤ v ∧ v < 10000000000 ∧ r.length < l.length := tmA_bd l 0 0 v c r h (by omega) (by decide)
/-- The head of a term is a digit. -/
theorem tm_head {b : UInt8} {l : List UInt8} {x} (h : tm (b :: l) = some x) : Dig b := by
  unfold tm tmA at h
  by_cases d : Dig b
  · exact d
  · rw [if_neg d, if_neg (by omega)] at h; cases h
theorem c_eq (c : UInt8) (n : Nat) (h : n < 256) : (((c.toNat : Nat) : Int) = (n : Int)) ↔ c = UInt8.ofNat n := by
  constructor
  · intro e
    apply UInt8.toNat_inj.mp
    rw [UInt8.toNat_ofNat']
    omega
  · intro e
    rw [e, UInt8.toNat_ofNat']
    omega
theorem c72 (c : UInt8) : (((c.toNat : Nat) : Int) = 72) = (c = 72) := propext (c_eq c 72 (by omega))
theorem c77 (c : UInt8) : (((c.toNat : Nat) : Int) = 77) = (c = 77) := propext (c_eq c 77 (by omega))
theorem c83 (c : UInt8) : (((c.toNat : Nat) : Int) = 83) = (c = 83) := propext (c_eq c 83 (by omega))
theorem c87 (c : UInt8) : (((c.toNat : Nat) : Int) = 87) = (c = 87) := propext (c_eq c 87 (by omega))
theorem c68 (c : UInt8) : (((c.toNat : Nat) : Int) = 68) = (c = 68) := propext (c_eq c 68 (by omega))
/-- What value's times answers, in plain words. -/
def tj (v : Int) (r : List UInt8) (s : Int) : Int × Bool :=
  if r = [] then (s + v * 60, true) else match tm r with
    | none => (0, false)
    | some (v3, c3, r3) => if c3 = 83 then (s + v * 60 + v3, r3 == []) else (0, false)
def tv (l : List UInt8) : Int × Bool := match tm l with
  | none => (0, false)
  | some (v1, c1, r1) => if c1 = 72 then (if r1 = [] then (v1 * 3600, true) else match tm r1 with
      | none => (0, false)
      | some (v2, c2, r2) => if c2 = 77 then tj v2 r2 (v1 * 3600) else (0, false))
    else if c1 = 77 then tj v1 r1 0 else if c1 = 83 then (v1, r1 == []) else (0, false)
theorem j0t (k : Nat) (hk : 14 ≤ k) (v : Int) (r : List UInt8) (s : Int) (hv : 0 ≤ v) (hv' : v < 10000000000) (hs : 0 ≤ s) (hs' : s < 100000000000000) (hl : r.length ≤ 1000) : value_times.j0 k v ⟨r.toArray⟩ s = some (tj v r s) := by
  obtain ⟨k, rfl⟩ : ∃ m, k = m + 1 := ⟨k - 1, by omega⟩
  simp only [value_times.j0]
  rw [tl, w64 (x := v * 60) (by omega) (by omega), w64 (x := s + v * 60) (by omega) (by omega)]
  unfold tj
  by_cases c : r = []
  · rw [if_pos c, if_pos c]
  · rw [if_neg c, if_neg c, term r k hl (by omega), Option.bind_some]
    cases h : tm r with
    | none => rfl
    | some x =>
      obtain ⟨v3, c3, r3⟩ := x
      have hb := tm_bd h
      simp only [tmR, c83, tl]
      by_cases d : c3 = 83
      · rw [if_pos d, if_pos d, w64 (by omega) (by omega)]
      · rw [if_neg d, if_neg d]
theorem times (k : Nat) (hk : 15 ≤ k) (l : List UInt8) (hl : l.length ≤ 1000) : value_times.f k ⟨l.toArray⟩ = some (tv l) := by
  unfold value_times.f
  rw [term l k hl (by omega), Option.bind_some]
  unfold tv
  cases h : tm l with
  | none => rfl
  | some x =>
    obtain ⟨v1, c1, r1⟩ := x
    have hb := tm_bd h
    simp only [tmR, c72, c77, c83, tl]
    by_cases d : c1 = 72
    · rw [if_pos d, if_pos d]
      by_cases e : r1 = []
      · rw [if_pos e, if_pos e, w64 (x := v1 * 3600) (by omega) (by omega), Int.zero_add, w64 (by omega) (by omega)]
      · rw [if_neg e, if_neg e, term r1 k (by omega) (by omega), Option.bind_some]
        cases h2 : tm r1 with
        | none => rfl
        | some y =>
          obtain ⟨v2, c2, r2⟩ := y
          have hb2 := tm_bd h2
          simp only [tmR, c77]
          by_cases d2 : c2 = 77
          · rw [if_pos d2, if_pos d2, w64 (x := v1 * 3600) (by omega) (by omega), Int.zero_add, w64 (by omega) (by omega), j0t k (by omega) v2 r2 _ hb2.1 hb2.2.1 (by omega) (by omega) (by omega)]
          · rw [if_neg d2, if_neg d2]
    · rw [if_neg d, if_neg d]
      by_cases d2 : c1 = 77
      · rw [if_pos d2, if_pos d2, j0t k (by omega) v1 r1 _ hb.1 hb.2.1 (by omega) (by omega) (by omega)]
      · rw [if_neg d2, if_neg d2]
        by_cases d3 : c1 = 83
        · rw [if_pos d3, if_pos d3, Int.zero_add, w64 (by omega) (by omega)]
        · rw [if_neg d3, if_neg d3]
/-- Signs of terms and their weights, as the reference has them. -/
def wt (c : UInt8) : Int := if c = 72 then 3600 else if c = 77 then 60 else if c = 83 then 1 else 0
def word (L : List (Int × UInt8)) : List UInt8 := L.map (·.2)
def good (w : List UInt8) : Bool := w == [72] || w == [72, 77] || w == [72, 77, 83] || w == [77] || w == [77, 83] || w == [83]
def sum (L : List (Int × UInt8)) : Int := match L with
  | [] => 0
  | x :: r => wt x.2 * x.1 + sum r
/-- The times of a text by its terms. -/
def rv (l : List UInt8) : Int × Bool := match tms l with
  | none => (0, false)
  | some L => (sum L, decide (0 < L.length) && good (word L))
theorem rv_some {l : List UInt8} {v c r} (h : tm l = some (v, c, r)) : tms l = (tms r).map ((v, c) :: ·) := tms_some l 0 0 v c r h
theorem rv_none {l : List UInt8} (h : tm l = none) : tms l = if l = [] then some [] else none := by
  have := tms_none l 0 0 h
  unfold tms
  rw [this]
  by_cases c : l = []
  · rw [if_pos ⟨c, rfl⟩, if_pos c]
  · rw [if_neg (fun z => c z.1), if_neg c]
theorem tms_nil : tms [] = some [] := rfl
/-- Both answers about the times are one, as far as it is asked. -/
theorem tv_rv (l : List UInt8) : (tv l).2 = (rv l).2 ∧ ((tv l).2 = true → (tv l).1 = (rv l).1) := by
  unfold tv rv
  cases h : tm l with
  | none =>
    rw [rv_none h]
    by_cases c : l = []
    · rw [if_pos c]; exact ⟨rfl, fun z => by cases z⟩
    · rw [if_neg c]; exact ⟨rfl, fun z => by cases z⟩
  | some x =>
    obtain ⟨v1, c1, r1⟩ := x
    rw [rv_some h]
    simp only
    by_cases e1 : r1 = []
    · subst e1
      rw [tms_nil]
      simp only [Option.map_some, word, sum, good, List.map_cons, List.map_nil, wt]
      by_cases d : c1 = 72
      · subst d; simp; omega
      · by_cases d2 : c1 = 77
        · subst d2; simp [tj]; omega
        · by_cases d3 : c1 = 83
          · subst d3; simp
          · simp [d, d2, d3]
    · cases h2 : tm r1 with
      | none =>
        have hr : tms r1 = none := by rw [rv_none h2, if_neg e1]
        rw [hr]
        simp only [Option.map_none]
        by_cases d : c1 = 72
        · rw [if_pos d, if_neg e1]; exact ⟨rfl, fun z => by cases z⟩
        · rw [if_neg d]
          by_cases d2 : c1 = 77
          · rw [if_pos d2]
            unfold tj
            rw [if_neg e1, h2]
            exact ⟨rfl, fun z => by cases z⟩
          · rw [if_neg d2]
            have : (r1 == []) = false := by cases r1 with | nil => exact absurd rfl e1 | cons _ _ => rfl
            by_cases d3 : c1 = 83
            · rw [if_pos d3, this]; exact ⟨rfl, fun z => by cases z⟩
            · rw [if_neg d3]; exact ⟨rfl, fun z => by cases z⟩
      | some y =>
        obtain ⟨v2, c2, r2⟩ := y
        rw [rv_some h2]
        have hn : (r1 == []) = false := by cases r1 with | nil => exact absurd rfl e1 | cons _ _ => rfl
        by_cases e2 : r2 = []
        · subst e2
          rw [tms_nil]
          simp only [Option.map_some, word, sum, good, List.map_cons, List.map_nil, wt]
          by_cases d : c1 = 72
          · subst d
            rw [if_pos rfl, if_neg e1]
            by_cases g : c2 = 77
            · subst g; simp [tj]; omega
            · simp [g]
          · rw [if_neg d]
            by_cases d2 : c1 = 77
            · subst d2
              rw [if_pos rfl]
              unfold tj
              rw [if_neg e1, h2]
              by_cases g : c2 = 83
              · subst g; simp; omega
              · simp [g]
            · rw [if_neg d2, hn]
              by_cases d3 : c1 = 83
              · subst d3; simp
              · simp [d, d2, d3]
        · have hn2 : (r2 == []) = false := by cases r2 with | nil => exact absurd rfl e2 | cons _ _ => rfl
          cases h3 : tm r2 with
          | none =>
            have hr : tms r2 = none := by rw [rv_none h3, if_neg e2]
            rw [hr]
            simp only [Option.map_none]
            by_cases d : c1 = 72
            · rw [if_pos d, if_neg e1]
              try dsimp only
              by_cases g : c2 = 77
              · rw [if_pos g]
                unfold tj
                rw [if_neg e2, h3]
                exact ⟨rfl, fun z => by cases z⟩
              · rw [if_neg g]; exact ⟨rfl, fun z => by cases z⟩
            · rw [if_neg d]
              by_cases d2 : c1 = 77
              · rw [if_pos d2]
                unfold tj
                rw [if_neg e1, h2]
                simp only
                by_cases g : c2 = 83
                · rw [if_pos g, hn2]; exact ⟨rfl, fun z => by cases z⟩
                · rw [if_neg g]; exact ⟨rfl, fun z => by cases z⟩
              · rw [if_neg d2, hn]
                by_cases d3 : c1 = 83
                · rw [if_pos d3]; exact ⟨rfl, fun z => by cases z⟩
                · rw [if_neg d3]; exact ⟨rfl, fun z => by cases z⟩
          | some z =>
            obtain ⟨v3, c3, r3⟩ := z
            rw [rv_some h3]
            have key : ∀ L : List (Int × UInt8), (tms r3 = some L) → good (word ((v1, c1) :: (v2, c2) :: (v3, c3) :: L)) = (decide (c1 = 72) && decide (c2 = 77) && decide (c3 = 83) && (L == [])) := by
              intro L _
              unfold good word
              cases L with
              | nil =>
                simp only [List.map_cons, List.map_nil]
                by_cases a1 : c1 = 72 <;> by_cases a2 : c2 = 77 <;> by_cases a3 : c3 = 83 <;> simp [a1, a2, a3]
              | cons w L => simp
            have nil3 : ∀ L, tms r3 = some L → (L == []) = (r3 == []) := by
              intro L hL
              by_cases e3 : r3 = []
              · subst e3
                rw [tms_nil] at hL
                obtain rfl := Option.some.inj hL
                rfl
              · have n3 : (r3 == []) = false := by cases r3 with | nil => exact absurd rfl e3 | cons _ _ => rfl
                rw [n3]
                cases h4 : tm r3 with
                | none => rw [rv_none h4, if_neg e3] at hL; cases hL
                | some q =>
                  obtain ⟨v4, c4, r4⟩ := q
                  rw [rv_some h4] at hL
                  cases h5 : tms r4 with
                  | none => rw [h5] at hL; cases hL
                  | some L5 => rw [h5] at hL; obtain rfl := Option.some.inj hL; rfl
            by_cases d : c1 = 72
            · rw [if_pos d, if_neg e1]
              try dsimp only
              by_cases g : c2 = 77
              · rw [if_pos g]
                unfold tj
                rw [if_neg e2, h3]
                simp only
                by_cases g3 : c3 = 83
                · rw [if_pos g3]
                  cases h6 : tms r3 with
                  | none =>
                    have : r3 ≠ [] := by rintro rfl; rw [tms_nil] at h6; cases h6
                    have n3 : (r3 == []) = false := by cases r3 with | nil => exact absurd rfl this | cons _ _ => rfl
                    rw [n3]
                    exact ⟨rfl, fun z => by cases z⟩
                  | some L =>
                    simp only [Option.map_some]
                    rw [key L h6, nil3 L h6]
                    refine ⟨by simp [d, g, g3], fun hz => ?_⟩
                    have hL : L = [] := by
                      have := nil3 L h6
                      rw [hz] at this
                      cases L with
                      | nil => rfl
                      | cons _ _ => cases this
                    subst hL
                    simp only [sum, wt, d, g, g3]
                    simp
                    omega
                · rw [if_neg g3]
                  cases h6 : tms r3 with
                  | none => exact ⟨rfl, fun z => by cases z⟩
                  | some L =>
                    simp only [Option.map_some]
                    rw [key L h6]
                    exact ⟨by simp [g3], fun z => by cases z⟩
              · rw [if_neg g]
                cases h6 : tms r3 with
                | none => exact ⟨rfl, fun z => by cases z⟩
                | some L =>
                  simp only [Option.map_some]
                  rw [key L h6]
                  exact ⟨by simp [g], fun z => by cases z⟩
            · rw [if_neg d]
              have no : ((match ((tms r3).map ((v3, c3) :: ·)).map ((v2, c2) :: ·) |>.map ((v1, c1) :: ·) with
                  | none => ((0 : Int), false)
                  | some L => (sum L, decide (0 < L.length) && good (word L)) : Int × Bool)).2 = false := by
                cases h6 : tms r3 with
                | none => rfl
                | some L =>
                  simp only [Option.map_some]
                  rw [key L h6]
                  simp [d]
              rw [no]
              by_cases d2 : c1 = 77
              · rw [if_pos d2]
                unfold tj
                rw [if_neg e1, h2]
                simp only
                by_cases g : c2 = 83
                · rw [if_pos g, hn2]; exact ⟨rfl, fun z => by cases z⟩
                · rw [if_neg g]; exact ⟨rfl, fun z => by cases z⟩
              · rw [if_neg d2, hn]
                by_cases d3 : c1 = 83
                · rw [if_pos d3]; exact ⟨rfl, fun z => by cases z⟩
                · rw [if_neg d3]; exact ⟨rfl, fun z => by cases z⟩
/-- What value's unsigned answers behind the P. -/
def uj (x : List UInt8) (s : Int) : Int × Bool := match x with
  | [] => (0, false)
  | b :: r => if b = 84 then (s + (tv r).1, (tv r).2) else (0, false)
def uv (b : List UInt8) : Int × Bool := match tm b with
  | none => uj b 0
  | some (v, c, r) => if c = 87 then (v * 604800, r == []) else if c = 68 then (if r = [] then (v * 86400, true) else uj r (v * 86400)) else uj b 0
theorem tj_bd (v : Int) (r : List UInt8) (s : Int) (hv : 0 ≤ v) (hv' : v < 10000000000) (hs : 0 ≤ s) (hs' : s < 100000000000000) : 0 ≤ (tj v r s).1 ∧ (tj v r s).1 < 1000000000000000 := by
  unfold tj
  split
  · exact ⟨by simp only; omega, by simp only; omega⟩
  · split
    · exact ⟨by simp, by simp⟩
    · rename_i v3 c3 r3 h3
      have := tm_bd h3
      split
      · exact ⟨by simp only; omega, by simp only; omega⟩
      · exact ⟨by simp, by simp⟩
theorem tv_bd (l : List UInt8) : 0 ≤ (tv l).1 ∧ (tv l).1 < 1000000000000000 := by
  unfold tv
  split
  · exact ⟨by simp, by simp⟩
  · rename_i v1 c1 r1 h1
    have := tm_bd h1
    split
    · split
      · exact ⟨by simp only; omega, by simp only; omega⟩
      · split
        · exact ⟨by simp, by simp⟩
        · rename_i v2 c2 r2 h2
          have := tm_bd h2
          split
          · exact tj_bd _ _ _ (by omega) (by omega) (by omega) (by omega)
          · exact ⟨by simp, by simp⟩
    · split
      · exact tj_bd _ _ _ (by omega) (by omega) (by omega) (by omega)
      · split
        · exact ⟨by simp only; omega, by simp only; omega⟩
        · exact ⟨by simp, by simp⟩
theorem cutP_nil (p : UInt8) : strings_CutPrefix.f ⟨([] : List UInt8).toArray⟩ ⟨#[p]⟩ = some (⟨([] : List UInt8).toArray⟩, false) := by
  unfold strings_CutPrefix.f stringslite_CutPrefix.f stringslite_HasPrefix.f
  have s1 : (⟨#[p]⟩ : ByteArray).size = 1 := rfl
  rw [s1, sz, if_neg (by simp)]
  simp
theorem uj0 (k : Nat) (hk : 16 ≤ k) (x : List UInt8) (s : Int) (hs : 0 ≤ s) (hs' : s < 10000000000000000) (hl : x.length ≤ 1000) : value_unsigned.j0 k ⟨x.toArray⟩ s = some (uj x s) := by
  obtain ⟨k, rfl⟩ : ∃ m, k = m + 1 := ⟨k - 1, by omega⟩
  simp only [value_unsigned.j0]
  cases x with
  | nil => rw [cutP_nil]; simp [uj]
  | cons b r =>
    rw [cut_cons]
    show _ = some (if b = 84 then (s + (tv r).1, (tv r).2) else (0, false))
    by_cases c : b = 84
    · rw [if_pos c, if_pos c, Option.bind_some, if_pos rfl, times k (by omega) r (by simp at hl; omega), Option.bind_some]
      have := tv_bd r
      rw [w64 (by omega) (by omega)]
    · rw [if_neg c, if_neg c]; simp
theorem unsig (k : Nat) (hk : 17 ≤ k) (b : List UInt8) (hl : b.length ≤ 1000) : value_unsigned.f k ⟨(80 :: b).toArray⟩ = some (uv b) := by
  unfold value_unsigned.f
  rw [cut_cons, if_pos rfl, Option.bind_some, if_pos rfl, term b k hl (by omega), Option.bind_some]
  unfold uv
  cases h : tm b with
  | none =>
    refine Eq.trans (if_neg (show ¬ ((tmR b none).2.1 = 87) from (by decide : ¬ ((0 : Int) = 87)))) ?_
    refine Eq.trans (if_neg (show ¬ ((tmR b none).2.1 = 68) from (by decide : ¬ ((0 : Int) = 68)))) ?_
    exact uj0 k (by omega) b 0 (by omega) (by omega) hl
  | some x =>
    obtain ⟨v, c, r⟩ := x
    have hb := tm_bd h
    simp only [tmR, c87, c68, tl]
    by_cases d : c = 87
    · rw [if_pos d, if_pos d, w64 (by omega) (by omega)]
    · rw [if_neg d, if_neg d]
      by_cases d2 : c = 68
      · rw [if_pos d2, if_pos d2]
        by_cases e : r = []
        · rw [if_pos e, if_pos e, w64 (by omega) (by omega)]
        · rw [if_neg e, if_neg e, w64 (by omega) (by omega), uj0 k (by omega) r _ (by omega) (by omega) (by omega)]
      · rw [if_neg d2, if_neg d2, uj0 k (by omega) b 0 (by omega) (by omega) hl]
theorem unsig_no (k : Nat) (b : List UInt8) (hb : ∀ r, b ≠ 80 :: r) : value_unsigned.f k ⟨b.toArray⟩ = some (0, false) := by
  unfold value_unsigned.f
  cases b with
  | nil => rw [cutP_nil]; simp
  | cons x r =>
    rw [cut_cons, if_neg (fun e => hb r (by rw [e]))]
    simp
/-- A text cut at its first T. -/
def cutT : List UInt8 → List UInt8 × Option (List UInt8)
  | [] => ([], none)
  | x :: r => if x = 84 then ([], some r) else (x :: (cutT r).1, (cutT r).2)
theorem cutT_eq : ∀ b, (∀ x ∈ (cutT b).1, x ≠ 84) ∧ b = (cutT b).1 ++ ((cutT b).2.elim [] (fun r => 84 :: r))
  | [] => ⟨fun x h => (by cases h), rfl⟩
  | y :: r => by
    have ih := cutT_eq r
    unfold cutT
    by_cases c : y = 84
    · rw [if_pos c, c]; exact ⟨fun x h => (by cases h), rfl⟩
    · rw [if_neg c]
      refine ⟨fun x h => ?_, ?_⟩
      · rcases List.mem_cons.1 h with e | e
        · rw [e]; exact c
        · exact ih.1 x e
      · simp only [List.cons_append, List.cons.injEq, true_and]; exact ih.2
def fin (by_ n : Int) : Int × Int := if n > 10000000000 then (0, 7) else (wrap64 (by_ * n), 0)
/-- The days, or none. -/
def dn (D : List UInt8) (t : Bool) : Option Int := if D = [] then (if t then some 0 else none) else match tms D with
  | some [(v, c)] => if c = 68 then some (86400 * v) else if c = 87 then (if t then none else some (604800 * v)) else none
  | _ => none
def rd (by_ : Int) (D : List UInt8) (R : Option (List UInt8)) : Int × Int := match dn D R.isSome with
  | none => (0, 7)
  | some n => match R with
    | none => fin by_ n
    | some r => if (rv r).2 then fin by_ (n + (rv r).1) else (0, 7)
theorem tm_app (D : List UInt8) (y : List UInt8) : ∀ cnt acc v c r, tmA cnt acc D = some (v, c, r) → tmA cnt acc (D ++ y) = some (v, c, r ++ y) := by
  induction D with
  | nil => intro cnt acc v c r h; cases h
  | cons b D ih =>
    intro cnt acc v c r h
    unfold tmA at h
    show tmA cnt acc (b :: (D ++ y)) = _
    unfold tmA
    by_cases d : Dig b
    · rw [if_pos d] at h ⊢; exact ih _ _ _ _ _ h
    · rw [if_neg d] at h ⊢
      by_cases e : 1 ≤ cnt ∧ cnt ≤ 10
      · rw [if_pos e] at h ⊢
        have h' := Option.some.inj h
        simp only [Prod.mk.injEq] at h'
        obtain ⟨rfl, rfl, rfl⟩ := h'
        rfl
      · rw [if_neg e] at h; cases h
theorem tm_appT (D : List UInt8) (y : List UInt8) : ∀ cnt acc, tmA cnt acc D = none → tmA cnt acc (D ++ 84 :: y) = none ∨ ∃ v, tmA cnt acc (D ++ 84 :: y) = some (v, 84, y) := by
  induction D with
  | nil =>
    intro cnt acc h
    show tmA cnt acc (84 :: y) = none ∨ ∃ v, tmA cnt acc (84 :: y) = some (v, 84, y)
    unfold tmA
    rw [if_neg (show ¬ Dig 84 by decide)]
    by_cases e : 1 ≤ cnt ∧ cnt ≤ 10
    · rw [if_pos e]; exact Or.inr ⟨_, rfl⟩
    · rw [if_neg e]; exact Or.inl rfl
  | cons b D ih =>
    intro cnt acc h
    unfold tmA at h
    show tmA cnt acc (b :: (D ++ 84 :: y)) = _ ∨ ∃ v, tmA cnt acc (b :: (D ++ 84 :: y)) = _
    unfold tmA
    by_cases d : Dig b
    · rw [if_pos d] at h ⊢; exact ih _ _ h
    · rw [if_neg d] at h ⊢
      by_cases e : 1 ≤ cnt ∧ cnt ≤ 10
      · rw [if_pos e] at h; cases h
      · rw [if_neg e]; exact Or.inl rfl
theorem tm_sign {D : List UInt8} : ∀ cnt acc v c r, tmA cnt acc D = some (v, c, r) → c ∈ D ∧ ∀ x ∈ r, x ∈ D := by
  induction D with
  | nil => intro cnt acc v c r h; cases h
  | cons b D ih =>
    intro cnt acc v c r h
    unfold tmA at h
    by_cases d : Dig b
    · rw [if_pos d] at h
      obtain ⟨h1, h2⟩ := ih _ _ _ _ _ h
      exact ⟨by simp [h1], fun x hx => by simp [h2 x hx]⟩
    · rw [if_neg d] at h
      by_cases e : 1 ≤ cnt ∧ cnt ≤ 10
      · rw [if_pos e] at h
        have h' := Option.some.inj h
        simp only [Prod.mk.injEq] at h'
        obtain ⟨rfl, rfl, rfl⟩ := h'
        exact ⟨by simp, fun x hx => by simp [hx]⟩
      · rw [if_neg e] at h; cases h
theorem ujno (x : UInt8) (D : List UInt8) (y : List UInt8) (s : Int) (h : x ≠ 84) : uj (x :: D ++ y) s = (0, false) := by
  show (if x = 84 then (s + (tv (D ++ y)).1, (tv (D ++ y)).2) else ((0 : Int), false)) = _
  exact if_neg h
/-- What both come to behind sign and P. -/
theorem uv_rd (by_ : Int) (D : List UInt8) (R : Option (List UInt8)) (hD : ∀ x ∈ D, x ≠ 84) :
    (if (uv (D ++ R.elim [] (fun r => 84 :: r))).2 = true then fin by_ (uv (D ++ R.elim [] (fun r => 84 :: r))).1 else (0, 7)) = rd by_ D R := by
  cases D with
  | nil =>
    unfold rd dn
    cases R with
    | none => simp [uv, tm, tmA, uj]
    | some r =>
      obtain ⟨q1, q2⟩ := tv_rv r
      have e : uv (84 :: r) = (0 + (tv r).1, (tv r).2) := by
        unfold uv
        have : tm (84 :: r) = none := by unfold tm tmA; rw [if_neg (show ¬ Dig 84 by decide), if_neg (by omega)]
        rw [this]
        simp [uj]
      simp only [Option.isSome_some, Option.elim_some, List.nil_append, e, if_true, eq_self]
      rw [← q1]
      by_cases c : (tv r).2 = true
      · rw [if_pos c, if_pos c, q2 c]
      · rw [if_neg c, if_neg c]
  | cons x D =>
    have hx : x ≠ 84 := hD x (by simp)
    have hnil : ¬ (x :: D = []) := by simp
    cases h : tm (x :: D) with
    | none =>
      have hdn : ∀ t, dn (x :: D) t = none := by
        intro t
        unfold dn
        rw [if_neg hnil, rv_none h, if_neg hnil]
      have hu : uv (x :: D ++ R.elim [] (fun r => 84 :: r)) = (0, false) := by
        cases R with
        | none =>
          simp only [Option.elim_none, List.append_nil]
          unfold uv
          rw [h]
          have := ujno x D [] 0 hx
          simpa using this
        | some r =>
          simp only [Option.elim_some]
          rcases tm_appT (x :: D) r 0 0 h with h1 | ⟨v, h1⟩
          · have h2 : tm (x :: D ++ 84 :: r) = none := h1
            unfold uv
            rw [h2]
            exact ujno x D _ 0 hx
          · have h2 : tm (x :: D ++ 84 :: r) = some (v, 84, r) := h1
            unfold uv
            rw [h2]
            simp only
            rw [if_neg (by decide), if_neg (by decide)]
            exact ujno x D _ 0 hx
      unfold rd
      rw [hu, hdn]
      simp
    | some z =>
      obtain ⟨v, c, r0⟩ := z
      obtain ⟨s1, s2⟩ := tm_sign 0 0 v c r0 h
      have hc84 : c ≠ 84 := hD c s1
      have hr84 : ∀ y ∈ r0, y ≠ 84 := fun y hy => hD y (s2 y hy)
      have hu : tm (x :: D ++ R.elim [] (fun r => 84 :: r)) = some (v, c, r0 ++ R.elim [] (fun r => 84 :: r)) := tm_app _ _ 0 0 v c r0 h
      have hdn : ∀ t, dn (x :: D) t = if r0 = [] then (if c = 68 then some (86400 * v) else if c = 87 then (if t then none else some (604800 * v)) else none) else none := by
        intro t
        unfold dn
        rw [if_neg hnil, rv_some h]
        by_cases e : r0 = []
        · subst e; rw [tms_nil, if_pos rfl]; rfl
        · rw [if_neg e]
          cases h2 : tm r0 with
          | none => rw [rv_none h2, if_neg e]; rfl
          | some w =>
            obtain ⟨v2, c2, r2⟩ := w
            rw [rv_some h2]
            cases tms r2 with
            | none => rfl
            | some L => rfl
      unfold rd
      rw [hdn]
      unfold uv
      rw [hu]
      simp only
      by_cases d : c = 87
      · rw [if_pos d]
        by_cases e : r0 = []
        · subst e
          have n68 : ¬ c = 68 := by rw [d]; decide
          rw [if_pos (rfl : ([] : List UInt8) = []), if_neg n68, if_pos d]
          cases R with
          | none => simp [Int.mul_comm]
          | some r => simp
        · rw [if_neg e]
          have : (r0 ++ R.elim [] (fun r => 84 :: r) == []) = false := by cases r0 with | nil => exact absurd rfl e | cons _ _ => rfl
          rw [this]
          simp
      · rw [if_neg d]
        by_cases d2 : c = 68
        · rw [if_pos d2, if_pos d2]
          by_cases e : r0 = []
          · subst e
            rw [if_pos rfl]
            cases R with
            | none => simp [Int.mul_comm]
            | some r =>
              obtain ⟨q1, q2⟩ := tv_rv r
              have hU : (if ([] ++ (some r).elim [] (fun r => 84 :: r) : List UInt8) = [] then (v * 86400, true) else uj ([] ++ (some r).elim [] (fun r => 84 :: r)) (v * 86400)) = (v * 86400 + (tv r).1, (tv r).2) :=
                (if_neg (by simp)).trans (show (if (84 : UInt8) = 84 then (v * 86400 + (tv r).1, (tv r).2) else ((0 : Int), false)) = _ from if_pos rfl)
              simp only [hU]
              rw [← q1]
              by_cases g : (tv r).2 = true
              · rw [if_pos g, if_pos g, q2 g, Int.mul_comm]
              · rw [if_neg g, if_neg g]
          · rw [if_neg e]
            obtain ⟨y, r1, rfl⟩ : ∃ y r1, r0 = y :: r1 := by cases r0 with | nil => exact absurd rfl e | cons y r1 => exact ⟨y, r1, rfl⟩
            have hU : (if (y :: r1 ++ R.elim [] (fun r => 84 :: r) : List UInt8) = [] then (v * 86400, true) else uj (y :: r1 ++ R.elim [] (fun r => 84 :: r)) (v * 86400)) = (0, false) :=
              (if_neg (by simp)).trans (ujno y r1 _ _ (hr84 y (by simp)))
            simp only [hU]
            simp
        · rw [if_neg d2, ujno x D _ 0 hx]
          by_cases e : r0 = []
          · rw [if_pos e, if_neg d2, if_neg d]; simp
          · rw [if_neg e]; simp
end Go.Proofs.YthppkdbelmolbaaDoor.SpansP
