/- Durations read term by term: what value's term, times, unsigned and the reference's terms answer. -/
import Derived.Test.YthppkdbelmolbaaDoorQdurV
import Derived.Test.YthppkdbelmolbaaDoorQdurT
import Derived.Test.YthppkdbelmolbaaDoorBytes
namespace Go.Proofs.YthppkdbelmolbaaDoor.Spans
open Go.RowKit Go.Proofs.YthppkdbelmolbaaDoorW.PrintWords Go.Proofs.YthppkdbelmolbaaDoorW.PrintLast Go.Proofs.YthppkdbelmolbaaDoor.Q Go.Proofs.YthppkdbelmolbaaDoor.Cal Go.Proofs.YthppkdbelmolbaaDoor.Bytes
set_option linter.unusedVariables false
set_option linter.unusedSimpArgs false
def Dig (b : UInt8) : Prop := 48 ≤ b.toNat ∧ b.toNat ≤ 57
instance (b : UInt8) : Decidable (Dig b) := by unfold Dig; infer_instance
def dv (b : UInt8) : Int := (b.toNat : Int) - 48
theorem dv_bd {b : UInt8} (h : Dig b) : 0 ≤ dv b ∧ dv b ≤ 9 := by obtain ⟨h1, h2⟩ := h; unfold dv; omega
def dval (acc : Int) : List UInt8 → Int
  | [] => acc
  | b :: r => dval (10 * acc + dv b) r
theorem dval_snoc (l : List UInt8) (b : UInt8) : ∀ acc, dval acc (l ++ [b]) = 10 * dval acc l + dv b := by
  induction l with
  | nil => intro acc; rfl
  | cons c l ih => intro acc; exact ih _
def p10 : Nat → Int
  | 0 => 1
  | n + 1 => 10 * p10 n
theorem p10_pos : ∀ n, 1 ≤ p10 n
  | 0 => by decide
  | n + 1 => by have := p10_pos n; show 1 ≤ 10 * p10 n; omega
theorem p10_mono : ∀ {a b : Nat}, a ≤ b → p10 a ≤ p10 b := by
  intro a b h
  obtain ⟨d, rfl⟩ : ∃ d, b = a + d := ⟨b - a, by omega⟩
  clear h
  induction d with
  | zero => exact Int.le_refl _
  | succ d ih => have := p10_pos (a + d); show p10 a ≤ 10 * p10 (a + d); omega
/-- All digits. -/
def Ds (l : List UInt8) : Prop := ∀ b ∈ l, Dig b
theorem dval_bd (l : List UInt8) : ∀ acc n, Ds l → 0 ≤ acc → acc < p10 n → 0 ≤ dval acc l ∧ dval acc l < p10 (n + l.length) := by
  induction l with
  | nil => intro acc n _ h1 h2; exact ⟨h1, h2⟩
  | cons b l ih =>
    intro acc n hd h1 h2
    have hb := dv_bd (hd b (by simp))
    have e : p10 (n + 1) = 10 * p10 n := rfl
    have := ih (10 * acc + dv b) (n + 1) (fun c hc => hd c (by simp [hc])) (by omega) (by omega)
    have e2 : n + (b :: l).length = n + 1 + l.length := by simp; omega
    rw [e2]
    exact this
theorem dval0 (l : List UInt8) (h : Ds l) (hl : l.length ≤ 10) : 0 ≤ dval 0 l ∧ dval 0 l < 10000000000 := by
  obtain ⟨h1, h2⟩ := dval_bd l 0 0 h (by omega) (by decide)
  have := p10_mono (show 0 + l.length ≤ 10 by omega)
  have e : p10 10 = 10000000000 := by decide
  exact ⟨h1, by omega⟩
theorem pum (l : List UInt8) : ∀ (a n : Nat), Ds l → (a : Int) < p10 n → n + l.length ≤ 10 → ∃ u, Lib.parseUintM (2 ^ 64 - 1) a l = .ok u ∧ (u : Int) = dval a l := by
  induction l with
  | nil => intro a n _ _ _; exact ⟨a, rfl, rfl⟩
  | cons b l ih =>
    intro a n hd ha hn
    have hb := hd b (by simp)
    obtain ⟨b1, b2⟩ := hb
    have e : p10 (n + 1) = 10 * p10 n := rfl
    have hx := p10_mono (show n ≤ 10 by omega)
    have e10 : p10 10 = 10000000000 := by decide
    obtain ⟨u, h1, h2⟩ := ih (a * 10 + (b.toNat - 48)) (n + 1) (fun c hc => hd c (by simp [hc])) (by omega) (by simp at hn ⊢; omega)
    refine ⟨u, ?_, ?_⟩
    · rw [Lib.parseUintM, if_pos ⟨b1, b2⟩, if_neg (by omega), if_neg (by omega), h1]
    · rw [h2]
      show dval _ l = dval (10 * (a : Int) + dv b) l
      congr 1
      unfold dv
      omega
theorem pint (l : List UInt8) (h : Ds l) (h1 : 1 ≤ l.length) (h2 : l.length ≤ 10) : strconv_ParseInt_92.f ⟨l.toArray⟩ 10 64 = some (dval 0 l, none) := by
  have hz : (⟨l.toArray⟩ : ByteArray).data.toList = l := by simp
  unfold strconv_ParseInt_92.f
  rw [if_pos ⟨rfl, rfl, by rw [sz]; omega⟩, hz]
  have key : Lib.parseIntB 64 l = .ok (dval 0 l) := by
    obtain ⟨u, e1, e2⟩ := pum l 0 0 h (by decide) (by omega)
    have hb := dval0 l h h2
    match l, h1, h, e1, e2 with
    | c :: r, _, h, e1, e2 =>
      obtain ⟨c1, c2⟩ := h c (by simp)
      unfold Lib.parseIntB Lib.parseUintB
      simp only
      rw [if_neg (show ¬ (c.toNat = 43 ∨ c.toNat = 45) by omega), if_neg (by simp), e1]
      simp only
      have hc : ¬ c.toNat = 45 := by omega
      have e2' : (u : Int) = dval 0 (c :: r) := e2
      rw [if_neg (by omega), if_neg (by omega), if_neg hc, e2']
  rw [key]
/-- A number of one to ten digits, and the sign behind it. -/
def tmA (cnt : Nat) (acc : Int) : List UInt8 → Option (Int × UInt8 × List UInt8)
  | [] => none
  | b :: r => if Dig b then tmA (cnt + 1) (10 * acc + dv b) r else if 1 ≤ cnt ∧ cnt ≤ 10 then some (acc, b, r) else none
def tm (l : List UInt8) : Option (Int × UInt8 × List UInt8) := tmA 0 0 l
theorem tmA_long (l : List UInt8) : ∀ cnt acc, 11 ≤ cnt → tmA cnt acc l = none := by
  induction l with
  | nil => intro cnt acc _; rfl
  | cons b l ih =>
    intro cnt acc h
    unfold tmA
    split
    · exact ih _ _ (by omega)
    · rw [if_neg (by omega)]
def tmR (s : List UInt8) : Option (Int × UInt8 × List UInt8) → Int × Int × ByteArray
  | none => (0, 0, ⟨s.toArray⟩)
  | some (v, c, r) => (v, ((c.toNat : Nat) : Int), ⟨r.toArray⟩)
theorem bta (p : List UInt8) (b : UInt8) (r : List UInt8) : bt ⟨(p ++ b :: r).toArray⟩ ((p.length : Nat) : Int) = ((b.toNat : Nat) : Int) := by
  rw [btl (p ++ b :: r) p.length (by simp)]
  simp
theorem term0 (l : List UInt8) : ∀ (p : List UInt8) (k : Nat), Ds p → (p ++ l).length ≤ 1000 → p.length ≤ 11 → 13 ≤ k + p.length → value_term.l0 k ⟨(p ++ l).toArray⟩ ((p.length : Nat) : Int) = some (tmR (p ++ l) (tmA p.length (dval 0 p) l)) := by
  induction l with
  | nil =>
    intro p k hp hl h11 hk
    obtain ⟨k, rfl⟩ : ∃ m, k = m + 1 := ⟨k - 1, by omega⟩
    simp only [value_term.l0]
    have hs : (⟨(p ++ []).toArray⟩ : ByteArray).size = p.length := by rw [sz]; simp
    rw [hs, if_neg (by omega)]
    unfold tmA tmR
    by_cases c0 : ((p.length : Nat) : Int) = 0
    · rw [if_pos c0]
    · rw [if_neg c0]
      by_cases c1 : ((p.length : Nat) : Int) > 10
      · rw [if_pos c1]
      · rw [if_neg c1, if_pos rfl]
  | cons b l ih =>
    intro p k hp hl h11 hk
    obtain ⟨k, rfl⟩ : ∃ m, k = m + 1 := ⟨k - 1, by omega⟩
    have hlen : (p ++ b :: l).length = p.length + (l.length + 1) := by simp
    simp only [value_term.l0]
    rw [sz, hlen, if_pos (by omega), bta]
    by_cases c10 : ((p.length : Nat) : Int) ≤ 10
    · rw [if_pos c10, if_pos (by omega)]
      have ew : wrap64 (((p.length : Nat) : Int) + 1) = (((p ++ [b]).length : Nat) : Int) := by rw [w64 (by omega) (by omega)]; simp
      by_cases cd : Dig b
      · have hih := ih (p ++ [b]) k (fun c hc => by
          rcases List.mem_append.1 hc with h | h
          · exact hp c h
          · simp at h; subst h; exact cd) (by simp at hl ⊢; omega) (by simp; omega) (by simp; omega)
        have ea : p ++ [b] ++ l = p ++ b :: l := by simp
        rw [ea, dval_snoc] at hih
        have hlp : (p ++ [b]).length = p.length + 1 := by simp
        obtain ⟨d1, d2⟩ := cd
        rw [if_pos (by omega), if_pos (by omega), ew, hih, tmA, if_pos (show Dig b from ⟨d1, d2⟩), hlp]
      · have hr : tmA p.length (dval 0 p) (b :: l) = if 1 ≤ p.length ∧ p.length ≤ 10 then some (dval 0 p, b, l) else none := by
          rw [tmA, if_neg cd]
        rw [hr]
        have e1 : (⟨(p ++ b :: l).toArray⟩ : ByteArray).extract 0 ((((p.length : Nat) : Int)).toNat) = ⟨p.toArray⟩ := by
          rw [ex, show ((((p.length : Nat) : Int)).toNat) = p.length by omega]; simp
        have e2 : (⟨(p ++ b :: l).toArray⟩ : ByteArray).extract (wrap64 (((p.length : Nat) : Int) + 1)).toNat (p.length + (l.length + 1)) = ⟨l.toArray⟩ := by
          rw [w64 (by omega) (by omega), ex, show ((((p.length : Nat) : Int) + 1)).toNat = p.length + 1 by omega, List.take_of_length_le (by rw [hlen]; omega)]
          congr 1
          rw [show p ++ b :: l = (p ++ [b]) ++ l by simp, show p.length + 1 = (p ++ [b]).length by simp, List.drop_left]
        rw [e1, e2, w64 (x := ((p.length : Nat) : Int) + 1) (by omega) (by omega)]
        have tail : (if ((p.length : Nat) : Int) = 0 then some ((0 : Int), (0 : Int), (⟨(p ++ b :: l).toArray⟩ : ByteArray)) else if ((p.length : Nat) : Int) > 10 then some (0, 0, ⟨(p ++ b :: l).toArray⟩) else if ((p.length : Nat) : Int) = ((p.length + (l.length + 1) : Nat) : Int) then some (0, 0, ⟨(p ++ b :: l).toArray⟩) else if ((p.length : Nat) : Int) ≤ ((p.length + (l.length + 1) : Nat) : Int) then ((strconv_ParseInt_92.f ⟨p.toArray⟩ 10 64).bind fun t => if 0 ≤ ((p.length : Nat) : Int) + 1 then (if ((p.length : Nat) : Int) + 1 ≤ ((p.length + (l.length + 1) : Nat) : Int) then some (t.1, ((b.toNat : Nat) : Int), ⟨l.toArray⟩) else none) else none) else none) = some (tmR (p ++ b :: l) (if 1 ≤ p.length ∧ p.length ≤ 10 then some (dval 0 p, b, l) else none)) := by
          by_cases c0 : p.length = 0
          · rw [if_pos (by omega), if_neg (by omega)]; rfl
          · rw [if_neg (by omega), if_neg (by omega), if_neg (by omega), if_pos (by omega), pint p hp (by omega) (by omega), Option.bind_some, if_pos (by omega), if_pos (by omega), if_pos ⟨by omega, by omega⟩]; rfl
        unfold Dig at cd
        by_cases d1 : ((b.toNat : Nat) : Int) ≥ 48
        · rw [if_pos d1, if_neg (by omega)]
          exact tail
        · rw [if_neg d1]
          exact tail
    · have hn : tmA p.length (dval 0 p) (b :: l) = none := tmA_long _ _ _ (by omega)
      rw [if_neg c10, hn, if_neg (by omega), if_pos (by omega)]
      rfl
theorem term (l : List UInt8) (k : Nat) (hl : l.length ≤ 1000) (hk : 13 ≤ k) : value_term.f k ⟨l.toArray⟩ = some (tmR l (tm l)) := by
  have := term0 l [] k (fun b hb => by cases hb) hl (by simp) (by simpa using hk)
  exact this
/-- All terms of a text. -/
def tmsA (cnt : Nat) (acc : Int) : List UInt8 → Option (List (Int × UInt8))
  | [] => if cnt = 0 then some [] else none
  | b :: r => if Dig b then tmsA (cnt + 1) (10 * acc + dv b) r else if 1 ≤ cnt ∧ cnt ≤ 10 then (tmsA 0 0 r).map ((acc, b) :: ·) else none
def tms (l : List UInt8) : Option (List (Int × UInt8)) := tmsA 0 0 l
theorem tms_some (l : List UInt8) : ∀ cnt acc v c r, tmA cnt acc l = some (v, c, r) → tmsA cnt acc l = (tms r).map ((v, c) :: ·) := by
  induction l with
  | nil => intro cnt acc v c r h; cases h
  | cons b l ih =>
    intro cnt acc v c r h
    unfold tmA at h
    unfold tmsA
    by_cases d : Dig b
    · rw [if_pos d] at h ⊢; exact ih _ _ _ _ _ h
    · rw [if_neg d] at h ⊢
      by_cases e : 1 ≤ cnt ∧ cnt ≤ 10
      · rw [if_pos e] at h ⊢
        have h' := Option.some.inj h
        simp only [Prod.mk.injEq] at h'
        obtain ⟨rfl, rfl, rfl⟩ := h'
        rfl
      · rw [if_neg e] at h; cases h
theorem tms_none (l : List UInt8) : ∀ cnt acc, tmA cnt acc l = none → tmsA cnt acc l = if l = [] ∧ cnt = 0 then some [] else none := by
  induction l with
  | nil =>
    intro cnt acc h
    unfold tmsA
    by_cases c : cnt = 0
    · rw [if_pos c, if_pos ⟨rfl, c⟩]
    · rw [if_neg c, if_neg (fun z => c z.2)]
  | cons b l ih =>
    intro cnt acc h
    unfold tmA at h
    unfold tmsA
    rw [if_neg (show ¬ (b :: l = [] ∧ cnt = 0) from fun z => by cases z.1)]
    by_cases d : Dig b
    · rw [if_pos d] at h ⊢
      rw [ih _ _ h, if_neg (by omega)]
    · rw [if_neg d] at h ⊢
      by_cases e : 1 ≤ cnt ∧ cnt ≤ 10
      · rw [if_pos e] at h; cases h
      · rw [if_neg e]
def toS (x : Int × UInt8) : S61 := ⟨x.1, ((x.2.toNat : Nat) : Int)⟩
theorem digs (l : List UInt8) : ∀ (p : List UInt8) (k : Nat), Ds (p ++ l) → (p ++ l).length ≤ 10 → p ++ l ≠ [] → l.length + 1 ≤ k → trystref12_Digits.l0 k ⟨(p ++ l).toArray⟩ (dval 0 p) (((p ++ l).length : Nat) : Int) ((p.length : Nat) : Int) = some (dval 0 (p ++ l)) := by
  induction l with
  | nil =>
    intro p k hd hl hne hk
    obtain ⟨k, rfl⟩ : ∃ m, k = m + 1 := ⟨k - 1, by omega⟩
    simp only [trystref12_Digits.l0]
    have e : p ++ [] = p := by simp
    rw [e] at hne ⊢
    rw [if_neg (by omega), tl, if_neg hne]
  | cons b l ih =>
    intro p k hd hl hne hk
    obtain ⟨k, rfl⟩ : ∃ m, k = m + 1 := ⟨k - 1, by omega⟩
    have hlen : (p ++ b :: l).length = p.length + (l.length + 1) := by simp
    have ea : p ++ [b] ++ l = p ++ b :: l := by simp
    have hih := ih (p ++ [b]) k (by rw [ea]; exact hd) (by rw [ea]; exact hl) (by rw [ea]; exact hne) (by simp at hk ⊢; omega)
    rw [ea, dval_snoc] at hih
    have hb : Dig b := hd b (by simp)
    have hv := dv_bd hb
    obtain ⟨d1, d2⟩ := hb
    have hp : Ds p := fun c hc => hd c (by simp [hc])
    have hpb := dval0 p hp (by omega)
    simp only [trystref12_Digits.l0]
    rw [bta, sz, if_pos (by omega), if_pos (by omega), if_pos (by omega), if_neg (by omega), if_neg (by omega)]
    have e1 : ((((b.toNat : Nat) : Int)) - 48) % 256 = dv b := by unfold dv; omega
    have e2 : ((p.length : Nat) : Int) + 1 = (((p ++ [b]).length : Nat) : Int) := by simp
    rw [e1, w64 (x := dval 0 p * 10) (by omega) (by omega), w64 (x := dval 0 p * 10 + dv b) (by omega) (by omega), w64 (x := ((p.length : Nat) : Int) + 1) (by omega) (by omega), e2, show dval 0 p * 10 + dv b = 10 * dval 0 p + dv b by omega]
    exact hih
theorem digF (l : List UInt8) (k : Nat) (hd : Ds l) (h1 : 1 ≤ l.length) (h2 : l.length ≤ 10) (hk : 11 ≤ k) : trystref12_Digits.f k ⟨l.toArray⟩ = some (dval 0 l) := by
  unfold trystref12_Digits.f
  rw [sz]
  exact digs l [] k hd h2 (by intro e; rw [List.nil_append] at e; rw [e] at h1; simp at h1) (by omega)
/-- What terms answers from a state on. -/
theorem terms0 (l : List UInt8) : ∀ (p ds : List UInt8) (out : List (Int × UInt8)) (k : Nat), Ds ds → (p ++ ds ++ l).length ≤ 1000 → out.length ≤ p.length → 2 * l.length + 15 ≤ k →
    ∃ L, trystref12_terms.l0 k ⟨(p ++ ds ++ l).toArray⟩ (out.map toS) ((p.length : Nat) : Int) (((p ++ ds ++ l).length : Nat) : Int) (((p ++ ds).length : Nat) : Int) = some (L, (tmsA ds.length (dval 0 ds) l).elim false (fun M => decide (0 < (out ++ M).length))) ∧
      ∀ M, tmsA ds.length (dval 0 ds) l = some M → L = (out ++ M).map toS := by
  induction l with
  | nil =>
    intro p ds out k hd hl ho hk
    obtain ⟨k, rfl⟩ : ∃ m, k = m + 1 := ⟨k - 1, by omega⟩
    have e : p ++ ds ++ [] = p ++ ds := by simp
    have hlen : (p ++ ds).length = p.length + ds.length := by simp
    rw [e]
    simp only [trystref12_terms.l0]
    rw [if_neg (by omega), sz]
    unfold tmsA
    by_cases c : ds.length = 0
    · rw [if_pos (by omega), if_pos c]
      refine ⟨out.map toS, ?_, ?_⟩
      · have el : (out.map toS).length = out.length := by simp
        simp only [Option.elim_some, List.append_nil, el]
        exact congrArg (fun z => some (out.map toS, z)) (decide_eq_decide.mpr (by omega))
      · intro M hM
        obtain rfl := Option.some.inj hM
        simp
    · rw [if_neg (by omega), if_neg c]
      exact ⟨_, rfl, fun M h => by cases h⟩
  | cons b l ih =>
    intro p ds out k hd hl ho hk
    obtain ⟨k, rfl⟩ : ∃ m, k = m + 2 := ⟨k - 2, by simp at hk; omega⟩
    have hlen : (p ++ ds ++ b :: l).length = p.length + ds.length + (l.length + 1) := by simp; omega
    have hpd : (p ++ ds).length = p.length + ds.length := by simp
    simp only [List.length_cons] at hk
    simp only [trystref12_terms.l0]
    rw [bta (p ++ ds) b l, sz, if_pos (by omega), if_pos (by omega), if_pos (by omega)]
    have hj : ∀ x : Bool, x = decide (Dig b) → ∃ L, trystref12_terms.j1 (k + 1) ⟨(p ++ ds ++ b :: l).toArray⟩ (out.map toS) ((p.length : Nat) : Int) (((p ++ ds).length : Nat) : Int) (((p ++ ds ++ b :: l).length : Nat) : Int) (((p ++ ds).length : Nat) : Int) x = some (L, (tmsA ds.length (dval 0 ds) (b :: l)).elim false (fun M => decide (0 < (out ++ M).length))) ∧ ∀ M, tmsA ds.length (dval 0 ds) (b :: l) = some M → L = (out ++ M).map toS := by
      rintro x rfl
      simp only [trystref12_terms.j1]
      have ew : wrap64 ((((p ++ ds).length : Nat) : Int) + 1) = (((p ++ ds).length + 1 : Nat) : Int) := by rw [w64 (by omega) (by omega)]; omega
      rw [ew]
      by_cases d : Dig b
      · rw [decide_eq_true d, if_pos rfl]
        have hih := ih p (ds ++ [b]) out k (fun c hc => by
          rcases List.mem_append.1 hc with h | h
          · exact hd c h
          · simp at h; subst h; exact d) (by simp at hl ⊢; omega) ho (by omega)
        have ea : p ++ (ds ++ [b]) ++ l = p ++ ds ++ b :: l := by simp
        have ea2 : (p ++ (ds ++ [b])).length = (p ++ ds).length + 1 := by simp; omega
        have ea3 : (ds ++ [b]).length = ds.length + 1 := by simp
        rw [ea, ea2, ea3, dval_snoc] at hih
        rw [tmsA, if_pos d]
        exact hih
      · rw [decide_eq_false d, if_neg (by simp)]
        have hr : tmsA ds.length (dval 0 ds) (b :: l) = if 1 ≤ ds.length ∧ ds.length ≤ 10 then (tmsA 0 0 l).map ((dval 0 ds, b) :: ·) else none := by
          rw [tmsA, if_neg d]
        rw [hr]
        by_cases c0 : ds.length = 0
        · rw [if_pos (by omega), if_neg (show ¬ (1 ≤ ds.length ∧ ds.length ≤ 10) by omega)]
          exact ⟨_, rfl, fun M h => by cases h⟩
        · rw [if_neg (by omega), w64 (by omega) (by omega)]
          by_cases c1 : 10 < ds.length
          · rw [if_pos (by omega), if_neg (show ¬ (1 ≤ ds.length ∧ ds.length ≤ 10) by omega)]
            exact ⟨_, rfl, fun M h => by cases h⟩
          · rw [if_neg (by omega), if_pos (by omega), if_pos (by omega), sz, if_pos (by omega)]
            have e1 : (⟨(p ++ ds ++ b :: l).toArray⟩ : ByteArray).extract ((((p.length : Nat) : Int)).toNat) (((((p ++ ds).length : Nat) : Int)).toNat) = ⟨ds.toArray⟩ := by
              rw [ex, show ((((p.length : Nat) : Int)).toNat) = p.length by omega, show ((((p ++ ds).length : Nat) : Int)).toNat = (p ++ ds).length by omega, List.take_left, List.drop_left]
            rw [e1, digF ds (k) hd (by omega) (by omega) (by omega), Option.bind_some, if_pos (by omega), if_pos (by omega), if_pos (by simp only [List.length_map]; omega), bta (p ++ ds) b l, if_pos (show 1 ≤ ds.length ∧ ds.length ≤ 10 by omega)]
            have hih := ih (p ++ ds ++ [b]) [] (out ++ [(dval 0 ds, b)]) k (fun c hc => by cases hc) (by simp at hl ⊢; omega) (by simp; omega) (by omega)
            have ea : p ++ ds ++ [b] ++ [] ++ l = p ++ ds ++ b :: l := by simp
            have ea2 : (p ++ ds ++ [b]).length = (p ++ ds).length + 1 := by simp; try omega
            have ea3 : (p ++ ds ++ [b] ++ []).length = (p ++ ds).length + 1 := by simp; try omega
            rw [ea, ea2, ea3] at hih
            obtain ⟨L, h1, h2⟩ := hih
            have em : (out ++ [(dval 0 ds, b)]).map toS = out.map toS ++ [(⟨dval 0 ds, ((b.toNat : Nat) : Int)⟩ : S61)] := by simp [toS]
            rw [em] at h1
            refine ⟨L, ?_, ?_⟩
            · rw [h1]
              show some (L, (tmsA 0 0 l).elim false (fun M => decide (0 < (out ++ [(dval 0 ds, b)] ++ M).length))) = _
              cases tmsA 0 0 l with
              | none => rfl
              | some M => simp
            · intro M hM
              cases ht : tmsA 0 0 l with
              | none => rw [ht] at hM; cases hM
              | some M' =>
                rw [ht] at hM
                obtain rfl := Option.some.inj hM
                rw [h2 M' ht]
                simp
    by_cases b48 : (((b.toNat : Nat) : Int)) ≥ 48
    · rw [if_pos b48]
      exact hj _ (by unfold Dig; exact decide_eq_decide.mpr (by omega))
    · rw [if_neg b48]
      exact hj _ (by unfold Dig; exact (decide_eq_false (by omega)).symm)
theorem terms (l : List UInt8) (k : Nat) (hl : l.length ≤ 1000) (hk : 2 * l.length + 15 ≤ k) :
    ∃ L, trystref12_terms.f k ⟨l.toArray⟩ = some (L, (tms l).elim false (fun M => decide (0 < M.length))) ∧ ∀ M, tms l = some M → L = M.map toS := by
  obtain ⟨L, h1, h2⟩ := terms0 l [] [] [] k (fun b hb => by cases hb) hl (by simp) hk
  refine ⟨L, ?_, fun M h => by simpa using h2 M h⟩
  unfold trystref12_terms.f
  rw [sz]
  have : trystref12_terms.l0 k ⟨l.toArray⟩ [] 0 ((l.length : Nat) : Int) 0 = some (L, (tmsA 0 0 l).elim false (fun M => decide (0 < ([] ++ M).length))) := h1
  rw [this]
  simp [tms]
end Go.Proofs.YthppkdbelmolbaaDoor.Spans
