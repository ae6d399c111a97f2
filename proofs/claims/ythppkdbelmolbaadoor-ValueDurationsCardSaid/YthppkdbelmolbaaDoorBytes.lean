/- Bytes as lists; the digit loops of value and of the reference, side by side; CutPrefix at one byte. -/
import Derived.Test.YthppkdbelmolbaaDoorQstrA
import Derived.Test.YthppkdbelmolbaaDoorQnumV
import Derived.Test.YthppkdbelmolbaaDoorQnumR
import Derived.Test.YthppkdbelmolbaaDoorCal
namespace Go.Proofs.YthppkdbelmolbaaDoor.Bytes
open Go.RowKit Go.Proofs.YthppkdbelmolbaaDoorW.PrintWords Go.Proofs.YthppkdbelmolbaaDoorW.PrintLast Go.Proofs.YthppkdbelmolbaaDoor.Q Go.Proofs.YthppkdbelmolbaaDoor.Cal
set_option linter.unusedVariables false
set_option linter.unusedSimpArgs false
theorem ex (l : List UInt8) (i j : Nat) : (⟨l.toArray⟩ : ByteArray).extract i j = ⟨((l.take j).drop i).toArray⟩ := by
  apply ByteArray.ext
  rw [ByteArray.data_extract]
  simp [List.extract_toArray, List.extract_eq_take_drop, List.drop_take]
theorem btl (l : List UInt8) (i : Nat) (h : i < l.length) : bt ⟨l.toArray⟩ (i : Int) = ((l[i].toNat : Nat) : Int) := by
  unfold bt
  rw [dif_pos (show ((i : Int).toNat) < (⟨l.toArray⟩ : ByteArray).size by simpa [ByteArray.size] using h)]
  rfl
theorem sz (l : List UInt8) : (⟨l.toArray⟩ : ByteArray).size = l.length := by simp [ByteArray.size]
theorem ofL (s : ByteArray) : s = ⟨s.data.toList.toArray⟩ := by cases s; simp
theorem tl (l : List UInt8) : (⟨l.toArray⟩ : ByteArray).toList = l := by rw [ByteArray.toList_eq]
theorem p10 (i : Nat) (h : i ≤ 9) : (10 : Int) ^ i ≤ 1000000000 := by
  rcases (by omega : i = 0 ∨ i = 1 ∨ i = 2 ∨ i = 3 ∨ i = 4 ∨ i = 5 ∨ i = 6 ∨ i = 7 ∨ i = 8 ∨ i = 9) with h | h | h | h | h | h | h | h | h | h <;> subst h <;> decide
/-- The value and the other's answer, side by side. -/
theorem loops (l : List UInt8) (hn : l.length ≤ 9) : ∀ (j i : Nat) (acc : Int), j + i = l.length → 0 ≤ acc → acc < (10 : Int) ^ i →
    (∃ v, 0 ≤ v ∧ v < 1000000000 ∧ ∀ k, j + 1 ≤ k → value_digits.l0 k ⟨l.toArray⟩ acc l.length i = some (v, l != []) ∧ trystref12_Digits.l0 k ⟨l.toArray⟩ acc l.length i = some (if l = [] then -1 else v)) ∨
    (∀ k, j + 1 ≤ k → value_digits.l0 k ⟨l.toArray⟩ acc l.length i = some (0, false) ∧ trystref12_Digits.l0 k ⟨l.toArray⟩ acc l.length i = some (-1)) := by
  intro j
  induction j with
  | zero =>
    intro i acc hj h0 h1
    left
    have hp := p10 i (by omega)
    refine ⟨acc, h0, by omega, ?_⟩
    intro k hk
    obtain ⟨k, rfl⟩ : ∃ m, k = m + 1 := ⟨k - 1, by omega⟩
    refine ⟨?_, ?_⟩
    · simp only [value_digits.l0]
      rw [if_neg (by omega), tl]
    · simp only [trystref12_Digits.l0]
      rw [if_neg (by omega), tl]
      by_cases c : l = []
      · rw [if_pos c, if_pos c]
      · rw [if_neg c, if_neg c]
  | succ j ih =>
    intro i acc hj h0 h1
    have hi : i < l.length := by omega
    have hp := p10 (i + 1) (by omega)
    have hs : (10 : Int) ^ (i + 1) = 10 ^ i * 10 := Int.pow_succ ..
    have hb := btl l i hi
    have hz : ((i : Nat) : Int) + 1 = ((i + 1 : Nat) : Int) := by omega
    have hlt := UInt8.toNat_lt (l[i]'hi)
    have hL := sz l
    by_cases c1 : (((l[i]'hi).toNat : Nat) : Int) < 48
    · right
      intro k hk
      obtain ⟨k, rfl⟩ : ∃ m, k = m + 1 := ⟨k - 1, by omega⟩
      simp only [value_digits.l0, trystref12_Digits.l0]
      refine ⟨?_, ?_⟩ <;> rw [if_pos (by omega), if_pos (by omega), if_pos (by omega), hb, if_pos c1]
    · by_cases c2 : (((l[i]'hi).toNat : Nat) : Int) > 57
      · right
        intro k hk
        obtain ⟨k, rfl⟩ : ∃ m, k = m + 1 := ⟨k - 1, by omega⟩
        simp only [value_digits.l0, trystref12_Digits.l0]
        refine ⟨?_, ?_⟩ <;> rw [if_pos (by omega), if_pos (by omega), if_pos (by omega), hb, if_neg c1, if_pos c2]
      · have st : ∀ k, value_digits.l0 (k + 1) ⟨l.toArray⟩ acc l.length i = value_digits.l0 k ⟨l.toArray⟩ (10 * acc + ((((l[i]'hi).toNat : Nat) : Int) - 48)) l.length ((i + 1 : Nat) : Int) ∧
            trystref12_Digits.l0 (k + 1) ⟨l.toArray⟩ acc l.length i = trystref12_Digits.l0 k ⟨l.toArray⟩ (10 * acc + ((((l[i]'hi).toNat : Nat) : Int) - 48)) l.length ((i + 1 : Nat) : Int) := by
          intro k
          simp only [value_digits.l0, trystref12_Digits.l0]
          have e1 : ((((l[i]'hi).toNat : Nat) : Int) - 48) % 256 = (((l[i]'hi).toNat : Nat) : Int) - 48 := by omega
          refine ⟨?_, ?_⟩
          · rw [if_pos (by omega), if_pos (by omega), if_pos (by omega), hb, if_neg c1, if_neg c2, e1, w64 (x := 10 * acc) (by omega) (by omega), w64 (x := 10 * acc + _) (by omega) (by omega), w64 (x := ((i : Nat) : Int) + 1) (by omega) (by omega), hz]
          · rw [if_pos (by omega), if_pos (by omega), if_pos (by omega), hb, if_neg c1, if_neg c2, e1, w64 (x := acc * 10) (by omega) (by omega), w64 (x := acc * 10 + _) (by omega) (by omega), w64 (x := ((i : Nat) : Int) + 1) (by omega) (by omega), hz, show acc * 10 = 10 * acc by omega]
        rcases ih (i + 1) (10 * acc + ((((l[i]'hi).toNat : Nat) : Int) - 48)) (by omega) (by omega) (by omega) with ⟨v, v0, v1, hv⟩ | hv
        · left
          refine ⟨v, v0, v1, ?_⟩
          intro k hk
          obtain ⟨k, rfl⟩ : ∃ m, k = m + 1 := ⟨k - 1, by omega⟩
          rw [(st k).1, (st k).2]
          exact hv k (by omega)
        · right
          intro k hk
          obtain ⟨k, rfl⟩ : ∃ m, k = m + 1 := ⟨k - 1, by omega⟩
          rw [(st k).1, (st k).2]
          exact hv k (by omega)
/-- Up to nine bytes: the same value, or both refuse. -/
theorem digits (l : List UInt8) (hn : l.length ≤ 9) :
    (∃ v, 0 ≤ v ∧ v < 1000000000 ∧ l ≠ [] ∧ ∀ k, 10 ≤ k → value_digits.f k ⟨l.toArray⟩ = some (v, true) ∧ trystref12_Digits.f k ⟨l.toArray⟩ = some v) ∨
    (∃ v, ∀ k, 10 ≤ k → value_digits.f k ⟨l.toArray⟩ = some (v, false) ∧ trystref12_Digits.f k ⟨l.toArray⟩ = some (-1)) := by
  unfold value_digits.f trystref12_Digits.f
  rw [sz]
  rcases loops l hn l.length 0 0 (by omega) (by omega) (by simp) with ⟨v, h0, h1, h⟩ | h
  · by_cases c : l = []
    · right
      refine ⟨v, fun k hk => ?_⟩
      obtain ⟨h2, h3⟩ := h k (by omega)
      refine ⟨h2.trans ?_, h3.trans ?_⟩
      · rw [c]; rfl
      · rw [if_pos c]
    · left
      refine ⟨v, h0, h1, c, fun k hk => ?_⟩
      obtain ⟨h2, h3⟩ := h k (by omega)
      refine ⟨h2.trans ?_, h3.trans ?_⟩
      · have : (l != []) = true := bne_iff_ne.mpr c
        rw [this]
      · rw [if_neg c]
  · right
    exact ⟨0, fun k hk => h k (by omega)⟩
theorem cut_nil : strings_CutPrefix.f ⟨[].toArray⟩ ⟨#[45]⟩ = some (⟨[].toArray⟩, false) := by decide
theorem cut_cons (b : UInt8) (t : List UInt8) (p : UInt8) : strings_CutPrefix.f ⟨(b :: t).toArray⟩ ⟨#[p]⟩ = if b = p then some (⟨t.toArray⟩, true) else some (⟨(b :: t).toArray⟩, false) := by
  have s1 : (⟨#[p]⟩ : ByteArray).size = 1 := rfl
  have t1 : (⟨#[p]⟩ : ByteArray).toList = [p] := tl [p]
  have e1 : ((1 : Nat) : Int).toNat = 1 := rfl
  unfold strings_CutPrefix.f stringslite_CutPrefix.f stringslite_HasPrefix.f
  rw [s1, t1, e1, sz, if_pos (by simp; omega), if_pos (by omega), if_pos (by simp; omega), ex, tl]
  simp only [List.take_succ_cons, List.take_zero, List.drop_zero, Option.bind_some]
  by_cases c : b = p
  · subst c
    rw [if_pos rfl, if_pos (by simp), ex]
    simp
    rw [if_pos (by omega)]
    rfl
  · rw [if_neg c, if_neg (by simpa using c)]
    simp
end Go.Proofs.YthppkdbelmolbaaDoor.Bytes
