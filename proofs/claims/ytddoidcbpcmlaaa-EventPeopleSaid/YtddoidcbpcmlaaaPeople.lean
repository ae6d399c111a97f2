/- Addresses and people of the program and of the statement's own words: the same answers. -/
import Derived.Test.YtddoidcbpcmlaaaQpers
import Derived.Test.YtddoidcbpcmlaaaQpersR
import Derived.Test.YtddoidcbpcmlaaaQawake
namespace Go.Proofs.Ytddoidcbpcmlaaa.People
open Go.RowKit Go.Proofs.YtddoidcbpcmlaaaW.PrintWords Go.Proofs.YtddoidcbpcmlaaaW.PrintLast Go.Proofs.Ytddoidcbpcmlaaa.Q
set_option linter.unusedVariables false
set_option linter.unusedSimpArgs false
theorem w64 {x : Int} (h : -9223372036854775808 ≤ x) (h' : x ≤ 9223372036854775807) : wrap64 x = x := by
  unfold wrap64; omega
theorem btl (l : List UInt8) (i : Nat) (h : i < l.length) : bt ⟨l.toArray⟩ (i : Int) = ((l[i].toNat : Nat) : Int) := by
  unfold bt
  rw [dif_pos (show ((i : Int).toNat) < (⟨l.toArray⟩ : ByteArray).size by simpa [ByteArray.size] using h)]
  rfl
theorem sz (l : List UInt8) : (⟨l.toArray⟩ : ByteArray).size = l.length := by simp [ByteArray.size]
theorem ofL (s : ByteArray) : s = ⟨s.data.toList.toArray⟩ := by cases s; simp
def ok (b : UInt8) : Bool := decide (33 ≤ b.toNat) && decide (b.toNat ≤ 126)
def ns (b : UInt8) : Bool := !(decide (b.toNat = 34) || decide (b.toNat = 44) || decide (b.toNat = 59))
def pr (l : List UInt8) : Bool := l.all ok && (decide (1 ≤ l.length) && decide (l.length ≤ 60))
theorem drop_all (p : UInt8 → Bool) (l : List UInt8) (i : Nat) (h : i < l.length) : (l.drop i).all p = (p l[i] && (l.drop (i + 1)).all p) := by
  rw [List.drop_eq_getElem_cons h, List.all_cons]
theorem pV (l : List UInt8) (hl : l.length ≤ 9223372036854775807) : ∀ (d i : Nat), d + i = l.length → ∀ k, d + 1 ≤ k → event_printable.l0 k ⟨l.toArray⟩ l.length i = some ((l.drop i).all ok && (decide (1 ≤ l.length) && decide (l.length ≤ 60))) := by
  intro d
  induction d with
  | zero =>
    intro i h k hk
    obtain ⟨k, rfl⟩ : ∃ m, k = m + 1 := ⟨k - 1, by omega⟩
    simp only [event_printable.l0]
    rw [if_neg (by omega), sz, List.drop_of_length_le (by omega), List.all_nil, Bool.true_and]
    by_cases c : ((l.length : Nat) : Int) ≥ 1
    · rw [if_pos c, decide_eq_true (show 1 ≤ l.length by omega), Bool.true_and]
      congr 1
      exact decide_eq_decide.mpr (by omega)
    · rw [if_neg c, decide_eq_false (show ¬ 1 ≤ l.length by omega), Bool.false_and]
  | succ d ih =>
    intro i h k hk
    obtain ⟨k, rfl⟩ : ∃ m, k = m + 1 := ⟨k - 1, by omega⟩
    have hi : i < l.length := by omega
    simp only [event_printable.l0]
    rw [if_pos (by omega), if_pos (by omega), if_pos (by rw [sz]; omega), btl l i hi, drop_all ok l i hi]
    have e : wrap64 (((i : Nat) : Int) + 1) = ((i + 1 : Nat) : Int) := by rw [w64 (by omega) (by omega)]; omega
    rw [e, show ok l[i] = (decide (33 ≤ l[i].toNat) && decide (l[i].toNat ≤ 126)) from rfl]
    by_cases c1 : ((l[i].toNat : Nat) : Int) < 33
    · rw [if_pos c1, decide_eq_false (show ¬ 33 ≤ l[i].toNat by omega)]; simp
    · rw [if_neg c1, decide_eq_true (show 33 ≤ l[i].toNat by omega)]
      by_cases c2 : ((l[i].toNat : Nat) : Int) > 126
      · rw [if_pos c2, decide_eq_false (show ¬ l[i].toNat ≤ 126 by omega)]; simp
      · rw [if_neg c2, decide_eq_true (show l[i].toNat ≤ 126 by omega), ih (i + 1) (by omega) k (by omega)]
        simp
theorem pR (l : List UInt8) (hl : l.length ≤ 9223372036854775807) : ∀ (d i : Nat), d + i = l.length → ∀ k, d + 1 ≤ k → trystlaw18_printable.l0 k ⟨l.toArray⟩ l.length i = some ((l.drop i).all ok && (decide (1 ≤ l.length) && decide (l.length ≤ 60))) := by
  intro d
  induction d with
  | zero =>
    intro i h k hk
    obtain ⟨k, rfl⟩ : ∃ m, k = m + 1 := ⟨k - 1, by omega⟩
    simp only [trystlaw18_printable.l0]
    rw [if_neg (by omega), sz, List.drop_of_length_le (by omega), List.all_nil, Bool.true_and]
    by_cases c : ((l.length : Nat) : Int) > 0
    · rw [if_pos c, decide_eq_true (show 1 ≤ l.length by omega), Bool.true_and]
      congr 1
      exact decide_eq_decide.mpr (by omega)
    · rw [if_neg c, decide_eq_false (show ¬ 1 ≤ l.length by omega), Bool.false_and]
  | succ d ih =>
    intro i h k hk
    obtain ⟨k, rfl⟩ : ∃ m, k = m + 1 := ⟨k - 1, by omega⟩
    have hi : i < l.length := by omega
    simp only [trystlaw18_printable.l0]
    rw [if_pos (by omega), if_pos (by omega), if_pos (by rw [sz]; omega), btl l i hi, drop_all ok l i hi]
    have e : wrap64 (((i : Nat) : Int) + 1) = ((i + 1 : Nat) : Int) := by rw [w64 (by omega) (by omega)]; omega
    rw [e, show ok l[i] = (decide (33 ≤ l[i].toNat) && decide (l[i].toNat ≤ 126)) from rfl]
    by_cases c1 : ((l[i].toNat : Nat) : Int) < 33
    · rw [if_pos c1, decide_eq_false (show ¬ 33 ≤ l[i].toNat by omega)]; simp
    · rw [if_neg c1, decide_eq_true (show 33 ≤ l[i].toNat by omega)]
      by_cases c2 : ((l[i].toNat : Nat) : Int) > 126
      · rw [if_pos c2, decide_eq_false (show ¬ l[i].toNat ≤ 126 by omega)]; simp
      · rw [if_neg c2, decide_eq_true (show l[i].toNat ≤ 126 by omega), ih (i + 1) (by omega) k (by omega)]
        simp
theorem prV (l : List UInt8) (hl : l.length ≤ 9223372036854775807) (k : Nat) (hk : l.length + 1 ≤ k) : event_printable.f k ⟨l.toArray⟩ = some (pr l) := by
  unfold event_printable.f
  rw [sz]
  exact pV l hl l.length 0 (by omega) k hk
theorem prR (l : List UInt8) (hl : l.length ≤ 9223372036854775807) (k : Nat) (hk : l.length + 1 ≤ k) : trystlaw18_printable.f k ⟨l.toArray⟩ = some (pr l) := by
  unfold trystlaw18_printable.f
  rw [sz]
  exact pR l hl l.length 0 (by omega) k hk
theorem aR (l : List UInt8) (hl : l.length ≤ 9223372036854775807) : ∀ (d i : Nat), d + i = l.length → ∀ k, d + l.length + 2 ≤ k → trystlaw18_address.l0 k ⟨l.toArray⟩ l.length i = some ((l.drop i).all ns && pr l) := by
  intro d
  induction d with
  | zero =>
    intro i h k hk
    obtain ⟨k, rfl⟩ : ∃ m, k = m + 1 := ⟨k - 1, by omega⟩
    simp only [trystlaw18_address.l0]
    rw [if_neg (by omega), prR l hl k (by omega), List.drop_of_length_le (by omega), List.all_nil, Bool.true_and]
    rfl
  | succ d ih =>
    intro i h k hk
    obtain ⟨k, rfl⟩ : ∃ m, k = m + 1 := ⟨k - 1, by omega⟩
    have hi : i < l.length := by omega
    simp only [trystlaw18_address.l0]
    rw [if_pos (by omega), if_pos (by omega), if_pos (by rw [sz]; omega), btl l i hi, drop_all ns l i hi]
    have e : wrap64 (((i : Nat) : Int) + 1) = ((i + 1 : Nat) : Int) := by rw [w64 (by omega) (by omega)]; omega
    rw [e]
    by_cases c1 : ((l[i].toNat : Nat) : Int) = 34
    · rw [if_pos c1]; unfold ns; rw [decide_eq_true (show l[i].toNat = 34 by omega)]; simp
    · rw [if_neg c1]
      by_cases c2 : ((l[i].toNat : Nat) : Int) = 44
      · rw [if_pos c2]; unfold ns; rw [decide_eq_true (show l[i].toNat = 44 by omega)]; simp
      · rw [if_neg c2]
        by_cases c3 : ((l[i].toNat : Nat) : Int) = 59
        · rw [if_pos c3]; unfold ns; rw [decide_eq_true (show l[i].toNat = 59 by omega)]; simp
        · rw [if_neg c3, ih (i + 1) (by omega) k (by omega)]
          have e : ns l[i] = true := by
            unfold ns
            rw [decide_eq_false (show ¬ l[i].toNat = 34 by omega), decide_eq_false (show ¬ l[i].toNat = 44 by omega), decide_eq_false (show ¬ l[i].toNat = 59 by omega)]; rfl
          rw [e, Bool.true_and]
theorem ns_c (b : UInt8) : ([34, 44, 59] : List UInt8).contains b = !ns b := by
  have e : ∀ c : UInt8, (b == c) = decide (b.toNat = c.toNat) := by
    intro c
    rw [Bool.eq_iff_iff, beq_iff_eq, decide_eq_true_eq]
    exact ⟨fun h => by rw [h], fun h => UInt8.toNat_inj.mp h⟩
  simp only [List.contains, List.elem, e, ns, Bool.not_not]
  have h34 : (34 : UInt8).toNat = 34 := rfl
  have h44 : (44 : UInt8).toNat = 44 := rfl
  have h59 : (59 : UInt8).toNat = 59 := rfl
  rw [h34, h44, h59]
  by_cases c1 : b.toNat = 34
  · rw [decide_eq_true c1]; rfl
  · rw [decide_eq_false c1]
    by_cases c2 : b.toNat = 44
    · rw [decide_eq_true c2]; rfl
    · rw [decide_eq_false c2]
      by_cases c3 : b.toNat = 59
      · rw [decide_eq_true c3]; rfl
      · rw [decide_eq_false c3]; rfl
theorem any_ns : ∀ l : List UInt8, (!Lib.containsAny l [34, 44, 59]) = l.all ns
  | [] => rfl
  | b :: l => by
    have ih := any_ns l
    have hg := Lib.indexAny_ge [34, 44, 59] l
    unfold Lib.containsAny at ih ⊢
    rw [Lib.indexAny, ns_c, List.all_cons, ← ih]
    cases hb : ns b
    · rw [if_pos (by rfl)]; rfl
    · rw [if_neg (by simp)]
      by_cases c : Lib.indexAny l [34, 44, 59] = -1
      · rw [c]; rfl
      · rw [if_neg (by simpa using c), decide_eq_true (show 0 ≤ Lib.indexAny l [34, 44, 59] + 1 by omega), decide_eq_true (show 0 ≤ Lib.indexAny l [34, 44, 59] by omega)]; rfl
theorem adV (l : List UInt8) (hl : l.length ≤ 9223372036854775807) (k : Nat) (hk : l.length + 1 ≤ k) : event_Address.f k ⟨l.toArray⟩ = some (l.all ns && pr l) := by
  unfold event_Address.f
  rw [prV l hl k hk, Option.bind_some]
  by_cases c : pr l = true
  · rw [if_pos c]
    have c' := c
    unfold pr at c'
    simp only [Bool.and_eq_true, decide_eq_true_eq, List.all_eq_true] at c'
    unfold strings_ContainsAny.f
    rw [if_pos ⟨by rw [sz]; omega, by decide, by
      simp only [List.all_eq_true, decide_eq_true_eq]
      intro x hx
      have := c'.1 x (by simpa using hx)
      unfold ok at this
      simp only [Bool.and_eq_true, decide_eq_true_eq] at this
      omega, by decide⟩, Option.bind_some]
    have e : (⟨l.toArray⟩ : ByteArray).data.toList = l := by simp
    have e2 : (⟨#[34, 44, 59]⟩ : ByteArray).data.toList = [34, 44, 59] := rfl
    rw [e, e2, any_ns, c, Bool.and_true]
  · rw [if_neg c, Bool.eq_false_iff.mpr c, Bool.and_false]
theorem adR (l : List UInt8) (hl : l.length ≤ 9223372036854775807) (k : Nat) (hk : 2 * l.length + 2 ≤ k) : trystlaw18_address.f k ⟨l.toArray⟩ = some (l.all ns && pr l) := by
  unfold trystlaw18_address.f
  rw [sz]
  exact aR l hl l.length 0 (by omega) k (by omega)
def ad (s : ByteArray) : Bool := s.data.toList.all ns && pr s.data.toList
theorem ad1 (s : ByteArray) (hs : s.size ≤ 9223372036854775807) (k : Nat) (hk : 2 * s.size + 2 ≤ k) : event_Address.f k s = some (ad s) := by
  have h := adV s.data.toList (by rw [← sz, ← ofL]; exact hs) k (by rw [← sz, ← ofL]; omega)
  rw [← ofL] at h
  exact h
theorem ad2 (s : ByteArray) (hs : s.size ≤ 9223372036854775807) (k : Nat) (hk : 2 * s.size + 2 ≤ k) : trystlaw18_address.f k s = some (ad s) := by
  have h := adR s.data.toList (by rw [← sz, ← ofL]; exact hs) k (by rw [← sz, ← ofL]; omega)
  rw [← ofL] at h
  exact h
theorem bcomm (a b : Bool) : (a == b) = (b == a) := by cases a <;> cases b <;> rfl
theorem persons (k : Nat) (a d e : ByteArray) (s r : Int) (b : Bool) (ha : a.size ≤ 9223372036854775807) (hd : d.size ≤ 9223372036854775807) (he : e.size ≤ 9223372036854775807) (h1 : 2 * a.size + 2 ≤ k) (h2 : 2 * d.size + 2 ≤ k) (h3 : 2 * e.size + 2 ≤ k) :
    ∃ x, event_RightPerson.f k a s r b d e = some x ∧ trystlaw18_person.f k a s r b d e = some x := by
  have e0 : event_RightPerson.f k a s r b d e = trystlaw18_person.f k a s r b d e := by
    unfold event_RightPerson.f trystlaw18_person.f
    rw [ad1 a ha k h1, ad1 d hd k h2, ad1 e he k h3, ad2 a ha k h1, ad2 d hd k h2, ad2 e he k h3, bcomm]
  rw [e0]
  have : ∃ x, trystlaw18_person.f k a s r b d e = some x := by
    unfold trystlaw18_person.f
    rw [ad2 a ha k h1, ad2 d hd k h2, ad2 e he k h3]
    simp only [Option.bind_some]
    repeat' split
    all_goals exact ⟨_, rfl⟩
  obtain ⟨x, hx⟩ := this
  exact ⟨x, hx, hx⟩
end Go.Proofs.Ytddoidcbpcmlaaa.People
