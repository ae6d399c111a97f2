/- ParseOffset of every text: the value's answer and the reference's are one. -/
import Derived.Test.YthppkdbelmolbaaDoorOffs
namespace Go.Proofs.YthppkdbelmolbaaDoor.OffsP
open Go.RowKit Go.Proofs.YthppkdbelmolbaaDoorW.PrintWords Go.Proofs.YthppkdbelmolbaaDoorW.PrintLast Go.Proofs.YthppkdbelmolbaaDoor.Q Go.Proofs.YthppkdbelmolbaaDoor.Cal Go.Proofs.YthppkdbelmolbaaDoor.Bytes Go.Proofs.YthppkdbelmolbaaDoor.Offs
set_option linter.unusedVariables false
set_option linter.unusedSimpArgs false
theorem vj7 (k : Nat) (hk : 10 ≤ k) (b0 b1 b2 b3 b4 b5 b6 : UInt8) :
    value_ParseOffset.j0 (k + 2) ⟨[b0, b1, b2, b3, b4, b5, b6].toArray⟩ false = some (if (Dig b1 ∧ Dig b2 ∧ Dig b3 ∧ Dig b4) ∧ Dig b5 ∧ Dig b6 then po b0 (10 * dv b1 + dv b2) (10 * dv b3 + dv b4) (10 * dv b5 + dv b6) else (0, 7)) := by
  obtain ⟨v, e6⟩ := vd6 (k + 1) (by omega) b1 b2 b3 b4 b5 b6
  simp only [value_ParseOffset.j0]
  simp only [sz, ex, List.length_cons, List.length_nil, List.take_succ_cons, List.take_zero, List.drop_succ_cons, List.drop_zero, Nat.reduceAdd, vd2 (k + 1) (by omega), e6, Option.bind_some]
  rw [if_neg (by simp), if_pos (by omega)]
  by_cases c : (Dig b1 ∧ Dig b2 ∧ Dig b3 ∧ Dig b4) ∧ Dig b5 ∧ Dig b6
  · obtain ⟨⟨c1, c2, c3, c4⟩, c5, c6⟩ := c
    have a1 := dv_bd c1; have a2 := dv_bd c2; have a3 := dv_bd c3; have a4 := dv_bd c4; have a5 := dv_bd c5; have a6 := dv_bd c6
    rw [decide_eq_true (⟨⟨c1, c2, c3, c4⟩, c5, c6⟩ : (Dig b1 ∧ Dig b2 ∧ Dig b3 ∧ Dig b4) ∧ Dig b5 ∧ Dig b6), if_pos rfl, if_pos (by omega), if_pos (by omega), if_pos (by omega), if_pos (by omega)]
    rw [if_pos (⟨c1, c2⟩ : Dig b1 ∧ Dig b2), if_pos (⟨c3, c4⟩ : Dig b3 ∧ Dig b4), if_pos (⟨c5, c6⟩ : Dig b5 ∧ Dig b6), if_pos (⟨⟨c1, c2, c3, c4⟩, c5, c6⟩ : (Dig b1 ∧ Dig b2 ∧ Dig b3 ∧ Dig b4) ∧ Dig b5 ∧ Dig b6)]
    have hj := vj1 k b0 [b1, b2, b3, b4, b5, b6] (10 * dv b1 + dv b2) (10 * dv b3 + dv b4) (10 * dv b5 + dv b6) (by omega) (by omega) (by omega) (by omega) (by omega) (by omega)
    simp only [sz, List.length_cons, List.length_nil, Nat.reduceAdd] at hj
    exact hj
  · rw [decide_eq_false c, if_neg (by simp), if_neg c]
theorem vj5 (k : Nat) (hk : 10 ≤ k) (b0 b1 b2 b3 b4 : UInt8) :
    value_ParseOffset.j0 (k + 2) ⟨[b0, b1, b2, b3, b4].toArray⟩ false = some (if Dig b1 ∧ Dig b2 ∧ Dig b3 ∧ Dig b4 then po b0 (10 * dv b1 + dv b2) (10 * dv b3 + dv b4) 0 else (0, 7)) := by
  obtain ⟨v, e4⟩ := vd4 (k + 1) (by omega) b1 b2 b3 b4
  simp only [value_ParseOffset.j0]
  simp only [sz, ex, List.length_cons, List.length_nil, List.take_succ_cons, List.take_zero, List.drop_succ_cons, List.drop_zero, Nat.reduceAdd, vd2 (k + 1) (by omega), e4, vd0 k, List.take_nil, List.drop_nil, Option.bind_some]
  rw [if_neg (by simp), if_pos (by omega)]
  by_cases c : Dig b1 ∧ Dig b2 ∧ Dig b3 ∧ Dig b4
  · obtain ⟨c1, c2, c3, c4⟩ := c
    have a1 := dv_bd c1; have a2 := dv_bd c2; have a3 := dv_bd c3; have a4 := dv_bd c4
    rw [decide_eq_true (⟨c1, c2, c3, c4⟩ : Dig b1 ∧ Dig b2 ∧ Dig b3 ∧ Dig b4), if_pos rfl, if_pos (by omega), if_pos (by omega), if_pos (by omega), if_pos (by omega)]
    rw [if_pos (⟨c1, c2⟩ : Dig b1 ∧ Dig b2), if_pos (⟨c3, c4⟩ : Dig b3 ∧ Dig b4), if_pos (⟨c1, c2, c3, c4⟩ : Dig b1 ∧ Dig b2 ∧ Dig b3 ∧ Dig b4)]
    have hj := vj1 k b0 [b1, b2, b3, b4] (10 * dv b1 + dv b2) (10 * dv b3 + dv b4) 0 (by omega) (by omega) (by omega) (by omega) (by omega) (by omega)
    simp only [sz, List.length_cons, List.length_nil, Nat.reduceAdd] at hj
    exact hj
  · rw [decide_eq_false c, if_neg (by simp), if_neg c]
theorem rj7 (k : Nat) (hk : 10 ≤ k) (b0 b1 b2 b3 b4 b5 b6 : UInt8) :
    trystref12_ParseOffset.j1 (k + 2) ⟨[b0, b1, b2, b3, b4, b5, b6].toArray⟩ false = some (if (Dig b1 ∧ Dig b2 ∧ Dig b3 ∧ Dig b4) ∧ Dig b5 ∧ Dig b6 then po b0 (10 * dv b1 + dv b2) (10 * dv b3 + dv b4) (10 * dv b5 + dv b6) else (0, 7)) := by
  simp only [trystref12_ParseOffset.j1]
  simp only [sz, ex, List.length_cons, List.length_nil, List.take_succ_cons, List.take_zero, List.drop_succ_cons, List.drop_zero, Nat.reduceAdd, rd2 (k + 1) (by omega), Option.bind_some]
  rw [if_neg (by simp), if_pos (by omega), if_pos (by omega), if_pos (by omega), if_pos (by omega)]
  by_cases c12 : Dig b1 ∧ Dig b2
  · by_cases c34 : Dig b3 ∧ Dig b4
    · by_cases c56 : Dig b5 ∧ Dig b6
      · rw [if_pos c12, if_pos c34, if_pos c56, if_pos (⟨⟨c12.1, c12.2, c34.1, c34.2⟩, c56⟩ : (Dig b1 ∧ Dig b2 ∧ Dig b3 ∧ Dig b4) ∧ Dig b5 ∧ Dig b6)]
        have a1 := dv_bd c12.1; have a2 := dv_bd c12.2; have a3 := dv_bd c34.1; have a4 := dv_bd c34.2; have a5 := dv_bd c56.1; have a6 := dv_bd c56.2
        exact rj2 k b0 [b1, b2, b3, b4, b5, b6] (10 * dv b1 + dv b2) (10 * dv b3 + dv b4) (10 * dv b5 + dv b6) (by omega) (by omega) (by omega) (by omega) (by omega) (by omega)
      · have a1 := dv_bd c12.1; have a2 := dv_bd c12.2; have a3 := dv_bd c34.1; have a4 := dv_bd c34.2
        rw [if_pos c12, if_pos c34, if_neg c56, if_neg (by omega : ¬ 10 * dv b1 + dv b2 < 0), if_neg (by omega : ¬ 10 * dv b3 + dv b4 < 0), if_pos (by omega : (-1 : Int) < 0), if_neg (fun h => c56 h.2)]
        simp only [trystref12_ParseOffset.j2]
        rfl
    · have a1 := dv_bd c12.1; have a2 := dv_bd c12.2
      rw [if_pos c12, if_neg c34, if_neg (by omega : ¬ 10 * dv b1 + dv b2 < 0), if_pos (by omega : (-1 : Int) < 0), if_neg (fun h => c34 ⟨h.1.2.2.1, h.1.2.2.2⟩ : ¬ ((Dig b1 ∧ Dig b2 ∧ Dig b3 ∧ Dig b4) ∧ Dig b5 ∧ Dig b6))]
      simp only [trystref12_ParseOffset.j2]
      rfl
  · rw [if_neg c12, if_pos (by omega : (-1 : Int) < 0), if_neg (fun h => c12 ⟨h.1.1, h.1.2.1⟩ : ¬ ((Dig b1 ∧ Dig b2 ∧ Dig b3 ∧ Dig b4) ∧ Dig b5 ∧ Dig b6))]
    simp only [trystref12_ParseOffset.j2]
    rfl
theorem sign (b0 : UInt8) : ((((b0.toNat : Nat) : Int)) != 45) = !decide (b0 = 45) := by
  by_cases c : b0 = 45
  · subst c; rfl
  · rw [decide_eq_false c]
    have : ¬ (((b0.toNat : Nat) : Int) = 45) := by rw [is_byte b0 45 45 rfl]; exact c
    simpa using this
theorem vjt (k : Nat) (s : ByteArray) : value_ParseOffset.j0 (k + 1) s true = some (0, 7) := by simp only [value_ParseOffset.j0]; rfl
theorem rjt (k : Nat) (s : ByteArray) : trystref12_ParseOffset.j1 (k + 1) s true = some (0, 7) := by simp only [trystref12_ParseOffset.j1]; rfl
theorem v7 (k : Nat) (hk : 20 ≤ k) (b0 b1 b2 b3 b4 b5 b6 : UInt8) :
    value_ParseOffset.f k ⟨[b0, b1, b2, b3, b4, b5, b6].toArray⟩ = some (if b0 = 43 ∨ b0 = 45 then (if (Dig b1 ∧ Dig b2 ∧ Dig b3 ∧ Dig b4) ∧ Dig b5 ∧ Dig b6 then po b0 (10 * dv b1 + dv b2) (10 * dv b3 + dv b4) (10 * dv b5 + dv b6) else (0, 7)) else (0, 7)) := by
  obtain ⟨k, rfl⟩ : ∃ j, k = j + 2 := ⟨k - 2, by omega⟩
  unfold value_ParseOffset.f
  rw [sz, bt0, sign]
  rw [if_neg (by simp), if_pos (by simp), if_pos (by simp)]
  by_cases c1 : b0 = 43
  · rw [if_pos (by rw [is_byte b0 43 43 rfl]; exact c1 : ((b0.toNat : Nat) : Int) = 43), if_pos (Or.inl c1)]
    exact vj7 k (by omega) ..
  · rw [if_neg (by rw [is_byte b0 43 43 rfl]; exact c1 : ¬ ((b0.toNat : Nat) : Int) = 43)]
    by_cases c2 : b0 = 45
    · rw [if_pos (Or.inr c2), decide_eq_true c2]
      exact vj7 k (by omega) ..
    · rw [if_neg (fun h => h.elim c1 c2), decide_eq_false c2]
      exact vjt (k + 1) _
theorem v5 (k : Nat) (hk : 20 ≤ k) (b0 b1 b2 b3 b4 : UInt8) :
    value_ParseOffset.f k ⟨[b0, b1, b2, b3, b4].toArray⟩ = some (if b0 = 43 ∨ b0 = 45 then (if Dig b1 ∧ Dig b2 ∧ Dig b3 ∧ Dig b4 then po b0 (10 * dv b1 + dv b2) (10 * dv b3 + dv b4) 0 else (0, 7)) else (0, 7)) := by
  obtain ⟨k, rfl⟩ : ∃ j, k = j + 2 := ⟨k - 2, by omega⟩
  unfold value_ParseOffset.f
  rw [sz, bt0, sign]
  rw [if_pos (by simp), if_pos (by simp)]
  by_cases c1 : b0 = 43
  · rw [if_pos (by rw [is_byte b0 43 43 rfl]; exact c1 : ((b0.toNat : Nat) : Int) = 43), if_pos (Or.inl c1)]
    exact vj5 k (by omega) ..
  · rw [if_neg (by rw [is_byte b0 43 43 rfl]; exact c1 : ¬ ((b0.toNat : Nat) : Int) = 43)]
    by_cases c2 : b0 = 45
    · rw [if_pos (Or.inr c2), decide_eq_true c2]
      exact vj5 k (by omega) ..
    · rw [if_neg (fun h => h.elim c1 c2), decide_eq_false c2]
      exact vjt (k + 1) _
theorem rj0 (k : Nat) (hk : 20 ≤ k) (b0 b1 b2 b3 b4 b5 b6 : UInt8) :
    trystref12_ParseOffset.j0 (k + 1) ⟨[b0, b1, b2, b3, b4, b5, b6].toArray⟩ = some (if b0 = 43 ∨ b0 = 45 then (if (Dig b1 ∧ Dig b2 ∧ Dig b3 ∧ Dig b4) ∧ Dig b5 ∧ Dig b6 then po b0 (10 * dv b1 + dv b2) (10 * dv b3 + dv b4) (10 * dv b5 + dv b6) else (0, 7)) else (0, 7)) := by
  obtain ⟨k, rfl⟩ : ∃ j, k = j + 2 := ⟨k - 2, by omega⟩
  simp only [trystref12_ParseOffset.j0]
  rw [sz, bt0, sign]
  rw [if_pos (by simp), if_pos (by simp)]
  by_cases c1 : b0 = 43
  · rw [if_pos (by rw [is_byte b0 43 43 rfl]; exact c1 : ((b0.toNat : Nat) : Int) = 43), if_pos (Or.inl c1)]
    exact rj7 k (by omega) ..
  · rw [if_neg (by rw [is_byte b0 43 43 rfl]; exact c1 : ¬ ((b0.toNat : Nat) : Int) = 43)]
    by_cases c2 : b0 = 45
    · rw [if_pos (Or.inr c2), decide_eq_true c2]
      exact rj7 k (by omega) ..
    · rw [if_neg (fun h => h.elim c1 c2), decide_eq_false c2]
      exact rjt (k + 1) _
theorem parse (k : Nat) (hk : 40 ≤ k) (l : List UInt8) : ∃ r, value_ParseOffset.f k ⟨l.toArray⟩ = some r ∧ trystref12_ParseOffset.f k ⟨l.toArray⟩ = some r := by
  obtain ⟨k, rfl⟩ : ∃ j, k = j + 1 := ⟨k - 1, by omega⟩
  by_cases c5 : l.length = 5
  · obtain ⟨b0, b1, b2, b3, b4, rfl⟩ := list5 l c5
    refine ⟨_, v5 (k + 1) (by omega) .., ?_⟩
    unfold trystref12_ParseOffset.f
    rw [sz, if_pos (by simp), if_pos (by simp), show (⟨#[48, 48]⟩ : ByteArray) = ⟨[48, 48].toArray⟩ from rfl, app]
    show trystref12_ParseOffset.j0 (k + 1) ⟨[b0, b1, b2, b3, b4, 48, 48].toArray⟩ = _
    rw [rj0 k (by omega)]
    have d48 : Dig 48 := by unfold Dig; decide
    have v48 : dv 48 = 0 := by unfold dv; decide
    rw [v48]
    by_cases c : Dig b1 ∧ Dig b2 ∧ Dig b3 ∧ Dig b4
    · rw [if_pos c, if_pos (⟨c, d48, d48⟩ : (Dig b1 ∧ Dig b2 ∧ Dig b3 ∧ Dig b4) ∧ Dig 48 ∧ Dig 48)]
      rfl
    · rw [if_neg c, if_neg (fun h => c h.1 : ¬ ((Dig b1 ∧ Dig b2 ∧ Dig b3 ∧ Dig b4) ∧ Dig 48 ∧ Dig 48))]
  · by_cases c7 : l.length = 7
    · obtain ⟨b0, b1, b2, b3, b4, b5, b6, rfl⟩ := list7 l c7
      refine ⟨_, v7 (k + 1) (by omega) .., ?_⟩
      unfold trystref12_ParseOffset.f
      rw [sz, if_neg (by simp)]
      exact rj0 k (by omega) ..
    · refine ⟨(0, 7), ?_, ?_⟩
      · unfold value_ParseOffset.f
        rw [sz, if_neg (by omega), if_neg (by omega)]
        exact vjt k _
      · obtain ⟨k, rfl⟩ : ∃ j, k = j + 1 := ⟨k - 1, by omega⟩
        unfold trystref12_ParseOffset.f
        rw [sz, if_neg (by omega)]
        simp only [trystref12_ParseOffset.j0]
        rw [sz, if_neg (by omega)]
        exact rjt k _
/-- What was written is read unchanged. -/
theorem back (k : Nat) (hk : 40 ≤ k) (b : UInt8) (hb : b = 43 ∨ b = 45) (n : Int) (h : 0 ≤ n) (h' : n ≤ 86399) :
    value_ParseOffset.f k ⟨(offL b n).toArray⟩ = some (if b = 45 then (if n = 0 then (0, 7) else (-n, 0)) else (n, 0)) := by
  unfold offL
  by_cases c : n % 60 = 0
  · rw [if_pos c]
    simp only [List.append_nil]
    rw [v5 k (by omega), if_pos hb, if_pos ⟨db_Dig _ _, db_Dig _ _, db_Dig _ _, db_Dig _ _⟩]
    simp only [db_dv]
    have e1 : 10 * (n / 3600 / 10 % 10) + n / 3600 / 1 % 10 = n / 3600 := by omega
    have e2 : 10 * (n / 60 % 60 / 10 % 10) + n / 60 % 60 / 1 % 10 = n / 60 % 60 := by omega
    have e3 : 3600 * (n / 3600) + 60 * (n / 60 % 60) + 0 = n := by omega
    rw [e1, e2, po_yes (by omega) (by omega) (by omega), e3]
  · rw [if_neg c]
    simp only [List.cons_append, List.nil_append]
    rw [v7 k (by omega), if_pos hb, if_pos ⟨⟨db_Dig _ _, db_Dig _ _, db_Dig _ _, db_Dig _ _⟩, db_Dig _ _, db_Dig _ _⟩]
    simp only [db_dv]
    have e1 : 10 * (n / 3600 / 10 % 10) + n / 3600 / 1 % 10 = n / 3600 := by omega
    have e2 : 10 * (n / 60 % 60 / 10 % 10) + n / 60 % 60 / 1 % 10 = n / 60 % 60 := by omega
    have e4 : 10 * (n % 60 / 10 % 10) + n % 60 / 1 % 10 = n % 60 := by omega
    have e3 : 3600 * (n / 3600) + 60 * (n / 60 % 60) + n % 60 = n := by omega
    rw [e1, e2, e4, po_yes (by omega) (by omega) (by omega), e3]
end Go.Proofs.YthppkdbelmolbaaDoor.OffsP
