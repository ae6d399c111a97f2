/- What clock.number, ParseDate and Parse answer to bytes: just the dates and times that are written so are read. -/
import Derived.Test.YthppkdbelmolbaaFunN
import Derived.Test.YthppkdbelmolbaaQclockB
namespace Go.Proofs.Ythppkdbelmolbaa.FunP
open Go.RowKit Go.Proofs.YthppkdbelmolbaaW.PrintWords Go.Proofs.YthppkdbelmolbaaW.PrintLast Go.Proofs.Ythppkdbelmolbaa.Q Go.Proofs.Ythppkdbelmolbaa.Cal Go.Proofs.Ythppkdbelmolbaa.FunA Go.Proofs.Ythppkdbelmolbaa.FunB Go.Proofs.Ythppkdbelmolbaa.FunC Go.Proofs.Ythppkdbelmolbaa.FunD Go.Proofs.Ythppkdbelmolbaa.Fmt Go.Proofs.Ythppkdbelmolbaa.Awake7 Go.Proofs.Ythppkdbelmolbaa.FunQ Go.Proofs.Ythppkdbelmolbaa.FunN
set_option linter.unusedVariables false
set_option linter.unusedSimpArgs false

theorem ex (l : List UInt8) (i j : Nat) : (⟨l.toArray⟩ : ByteArray).extract i j = ⟨((l.take j).drop i).toArray⟩ := by
  apply ByteArray.ext
  rw [ByteArray.data_extract]
  simp [List.extract_toArray, List.extract_eq_take_drop, List.drop_take]
theorem btl (l : List UInt8) (i : Nat) (h : i < l.length) : bt ⟨l.toArray⟩ (i : Int) = ((l[i].toNat : Nat) : Int) := by
  unfold bt
  rw [dif_pos (show ((i : Int).toNat) < (⟨l.toArray⟩ : ByteArray).size by simpa [ByteArray.size] using h)]
  rfl
theorem sz (l : List UInt8) : (⟨l.toArray⟩ : ByteArray).size = l.length := by simp [ByteArray.size]
def Dig (b : UInt8) : Prop := 48 ≤ b.toNat ∧ b.toNat ≤ 57
instance (b : UInt8) : Decidable (Dig b) := by unfold Dig; infer_instance
instance (y m d : Int) : Decidable (Right y m d) := by unfold Right; infer_instance
theorem rDay_some (k : Nat) (hk : 16 ≤ k) (y m d : Int) : ∃ r, rata_Day.f k y m d = some r := by
  by_cases c : Right y m d
  · exact ⟨_, rDay_yes k hk y m d c⟩
  · exact ⟨_, rDay_no k (by omega) y m d c⟩
def dv (b : UInt8) : Int := (b.toNat : Int) - 48
theorem nst (k : Nat) (s : ByteArray) (acc n i : Int) (b : UInt8) (h : i < n) (h0 : 0 ≤ i) (hn : n = s.size) (hb : bt s i = ((b.toNat : Nat) : Int)) (ha : 0 ≤ acc) (ha' : acc ≤ 1000000) (hn' : n ≤ 1000) :
    clock_number.l0 (k + 1) s acc n i = if Dig b then clock_number.l0 k s (10 * acc + dv b) n (i + 1) else some (0, false) := by
  simp only [clock_number.l0]
  rw [if_pos h, if_pos h0, if_pos (hn ▸ h), hb]
  by_cases c : Dig b
  · obtain ⟨c1, c2⟩ := c
    rw [if_neg (by omega), if_neg (by omega), if_pos (show Dig b from ⟨c1, c2⟩)]
    have e : (((b.toNat : Nat) : Int) - 48) % 256 = dv b := by unfold dv; omega
    have d0 : 0 ≤ dv b ∧ dv b ≤ 9 := by unfold dv; omega
    rw [e, w64 (x := 10 * acc) (by omega) (by omega), w64 (by omega) (by omega), w64 (by omega) (by omega)]
  · rw [if_neg c]
    unfold Dig at c
    by_cases c1 : ((b.toNat : Nat) : Int) < 48
    · rw [if_pos c1]
    · rw [if_neg c1, if_pos (by omega)]
theorem nen (k : Nat) (s : ByteArray) (acc n : Int) : clock_number.l0 (k + 1) s acc n n = some (acc, true) := by
  simp only [clock_number.l0]
  rw [if_neg (by omega)]
theorem dv_bd {b : UInt8} (h : Dig b) : 0 ≤ dv b ∧ dv b ≤ 9 := by obtain ⟨h1, h2⟩ := h; unfold dv; omega
theorem num2 (k : Nat) (hk : 10 ≤ k) (a b : UInt8) : clock_number.f k ⟨[a, b].toArray⟩ = some (if Dig a ∧ Dig b then (10 * dv a + dv b, true) else (0, false)) := by
  obtain ⟨k, rfl⟩ : ∃ j, k = j + 9 := ⟨k - 9, by omega⟩
  unfold clock_number.f
  rw [sz]
  rw [nst (k + 8) _ 0 _ 0 a (by simp) (by omega) (by rw [sz]) (btl [a, b] 0 (by simp)) (by omega) (by omega) (by simp)]
  by_cases ca : Dig a
  · have da := dv_bd ca
    rw [if_pos ca, nst (k + 7) _ _ _ (0 + 1) b (by simp) (by omega) (by rw [sz]) (btl [a, b] 1 (by simp)) (by omega) (by omega) (by simp)]
    by_cases cb : Dig b
    · rw [if_pos cb, if_pos ⟨ca, cb⟩]
      have e := nen (k + 6) ⟨[a, b].toArray⟩ (10 * (10 * 0 + dv a) + dv b) 2
      have e2 : 10 * (10 * 0 + dv a) + dv b = 10 * dv a + dv b := by omega
      rw [e2] at e ⊢
      exact e
    · rw [if_neg cb, if_neg (fun h => cb h.2)]
  · rw [if_neg ca, if_neg (fun h => ca h.1)]
theorem num4 (k : Nat) (hk : 10 ≤ k) (a b c d : UInt8) : clock_number.f k ⟨[a, b, c, d].toArray⟩ = some (if Dig a ∧ Dig b ∧ Dig c ∧ Dig d then (1000 * dv a + 100 * dv b + 10 * dv c + dv d, true) else (0, false)) := by
  obtain ⟨k, rfl⟩ : ∃ j, k = j + 9 := ⟨k - 9, by omega⟩
  unfold clock_number.f
  rw [sz]
  rw [nst (k + 8) _ 0 _ 0 a (by simp) (by omega) (by rw [sz]) (btl [a, b, c, d] 0 (by simp)) (by omega) (by omega) (by simp)]
  by_cases ca : Dig a
  · have da := dv_bd ca
    rw [if_pos ca, nst (k + 7) _ _ _ (0 + 1) b (by simp) (by omega) (by rw [sz]) (btl [a, b, c, d] 1 (by simp)) (by omega) (by omega) (by simp)]
    by_cases cb : Dig b
    · have dB := dv_bd cb
      rw [if_pos cb, nst (k + 6) _ _ _ (0 + 1 + 1) c (by simp) (by omega) (by rw [sz]) (btl [a, b, c, d] 2 (by simp)) (by omega) (by omega) (by simp)]
      by_cases cc : Dig c
      · have dc := dv_bd cc
        rw [if_pos cc, nst (k + 5) _ _ _ (0 + 1 + 1 + 1) d (by simp) (by omega) (by rw [sz]) (btl [a, b, c, d] 3 (by simp)) (by omega) (by omega) (by simp)]
        by_cases cd : Dig d
        · rw [if_pos cd, if_pos ⟨ca, cb, cc, cd⟩]
          have e := nen (k + 4) ⟨[a, b, c, d].toArray⟩ (10 * (10 * (10 * (10 * 0 + dv a) + dv b) + dv c) + dv d) 4
          have e2 : 10 * (10 * (10 * (10 * 0 + dv a) + dv b) + dv c) + dv d = 1000 * dv a + 100 * dv b + 10 * dv c + dv d := by omega
          rw [e2] at e ⊢
          exact e
        · rw [if_neg cd, if_neg (fun h => cd h.2.2.2)]
      · rw [if_neg cc, if_neg (fun h => cc h.2.2.1)]
    · rw [if_neg cb, if_neg (fun h => cb h.2.1)]
  · rw [if_neg ca, if_neg (fun h => ca h.1)]
theorem db_eq {b : UInt8} {n p : Int} (hb : Dig b) (h : n / p % 10 = dv b) : db n p = b := by
  unfold db
  rw [h]
  obtain ⟨h1, h2⟩ := hb
  unfold dv
  have e : (48 + (((b.toNat : Nat) : Int) - 48)).toNat = b.toNat := by omega
  rw [e, UInt8.ofNat_toNat]
theorem db_nat (n p : Int) : (db n p).toNat = (48 + n / p % 10).toNat := by
  have h : 0 ≤ n / p % 10 := Int.emod_nonneg _ (by omega)
  have h' : n / p % 10 < 10 := Int.emod_lt_of_pos _ (by omega)
  unfold db
  rw [UInt8.toNat_ofNat']
  omega
theorem db_Dig (n p : Int) : Dig (db n p) := by
  have h : 0 ≤ n / p % 10 := Int.emod_nonneg _ (by omega)
  have h' : n / p % 10 < 10 := Int.emod_lt_of_pos _ (by omega)
  unfold Dig
  rw [db_nat]
  omega
theorem db_dv (n p : Int) : dv (db n p) = n / p % 10 := by
  have h : 0 ≤ n / p % 10 := Int.emod_nonneg _ (by omega)
  unfold dv
  rw [db_nat]
  omega
/-- Eight bytes read as a day. -/
theorem pd8 (k : Nat) (hk : 40 ≤ k) (b0 b1 b2 b3 b4 b5 b6 b7 : UInt8) :
    clock_ParseDate.f k ⟨[b0, b1, b2, b3, b4, b5, b6, b7].toArray⟩ = if (Dig b0 ∧ Dig b1 ∧ Dig b2 ∧ Dig b3) ∧ (Dig b4 ∧ Dig b5) ∧ (Dig b6 ∧ Dig b7) ∧ Right (1000 * dv b0 + 100 * dv b1 + 10 * dv b2 + dv b3) (10 * dv b4 + dv b5) (10 * dv b6 + dv b7) then
      some (ah (1000 * dv b0 + 100 * dv b1 + 10 * dv b2 + dv b3) + cum (lp (1000 * dv b0 + 100 * dv b1 + 10 * dv b2 + dv b3)) (10 * dv b4 + dv b5) + (10 * dv b6 + dv b7), 0) else some (0, 7) := by
  unfold clock_ParseDate.f
  simp only [sz, ex, List.length_cons, List.length_nil, List.take_succ_cons, List.take_zero, List.drop_succ_cons, List.drop_zero, Nat.reduceAdd, num2 k (by omega), num4 k (by omega), Option.bind_some]
  rw [if_pos (by omega), if_pos (by omega), if_pos (by omega), if_pos (by omega), if_pos (by omega)]
  by_cases c1 : Dig b0 ∧ Dig b1 ∧ Dig b2 ∧ Dig b3
  · rw [if_pos c1]
    by_cases c2 : Dig b4 ∧ Dig b5
    · rw [if_pos c2]
      by_cases c3 : Dig b6 ∧ Dig b7
      · rw [if_pos c3]
        by_cases c4 : Right (1000 * dv b0 + 100 * dv b1 + 10 * dv b2 + dv b3) (10 * dv b4 + dv b5) (10 * dv b6 + dv b7)
        · rw [if_pos ⟨c1, c2, c3, c4⟩]
          simp only [rDay_yes k (by omega) _ _ _ c4, Option.bind_some, if_true]
        · rw [if_neg (fun h => c4 h.2.2.2)]
          simp only [rDay_no k (by omega) _ _ _ c4, Option.bind_some, if_true]
          simp
      · rw [if_neg (show ¬ ((Dig b0 ∧ Dig b1 ∧ Dig b2 ∧ Dig b3) ∧ (Dig b4 ∧ Dig b5) ∧ (Dig b6 ∧ Dig b7) ∧ Right (1000 * dv b0 + 100 * dv b1 + 10 * dv b2 + dv b3) (10 * dv b4 + dv b5) (10 * dv b6 + dv b7)) from fun h => c3 h.2.2.1), if_neg c3]
        obtain ⟨r, e⟩ := rDay_some k (by omega) (1000 * dv b0 + 100 * dv b1 + 10 * dv b2 + dv b3) (10 * dv b4 + dv b5) 0
        simp [e]
    · rw [if_neg (show ¬ ((Dig b0 ∧ Dig b1 ∧ Dig b2 ∧ Dig b3) ∧ (Dig b4 ∧ Dig b5) ∧ (Dig b6 ∧ Dig b7) ∧ Right (1000 * dv b0 + 100 * dv b1 + 10 * dv b2 + dv b3) (10 * dv b4 + dv b5) (10 * dv b6 + dv b7)) from fun h => c2 h.2.1), if_neg c2]
      simp only []
      obtain ⟨r, e⟩ := rDay_some k (by omega) (1000 * dv b0 + 100 * dv b1 + 10 * dv b2 + dv b3) 0 (if Dig b6 ∧ Dig b7 then (10 * dv b6 + dv b7, true) else (0, false)).1
      simp [e]
  · rw [if_neg (show ¬ ((Dig b0 ∧ Dig b1 ∧ Dig b2 ∧ Dig b3) ∧ (Dig b4 ∧ Dig b5) ∧ (Dig b6 ∧ Dig b7) ∧ Right (1000 * dv b0 + 100 * dv b1 + 10 * dv b2 + dv b3) (10 * dv b4 + dv b5) (10 * dv b6 + dv b7)) from fun h => c1 h.1), if_neg c1]
    obtain ⟨r, e⟩ := rDay_some k (by omega) 0 (if Dig b4 ∧ Dig b5 then (10 * dv b4 + dv b5, true) else (0, false)).1 (if Dig b6 ∧ Dig b7 then (10 * dv b6 + dv b7, true) else (0, false)).1
    simp [e]
theorem list8 (l : List UInt8) (h : l.length = 8) : ∃ b0 b1 b2 b3 b4 b5 b6 b7, l = [b0, b1, b2, b3, b4, b5, b6, b7] := by
  match l, h with
  | [b0, b1, b2, b3, b4, b5, b6, b7], _ => exact ⟨b0, b1, b2, b3, b4, b5, b6, b7, rfl⟩
theorem list15 (l : List UInt8) (h : l.length = 15) : ∃ b0 b1 b2 b3 b4 b5 b6 b7 b8 b9 b10 b11 b12 b13 b14, l = [b0, b1, b2, b3, b4, b5, b6, b7, b8, b9, b10, b11, b12, b13, b14] := by
  match l, h with
  | [b0, b1, b2, b3, b4, b5, b6, b7, b8, b9, b10, b11, b12, b13, b14], _ => exact ⟨b0, b1, b2, b3, b4, b5, b6, b7, b8, b9, b10, b11, b12, b13, b14, rfl⟩
theorem ofL (s : ByteArray) : s = ⟨s.data.toList.toArray⟩ := by cases s; simp
theorem bytes8 {b0 b1 b2 b3 b4 b5 b6 b7 : UInt8} (h : (Dig b0 ∧ Dig b1 ∧ Dig b2 ∧ Dig b3) ∧ (Dig b4 ∧ Dig b5) ∧ (Dig b6 ∧ Dig b7)) :
    [b0, b1, b2, b3, b4, b5, b6, b7] = dateBytes (1000 * dv b0 + 100 * dv b1 + 10 * dv b2 + dv b3) (10 * dv b4 + dv b5) (10 * dv b6 + dv b7) := by
  obtain ⟨⟨h0, h1, h2, h3⟩, ⟨h4, h5⟩, h6, h7⟩ := h
  have a0 := dv_bd h0; have a1 := dv_bd h1; have a2 := dv_bd h2; have a3 := dv_bd h3; have a4 := dv_bd h4; have a5 := dv_bd h5; have a6 := dv_bd h6; have a7 := dv_bd h7
  unfold dateBytes
  rw [db_eq h0 (by omega), db_eq h1 (by omega), db_eq h2 (by omega), db_eq h3 (by omega), db_eq h4 (by omega), db_eq h5 (by omega), db_eq h6 (by omega), db_eq h7 (by omega)]
theorem pDate (k : Nat) (hk : 40 ≤ k) (s : ByteArray) : clock_ParseDate.f k s = some (0, 7) ∨ ∃ y m d, Right y m d ∧ s = ⟨(dateBytes y m d).toArray⟩ ∧ clock_ParseDate.f k s = some (ah y + cum (lp y) m + d, 0) := by
  by_cases c : s.data.toList.length = 8
  · obtain ⟨b0, b1, b2, b3, b4, b5, b6, b7, e⟩ := list8 _ c
    have es := ofL s
    rw [e] at es
    rw [es, pd8 k hk]
    split
    · rename_i h
      right
      refine ⟨_, _, _, h.2.2.2, ?_, rfl⟩
      rw [← bytes8 ⟨h.1, h.2.1, h.2.2.1⟩]
    · left; rfl
  · left
    unfold clock_ParseDate.f
    have : ¬ (s.size : Int) = 8 := by
      intro h
      apply c
      have : s.size = s.data.toList.length := by rw [← sz, ← ofL]
      omega
    rw [if_neg this]
theorem pDateOf (k : Nat) (hk : 40 ≤ k) (y m d : Int) (h : Right y m d) : clock_ParseDate.f k ⟨(dateBytes y m d).toArray⟩ = some (ah y + cum (lp y) m + d, 0) := by
  have hm := dim_pos (lp y) m (by have := h.2.2; omega)
  have hdl := dim_lo (lp y) m (lp_01 y) hm.1 hm.2
  have q := h
  obtain ⟨q1, q2, q3, q4⟩ := q
  unfold dateBytes
  rw [pd8 k hk]
  simp only [db_dv]
  have e1 : 1000 * (y / 1000 % 10) + 100 * (y / 100 % 10) + 10 * (y / 10 % 10) + y / 1 % 10 = y := by omega
  have e2 : 10 * (m / 10 % 10) + m / 1 % 10 = m := by omega
  have e3 : 10 * (d / 10 % 10) + d / 1 % 10 = d := by omega
  rw [e1, e2, e3, if_pos ⟨⟨db_Dig _ _, db_Dig _ _, db_Dig _ _, db_Dig _ _⟩, ⟨db_Dig _ _, db_Dig _ _⟩, ⟨db_Dig _ _, db_Dig _ _⟩, h⟩]
theorem cAt_some (day s : Int) : ∃ r, clock_At.f day s = some r := by
  by_cases c : In day ∧ 0 ≤ s ∧ s < 86400
  · exact ⟨_, cAt_yes c.1 c.2.1 c.2.2⟩
  · exact ⟨_, cAt_no c⟩
/-- Fifteen bytes read as seconds: what stands of the time. -/
theorem pj (k : Nat) (hk : 40 ≤ k) (b0 b1 b2 b3 b4 b5 b6 b7 b8 b9 b10 b11 b12 b13 b14 : UInt8) (n e : Int) (hp : clock_ParseDate.f k ⟨[b0, b1, b2, b3, b4, b5, b6, b7].toArray⟩ = some (n, e)) (hn : e = 0 → In n) :
    clock_Parse.j0 (k + 1) ⟨[b0, b1, b2, b3, b4, b5, b6, b7, b8, b9, b10, b11, b12, b13, b14].toArray⟩ false =
      if e = 0 ∧ (Dig b9 ∧ Dig b10) ∧ (Dig b11 ∧ Dig b12) ∧ (Dig b13 ∧ Dig b14) ∧ 10 * dv b9 + dv b10 ≤ 23 ∧ 10 * dv b11 + dv b12 ≤ 59 ∧ 10 * dv b13 + dv b14 ≤ 59 then
        some (86400 * n + (3600 * (10 * dv b9 + dv b10) + 60 * (10 * dv b11 + dv b12) + (10 * dv b13 + dv b14)), 0) else some (0, 7) := by
  simp only [clock_Parse.j0]
  simp only [sz, ex, List.length_cons, List.length_nil, List.take_succ_cons, List.take_zero, List.drop_succ_cons, List.drop_zero, Nat.reduceAdd, num2 k (by omega), hp, Option.bind_some]
  rw [if_neg (by simp), if_pos (by omega), if_pos (by omega), if_pos (by omega), if_pos (by omega), if_pos (by omega), if_pos (by omega)]
  by_cases c0 : e = 0
  · rw [if_pos c0]
    by_cases c1 : Dig b9 ∧ Dig b10
    · by_cases c2 : Dig b11 ∧ Dig b12
      · by_cases c3 : Dig b13 ∧ Dig b14
        · have a1 := dv_bd c1.1; have a2 := dv_bd c1.2; have a3 := dv_bd c2.1; have a4 := dv_bd c2.2; have a5 := dv_bd c3.1; have a6 := dv_bd c3.2
          rw [if_pos c1, if_pos c2, if_pos c3]
          simp only [if_true]
          by_cases c4 : 10 * dv b9 + dv b10 ≤ 23
          · rw [if_neg (by omega)]
            by_cases c5 : 10 * dv b11 + dv b12 ≤ 59
            · rw [if_neg (by omega)]
              by_cases c6 : 10 * dv b13 + dv b14 ≤ 59
              · rw [if_neg (by omega), if_pos ⟨c0, c1, c2, c3, c4, c5, c6⟩, w64 (x := 3600 * _) (by omega) (by omega), w64 (x := 60 * _) (by omega) (by omega), w64 (x := 3600 * (10 * dv b9 + dv b10) + 60 * (10 * dv b11 + dv b12)) (by omega) (by omega), w64 (by omega) (by omega), cAt_yes (hn c0) (by omega) (by omega), Option.bind_some]
              · rw [if_pos (by omega), if_neg (fun h => c6 h.2.2.2.2.2.2)]
            · rw [if_pos (by omega), if_neg (fun h => c5 h.2.2.2.2.2.1)]
          · rw [if_pos (by omega), if_neg (fun h => c4 h.2.2.2.2.1)]
        · rw [if_neg (fun h => c3 h.2.2.2.1 : ¬ (e = 0 ∧ (Dig b9 ∧ Dig b10) ∧ (Dig b11 ∧ Dig b12) ∧ (Dig b13 ∧ Dig b14) ∧ 10 * dv b9 + dv b10 ≤ 23 ∧ 10 * dv b11 + dv b12 ≤ 59 ∧ 10 * dv b13 + dv b14 ≤ 59)), if_neg c3]
          simp
      · rw [if_neg (fun h => c2 h.2.2.1 : ¬ (e = 0 ∧ (Dig b9 ∧ Dig b10) ∧ (Dig b11 ∧ Dig b12) ∧ (Dig b13 ∧ Dig b14) ∧ 10 * dv b9 + dv b10 ≤ 23 ∧ 10 * dv b11 + dv b12 ≤ 59 ∧ 10 * dv b13 + dv b14 ≤ 59)), if_neg c2]
        simp
    · rw [if_neg (fun h => c1 h.2.1 : ¬ (e = 0 ∧ (Dig b9 ∧ Dig b10) ∧ (Dig b11 ∧ Dig b12) ∧ (Dig b13 ∧ Dig b14) ∧ 10 * dv b9 + dv b10 ≤ 23 ∧ 10 * dv b11 + dv b12 ≤ 59 ∧ 10 * dv b13 + dv b14 ≤ 59)), if_neg c1]
      simp
  · rw [if_neg c0, if_neg (fun h => c0 h.1)]
theorem bytes15 {y m d : Int} {b9 b10 b11 b12 b13 b14 : UInt8} (c1 : Dig b9 ∧ Dig b10) (c2 : Dig b11 ∧ Dig b12) (c3 : Dig b13 ∧ Dig b14) (c4 : 10 * dv b9 + dv b10 ≤ 23) (c5 : 10 * dv b11 + dv b12 ≤ 59) (c6 : 10 * dv b13 + dv b14 ≤ 59) :
    dateBytes y m d ++ [84, b9, b10, b11, b12, b13, b14] = timeBytes y m d (3600 * (10 * dv b9 + dv b10) + 60 * (10 * dv b11 + dv b12) + (10 * dv b13 + dv b14)) := by
  have a1 := dv_bd c1.1; have a2 := dv_bd c1.2; have a3 := dv_bd c2.1; have a4 := dv_bd c2.2; have a5 := dv_bd c3.1; have a6 := dv_bd c3.2
  have e1 : (3600 * (10 * dv b9 + dv b10) + 60 * (10 * dv b11 + dv b12) + (10 * dv b13 + dv b14)) / 3600 = 10 * dv b9 + dv b10 := by omega
  have e2 : (3600 * (10 * dv b9 + dv b10) + 60 * (10 * dv b11 + dv b12) + (10 * dv b13 + dv b14)) / 60 % 60 = 10 * dv b11 + dv b12 := by omega
  have e3 : (3600 * (10 * dv b9 + dv b10) + 60 * (10 * dv b11 + dv b12) + (10 * dv b13 + dv b14)) % 60 = 10 * dv b13 + dv b14 := by omega
  unfold timeBytes
  rw [e1, e2, e3, db_eq c1.1 (by omega), db_eq c1.2 (by omega), db_eq c2.1 (by omega), db_eq c2.2 (by omega), db_eq c3.1 (by omega), db_eq c3.2 (by omega)]
  simp
theorem jno (k : Nat) (s : ByteArray) : clock_Parse.j0 (k + 1) s true = some (0, 7) := by
  simp only [clock_Parse.j0]
  rfl
theorem pTime (k : Nat) (hk : 50 ≤ k) (s : ByteArray) : clock_Parse.f k s = some (0, 7) ∨ ∃ y m d t, Right y m d ∧ 0 ≤ t ∧ t < 86400 ∧ s = ⟨(timeBytes y m d t).toArray⟩ ∧ clock_Parse.f k s = some (86400 * (ah y + cum (lp y) m + d) + t, 0) := by
  obtain ⟨k, rfl⟩ : ∃ j, k = j + 1 := ⟨k - 1, by omega⟩
  unfold clock_Parse.f
  have hs : s.size = s.data.toList.length := by rw [← sz, ← ofL]
  by_cases c : s.data.toList.length = 15
  · obtain ⟨b0, b1, b2, b3, b4, b5, b6, b7, b8, b9, b10, b11, b12, b13, b14, e⟩ := list15 _ c
    have es := ofL s
    rw [e] at es
    rw [if_pos (by omega), if_pos (by omega)]
    by_cases c8 : b8 = 84
    · subst c8
      have hb : (bt s 8 != 84) = false := by
        rw [es, show (8 : Int) = ((8 : Nat) : Int) from rfl, btl _ 8 (by simp)]
        rfl
      rw [hb, es]
      rcases pDate k (by omega) ⟨[b0, b1, b2, b3, b4, b5, b6, b7].toArray⟩ with hp | ⟨y, m, d, hr, hb8, hp⟩
      · rw [pj k (by omega) _ _ _ _ _ _ _ _ _ _ _ _ _ _ _ _ _ hp (by omega)]
        left
        rw [if_neg (by omega)]
      · rw [pj k (by omega) _ _ _ _ _ _ _ _ _ _ _ _ _ _ _ _ _ hp (fun _ => right_in hr)]
        split
        · rename_i h
          obtain ⟨_, c1, c2, c3, c4, c5, c6⟩ := h
          have a1 := dv_bd c1.1; have a2 := dv_bd c1.2; have a3 := dv_bd c2.1; have a4 := dv_bd c2.2; have a5 := dv_bd c3.1; have a6 := dv_bd c3.2
          right
          refine ⟨y, m, d, _, hr, ?_, ?_, ?_, rfl⟩
          · omega
          · omega
          · rw [← bytes15 c1 c2 c3 c4 c5 c6]
            have e8 : [b0, b1, b2, b3, b4, b5, b6, b7] = dateBytes y m d := by
              have := congrArg (fun z : ByteArray => z.data.toList) hb8
              simpa using this
            rw [← e8]
            rfl
        · left; rfl
    · have hb : (bt s 8 != 84) = true := by
        rw [es, show (8 : Int) = ((8 : Nat) : Int) from rfl, btl _ 8 (by simp)]
        show ((((b8.toNat : Nat) : Int)) != 84) = true
        rw [bne_iff_ne]
        intro h
        apply c8
        apply UInt8.toNat_inj.mp
        show b8.toNat = 84
        omega
      rw [hb]
      left
      exact jno k s
  · rw [if_neg (by omega)]
    left
    exact jno k s
theorem pTimeOf (k : Nat) (hk : 50 ≤ k) (y m d t : Int) (h : Right y m d) (h0 : 0 ≤ t) (h1 : t < 86400) : clock_Parse.f k ⟨(timeBytes y m d t).toArray⟩ = some (86400 * (ah y + cum (lp y) m + d) + t, 0) := by
  obtain ⟨k, rfl⟩ : ∃ j, k = j + 1 := ⟨k - 1, by omega⟩
  have hp := pDateOf k (by omega) y m d h
  unfold clock_Parse.f
  have e : timeBytes y m d t = [db y 1000, db y 100, db y 10, db y 1, db m 10, db m 1, db d 10, db d 1, 84, db (t / 3600) 10, db (t / 3600) 1, db (t / 60 % 60) 10, db (t / 60 % 60) 1, db (t % 60) 10, db (t % 60) 1] := rfl
  rw [e]
  have hb : (bt ⟨[db y 1000, db y 100, db y 10, db y 1, db m 10, db m 1, db d 10, db d 1, 84, db (t / 3600) 10, db (t / 3600) 1, db (t / 60 % 60) 10, db (t / 60 % 60) 1, db (t % 60) 10, db (t % 60) 1].toArray⟩ 8 != 84) = false := by
    rw [show (8 : Int) = ((8 : Nat) : Int) from rfl, btl _ 8 (by simp)]
    rfl
  rw [hb, sz, if_pos (by simp), if_pos (by simp), pj k (by omega) _ _ _ _ _ _ _ _ _ _ _ _ _ _ _ _ _ hp (fun _ => right_in h)]
  simp only [db_dv]
  have e1 : 10 * (t / 3600 / 10 % 10) + t / 3600 / 1 % 10 = t / 3600 := by omega
  have e2 : 10 * (t / 60 % 60 / 10 % 10) + t / 60 % 60 / 1 % 10 = t / 60 % 60 := by omega
  have e3 : 10 * (t % 60 / 10 % 10) + t % 60 / 1 % 10 = t % 60 := by omega
  rw [e1, e2, e3, if_pos ⟨trivial, ⟨db_Dig _ _, db_Dig _ _⟩, ⟨db_Dig _ _, db_Dig _ _⟩, ⟨db_Dig _ _, db_Dig _ _⟩, by omega, by omega, by omega⟩]
  have e4 : 3600 * (t / 3600) + 60 * (t / 60 % 60) + t % 60 = t := by omega
  rw [e4]
end Go.Proofs.Ythppkdbelmolbaa.FunP
