/- Texts of this claim, merged: FunP, QnumV, Bytes, Zone, PureValueTimes. -/
import Derived.Test.YthppkdbelmolbaaDoorMgValueTimes16
import Derived.Test.YthppkdbelmolbaaDoorMgValueTimes5
import Derived.Test.YthppkdbelmolbaaDoorMgValueTimes1
import Derived.Test.YthppkdbelmolbaaDoorMgValueTimes9
import Derived.Test.YthppkdbelmolbaaDoorMgValueTimes14
import Derived.Test.YthppkdbelmolbaaDoorMgValueTimes15
/- What clock.number, ParseDate and Parse answer to bytes: just the dates and times that are written so are read. -/
namespace Go.Proofs.YthppkdbelmolbaaDoor.FunP
open Go.RowKit Go.Proofs.YthppkdbelmolbaaDoorW.PrintWords Go.Proofs.YthppkdbelmolbaaDoorW.PrintLast Go.Proofs.YthppkdbelmolbaaDoor.Q Go.Proofs.YthppkdbelmolbaaDoor.Cal Go.Proofs.YthppkdbelmolbaaDoor.FunA Go.Proofs.YthppkdbelmolbaaDoor.FunB Go.Proofs.YthppkdbelmolbaaDoor.FunC Go.Proofs.YthppkdbelmolbaaDoor.FunD Go.Proofs.YthppkdbelmolbaaDoor.Fmt Go.Proofs.YthppkdbelmolbaaDoor.Awake7 Go.Proofs.YthppkdbelmolbaaDoor.FunQ Go.Proofs.YthppkdbelmolbaaDoor.FunN
set_option linter.unusedVariables false
set_option linter.unusedSimpArgs false
theorem ex (l : List UInt8) (i j : Nat) : (⟨l.toArray⟩ : ByteArray).extract i j = ⟨((l.take j).drop i).toArray⟩ := by
 apply ByteArray.ext
 rw [ByteArray.data_extract]
 simp [List.extract_toArray, List.extract_eq_take_drop, List.drop_take]
theorem btl (l : List UInt8) (i : Nat) (h : i < l.length) : bt ⟨l.toArray⟩ (i : Int) = ((l[i].toNat : Nat) : Int) := by
 unfold bt
 rw [dif_pos (show ((i : Int).toNat) < (⟨l.toArray⟩ : ByteArray).size by simpa [ByteArray.size] using h)]
 rfl
theorem sz (l : List UInt8) : (⟨l.toArray⟩ : ByteArray).size = l.length := by simp [ByteArray.size]
def Dig (b : UInt8) : Prop := 48 ≤ b.toNat ∧ b.toNat ≤ 57
instance (b : UInt8) : Decidable (Dig b) := by unfold Dig; infer_instance
instance (y m d : Int) : Decidable (Right y m d) := by unfold Right; infer_instance
theorem rDay_some (k : Nat) (hk : 16 ≤ k) (y m d : Int) : ∃ r, rata_Day.f k y m d = some r := by
 by_cases c : Right y m d
 ·exact ⟨_, rDay_yes k hk y m d c⟩
 ·exact ⟨_, rDay_no k (by omega) y m d c⟩
def dv (b : UInt8) : Int := (b.toNat : Int) - 48
theorem nst (k : Nat) (s : ByteArray) (acc n i : Int) (b : UInt8) (h : i < n) (h0 : 0 ≤ i) (hn : n = s.size) (hb : bt s i = ((b.toNat : Nat) : Int)) (ha : 0 ≤ acc) (ha' : acc ≤ 1000000) (hn' : n ≤ 1000) :
  clock_number.l0 (k + 1) s acc n i = if Dig b then clock_number.l0 k s (10 * acc + dv b) n (i + 1) else some (0, false) := by
 simp only [clock_number.l0]
 rw [if_pos h, if_pos h0, if_pos (hn ▸ h), hb]
 by_cases c : Dig b
 ·obtain ⟨c1, c2⟩ := c
  rw [if_neg (by omega), if_neg (by omega), if_pos (show Dig b from ⟨c1, c2⟩)]
  have e : (((b.toNat : Nat) : Int) - 48) % 256 = dv b := by unfold dv; omega
  have d0 : 0 ≤ dv b ∧ dv b ≤ 9 := by unfold dv; omega
  rw [e, w64 (x := 10 * acc) (by omega) (by omega), w64 (by omega) (by omega), w64 (by omega) (by omega)]
 ·rw [if_neg c]
  unfold Dig at c
  by_cases c1 : ((b.toNat : Nat) : Int) < 48
  ·rw [if_pos c1]
  ·rw [if_neg c1, if_pos (by omega)]
theorem nen (k : Nat) (s : ByteArray) (acc n : Int) : clock_number.l0 (k + 1) s acc n n = some (acc, true) := by
 simp only [clock_number.l0]
 rw [if_neg (by omega)]
theorem dv_bd {b : UInt8} (h : Dig b) : 0 ≤ dv b ∧ dv b ≤ 9 := by obtain ⟨h1, h2⟩ := h; unfold dv; omega
theorem num2 (k : Nat) (hk : 10 ≤ k) (a b : UInt8) : clock_number.f k ⟨[a, b].toArray⟩ = some (if Dig a ∧ Dig b then (10 * dv a + dv b, true) else (0, false)) := by
 obtain ⟨k, rfl⟩ : ∃ j, k = j + 9 := ⟨k - 9, by omega⟩
 unfold clock_number.f
 rw [sz]
 rw [nst (k + 8) _ 0 _ 0 a (by simp) (by omega) (by rw [sz]) (btl [a, b] 0 (by simp)) (by omega) (by omega) (by simp)]
 by_cases ca : Dig a
 ·have da := dv_bd ca
  rw [if_pos ca, nst (k + 7) _ _ _ (0 + 1) b (by simp) (by omega) (by rw [sz]) (btl [a, b] 1 (by simp)) (by omega) (by omega) (by simp)]
  by_cases cb : Dig b
  ·rw [if_pos cb, if_pos ⟨ca, cb⟩]
   have e := nen (k + 6) ⟨[a, b].toArray⟩ (10 * (10 * 0 + dv a) + dv b) 2
   have e2 : 10 * (10 * 0 + dv a) + dv b = 10 * dv a + dv b := by omega
   rw [e2] at e ⊢
   exact e
  ·rw [if_neg cb, if_neg (fun h => cb h.2)]
 ·rw [if_neg ca, if_neg (fun h => ca h.1)]
theorem num4 (k : Nat) (hk : 10 ≤ k) (a b c d : UInt8) : clock_number.f k ⟨[a, b, c, d].toArray⟩ = some (if Dig a ∧ Dig b ∧ Dig c ∧ Dig d then (1000 * dv a + 100 * dv b + 10 * dv c + dv d, true) else (0, false)) := by
 obtain ⟨k, rfl⟩ : ∃ j, k = j + 9 := ⟨k - 9, by omega⟩
 unfold clock_number.f
 rw [sz]
 rw [nst (k + 8) _ 0 _ 0 a (by simp) (by omega) (by rw [sz]) (btl [a, b, c, d] 0 (by simp)) (by omega) (by omega) (by simp)]
 by_cases ca : Dig a
 ·have da := dv_bd ca
  rw [if_pos ca, nst (k + 7) _ _ _ (0 + 1) b (by simp) (by omega) (by rw [sz]) (btl [a, b, c, d] 1 (by simp)) (by omega) (by omega) (by simp)]
  by_cases cb : Dig b
  ·have dB := dv_bd cb
   rw [if_pos cb, nst (k + 6) _ _ _ (0 + 1 + 1) c (by simp) (by omega) (by rw [sz]) (btl [a, b, c, d] 2 (by simp)) (by omega) (by omega) (by simp)]
   by_cases cc : Dig c
   ·have dc := dv_bd cc
    rw [if_pos cc, nst (k + 5) _ _ _ (0 + 1 + 1 + 1) d (by simp) (by omega) (by rw [sz]) (btl [a, b, c, d] 3 (by simp)) (by omega) (by omega) (by simp)]
    by_cases cd : Dig d
    ·rw [if_pos cd, if_pos ⟨ca, cb, cc, cd⟩]
     have e := nen (k + 4) ⟨[a, b, c, d].toArray⟩ (10 * (10 * (10 * (10 * 0 + dv a) + dv b) + dv c) + dv d) 4
     have e2 : 10 * (10 * (10 * (10 * 0 + dv a) + dv b) + dv c) + dv d = 1000 * dv a + 100 * dv b + 10 * dv c + dv d := by omega
     rw [e2] at e ⊢
     exact e
    ·rw [if_neg cd, if_neg (fun h => cd h.2.2.2)]
   ·rw [if_neg cc, if_neg (fun h => cc h.2.2.1)]
  ·rw [if_neg cb, if_neg (fun h => cb h.2.1)]
 ·rw [if_neg ca, if_neg (fun h => ca h.1)]
theorem db_nat (n p : Int) : (db n p).toNat = (48 + n / p % 10).toNat := by
 have h : 0 ≤ n / p % 10 := Int.emod_nonneg _ (by omega)
 have h' : n / p % 10 < 10 := Int.emod_lt_of_pos _ (by omega)
 unfold db
 rw [UInt8.toNat_ofNat']
 omega
theorem db_Dig (n p : Int) : Dig (db n p) := by
 have h : 0 ≤ n / p % 10 := Int.emod_nonneg _ (by omega)
 have h' : n / p % 10 < 10 := Int.emod_lt_of_pos _ (by omega)
 unfold Dig
 rw [db_nat]
 omega
theorem db_dv (n p : Int) : dv (db n p) = n / p % 10 := by
 have h : 0 ≤ n / p % 10 := Int.emod_nonneg _ (by omega)
 unfold dv
 rw [db_nat]
 omega
/-- Eight bytes read as a day. -/
theorem pd8 (k : Nat) (hk : 40 ≤ k) (b0 b1 b2 b3 b4 b5 b6 b7 : UInt8) :
  clock_ParseDate.f k ⟨[b0, b1, b2, b3, b4, b5, b6, b7].toArray⟩ = if (Dig b0 ∧ Dig b1 ∧ Dig b2 ∧ Dig b3) ∧ (Dig b4 ∧ Dig b5) ∧ (Dig b6 ∧ Dig b7) ∧ Right (1000 * dv b0 + 100 * dv b1 + 10 * dv b2 + dv b3) (10 * dv b4 + dv b5) (10 * dv b6 + dv b7) then
   some (ah (1000 * dv b0 + 100 * dv b1 + 10 * dv b2 + dv b3) + cum (lp (1000 * dv b0 + 100 * dv b1 + 10 * dv b2 + dv b3)) (10 * dv b4 + dv b5) + (10 * dv b6 + dv b7), 0) else some (0, 7) := by
 unfold clock_ParseDate.f
 simp only [sz, ex, List.length_cons, List.length_nil, List.take_succ_cons, List.take_zero, List.drop_succ_cons, List.drop_zero, Nat.reduceAdd, num2 k (by omega), num4 k (by omega), Option.bind_some]
 rw [if_pos (by omega), if_pos (by omega), if_pos (by omega), if_pos (by omega), if_pos (by omega)]
 by_cases c1 : Dig b0 ∧ Dig b1 ∧ Dig b2 ∧ Dig b3
 ·rw [if_pos c1]
  by_cases c2 : Dig b4 ∧ Dig b5
  ·rw [if_pos c2]
   by_cases c3 : Dig b6 ∧ Dig b7
   ·rw [if_pos c3]
    by_cases c4 : Right (1000 * dv b0 + 100 * dv b1 + 10 * dv b2 + dv b3) (10 * dv b4 + dv b5) (10 * dv b6 + dv b7)
    ·rw [if_pos ⟨c1, c2, c3, c4⟩]
     simp only [rDay_yes k (by omega) _ _ _ c4, Option.bind_some, if_true]
    ·rw [if_neg (fun h => c4 h.2.2.2)]
     simp only [rDay_no k (by omega) _ _ _ c4, Option.bind_some, if_true]
     simp
   ·rw [if_neg (show ¬ ((Dig b0 ∧ Dig b1 ∧ Dig b2 ∧ Dig b3) ∧ (Dig b4 ∧ Dig b5) ∧ (Dig b6 ∧ Dig b7) ∧ Right (1000 * dv b0 + 100 * dv b1 + 10 * dv b2 + dv b3) (10 * dv b4 + dv b5) (10 * dv b6 + dv b7)) from fun h => c3 h.2.2.1), if_neg c3]
    obtain ⟨r, e⟩ := rDay_some k (by omega) (1000 * dv b0 + 100 * dv b1 + 10 * dv b2 + dv b3) (10 * dv b4 + dv b5) 0
    simp [e]
  ·rw [if_neg (show ¬ ((Dig b0 ∧ Dig b1 ∧ Dig b2 ∧ Dig b3) ∧ (Dig b4 ∧ Dig b5) ∧ (Dig b6 ∧ Dig b7) ∧ Right (1000 * dv b0 + 100 * dv b1 + 10 * dv b2 + dv b3) (10 * dv b4 + dv b5) (10 * dv b6 + dv b7)) from fun h => c2 h.2.1), if_neg c2]
   simp only []
   obtain ⟨r, e⟩ := rDay_some k (by omega) (1000 * dv b0 + 100 * dv b1 + 10 * dv b2 + dv b3) 0 (if Dig b6 ∧ Dig b7 then (10 * dv b6 + dv b7, true) else (0, false)).1
   simp [e]
 ·rw [if_neg (show ¬ ((Dig b0 ∧ Dig b1 ∧ Dig b2 ∧ Dig b3) ∧ (Dig b4 ∧ Dig b5) ∧ (Dig b6 ∧ Dig b7) ∧ Right (1000 * dv b0 + 100 * dv b1 + 10 * dv b2 + dv b3) (10 * dv b4 + dv b5) (10 * dv b6 + dv b7)) from fun h => c1 h.1), if_neg c1]
  obtain ⟨r, e⟩ := rDay_some k (by omega) 0 (if Dig b4 ∧ Dig b5 then (10 * dv b4 + dv b5, true) else (0, false)).1 (if Dig b6 ∧ Dig b7 then (10 * dv b6 + dv b7, true) else (0, false)).1
  simp [e]
theorem ofL (s : ByteArray) : s = ⟨s.data.toList.toArray⟩ := by cases s; simp
theorem pDateOf (k : Nat) (hk : 40 ≤ k) (y m d : Int) (h : Right y m d) : clock_ParseDate.f k ⟨(dateBytes y m d).toArray⟩ = some (ah y + cum (lp y) m + d, 0) := by
 have hm := dim_pos (lp y) m (by have := h.2.2; omega)
 have hdl := dim_lo (lp y) m (lp_01 y) hm.1 hm.2
 have q := h
 obtain ⟨q1, q2, q3, q4⟩ := q
 unfold dateBytes
 rw [pd8 k hk]
 simp only [db_dv]
 have e1 : 1000 * (y / 1000 % 10) + 100 * (y / 100 % 10) + 10 * (y / 10 % 10) + y / 1 % 10 = y := by omega
 have e2 : 10 * (m / 10 % 10) + m / 1 % 10 = m := by omega
 have e3 : 10 * (d / 10 % 10) + d / 1 % 10 = d := by omega
 rw [e1, e2, e3, if_pos ⟨⟨db_Dig _ _, db_Dig _ _, db_Dig _ _, db_Dig _ _⟩, ⟨db_Dig _ _, db_Dig _ _⟩, ⟨db_Dig _ _, db_Dig _ _⟩, h⟩]
/-- Fifteen bytes read as seconds: what stands of the time. -/
theorem pj (k : Nat) (hk : 40 ≤ k) (b0 b1 b2 b3 b4 b5 b6 b7 b8 b9 b10 b11 b12 b13 b14 : UInt8) (n e : Int) (hp : clock_ParseDate.f k ⟨[b0, b1, b2, b3, b4, b5, b6, b7].toArray⟩ = some (n, e)) (hn : e = 0 → In n) :
  clock_Parse.j0 (k + 1) ⟨[b0, b1, b2, b3, b4, b5, b6, b7, b8, b9, b10, b11, b12, b13, b14].toArray⟩ false =
   if e = 0 ∧ (Dig b9 ∧ Dig b10) ∧ (Dig b11 ∧ Dig b12) ∧ (Dig b13 ∧ Dig b14) ∧ 10 * dv b9 + dv b10 ≤ 23 ∧ 10 * dv b11 + dv b12 ≤ 59 ∧ 10 * dv b13 + dv b14 ≤ 59 then
    some (86400 * n + (3600 * (10 * dv b9 + dv b10) + 60 * (10 * dv b11 + dv b12) + (10 * dv b13 + dv b14)), 0) else some (0, 7) := by
 simp only [clock_Parse.j0]
 simp only [sz, ex, List.length_cons, List.length_nil, List.take_succ_cons, List.take_zero, List.drop_succ_cons, List.drop_zero, Nat.reduceAdd, num2 k (by omega), hp, Option.bind_some]
 rw [if_neg (by simp), if_pos (by omega), if_pos (by omega), if_pos (by omega), if_pos (by omega), if_pos (by omega), if_pos (by omega)]
 by_cases c0 : e = 0
 ·rw [if_pos c0]
  by_cases c1 : Dig b9 ∧ Dig b10
  ·by_cases c2 : Dig b11 ∧ Dig b12
   ·by_cases c3 : Dig b13 ∧ Dig b14
    ·have a1 := dv_bd c1.1; have a2 := dv_bd c1.2; have a3 := dv_bd c2.1; have a4 := dv_bd c2.2; have a5 := dv_bd c3.1; have a6 := dv_bd c3.2
     rw [if_pos c1, if_pos c2, if_pos c3]
     simp only [if_true]
     by_cases c4 : 10 * dv b9 + dv b10 ≤ 23
     ·rw [if_neg (by omega)]
      by_cases c5 : 10 * dv b11 + dv b12 ≤ 59
      ·rw [if_neg (by omega)]
       by_cases c6 : 10 * dv b13 + dv b14 ≤ 59
       ·rw [if_neg (by omega), if_pos ⟨c0, c1, c2, c3, c4, c5, c6⟩, w64 (x := 3600 * _) (by omega) (by omega), w64 (x := 60 * _) (by omega) (by omega), w64 (x := 3600 * (10 * dv b9 + dv b10) + 60 * (10 * dv b11 + dv b12)) (by omega) (by omega), w64 (by omega) (by omega), cAt_yes (hn c0) (by omega) (by omega), Option.bind_some]
       ·rw [if_pos (by omega), if_neg (fun h => c6 h.2.2.2.2.2.2)]
      ·rw [if_pos (by omega), if_neg (fun h => c5 h.2.2.2.2.2.1)]
     ·rw [if_pos (by omega), if_neg (fun h => c4 h.2.2.2.2.1)]
    ·rw [if_neg (fun h => c3 h.2.2.2.1 : ¬ (e = 0 ∧ (Dig b9 ∧ Dig b10) ∧ (Dig b11 ∧ Dig b12) ∧ (Dig b13 ∧ Dig b14) ∧ 10 * dv b9 + dv b10 ≤ 23 ∧ 10 * dv b11 + dv b12 ≤ 59 ∧ 10 * dv b13 + dv b14 ≤ 59)), if_neg c3]
     simp
   ·rw [if_neg (fun h => c2 h.2.2.1 : ¬ (e = 0 ∧ (Dig b9 ∧ Dig b10) ∧ (Dig b11 ∧ Dig b12) ∧ (Dig b13 ∧ Dig b14) ∧ 10 * dv b9 + dv b10 ≤ 23 ∧ 10 * dv b11 + dv b12 ≤ 59 ∧ 10 * dv b13 + dv b14 ≤ 59)), if_neg c2]
    simp
  ·rw [if_neg (fun h => c1 h.2.1 : ¬ (e = 0 ∧ (Dig b9 ∧ Dig b10) ∧ (Dig b11 ∧ Dig b12) ∧ (Dig b13 ∧ Dig b14) ∧ 10 * dv b9 + dv b10 ≤ 23 ∧ 10 * dv b11 + dv b12 ≤ 59 ∧ 10 * dv b13 + dv b14 ≤ 59)), if_neg c1]
   simp
 ·rw [if_neg c0, if_neg (fun h => c0 h.1)]
theorem pTimeOf (k : Nat) (hk : 50 ≤ k) (y m d t : Int) (h : Right y m d) (h0 : 0 ≤ t) (h1 : t < 86400) : clock_Parse.f k ⟨(timeBytes y m d t).toArray⟩ = some (86400 * (ah y + cum (lp y) m + d) + t, 0) := by
 obtain ⟨k, rfl⟩ : ∃ j, k = j + 1 := ⟨k - 1, by omega⟩
 have hp := pDateOf k (by omega) y m d h
 unfold clock_Parse.f
 have e : timeBytes y m d t = [db y 1000, db y 100, db y 10, db y 1, db m 10, db m 1, db d 10, db d 1, 84, db (t / 3600) 10, db (t / 3600) 1, db (t / 60 % 60) 10, db (t / 60 % 60) 1, db (t % 60) 10, db (t % 60) 1] := rfl
 rw [e]
 have hb : (bt ⟨[db y 1000, db y 100, db y 10, db y 1, db m 10, db m 1, db d 10, db d 1, 84, db (t / 3600) 10, db (t / 3600) 1, db (t / 60 % 60) 10, db (t / 60 % 60) 1, db (t % 60) 10, db (t % 60) 1].toArray⟩ 8 != 84) = false := by
  rw [show (8 : Int) = ((8 : Nat) : Int) from rfl, btl _ 8 (by simp)]
  rfl
 rw [hb, sz, if_pos (by simp), if_pos (by simp), pj k (by omega) _ _ _ _ _ _ _ _ _ _ _ _ _ _ _ _ _ hp (fun _ => right_in h)]
 simp only [db_dv]
 have e1 : 10 * (t / 3600 / 10 % 10) + t / 3600 / 1 % 10 = t / 3600 := by omega
 have e2 : 10 * (t / 60 % 60 / 10 % 10) + t / 60 % 60 / 1 % 10 = t / 60 % 60 := by omega
 have e3 : 10 * (t % 60 / 10 % 10) + t % 60 / 1 % 10 = t % 60 := by omega
 rw [e1, e2, e3, if_pos ⟨trivial, ⟨db_Dig _ _, db_Dig _ _⟩, ⟨db_Dig _ _, db_Dig _ _⟩, ⟨db_Dig _ _, db_Dig _ _⟩, by omega, by omega, by omega⟩]
 have e4 : 3600 * (t / 3600) + 60 * (t / 60 % 60) + t % 60 = t := by omega
 rw [e4]
end Go.Proofs.YthppkdbelmolbaaDoor.FunP
-- written by a program of this session (wip/own_print.sh)
namespace Go.Proofs.YthppkdbelmolbaaDoor.Q
theorem kept_YthppkdbelmolbaaDoorQnumV : True := trivial
open Go.RowKit Go.Proofs.YthppkdbelmolbaaDoorW.PrintWords Go.Proofs.YthppkdbelmolbaaDoorW.PrintLast Go.Proofs.YthppkdbelmolbaaDoorW.PrintMore
attribute [local go_sem] max2_int min2_int max_two min_two max_three min_three max_four min_four   -- for this text's walks alone
set_option linter.unusedVariables false
set_option linter.unusedSimpArgs false
/-! ### value_digits: function 27 -/
/-! ### value_Number: function 10 -/
end Go.Proofs.YthppkdbelmolbaaDoor.Q
/- Bytes as lists; the digit loops of value and of the reference, side by side; CutPrefix at one byte. -/
namespace Go.Proofs.YthppkdbelmolbaaDoor.Bytes
open Go.RowKit Go.Proofs.YthppkdbelmolbaaDoorW.PrintWords Go.Proofs.YthppkdbelmolbaaDoorW.PrintLast Go.Proofs.YthppkdbelmolbaaDoor.Q Go.Proofs.YthppkdbelmolbaaDoor.Cal
set_option linter.unusedVariables false
set_option linter.unusedSimpArgs false
theorem ex (l : List UInt8) (i j : Nat) : (⟨l.toArray⟩ : ByteArray).extract i j = ⟨((l.take j).drop i).toArray⟩ := by
 apply ByteArray.ext
 rw [ByteArray.data_extract]
 simp [List.extract_toArray, List.extract_eq_take_drop, List.drop_take]
theorem btl (l : List UInt8) (i : Nat) (h : i < l.length) : bt ⟨l.toArray⟩ (i : Int) = ((l[i].toNat : Nat) : Int) := by
 unfold bt
 rw [dif_pos (show ((i : Int).toNat) < (⟨l.toArray⟩ : ByteArray).size by simpa [ByteArray.size] using h)]
 rfl
theorem sz (l : List UInt8) : (⟨l.toArray⟩ : ByteArray).size = l.length := by simp [ByteArray.size]
theorem ofL (s : ByteArray) : s = ⟨s.data.toList.toArray⟩ := by cases s; simp
theorem tl (l : List UInt8) : (⟨l.toArray⟩ : ByteArray).toList = l := by rw [ByteArray.toList_eq]
end Go.Proofs.YthppkdbelmolbaaDoor.Bytes
/- ZoneName of value and of the reference: the same answer. -/
namespace Go.Proofs.YthppkdbelmolbaaDoor.Zone
open Go.RowKit Go.Proofs.YthppkdbelmolbaaDoorW.PrintWords Go.Proofs.YthppkdbelmolbaaDoorW.PrintLast Go.Proofs.YthppkdbelmolbaaDoor.Q Go.Proofs.YthppkdbelmolbaaDoor.Cal Go.Proofs.YthppkdbelmolbaaDoor.Bytes
set_option linter.unusedVariables false
set_option linter.unusedSimpArgs false
/-- The signs of zones' names. -/
def Zc (z : Int) : Prop := (97 ≤ z ∧ z ≤ 122) ∨ (65 ≤ z ∧ z ≤ 90) ∨ (48 ≤ z ∧ z ≤ 57) ∨ z = 47 ∨ z = 95 ∨ z = 45 ∨ z = 43
instance (z : Int) : Decidable (Zc z) := by unfold Zc; infer_instance
set_option maxRecDepth 100000 in
theorem idxN : ∀ n : Fin 256, (Lib.indexByte [47, 95, 45, 43] (n.val).toUInt8 < 0) = ¬ (n.val = 47 ∨ n.val = 95 ∨ n.val = 45 ∨ n.val = 43) := by
 have h : ∀ n : Fin 256, decide (Lib.indexByte [47, 95, 45, 43] (n.val).toUInt8 < 0) = decide (¬ (n.val = 47 ∨ n.val = 95 ∨ n.val = 45 ∨ n.val = 43)) := by decide +kernel
 intro n
 have := h n
 rw [decide_eq_decide] at this
 exact propext this
theorem sep (z : Int) (h0 : 0 ≤ z) (h1 : z ≤ 255) (X : Option Bool) :
  ((strings_IndexByte.f (⟨#[47, 95, 45, 43]⟩ : ByteArray) z).bind fun t => if t < 0 then some false else X) = if z = 47 ∨ z = 95 ∨ z = 45 ∨ z = 43 then X else some false := by
 have hn := idxN ⟨z.toNat, by omega⟩
 simp only [strings_IndexByte.f, Option.bind_some]
 by_cases c : z = 47 ∨ z = 95 ∨ z = 45 ∨ z = 43
 ·rw [if_pos c, if_neg]
  intro hlt
  exact (hn.mp hlt) (by simp only; omega)
 ·rw [if_neg c, if_pos]
  exact hn.mpr (by simp only; omega)
set_option maxHeartbeats 4000000 in
theorem vstep (k : Nat) (s : ByteArray) (n i z : Int) (hi : i < n) (h0 : 0 ≤ i) (hn : n = s.size) (hb : bt s i = z) (z0 : 0 ≤ z) (z1 : z ≤ 255) :
  value_ZoneName.l0 (k + 1) s n i = if Zc z then value_ZoneName.l0 k s n (wrap64 (i + 1)) else some false := by
 simp only [value_ZoneName.l0, hb]
 rw [if_pos hi, if_pos h0, if_pos (hn ▸ hi)]
 simp only [sep z z0 z1]
 generalize value_ZoneName.l0 k s n (wrap64 (i + 1)) = X
 by_cases c : Zc z
 ·rw [if_pos c]
  unfold Zc at c
  repeat' split
  all_goals first | rfl | (exfalso; omega)
 ·rw [if_neg c]
  unfold Zc at c
  repeat' split
  all_goals first | rfl | (exfalso; omega)
set_option maxHeartbeats 4000000 in
theorem rstep (k : Nat) (s : ByteArray) (n i z : Int) (hi : i < n) (h0 : 0 ≤ i) (hn : n = s.size) (hb : bt s i = z) (z0 : 0 ≤ z) (z1 : z ≤ 255) :
  trystref12_ZoneName.l0 (k + 1) s n i = if Zc z then trystref12_ZoneName.l0 k s n (wrap64 (i + 1)) else some false := by
 simp only [trystref12_ZoneName.l0, hb]
 rw [if_pos hi, if_pos h0, if_pos (hn ▸ hi)]
 generalize trystref12_ZoneName.l0 k s n (wrap64 (i + 1)) = X
 by_cases c : Zc z
 ·rw [if_pos c]
  unfold Zc at c
  repeat' split
  all_goals first | rfl | (exfalso; omega)
 ·rw [if_neg c]
  unfold Zc at c
  repeat' split
  all_goals first | rfl | (exfalso; omega)
theorem zones (l : List UInt8) (hl : l.length ≤ 9223372036854775807) : ∀ (j i : Nat), j + i = l.length → ∃ b, ∀ k, j + 1 ≤ k → value_ZoneName.l0 k ⟨l.toArray⟩ l.length i = some b ∧ trystref12_ZoneName.l0 k ⟨l.toArray⟩ l.length i = some b := by
 intro j
 induction j with
 | zero =>
  intro i hj
  refine ⟨decide (1 ≤ (l.length : Int)) && decide ((l.length : Int) ≤ 60), fun k hk => ?_⟩
  obtain ⟨k, rfl⟩ : ∃ m, k = m + 1 := ⟨k - 1, by omega⟩
  simp only [value_ZoneName.l0, trystref12_ZoneName.l0, sz]
  have c0 : ¬ ((i : Nat) : Int) < (l.length : Int) := by omega
  refine ⟨?_, ?_⟩
  ·rw [if_neg c0]
   by_cases c : (l.length : Int) ≥ 1
   ·rw [if_pos c, decide_eq_true (show 1 ≤ (l.length : Int) from c)]; rfl
   ·rw [if_neg c, decide_eq_false (show ¬ 1 ≤ (l.length : Int) from c)]; rfl
  ·rw [if_neg c0]
   by_cases c : (l.length : Int) > 0
   ·rw [if_pos c, decide_eq_true (show 1 ≤ (l.length : Int) by omega)]; rfl
   ·rw [if_neg c, decide_eq_false (show ¬ 1 ≤ (l.length : Int) by omega)]; rfl
 | succ j ih =>
  intro i hj
  have hi : i < l.length := by omega
  have hlt := UInt8.toNat_lt (l[i]'hi)
  have ew : wrap64 (((i : Nat) : Int) + 1) = ((i + 1 : Nat) : Int) := by rw [w64 (by omega) (by omega)]; omega
  by_cases c : Zc (((l[i]'hi).toNat : Nat) : Int)
  ·obtain ⟨b, hb⟩ := ih (i + 1) (by omega)
   refine ⟨b, fun k hk => ?_⟩
   obtain ⟨k, rfl⟩ : ∃ m, k = m + 1 := ⟨k - 1, by omega⟩
   rw [vstep k _ _ _ _ (by omega) (by omega) (by rw [sz]) (btl l i hi) (by omega) (by omega), rstep k _ _ _ _ (by omega) (by omega) (by rw [sz]) (btl l i hi) (by omega) (by omega), if_pos c, if_pos c, ew]
   exact hb k (by omega)
  ·refine ⟨false, fun k hk => ?_⟩
   obtain ⟨k, rfl⟩ : ∃ m, k = m + 1 := ⟨k - 1, by omega⟩
   rw [vstep k _ _ _ _ (by omega) (by omega) (by rw [sz]) (btl l i hi) (by omega) (by omega), rstep k _ _ _ _ (by omega) (by omega) (by rw [sz]) (btl l i hi) (by omega) (by omega), if_neg c, if_neg c]
   exact ⟨rfl, rfl⟩
/-- One answer for each name. -/
theorem zone (l : List UInt8) (hl : l.length ≤ 9223372036854775807) : ∃ b, ∀ k, l.length + 1 ≤ k → value_ZoneName.f k ⟨l.toArray⟩ = some b ∧ trystref12_ZoneName.f k ⟨l.toArray⟩ = some b := by
 obtain ⟨b, hb⟩ := zones l hl l.length 0 (by omega)
 refine ⟨b, fun k hk => ?_⟩
 unfold value_ZoneName.f trystref12_ZoneName.f
 rw [sz]
 exact hb k hk
end Go.Proofs.YthppkdbelmolbaaDoor.Zone
/- For every time, Time returns the specified text, which is read unchanged, or an error: with no condition. -/
namespace Go.Proofs.YthppkdbelmolbaaDoor.Pure
open Go.RowKit Go.Proofs.YthppkdbelmolbaaDoorW.PrintWords Go.Proofs.YthppkdbelmolbaaDoorW.PrintLast Go.Proofs.YthppkdbelmolbaaDoor.Q Go.Proofs.YthppkdbelmolbaaDoor.Cal Go.Proofs.YthppkdbelmolbaaDoor.FunA Go.Proofs.YthppkdbelmolbaaDoor.FunB Go.Proofs.YthppkdbelmolbaaDoor.FunC Go.Proofs.YthppkdbelmolbaaDoor.FunD Go.Proofs.YthppkdbelmolbaaDoor.Fmt Go.Proofs.YthppkdbelmolbaaDoor.Awake7 Go.Proofs.YthppkdbelmolbaaDoor.FunQ Go.Proofs.YthppkdbelmolbaaDoor.FunN Go.Proofs.YthppkdbelmolbaaDoor.FunP Go.Proofs.YthppkdbelmolbaaDoor.Zone
set_option linter.unusedVariables false
set_option linter.unusedSimpArgs false
namespace TimesW
theorem tl (l : List UInt8) : (⟨l.toArray⟩ : ByteArray).toList = l := by rw [ByteArray.toList_eq]
theorem fRight (a : Int) : trystref01_Right.f a = clock_Right.f a := rfl
/-- What a right time is, the zone's name told by b. -/
def rt (b : Bool) (kind at_ : Int) (z : List UInt8) : Bool :=
 (decide (86400 ≤ at_) && decide (at_ < 315537984000)) && (if kind = 0 then (z == []) && (at_ % 86400 == 0) else if kind = 3 then b else (z == []) && (decide (kind = 1) || decide (kind = 2)))
theorem beq_dec (a b : Int) : (a == b) = decide (a = b) := by
 rw [Bool.eq_iff_iff, beq_iff_eq, decide_eq_true_eq]
theorem nil_dec (z : List UInt8) : (z == []) = decide (z = []) := by cases z <;> rfl
theorem right (k : Nat) (hk : 5 ≤ k) (kind a : Int) (z : List UInt8) (b : Bool) (hz : ∀ j, k ≤ j + 1 → value_ZoneName.f j ⟨z.toArray⟩ = some b ∧ trystref12_ZoneName.f j ⟨z.toArray⟩ = some b) :
  value_RightTime.f k kind a ⟨z.toArray⟩ = some (rt b kind a z) ∧ trystref12_RightTime.f k kind a ⟨z.toArray⟩ = some (rt b kind a z) := by
 obtain ⟨k, rfl⟩ : ∃ m, k = m + 1 := ⟨k - 1, by omega⟩
 unfold value_RightTime.f trystref12_RightTime.f rt
 rw [fRight, cRight, tl]
 simp only [Option.bind_some]
 by_cases c : (decide (86400 ≤ a) && decide (a < 315537984000)) = true
 ·rw [if_pos c, if_pos c, c, Bool.true_and]
  simp only [Bool.and_eq_true, decide_eq_true_eq] at c
  by_cases k0 : kind = 0
  ·rw [if_pos k0, if_pos k0, if_pos k0]
   by_cases cz : z = []
   ·rw [if_pos cz, if_pos cz, cSecond_yes ⟨c.1, c.2⟩, Option.bind_some, Int.tmod_eq_emod_of_nonneg (by omega), nil_dec, decide_eq_true cz, Bool.true_and]
    exact ⟨rfl, rfl⟩
   ·rw [if_neg cz, if_neg cz, nil_dec, decide_eq_false cz, Bool.false_and]
    exact ⟨rfl, rfl⟩
  ·rw [if_neg k0, if_neg k0, if_neg k0]
   by_cases k3 : kind = 3
   ·subst k3
    rw [if_pos rfl, if_pos rfl, (hz (k + 1) (by omega)).1, if_neg (by omega)]
    refine ⟨rfl, ?_⟩
    simp [trystref12_RightTime.j0, (hz k (by omega)).2]
   ·rw [if_neg k3, if_neg k3, nil_dec]
    refine ⟨?_, ?_⟩
    ·by_cases cz : z = []
     ·rw [if_pos cz, decide_eq_true cz, Bool.true_and]
      by_cases k1 : kind = 1
      ·rw [if_pos k1, decide_eq_true k1]; rfl
      ·rw [if_neg k1, decide_eq_false k1, beq_dec]; rfl
     ·rw [if_neg cz, decide_eq_false cz, Bool.false_and]
    ·by_cases k1 : kind = 1
     ·rw [if_pos k1, decide_eq_true k1, beq_dec, decide_eq_true k1]
      simp only [trystref12_RightTime.j0, if_true, eq_self, tl]
      rw [nil_dec]; simp
     ·rw [if_neg k1, decide_eq_false k1, beq_dec]
      simp only [trystref12_RightTime.j0, tl]
      by_cases k2 : kind = 2
      ·rw [decide_eq_true k2, if_pos rfl, nil_dec]; simp
      ·rw [decide_eq_false k2, if_neg (by simp), if_neg k3]; simp
 ·rw [if_neg c, if_neg c, Bool.eq_false_iff.mpr c, Bool.false_and]
  exact ⟨rfl, rfl⟩
theorem no_zone (k : Nat) (hk : 1 ≤ k) : value_ZoneName.f k ⟨([] : List UInt8).toArray⟩ = some false := by
 obtain ⟨k, rfl⟩ : ∃ m, k = m + 1 := ⟨k - 1, by omega⟩
 unfold value_ZoneName.f
 simp only [value_ZoneName.l0]
 rw [sz, if_neg (by simp)]
 rw [if_neg (by simp)]
theorem db_no90 (n p : Int) : (db n p == 90) = false := by
 have h := db_Dig n p
 obtain ⟨h1, h2⟩ := h
 rw [beq_eq_false_iff_ne]
 intro e
 rw [e] at h2
 exact absurd h2 (by decide)
theorem suffix (l : List UInt8) (c : UInt8) (hl : (l ++ [c]).length ≤ 9223372036854775807) : strings_HasSuffix.f ⟨(l ++ [c]).toArray⟩ (⟨#[90]⟩ : ByteArray) = some (c == 90) := by
 have hs : (l ++ [c]).length = l.length + 1 := by simp
 have h1 : (⟨#[90]⟩ : ByteArray).size = 1 := rfl
 unfold strings_HasSuffix.f stringslite_HasSuffix.f
 rw [sz, h1, if_pos (by omega), w64 (by omega) (by omega), if_pos (by omega), if_pos (by omega), Option.bind_some]
 congr 1
 have e : (((l ++ [c]).length : Int) - ((1 : Nat) : Int)).toNat = l.length := by omega
 rw [e, ex, hs, tl, tl, List.take_of_length_le (by rw [hs]; omega), List.drop_left]
 simp
theorem tb_last (y m d s : Int) : ∃ l c, timeBytes y m d s = l ++ [c] ∧ (c == 90) = false ∧ l.length = 14 :=
 ⟨dateBytes y m d ++ [84] ++ [db (s / 3600) 10, db (s / 3600) 1] ++ [db (s / 60 % 60) 10, db (s / 60 % 60) 1] ++ [db (s % 60) 10], db (s % 60) 1, by simp [timeBytes], db_no90 _ _, by simp [dateBytes]⟩
theorem tlen (y m d s : Int) : (timeBytes y m d s).length = 15 := rfl
theorem take8 (y m d s : Int) : (⟨(timeBytes y m d s).toArray⟩ : ByteArray).extract 0 8 = ⟨(dateBytes y m d).toArray⟩ := by
 rw [ex]; rfl
/-- All that is said of right seconds: date, texts, and what reads them. -/
theorem facts (k : Nat) (hk : 250 ≤ k) (a : Int) (h : Ok a) : ∃ y m d, Right y m d ∧ ah y + cum (lp y) m + d = a / 86400 ∧ rata_Date.f k (a / 86400) = some (y, m, d, 0) ∧
  trystref01_Seconds.f k a = some ⟨(timeBytes y m d (a % 86400)).toArray⟩ ∧ (∀ j, 100 ≤ j → clock_Parse.f j ⟨(timeBytes y m d (a % 86400)).toArray⟩ = some (a, 0)) ∧ ∀ j, 100 ≤ j → clock_ParseDate.f j ⟨(dateBytes y m d).toArray⟩ = some (a / 86400, 0) := by
 obtain ⟨m, d, h1, h2, h3, h4⟩ := fSeconds k (by omega) a h
 have hy := yr_In (ok_in h)
 have hr : Right (yr (a / 86400)) m d := Is.right h2 hy.1 hy.2
 refine ⟨_, m, d, hr, h2.e.symm, h1, h4, fun j hj => ?_, fun j hj => ?_⟩
 ·rw [pTimeOf j (by omega) _ m d (a % 86400) hr (by omega) (by omega), ← h2.e]
  exact congrArg (fun z => some (z, (0 : Int))) (by omega)
 ·rw [pDateOf j (by omega) _ m d hr, ← h2.e]
theorem fmt (k : Nat) (hk : 250 ≤ k) (a y m d : Int) (h : Ok a) (hr : Right y m d) (hd : rata_Date.f k (a / 86400) = some (y, m, d, 0)) :
  clock_Format.f k a = some (⟨(timeBytes y m d (a % 86400)).toArray⟩, 0) ∧ clock_FormatDate.f k (a / 86400) = some (⟨(dateBytes y m d).toArray⟩, 0) := by
 have hm := dim_pos (lp y) m (by have := hr.2.2; omega)
 have hl := dim_lo (lp y) m (lp_01 y) hm.1 hm.2
 obtain ⟨q1, q2, q3, q4⟩ := hr
 refine ⟨?_, ?_⟩
 ·unfold clock_Format.f
  rw [cRight_yes h, Option.bind_some, if_pos rfl, cDay_yes h, Option.bind_some, hd, Option.bind_some, cSecond_yes h, Option.bind_some]
  dsimp only
  rw [if_pos ⟨rfl, ⟨by omega, by omega⟩, by omega, by omega, by omega, by omega, by omega, by omega⟩]
 ·unfold clock_FormatDate.f
  rw [hd, Option.bind_some]
  simp only [if_true, eq_self]
  rw [if_pos ⟨by omega, by omega, by omega, by omega, by omega, by omega⟩]
set_option maxHeartbeats 2000000 in
theorem law (kind a : Int) (z : List UInt8) (hz : z.length ≤ 9223372036854775807) : ∃ k, trystlaw12_ValueTimes.f k kind a ⟨z.toArray⟩ = some true := by
 obtain ⟨b, hb⟩ := zone z hz
 obtain ⟨k, hk0, hk1⟩ : ∃ k, k = z.length + 300 + 2 ∧ 0 < k := ⟨_, rfl, by omega⟩
 have hr := right k (by omega) kind a z b (fun j hj => hb j (by omega))
 refine ⟨k, ?_⟩
 unfold trystlaw12_ValueTimes.f trystlaw12_awake.f
 rw [Option.bind_some, if_pos rfl, hr.1, hr.2]
 unfold value_Time.f
 rw [hr.1]
 simp only [Option.bind_some]
 by_cases c : rt b kind a z = true
 ·rw [if_pos c, c]
  simp only [if_true, eq_self]
  unfold rt at c
  simp only [Bool.and_eq_true, decide_eq_true_eq] at c
  obtain ⟨⟨c1, c2⟩, c3⟩ := c
  have ho : Ok a := ⟨c1, c2⟩
  obtain ⟨y, m, d, f1, f2, f3, f4, f5, f6⟩ := facts k (by omega) a ho
  obtain ⟨g1, g2⟩ := fmt k (by omega) a y m d ho f1 f3
  unfold trystref12_Time.f
  rw [f4, g1, cDay_yes ho]
  simp only [Option.bind_some, g2]
  obtain ⟨k, rfl⟩ : ∃ j, k = j + 1 := ⟨k - 1, by omega⟩
  by_cases k0 : kind = 0
  ·subst k0
   rw [if_pos rfl] at c3
   simp only [Bool.and_eq_true, beq_iff_eq] at c3
   obtain ⟨rfl, c4⟩ := c3
   simp only [if_true, eq_self, Option.bind_some]
   unfold value_ParseTime.f
   rw [tl, if_pos rfl]
   simp only [value_ParseTime.j0, Bool.false_eq_true, if_false]
   rw [if_pos (by rfl)]
   unfold value_date.f
   rw [f6 k (by omega)]
   simp only [Option.bind_some, if_true, eq_self]
   rw [cAt_yes (ok_in ho) (by omega) (by omega)]
   simp only [Option.bind_some]
   rw [if_pos (by omega), sz, tlen, if_pos (by omega), Option.bind_some, take8, if_pos rfl]
   have e : 86400 * (a / 86400) + 0 = a := by omega
   rw [e]
   simp [ByteArray.toList_eq]
  ·rw [if_neg k0] at c3
   have bk0 : (kind == 0) = false := by rw [beq_eq_false_iff_ne]; exact k0
   obtain ⟨l, c, t1, t2, t3⟩ := tb_last y m d (a % 86400)
   have hs := suffix l c (by rw [← t1, tlen]; omega)
   rw [← t1, t2] at hs
   rw [if_neg k0, if_neg k0, bk0]
   by_cases k3 : kind = 3
   ·subst k3
    rw [if_pos rfl] at c3
    subst c3
    have hnz : z ≠ [] := by
     intro e
     subst e
     have := (hb 5 (by simp)).1
     rw [no_zone 5 (by omega)] at this
     cases this
    rw [if_neg (by omega), if_neg (by omega)]
    simp only [Option.bind_some]
    unfold value_ParseTime.f
    rw [tl, if_neg hnz, if_neg (by simp), (hb (k + 1) (by omega)).1]
    simp only [Option.bind_some, value_ParseTime.j0, Bool.not_true, Bool.false_eq_true, if_false, tl]
    rw [if_neg hnz, f5 k (by omega)]
    simp
   ·rw [if_neg k3] at c3
    simp only [Bool.and_eq_true, beq_iff_eq, Bool.or_eq_true, decide_eq_true_eq] at c3
    obtain ⟨rfl, c4⟩ := c3
    by_cases k2 : kind = 2
    ·subst k2
     simp only [if_true, eq_self]
     rw [sz, tlen, if_pos (by omega)]
     simp only [Option.bind_some]
     have ea : (⟨(timeBytes y m d (a % 86400)).toArray⟩ : ByteArray) ++ (⟨#[90]⟩ : ByteArray) = ⟨(timeBytes y m d (a % 86400) ++ [90]).toArray⟩ := by
      apply ByteArray.ext
      simp
     have hs2 := suffix (timeBytes y m d (a % 86400)) 90 (by simp [tlen])
     have hl2 : (timeBytes y m d (a % 86400) ++ [90]).length = 16 := by simp [tlen]
     unfold value_ParseTime.f
     rw [ea, tl [], if_pos rfl]
     simp only [value_ParseTime.j0, Bool.false_eq_true, if_false, tl, if_true, eq_self, hs2, Option.bind_some, sz, hl2]
     rw [w64 (by omega) (by omega)]
     have e16 : (((16 : Nat) : Int) - 1).toNat = 15 := by decide
     rw [if_pos (by decide), if_pos (by omega), if_pos (by omega), e16, ex, List.drop_zero, List.take_left' (tlen _ _ _ _), f5 k (by omega)]
     simp
    ·have k1 : kind = 1 := by omega
     subst k1
     rw [if_neg (by omega), if_neg (by omega)]
     simp only [Option.bind_some]
     unfold value_ParseTime.f
     rw [tl [], if_pos rfl]
     simp only [value_ParseTime.j0, Bool.false_eq_true, if_false, tl, if_true, eq_self, hs, Option.bind_some]
     rw [f5 k (by omega)]
     simp
 ·rw [if_neg c, Bool.eq_false_iff.mpr c]
  simp [ByteArray.toList_eq]
end TimesW
theorem ValueTimes_calls (kind a : Int) (z : ByteArray) (w : World) (wk : (Lit.int .i64 kind).wf = true) (wa : (Lit.int .i64 a).wf = true) (wz : z.size ≤ maxLen) :
  Calls Tryd.prog 6 #[.agg #[.int .i64 kind, .int .i64 a, .string z]] w fun e w' => e = .returned (.bool true) ∧ Below w.heap.size w w' := by
 unfold maxLen at wz
 obtain ⟨k, hk⟩ := TimesW.law kind a z.data.toList (by rw [← sz, ← ofL]; omega)
 rw [← ofL] at hk
 exact trystlaw12_ValueTimes.calls k kind a z true w hk
end Go.Proofs.YthppkdbelmolbaaDoor.Pure
