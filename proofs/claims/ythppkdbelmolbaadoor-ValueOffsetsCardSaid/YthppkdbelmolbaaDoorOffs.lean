/- What value.Offset, value.ParseOffset and the reference's answer: closed forms. -/
import Derived.Test.YthppkdbelmolbaaDoorBytes
import Derived.Test.YthppkdbelmolbaaDoorQrefN
import Derived.Test.YthppkdbelmolbaaDoorQoffV
import Derived.Test.YthppkdbelmolbaaDoorQoffR
namespace Go.Proofs.YthppkdbelmolbaaDoor.Offs
open Go.RowKit Go.Proofs.YthppkdbelmolbaaDoorW.PrintWords Go.Proofs.YthppkdbelmolbaaDoorW.PrintLast Go.Proofs.YthppkdbelmolbaaDoor.Q Go.Proofs.YthppkdbelmolbaaDoor.Cal Go.Proofs.YthppkdbelmolbaaDoor.Bytes
set_option linter.unusedVariables false
set_option linter.unusedSimpArgs false
/-- A digit's byte. -/
def db (n b : Int) : UInt8 := UInt8.ofNat (48 + n / b % 10).toNat
def Dig (b : UInt8) : Prop := 48 ≤ b.toNat ∧ b.toNat ≤ 57
instance (b : UInt8) : Decidable (Dig b) := by unfold Dig; infer_instance
def dv (b : UInt8) : Int := (b.toNat : Int) - 48
theorem dv_bd {b : UInt8} (h : Dig b) : 0 ≤ dv b ∧ dv b ≤ 9 := by obtain ⟨h1, h2⟩ := h; unfold dv; omega
theorem byte_one (x : Int) (h : 0 ≤ x) : strOfNums [(wrap64 (48 + Int.tmod x 10)) % 256] = ⟨#[db x 1]⟩ := by
  rw [Int.tmod_eq_emod_of_nonneg h, w64 (by omega) (by omega)]
  have e : (48 + x % 10) % 256 = 48 + x / 1 % 10 := by omega
  rw [e]
  unfold strOfNums db
  simp
theorem db_div (x b : Int) (hb : 0 < b) : db (x / 10) b = db x (10 * b) := by
  unfold db
  rw [Int.ediv_ediv_of_nonneg (by omega)]
theorem one_size (x : Int) (s : ByteArray) : ((⟨#[db x 1]⟩ : ByteArray) ++ s).size = 1 + s.size := by rw [ByteArray.size_append]; rfl
theorem app (a b : List UInt8) : ((⟨a.toArray⟩ : ByteArray) ++ ⟨b.toArray⟩) = ⟨(a ++ b).toArray⟩ := by
  apply ByteArray.ext; simp
theorem nstep (k : Nat) (x z : Int) (s : ByteArray) (hx : 0 ≤ x) (hx' : x ≤ 1000000000) (hz : -1000 ≤ z) (hz' : z ≤ 1000) (h : x > 0 ∨ z > 0) (hs : s.size ≤ 100) :
    trystref01_number.l0 (k + 1) x z s = trystref01_number.l0 k (x / 10) (z - 1) (⟨#[db x 1]⟩ ++ s) := by
  simp only [trystref01_number.l0, Option.bind_some]
  have hb : (⟨#[db x 1]⟩ : ByteArray).size = 1 := rfl
  rw [byte_one x hx, Int.tdiv_eq_ediv_of_nonneg hx, w64 (x := x / 10) (by omega) (by omega), w64 (x := z - 1) (by omega) (by omega)]
  rw [hb]
  by_cases c : x > 0
  · rw [if_pos c, if_pos (by omega)]
  · rw [if_neg c, if_pos (by omega), if_pos (by omega)]
theorem nend (k : Nat) (z : Int) (s : ByteArray) (hz : z ≤ 0) (hs : s.toList ≠ []) : trystref01_number.l0 (k + 1) 0 z s = some s := by
  simp only [trystref01_number.l0]
  rw [if_neg (by omega), if_neg (by omega), if_neg hs]
theorem fNum2 (k : Nat) (hk : 10 ≤ k) (n : Int) (h : 0 ≤ n) (h' : n ≤ 99) : trystref01_number.f k n 2 = some ⟨#[db n 10, db n 1]⟩ := by
  obtain ⟨k, rfl⟩ : ∃ j, k = j + 9 := ⟨k - 9, by omega⟩
  simp only [trystref01_number.f]
  have s0 : (⟨#[]⟩ : ByteArray).size = 0 := rfl
  rw [if_neg (by omega), nstep (k + 7) n 2 _ h (by omega) (by omega) (by omega) (by omega) (by omega), nstep (k + 6) (n / 10) _ _ (by omega) (by omega) (by omega) (by omega) (by omega) (by rw [one_size]; omega)]
  have e : n / 10 / 10 = 0 := by omega
  have e1 : db (n / 10) 1 = db n 10 := db_div n 1 (by omega)
  have e2 : ((⟨#[db n 10]⟩ : ByteArray) ++ ((⟨#[db n 1]⟩ : ByteArray) ++ ⟨#[]⟩)) = ⟨#[db n 10, db n 1]⟩ := by
    rw [show (⟨#[db n 1]⟩ : ByteArray) ++ ⟨#[]⟩ = ⟨#[db n 1]⟩ from app [_] [], show ((⟨#[db n 10]⟩ : ByteArray) ++ (⟨#[db n 1]⟩ : ByteArray)) = _ from app [_] [_]]; rfl
  rw [e, e1, e2, nend (k + 5) _ _ (by omega) (by rw [ByteArray.toList_eq]; simp)]
theorem db_eq {b : UInt8} {n p : Int} (hb : Dig b) (h : n / p % 10 = dv b) : db n p = b := by
  unfold db
  rw [h]
  obtain ⟨h1, h2⟩ := hb
  unfold dv
  have e : (48 + (((b.toNat : Nat) : Int) - 48)).toNat = b.toNat := by omega
  rw [e, UInt8.ofNat_toNat]
theorem db_nat (n p : Int) : (db n p).toNat = (48 + n / p % 10).toNat := by
  have h : 0 ≤ n / p % 10 := Int.emod_nonneg _ (by omega)
  have h' : n / p % 10 < 10 := Int.emod_lt_of_pos _ (by omega)
  unfold db
  rw [UInt8.toNat_ofNat']
  omega
theorem db_Dig (n p : Int) : Dig (db n p) := by
  have h : 0 ≤ n / p % 10 := Int.emod_nonneg _ (by omega)
  have h' : n / p % 10 < 10 := Int.emod_lt_of_pos _ (by omega)
  unfold Dig
  rw [db_nat]
  omega
theorem db_dv (n p : Int) : dv (db n p) = n / p % 10 := by
  have h : 0 ≤ n / p % 10 := Int.emod_nonneg _ (by omega)
  unfold dv
  rw [db_nat]
  omega

theorem two_eq (n : Int) (h : 0 ≤ n) (h' : n ≤ 99) : value_two.f n = some ⟨[db n 10, db n 1].toArray⟩ := by
  unfold value_two.f
  rw [Int.tdiv_eq_ediv_of_nonneg h, Int.tmod_eq_emod_of_nonneg h, w64 (x := n / 10) (by omega) (by omega), w64 (x := 48 + n / 10) (by omega) (by omega), w64 (x := 48 + n % 10) (by omega) (by omega)]
  have e1 : (48 + n / 10) % 256 = 48 + n / 10 % 10 := by omega
  have e2 : (48 + n % 10) % 256 = 48 + n / 1 % 10 := by omega
  rw [e1, e2]
  unfold strOfNums db
  simp
theorem Two_eq (k : Nat) (hk : 10 ≤ k) (n : Int) (h : 0 ≤ n) (h' : n ≤ 99) : trystref01_Two.f k n = some ⟨[db n 10, db n 1].toArray⟩ := by
  unfold trystref01_Two.f
  rw [fNum2 k hk n h h', Option.bind_some]
/-- The text of an offset: its sign, and n seconds. -/
def offL (b : UInt8) (n : Int) : List UInt8 := [b, db (n / 3600) 10, db (n / 3600) 1, db (n / 60 % 60) 10, db (n / 60 % 60) 1] ++ if n % 60 = 0 then [] else [db (n % 60) 10, db (n % 60) 1]
theorem vOff1 (k : Nat) (n : Int) (b : UInt8) (h : 0 ≤ n) (h' : n ≤ 86399) : value_Offset.j1 (k + 1) n ⟨#[b]⟩ = some (⟨(offL b n).toArray⟩, 0) := by
  simp only [value_Offset.j1]
  rw [Int.tdiv_eq_ediv_of_nonneg (a := n) (b := 3600) h, Int.tdiv_eq_ediv_of_nonneg (a := n) (b := 60) h, Int.tmod_eq_emod_of_nonneg (a := n) (b := 60) h, w64 (x := n / 3600) (by omega) (by omega), w64 (x := n / 60) (by omega) (by omega), Int.tmod_eq_emod_of_nonneg (a := n / 60) (by omega), two_eq (n / 3600) (by omega) (by omega), two_eq (n / 60 % 60) (by omega) (by omega)]
  simp only [Option.bind_some]
  rw [show (⟨#[b]⟩ : ByteArray) = ⟨[b].toArray⟩ from rfl, app, app, sz, sz, sz, sz]
  rw [if_pos (by simp), if_pos (by simp)]
  unfold offL
  by_cases c : n % 60 = 0
  · rw [if_neg (by omega), if_pos c]
    rfl
  · rw [if_pos (by omega), two_eq (n % 60) (by omega) (by omega), if_neg c]
    simp only [Option.bind_some, sz]
    rw [app, if_pos (by simp)]
    rfl
theorem rOff1 (k : Nat) (hk : 10 ≤ k) (n : Int) (b : UInt8) (h : 0 ≤ n) (h' : n ≤ 86399) : trystref12_Offset.j1 (k + 1) n ⟨#[b]⟩ = some (⟨(offL b n).toArray⟩, 0) := by
  simp only [trystref12_Offset.j1]
  rw [Int.tdiv_eq_ediv_of_nonneg (a := n) (b := 3600) h, Int.tdiv_eq_ediv_of_nonneg (a := n) (b := 60) h, Int.tmod_eq_emod_of_nonneg (a := n) (b := 60) h, w64 (x := n / 3600) (by omega) (by omega), w64 (x := n / 60) (by omega) (by omega), Int.tmod_eq_emod_of_nonneg (a := n / 60) (by omega), Two_eq k hk (n / 3600) (by omega) (by omega), Two_eq k hk (n / 60 % 60) (by omega) (by omega)]
  simp only [Option.bind_some]
  rw [show (⟨#[b]⟩ : ByteArray) = ⟨[b].toArray⟩ from rfl, app, app, sz, sz, sz, sz]
  rw [if_pos (by simp), if_pos (by simp)]
  unfold offL
  by_cases c : n % 60 = 0
  · rw [if_pos c, if_pos c]
    rfl
  · rw [if_neg c, Two_eq k hk (n % 60) (by omega) (by omega), if_neg c]
    simp only [Option.bind_some, sz]
    rw [app, if_pos (by simp)]
    rfl
theorem off_no (k : Nat) (n : Int) (h : ¬ (-86399 ≤ n ∧ n ≤ 86399)) : value_Offset.f (k + 1) n = some (⟨#[]⟩, 7) ∧ trystref12_Offset.f (k + 1) n = some (⟨#[]⟩, 7) := by
  unfold value_Offset.f trystref12_Offset.f
  by_cases c : n < -86399
  · rw [if_pos c, if_pos c]
    simp only [value_Offset.j0, trystref12_Offset.j0]
    exact ⟨rfl, rfl⟩
  · rw [if_neg c, if_neg c, decide_eq_true (show n > 86399 by omega)]
    simp only [value_Offset.j0, trystref12_Offset.j0]
    exact ⟨rfl, rfl⟩
theorem off_yes (k : Nat) (hk : 20 ≤ k) (n : Int) (h : -86399 ≤ n) (h' : n ≤ 86399) :
    value_Offset.f k n = some (⟨(if n < 0 then offL 45 (-n) else offL 43 n).toArray⟩, 0) ∧ trystref12_Offset.f k n = some (⟨(if n < 0 then offL 45 (-n) else offL 43 n).toArray⟩, 0) := by
  obtain ⟨k, rfl⟩ : ∃ j, k = j + 2 := ⟨k - 2, by omega⟩
  unfold value_Offset.f trystref12_Offset.f
  rw [decide_eq_false (show ¬ n > 86399 by omega)]
  by_cases c : n < 0
  · rw [if_pos c]
    have c2 : ¬ n < -86399 := by omega
    refine ⟨?_, ?_⟩
    · rw [if_neg c2]
      simp only [value_Offset.j0]
      rw [if_neg (by simp), if_pos c, w64 (x := -n) (by omega) (by omega)]
      exact vOff1 k _ _ (by omega) (by omega)
    · rw [if_neg c2]
      simp only [trystref12_Offset.j0]
      rw [if_neg (by simp), if_pos c, w64 (x := -n) (by omega) (by omega)]
      exact rOff1 k (by omega) _ _ (by omega) (by omega)
  · rw [if_neg c]
    have c2 : ¬ n < -86399 := by omega
    refine ⟨?_, ?_⟩
    · rw [if_neg c2]
      simp only [value_Offset.j0]
      rw [if_neg (by simp), if_neg c]
      exact vOff1 k _ _ (by omega) (by omega)
    · rw [if_neg c2]
      simp only [trystref12_Offset.j0]
      rw [if_neg (by simp), if_neg c]
      exact rOff1 k (by omega) _ _ (by omega) (by omega)
theorem vst (k : Nat) (s : ByteArray) (acc n i : Int) (b : UInt8) (h : i < n) (h0 : 0 ≤ i) (hn : n = s.size) (hb : bt s i = ((b.toNat : Nat) : Int)) (ha : 0 ≤ acc) (ha' : acc ≤ 1000000) (hn' : n ≤ 1000) :
    value_digits.l0 (k + 1) s acc n i = if Dig b then value_digits.l0 k s (10 * acc + dv b) n (i + 1) else some (0, false) := by
  simp only [value_digits.l0]
  rw [if_pos h, if_pos h0, if_pos (hn ▸ h), hb]
  by_cases c : Dig b
  · obtain ⟨c1, c2⟩ := c
    rw [if_neg (by omega), if_neg (by omega), if_pos (show Dig b from ⟨c1, c2⟩)]
    have e : (((b.toNat : Nat) : Int) - 48) % 256 = dv b := by unfold dv; omega
    have d0 : 0 ≤ dv b ∧ dv b ≤ 9 := by unfold dv; omega
    rw [e, w64 (x := 10 * acc) (by omega) (by omega), w64 (by omega) (by omega), w64 (by omega) (by omega)]
  · rw [if_neg c]
    unfold Dig at c
    by_cases c1 : ((b.toNat : Nat) : Int) < 48
    · rw [if_pos c1]
    · rw [if_neg c1, if_pos (by omega)]
theorem rst (k : Nat) (s : ByteArray) (acc n i : Int) (b : UInt8) (h : i < n) (h0 : 0 ≤ i) (hn : n = s.size) (hb : bt s i = ((b.toNat : Nat) : Int)) (ha : 0 ≤ acc) (ha' : acc ≤ 1000000) (hn' : n ≤ 1000) :
    trystref12_Digits.l0 (k + 1) s acc n i = if Dig b then trystref12_Digits.l0 k s (10 * acc + dv b) n (i + 1) else some (-1) := by
  simp only [trystref12_Digits.l0]
  rw [if_pos h, if_pos h0, if_pos (hn ▸ h), hb]
  by_cases c : Dig b
  · obtain ⟨c1, c2⟩ := c
    rw [if_neg (by omega), if_neg (by omega), if_pos (show Dig b from ⟨c1, c2⟩)]
    have e : (((b.toNat : Nat) : Int) - 48) % 256 = dv b := by unfold dv; omega
    have d0 : 0 ≤ dv b ∧ dv b ≤ 9 := by unfold dv; omega
    rw [e, w64 (x := acc * 10) (by omega) (by omega), w64 (by omega) (by omega), w64 (by omega) (by omega), show acc * 10 = 10 * acc by omega]
  · rw [if_neg c]
    unfold Dig at c
    by_cases c1 : ((b.toNat : Nat) : Int) < 48
    · rw [if_pos c1]
    · rw [if_neg c1, if_pos (by omega)]
theorem vend (k : Nat) (l : List UInt8) (acc n : Int) : value_digits.l0 (k + 1) ⟨l.toArray⟩ acc n n = some (acc, l != []) := by
  simp only [value_digits.l0]
  rw [if_neg (by omega), tl]
theorem rend (k : Nat) (l : List UInt8) (acc n : Int) (h : l ≠ []) : trystref12_Digits.l0 (k + 1) ⟨l.toArray⟩ acc n n = some acc := by
  simp only [trystref12_Digits.l0]
  rw [if_neg (by omega), tl, if_neg h]
theorem vd0 (k : Nat) : value_digits.f (k + 1) ⟨[].toArray⟩ = some (0, false) := vend k [] 0 0
theorem vd2 (k : Nat) (hk : 10 ≤ k) (a b : UInt8) : value_digits.f k ⟨[a, b].toArray⟩ = some (if Dig a ∧ Dig b then (10 * dv a + dv b, true) else (0, false)) := by
  obtain ⟨k, rfl⟩ : ∃ j, k = j + 9 := ⟨k - 9, by omega⟩
  unfold value_digits.f
  rw [sz]
  rw [vst (k + 8) _ 0 _ 0 a (by simp) (by omega) (by rw [sz]) (btl [a, b] 0 (by simp)) (by omega) (by omega) (by simp)]
  by_cases ca : Dig a
  · have da := dv_bd ca
    rw [if_pos ca, vst (k + 7) _ _ _ (0 + 1) b (by simp) (by omega) (by rw [sz]) (btl [a, b] 1 (by simp)) (by omega) (by omega) (by simp)]
    by_cases cb : Dig b
    · rw [if_pos cb, if_pos ⟨ca, cb⟩]
      have e := vend (k + 6) [a, b] (10 * (10 * 0 + dv a) + dv b) 2
      have e2 : 10 * (10 * 0 + dv a) + dv b = 10 * dv a + dv b := by omega
      rw [e2] at e ⊢
      exact e
    · rw [if_neg cb, if_neg (fun h => cb h.2)]
  · rw [if_neg ca, if_neg (fun h => ca h.1)]
theorem rd2 (k : Nat) (hk : 10 ≤ k) (a b : UInt8) : trystref12_Digits.f k ⟨[a, b].toArray⟩ = some (if Dig a ∧ Dig b then 10 * dv a + dv b else -1) := by
  obtain ⟨k, rfl⟩ : ∃ j, k = j + 9 := ⟨k - 9, by omega⟩
  unfold trystref12_Digits.f
  rw [sz]
  rw [rst (k + 8) _ 0 _ 0 a (by simp) (by omega) (by rw [sz]) (btl [a, b] 0 (by simp)) (by omega) (by omega) (by simp)]
  by_cases ca : Dig a
  · have da := dv_bd ca
    rw [if_pos ca, rst (k + 7) _ _ _ (0 + 1) b (by simp) (by omega) (by rw [sz]) (btl [a, b] 1 (by simp)) (by omega) (by omega) (by simp)]
    by_cases cb : Dig b
    · rw [if_pos cb, if_pos ⟨ca, cb⟩]
      have e := rend (k + 6) [a, b] (10 * (10 * 0 + dv a) + dv b) 2 (by simp)
      have e2 : 10 * (10 * 0 + dv a) + dv b = 10 * dv a + dv b := by omega
      rw [e2] at e ⊢
      exact e
    · rw [if_neg cb, if_neg (fun h => cb h.2)]
  · rw [if_neg ca, if_neg (fun h => ca h.1)]
theorem vd4 (k : Nat) (hk : 10 ≤ k) (a b c d : UInt8) : ∃ v, value_digits.f k ⟨[a, b, c, d].toArray⟩ = some (v, decide (Dig a ∧ Dig b ∧ Dig c ∧ Dig d)) := by
  obtain ⟨k, rfl⟩ : ∃ j, k = j + 9 := ⟨k - 9, by omega⟩
  unfold value_digits.f
  rw [sz]
  rw [vst (k + 8) _ 0 _ 0 a (by simp) (by omega) (by rw [sz]) (btl [a, b, c, d] 0 (by simp)) (by omega) (by omega) (by simp)]
  by_cases ca : Dig a
  · have da := dv_bd ca
    rw [if_pos ca, vst (k + 7) _ _ _ (0 + 1) b (by simp) (by omega) (by rw [sz]) (btl [a, b, c, d] 1 (by simp)) (by omega) (by omega) (by simp)]
    by_cases cb : Dig b
    · have dB := dv_bd cb
      rw [if_pos cb, vst (k + 6) _ _ _ (0 + 1 + 1) c (by simp) (by omega) (by rw [sz]) (btl [a, b, c, d] 2 (by simp)) (by omega) (by omega) (by simp)]
      by_cases cc : Dig c
      · have dc := dv_bd cc
        rw [if_pos cc, vst (k + 5) _ _ _ (0 + 1 + 1 + 1) d (by simp) (by omega) (by rw [sz]) (btl [a, b, c, d] 3 (by simp)) (by omega) (by omega) (by simp)]
        by_cases cd : Dig d
        · rw [if_pos cd, decide_eq_true ⟨ca, cb, cc, cd⟩]
          exact ⟨_, vend (k + 4) [a, b, c, d] _ 4⟩
        · exact ⟨0, by rw [if_neg cd, decide_eq_false (fun h => cd h.2.2.2)]⟩
      · exact ⟨0, by rw [if_neg cc, decide_eq_false (fun h => cc h.2.2.1)]⟩
    · exact ⟨0, by rw [if_neg cb, decide_eq_false (fun h => cb h.2.1)]⟩
  · exact ⟨0, by rw [if_neg ca, decide_eq_false (fun h => ca h.1)]⟩
theorem vd6 (k : Nat) (hk : 10 ≤ k) (a b c d e f : UInt8) : ∃ v, value_digits.f k ⟨[a, b, c, d, e, f].toArray⟩ = some (v, decide ((Dig a ∧ Dig b ∧ Dig c ∧ Dig d) ∧ Dig e ∧ Dig f)) := by
  obtain ⟨k, rfl⟩ : ∃ j, k = j + 9 := ⟨k - 9, by omega⟩
  unfold value_digits.f
  rw [sz]
  rw [vst (k + 8) _ 0 _ 0 a (by simp) (by omega) (by rw [sz]) (btl [a, b, c, d, e, f] 0 (by simp)) (by omega) (by omega) (by simp)]
  by_cases ca : Dig a
  · have da := dv_bd ca
    rw [if_pos ca, vst (k + 7) _ _ _ (0 + 1) b (by simp) (by omega) (by rw [sz]) (btl [a, b, c, d, e, f] 1 (by simp)) (by omega) (by omega) (by simp)]
    by_cases cb : Dig b
    · have dB := dv_bd cb
      rw [if_pos cb, vst (k + 6) _ _ _ (0 + 1 + 1) c (by simp) (by omega) (by rw [sz]) (btl [a, b, c, d, e, f] 2 (by simp)) (by omega) (by omega) (by simp)]
      by_cases cc : Dig c
      · have dc := dv_bd cc
        rw [if_pos cc, vst (k + 5) _ _ _ (0 + 1 + 1 + 1) d (by simp) (by omega) (by rw [sz]) (btl [a, b, c, d, e, f] 3 (by simp)) (by omega) (by omega) (by simp)]
        by_cases cd : Dig d
        · have dd := dv_bd cd
          rw [if_pos cd, vst (k + 4) _ _ _ (0 + 1 + 1 + 1 + 1) e (by simp) (by omega) (by rw [sz]) (btl [a, b, c, d, e, f] 4 (by simp)) (by omega) (by omega) (by simp)]
          by_cases ce : Dig e
          · have de := dv_bd ce
            rw [if_pos ce, vst (k + 3) _ _ _ (0 + 1 + 1 + 1 + 1 + 1) f (by simp) (by omega) (by rw [sz]) (btl [a, b, c, d, e, f] 5 (by simp)) (by omega) (by omega) (by simp)]
            by_cases cf : Dig f
            · rw [if_pos cf, decide_eq_true ⟨⟨ca, cb, cc, cd⟩, ce, cf⟩]
              exact ⟨_, vend (k + 2) [a, b, c, d, e, f] _ 6⟩
            · exact ⟨0, by rw [if_neg cf, decide_eq_false (fun h => cf h.2.2)]⟩
          · exact ⟨0, by rw [if_neg ce, decide_eq_false (fun h => ce h.2.1)]⟩
        · exact ⟨0, by rw [if_neg cd, decide_eq_false (fun h => cd h.1.2.2.2)]⟩
      · exact ⟨0, by rw [if_neg cc, decide_eq_false (fun h => cc h.1.2.2.1)]⟩
    · exact ⟨0, by rw [if_neg cb, decide_eq_false (fun h => cb h.1.2.1)]⟩
  · exact ⟨0, by rw [if_neg ca, decide_eq_false (fun h => ca h.1.1)]⟩
/-- What is answered to a sign, and hours, minutes and seconds. -/
def po (b0 : UInt8) (h m x : Int) : Int × Int :=
  if h ≤ 23 ∧ m ≤ 59 ∧ x ≤ 59 then (if b0 = 45 then (if 3600 * h + 60 * m + x = 0 then (0, 7) else (-(3600 * h + 60 * m + x), 0)) else (3600 * h + 60 * m + x, 0)) else (0, 7)
theorem po_yes {b0 : UInt8} {h m x : Int} (c1 : h ≤ 23) (c2 : m ≤ 59) (c3 : x ≤ 59) : po b0 h m x = (if b0 = 45 then (if 3600 * h + 60 * m + x = 0 then (0, 7) else (-(3600 * h + 60 * m + x), 0)) else (3600 * h + 60 * m + x, 0)) := by
  unfold po; rw [if_pos ⟨c1, c2, c3⟩]
theorem po_no {b0 : UInt8} {h m x : Int} (c : ¬ (h ≤ 23 ∧ m ≤ 59 ∧ x ≤ 59)) : po b0 h m x = (0, 7) := by
  unfold po; rw [if_neg c]
theorem list5 (l : List UInt8) (h : l.length = 5) : ∃ b0 b1 b2 b3 b4, l = [b0, b1, b2, b3, b4] := by
  match l, h with
  | [b0, b1, b2, b3, b4], _ => exact ⟨b0, b1, b2, b3, b4, rfl⟩
theorem list7 (l : List UInt8) (h : l.length = 7) : ∃ b0 b1 b2 b3 b4 b5 b6, l = [b0, b1, b2, b3, b4, b5, b6] := by
  match l, h with
  | [b0, b1, b2, b3, b4, b5, b6], _ => exact ⟨b0, b1, b2, b3, b4, b5, b6, rfl⟩
theorem bt0 (b : UInt8) (l : List UInt8) : bt ⟨(b :: l).toArray⟩ 0 = ((b.toNat : Nat) : Int) := btl (b :: l) 0 (by simp)
theorem is_byte (b : UInt8) (c : UInt8) (z : Int) (hz : z = ((c.toNat : Nat) : Int)) : (((b.toNat : Nat) : Int) = z) = (b = c) := by
  rw [hz]
  apply propext
  constructor
  · intro h
    apply UInt8.toNat_inj.mp
    omega
  · intro h; rw [h]
/-- The value's last steps. -/
theorem vj1 (k : Nat) (b0 : UInt8) (l : List UInt8) (h m x : Int) (h0 : 0 ≤ h) (h1 : h ≤ 99) (m0 : 0 ≤ m) (m1 : m ≤ 99) (x0 : 0 ≤ x) (x1 : x ≤ 99) :
    (if h > 23 then (value_ParseOffset.j1 (k + 1) ⟨(b0 :: l).toArray⟩ (wrap64 ((wrap64 ((wrap64 (3600 * h)) + (wrap64 (60 * m)))) + x)) true) else (if m > 59 then (value_ParseOffset.j1 (k + 1) ⟨(b0 :: l).toArray⟩ (wrap64 ((wrap64 ((wrap64 (3600 * h)) + (wrap64 (60 * m)))) + x)) true) else (if x > 59 then (value_ParseOffset.j1 (k + 1) ⟨(b0 :: l).toArray⟩ (wrap64 ((wrap64 ((wrap64 (3600 * h)) + (wrap64 (60 * m)))) + x)) true) else (if 0 < ((⟨(b0 :: l).toArray⟩ : ByteArray).size : Int) then (if (bt ⟨(b0 :: l).toArray⟩ 0) = 45 then (value_ParseOffset.j1 (k + 1) ⟨(b0 :: l).toArray⟩ (wrap64 ((wrap64 ((wrap64 (3600 * h)) + (wrap64 (60 * m)))) + x)) ((wrap64 ((wrap64 ((wrap64 (3600 * h)) + (wrap64 (60 * m)))) + x)) == 0)) else (value_ParseOffset.j1 (k + 1) ⟨(b0 :: l).toArray⟩ (wrap64 ((wrap64 ((wrap64 (3600 * h)) + (wrap64 (60 * m)))) + x)) false)) else (none))))) = some (po b0 h m x) := by
  rw [w64 (x := 3600 * h) (by omega) (by omega), w64 (x := 60 * m) (by omega) (by omega), w64 (x := 3600 * h + 60 * m) (by omega) (by omega), w64 (x := 3600 * h + 60 * m + x) (by omega) (by omega)]
  simp only [value_ParseOffset.j1, bt0, is_byte b0 45 45 rfl, sz]
  by_cases c1 : h ≤ 23
  · rw [if_neg (by omega : ¬ h > 23)]
    by_cases c2 : m ≤ 59
    · rw [if_neg (by omega : ¬ m > 59)]
      by_cases c3 : x ≤ 59
      · rw [if_neg (by omega : ¬ x > 59), po_yes c1 c2 c3]
        have c0 : (0 : Int) < ((b0 :: l).length : Int) := by simp
        rw [if_pos c0]
        by_cases c4 : b0 = 45
        · by_cases c5 : 3600 * h + 60 * m + x = 0
          · simp [c4, c5]
          · simp [c4, c5]
            exact w64 (by omega) (by omega)
        · simp [c4]
      · rw [po_no (fun h => c3 h.2.2), if_pos (by omega : x > 59)]
        rfl
    · rw [po_no (fun h => c2 h.2.1), if_pos (by omega : m > 59)]
      rfl
  · rw [po_no (fun h => c1 h.1), if_pos (by omega : h > 23)]
    rfl
/-- The reference's last steps. -/
theorem rj2 (k : Nat) (b0 : UInt8) (l : List UInt8) (h m x : Int) (h0 : 0 ≤ h) (h1 : h ≤ 99) (m0 : 0 ≤ m) (m1 : m ≤ 99) (x0 : 0 ≤ x) (x1 : x ≤ 99) :
    (if h < 0 then (trystref12_ParseOffset.j2 (k + 1) ⟨(b0 :: l).toArray⟩ h m x true) else (if m < 0 then (trystref12_ParseOffset.j2 (k + 1) ⟨(b0 :: l).toArray⟩ h m x true) else (if x < 0 then (trystref12_ParseOffset.j2 (k + 1) ⟨(b0 :: l).toArray⟩ h m x true) else (if h > 23 then (trystref12_ParseOffset.j2 (k + 1) ⟨(b0 :: l).toArray⟩ h m x true) else (if m > 59 then (trystref12_ParseOffset.j2 (k + 1) ⟨(b0 :: l).toArray⟩ h m x true) else (trystref12_ParseOffset.j2 (k + 1) ⟨(b0 :: l).toArray⟩ h m x (decide (x > 59)))))))) = some (po b0 h m x) := by
  simp only [trystref12_ParseOffset.j2, bt0, is_byte b0 45 45 rfl, sz]
  rw [w64 (x := 3600 * h) (by omega) (by omega), w64 (x := 60 * m) (by omega) (by omega), w64 (x := 3600 * h + 60 * m) (by omega) (by omega), w64 (x := 3600 * h + 60 * m + x) (by omega) (by omega)]
  rw [if_neg (by omega : ¬ h < 0), if_neg (by omega : ¬ m < 0), if_neg (by omega : ¬ x < 0)]
  by_cases c1 : h ≤ 23
  · rw [if_neg (by omega : ¬ h > 23)]
    by_cases c2 : m ≤ 59
    · rw [if_neg (by omega : ¬ m > 59)]
      by_cases c3 : x ≤ 59
      · rw [po_yes c1 c2 c3, decide_eq_false (by omega : ¬ x > 59)]
        have c0 : (0 : Int) < ((b0 :: l).length : Int) := by simp
        rw [if_neg (by simp), if_pos c0]
        by_cases c4 : b0 = 45
        · by_cases c5 : 3600 * h + 60 * m + x = 0
          · simp [c4, c5]
          · simp [c4, c5]
            exact w64 (by omega) (by omega)
        · simp [c4]
      · rw [po_no (fun h => c3 h.2.2), decide_eq_true (by omega : x > 59)]
        rfl
    · rw [po_no (fun h => c2 h.2.1), if_pos (by omega : m > 59)]
      rfl
  · rw [po_no (fun h => c1 h.1), if_pos (by omega : h > 23)]
    rfl
end Go.Proofs.YthppkdbelmolbaaDoor.Offs
