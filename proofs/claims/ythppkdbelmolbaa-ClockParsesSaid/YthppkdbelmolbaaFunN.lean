/- What the reference writes of numbers and seconds: the same bytes as clock.Format. -/
import Derived.Test.YthppkdbelmolbaaFunQ
import Derived.Test.YthppkdbelmolbaaFunD
import Derived.Test.YthppkdbelmolbaaQrefN
import Derived.Test.YthppkdbelmolbaaQrefS
namespace Go.Proofs.Ythppkdbelmolbaa.FunN
open Go.RowKit Go.Proofs.YthppkdbelmolbaaW.PrintWords Go.Proofs.YthppkdbelmolbaaW.PrintLast Go.Proofs.Ythppkdbelmolbaa.Q Go.Proofs.Ythppkdbelmolbaa.Cal Go.Proofs.Ythppkdbelmolbaa.FunA Go.Proofs.Ythppkdbelmolbaa.FunB Go.Proofs.Ythppkdbelmolbaa.FunC Go.Proofs.Ythppkdbelmolbaa.FunD Go.Proofs.Ythppkdbelmolbaa.Fmt Go.Proofs.Ythppkdbelmolbaa.Awake7 Go.Proofs.Ythppkdbelmolbaa.FunQ
set_option linter.unusedVariables false
set_option linter.unusedSimpArgs false

theorem byte_one (x : Int) (h : 0 ≤ x) : strOfNums [(wrap64 (48 + Int.tmod x 10)) % 256] = ⟨#[db x 1]⟩ := by
  rw [Int.tmod_eq_emod_of_nonneg h, w64 (by omega) (by omega)]
  have e : (48 + x % 10) % 256 = 48 + x / 1 % 10 := by omega
  rw [e]
  unfold strOfNums db
  simp
theorem db_div (x b : Int) (hb : 0 < b) : db (x / 10) b = db x (10 * b) := by
  unfold db
  rw [Int.ediv_ediv_of_nonneg (by omega)]
theorem one_size (x : Int) (s : ByteArray) : ((⟨#[db x 1]⟩ : ByteArray) ++ s).size = 1 + s.size := by rw [ByteArray.size_append]; rfl
theorem app (a b : List UInt8) : ((⟨a.toArray⟩ : ByteArray) ++ ⟨b.toArray⟩) = ⟨(a ++ b).toArray⟩ := by
  apply ByteArray.ext; simp
theorem nstep (k : Nat) (x z : Int) (s : ByteArray) (hx : 0 ≤ x) (hx' : x ≤ 1000000000) (hz : -1000 ≤ z) (hz' : z ≤ 1000) (h : x > 0 ∨ z > 0) (hs : s.size ≤ 100) :
    trystref01_number.l0 (k + 1) x z s = trystref01_number.l0 k (x / 10) (z - 1) (⟨#[db x 1]⟩ ++ s) := by
  simp only [trystref01_number.l0, Option.bind_some]
  have hb : (⟨#[db x 1]⟩ : ByteArray).size = 1 := rfl
  rw [byte_one x hx, Int.tdiv_eq_ediv_of_nonneg hx, w64 (x := x / 10) (by omega) (by omega), w64 (x := z - 1) (by omega) (by omega)]
  rw [hb]
  by_cases c : x > 0
  · rw [if_pos c, if_pos (by omega)]
  · rw [if_neg c, if_pos (by omega), if_pos (by omega)]
theorem nend (k : Nat) (z : Int) (s : ByteArray) (hz : z ≤ 0) (hs : s.toList ≠ []) : trystref01_number.l0 (k + 1) 0 z s = some s := by
  simp only [trystref01_number.l0]
  rw [if_neg (by omega), if_neg (by omega), if_neg hs]
theorem fNum2 (k : Nat) (hk : 10 ≤ k) (n : Int) (h : 0 ≤ n) (h' : n ≤ 99) : trystref01_number.f k n 2 = some ⟨#[db n 10, db n 1]⟩ := by
  obtain ⟨k, rfl⟩ : ∃ j, k = j + 9 := ⟨k - 9, by omega⟩
  simp only [trystref01_number.f]
  have s0 : (⟨#[]⟩ : ByteArray).size = 0 := rfl
  rw [if_neg (by omega), nstep (k + 7) n 2 _ h (by omega) (by omega) (by omega) (by omega) (by omega), nstep (k + 6) (n / 10) _ _ (by omega) (by omega) (by omega) (by omega) (by omega) (by rw [one_size]; omega)]
  have e : n / 10 / 10 = 0 := by omega
  have e1 : db (n / 10) 1 = db n 10 := db_div n 1 (by omega)
  have e2 : ((⟨#[db n 10]⟩ : ByteArray) ++ ((⟨#[db n 1]⟩ : ByteArray) ++ ⟨#[]⟩)) = ⟨#[db n 10, db n 1]⟩ := by
    rw [show (⟨#[db n 1]⟩ : ByteArray) ++ ⟨#[]⟩ = ⟨#[db n 1]⟩ from app [_] [], show ((⟨#[db n 10]⟩ : ByteArray) ++ (⟨#[db n 1]⟩ : ByteArray)) = _ from app [_] [_]]; rfl
  rw [e, e1, e2, nend (k + 5) _ _ (by omega) (by rw [ByteArray.toList_eq]; simp)]
theorem fNum4 (k : Nat) (hk : 10 ≤ k) (n : Int) (h : 0 ≤ n) (h' : n ≤ 9999) : trystref01_number.f k n 4 = some ⟨#[db n 1000, db n 100, db n 10, db n 1]⟩ := by
  obtain ⟨k, rfl⟩ : ∃ j, k = j + 9 := ⟨k - 9, by omega⟩
  simp only [trystref01_number.f]
  have s0 : (⟨#[]⟩ : ByteArray).size = 0 := rfl
  rw [if_neg (by omega), nstep (k + 7) n 4 _ h (by omega) (by omega) (by omega) (by omega) (by omega), nstep (k + 6) (n / 10) _ _ (by omega) (by omega) (by omega) (by omega) (by omega) (by rw [one_size]; omega), nstep (k + 5) (n / 10 / 10) _ _ (by omega) (by omega) (by omega) (by omega) (by omega) (by rw [one_size, one_size]; omega), nstep (k + 4) (n / 10 / 10 / 10) _ _ (by omega) (by omega) (by omega) (by omega) (by omega) (by rw [one_size, one_size, one_size]; omega)]
  have e : n / 10 / 10 / 10 / 10 = 0 := by omega
  have e1 : db (n / 10) 1 = db n 10 := db_div n 1 (by omega)
  have e2 : db (n / 10 / 10) 1 = db n 100 := by rw [db_div _ 1 (by omega), db_div _ (10 * 1) (by omega)]; rfl
  have e3 : db (n / 10 / 10 / 10) 1 = db n 1000 := by rw [db_div _ 1 (by omega), db_div _ (10 * 1) (by omega), db_div _ (10 * (10 * 1)) (by omega)]; rfl
  have e4 : ((⟨#[db n 1000]⟩ : ByteArray) ++ ((⟨#[db n 100]⟩ : ByteArray) ++ ((⟨#[db n 10]⟩ : ByteArray) ++ ((⟨#[db n 1]⟩ : ByteArray) ++ ⟨#[]⟩)))) = ⟨#[db n 1000, db n 100, db n 10, db n 1]⟩ := by
    rw [show (⟨#[db n 1]⟩ : ByteArray) ++ ⟨#[]⟩ = ⟨#[db n 1]⟩ from app [_] [], show ((⟨#[db n 10]⟩ : ByteArray) ++ (⟨#[db n 1]⟩ : ByteArray)) = ⟨#[_, _]⟩ from app [_] [_], show ((⟨#[db n 100]⟩ : ByteArray) ++ (⟨#[_, _]⟩ : ByteArray)) = ⟨#[_, _, _]⟩ from app [_] [_, _], show ((⟨#[db n 1000]⟩ : ByteArray) ++ (⟨#[_, _, _]⟩ : ByteArray)) = ⟨#[_, _, _, _]⟩ from app [_] [_, _, _]]
  rw [e, e1, e2, e3, e4, nend (k + 3) _ _ (by omega) (by rw [ByteArray.toList_eq]; simp)]
theorem fSeconds (k : Nat) (hk : 200 ≤ k) (a : Int) (h : Ok a) : ∃ m d, rata_Date.f k (a / 86400) = some (yr (a / 86400), m, d, 0) ∧ Is ah lp (yr (a / 86400)) m d (a / 86400) ∧ trystref01_Date.f k 0 (a / 86400) = some (yr (a / 86400), m, d, 0) ∧
    trystref01_Seconds.f k a = some ⟨(timeBytes (yr (a / 86400)) m d (a % 86400)).toArray⟩ := by
  have hi := ok_in h
  have hy := yr_In hi
  obtain ⟨m, d, e, hd⟩ := rDate_yes k (by omega) _ hi
  obtain ⟨y', m', d', e', hd'⟩ := fDate0 k (by omega) _ hi
  obtain ⟨r1, r2, r3⟩ := Is.one greg hd' hd
  subst r1 r2 r3
  refine ⟨m', d', e, hd, e', ?_⟩
  have hdl := dim_lo (lp (yr (a / 86400))) m' (lp_01 _) hd.m1 hd.m2
  have q1 := hd.m1; have q2 := hd.m2; have q3 := hd.d1; have q4 := hd.d2
  obtain ⟨h1, h2⟩ := h
  unfold trystref01_Seconds.f
  rw [Int.tdiv_eq_ediv_of_nonneg (a := a) (by omega), Int.tmod_eq_emod_of_nonneg (a := a) (b := 86400) (by omega), Int.tmod_eq_emod_of_nonneg (a := a) (b := 60) (by omega), w64 (x := a / 86400) (by omega) (by omega), e']
  simp only [Option.bind_some]
  rw [Int.tdiv_eq_ediv_of_nonneg (a := a % 86400) (b := 3600) (by omega), Int.tdiv_eq_ediv_of_nonneg (a := a % 86400) (b := 60) (by omega), w64 (x := a % 86400 / 3600) (by omega) (by omega), w64 (x := a % 86400 / 60) (by omega) (by omega), Int.tmod_eq_emod_of_nonneg (a := a % 86400 / 60) (by omega)]
  have e60 : a % 60 = a % 86400 % 60 := by omega
  rw [e60, fNum4 k (by omega) _ (by omega) (by omega), fNum2 k (by omega) m' (by omega) (by omega), fNum2 k (by omega) d' (by omega) (by omega), fNum2 k (by omega) (a % 86400 / 3600) (by omega) (by omega), fNum2 k (by omega) (a % 86400 / 60 % 60) (by omega) (by omega), fNum2 k (by omega) (a % 86400 % 60) (by omega) (by omega)]
  simp only [Option.bind_some]
  rfl
end Go.Proofs.Ythppkdbelmolbaa.FunN
