/- Texts of this claim, merged: FunT, Qtrystref01Text. -/
import Derived.Test.YtgbbgcepcnklkaaDoorMgShowLines3
import Derived.Test.YtgbbgcepcnklkaaDoorMgShowLines16
import Derived.Lib.ItoaNum
import Derived.Test.YtgbbgcepcnklkaaDoorMgShowLines1
import Derived.Test.YtgbbgcepcnklkaaDoorMgShowLines13
/- A number, written by the reference, is what strconv.Itoa writes; a day's text. -/
namespace Go.Proofs.YtgbbgcepcnklkaaDoor.FunT
open Go.RowKit Go.Proofs.YtgbbgcepcnklkaaDoorW.PrintWords Go.Proofs.YtgbbgcepcnklkaaDoorW.PrintLast Go.Proofs.YtgbbgcepcnklkaaDoor.Q Go.Proofs.YtgbbgcepcnklkaaDoor.Cal Go.Proofs.YtgbbgcepcnklkaaDoor.FunA
set_option linter.unusedVariables false
set_option linter.unusedSimpArgs false
def dg (x : Int) : UInt8 := UInt8.ofNat (48 + x % 10).toNat
theorem byte_one (x : Int) (h : 0 ≤ x) : strOfNums [(wrap64 (48 + Int.tmod x 10)) % 256] = ⟨#[dg x]⟩ := by
 rw [Int.tmod_eq_emod_of_nonneg h, w64 (by omega) (by omega)]
 have e : (48 + x % 10) % 256 = 48 + x % 10 := by omega
 rw [e]
 unfold strOfNums dg
 simp
theorem app (a b : List UInt8) : ((⟨a.toArray⟩ : ByteArray) ++ ⟨b.toArray⟩) = ⟨(a ++ b).toArray⟩ := by
 apply ByteArray.ext; simp
theorem size_of (a : List UInt8) : (⟨a.toArray⟩ : ByteArray).size = a.length := by simp [ByteArray.size]
theorem nstep (k : Nat) (x z : Int) (s : List UInt8) (hx : 0 ≤ x) (hx' : x ≤ 1000000000) (hz : -1000 ≤ z) (hz' : z ≤ 0) (h : x > 0 ∨ s = []) (hs : s.length ≤ 100) :
  trystref01_number.l0 (k + 1) x z ⟨s.toArray⟩ = trystref01_number.l0 k (x / 10) (z - 1) ⟨(dg x :: s).toArray⟩ := by
 simp only [trystref01_number.l0, Option.bind_some]
 have hb : (⟨#[dg x]⟩ : ByteArray).size = 1 := rfl
 have e : (⟨#[dg x]⟩ : ByteArray) ++ ⟨s.toArray⟩ = ⟨(dg x :: s).toArray⟩ := app [dg x] s
 rw [byte_one x hx, Int.tdiv_eq_ediv_of_nonneg hx, w64 (x := x / 10) (by omega) (by omega), w64 (x := z - 1) (by omega) (by omega), hb, size_of, e]
 by_cases c : x > 0
 ·rw [if_pos c, if_pos (by omega)]
 ·have hn : s = [] := by rcases h with h | h; exact absurd h c; exact h
  subst hn
  rw [if_neg c, if_neg (by omega), if_pos (by rw [ByteArray.toList_eq]), if_pos (by simp)]
theorem nend (k : Nat) (z : Int) (a : UInt8) (s : List UInt8) (hz : z ≤ 0) : trystref01_number.l0 (k + 1) 0 z ⟨(a :: s).toArray⟩ = some ⟨(a :: s).toArray⟩ := by
 simp only [trystref01_number.l0]
 rw [if_neg (by omega), if_neg (by omega), if_neg (by rw [ByteArray.toList_eq]; simp)]
theorem dg_nat (u : Nat) (h : u < 10) : dg (u : Int) = UInt8.ofNat (48 + u) := by
 unfold dg
 have e : (48 + (u : Int) % 10).toNat = 48 + u := by omega
 rw [e]
theorem digits : ∀ (j u k : Nat) (z : Int) (s : List UInt8), u < 10 ^ (j + 1) → u ≤ 1000000 → j + 2 ≤ k → -100 ≤ z - j → z ≤ 0 → (0 < u ∨ s = []) → s.length + j ≤ 50 →
  trystref01_number.l0 k (u : Int) z ⟨s.toArray⟩ = some ⟨(Lib.decDigits u ++ s).toArray⟩ := by
 intro j
 induction j with
 | zero =>
  intro u k z s h1 h2 h3 h4 h5 h6 h7
  obtain ⟨k, rfl⟩ : ∃ m, k = m + 2 := ⟨k - 2, by omega⟩
  have hu : u < 10 := by simpa using h1
  have e : (u : Int) / 10 = 0 := by omega
  rw [nstep (k + 1) u z s (by omega) (by omega) (by omega) h5 (by rcases h6 with h | h; exact Or.inl (by omega); exact Or.inr h) (by omega), e, nend k _ _ _ (by omega), Lib.decDigits_one hu, dg_nat u hu]
  rfl
 | succ j ih =>
  intro u k z s h1 h2 h3 h4 h5 h6 h7
  by_cases hu : u < 10
  ·obtain ⟨k, rfl⟩ : ∃ m, k = m + 2 := ⟨k - 2, by omega⟩
   have e : (u : Int) / 10 = 0 := by omega
   rw [nstep (k + 1) u z s (by omega) (by omega) (by omega) h5 (by rcases h6 with h | h; exact Or.inl (by omega); exact Or.inr h) (by omega), e, nend k _ _ _ (by omega), Lib.decDigits_one hu, dg_nat u hu]
   rfl
  ·obtain ⟨k, rfl⟩ : ∃ m, k = m + 1 := ⟨k - 1, by omega⟩
   have e : (u : Int) / 10 = ((u / 10 : Nat) : Int) := by omega
   have e2 : dg (u : Int) = UInt8.ofNat (48 + u % 10) := by
    unfold dg
    have e3 : (48 + (u : Int) % 10).toNat = 48 + u % 10 := by omega
    rw [e3]
   have hp : (10 : Nat) ^ (j + 1 + 1) = 10 ^ (j + 1) * 10 := rfl
   rw [nstep k u z s (by omega) (by omega) (by omega) h5 (Or.inl (by omega)) (by omega), e, ih (u / 10) k (z - 1) (dg u :: s) (by rw [hp] at h1; omega) (by omega) (by omega) (by omega) (by omega) (Or.inl (by omega)) (by simp; omega)]
   rw [Lib.decDigits.eq_1 u, dif_neg hu, e2, List.append_assoc]
   rfl
/-- The reference's number of no least size. -/
theorem number (k : Nat) (hk : 20 ≤ k) (n : Int) (h : -100000 ≤ n) (h' : n ≤ 100000) : trystref01_number.f k n 0 = some ⟨(Lib.itoa n).toArray⟩ := by
 have pos : ∀ (k : Nat) (u : Nat), 15 ≤ k → u ≤ 100000 → trystref01_number.f (k + 1) (u : Int) 0 = some ⟨(Lib.decDigits u).toArray⟩ := by
  intro k u hk hu
  simp only [trystref01_number.f]
  rw [if_neg (by omega)]
  have := digits 6 u k 0 [] (by have : (10 : Nat) ^ (6 + 1) = 10000000 := rfl; omega) (by omega) (by omega) (by omega) (by omega) (Or.inr rfl) (by simp)
  simpa using this
 obtain ⟨k, rfl⟩ : ∃ m, k = m + 2 := ⟨k - 2, by omega⟩
 unfold Lib.itoa
 by_cases c : n < 0
 ·rw [if_pos c]
  have e : -n = ((n.natAbs : Nat) : Int) := by omega
  simp only [trystref01_number.f]
  have p := pos k n.natAbs (by omega) (by omega)
  simp only [trystref01_number.f] at p
  rw [if_pos c, w64 (by omega) (by omega), e, p, Option.bind_some, size_of]
  have hl : (Lib.decDigits n.natAbs).length ≤ 100 := by
   have : ∀ (j u : Nat), u < 10 ^ (j + 1) → (Lib.decDigits u).length ≤ j + 1 := by
    intro j
    induction j with
    | zero => intro u hu; rw [Lib.decDigits_one (by simpa using hu)]; simp
    | succ j ih =>
     intro u hu
     rw [Lib.decDigits.eq_1]
     split
     ·simp
     ·have hp : (10 : Nat) ^ (j + 1 + 1) = 10 ^ (j + 1) * 10 := rfl
      have := ih (u / 10) (by rw [hp] at hu; omega)
      simp; omega
   have := this 6 n.natAbs (by have : (10 : Nat) ^ (6 + 1) = 10000000 := rfl; omega)
   omega
  rw [if_pos (by omega)]
  exact congrArg some (app [45] _)
 ·rw [if_neg c]
  have e : n = ((n.toNat : Nat) : Int) := by omega
  have p := pos (k + 1) n.toNat (by omega) (by omega)
  rw [← e] at p
  exact p
end Go.Proofs.YtgbbgcepcnklkaaDoor.FunT
-- written by a program of this session (wip/own_print.sh)
namespace Go.Proofs.YtgbbgcepcnklkaaDoor.Q
open Go.RowKit Go.Proofs.YtgbbgcepcnklkaaDoorW.PrintWords Go.Proofs.YtgbbgcepcnklkaaDoorW.PrintLast Go.Proofs.YtgbbgcepcnklkaaDoorW.PrintMore
attribute [local go_sem] max2_int min2_int max_two min_two
set_option linter.unusedVariables false
set_option linter.unusedSimpArgs false
theorem bs2_ (a b : UInt8) : ByteArray.size ⟨#[a, b]⟩ = 2 := rfl
/-! ### trystref01_Text: function 11 -/
def trystref01_Text.f (k : Nat) (a0 : Int) (a1 : Int) : Option (ByteArray) := (trystref01_Date.f k a0 a1).bind fun bt364 => (if bt364.2.2.2 = 0 then (if a0 = 2 then ((trystref01_number.f k bt364.1 0).bind fun t369 => (if t369.size + 2 ≤ 9223372036854775807 then ((trystref01_number.f k bt364.2.1 0).bind fun t370 => (if (t369 ++ (⟨#[45, 87]⟩ : ByteArray)).size + t370.size ≤ 9223372036854775807 then (if ((t369 ++ (⟨#[45, 87]⟩ : ByteArray)) ++ t370).size + 1 ≤ 9223372036854775807 then ((trystref01_number.f k bt364.2.2.1 0).bind fun t371 => (if (((t369 ++ (⟨#[45, 87]⟩ : ByteArray)) ++ t370) ++ (⟨#[45]⟩ : ByteArray)).size + t371.size ≤ 9223372036854775807 then (some ((((t369 ++ (⟨#[45, 87]⟩ : ByteArray)) ++ t370) ++ (⟨#[45]⟩ : ByteArray)) ++ t371)) else (none))) else (none)) else (none))) else (none))) else ((trystref01_number.f k bt364.1 0).bind fun t372 => (if t372.size + 1 ≤ 9223372036854775807 then ((trystref01_number.f k bt364.2.1 0).bind fun t373 => (if (t372 ++ (⟨#[45]⟩ : ByteArray)).size + t373.size ≤ 9223372036854775807 then (if ((t372 ++ (⟨#[45]⟩ : ByteArray)) ++ t373).size + 1 ≤ 9223372036854775807 then ((trystref01_number.f k bt364.2.2.1 0).bind fun t374 => (if (((t372 ++ (⟨#[45]⟩ : ByteArray)) ++ t373) ++ (⟨#[45]⟩ : ByteArray)).size + t374.size ≤ 9223372036854775807 then (some ((((t372 ++ (⟨#[45]⟩ : ByteArray)) ++ t373) ++ (⟨#[45]⟩ : ByteArray)) ++ t374)) else (none))) else (none)) else (none))) else (none)))) else (some (⟨#[]⟩ : ByteArray)))
def trystref01_Text.T7 : Bool × List (List Nat × List Nat) := (true, [([], []), ([0], [0]), ([1], [1]), ([], []), ([2, 3], [2, 3]), ([], []), ([5], [5]), ([6, 2], [6]), ([4, 7], [4, 7]), ([8], [8]), ([], []), ([10], [10]), ([11, 7], [11]), ([9, 12], [9, 12]), ([13, 12, 0, 1, 2, 3, 4, 5, 6, 7, 8, 9, 10, 11, 12, 13], [13])])
def trystref01_Text.B7 : List Nat := [0, 1, 3, 0, 15, 0, 32, 103, 255, 511, 0, 1024, 3303, 8191, 16383]
theorem trystref01_Text.tab7 : rtab .any (opsOf Tryd.f11 7) = trystref01_Text.T7 := by kernel_rfl
theorem trystref01_Text.bits7 : waitsOk trystref01_Text.T7.2 trystref01_Text.B7 = true := by kernel_rfl
set_option maxHeartbeats 8000000 in
set_option maxRecDepth 100000 in
theorem trystref01_Text.calls (k : Nat) (a0 : Int) (a1 : Int) (r : ByteArray) (w : World) (h : trystref01_Text.f k a0 a1 = some r) :
  Calls Tryd.prog 11 #[.int .i64 a0, .int .i64 a1] w fun e w' => e = .returned (.string r) ∧ Below w.heap.size w w' := by
 have hu24 := Tryd.underlying24
 have HB := Aside0.mk (Below.refl w.heap.size w)
 have H : ((trystref01_Date.f k a0 a1).bind fun bt364 => (if bt364.2.2.2 = 0 then (if a0 = 2 then ((trystref01_number.f k bt364.1 0).bind fun t369 => (if t369.size + 2 ≤ 9223372036854775807 then ((trystref01_number.f k bt364.2.1 0).bind fun t370 => (if (t369 ++ (⟨#[45, 87]⟩ : ByteArray)).size + t370.size ≤ 9223372036854775807 then (if ((t369 ++ (⟨#[45, 87]⟩ : ByteArray)) ++ t370).size + 1 ≤ 9223372036854775807 then ((trystref01_number.f k bt364.2.2.1 0).bind fun t371 => (if (((t369 ++ (⟨#[45, 87]⟩ : ByteArray)) ++ t370) ++ (⟨#[45]⟩ : ByteArray)).size + t371.size ≤ 9223372036854775807 then (some ((((t369 ++ (⟨#[45, 87]⟩ : ByteArray)) ++ t370) ++ (⟨#[45]⟩ : ByteArray)) ++ t371)) else (none))) else (none)) else (none))) else (none))) else ((trystref01_number.f k bt364.1 0).bind fun t372 => (if t372.size + 1 ≤ 9223372036854775807 then ((trystref01_number.f k bt364.2.1 0).bind fun t373 => (if (t372 ++ (⟨#[45]⟩ : ByteArray)).size + t373.size ≤ 9223372036854775807 then (if ((t372 ++ (⟨#[45]⟩ : ByteArray)) ++ t373).size + 1 ≤ 9223372036854775807 then ((trystref01_number.f k bt364.2.2.1 0).bind fun t374 => (if (((t372 ++ (⟨#[45]⟩ : ByteArray)) ++ t373) ++ (⟨#[45]⟩ : ByteArray)).size + t374.size ≤ 9223372036854775807 then (some ((((t372 ++ (⟨#[45]⟩ : ByteArray)) ++ t373) ++ (⟨#[45]⟩ : ByteArray)) ++ t374)) else (none))) else (none)) else (none))) else (none)))) else (some (⟨#[]⟩ : ByteArray)))) = some r := h
 clear h
 replace H := Option.bind_eq_some_iff.mp H
 obtain ⟨⟨t364, t365, t366, t367⟩, A30, H⟩ := H
 replace H : (if t367 = 0 then (if a0 = 2 then ((trystref01_number.f k t364 0).bind fun t369 => (if t369.size + 2 ≤ 9223372036854775807 then ((trystref01_number.f k t365 0).bind fun t370 => (if (t369 ++ (⟨#[45, 87]⟩ : ByteArray)).size + t370.size ≤ 9223372036854775807 then (if ((t369 ++ (⟨#[45, 87]⟩ : ByteArray)) ++ t370).size + 1 ≤ 9223372036854775807 then ((trystref01_number.f k t366 0).bind fun t371 => (if (((t369 ++ (⟨#[45, 87]⟩ : ByteArray)) ++ t370) ++ (⟨#[45]⟩ : ByteArray)).size + t371.size ≤ 9223372036854775807 then (some ((((t369 ++ (⟨#[45, 87]⟩ : ByteArray)) ++ t370) ++ (⟨#[45]⟩ : ByteArray)) ++ t371)) else (none))) else (none)) else (none))) else (none))) else ((trystref01_number.f k t364 0).bind fun t372 => (if t372.size + 1 ≤ 9223372036854775807 then ((trystref01_number.f k t365 0).bind fun t373 => (if (t372 ++ (⟨#[45]⟩ : ByteArray)).size + t373.size ≤ 9223372036854775807 then (if ((t372 ++ (⟨#[45]⟩ : ByteArray)) ++ t373).size + 1 ≤ 9223372036854775807 then ((trystref01_number.f k t366 0).bind fun t374 => (if (((t372 ++ (⟨#[45]⟩ : ByteArray)) ++ t373) ++ (⟨#[45]⟩ : ByteArray)).size + t374.size ≤ 9223372036854775807 then (some ((((t372 ++ (⟨#[45]⟩ : ByteArray)) ++ t373) ++ (⟨#[45]⟩ : ByteArray)) ++ t374)) else (none))) else (none)) else (none))) else (none)))) else (some (⟨#[]⟩ : ByteArray))) = some r := H
 have A3 := Aside0.mk A30
 clear A30
 by_cases c4 : t367 = 0
 ·rw [if_pos c4] at H
  have c4b0 : (t367 == 0) = true := beq_iff_eq.mpr c4
  have c4b1 : (t367 != 0) = false := bne_eq_false_iff_eq.mpr c4
  clear c4
  by_cases c5 : a0 = 2
  ·rw [if_pos c5] at H
   have c5b0 : (a0 == 2) = true := beq_iff_eq.mpr c5
   have c5b1 : (a0 != 2) = false := bne_eq_false_iff_eq.mpr c5
   clear c5
   replace H := Option.bind_eq_some_iff.mp H
   obtain ⟨t369, A60, H⟩ := H
   replace H : (if t369.size + 2 ≤ 9223372036854775807 then ((trystref01_number.f k t365 0).bind fun t370 => (if (t369 ++ (⟨#[45, 87]⟩ : ByteArray)).size + t370.size ≤ 9223372036854775807 then (if ((t369 ++ (⟨#[45, 87]⟩ : ByteArray)) ++ t370).size + 1 ≤ 9223372036854775807 then ((trystref01_number.f k t366 0).bind fun t371 => (if (((t369 ++ (⟨#[45, 87]⟩ : ByteArray)) ++ t370) ++ (⟨#[45]⟩ : ByteArray)).size + t371.size ≤ 9223372036854775807 then (some ((((t369 ++ (⟨#[45, 87]⟩ : ByteArray)) ++ t370) ++ (⟨#[45]⟩ : ByteArray)) ++ t371)) else (none))) else (none)) else (none))) else (none)) = some r := H
   have A6 := Aside0.mk A60
   clear A60
   by_cases c7 : t369.size + 2 ≤ 9223372036854775807
   ·rw [if_pos c7] at H
    have c7b0 := eq_true c7
    have c7b1 : decide (t369.size + 2 ≤ 9223372036854775807) = true := decide_eq_true c7
    try have c7b2 : (9223372036854775807 < t369.size + 2) = False := eq_false (Nat.not_lt.2 c7)
    try (have c7b3 := c7b2; simp only [ByteArray.size_append, bs1_, bs2_] at c7b3)
    replace H := Option.bind_eq_some_iff.mp H
    obtain ⟨t370, A80, H⟩ := H
    replace H : (if (t369 ++ (⟨#[45, 87]⟩ : ByteArray)).size + t370.size ≤ 9223372036854775807 then (if ((t369 ++ (⟨#[45, 87]⟩ : ByteArray)) ++ t370).size + 1 ≤ 9223372036854775807 then ((trystref01_number.f k t366 0).bind fun t371 => (if (((t369 ++ (⟨#[45, 87]⟩ : ByteArray)) ++ t370) ++ (⟨#[45]⟩ : ByteArray)).size + t371.size ≤ 9223372036854775807 then (some ((((t369 ++ (⟨#[45, 87]⟩ : ByteArray)) ++ t370) ++ (⟨#[45]⟩ : ByteArray)) ++ t371)) else (none))) else (none)) else (none)) = some r := H
    have A8 := Aside0.mk A80
    clear A80
    by_cases c9 : (t369 ++ (⟨#[45, 87]⟩ : ByteArray)).size + t370.size ≤ 9223372036854775807
    ·rw [if_pos c9] at H
     have c9b0 := eq_true c9
     have c9b1 : decide ((t369 ++ (⟨#[45, 87]⟩ : ByteArray)).size + t370.size ≤ 9223372036854775807) = true := decide_eq_true c9
     try have c9b2 : (9223372036854775807 < (t369 ++ (⟨#[45, 87]⟩ : ByteArray)).size + t370.size) = False := eq_false (Nat.not_lt.2 c9)
     try (have c9b3 := c9b2; simp only [ByteArray.size_append, bs1_, bs2_] at c9b3)
     by_cases c10 : ((t369 ++ (⟨#[45, 87]⟩ : ByteArray)) ++ t370).size + 1 ≤ 9223372036854775807
     ·rw [if_pos c10] at H
      have c10b0 := eq_true c10
      have c10b1 : decide (((t369 ++ (⟨#[45, 87]⟩ : ByteArray)) ++ t370).size + 1 ≤ 9223372036854775807) = true := decide_eq_true c10
      try have c10b2 : (9223372036854775807 < ((t369 ++ (⟨#[45, 87]⟩ : ByteArray)) ++ t370).size + 1) = False := eq_false (Nat.not_lt.2 c10)
      try (have c10b3 := c10b2; simp only [ByteArray.size_append, bs1_, bs2_] at c10b3)
      replace H := Option.bind_eq_some_iff.mp H
      obtain ⟨t371, A110, H⟩ := H
      replace H : (if (((t369 ++ (⟨#[45, 87]⟩ : ByteArray)) ++ t370) ++ (⟨#[45]⟩ : ByteArray)).size + t371.size ≤ 9223372036854775807 then (some ((((t369 ++ (⟨#[45, 87]⟩ : ByteArray)) ++ t370) ++ (⟨#[45]⟩ : ByteArray)) ++ t371)) else (none)) = some r := H
      have A11 := Aside0.mk A110
      clear A110
      by_cases c12 : (((t369 ++ (⟨#[45, 87]⟩ : ByteArray)) ++ t370) ++ (⟨#[45]⟩ : ByteArray)).size + t371.size ≤ 9223372036854775807
      ·rw [if_pos c12] at H
       have c12b0 := eq_true c12
       have c12b1 : decide ((((t369 ++ (⟨#[45, 87]⟩ : ByteArray)) ++ t370) ++ (⟨#[45]⟩ : ByteArray)).size + t371.size ≤ 9223372036854775807) = true := decide_eq_true c12
       try have c12b2 : (9223372036854775807 < (((t369 ++ (⟨#[45, 87]⟩ : ByteArray)) ++ t370) ++ (⟨#[45]⟩ : ByteArray)).size + t371.size) = False := eq_false (Nat.not_lt.2 c12)
       try (have c12b3 := c12b2; simp only [ByteArray.size_append, bs1_, bs2_] at c12b3)
       obtain rfl := Option.some.inj H
       go_enter Tryd.func11, Tryd.ntmps11
       try go_wp2_with (first | ((with_reducible refine gate_callee (f := 10) rfl ?_); refine goesL_ (some 11) rfl rfl Tryd.func10 (by kernel_rfl) rfl #[.int .i64 a0, .int .i64 a1] rfl (by (try simp only [List.map_toArray, List.map_cons, List.map_nil]); first | done | rfl | (simp only [List.length_drop, List.length_take]; rfl)) ?_; (with_reducible refine (trystref01_Date.calls k a0 a1 t364 t365 t366 t367 _ A3.out).mono ?_); rintro e w13 ⟨rfl, hb⟩; refine ⟨_, rfl, ?_⟩; have n0_ := Aside0.mk (below_step (by repeat (first | (with_reducible first | exact HB.out | apply below_alloc | apply pw_below_drewN | apply below_drew1) | exact HB.out)) hb); clear HB; have HB := n0_; clear n0_; (try clear hb); (try clear hb2); (try clear hk); (try clear hi)) | ((with_reducible refine gate_dst (N := 5) rfl ?_); refine box_event ?hg (N := 5) ?hd (cs := #[.int .i64 0, .int .i64 0, .int .i64 0]) (t := 24) ?hr ?_; (case hd => rfl); (case hg => rfl); (case hr => first | (go_simp; done) | (go_simp; rfl)); intro gb368 hg w14 hbox hb; have n0_ := Aside0.mk (below_step (by repeat (first | (with_reducible first | exact HB.out | apply below_alloc | apply pw_below_drewN | apply below_drew1) | exact HB.out)) hb); have n1_ := Aside0.mk (hbox); have n2_ := Aside0.mk ((by rw [hg]; exact (below_size (by repeat (first | (with_reducible first | exact HB.out | apply below_alloc | apply pw_below_drewN | apply below_drew1) | exact HB.out))) : w.heap.size ≤ gb368)); have n3_ := Aside0.mk ((by rw [hg]; exact (below_size (by repeat (first | (with_reducible first | exact HB.out | apply below_alloc | apply pw_below_drewN | apply below_drew1) | exact HB.out))) : w.heap.size ≤ gb368)); clear HB; have HB := n0_; have BK368 := n1_; have GW368 := n2_; have GE368 := n3_; clear n0_ n1_ n2_ n3_; clear hb hbox hg; have hcz15_0 : w14.cell? ⟨gb368, 0, none⟩ = some (.int .i64 0) := (blk_cell BK368.out 0).trans rfl; have hcz15_1 : w14.cell? ⟨gb368, 1, none⟩ = some (.int .i64 0) := (blk_cell BK368.out 1).trans rfl; have hcz15_2 : w14.cell? ⟨gb368, 2, none⟩ = some (.int .i64 0) := (blk_cell BK368.out 2).trans rfl; have hfz15_0 := blk_frozen BK368.out 0; have hfz15_1 := blk_frozen BK368.out 1; have hfz15_2 := blk_frozen BK368.out 2))
       have n0_ : Aside0 ((((w14.setCell ⟨gb368, 0, none⟩ (.int .i64 t364)).setCell ⟨gb368, 1, none⟩ (.int .i64 t365)).setCell ⟨gb368, 2, none⟩ (.int .i64 t366)).heap[gb368]? = some (.cells #[.int .i64 t364, .int .i64 t365, .int .i64 t366] 24 (0, 0))) := ⟨by (with_reducible repeat (first | refine blk_drewN ?_ _ | refine blk_drew ?_ | refine blk_alloc ?_ _)); refine blk_put (cs := #[.int .i64 t364, .int .i64 t365, .int .i64 0]) ?_ 2 _ rfl; (with_reducible repeat (first | refine blk_drewN ?_ _ | refine blk_drew ?_ | refine blk_alloc ?_ _)); refine blk_put (cs := #[.int .i64 t364, .int .i64 0, .int .i64 0]) ?_ 1 _ rfl; (with_reducible repeat (first | refine blk_drewN ?_ _ | refine blk_drew ?_ | refine blk_alloc ?_ _)); refine blk_put (cs := #[.int .i64 0, .int .i64 0, .int .i64 0]) ?_ 0 _ rfl; (with_reducible repeat (first | refine blk_drewN ?_ _ | refine blk_drew ?_ | refine blk_alloc ?_ _)); exact BK368.out⟩
       have n1_ : Aside0 (Below w.heap.size w (((w14.setCell ⟨gb368, 0, none⟩ (.int .i64 t364)).setCell ⟨gb368, 1, none⟩ (.int .i64 t365)).setCell ⟨gb368, 2, none⟩ (.int .i64 t366))) := ⟨by repeat (first | (with_reducible first | exact HB.out | apply below_alloc | apply pw_below_drewN | apply below_drew1 | refine below_set ?_ GE368.out) | exact HB.out)⟩
       (try clear BK368)
       (try clear HB)
       generalize (((w14.setCell ⟨gb368, 0, none⟩ (.int .i64 t364)).setCell ⟨gb368, 1, none⟩ (.int .i64 t365)).setCell ⟨gb368, 2, none⟩ (.int .i64 t366)) = w16 at n0_ n1_ ⊢
       have BK368 := n0_
       have HB := n1_
       clear n0_ n1_
       have n0_ := Aside0.mk (blk_drew BK368.out)
       have n1_ := Aside0.mk (below_drew1 HB.out)
       clear BK368
       clear HB
       have BK368 := n0_
       have HB := n1_
       clear n0_ n1_
       refine start_ (n := 15) (S := fun w' => w'.cell? ⟨gb368, 0, none⟩ = some (.int .i64 t364) ∧ w'.cell? ⟨gb368, 1, none⟩ = some (.int .i64 t365) ∧ w'.cell? ⟨gb368, 2, none⟩ = some (.int .i64 t366)) (ds := []) #[false, false, false, false, false, false, false, false, false, false, false, false, false, false, false] (by kernel_rfl) rfl rfl ⟨(blk_cell BK368.out 0).trans rfl, (blk_cell BK368.out 1).trans rfl, (blk_cell BK368.out 2).trans rfl⟩ (fun hHeld => ?_); refine with_tabW trystref01_Text.tab7 trystref01_Text.bits7 (fun HT_ HW_ => ?_)
       generalize w16.drew = w17 at BK368 HB hHeld ⊢
       refine pure_ (i := 0) (N := some 18) (v := ?_) (a' := ?_) #[true, false, false, false, false, false, false, false, false, false, false, false, false, false, false] rfl rfl (any_of HT_.out (by kernel_rfl)) (fun _ _ _ h => h) (Or.inl ⟨by rfl, ?_⟩) ?_ ?_
       rotate_left
       ·intro w'
        go_simp
        with_reducible rfl
       rotate_left
       ·simp only [Act.put, List.setIfInBounds_toArray, List.set_cons_zero, List.set_cons_succ, i64_w, i32_w]
        rfl
       refine pure_ (i := 3) (N := some 21) (v := ?_) (a' := ?_) #[true, false, false, true, false, false, false, false, false, false, false, false, false, false, false] rfl rfl (any_of HT_.out (by kernel_rfl)) (fun _ _ _ h => h) (Or.inl ⟨by rfl, ?_⟩) ?_ ?_
       rotate_left
       ·intro w'
        go_simp
        with_reducible rfl
       rotate_left
       ·simp only [Act.put, List.setIfInBounds_toArray, List.set_cons_zero, List.set_cons_succ, i64_w, i32_w]
        rfl
       refine pure_ (i := 5) (N := some 23) (v := ?_) (a' := ?_) #[true, false, false, true, false, true, false, false, false, false, false, false, false, false, false] rfl rfl (any_of HT_.out (by kernel_rfl)) (fun _ _ _ h => h) (Or.inl ⟨by rfl, ?_⟩) ?_ ?_
       rotate_left
       ·intro w'
        go_simp
        with_reducible rfl
       rotate_left
       ·simp only [Act.put, List.setIfInBounds_toArray, List.set_cons_zero, List.set_cons_succ, i64_w, i32_w]
        rfl
       refine pure_ (i := 10) (N := some 28) (v := ?_) (a' := ?_) #[true, false, false, true, false, true, false, false, false, false, true, false, false, false, false] rfl rfl (any_of HT_.out (by kernel_rfl)) (fun _ _ _ h => h) (Or.inl ⟨by rfl, ?_⟩) ?_ ?_
       rotate_left
       ·intro w'
        go_simp
        with_reducible rfl
       rotate_left
       ·simp only [Act.put, List.setIfInBounds_toArray, List.set_cons_zero, List.set_cons_succ, i64_w, i32_w]
        rfl
       refine take_ (i := 1) (N := some 19) (v := ?_) (a' := ?_) #[true, true, false, true, false, true, false, false, false, false, true, false, false, false, false] rfl rfl (take_ofW HT_.out HW_.out (by kernel_rfl)) (fun _ _ _ h => h) (Or.inl ⟨by rfl, ?_⟩) hHeld ?_ ?_
       rotate_left
       ·rintro w' ⟨s0, s1, s2⟩
        go_simp
        with_reducible rfl
       rotate_left
       ·simp only [Act.put, List.setIfInBounds_toArray, List.set_cons_zero, List.set_cons_succ, i64_w, i32_w]
        rfl
       refine take_ (i := 6) (N := some 24) (v := ?_) (a' := ?_) #[true, true, false, true, false, true, true, false, false, false, true, false, false, false, false] rfl rfl (take_ofW HT_.out HW_.out (by kernel_rfl)) (fun _ _ _ h => h) (Or.inl ⟨by rfl, ?_⟩) hHeld ?_ ?_
       rotate_left
       ·rintro w' ⟨s0, s1, s2⟩
        go_simp
        with_reducible rfl
       rotate_left
       ·simp only [Act.put, List.setIfInBounds_toArray, List.set_cons_zero, List.set_cons_succ, i64_w, i32_w]
        rfl
       refine take_ (i := 11) (N := some 29) (v := ?_) (a' := ?_) #[true, true, false, true, false, true, true, false, false, false, true, true, false, false, false] rfl rfl (take_ofW HT_.out HW_.out (by kernel_rfl)) (fun _ _ _ h => h) (Or.inl ⟨by rfl, ?_⟩) hHeld ?_ ?_
       rotate_left
       ·rintro w' ⟨s0, s1, s2⟩
        go_simp
        with_reducible rfl
       rotate_left
       ·simp only [Act.put, List.setIfInBounds_toArray, List.set_cons_zero, List.set_cons_succ, i64_w, i32_w]
        rfl
       refine one_ (i := 2) (N := some 20) #[true, true, true, true, false, true, true, false, false, false, true, true, false, false, false] rfl rfl (one_of HT_.out (by kernel_rfl)) (by decide) (fun K hK => ?_)
       refine goes_ Tryd.func34 (by kernel_rfl) rfl #[.int .i64 t364, .int .i64 0] (by rfl) rfl rfl (by (try simp only [List.map_toArray, List.map_cons, List.map_nil]); first | done | rfl | (simp only [List.length_drop, List.length_take]; rfl)) ?_
       with_reducible refine (trystref01_number.calls k t364 0 t369 _ A6.out).mono ?_
       rintro e w18 ⟨rfl, hb⟩
       refine ⟨_, rfl, ?_⟩
       have n0_ := Aside0.mk (blk_below (g := gb368) (o := .cells #[.int .i64 t364, .int .i64 t365, .int .i64 t366] 24 (0, 0)) (by (with_reducible repeat (first | refine blk_drewN ?_ _ | refine blk_drew ?_ | refine blk_alloc ?_ _)); exact BK368.out) hb)
       have n1_ := Aside0.mk (below_step (by repeat (first | (with_reducible first | exact HB.out | apply below_alloc | apply pw_below_drewN | apply below_drew1 | refine below_set ?_ GE368.out) | exact HB.out)) hb)
       clear BK368
       clear HB
       have BK368 := n0_
       have HB := n1_
       clear n0_ n1_
       (try clear hb)
       (try clear hb2)
       (try clear hk)
       (try clear hi)
       refine hK.out _ _ ⟨(blk_cell BK368.out 0).trans rfl, (blk_cell BK368.out 1).trans rfl, (blk_cell BK368.out 2).trans rfl⟩ (fun hHeld => ?_)
       clear hK K
       refine norm_ (a' := ?_) ?_ ?_
       rotate_left
       ·show Act.put _ (some 20) _ = _
        simp only [Act.put, List.setIfInBounds_toArray, List.set_cons_zero, List.set_cons_succ, i64_w, i32_w]
        rfl
       refine pure_ (i := 4) (N := some 22) (v := ?_) (a' := ?_) #[true, true, true, true, true, true, true, false, false, false, true, true, false, false, false] rfl rfl (any_of HT_.out (by kernel_rfl)) (fun _ _ _ h => h) (Or.inl ⟨by rfl, ?_⟩) ?_ ?_
       rotate_left
       ·intro w'
        go_simp
        with_reducible rfl
       rotate_left
       ·simp only [Act.put, List.setIfInBounds_toArray, List.set_cons_zero, List.set_cons_succ, i64_w, i32_w]
        rfl
       refine one_ (i := 7) (N := some 25) #[true, true, true, true, true, true, true, true, false, false, true, true, false, false, false] rfl rfl (one_of HT_.out (by kernel_rfl)) (by decide) (fun K hK => ?_)
       refine goes_ Tryd.func34 (by kernel_rfl) rfl #[.int .i64 t365, .int .i64 0] (by rfl) rfl rfl (by (try simp only [List.map_toArray, List.map_cons, List.map_nil]); first | done | rfl | (simp only [List.length_drop, List.length_take]; rfl)) ?_
       with_reducible refine (trystref01_number.calls k t365 0 t370 _ A8.out).mono ?_
       rintro e w19 ⟨rfl, hb⟩
       refine ⟨_, rfl, ?_⟩
       have n0_ := Aside0.mk (blk_below (g := gb368) (o := .cells #[.int .i64 t364, .int .i64 t365, .int .i64 t366] 24 (0, 0)) (by (with_reducible repeat (first | refine blk_drewN ?_ _ | refine blk_drew ?_ | refine blk_alloc ?_ _)); exact BK368.out) hb)
       have n1_ := Aside0.mk (below_step (by repeat (first | (with_reducible first | exact HB.out | apply below_alloc | apply pw_below_drewN | apply below_drew1 | refine below_set ?_ GE368.out) | exact HB.out)) hb)
       clear BK368
       clear HB
       have BK368 := n0_
       have HB := n1_
       clear n0_ n1_
       (try clear hb)
       (try clear hb2)
       (try clear hk)
       (try clear hi)
       refine hK.out _ _ ⟨(blk_cell BK368.out 0).trans rfl, (blk_cell BK368.out 1).trans rfl, (blk_cell BK368.out 2).trans rfl⟩ (fun hHeld => ?_)
       clear hK K
       refine norm_ (a' := ?_) ?_ ?_
       rotate_left
       ·show Act.put _ (some 25) _ = _
        simp only [Act.put, List.setIfInBounds_toArray, List.set_cons_zero, List.set_cons_succ, i64_w, i32_w]
        rfl
       refine pure_ (i := 8) (N := some 26) (v := ?_) (a' := ?_) #[true, true, true, true, true, true, true, true, true, false, true, true, false, false, false] rfl rfl (any_of HT_.out (by kernel_rfl)) (fun _ _ _ h => h) (Or.inl ⟨by rfl, ?_⟩) ?_ ?_
       rotate_left
       ·intro w'
        go_simp
        with_reducible rfl
       rotate_left
       ·simp only [Act.put, List.setIfInBounds_toArray, List.set_cons_zero, List.set_cons_succ, i64_w, i32_w]
        rfl
       refine pure_ (i := 9) (N := some 27) (v := ?_) (a' := ?_) #[true, true, true, true, true, true, true, true, true, true, true, true, false, false, false] rfl rfl (any_of HT_.out (by kernel_rfl)) (fun _ _ _ h => h) (Or.inl ⟨by rfl, ?_⟩) ?_ ?_
       rotate_left
       ·intro w'
        go_simp
        with_reducible rfl
       rotate_left
       ·simp only [Act.put, List.setIfInBounds_toArray, List.set_cons_zero, List.set_cons_succ, i64_w, i32_w]
        rfl
       refine one_ (i := 12) (N := some 30) #[true, true, true, true, true, true, true, true, true, true, true, true, true, false, false] rfl rfl (one_of HT_.out (by kernel_rfl)) (by decide) (fun K hK => ?_)
       refine goes_ Tryd.func34 (by kernel_rfl) rfl #[.int .i64 t366, .int .i64 0] (by rfl) rfl rfl (by (try simp only [List.map_toArray, List.map_cons, List.map_nil]); first | done | rfl | (simp only [List.length_drop, List.length_take]; rfl)) ?_
       with_reducible refine (trystref01_number.calls k t366 0 t371 _ A11.out).mono ?_
       rintro e w20 ⟨rfl, hb⟩
       refine ⟨_, rfl, ?_⟩
       have n0_ := Aside0.mk (blk_below (g := gb368) (o := .cells #[.int .i64 t364, .int .i64 t365, .int .i64 t366] 24 (0, 0)) (by (with_reducible repeat (first | refine blk_drewN ?_ _ | refine blk_drew ?_ | refine blk_alloc ?_ _)); exact BK368.out) hb)
       have n1_ := Aside0.mk (below_step (by repeat (first | (with_reducible first | exact HB.out | apply below_alloc | apply pw_below_drewN | apply below_drew1 | refine below_set ?_ GE368.out) | exact HB.out)) hb)
       clear BK368
       clear HB
       have BK368 := n0_
       have HB := n1_
       clear n0_ n1_
       (try clear hb)
       (try clear hb2)
       (try clear hk)
       (try clear hi)
       refine hK.out _ _ ⟨(blk_cell BK368.out 0).trans rfl, (blk_cell BK368.out 1).trans rfl, (blk_cell BK368.out 2).trans rfl⟩ (fun hHeld => ?_)
       clear hK K
       refine norm_ (a' := ?_) ?_ ?_
       rotate_left
       ·show Act.put _ (some 30) _ = _
        simp only [Act.put, List.setIfInBounds_toArray, List.set_cons_zero, List.set_cons_succ, i64_w, i32_w]
        rfl
       refine pure_ (i := 13) (N := some 31) (v := ?_) (a' := ?_) #[true, true, true, true, true, true, true, true, true, true, true, true, true, true, false] rfl rfl (any_of HT_.out (by kernel_rfl)) (fun _ _ _ h => h) (Or.inl ⟨by rfl, ?_⟩) ?_ ?_
       rotate_left
       ·intro w'
        go_simp
        with_reducible rfl
       rotate_left
       ·simp only [Act.put, List.setIfInBounds_toArray, List.set_cons_zero, List.set_cons_succ, i64_w, i32_w]
        rfl
       refine pure_ (i := 14) (N := some 4) (v := ?_) (a' := ?_) #[true, true, true, true, true, true, true, true, true, true, true, true, true, true, true] rfl rfl (any_of HT_.out (by kernel_rfl)) (fun _ _ _ h => h) (Or.inl ⟨by rfl, ?_⟩) ?_ ?_
       rotate_left
       ·intro w'
        go_simp
        with_reducible rfl
       rotate_left
       ·simp only [Act.put, List.setIfInBounds_toArray, List.set_cons_zero, List.set_cons_succ, i64_w, i32_w]
        rfl
       refine done_ (done_of HT_.out (by kernel_rfl)) ?_
       try go_wp2
       go_ret
       exact ⟨by first | rfl | (simp [errW_none, errW_some] <;> rfl) | (simp [*, errW_none, errW_some] <;> rfl), by repeat (first | (with_reducible first | exact HB.out | apply below_alloc | apply pw_below_drewN | apply below_drew1 | refine below_set ?_ GE368.out) | exact HB.out)⟩
      ·rw [if_neg c12] at H
       exact absurd H (by simp)
     ·rw [if_neg c10] at H
      exact absurd H (by simp)
    ·rw [if_neg c9] at H
     exact absurd H (by simp)
   ·rw [if_neg c7] at H
    exact absurd H (by simp)
  ·rw [if_neg c5] at H
   have c5b0 : (a0 == 2) = false := beq_eq_false_iff_ne.mpr c5
   have c5b1 : (a0 != 2) = true := bne_iff_ne.mpr c5
   replace H := Option.bind_eq_some_iff.mp H
   obtain ⟨t372, A210, H⟩ := H
   replace H : (if t372.size + 1 ≤ 9223372036854775807 then ((trystref01_number.f k t365 0).bind fun t373 => (if (t372 ++ (⟨#[45]⟩ : ByteArray)).size + t373.size ≤ 9223372036854775807 then (if ((t372 ++ (⟨#[45]⟩ : ByteArray)) ++ t373).size + 1 ≤ 9223372036854775807 then ((trystref01_number.f k t366 0).bind fun t374 => (if (((t372 ++ (⟨#[45]⟩ : ByteArray)) ++ t373) ++ (⟨#[45]⟩ : ByteArray)).size + t374.size ≤ 9223372036854775807 then (some ((((t372 ++ (⟨#[45]⟩ : ByteArray)) ++ t373) ++ (⟨#[45]⟩ : ByteArray)) ++ t374)) else (none))) else (none)) else (none))) else (none)) = some r := H
   have A21 := Aside0.mk A210
   clear A210
   by_cases c22 : t372.size + 1 ≤ 9223372036854775807
   ·rw [if_pos c22] at H
    have c22b0 := eq_true c22
    have c22b1 : decide (t372.size + 1 ≤ 9223372036854775807) = true := decide_eq_true c22
    try have c22b2 : (9223372036854775807 < t372.size + 1) = False := eq_false (Nat.not_lt.2 c22)
    try (have c22b3 := c22b2; simp only [ByteArray.size_append, bs1_, bs2_] at c22b3)
    replace H := Option.bind_eq_some_iff.mp H
    obtain ⟨t373, A230, H⟩ := H
    replace H : (if (t372 ++ (⟨#[45]⟩ : ByteArray)).size + t373.size ≤ 9223372036854775807 then (if ((t372 ++ (⟨#[45]⟩ : ByteArray)) ++ t373).size + 1 ≤ 9223372036854775807 then ((trystref01_number.f k t366 0).bind fun t374 => (if (((t372 ++ (⟨#[45]⟩ : ByteArray)) ++ t373) ++ (⟨#[45]⟩ : ByteArray)).size + t374.size ≤ 9223372036854775807 then (some ((((t372 ++ (⟨#[45]⟩ : ByteArray)) ++ t373) ++ (⟨#[45]⟩ : ByteArray)) ++ t374)) else (none))) else (none)) else (none)) = some r := H
    have A23 := Aside0.mk A230
    clear A230
    by_cases c24 : (t372 ++ (⟨#[45]⟩ : ByteArray)).size + t373.size ≤ 9223372036854775807
    ·rw [if_pos c24] at H
     have c24b0 := eq_true c24
     have c24b1 : decide ((t372 ++ (⟨#[45]⟩ : ByteArray)).size + t373.size ≤ 9223372036854775807) = true := decide_eq_true c24
     try have c24b2 : (9223372036854775807 < (t372 ++ (⟨#[45]⟩ : ByteArray)).size + t373.size) = False := eq_false (Nat.not_lt.2 c24)
     try (have c24b3 := c24b2; simp only [ByteArray.size_append, bs1_, bs2_] at c24b3)
     by_cases c25 : ((t372 ++ (⟨#[45]⟩ : ByteArray)) ++ t373).size + 1 ≤ 9223372036854775807
     ·rw [if_pos c25] at H
      have c25b0 := eq_true c25
      have c25b1 : decide (((t372 ++ (⟨#[45]⟩ : ByteArray)) ++ t373).size + 1 ≤ 9223372036854775807) = true := decide_eq_true c25
      try have c25b2 : (9223372036854775807 < ((t372 ++ (⟨#[45]⟩ : ByteArray)) ++ t373).size + 1) = False := eq_false (Nat.not_lt.2 c25)
      try (have c25b3 := c25b2; simp only [ByteArray.size_append, bs1_, bs2_] at c25b3)
      replace H := Option.bind_eq_some_iff.mp H
      obtain ⟨t374, A260, H⟩ := H
      replace H : (if (((t372 ++ (⟨#[45]⟩ : ByteArray)) ++ t373) ++ (⟨#[45]⟩ : ByteArray)).size + t374.size ≤ 9223372036854775807 then (some ((((t372 ++ (⟨#[45]⟩ : ByteArray)) ++ t373) ++ (⟨#[45]⟩ : ByteArray)) ++ t374)) else (none)) = some r := H
      have A26 := Aside0.mk A260
      clear A260
      by_cases c27 : (((t372 ++ (⟨#[45]⟩ : ByteArray)) ++ t373) ++ (⟨#[45]⟩ : ByteArray)).size + t374.size ≤ 9223372036854775807
      ·rw [if_pos c27] at H
       have c27b0 := eq_true c27
       have c27b1 : decide ((((t372 ++ (⟨#[45]⟩ : ByteArray)) ++ t373) ++ (⟨#[45]⟩ : ByteArray)).size + t374.size ≤ 9223372036854775807) = true := decide_eq_true c27
       try have c27b2 : (9223372036854775807 < (((t372 ++ (⟨#[45]⟩ : ByteArray)) ++ t373) ++ (⟨#[45]⟩ : ByteArray)).size + t374.size) = False := eq_false (Nat.not_lt.2 c27)
       try (have c27b3 := c27b2; simp only [ByteArray.size_append, bs1_, bs2_] at c27b3)
       obtain rfl := Option.some.inj H
       go_enter Tryd.func11, Tryd.ntmps11
       try go_wp2_with (first | ((with_reducible refine gate_callee (f := 10) rfl ?_); refine goesL_ (some 11) rfl rfl Tryd.func10 (by kernel_rfl) rfl #[.int .i64 a0, .int .i64 a1] rfl (by (try simp only [List.map_toArray, List.map_cons, List.map_nil]); first | done | rfl | (simp only [List.length_drop, List.length_take]; rfl)) ?_; (with_reducible refine (trystref01_Date.calls k a0 a1 t364 t365 t366 t367 _ A3.out).mono ?_); rintro e w28 ⟨rfl, hb⟩; refine ⟨_, rfl, ?_⟩; have n0_ := Aside0.mk (below_step (by repeat (first | (with_reducible first | exact HB.out | apply below_alloc | apply pw_below_drewN | apply below_drew1) | exact HB.out)) hb); clear HB; have HB := n0_; clear n0_; (try clear hb); (try clear hb2); (try clear hk); (try clear hi)) | ((with_reducible refine gate_dst (N := 5) rfl ?_); refine box_event ?hg (N := 5) ?hd (cs := #[.int .i64 0, .int .i64 0, .int .i64 0]) (t := 24) ?hr ?_; (case hd => rfl); (case hg => rfl); (case hr => first | (go_simp; done) | (go_simp; rfl)); intro gb368 hg w29 hbox hb; have n0_ := Aside0.mk (below_step (by repeat (first | (with_reducible first | exact HB.out | apply below_alloc | apply pw_below_drewN | apply below_drew1) | exact HB.out)) hb); have n1_ := Aside0.mk (hbox); have n2_ := Aside0.mk ((by rw [hg]; exact (below_size (by repeat (first | (with_reducible first | exact HB.out | apply below_alloc | apply pw_below_drewN | apply below_drew1) | exact HB.out))) : w.heap.size ≤ gb368)); have n3_ := Aside0.mk ((by rw [hg]; exact (below_size (by repeat (first | (with_reducible first | exact HB.out | apply below_alloc | apply pw_below_drewN | apply below_drew1) | exact HB.out))) : w.heap.size ≤ gb368)); clear HB; have HB := n0_; have BK368 := n1_; have GW368 := n2_; have GE368 := n3_; clear n0_ n1_ n2_ n3_; clear hb hbox hg; have hcz30_0 : w29.cell? ⟨gb368, 0, none⟩ = some (.int .i64 0) := (blk_cell BK368.out 0).trans rfl; have hcz30_1 : w29.cell? ⟨gb368, 1, none⟩ = some (.int .i64 0) := (blk_cell BK368.out 1).trans rfl; have hcz30_2 : w29.cell? ⟨gb368, 2, none⟩ = some (.int .i64 0) := (blk_cell BK368.out 2).trans rfl; have hfz30_0 := blk_frozen BK368.out 0; have hfz30_1 := blk_frozen BK368.out 1; have hfz30_2 := blk_frozen BK368.out 2))
       have n0_ : Aside0 ((((w29.setCell ⟨gb368, 0, none⟩ (.int .i64 t364)).setCell ⟨gb368, 1, none⟩ (.int .i64 t365)).setCell ⟨gb368, 2, none⟩ (.int .i64 t366)).heap[gb368]? = some (.cells #[.int .i64 t364, .int .i64 t365, .int .i64 t366] 24 (0, 0))) := ⟨by (with_reducible repeat (first | refine blk_drewN ?_ _ | refine blk_drew ?_ | refine blk_alloc ?_ _)); refine blk_put (cs := #[.int .i64 t364, .int .i64 t365, .int .i64 0]) ?_ 2 _ rfl; (with_reducible repeat (first | refine blk_drewN ?_ _ | refine blk_drew ?_ | refine blk_alloc ?_ _)); refine blk_put (cs := #[.int .i64 t364, .int .i64 0, .int .i64 0]) ?_ 1 _ rfl; (with_reducible repeat (first | refine blk_drewN ?_ _ | refine blk_drew ?_ | refine blk_alloc ?_ _)); refine blk_put (cs := #[.int .i64 0, .int .i64 0, .int .i64 0]) ?_ 0 _ rfl; (with_reducible repeat (first | refine blk_drewN ?_ _ | refine blk_drew ?_ | refine blk_alloc ?_ _)); exact BK368.out⟩
       have n1_ : Aside0 (Below w.heap.size w (((w29.setCell ⟨gb368, 0, none⟩ (.int .i64 t364)).setCell ⟨gb368, 1, none⟩ (.int .i64 t365)).setCell ⟨gb368, 2, none⟩ (.int .i64 t366))) := ⟨by repeat (first | (with_reducible first | exact HB.out | apply below_alloc | apply pw_below_drewN | apply below_drew1 | refine below_set ?_ GE368.out) | exact HB.out)⟩
       (try clear BK368)
       (try clear HB)
       generalize (((w29.setCell ⟨gb368, 0, none⟩ (.int .i64 t364)).setCell ⟨gb368, 1, none⟩ (.int .i64 t365)).setCell ⟨gb368, 2, none⟩ (.int .i64 t366)) = w31 at n0_ n1_ ⊢
       have BK368 := n0_
       have HB := n1_
       clear n0_ n1_
       have n0_ := Aside0.mk (blk_drew BK368.out)
       have n1_ := Aside0.mk (below_drew1 HB.out)
       clear BK368
       clear HB
       have BK368 := n0_
       have HB := n1_
       clear n0_ n1_
       refine start_ (n := 15) (S := fun w' => w'.cell? ⟨gb368, 0, none⟩ = some (.int .i64 t364) ∧ w'.cell? ⟨gb368, 1, none⟩ = some (.int .i64 t365) ∧ w'.cell? ⟨gb368, 2, none⟩ = some (.int .i64 t366)) (ds := []) #[false, false, false, false, false, false, false, false, false, false, false, false, false, false, false] (by kernel_rfl) rfl rfl ⟨(blk_cell BK368.out 0).trans rfl, (blk_cell BK368.out 1).trans rfl, (blk_cell BK368.out 2).trans rfl⟩ (fun hHeld => ?_); refine with_tabW trystref01_Text.tab7 trystref01_Text.bits7 (fun HT_ HW_ => ?_)
       generalize w31.drew = w32 at BK368 HB hHeld ⊢
       refine pure_ (i := 0) (N := some 18) (v := ?_) (a' := ?_) #[true, false, false, false, false, false, false, false, false, false, false, false, false, false, false] rfl rfl (any_of HT_.out (by kernel_rfl)) (fun _ _ _ h => h) (Or.inl ⟨by rfl, ?_⟩) ?_ ?_
       rotate_left
       ·intro w'
        go_simp
        with_reducible rfl
       rotate_left
       ·simp only [Act.put, List.setIfInBounds_toArray, List.set_cons_zero, List.set_cons_succ, i64_w, i32_w]
        rfl
       refine pure_ (i := 3) (N := some 21) (v := ?_) (a' := ?_) #[true, false, false, true, false, false, false, false, false, false, false, false, false, false, false] rfl rfl (any_of HT_.out (by kernel_rfl)) (fun _ _ _ h => h) (Or.inl ⟨by rfl, ?_⟩) ?_ ?_
       rotate_left
       ·intro w'
        go_simp
        with_reducible rfl
       rotate_left
       ·simp only [Act.put, List.setIfInBounds_toArray, List.set_cons_zero, List.set_cons_succ, i64_w, i32_w]
        rfl
       refine pure_ (i := 5) (N := some 23) (v := ?_) (a' := ?_) #[true, false, false, true, false, true, false, false, false, false, false, false, false, false, false] rfl rfl (any_of HT_.out (by kernel_rfl)) (fun _ _ _ h => h) (Or.inl ⟨by rfl, ?_⟩) ?_ ?_
       rotate_left
       ·intro w'
        go_simp
        with_reducible rfl
       rotate_left
       ·simp only [Act.put, List.setIfInBounds_toArray, List.set_cons_zero, List.set_cons_succ, i64_w, i32_w]
        rfl
       refine pure_ (i := 10) (N := some 28) (v := ?_) (a' := ?_) #[true, false, false, true, false, true, false, false, false, false, true, false, false, false, false] rfl rfl (any_of HT_.out (by kernel_rfl)) (fun _ _ _ h => h) (Or.inl ⟨by rfl, ?_⟩) ?_ ?_
       rotate_left
       ·intro w'
        go_simp
        with_reducible rfl
       rotate_left
       ·simp only [Act.put, List.setIfInBounds_toArray, List.set_cons_zero, List.set_cons_succ, i64_w, i32_w]
        rfl
       refine take_ (i := 1) (N := some 19) (v := ?_) (a' := ?_) #[true, true, false, true, false, true, false, false, false, false, true, false, false, false, false] rfl rfl (take_ofW HT_.out HW_.out (by kernel_rfl)) (fun _ _ _ h => h) (Or.inl ⟨by rfl, ?_⟩) hHeld ?_ ?_
       rotate_left
       ·rintro w' ⟨s0, s1, s2⟩
        go_simp
        with_reducible rfl
       rotate_left
       ·simp only [Act.put, List.setIfInBounds_toArray, List.set_cons_zero, List.set_cons_succ, i64_w, i32_w]
        rfl
       refine take_ (i := 6) (N := some 24) (v := ?_) (a' := ?_) #[true, true, false, true, false, true, true, false, false, false, true, false, false, false, false] rfl rfl (take_ofW HT_.out HW_.out (by kernel_rfl)) (fun _ _ _ h => h) (Or.inl ⟨by rfl, ?_⟩) hHeld ?_ ?_
       rotate_left
       ·rintro w' ⟨s0, s1, s2⟩
        go_simp
        with_reducible rfl
       rotate_left
       ·simp only [Act.put, List.setIfInBounds_toArray, List.set_cons_zero, List.set_cons_succ, i64_w, i32_w]
        rfl
       refine take_ (i := 11) (N := some 29) (v := ?_) (a' := ?_) #[true, true, false, true, false, true, true, false, false, false, true, true, false, false, false] rfl rfl (take_ofW HT_.out HW_.out (by kernel_rfl)) (fun _ _ _ h => h) (Or.inl ⟨by rfl, ?_⟩) hHeld ?_ ?_
       rotate_left
       ·rintro w' ⟨s0, s1, s2⟩
        go_simp
        with_reducible rfl
       rotate_left
       ·simp only [Act.put, List.setIfInBounds_toArray, List.set_cons_zero, List.set_cons_succ, i64_w, i32_w]
        rfl
       refine one_ (i := 2) (N := some 20) #[true, true, true, true, false, true, true, false, false, false, true, true, false, false, false] rfl rfl (one_of HT_.out (by kernel_rfl)) (by decide) (fun K hK => ?_)
       refine goes_ Tryd.func34 (by kernel_rfl) rfl #[.int .i64 t364, .int .i64 0] (by rfl) rfl rfl (by (try simp only [List.map_toArray, List.map_cons, List.map_nil]); first | done | rfl | (simp only [List.length_drop, List.length_take]; rfl)) ?_
       with_reducible refine (trystref01_number.calls k t364 0 t372 _ A21.out).mono ?_
       rintro e w33 ⟨rfl, hb⟩
       refine ⟨_, rfl, ?_⟩
       have n0_ := Aside0.mk (blk_below (g := gb368) (o := .cells #[.int .i64 t364, .int .i64 t365, .int .i64 t366] 24 (0, 0)) (by (with_reducible repeat (first | refine blk_drewN ?_ _ | refine blk_drew ?_ | refine blk_alloc ?_ _)); exact BK368.out) hb)
       have n1_ := Aside0.mk (below_step (by repeat (first | (with_reducible first | exact HB.out | apply below_alloc | apply pw_below_drewN | apply below_drew1 | refine below_set ?_ GE368.out) | exact HB.out)) hb)
       clear BK368
       clear HB
       have BK368 := n0_
       have HB := n1_
       clear n0_ n1_
       (try clear hb)
       (try clear hb2)
       (try clear hk)
       (try clear hi)
       refine hK.out _ _ ⟨(blk_cell BK368.out 0).trans rfl, (blk_cell BK368.out 1).trans rfl, (blk_cell BK368.out 2).trans rfl⟩ (fun hHeld => ?_)
       clear hK K
       refine norm_ (a' := ?_) ?_ ?_
       rotate_left
       ·show Act.put _ (some 20) _ = _
        simp only [Act.put, List.setIfInBounds_toArray, List.set_cons_zero, List.set_cons_succ, i64_w, i32_w]
        rfl
       refine pure_ (i := 4) (N := some 22) (v := ?_) (a' := ?_) #[true, true, true, true, true, true, true, false, false, false, true, true, false, false, false] rfl rfl (any_of HT_.out (by kernel_rfl)) (fun _ _ _ h => h) (Or.inl ⟨by rfl, ?_⟩) ?_ ?_
       rotate_left
       ·intro w'
        go_simp
        with_reducible rfl
       rotate_left
       ·simp only [Act.put, List.setIfInBounds_toArray, List.set_cons_zero, List.set_cons_succ, i64_w, i32_w]
        rfl
       refine one_ (i := 7) (N := some 25) #[true, true, true, true, true, true, true, true, false, false, true, true, false, false, false] rfl rfl (one_of HT_.out (by kernel_rfl)) (by decide) (fun K hK => ?_)
       refine goes_ Tryd.func34 (by kernel_rfl) rfl #[.int .i64 t365, .int .i64 0] (by rfl) rfl rfl (by (try simp only [List.map_toArray, List.map_cons, List.map_nil]); first | done | rfl | (simp only [List.length_drop, List.length_take]; rfl)) ?_
       with_reducible refine (trystref01_number.calls k t365 0 t373 _ A23.out).mono ?_
       rintro e w34 ⟨rfl, hb⟩
       refine ⟨_, rfl, ?_⟩
       have n0_ := Aside0.mk (blk_below (g := gb368) (o := .cells #[.int .i64 t364, .int .i64 t365, .int .i64 t366] 24 (0, 0)) (by (with_reducible repeat (first | refine blk_drewN ?_ _ | refine blk_drew ?_ | refine blk_alloc ?_ _)); exact BK368.out) hb)
       have n1_ := Aside0.mk (below_step (by repeat (first | (with_reducible first | exact HB.out | apply below_alloc | apply pw_below_drewN | apply below_drew1 | refine below_set ?_ GE368.out) | exact HB.out)) hb)
       clear BK368
       clear HB
       have BK368 := n0_
       have HB := n1_
       clear n0_ n1_
       (try clear hb)
       (try clear hb2)
       (try clear hk)
       (try clear hi)
       refine hK.out _ _ ⟨(blk_cell BK368.out 0).trans rfl, (blk_cell BK368.out 1).trans rfl, (blk_cell BK368.out 2).trans rfl⟩ (fun hHeld => ?_)
       clear hK K
       refine norm_ (a' := ?_) ?_ ?_
       rotate_left
       ·show Act.put _ (some 25) _ = _
        simp only [Act.put, List.setIfInBounds_toArray, List.set_cons_zero, List.set_cons_succ, i64_w, i32_w]
        rfl
       refine pure_ (i := 8) (N := some 26) (v := ?_) (a' := ?_) #[true, true, true, true, true, true, true, true, true, false, true, true, false, false, false] rfl rfl (any_of HT_.out (by kernel_rfl)) (fun _ _ _ h => h) (Or.inl ⟨by rfl, ?_⟩) ?_ ?_
       rotate_left
       ·intro w'
        go_simp
        with_reducible rfl
       rotate_left
       ·simp only [Act.put, List.setIfInBounds_toArray, List.set_cons_zero, List.set_cons_succ, i64_w, i32_w]
        rfl
       refine pure_ (i := 9) (N := some 27) (v := ?_) (a' := ?_) #[true, true, true, true, true, true, true, true, true, true, true, true, false, false, false] rfl rfl (any_of HT_.out (by kernel_rfl)) (fun _ _ _ h => h) (Or.inl ⟨by rfl, ?_⟩) ?_ ?_
       rotate_left
       ·intro w'
        go_simp
        with_reducible rfl
       rotate_left
       ·simp only [Act.put, List.setIfInBounds_toArray, List.set_cons_zero, List.set_cons_succ, i64_w, i32_w]
        rfl
       refine one_ (i := 12) (N := some 30) #[true, true, true, true, true, true, true, true, true, true, true, true, true, false, false] rfl rfl (one_of HT_.out (by kernel_rfl)) (by decide) (fun K hK => ?_)
       refine goes_ Tryd.func34 (by kernel_rfl) rfl #[.int .i64 t366, .int .i64 0] (by rfl) rfl rfl (by (try simp only [List.map_toArray, List.map_cons, List.map_nil]); first | done | rfl | (simp only [List.length_drop, List.length_take]; rfl)) ?_
       with_reducible refine (trystref01_number.calls k t366 0 t374 _ A26.out).mono ?_
       rintro e w35 ⟨rfl, hb⟩
       refine ⟨_, rfl, ?_⟩
       have n0_ := Aside0.mk (blk_below (g := gb368) (o := .cells #[.int .i64 t364, .int .i64 t365, .int .i64 t366] 24 (0, 0)) (by (with_reducible repeat (first | refine blk_drewN ?_ _ | refine blk_drew ?_ | refine blk_alloc ?_ _)); exact BK368.out) hb)
       have n1_ := Aside0.mk (below_step (by repeat (first | (with_reducible first | exact HB.out | apply below_alloc | apply pw_below_drewN | apply below_drew1 | refine below_set ?_ GE368.out) | exact HB.out)) hb)
       clear BK368
       clear HB
       have BK368 := n0_
       have HB := n1_
       clear n0_ n1_
       (try clear hb)
       (try clear hb2)
       (try clear hk)
       (try clear hi)
       refine hK.out _ _ ⟨(blk_cell BK368.out 0).trans rfl, (blk_cell BK368.out 1).trans rfl, (blk_cell BK368.out 2).trans rfl⟩ (fun hHeld => ?_)
       clear hK K
       refine norm_ (a' := ?_) ?_ ?_
       rotate_left
       ·show Act.put _ (some 30) _ = _
        simp only [Act.put, List.setIfInBounds_toArray, List.set_cons_zero, List.set_cons_succ, i64_w, i32_w]
        rfl
       refine pure_ (i := 13) (N := some 31) (v := ?_) (a' := ?_) #[true, true, true, true, true, true, true, true, true, true, true, true, true, true, false] rfl rfl (any_of HT_.out (by kernel_rfl)) (fun _ _ _ h => h) (Or.inl ⟨by rfl, ?_⟩) ?_ ?_
       rotate_left
       ·intro w'
        go_simp
        with_reducible rfl
       rotate_left
       ·simp only [Act.put, List.setIfInBounds_toArray, List.set_cons_zero, List.set_cons_succ, i64_w, i32_w]
        rfl
       refine pure_ (i := 14) (N := some 4) (v := ?_) (a' := ?_) #[true, true, true, true, true, true, true, true, true, true, true, true, true, true, true] rfl rfl (any_of HT_.out (by kernel_rfl)) (fun _ _ _ h => h) (Or.inl ⟨by rfl, ?_⟩) ?_ ?_
       rotate_left
       ·intro w'
        go_simp
        with_reducible rfl
       rotate_left
       ·simp only [Act.put, List.setIfInBounds_toArray, List.set_cons_zero, List.set_cons_succ, i64_w, i32_w]
        rfl
       refine done_ (done_of HT_.out (by kernel_rfl)) ?_
       try go_wp2
       go_ret
       exact ⟨by first | rfl | (simp [errW_none, errW_some] <;> rfl) | (simp [*, errW_none, errW_some] <;> rfl), by repeat (first | (with_reducible first | exact HB.out | apply below_alloc | apply pw_below_drewN | apply below_drew1 | refine below_set ?_ GE368.out) | exact HB.out)⟩
      ·rw [if_neg c27] at H
       exact absurd H (by simp)
     ·rw [if_neg c25] at H
      exact absurd H (by simp)
    ·rw [if_neg c24] at H
     exact absurd H (by simp)
   ·rw [if_neg c22] at H
    exact absurd H (by simp)
 ·rw [if_neg c4] at H
  have c4b0 : (t367 == 0) = false := beq_eq_false_iff_ne.mpr c4
  have c4b1 : (t367 != 0) = true := bne_iff_ne.mpr c4
  obtain rfl := Option.some.inj H
  go_enter Tryd.func11, Tryd.ntmps11
  go_wp2_with (first | ((with_reducible refine gate_callee (f := 10) rfl ?_); refine goesL_ (some 11) rfl rfl Tryd.func10 (by kernel_rfl) rfl #[.int .i64 a0, .int .i64 a1] rfl (by (try simp only [List.map_toArray, List.map_cons, List.map_nil]); first | done | rfl | (simp only [List.length_drop, List.length_take]; rfl)) ?_; (with_reducible refine (trystref01_Date.calls k a0 a1 t364 t365 t366 t367 _ A3.out).mono ?_); rintro e w36 ⟨rfl, hb⟩; refine ⟨_, rfl, ?_⟩; have n0_ := Aside0.mk (below_step (by repeat (first | (with_reducible first | exact HB.out | apply below_alloc | apply pw_below_drewN | apply below_drew1) | exact HB.out)) hb); clear HB; have HB := n0_; clear n0_; (try clear hb); (try clear hb2); (try clear hk); (try clear hi)) | ((with_reducible refine gate_dst (N := 5) rfl ?_); refine box_event ?hg (N := 5) ?hd (cs := #[.int .i64 0, .int .i64 0, .int .i64 0]) (t := 24) ?hr ?_; (case hd => rfl); (case hg => rfl); (case hr => first | (go_simp; done) | (go_simp; rfl)); intro gb368 hg w37 hbox hb; have n0_ := Aside0.mk (below_step (by repeat (first | (with_reducible first | exact HB.out | apply below_alloc | apply pw_below_drewN | apply below_drew1) | exact HB.out)) hb); have n1_ := Aside0.mk (hbox); have n2_ := Aside0.mk ((by rw [hg]; exact (below_size (by repeat (first | (with_reducible first | exact HB.out | apply below_alloc | apply pw_below_drewN | apply below_drew1) | exact HB.out))) : w.heap.size ≤ gb368)); have n3_ := Aside0.mk ((by rw [hg]; exact (below_size (by repeat (first | (with_reducible first | exact HB.out | apply below_alloc | apply pw_below_drewN | apply below_drew1) | exact HB.out))) : w.heap.size ≤ gb368)); clear HB; have HB := n0_; have BK368 := n1_; have GW368 := n2_; have GE368 := n3_; clear n0_ n1_ n2_ n3_; clear hb hbox hg; have hcz38_0 : w37.cell? ⟨gb368, 0, none⟩ = some (.int .i64 0) := (blk_cell BK368.out 0).trans rfl; have hcz38_1 : w37.cell? ⟨gb368, 1, none⟩ = some (.int .i64 0) := (blk_cell BK368.out 1).trans rfl; have hcz38_2 : w37.cell? ⟨gb368, 2, none⟩ = some (.int .i64 0) := (blk_cell BK368.out 2).trans rfl; have hfz38_0 := blk_frozen BK368.out 0; have hfz38_1 := blk_frozen BK368.out 1; have hfz38_2 := blk_frozen BK368.out 2))
  go_ret
  exact ⟨by first | rfl | (simp [errW_none, errW_some] <;> rfl) | (simp [*, errW_none, errW_some] <;> rfl), by repeat (first | (with_reducible first | exact HB.out | apply below_alloc | apply pw_below_drewN | apply below_drew1 | refine below_set ?_ GE368.out) | exact HB.out)⟩

-- NOT PRINTED: function 3 (trystlaw27_ShowDates)
end Go.Proofs.YtgbbgcepcnklkaaDoor.Q
