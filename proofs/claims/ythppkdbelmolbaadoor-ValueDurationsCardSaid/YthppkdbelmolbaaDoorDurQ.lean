/- The reference's numbers and durations, in plain words. -/
import Derived.Test.YthppkdbelmolbaaDoorQdurN
import Derived.Test.YthppkdbelmolbaaDoorDurD
namespace Go.Proofs.YthppkdbelmolbaaDoor.DurQ
open Go.RowKit Go.Proofs.YthppkdbelmolbaaDoorW.PrintWords Go.Proofs.YthppkdbelmolbaaDoorW.PrintLast Go.Proofs.YthppkdbelmolbaaDoor.Q Go.Proofs.YthppkdbelmolbaaDoor.Cal Go.Proofs.YthppkdbelmolbaaDoor.Bytes Go.Proofs.YthppkdbelmolbaaDoor.DurD
set_option linter.unusedVariables false
set_option linter.unusedSimpArgs false
theorem appB (a b : List UInt8) : (⟨a.toArray⟩ : ByteArray) ++ ⟨b.toArray⟩ = ⟨(a ++ b).toArray⟩ := by
  apply ByteArray.ext
  simp [ByteArray.data_append]
def dg (x : Int) : UInt8 := UInt8.ofNat (48 + (x % 10).toNat)
theorem step (k : Nat) (x : Int) (acc : List UInt8) (h0 : 0 ≤ x) (h1 : x ≤ 100000000000) (ha : acc.length ≤ 100) :
    ((some (([(wrap64 (48 + (Int.tmod x 10))) % 256] : List Int) : List Int)).bind fun y => (if (strOfNums y).size + (⟨acc.toArray⟩ : ByteArray).size ≤ 9223372036854775807 then (trystref12_Number.l0 k (wrap64 (Int.tdiv x 10)) ((strOfNums y) ++ ⟨acc.toArray⟩)) else (none))) = trystref12_Number.l0 k (x / 10) ⟨(dg x :: acc).toArray⟩ := by
  rw [Option.bind_some, Int.tmod_eq_emod_of_nonneg h0, Int.tdiv_eq_ediv_of_nonneg h0, w64 (x := 48 + x % 10) (by omega) (by omega), w64 (x := x / 10) (by omega) (by omega)]
  have e : strOfNums [(48 + x % 10) % 256] = ⟨[dg x].toArray⟩ := by
    unfold strOfNums dg
    have : ((48 + x % 10) % 256).toNat = 48 + (x % 10).toNat := by omega
    simp [this]
  rw [e, sz, sz, if_pos (by simp; omega), appB]
  rfl
theorem numL (D : Nat) : ∀ (u : Int) (acc : List UInt8) (k : Nat), 0 ≤ u → u < 10 ^ D → u ≤ 100000000000 → D + 3 ≤ k → acc.length + D ≤ 90 →
    trystref12_Number.l0 k u ⟨acc.toArray⟩ = some ⟨(if u = 0 ∧ acc ≠ [] then acc else num u ++ acc).toArray⟩ := by
  have zero : ∀ (acc : List UInt8) (k : Nat), 2 ≤ k → acc.length ≤ 90 → trystref12_Number.l0 k 0 ⟨acc.toArray⟩ = some ⟨(if acc ≠ [] then acc else num 0 ++ acc).toArray⟩ := by
    intro acc k hk ha
    obtain ⟨k, rfl⟩ : ∃ m, k = m + 2 := ⟨k - 2, by omega⟩
    simp only [trystref12_Number.l0, tl]
    rw [if_neg (show ¬ (0 : Int) > 0 by omega)]
    by_cases c : acc = []
    · subst c
      have := step (k + 1) 0 [] (by omega) (by omega) (by simp)
      rw [if_pos rfl]
      refine this.trans ?_
      simp only [trystref12_Number.l0, tl]
      rw [if_neg (show ¬ ((0 : Int) / 10) > 0 by omega), if_neg (by simp), if_neg (by simp)]
      unfold num
      rw [Lib.decDigits]
      rfl
    · rw [if_neg c, if_pos c]
  induction D with
  | zero =>
    intro u acc k h0 h1 h2 hk ha
    obtain rfl : u = 0 := by simp at h1; omega
    rw [zero acc k (by omega) (by omega)]
    simp
  | succ D ih =>
    intro u acc k h0 h1 h2 hk ha
    by_cases z : u = 0
    · subst z
      rw [zero acc k (by omega) (by omega)]
      simp
    · obtain ⟨k, rfl⟩ : ∃ m, k = m + 1 := ⟨k - 1, by omega⟩
      simp only [trystref12_Number.l0]
      rw [if_pos (show u > 0 by omega), step k u acc h0 h2 (by omega)]
      have hp : u / 10 < 10 ^ D := by
        rw [Int.pow_succ] at h1; omega
      rw [ih (u / 10) (dg u :: acc) k (by omega) hp (by omega) (by omega) (by simp; omega)]
      have hz : (if u = 0 ∧ acc ≠ [] then acc else num u ++ acc) = num u ++ acc := if_neg (fun q => z q.1)
      rw [hz]
      have e : num u = if u / 10 = 0 then [dg u] else num (u / 10) ++ [dg u] := by
        unfold num dg
        rw [Lib.decDigits]
        by_cases c : u / 10 = 0
        · have c' : u.toNat < 10 := by omega
          have : (u % 10).toNat = u.toNat := by omega
          rw [dif_pos c', if_pos c, this]
        · have c' : ¬ u.toNat < 10 := by omega
          have e1 : u.toNat / 10 = (u / 10).toNat := by omega
          have e2 : (u % 10).toNat = u.toNat % 10 := by omega
          rw [dif_neg c', if_neg c, e1, e2]
      rw [e]
      by_cases c : u / 10 = 0
      · rw [if_pos c, if_pos ⟨c, by simp⟩]; simp
      · rw [if_neg c, if_neg (fun q => c q.1)]; simp
theorem numF (n : Int) (k : Nat) (h0 : 0 ≤ n) (h1 : n < 100000000000) (hk : 20 ≤ k) : trystref12_Number.f k n = some ⟨(num n).toArray⟩ := by
  obtain ⟨k, rfl⟩ : ∃ m, k = m + 1 := ⟨k - 1, by omega⟩
  simp only [trystref12_Number.f]
  rw [if_neg (by omega)]
  have := numL 11 n [] k h0 (by omega) (by omega) (by omega) (by simp)
  simpa using this
theorem nl (n : Int) (h1 : n < 10000000000) : (num n).length ≤ 10 := dec_len 9 n.toNat (by omega)
theorem j4 (k : Nat) (hk : 22 ≤ k) (s : List UInt8) (m x : Int) (f : Bool) (hs : s.length ≤ 100) (hm : 0 ≤ m) (hm1 : m < 100) (hx : 0 ≤ x) (hx1 : x < 100) :
    trystref12_Duration.j4 k ⟨s.toArray⟩ m x f = some (⟨(s ++ ((if f = true then num m ++ [77] else []) ++ (if 0 < x then num x ++ [83] else []))).toArray⟩, 0) := by
  obtain ⟨k, rfl⟩ : ∃ m, k = m + 1 := ⟨k - 1, by omega⟩
  have l1 := nl m (by omega)
  have l2 := nl x (by omega)
  have e77 : (⟨#[77]⟩ : ByteArray) = ⟨[77].toArray⟩ := rfl
  have e83 : (⟨#[83]⟩ : ByteArray) = ⟨[83].toArray⟩ := rfl
  simp only [trystref12_Duration.j4, e77, e83, numF m k hm (by omega) (by omega), numF x k hx (by omega) (by omega), Option.bind_some, appB, sz]
  cases f
  · simp only [Bool.false_eq_true, if_false]
    by_cases c : x > 0
    · rw [if_pos c, if_pos (by omega), if_pos (by simp; omega), if_pos (show 0 < x from c)]
      simp
    · rw [if_neg c, if_neg (show ¬ 0 < x from c)]
      simp
  · simp only [if_true, eq_self]
    rw [if_pos (by omega), if_pos (by simp; omega)]
    by_cases c : x > 0
    · rw [if_pos c, if_pos (by simp; omega), if_pos (by simp; omega), if_pos (show 0 < x from c)]
      simp
    · rw [if_neg c, if_neg (show ¬ 0 < x from c)]
      simp
theorem j3 (k : Nat) (hk : 23 ≤ k) (s : List UInt8) (h m x : Int) (hs : s.length ≤ 100) (hm : 0 ≤ m) (hm1 : m < 100) (hx : 0 ≤ x) (hx1 : x < 100) :
    trystref12_Duration.j3 k ⟨s.toArray⟩ h m x = some (⟨(s ++ ((if 0 < m ∨ (0 < h ∧ 0 < x) then num m ++ [77] else []) ++ (if 0 < x then num x ++ [83] else []))).toArray⟩, 0) := by
  obtain ⟨k, rfl⟩ : ∃ m, k = m + 1 := ⟨k - 1, by omega⟩
  simp only [trystref12_Duration.j3]
  by_cases a : m > 0
  · rw [if_pos a, j4 k (by omega) s m x _ hs hm hm1 hx hx1, if_pos rfl, if_pos (Or.inl a)]
  · rw [if_neg a]
    by_cases b : h > 0
    · rw [if_pos b, j4 k (by omega) s m x _ hs hm hm1 hx hx1]
      by_cases c : x > 0
      · rw [decide_eq_true c, if_pos rfl, if_pos (Or.inr ⟨b, c⟩)]
      · rw [decide_eq_false c, if_neg (by decide), if_neg (show ¬ (0 < m ∨ (0 < h ∧ 0 < x)) by omega)]
    · rw [if_neg b, j4 k (by omega) s m x _ hs hm hm1 hx hx1, if_neg (by decide), if_neg (show ¬ (0 < m ∨ (0 < h ∧ 0 < x)) by omega)]
theorem j2 (k : Nat) (hk : 24 ≤ k) (s : List UInt8) (r h m x : Int) (hs : s.length ≤ 80) (eh : h = r / 3600) (em : m = r / 60 % 60) (ex : x = r % 60) (h0 : 0 ≤ r) (h1 : r < 86400) :
    trystref12_Duration.j2 k ⟨s.toArray⟩ h m x = some (⟨(s ++ clk r).toArray⟩, 0) := by
  obtain ⟨k, rfl⟩ : ∃ m, k = m + 1 := ⟨k - 1, by omega⟩
  have l1 := nl h (by omega)
  have e72 : (⟨#[72]⟩ : ByteArray) = ⟨[72].toArray⟩ := rfl
  simp only [trystref12_Duration.j2, e72, numF h k (by omega) (by omega) (by omega), Option.bind_some, appB, sz]
  unfold clk
  rw [← eh, ← em, ← ex]
  by_cases a : h > 0
  · rw [if_pos a, if_pos (by omega), if_pos (by simp; omega), j3 k (by omega) _ h m x (by simp; omega) (by omega) (by omega) (by omega) (by omega), if_pos (show 0 < h from a)]
    simp
  · rw [if_neg a, j3 k (by omega) _ h m x (by omega) (by omega) (by omega) (by omega) (by omega), if_neg (show ¬ 0 < h from a)]
    simp
theorem j1 (k : Nat) (hk : 25 ≤ k) (s : List UInt8) (n : Int) (hs : s.length ≤ 70) (h0 : 0 ≤ n) (h1 : n ≤ 10000000000) :
    trystref12_Duration.j1 k n ⟨s.toArray⟩ = some (⟨(s ++ (if 0 < n % 86400 then 84 :: clk (n % 86400) else [])).toArray⟩, 0) := by
  obtain ⟨k, rfl⟩ : ∃ m, k = m + 1 := ⟨k - 1, by omega⟩
  have e84 : (⟨#[84]⟩ : ByteArray) = ⟨[84].toArray⟩ := rfl
  simp only [trystref12_Duration.j1, e84]
  rw [Int.tmod_eq_emod_of_nonneg h0, Int.tmod_eq_emod_of_nonneg h0, Int.tmod_eq_emod_of_nonneg h0, Int.tdiv_eq_ediv_of_nonneg (show 0 ≤ n % 86400 by omega), Int.tdiv_eq_ediv_of_nonneg (show 0 ≤ n % 3600 by omega),
    w64 (x := n % 86400 / 3600) (by omega) (by omega), w64 (x := n % 3600 / 60) (by omega) (by omega), w64 (x := n % 86400 / 3600 + n % 3600 / 60) (by omega) (by omega), w64 (x := n % 86400 / 3600 + n % 3600 / 60 + n % 60) (by omega) (by omega), appB, sz]
  by_cases a : 0 < n % 86400
  · rw [if_pos (by omega), if_pos (by omega), if_pos a, j2 k (by omega) (s ++ [84]) (n % 86400) _ _ _ (by simp; omega) rfl (by omega) (by omega) (by omega) (by omega)]
    simp
  · rw [if_neg (by omega), if_neg a, j2 k (by omega) s (n % 86400) _ _ _ (by omega) rfl (by omega) (by omega) (by omega) (by omega)]
    have : n % 86400 = 0 := by omega
    rw [this]
    simp [clk]
theorem refP (k : Nat) (hk : 28 ≤ k) (n : Int) (h0 : 0 ≤ n) (h1 : n ≤ 10000000000) : trystref12_Duration.f k n = some (⟨(80 :: txt n).toArray⟩, 0) := by
  obtain ⟨k, rfl⟩ : ∃ m, k = m + 2 := ⟨k - 2, by omega⟩
  have e80 : (⟨#[80]⟩ : ByteArray) = ⟨[80].toArray⟩ := rfl
  have e87 : (⟨#[87]⟩ : ByteArray) = ⟨[87].toArray⟩ := rfl
  have e68 : (⟨#[68]⟩ : ByteArray) = ⟨[68].toArray⟩ := rfl
  have l1 := nl (n / 604800) (by omega)
  have l2 := nl (n / 86400) (by omega)
  simp only [trystref12_Duration.f, trystref12_Duration.j0]
  rw [if_neg (by omega), decide_eq_false (show ¬ n > 10000000000 by omega), if_neg (by decide), if_neg (by omega)]
  unfold txt
  by_cases z : n = 0
  · rw [if_pos z, if_pos z]
  · rw [if_neg z, if_neg z, Int.tmod_eq_emod_of_nonneg h0, Int.tdiv_eq_ediv_of_nonneg h0, Int.tdiv_eq_ediv_of_nonneg h0, w64 (x := n / 604800) (by omega) (by omega), w64 (x := n / 86400) (by omega) (by omega),
      numF (n / 604800) k (by omega) (by omega) (by omega), numF (n / 86400) k (by omega) (by omega) (by omega), e80, e87, e68]
    simp only [Option.bind_some, appB, sz]
    by_cases a : n % 604800 = 0
    · rw [if_pos a, if_pos a, if_pos (by omega), if_pos (by simp; omega)]
      simp
    · rw [if_neg a, if_neg a]
      by_cases d : n ≥ 86400
      · rw [if_pos d, if_pos (by omega), if_pos (by simp; omega), j1 k (by omega) _ n (by simp; omega) h0 h1, if_pos (show 0 < n / 86400 by omega)]
        simp
      · rw [if_neg d, j1 k (by omega) _ n (by simp) h0 h1, if_neg (show ¬ 0 < n / 86400 by omega)]
        simp
theorem ref (k : Nat) (hk : 30 ≤ k) (n : Int) (h0 : -10000000000 ≤ n) (h1 : n ≤ 10000000000) : trystref12_Duration.f k n = some (⟨(full n).toArray⟩, 0) := by
  unfold full
  by_cases c : n < 0
  · obtain ⟨k, rfl⟩ : ∃ m, k = m + 2 := ⟨k - 2, by omega⟩
    have e45 : (⟨#[45]⟩ : ByteArray) = ⟨[45].toArray⟩ := rfl
    have hl : (80 :: txt (-n)).length ≤ 100 := by
      have l1 := nl (-n / 604800) (by omega)
      have l2 := nl (-n / 86400) (by omega)
      have l3 := nl (-n % 86400 / 3600) (by omega)
      have l4 := nl (-n % 86400 / 60 % 60) (by omega)
      have l5 := nl (-n % 86400 % 60) (by omega)
      have l6 := nl (-n % 60) (by omega)
      unfold txt clk
      (repeat' split) <;> simp <;> omega
    simp only [trystref12_Duration.f, trystref12_Duration.j0]
    rw [if_neg (by omega), decide_eq_false (show ¬ n > 10000000000 by omega), if_neg (by decide), if_pos c, if_pos c, w64 (by omega) (by omega)]
    have := refP k (by omega) (-n) (by omega) (by omega)
    rw [this, Option.bind_some, e45]
    simp only [appB, sz]
    rw [if_pos (by omega)]
    rfl
  · rw [if_neg c]
    exact refP k (by omega) n (by omega) h1
theorem refOut (k : Nat) (hk : 2 ≤ k) (n : Int) (h : n < -10000000000 ∨ 10000000000 < n) : trystref12_Duration.f k n = some (⟨#[]⟩, 7) := by
  obtain ⟨k, rfl⟩ : ∃ m, k = m + 2 := ⟨k - 2, by omega⟩
  simp only [trystref12_Duration.f, trystref12_Duration.j0]
  rcases h with h | h
  · rw [if_pos h]; simp
  · rw [if_neg (by omega), decide_eq_true (show n > 10000000000 from h)]; simp
end Go.Proofs.YthppkdbelmolbaaDoor.DurQ
