/- Texts of this claim, merged: Utf, ShelfUtf, Mesc, Mtrystref08Clean, Cln, LinF. -/
import Derived.Test.YtddoidcbpcmlaaaDoorMgEventForms30
import Derived.Lib.ValidLaws
import Derived.Shelf.Small.Utf8
import Derived.Shelf.Small.Strs
import Derived.Shelf.Strings.Search1
import Derived.Shelf.Strings.Prefix
import Derived.Shelf.Strings.Runes
import Derived.Shelf.Strings.IndexAny
import Derived.Shelf.Strings.AsciiSet
import Derived.Shelf.Strings.IndexAnyAll
import Derived.Ground.Names2Prog
import Derived.Shelf.Slices.SearchI
import Derived.Shelf.Unicode.ValidAny
import Derived.Ground.NamesProg
import Derived.Test.YtddoidcbpcmlaaaDoorProg
import Derived.Test.YtddoidcbpcmlaaaDoorMgEventForms13
import Derived.Lib.Hide
import Derived.Deep.LoopGhost
import Derived.Test.YtddoidcbpcmlaaaDoorMgEventForms29
import Derived.Test.YtddoidcbpcmlaaaDoorMgEventForms9
/- trystref08.UTF tells what utf8.ValidString tells. (By hand.) -/
namespace Go.Proofs.YtddoidcbpcmlaaaDoor.Utf
open Go.RowKit Go.Proofs.YtddoidcbpcmlaaaDoorW.PrintWords Go.Proofs.YtddoidcbpcmlaaaDoorW.PrintLast Go.Proofs.YtddoidcbpcmlaaaDoor.M
set_option linter.unusedVariables false
set_option linter.unusedSimpArgs false
theorem j2_eq (k : Nat) (x0 : ByteArray) (x1 x5 x6 : Int) : trystref08_next.j2 (k + 1) x0 x1 x5 x6 = if (wrap64 (x1 + x6)) > (x0.size : Int) then (some 0) else (trystref08_next.l0 k x0 x1 x5 x6 1) := by first | rfl | (simp only [trystref08_next.j2])
theorem j0_eq (k : Nat) (x0 : ByteArray) (x1 x5 : Int) (x15 : Bool) : trystref08_next.j0 (k + 1) x0 x1 x5 x15 = if x15 = true then (trystref08_next.j2 k x0 x1 x5 2) else (if x5 ≥ 224 then (trystref08_next.j1 k x0 x1 x5 (decide (x5 < 240))) else (trystref08_next.j1 k x0 x1 x5 false)) := by first | rfl | (simp only [trystref08_next.j0])
theorem j1_eq (k : Nat) (x0 : ByteArray) (x1 x5 : Int) (x22 : Bool) : trystref08_next.j1 (k + 1) x0 x1 x5 x22 = if x22 = true then (trystref08_next.j2 k x0 x1 x5 3) else (if x5 ≥ 240 then (if x5 < 245 then (trystref08_next.j2 k x0 x1 x5 4) else (some 0)) else (some 0)) := by first | rfl | (simp only [trystref08_next.j1])
def fin (x5 b1 n : Int) : Int := if (x5 = 224 ∧ b1 < 160) ∨ (x5 = 237 ∧ b1 > 159) ∨ (x5 = 240 ∧ b1 < 144) ∨ (x5 = 244 ∧ b1 > 143) then 0 else n
section
variable (s : ByteArray) (i : Nat) (hs : s.size ≤ 140737488355328)
include hs
theorem wr (j : Nat) (hj : j ≤ 4) (hi : i < s.size) : wrap64 ((i : Int) + (j : Int)) = ((i + j : Nat) : Int) := by unfold wrap64; omega
set_option maxHeartbeats 1000000 in
theorem end_ (x5 n : Int) (k : Nat) (x7 : Int) (hx : ¬ x7 < n) (h : i + 1 < s.size) : trystref08_next.l0 (k + 1) s (i : Int) x5 n x7 = some (fin x5 (bt s ((i + 1 : Nat) : Int)) n) := by
 have e1 : wrap64 ((i : Int) + 1) = ((i + 1 : Nat) : Int) := wr s i hs 1 (by omega) (by omega)
 unfold trystref08_next.l0
 rw [if_neg hx, e1, if_pos (by omega), if_pos (by omega)]
 generalize bt s ((i + 1 : Nat) : Int) = b1
 unfold fin
 repeat' split
 all_goals first | rfl | (exfalso; omega)
theorem step_ (x5 n : Int) (k j : Nat) (hj : j ≤ 4) (hx : (j : Int) < n) (h : i + j < s.size) : trystref08_next.l0 (k + 1) s (i : Int) x5 n (j : Int) = if bt s ((i + j : Nat) : Int) < 128 ∨ bt s ((i + j : Nat) : Int) > 191 then some 0 else trystref08_next.l0 k s (i : Int) x5 n ((j + 1 : Nat) : Int) := by
 have e1 : wrap64 ((i : Int) + (j : Int)) = ((i + j : Nat) : Int) := wr s i hs j hj (by omega)
 have e2 : wrap64 ((j : Int) + 1) = ((j + 1 : Nat) : Int) := by unfold wrap64; omega
 conv => lhs; unfold trystref08_next.l0
 rw [if_pos hx, e1, if_pos (by omega), if_pos (by omega), e2]
 generalize bt s ((i + j : Nat) : Int) = b1
 by_cases c1 : b1 < 128
 ·rw [if_pos c1, if_pos (.inl c1)]
 ·rw [if_neg c1]
  by_cases c2 : b1 > 191
  ·rw [if_pos c2, if_pos (.inr c2)]
  ·rw [if_neg c2, if_neg (by omega)]
def bad (b : Int) : Prop := b < 128 ∨ b > 191
theorem j2_ (x5 : Int) (k m : Nat) (hm : m = 2 ∨ m = 3 ∨ m = 4) (hi : i < s.size) : trystref08_next.j2 (k + 6) s (i : Int) x5 (m : Int) =
  some (if i + m > s.size ∨ (bt s ((i + 1 : Nat) : Int) < 128 ∨ bt s ((i + 1 : Nat) : Int) > 191) ∨ (2 < m ∧ (bt s ((i + 2 : Nat) : Int) < 128 ∨ bt s ((i + 2 : Nat) : Int) > 191)) ∨ (3 < m ∧ (bt s ((i + 3 : Nat) : Int) < 128 ∨ bt s ((i + 3 : Nat) : Int) > 191)) then 0 else fin x5 (bt s ((i + 1 : Nat) : Int)) (m : Int)) := by
 have e : wrap64 ((i : Int) + (m : Int)) = ((i + m : Nat) : Int) := wr s i hs m (by omega) hi
 rw [show k + 6 = (k + 5) + 1 from rfl, j2_eq, e]
 by_cases c : i + m > s.size
 ·rw [if_pos (by omega), if_pos (.inl c)]
 ·rw [if_neg (by omega), show (1 : Int) = ((1 : Nat) : Int) from rfl, step_ s i hs x5 (m : Int) (k + 4) 1 (by omega) (by omega) (by omega)]
  by_cases c1 : bt s ((i + 1 : Nat) : Int) < 128 ∨ bt s ((i + 1 : Nat) : Int) > 191
  ·rw [if_pos c1, if_pos (.inr (.inl c1))]
  ·rw [if_neg c1]
   rcases hm with rfl | rfl | rfl
   ·rw [end_ s i hs x5 _ (k + 3) _ (by omega) (by omega), if_neg (by omega)]
   ·rw [step_ s i hs x5 _ (k + 3) 2 (by omega) (by omega) (by omega)]
    by_cases c2 : bt s ((i + 2 : Nat) : Int) < 128 ∨ bt s ((i + 2 : Nat) : Int) > 191
    ·rw [if_pos c2, if_pos (by omega)]
    ·rw [if_neg c2, end_ s i hs x5 _ (k + 2) _ (by omega) (by omega), if_neg (by omega)]
   ·rw [step_ s i hs x5 _ (k + 3) 2 (by omega) (by omega) (by omega)]
    by_cases c2 : bt s ((i + 2 : Nat) : Int) < 128 ∨ bt s ((i + 2 : Nat) : Int) > 191
    ·rw [if_pos c2, if_pos (by omega)]
    ·rw [if_neg c2, step_ s i hs x5 _ (k + 2) 3 (by omega) (by omega) (by omega)]
     by_cases c3 : bt s ((i + 3 : Nat) : Int) < 128 ∨ bt s ((i + 3 : Nat) : Int) > 191
     ·rw [if_pos c3, if_pos (by omega)]
     ·rw [if_neg c3, end_ s i hs x5 _ (k + 1) _ (by omega) (by omega), if_neg (by omega)]
end
/-- How long the code point is that the bytes begin; 0: there is none. -/
def nx (n b0 b1 b2 b3 : Nat) : Nat := (Lib.checkN n b1 b2 b3 (Lib.firstT b0 % 8) (Lib.accLo (Lib.firstT b0 / 16)) (Lib.accHi (Lib.firstT b0 / 16))).getD 0
theorem btl (s : ByteArray) (i : Nat) (h : i < s.size) : bt s (i : Int) = (((s.data.toList.drop i).getD 0 0).toNat : Int) := by
 have h2 : i < s.data.size := h
 unfold bt
 rw [dif_pos (by simpa using h)]
 simp only [List.getD_eq_getElem?_getD, List.getElem?_drop, Nat.add_zero, Array.getElem?_toList, Array.getElem?_eq_getElem h2]
 rfl
set_option maxHeartbeats 4000000 in
theorem next_ (s : ByteArray) (i k b0 b1 b2 b3 : Nat) (hs : s.size ≤ 140737488355328) (hi : i < s.size) (h0 : bt s (i : Int) = b0) (h1 : i + 1 < s.size → bt s ((i + 1 : Nat) : Int) = b1) (h2 : i + 2 < s.size → bt s ((i + 2 : Nat) : Int) = b2) (h3 : i + 3 < s.size → bt s ((i + 3 : Nat) : Int) = b3) (hb : 128 ≤ b0) (hb' : b0 < 256) :
  trystref08_next.f (k + 8) s (i : Int) = some (nx (s.size - i) b0 b1 b2 b3 : Int) := by
 have J := fun (x5 : Int) (q m : Nat) (hm : m = 2 ∨ m = 3 ∨ m = 4) => j2_ s i hs x5 q m hm hi
 unfold trystref08_next.f
 rw [if_pos (by omega), if_pos (by omega), h0, if_neg (by omega), show k + 8 = (k + 7) + 1 from rfl]
 have J2 := J b0 (k + 1) 2 (by omega); have J3 := J b0 k 3 (by omega); have J4 := J b0 k 4 (by omega)
 simp only [show k + 1 + 6 = k + 7 from rfl] at J2
 by_cases c0 : b0 < 194
 ·rw [if_neg (by omega)]
  rw [j0_eq, if_neg (by simp), if_neg (by omega)]
  rw [show k + 7 = (k + 6) + 1 from rfl]
  rw [j1_eq, if_neg (by simp), if_neg (by omega)]
  have hf : Lib.firstT b0 = 241 := by unfold Lib.firstT; (repeat' split) <;> first | rfl | (exfalso; omega)
  simp only [nx, hf, Lib.checkN]
  simp
 rw [if_pos (by omega)]
 by_cases c1 : b0 < 224
 ·rw [decide_eq_true (by omega : (b0 : Int) < 224)]
  rw [j0_eq, if_pos rfl]
  rw [show (2 : Int) = ((2 : Nat) : Int) from rfl, J2]
  have hn : nx (s.size - i) b0 b1 b2 b3 = if s.size - i < 2 ∨ b1 < 128 ∨ 191 < b1 then 0 else 2 := by
   have hf : Lib.firstT b0 = 2 := by unfold Lib.firstT; (repeat' split) <;> first | rfl | (exfalso; omega)
   simp only [nx, hf, show (2 : Nat) % 8 = 2 from rfl, show Lib.accLo (2 / 16) = 128 from rfl, show Lib.accHi (2 / 16) = 191 from rfl, Lib.checkN]
   simp only [if_true]
   split <;> simp
  rw [hn]
  unfold fin
  by_cases q : i + 2 > s.size
  ·rw [if_pos (.inl q), if_pos (by omega)]
   rfl
  ·rw [h1 (by omega)]
   by_cases q2 : b1 < 128 ∨ 191 < b1
   ·rw [if_pos (by omega), if_pos (by omega)]
    rfl
   ·rw [if_neg (by omega), if_neg (by omega), if_neg (by omega)]
 rw [decide_eq_false (by omega : ¬ (b0 : Int) < 224)]
 rw [j0_eq, if_neg (by simp), if_pos (by omega), show k + 7 = (k + 6) + 1 from rfl]
 by_cases c5 : b0 < 240
 ·rw [decide_eq_true (by omega : (b0 : Int) < 240)]
  rw [j1_eq, if_pos rfl, show (3 : Int) = ((3 : Nat) : Int) from rfl, J3]
  obtain ⟨lo, hi', hlo, hhi, hn⟩ : ∃ lo hi' : Nat, (lo = if b0 = 224 then 160 else 128) ∧ (hi' = if b0 = 237 then 159 else 191) ∧ nx (s.size - i) b0 b1 b2 b3 = if s.size - i < 3 ∨ b1 < lo ∨ hi' < b1 ∨ b2 < 128 ∨ 191 < b2 then 0 else 3 := by
   by_cases c2 : b0 = 224
   ·subst c2
    refine ⟨160, 191, rfl, rfl, ?_⟩
    simp only [nx, show Lib.firstT 224 % 8 = 3 from rfl, show Lib.accLo (Lib.firstT 224 / 16) = 160 from rfl, show Lib.accHi (Lib.firstT 224 / 16) = 191 from rfl, Lib.checkN]
    simp only [show ¬ (3 : Nat) = 2 by omega, if_true, if_false]
    split <;> simp
   ·by_cases c4 : b0 = 237
    ·subst c4
     refine ⟨128, 159, rfl, rfl, ?_⟩
     simp only [nx, show Lib.firstT 237 % 8 = 3 from rfl, show Lib.accLo (Lib.firstT 237 / 16) = 128 from rfl, show Lib.accHi (Lib.firstT 237 / 16) = 159 from rfl, Lib.checkN]
     simp only [show ¬ (3 : Nat) = 2 by omega, if_true, if_false]
     split <;> simp
    ·refine ⟨128, 191, (if_neg c2).symm, (if_neg c4).symm, ?_⟩
     have hf : Lib.firstT b0 = 3 := by unfold Lib.firstT; (repeat' split) <;> first | rfl | (exfalso; omega)
     simp only [nx, hf, show (3 : Nat) % 8 = 3 from rfl, show Lib.accLo (3 / 16) = 128 from rfl, show Lib.accHi (3 / 16) = 191 from rfl, Lib.checkN]
     simp only [show ¬ (3 : Nat) = 2 by omega, if_true, if_false]
     split <;> simp
  rw [hn]
  unfold fin
  by_cases q : i + 3 > s.size
  ·rw [if_pos (.inl q), if_pos (by omega)]
   rfl
  ·rw [h1 (by omega), h2 (by omega)]
   split at hlo <;> split at hhi <;> (split <;> (try split) <;> (try split) <;> first | rfl | (exfalso; omega) | (simp; omega))
 rw [decide_eq_false (by omega : ¬ (b0 : Int) < 240)]
 rw [j1_eq, if_neg (by simp), if_pos (by omega)]
 by_cases c8 : b0 < 245
 ·rw [if_pos (by omega), show (4 : Int) = ((4 : Nat) : Int) from rfl, J4]
  obtain ⟨lo, hi', hlo, hhi, hn⟩ : ∃ lo hi' : Nat, (lo = if b0 = 240 then 144 else 128) ∧ (hi' = if b0 = 244 then 143 else 191) ∧ nx (s.size - i) b0 b1 b2 b3 = if s.size - i < 4 ∨ b1 < lo ∨ hi' < b1 ∨ b2 < 128 ∨ 191 < b2 ∨ b3 < 128 ∨ 191 < b3 then 0 else 4 := by
   by_cases c2 : b0 = 240
   ·subst c2
    refine ⟨144, 191, rfl, rfl, ?_⟩
    simp only [nx, show Lib.firstT 240 % 8 = 4 from rfl, show Lib.accLo (Lib.firstT 240 / 16) = 144 from rfl, show Lib.accHi (Lib.firstT 240 / 16) = 191 from rfl, Lib.checkN]
    simp only [show ¬ (4 : Nat) = 2 by omega, show ¬ (4 : Nat) = 3 by omega, if_true, if_false]
    split <;> simp
   ·by_cases c4 : b0 = 244
    ·subst c4
     refine ⟨128, 143, rfl, rfl, ?_⟩
     simp only [nx, show Lib.firstT 244 % 8 = 4 from rfl, show Lib.accLo (Lib.firstT 244 / 16) = 128 from rfl, show Lib.accHi (Lib.firstT 244 / 16) = 143 from rfl, Lib.checkN]
     simp only [show ¬ (4 : Nat) = 2 by omega, show ¬ (4 : Nat) = 3 by omega, if_true, if_false]
     split <;> simp
    ·refine ⟨128, 191, (if_neg c2).symm, (if_neg c4).symm, ?_⟩
     have hf : Lib.firstT b0 = 4 := by unfold Lib.firstT; (repeat' split) <;> first | rfl | (exfalso; omega)
     simp only [nx, hf, show (4 : Nat) % 8 = 4 from rfl, show Lib.accLo (4 / 16) = 128 from rfl, show Lib.accHi (4 / 16) = 191 from rfl, Lib.checkN]
     simp only [show ¬ (4 : Nat) = 2 by omega, show ¬ (4 : Nat) = 3 by omega, if_true, if_false]
     split <;> simp
  rw [hn]
  unfold fin
  by_cases q : i + 4 > s.size
  ·rw [if_pos (.inl q), if_pos (by omega)]
   rfl
  ·rw [h1 (by omega), h2 (by omega), h3 (by omega)]
   split at hlo <;> split at hhi <;> (split <;> (try split) <;> (try split) <;> first | rfl | (exfalso; omega) | (simp; omega))
 ·rw [if_neg (by omega)]
  have hf : Lib.firstT b0 = 241 := by unfold Lib.firstT; (repeat' split) <;> first | rfl | (exfalso; omega)
  simp only [nx, hf, Lib.checkN]
  simp
/-- One code point. -/
theorem one_ (s : ByteArray) (i k : Nat) (hs : s.size ≤ 140737488355328) (hi : i < s.size) :
  ∃ n : Nat, trystref08_next.f (k + 8) s (i : Int) = some (n : Int) ∧ n ≤ s.size - i ∧ Lib.validD (s.data.toList.drop i) = if n = 0 then false else Lib.validD (s.data.toList.drop (i + n)) := by
 have hlen : (s.data.toList.drop i).length = s.size - i := by simp
 have hne : s.data.toList.drop i ≠ [] := by intro h; rw [h] at hlen; simp at hlen; omega
 have e0 := btl s i hi
 by_cases c : ((s.data.toList.drop i).getD 0 0).toNat < 128
 ·refine ⟨1, ?_, by omega, ?_⟩
  ·unfold trystref08_next.f
   rw [if_pos (by omega), if_pos (by omega), e0, if_pos (by omega)]
   rfl
  ·rw [if_neg (by omega), ← List.drop_drop]
   revert c
   cases hl : s.data.toList.drop i with
   | nil => exact absurd hl hne
   | cons b t =>
    intro c
    rw [Lib.validD_cons b t (by simpa using c)]
    rfl
 ·have bj : ∀ j, i + j < s.size → bt s ((i + j : Nat) : Int) = (((s.data.toList.drop i).getD j 0).toNat : Int) := fun j hj => by
   rw [btl s (i + j) hj]
   simp [List.getD_eq_getElem?_getD]
  refine ⟨_, next_ s i k _ ((s.data.toList.drop i).getD 1 0).toNat ((s.data.toList.drop i).getD 2 0).toNat ((s.data.toList.drop i).getD 3 0).toNat hs hi e0 (bj 1) (bj 2) (bj 3) (by omega) (UInt8.toNat_lt _), ?_, ?_⟩
  ·unfold nx Lib.checkN
   (repeat' split) <;> simp <;> omega
  ·rw [Lib.validD_lead _ hne (by omega), hlen]
   unfold nx
   rcases hc : Lib.checkN (s.size - i) ((s.data.toList.drop i).getD 1 0).toNat ((s.data.toList.drop i).getD 2 0).toNat ((s.data.toList.drop i).getD 3 0).toNat (Lib.firstT ((s.data.toList.drop i).getD 0 0).toNat % 8) (Lib.accLo (Lib.firstT ((s.data.toList.drop i).getD 0 0).toNat / 16)) (Lib.accHi (Lib.firstT ((s.data.toList.drop i).getD 0 0).toNat / 16)) with _ | m
   ·rfl
   ·have hm : m ≠ 0 := by
     unfold Lib.checkN at hc
     intro hz
     subst hz
     revert hc
     (repeat' split) <;> simp
    simp only [Option.getD_some, if_neg hm, List.drop_drop]
theorem go_ (s : ByteArray) (hs : s.size ≤ 140737488355328) : ∀ (q i : Nat), s.size - i ≤ q → i ≤ s.size → ∀ k, trystref08_UTF.l0 (q + 9 + k) s (i : Int) = some (Lib.validD (s.data.toList.drop i)) := by
 intro q
 induction q with
 | zero =>
  intro i h hi k
  rw [show 0 + 9 + k = (k + 8) + 1 from by omega]
  unfold trystref08_UTF.l0
  rw [if_neg (by omega), List.drop_of_length_le (by simp; omega)]
  rfl
 | succ q ih =>
  intro i h hi k
  rw [show q + 1 + 9 + k = (q + 1 + k + 8) + 1 from by omega]
  unfold trystref08_UTF.l0
  by_cases c : i < s.size
  ·rw [if_pos (by omega)]
   obtain ⟨n, e, hn, hv⟩ := one_ s i (q + 1 + k) hs c
   rw [e, Option.bind_some, hv]
   by_cases z : n = 0
   ·subst z
    rfl
   ·rw [if_neg (by omega), if_neg z, show wrap64 ((i : Int) + (n : Int)) = ((i + n : Nat) : Int) by unfold wrap64; omega, show q + 1 + k + 8 = q + 9 + k from by omega]
    exact ih (i + n) (by omega) (by omega) k
  ·rw [if_neg (by omega), List.drop_of_length_le (by simp; omega)]
   rfl
theorem utf (s : ByteArray) (hs : s.size ≤ 140737488355328) (k : Nat) (hk : s.size + 9 ≤ k) : trystref08_UTF.f k s = some (Lib.validD s.data.toList) := by
 obtain ⟨q, rfl⟩ : ∃ q, k = s.size + 9 + q := ⟨k - (s.size + 9), by omega⟩
 unfold trystref08_UTF.f
 exact go_ s hs s.size 0 (by omega) (by omega) q
end Go.Proofs.YtddoidcbpcmlaaaDoor.Utf
/- Contracts of Go's library at this seat: written by the kit's lay-shelf.mjs and lay-plain.mjs, picked by shelf_pick.py. -/
namespace Go.Proofs.YtddoidcbpcmlaaaDoor.Shelf
open Go.Shelf Go.Proofs
set_option linter.unusedVariables false
def laysValid_ren : Go.Shelf.Ren := ⟨fun | 196 => 60 | 259 => 84 | n => n, fun | 9 => 9 | 4 => 4 | 3 => 3 | 5 => 5 | 12 => 12 | 119 => 117 | 0 => 0 | 46 => 121 | 139 => 120 | 138 => 119 | 53 => 131 | n => n, fun | 3 => 0 | 4 => 1 | n => n⟩
theorem laysValid : Go.Proofs.Lays.n196 Tryd.prog laysValid_ren := {
 mixed := by kernel_rfl
 f196 := Tryd.func60.trans (congrArg some (by kernel_rfl))
 f259 := Tryd.func84.trans (congrArg some (by kernel_rfl))
 t0 := Tryd.underlying0
 a0 := Tryd.isAgg0
 z0 := Tryd.sizeOf0
 v0 := Tryd.zeroValue0
 t3 := Tryd.underlying3
 a3 := Tryd.isAgg3
 z3 := Tryd.sizeOf3
 v3 := Tryd.zeroValue3
 t4 := Tryd.underlying4
 a4 := Tryd.isAgg4
 z4 := Tryd.sizeOf4
 v4 := Tryd.zeroValue4
 t5 := Tryd.underlying5
 a5 := Tryd.isAgg5
 z5 := Tryd.sizeOf5
 v5 := Tryd.zeroValue5
 t9 := Tryd.underlying9
 a9 := Tryd.isAgg9
 z9 := Tryd.sizeOf9
 v9 := Tryd.zeroValue9
 t12 := Tryd.underlying12
 a12 := Tryd.isAgg12
 z12 := Tryd.sizeOf12
 v12 := Tryd.zeroValue12
 t46 := Tryd.underlying121
 a46 := Tryd.isAgg121
 z46 := Tryd.sizeOf121
 v46 := Tryd.zeroValue121
 t53 := Tryd.underlying131
 a53 := Tryd.isAgg131
 z53 := Tryd.sizeOf131
 v53 := Tryd.zeroValue131
 t119 := Tryd.underlying117
 a119 := Tryd.isAgg117
 z119 := Tryd.sizeOf117
 t138 := Tryd.underlying119
 a138 := Tryd.isAgg119
 z138 := Tryd.sizeOf119
 v138 := Tryd.zeroValue119
 t139 := Tryd.underlying120
 a139 := Tryd.isAgg120
 z139 := Tryd.sizeOf120
 v139 := Tryd.zeroValue120
 g3 := by kernel_rfl
 g4 := by kernel_rfl }
open Go.RowKit Go.Lib in
theorem utf8_ValidString (s : ByteArray) (w : World) (hs : s.size ≤ 9223372036854775807) (hT : Lib.Utf8Tabs (laysValid_ren.g 3) (laysValid_ren.g 4) w) :
  Calls Tryd.prog 60 #[.string s] w fun e w' => e = .returned (.bool (Lib.validD s.data.toList)) ∧ Below w.heap.size w w' := Any.utf8_ValidString laysValid s w hs hT
end Go.Proofs.YtddoidcbpcmlaaaDoor.Shelf
namespace Go.Proofs.YtddoidcbpcmlaaaDoor.M
open Go.RowKit Go.Proofs.YtddoidcbpcmlaaaDoorW.PrintWords Go.Proofs.YtddoidcbpcmlaaaDoorW.PrintLast Go.Proofs.YtddoidcbpcmlaaaDoorW.PrintMore
attribute [local go_sem] max2_int min2_int max_two min_two
set_option linter.unusedVariables false
set_option linter.unusedSimpArgs false
/-! ### escape_control: function 61 -/
def escape_control.f (a0 : Int) (a1 : Bool) : Option (Bool) := if a0 = 9 then (some false) else (if a0 = 10 then (some (!a1)) else (if a0 < 32 then (some true) else (some (a0 == 127))))
set_option maxHeartbeats 8000000 in
set_option maxRecDepth 100000 in
theorem escape_control.calls (a0 : Int) (a1 : Bool) (r : Bool) (w : World) (h : escape_control.f a0 a1 = some r) :
  Calls Tryd.prog 61 #[.int .u8 a0, .bool a1] w fun e w' => e = .returned (.bool r) ∧ Drawn0 w w' := by
 have H : (if a0 = 9 then (some false) else (if a0 = 10 then (some (!a1)) else (if a0 < 32 then (some true) else (some (a0 == 127))))) = some r := h
 clear h
 by_cases c3 : a0 = 9
 ·rw [if_pos c3] at H
  have c3b0 : (a0 == 9) = true := beq_iff_eq.mpr c3
  have c3b1 : (a0 != 9) = false := bne_eq_false_iff_eq.mpr c3
  clear c3
  obtain rfl := Option.some.inj H
  go_enter Tryd.func61, Tryd.ntmps61
  go_wp2
  go_ret
  exact ⟨by first | rfl | simp | simp [*] | simp [bne_nil_], by repeat (first | exact Drawn0.refl _ | apply Drawn0.step)⟩
 ·rw [if_neg c3] at H
  have c3b0 : (a0 == 9) = false := beq_eq_false_iff_ne.mpr c3
  have c3b1 : (a0 != 9) = true := bne_iff_ne.mpr c3
  by_cases c4 : a0 = 10
  ·rw [if_pos c4] at H
   have c4b0 : (a0 == 10) = true := beq_iff_eq.mpr c4
   have c4b1 : (a0 != 10) = false := bne_eq_false_iff_eq.mpr c4
   clear c4
   obtain rfl := Option.some.inj H
   go_enter Tryd.func61, Tryd.ntmps61
   go_wp2
   go_ret
   exact ⟨by first | rfl | simp | simp [*] | simp [bne_nil_], by repeat (first | exact Drawn0.refl _ | apply Drawn0.step)⟩
  ·rw [if_neg c4] at H
   have c4b0 : (a0 == 10) = false := beq_eq_false_iff_ne.mpr c4
   have c4b1 : (a0 != 10) = true := bne_iff_ne.mpr c4
   by_cases c5 : a0 < 32
   ·rw [if_pos c5] at H
    have c5b0 : decide (a0 < 32) = true := decide_eq_true c5
    clear c5
    obtain rfl := Option.some.inj H
    go_enter Tryd.func61, Tryd.ntmps61
    go_wp2
    go_ret
    exact ⟨by first | rfl | simp | simp [*] | simp [bne_nil_], by repeat (first | exact Drawn0.refl _ | apply Drawn0.step)⟩
   ·rw [if_neg c5] at H
    have c5b0 : decide (a0 < 32) = false := decide_eq_false c5
    clear c5
    obtain rfl := Option.some.inj H
    go_enter Tryd.func61, Tryd.ntmps61
    go_wp2
    go_ret
    exact ⟨by first | rfl | simp | simp [*] | simp [bne_nil_], by repeat (first | exact Drawn0.refl _ | apply Drawn0.step)⟩

/-! ### trystref08_Clean: function 48 -/
def trystref08_Clean.l0 : Nat → ByteArray → Bool → Int → Int → Option (Int)
 | 0, _, _, _, _ => none
 | k + 1, x0, x1, x11, x12 => if x12 < x11 then (if 0 ≤ x12 then (if x12 < (x0.size : Int) then (if (bt x0 x12) = 127 then (some 7) else (if (bt x0 x12) < 32 then (if (bt x0 x12) = 9 then (trystref08_Clean.l0 k x0 x1 x11 (wrap64 (x12 + 1))) else (if x1 = true then (if ((bt x0 x12) = 10) then (trystref08_Clean.l0 k x0 x1 x11 (wrap64 (x12 + 1))) else (some 7)) else (some 7))) else (trystref08_Clean.l0 k x0 x1 x11 (wrap64 (x12 + 1))))) else (none)) else (none)) else (some 0)
def trystref08_Clean.f (k : Nat) (a0 : ByteArray) (a1 : Bool) : Option (Int) := (trystref08_UTF.f k a0).bind fun t259 => (if t259 = true then (trystref08_Clean.l0 k a0 a1 (a0.size : Int) 0) else (some 3))
set_option maxHeartbeats 8000000 in
set_option maxRecDepth 100000 in
theorem trystref08_Clean.calls (k : Nat) (a0 : ByteArray) (a1 : Bool) (r : Int) (w : World) (h : trystref08_Clean.f k a0 a1 = some r) :
  Calls Tryd.prog 48 #[.string a0, .bool a1] w fun e w' => e = .returned (.int .i64 r) ∧ Drawn0 w w' := by
 have H : ((trystref08_UTF.f k a0).bind fun t259 => (if t259 = true then (trystref08_Clean.l0 k a0 a1 (a0.size : Int) 0) else (some 3))) = some r := h
 clear h
 replace H := Option.bind_eq_some_iff.mp H
 obtain ⟨t259, A30, H⟩ := H
 replace H : (if t259 = true then (trystref08_Clean.l0 k a0 a1 (a0.size : Int) 0) else (some 3)) = some r := H
 have A3 := Aside0.mk A30
 clear A30
 by_cases c4 : t259 = true
 ·subst c4
  have H1 : (trystref08_Clean.l0 k a0 a1 (a0.size : Int) 0) = some r := by rw [if_pos rfl] at H; exact H
  clear H
  have H := H1
  clear H1
  have H' := Aside0.mk H
  clear H
  go_enter Tryd.func48, Tryd.ntmps48
  go_wp2_with (first | ((with_reducible refine gate_callee (f := 70) rfl ?_); refine gm_ (some 8) Tryd.func70 #[.string a0] ?_; (with_reducible refine (trystref08_UTF.calls k a0 true _ A3.out).mono ?_); rintro e w' ⟨rfl, ⟨nd, rfl⟩⟩; refine ⟨_, rfl, ?_⟩))
  go_loopg [12] k (fun kq v12 w' => ∃ (x12_1 : Int), v12 = .int .i64 x12_1 ∧ Aside0 (trystref08_Clean.l0 kq a0 a1 (a0.size : Int) x12_1 = some r) ∧ Aside0 (kq ≤ k) ∧ Drawn0 w w')
  case atStart => exact ⟨(0), (by first | rfl | (simp; done) | (simp [*]; done)), H', ⟨Nat.le_refl _⟩, by repeat (first | exact Drawn0.refl _ | apply Drawn0.step)⟩
  case round =>
   clear H'
   try clear p2
   try clear c4
   obtain ⟨x12_1, rfl, HA, HK1, ⟨m1, rfl⟩⟩ := hrel
   cases gk with
   | zero => exact absurd HA.out (by simp [trystref08_Clean.l0])
   | succ k1 =>
    have H := HA.out
    clear HA
    simp only [trystref08_Clean.l0] at H
    by_cases c5 : x12_1 < (a0.size : Int)
    ·rw [if_pos c5] at H
     have c5b0 : decide (x12_1 < (a0.size : Int)) = true := decide_eq_true c5
     clear c5
     by_cases c6 : 0 ≤ x12_1
     ·rw [if_pos c6] at H
      have c6b0 : decide (0 ≤ x12_1) = true := decide_eq_true c6
      clear c6
      by_cases c7 : x12_1 < (a0.size : Int)
      ·rw [if_pos c7] at H
       have c7b0 : decide (x12_1 < (a0.size : Int)) = true := decide_eq_true c7
       clear c7
       by_cases c9 : (bt a0 x12_1) = 127
       ·rw [if_pos c9] at H
        have c9b0 : ((bt a0 x12_1) == 127) = true := beq_iff_eq.mpr c9
        have c9b1 : ((bt a0 x12_1) != 127) = false := bne_eq_false_iff_eq.mpr c9
        clear c9
        obtain rfl := Option.some.inj H
        have p8 : 0 ≤ (x12_1 : Int) := of_decide_eq_true (by first | (with_reducible assumption) | assumption)
        have q8 : x12_1 < (a0.size : Int) := of_decide_eq_true (by first | (with_reducible assumption) | assumption)
        have hx8 := bt_at a0 x12_1
        replace p8 := eq_true p8
        replace q8 := eq_true q8
        go_wp2
        go_ret
        exact ⟨by first | rfl | simp | simp [*] | simp [bne_nil_], by repeat (first | exact Drawn0.refl _ | apply Drawn0.step)⟩
       ·rw [if_neg c9] at H
        have c9b0 : ((bt a0 x12_1) == 127) = false := beq_eq_false_iff_ne.mpr c9
        have c9b1 : ((bt a0 x12_1) != 127) = true := bne_iff_ne.mpr c9
        by_cases c10 : (bt a0 x12_1) < 32
        ·rw [if_pos c10] at H
         have c10b0 : decide ((bt a0 x12_1) < 32) = true := decide_eq_true c10
         clear c10
         by_cases c11 : (bt a0 x12_1) = 9
         ·rw [if_pos c11] at H
          have c11b0 : ((bt a0 x12_1) == 9) = true := beq_iff_eq.mpr c11
          have c11b1 : ((bt a0 x12_1) != 9) = false := bne_eq_false_iff_eq.mpr c11
          clear c11
          have H' := Aside0.mk H
          clear H
          have p8 : 0 ≤ (x12_1 : Int) := of_decide_eq_true (by first | (with_reducible assumption) | assumption)
          have q8 : x12_1 < (a0.size : Int) := of_decide_eq_true (by first | (with_reducible assumption) | assumption)
          have hx8 := bt_at a0 x12_1
          replace p8 := eq_true p8
          replace q8 := eq_true q8
          go_wp2
          go_roundg k1
          case measure => have := HK1.out; omega
          case rel => exact ⟨(wrap64 (x12_1 + 1)), (by first | rfl | (simp; done) | (simp [*]; done)), H', ⟨by have := HK1.out; omega⟩, by repeat (first | exact Drawn0.refl _ | apply Drawn0.step)⟩
         ·rw [if_neg c11] at H
          have c11b0 : ((bt a0 x12_1) == 9) = false := beq_eq_false_iff_ne.mpr c11
          have c11b1 : ((bt a0 x12_1) != 9) = true := bne_iff_ne.mpr c11
          by_cases c12 : a1 = true
          ·subst c12
           have H1 : (if ((bt a0 x12_1) = 10) then (trystref08_Clean.l0 k1 a0 true (a0.size : Int) (wrap64 (x12_1 + 1))) else (some 7)) = some r := by rw [if_pos rfl] at H; exact H
           clear H
           have H := H1
           clear H1
           by_cases c13 : ((bt a0 x12_1) = 10)
           ·rw [if_pos c13] at H
            have c13b0 : ((bt a0 x12_1) == 10) = true := beq_iff_eq.mpr c13
            have c13b1 : ((bt a0 x12_1) != 10) = false := bne_eq_false_iff_eq.mpr c13
            clear c13
            have H' := Aside0.mk H
            clear H
            have p8 : 0 ≤ (x12_1 : Int) := of_decide_eq_true (by first | (with_reducible assumption) | assumption)
            have q8 : x12_1 < (a0.size : Int) := of_decide_eq_true (by first | (with_reducible assumption) | assumption)
            have hx8 := bt_at a0 x12_1
            replace p8 := eq_true p8
            replace q8 := eq_true q8
            go_wp2
            go_roundg k1
            case measure => have := HK1.out; omega
            case rel => exact ⟨(wrap64 (x12_1 + 1)), (by first | rfl | (simp; done) | (simp [*]; done)), H', ⟨by have := HK1.out; omega⟩, by repeat (first | exact Drawn0.refl _ | apply Drawn0.step)⟩
           ·rw [if_neg c13] at H
            have c13b0 : ((bt a0 x12_1) == 10) = false := beq_eq_false_iff_ne.mpr c13
            have c13b1 : ((bt a0 x12_1) != 10) = true := bne_iff_ne.mpr c13
            obtain rfl := Option.some.inj H
            have p8 : 0 ≤ (x12_1 : Int) := of_decide_eq_true (by first | (with_reducible assumption) | assumption)
            have q8 : x12_1 < (a0.size : Int) := of_decide_eq_true (by first | (with_reducible assumption) | assumption)
            have hx8 := bt_at a0 x12_1
            replace p8 := eq_true p8
            replace q8 := eq_true q8
            go_wp2
            go_ret
            exact ⟨by first | rfl | simp | simp [*] | simp [bne_nil_], by repeat (first | exact Drawn0.refl _ | apply Drawn0.step)⟩
          ·replace c12 := Bool.eq_false_iff.mpr c12
           subst c12
           have H1 : (some 7) = some r := by rw [if_neg (show ¬ (false = true) by decide)] at H; exact H
           clear H
           have H := H1
           clear H1
           obtain rfl := Option.some.inj H
           have p8 : 0 ≤ (x12_1 : Int) := of_decide_eq_true (by first | (with_reducible assumption) | assumption)
           have q8 : x12_1 < (a0.size : Int) := of_decide_eq_true (by first | (with_reducible assumption) | assumption)
           have hx8 := bt_at a0 x12_1
           replace p8 := eq_true p8
           replace q8 := eq_true q8
           go_wp2
           go_ret
           exact ⟨by first | rfl | simp | simp [*] | simp [bne_nil_], by repeat (first | exact Drawn0.refl _ | apply Drawn0.step)⟩
        ·rw [if_neg c10] at H
         have c10b0 : decide ((bt a0 x12_1) < 32) = false := decide_eq_false c10
         clear c10
         have H' := Aside0.mk H
         clear H
         have p8 : 0 ≤ (x12_1 : Int) := of_decide_eq_true (by first | (with_reducible assumption) | assumption)
         have q8 : x12_1 < (a0.size : Int) := of_decide_eq_true (by first | (with_reducible assumption) | assumption)
         have hx8 := bt_at a0 x12_1
         replace p8 := eq_true p8
         replace q8 := eq_true q8
         go_wp2
         go_roundg k1
         case measure => have := HK1.out; omega
         case rel => exact ⟨(wrap64 (x12_1 + 1)), (by first | rfl | (simp; done) | (simp [*]; done)), H', ⟨by have := HK1.out; omega⟩, by repeat (first | exact Drawn0.refl _ | apply Drawn0.step)⟩
      ·rw [if_neg c7] at H
       exact absurd H (by simp)
     ·rw [if_neg c6] at H
      exact absurd H (by simp)
    ·rw [if_neg c5] at H
     have c5b0 : decide (x12_1 < (a0.size : Int)) = false := decide_eq_false c5
     clear c5
     obtain rfl := Option.some.inj H
     go_wp2
     go_ret
     exact ⟨by first | rfl | simp | simp [*] | simp [bne_nil_], by repeat (first | exact Drawn0.refl _ | apply Drawn0.step)⟩
 ·replace c4 := Bool.eq_false_iff.mpr c4
  subst c4
  have H1 : (some 3) = some r := by rw [if_neg (show ¬ (false = true) by decide)] at H; exact H
  clear H
  have H := H1
  clear H1
  obtain rfl := Option.some.inj H
  go_enter Tryd.func48, Tryd.ntmps48
  go_wp2_with (first | ((with_reducible refine gate_callee (f := 70) rfl ?_); refine gm_ (some 8) Tryd.func70 #[.string a0] ?_; (with_reducible refine (trystref08_UTF.calls k a0 false _ A3.out).mono ?_); rintro e w' ⟨rfl, ⟨nd, rfl⟩⟩; refine ⟨_, rfl, ?_⟩))
  go_ret
  exact ⟨by first | rfl | simp | simp [*] | simp [bne_nil_], by repeat (first | exact Drawn0.refl _ | apply Drawn0.step)⟩

end Go.Proofs.YtddoidcbpcmlaaaDoor.M
/- escape.Clean and trystref08.Clean: one answer. (By hand.) -/
namespace Go.Proofs.YtddoidcbpcmlaaaDoor.Cln
open Go.RowKit Go.Proofs.YtddoidcbpcmlaaaDoorW.PrintWords Go.Proofs.YtddoidcbpcmlaaaDoorW.PrintLast Go.Proofs.YtddoidcbpcmlaaaDoor.M
set_option linter.unusedVariables false
set_option linter.unusedSimpArgs false
/-- The library's two tables stand in the world. -/
def Tabs (w : World) : Prop := Lib.Utf8Tabs (Shelf.laysValid_ren.g 3) (Shelf.laysValid_ren.g 4) w
theorem Tabs.below {w w' : World} (h : Tabs w) (hb : Below w.heap.size w w') : Tabs w' :=
 ⟨fun j hj => (hb.cell (World.block_lt_of_cell? w _ (h.1 j hj))).trans (h.1 j hj), fun j hj => ⟨(hb.cell (World.block_lt_of_cell? w _ (h.2 j hj).1)).trans (h.2 j hj).1, (hb.cell (World.block_lt_of_cell? w _ (h.2 j hj).2)).trans (h.2 j hj).2⟩⟩
/-- May a byte not stand in a text? -/
def ctl (z : Int) (f : Bool) : Bool := if z = 9 then false else if z = 10 then !f else if z < 32 then true else z == 127
def all (s : ByteArray) (f : Bool) : Bool := (List.range s.size).all fun j => !ctl (bt s (j : Int)) f
theorem all_yes {s : ByteArray} {f : Bool} (h : ∀ j : Nat, j < s.size → ctl (bt s (j : Int)) f = false) : all s f = true := by
 unfold all
 rw [List.all_eq_true]
 intro j hj
 rw [h j (List.mem_range.1 hj)]
 rfl
theorem all_no {s : ByteArray} {f : Bool} {j : Nat} (hj : j < s.size) (h : ctl (bt s (j : Int)) f = true) : all s f = false := by
 cases q : all s f with
 | false => rfl
 | true =>
  unfold all at q
  have := List.all_eq_true.1 q j (List.mem_range.2 hj)
  rw [h] at this
  cases this
/-- What is wrong with a text. -/
def clF (s : ByteArray) (f : Bool) : Int := if Lib.validD s.data.toList = true then (if all s f = true then 0 else 7) else 3
set_option maxHeartbeats 2000000 in
set_option maxRecDepth 100000 in
theorem clean (s : ByteArray) (f : Bool) (w : World) (hs : s.size ≤ 9223372036854775807) (hT : Tabs w) :
  Calls Tryd.prog 40 #[.string s, .bool f] w fun e w' => e = .returned (.int .i64 (clF s f)) ∧ Below w.heap.size w w' := by
 have HS := Aside0.mk hs; have HT := Aside0.mk hT
 clear hs hT
 go_enter Tryd.func40, Tryd.ntmps40
 go_wp2_with fail
 refine (Shelf.utf8_ValidString s w HS.out HT.out).mono ?_
 rintro q w1 ⟨rfl, hb⟩
 have HB := Aside0.mk hb
 clear hb
 rcases hv : Lib.validD s.data.toList with _ | _
 ·have HV := Aside0.mk hv
  clear hv
  go_wp2_with fail
  go_ret
  exact ⟨by unfold clF; rw [HV.out]; rfl, HB.out⟩
 have HV := Aside0.mk hv
 clear hv
 go_wp2_with fail
 go_loopg [11] s.size (fun kq v w' => ∃ (i : Nat) (x : Int), v = .int .i64 x ∧ Aside0 (x = (i : Int)) ∧ Aside0 (i + kq = s.size) ∧ Aside0 (∀ j : Nat, j < i → ctl (bt s (j : Int)) f = false) ∧ Aside0 (Below w.heap.size w w'))
 case atStart => exact ⟨0, 0, rfl, ⟨rfl⟩, ⟨by omega⟩, ⟨fun j hj => by omega⟩, HB⟩
 case round =>
  clear HB
  obtain ⟨i, x, rfl, HX, HI, HU, HB⟩ := hrel
  cases gk with
  | zero =>
   have ZA := Aside0.mk (all_yes (s := s) (f := f) (fun j hj => HU.out j (by have := HI.out; omega)))
   have l1 : decide (x < (s.size : Int)) = false := decide_eq_false (by have := HX.out; have := HI.out; omega)
   go_wp2_with fail
   go_ret
   exact ⟨by unfold clF; rw [HV.out, ZA.out]; rfl, HB.out⟩
  | succ k1 =>
   have l1 : decide (x < (s.size : Int)) = true := decide_eq_true (by have := HX.out; have := HI.out; omega)
   have nx : wrap64 (x + 1) = x + 1 := by have := HX.out; have := HI.out; have := HS.out; unfold wrap64; omega
   have p1 : (0 ≤ x) = True := eq_true (by have := HX.out; omega)
   have q1 : (x < (s.size : Int)) = True := eq_true (by have := HX.out; have := HI.out; omega)
   have hx := bt_at s x
   obtain ⟨z, hz⟩ : ∃ z, bt s x = z := ⟨_, rfl⟩
   have HZ := Aside0.mk (show bt s (i : Int) = z by rw [← HX.out]; exact hz)
   rw [hz] at hx
   clear hz
   go_wp2_with fail
   refine (escape_control.calls z f (ctl z f) _ (by unfold escape_control.f ctl; (repeat' split) <;> rfl)).mono ?_
   rintro q w2 ⟨rfl, hb⟩
   replace HB := Aside0.mk (below_then HB.out HB.out.size hb.below)
   clear hb
   rcases hc : ctl z f with _ | _
   ·have HC := Aside0.mk hc
    clear hc
    go_wp2_with fail
    go_roundg k1
    case measure => omega
    case rel =>
     refine ⟨i + 1, x + 1, by simp [nx], ⟨by have := HX.out; push_cast; omega⟩, ⟨by have := HI.out; omega⟩, ⟨fun j hj => ?_⟩, HB⟩
     by_cases e : j = i
     ·subst e
      rw [HZ.out]
      exact HC.out
     ·exact HU.out j (by omega)
   ·have HC := Aside0.mk hc
    clear hc
    go_wp2_with fail
    go_ret
    exact ⟨by unfold clF; rw [HV.out, all_no (j := i) (by have := HI.out; omega) (by rw [HZ.out]; exact HC.out)]; rfl, HB.out⟩
/-! the reference -/
theorem ref_l (s : ByteArray) (f : Bool) (hs : s.size ≤ 140737488355328) : ∀ q i : Nat, i + q = s.size → (∀ j : Nat, j < i → ctl (bt s (j : Int)) f = false) → ∀ k, trystref08_Clean.l0 (q + 1 + k) s f (s.size : Int) (i : Int) = some (if all s f = true then 0 else 7) := by
 intro q
 induction q with
 | zero =>
  intro i h hu k
  rw [show 0 + 1 + k = k + 1 from by omega]
  unfold trystref08_Clean.l0
  rw [if_neg (by omega), all_yes (fun j hj => hu j (by omega))]
  rfl
 | succ q ih =>
  intro i h hu k
  rw [show q + 1 + 1 + k = (q + 1 + k) + 1 from by omega]
  have e1 : wrap64 ((i : Int) + 1) = ((i + 1 : Nat) : Int) := by unfold wrap64; omega
  unfold trystref08_Clean.l0
  rw [if_pos (by omega), if_pos (by omega), if_pos (by omega), e1]
  have no : ctl (bt s (i : Int)) f = true → (some 7 : Option Int) = some (if all s f = true then 0 else 7) := fun hc => by rw [all_no (by omega) hc]; rfl
  have yes : ctl (bt s (i : Int)) f = false → trystref08_Clean.l0 (q + 1 + k) s f (s.size : Int) ((i + 1 : Nat) : Int) = some (if all s f = true then 0 else 7) := fun hc => ih (i + 1) (by omega) (fun j hj => by
   by_cases e : j = i
   ·subst e; exact hc
   ·exact hu j (by omega)) k
  generalize bt s (i : Int) = z at no yes ⊢
  unfold ctl at no yes
  by_cases c1 : z = 127
  ·rw [if_pos c1]
   exact no (by subst c1; rfl)
  rw [if_neg c1]
  by_cases c2 : z < 32
  ·rw [if_pos c2]
   by_cases c3 : z = 9
   ·rw [if_pos c3]
    exact yes (by rw [if_pos c3])
   rw [if_neg c3]
   rw [if_neg c3] at no yes
   cases f with
   | false =>
    rw [if_neg (by simp)]
    refine no ?_
    split <;> simp
   | true =>
    rw [if_pos rfl]
    by_cases c4 : z = 10
    ·rw [if_pos c4]
     exact yes (by rw [if_pos c4]; rfl)
    ·rw [if_neg c4]
     exact no (by rw [if_neg c4, if_pos c2])
  ·rw [if_neg c2]
   refine yes ?_
   rw [if_neg (by omega), if_neg (by omega), if_neg c2]
   simpa using c1
theorem ref (s : ByteArray) (f : Bool) (hs : s.size ≤ 140737488355328) (k : Nat) (hk : s.size + 9 ≤ k) : trystref08_Clean.f k s f = some (clF s f) := by
 unfold trystref08_Clean.f clF
 rw [Utf.utf s hs k hk, Option.bind_some]
 obtain ⟨q, rfl⟩ : ∃ q, k = s.size + 1 + q := ⟨k - (s.size + 1), by omega⟩
 by_cases h : Lib.validD s.data.toList = true
 ·rw [if_pos h, if_pos h]
  exact ref_l s f hs s.size 0 (by omega) (fun j hj => by omega) q
 ·rw [if_neg h, if_neg h]
end Go.Proofs.YtddoidcbpcmlaaaDoor.Cln
/- line.Formed: the program's, walked. (By hand.) -/
namespace Go.Proofs.YtddoidcbpcmlaaaDoor.LinF
open Go.RowKit Go.Proofs.YtddoidcbpcmlaaaDoorW.PrintWords Go.Proofs.YtddoidcbpcmlaaaDoorW.PrintLast Go.Proofs.YtddoidcbpcmlaaaDoor.M Go.Proofs.YtddoidcbpcmlaaaDoor.Cln Go.Proofs.YtddoidcbpcmlaaaDoor.LinN
set_option linter.unusedVariables false
set_option linter.unusedSimpArgs false
abbrev LP := S79
abbrev LL := S58
/-- Is a parameter formed? -/
def parB (p : LP) : Bool := nameB p.f0 && (decide (1 ≤ p.f1.length) && decide (p.f1.length ≤ 60)) && p.f1.all fun v => clF v true == 0
/-- Has one of the first i parameters that name? -/
def dup (ps : List LP) (i : Nat) (nm : ByteArray) : Bool := (ps.take i).any fun q => q.f0.toList == nm.toList
def lineB (x : LL) : Bool := nameB x.f0 && (decide (x.f1.length ≤ 60) && clF x.f2 false == 0) && (List.range x.f1.length).all fun i => parB (rd_T79 x.f1 (i : Int)) && !dup x.f1 i (rd_T79 x.f1 (i : Int)).f0
theorem str_at {w : World} {A : Option Addr} {xs : List ByteArray} (h : Kd.C Kd.string w A xs.length xs) (i : Nat) (hi : i < xs.length) : ∃ ad, A = some ad ∧ w.cell? (ad.add i) = some (.string xs[i]) := by
 obtain ⟨_, _, h3⟩ := h
 obtain ⟨ad, e, h4⟩ := h3 (by omega)
 obtain ⟨cs, _, e2, e3⟩ := h4 i xs[i] (List.getElem?_eq_getElem hi)
 obtain rfl : cs = [.string xs[i]] := e2
 refine ⟨ad, e, ?_⟩
 have := e3 0 (.string xs[i]) rfl
 rwa [show i * Kd.string.sz + 0 = i from by show i * 1 + 0 = i; omega] at this
theorem nameC (s : ByteArray) (hs : s.size ≤ 9223372036854775807) (w : World) : Calls Tryd.prog 63 #[.string s] w fun e w' => e = .returned (.bool (nameB s)) ∧ Drawn0 w w' := line_Name.calls (s.size + 1) s (nameB s) w (lin s hs (s.size + 1) (Nat.le_refl _)).1
theorem clF_ok (s : ByteArray) (f : Bool) : (clF s f == 0) = decide (clF s f = 0) := by
 by_cases h : clF s f = 0
 ·rw [h]; rfl
 ·rw [decide_eq_false h]; simpa using h
set_option maxHeartbeats 4000000 in
set_option maxRecDepth 100000 in
theorem param (p : LP) (A : Option Addr) (c : Nat) (w : World) (hC : Kd.C Kd.string w A p.f1.length p.f1) (hn : p.f0.size ≤ 9223372036854775807) (hv : ∀ v ∈ p.f1, v.size ≤ 9223372036854775807) (hT : Tabs w) :
  Calls Tryd.prog 64 #[.agg #[.string p.f0, .slice A p.f1.length c]] w fun e w' => e = .returned (.bool (parB p)) ∧ Below w.heap.size w w' := by
 have HC := Aside0.mk hC; have HN := Aside0.mk hn; have HV := Aside0.mk hv; have HT := Aside0.mk hT
 clear hC hn hv hT
 go_enter Tryd.func64, Tryd.ntmps64
 go_upto_region 1 with fail
 obtain ⟨w0, hw0, z0⟩ : ∃ w0, w0 = w.alloc (.cells #[.string p.f0, .slice A p.f1.length c] 79 (0, 0)) ∧ w0.heap[w.heap.size]? = some (.cells #[.string p.f0, .slice A p.f1.length c] 79 (0, 0)) ∧ Below w.heap.size w w0 := ⟨_, rfl, blk_new _ _, below_alloc (Below.refl _ _) _⟩
 have K1 := Aside0.mk z0.1; have HB := Aside0.mk z0.2
 rw [← hw0]
 clear hw0 z0
 have x0 : w0.cell? ⟨w.heap.size, 0, none⟩ = some (.string p.f0) := (blk_cell K1.out 0).trans rfl
 have x1 : w0.cell? ⟨w.heap.size, 1, none⟩ = some (.slice A p.f1.length c) := (blk_cell K1.out 1).trans rfl
 go_wp2_with fail
 refine (nameC p.f0 HN.out w0).mono ?_
 rintro q w1 ⟨rfl, hd⟩
 have hb := hd.below
 replace K1 := Aside0.mk (blk_below K1.out hb); replace x1 := pw_cell_below hb x1; replace HB := Aside0.mk (below_then HB.out HB.out.size hb)
 clear hd hb x0
 rcases hnm : nameB p.f0 with _ | _
 ·have NM := Aside0.mk hnm
  clear hnm
  go_wp2_with fail
  go_ret
  exact ⟨by unfold parB; rw [NM.out]; rfl, HB.out⟩
 have NM := Aside0.mk hnm
 clear hnm
 by_cases c1 : (p.f1.length : Int) < 1
 ·have l1 := decide_eq_true c1
  have C1 := Aside0.mk c1
  clear c1
  go_wp2_with fail
  go_ret
  exact ⟨by unfold parB; rw [decide_eq_false (show ¬ 1 ≤ p.f1.length by have := C1.out; omega)]; simp, HB.out⟩
 have l1 := decide_eq_false c1
 have C1 := Aside0.mk c1
 clear c1
 by_cases c2 : (p.f1.length : Int) > 60
 ·have l2 := decide_eq_true c2
  have C2 := Aside0.mk c2
  clear c2
  go_wp2_with fail
  go_ret
  exact ⟨by unfold parB; rw [decide_eq_false (show ¬ p.f1.length ≤ 60 by have := C2.out; omega)]; simp, HB.out⟩
 have l2 := decide_eq_false c2
 have C2 := Aside0.mk c2
 clear c2
 go_wp2_with fail
 clear l1 l2 x1
 go_loopg [24] p.f1.length (fun kq v w' => ∃ (i : Nat) (x : Int), v = .int .i64 x ∧ Aside0 (x = (i : Int)) ∧ Aside0 (i + kq = p.f1.length) ∧ Aside0 (∀ j : Nat, j < i → ∀ h : j < p.f1.length, clF p.f1[j] true = 0) ∧ Aside0 (Below w.heap.size w w'))
 case atStart => exact ⟨0, 0, rfl, ⟨rfl⟩, ⟨by omega⟩, ⟨fun j hj => by omega⟩, HB⟩
 case round =>
  clear HB K1
  obtain ⟨i, x, rfl, HX, HI, HU, HB⟩ := hrel
  cases gk with
  | zero =>
   have l1 : decide (x < (p.f1.length : Int)) = false := decide_eq_false (by have := HX.out; have := HI.out; omega)
   go_wp2_with fail
   go_ret
   refine ⟨?_, HB.out⟩
   unfold parB
   rw [NM.out, decide_eq_true (show 1 ≤ p.f1.length by have := C1.out; omega), decide_eq_true (show p.f1.length ≤ 60 by have := C2.out; omega)]
   rw [List.all_eq_true.2 (fun v hv => ?_)]
   ·rfl
   ·obtain ⟨j, hj, rfl⟩ := List.getElem_of_mem hv
    simpa using HU.out j (by have := HI.out; omega) hj
  | succ k1 =>
   have hi : i < p.f1.length := by have := HI.out; omega
   have l1 : decide (x < (p.f1.length : Int)) = true := decide_eq_true (by have := HX.out; have := HI.out; omega)
   have nx : wrap64 (x + 1) = x + 1 := by have := HX.out; have := HI.out; have := C2.out; unfold wrap64; omega
   have p1 : (0 ≤ x) = True := eq_true (by have := HX.out; omega)
   have q1 : (x < (p.f1.length : Int)) = True := eq_true (by have := HX.out; have := HI.out; omega)
   obtain ⟨ad, rfl, y0⟩ := str_at (Kd.C_below HC.out HB.out) i hi
   have y1 : wr.cell? (ad.add x.toNat) = some (.string p.f1[i]) := by rw [HX.out, Int.toNat_natCast]; exact y0
   have hs := HV.out _ (List.getElem_mem hi)
   obtain ⟨s, hse⟩ : ∃ s, p.f1[i] = s := ⟨_, rfl⟩
   have SE := Aside0.mk (show ∀ h : i < p.f1.length, p.f1[i] = s from fun _ => hse)
   rw [hse] at y1 hs
   have HSS := Aside0.mk hs
   clear y0 hse hs hi
   go_wp2_with fail
   refine (clean s true _ HSS.out (HT.out.below HB.out)).mono ?_
   rintro q w2 ⟨rfl, hb⟩
   replace HB := Aside0.mk (below_then HB.out HB.out.size hb)
   clear hb y1
   by_cases hc : clF s true = 0
   ·have HCL := Aside0.mk hc
    have hc2 : decide (clF s true = 0) = true := decide_eq_true hc
    have hc3 : (clF s true != 0) = false := by simp [hc]
    clear hc
    go_wp2_with fail
    go_roundg k1
    case measure => omega
    case rel =>
     refine ⟨i + 1, x + 1, by simp [nx], ⟨by have := HX.out; push_cast; omega⟩, ⟨by have := HI.out; omega⟩, ⟨fun j hj h => ?_⟩, HB⟩
     by_cases e : j = i
     ·subst e
      rw [SE.out h]
      exact HCL.out
     ·exact HU.out j (by omega) h
   ·have HCL := Aside0.mk hc
    have hc2 : decide (clF s true = 0) = false := decide_eq_false hc
    have hc3 : (clF s true != 0) = true := by simp [hc]
    clear hc
    go_wp2_with fail
    go_ret
    refine ⟨?_, HB.out⟩
    have hi : i < p.f1.length := by have := HI.out; omega
    unfold parB
    have : (p.f1.all fun v => clF v true == 0) = false := by
     cases q : p.f1.all fun v => clF v true == 0 with
     | false => rfl
     | true =>
      have := List.all_eq_true.1 q _ (List.getElem_mem hi)
      rw [SE.out hi] at this
      exact absurd (by simpa using this) HCL.out
    rw [this]
    simp
/-! where a parameter stands -/
set_option maxHeartbeats 4000000 in
set_option maxRecDepth 100000 in
theorem at1 (p : LP) (v1 : Value) (b : Nat) (nm : ByteArray) (w : World) (hb : w.cell? ⟨b, 0, none⟩ = some (.string nm)) (ho : v1.oneCell' = true) :
  Calls Tryd.prog 87 #[.agg #[.string p.f0, v1], .pointer (some ⟨b, 0, none⟩)] w fun e w' => e = .returned (.bool (p.f0.toList == nm.toList)) ∧ Below w.heap.size w w' := by
 go_enter Tryd.func87, Tryd.ntmps87
 go_upto_region 1 with fail
 obtain ⟨w0, hw0, z0⟩ : ∃ w0, w0 = w.alloc (.cells #[.string p.f0, v1] 79 (0, 0)) ∧ w0.heap[w.heap.size]? = some (.cells #[.string p.f0, v1] 79 (0, 0)) ∧ Below w.heap.size w w0 := ⟨_, rfl, blk_new _ _, below_alloc (Below.refl _ _) _⟩
 rw [← hw0]
 have x0 : w0.cell? ⟨w.heap.size, 0, none⟩ = some (.string p.f0) := (blk_cell z0.1 0).trans rfl
 have x1 : w0.cell? ⟨b, 0, none⟩ = some (.string nm) := pw_cell_below z0.2 hb
 have HB := Aside0.mk z0.2
 clear hw0 z0 hb
 go_wp2_with fail
 go_ret
 exact ⟨by first | rfl | simp, HB.out⟩
set_option maxHeartbeats 4000000 in
set_option maxRecDepth 100000 in
theorem index (ps : List LP) (A : Option Addr) (c b : Nat) (nm : ByteArray) (w : World) (hC : Kd.C k79 w A ps.length ps) (hb : w.cell? ⟨b, 0, none⟩ = some (.string nm)) (hm : ps.length ≤ 1000000) :
  Calls Tryd.prog 86 #[.slice A ps.length c, .func (.func 87) #[] #[.pointer (some ⟨b, 0, none⟩)]] w fun e w' => ∃ n : Int, e = .returned (.int .i64 n) ∧ decide (n ≥ 0) = (ps.any fun q => q.f0.toList == nm.toList) ∧ Below w.heap.size w w' := by
 have HC := Aside0.mk hC; have HN := Aside0.mk hb; have HM := Aside0.mk hm
 clear hC hb hm
 go_enter Tryd.func86, Tryd.ntmps86
 go_wp2_with fail
 go_loopg [8] ps.length (fun kq v w' => ∃ (i : Nat) (x : Int), v = .int .i64 x ∧ Aside0 (x = (i : Int)) ∧ Aside0 (i + kq = ps.length) ∧ Aside0 (∀ j : Nat, j < i → ∀ h : j < ps.length, (ps[j].f0.toList == nm.toList) = false) ∧ Aside0 (Below w.heap.size w w'))
 case atStart => exact ⟨0, 0, rfl, ⟨rfl⟩, ⟨by omega⟩, ⟨fun j hj => by omega⟩, ⟨Below.refl _ _⟩⟩
 case round =>
  obtain ⟨i, x, rfl, HX, HI, HU, HB⟩ := hrel
  cases gk with
  | zero =>
   have l1 : decide (x < (ps.length : Int)) = false := decide_eq_false (by have := HX.out; have := HI.out; omega)
   go_wp2_with fail
   go_ret
   refine ⟨-1, rfl, ?_, HB.out⟩
   have : (ps.any fun q => q.f0.toList == nm.toList) = false := by
    rw [List.any_eq_false]
    intro q hq
    obtain ⟨j, hj, rfl⟩ := List.getElem_of_mem hq
    rw [HU.out j (by have := HI.out; omega) hj]
    simp
   rw [this]
   rfl
  | succ k1 =>
   have hi : i < ps.length := by have := HI.out; omega
   have l1 : decide (x < (ps.length : Int)) = true := decide_eq_true (by have := HX.out; have := HI.out; omega)
   have nx : wrap64 (x + 1) = x + 1 := by have := HX.out; have := HI.out; have := HM.out; unfold wrap64; omega
   have p1 : 0 ≤ x := by have := HX.out; omega
   have q1 : x < (ps.length : Int) := by have := HX.out; omega
   obtain ⟨ad, B1, b1, rfl, y0, y1, ly, gy⟩ := at_T79 (Kd.C_below HC.out HB.out) x p1 q1
   have hxi : rd_T79 ps x = ps[i] := by simp [rd_T79, HX.out, hi]
   rw [hxi] at y0 y1
   obtain ⟨p, hp⟩ : ∃ p, ps[i] = p := ⟨_, rfl⟩
   have SE := Aside0.mk (show ∀ h : i < ps.length, ps[i] = p from fun _ => hp)
   rw [hp] at y0 y1
   have x1 : wr.cell? ⟨b, 0, none⟩ = some (.string nm) := pw_cell_below HB.out HN.out
   replace p1 := eq_true p1; replace q1 := eq_true q1
   clear ly gy hxi hp hi
   go_wp2_with fail
   refine (at1 p _ b nm _ x1 rfl).mono ?_
   rintro q w2 ⟨rfl, hb⟩
   replace HB := Aside0.mk (below_then HB.out HB.out.size hb)
   clear hb x1 y0 y1
   rcases hc : (p.f0.toList == nm.toList) with _ | _
   ·have HCL := Aside0.mk hc
    clear hc
    go_wp2_with fail
    go_roundg k1
    case measure => omega
    case rel =>
     refine ⟨i + 1, x + 1, by simp [nx], ⟨by have := HX.out; push_cast; omega⟩, ⟨by have := HI.out; omega⟩, ⟨fun j hj h => ?_⟩, HB⟩
     by_cases e : j = i
     ·subst e
      rw [SE.out h]
      exact HCL.out
     ·exact HU.out j (by omega) h
   ·have HCL := Aside0.mk hc
    clear hc
    go_wp2_with fail
    go_ret
    refine ⟨x, rfl, ?_, HB.out⟩
    have hi : i < ps.length := by have := HI.out; omega
    rw [decide_eq_true (by have := HX.out; omega)]
    symm
    rw [List.any_eq_true]
    exact ⟨ps[i], List.getElem_mem hi, by rw [SE.out hi]; exact HCL.out⟩
set_option maxHeartbeats 4000000 in
set_option maxRecDepth 100000 in
theorem at_ (ps : List LP) (A : Option Addr) (c : Nat) (nm : ByteArray) (w : World) (hC : Kd.C k79 w A ps.length ps) (hm : ps.length ≤ 1000000) :
  Calls Tryd.prog 65 #[.slice A ps.length c, .string nm] w fun e w' => ∃ n : Int, e = .returned (.int .i64 n) ∧ decide (n ≥ 0) = (ps.any fun q => q.f0.toList == nm.toList) ∧ Below w.heap.size w w' := by
 have HC := Aside0.mk hC; have HM := Aside0.mk hm
 clear hC hm
 go_enter Tryd.func65, Tryd.ntmps65
 go_upto_region 1 with fail
 have hb : Below w.heap.size w (w.alloc (.cells #[.string nm] 9 (0, 0))) := below_alloc (Below.refl _ _) _
 have x0 : (w.alloc (.cells #[.string nm] 9 (0, 0))).cell? ⟨w.heap.size, 0, none⟩ = some (.string nm) := (blk_cell (blk_new w _) 0).trans rfl
 have HB := Aside0.mk hb; have X0 := Aside0.mk x0
 clear hb x0
 generalize w.alloc (.cells #[.string nm] 9 (0, 0)) = w0 at HB X0 ⊢
 go_wp2_with fail
 refine (index ps A c w.heap.size nm w0 (Kd.C_below HC.out HB.out) X0.out HM.out).mono ?_
 rintro q w1 ⟨n, rfl, hn, hd⟩
 have HN := Aside0.mk hn
 replace HB := Aside0.mk (below_then HB.out HB.out.size hd)
 clear hn hd
 go_wp2_with fail
 go_ret
 exact ⟨n, rfl, HN.out, HB.out⟩
end Go.Proofs.YtddoidcbpcmlaaaDoor.LinF
