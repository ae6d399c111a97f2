/- Texts of this claim, merged: FunJ, Cal3, FunM, FunS, CalH. -/
import Derived.Test.YtgbbgcepcnklkaaGreatDoorMgShowParses12
import Derived.Test.YtgbbgcepcnklkaaGreatDoorMgShowParses4
import Derived.Test.YtgbbgcepcnklkaaGreatDoorMgShowParses10
import Derived.Test.YtgbbgcepcnklkaaGreatDoorMgShowParses7
import Derived.Test.YtgbbgcepcnklkaaGreatDoorMgShowParses8
/- What the program's package julian reckons, in plain numbers. -/
namespace Go.Proofs.YtgbbgcepcnklkaaGreatDoor.FunJ
open Go.RowKit Go.Proofs.YtgbbgcepcnklkaaGreatDoorW.PrintWords Go.Proofs.YtgbbgcepcnklkaaGreatDoorW.PrintLast Go.Proofs.YtgbbgcepcnklkaaGreatDoor.Q Go.Proofs.YtgbbgcepcnklkaaGreatDoor.Cal Go.Proofs.YtgbbgcepcnklkaaGreatDoor.FunA Go.Proofs.YtgbbgcepcnklkaaGreatDoor.FunC
theorem jbd (y : Int) (h : -40000 ≤ y) (h' : y ≤ 40000) : -15000000 ≤ jb y ∧ jb y ≤ 15000000 := by unfold jb; omega
theorem jAhead (y : Int) (h : -40000 ≤ y) (h' : y ≤ 40000) : julian_ahead.f y = some (jb y + 2) := by
 unfold julian_ahead.f
 rw [w64 (x := y - 1) (by omega) (by omega), rFloor _ 4 (by omega) ⟨by omega, by omega⟩, Option.bind_some]
 congr 1
 unfold jb wrap64; omega
theorem dim_any (a b m : Int) (h : m ≠ 2) : dim a m = dim b m := by
 unfold dim; rw [if_neg h, if_neg h]
theorem jLength (k : Nat) (hk : 2 ≤ k) (y m : Int) (hy : I64 y) : julian_length.f k y m = some (dim (lj y) m) := by
 unfold julian_length.f
 by_cases h : m = 2
 ·subst h
  rw [if_pos rfl, rMod y 4 (by omega) (by omega) hy, Option.bind_some]
  unfold dim lj
  by_cases c : y % 4 = 0
  ·simp [c]
  ·simp [c]
 ·rw [if_neg h, rLength k hk, Option.bind_some, dim_any _ (lj y) m h]
theorem jDays_yes (day : Int) (h : In day) : julian_days.f day = some (day, 0) := by
 unfold julian_days.f; rw [rOf_yes h, Option.bind_some, if_pos rfl]
theorem jDays_no (day : Int) (h : ¬ In day) : julian_days.f day = some (0, 2) := by
 unfold julian_days.f; rw [rOf_no h, Option.bind_some, if_neg (by simp)]
/-- A Julian date of the years that are asked. -/
def RightJ (y m d : Int) : Prop := 1 ≤ y ∧ y ≤ 20000 ∧ 1 ≤ d ∧ d ≤ dim (lj y) m
/-- Its day, or an error. -/
def dayOr (n : Int) : Int × Int := if 1 ≤ n ∧ n ≤ 3652059 then (n, 0) else (0, 2)
theorem dayOr_yes {n : Int} (h : In n) : dayOr n = (n, 0) := if_pos h
theorem dayOr_no {n : Int} (h : ¬ In n) : dayOr n = (0, 2) := if_neg h
theorem jDays (day : Int) : julian_days.f day = some (dayOr day) := by
 by_cases h : In day
 ·rw [jDays_yes _ h, dayOr_yes h]
 ·rw [jDays_no _ h, dayOr_no h]
theorem jFrom0 (y m d : Int) (hy : -40000 ≤ y) (hy' : y ≤ 40000) (hm : m ≤ 12) (hd : -1000 ≤ d) (hd' : d ≤ 1000) : ∀ (j k : Nat) (n i : Int), 1 ≤ i → i ≤ m → m - i = j → j + 4 ≤ k → -20000000 ≤ n → n + 31 * j ≤ 20000000 →
  julian_FromJulian.l0 k n i y m d = some (dayOr (n - 2 + cum (lj y) m - cum (lj y) i + d)) := by
 intro j
 induction j with
 | zero =>
  intro k n i h1 h2 h3 h4 h5 h6
  obtain ⟨k, rfl⟩ : ∃ j, k = j + 1 := ⟨k - 1, by omega⟩
  have e : i = m := by omega
  subst e
  simp only [julian_FromJulian.l0]
  rw [if_neg (by omega), w64 (x := -1 + n) (by omega) (by omega), w64 (x := -1 + n + d) (by omega) (by omega), w64 (x := -1 + n + d - 1) (by omega) (by omega), jDays]
  have e : -1 + n + d - 1 = n - 2 + cum (lj y) i - cum (lj y) i + d := by omega
  rw [e]; rfl
 | succ j ih =>
  intro k n i h1 h2 h3 h4 h5 h6
  obtain ⟨k, rfl⟩ : ∃ j, k = j + 1 := ⟨k - 1, by omega⟩
  have hl := dim_lo (lj y) i (lj_01 y) h1 (by omega)
  have hc := cum_succ (lj y) i h1 (by omega)
  simp only [julian_FromJulian.l0]
  rw [if_pos (by omega), jLength k (by omega) y i ⟨by omega, by omega⟩, Option.bind_some, w64 (x := n + dim (lj y) i) (by omega) (by omega), w64 (x := i + 1) (by omega) (by omega), ih k _ (i + 1) (by omega) (by omega) (by omega) (by omega) (by omega) (by omega)]
  have e : n + dim (lj y) i - 2 + cum (lj y) m - cum (lj y) (i + 1) + d = n - 2 + cum (lj y) m - cum (lj y) i + d := by omega
  rw [e]
theorem jFrom_no (k : Nat) (hk : 4 ≤ k) (y m d : Int) (h : ¬ RightJ y m d) : julian_FromJulian.f k y m d = some (0, 2) := by
 have key : julian_FromJulian.j0 k true y m d = some (0, 2) := by
  obtain ⟨k, rfl⟩ : ∃ j, k = j + 1 := ⟨k - 1, by omega⟩
  simp only [julian_FromJulian.j0, if_true]
 unfold julian_FromJulian.f
 by_cases a : y < 1
 ·rw [if_pos a, key]
 ·by_cases b : y > 20000
  ·rw [if_neg a, if_pos b, key]
  ·by_cases c : d < 1
   ·rw [if_neg a, if_neg b, if_pos c, key]
   ·rw [if_neg a, if_neg b, if_neg c, jLength k (by omega) y m ⟨by omega, by omega⟩, Option.bind_some, decide_eq_true (show d > dim (lj y) m from by
     by_cases e : d ≤ dim (lj y) m
     ·exact absurd ⟨by omega, by omega, by omega, e⟩ h
     ·omega), key]
theorem jFrom_yes (k : Nat) (hk : 20 ≤ k) (y m d : Int) (h : RightJ y m d) : julian_FromJulian.f k y m d = some (dayOr (jb y + cum (lj y) m + d)) := by
 obtain ⟨h1, h2, h3, h4⟩ := h
 have hm := dim_pos (lj y) m (by omega)
 have hd := dim_lo (lj y) m (lj_01 y) hm.1 hm.2
 have hb := jbd y (by omega) (by omega)
 unfold julian_FromJulian.f
 rw [if_neg (by omega), if_neg (by omega), if_neg (by omega), jLength k (by omega) y m ⟨by omega, by omega⟩, Option.bind_some, decide_eq_false (by omega)]
 obtain ⟨k, rfl⟩ : ∃ j, k = j + 1 := ⟨k - 1, by omega⟩
 simp only [julian_FromJulian.j0]
 rw [if_neg (by simp), jAhead y (by omega) (by omega), Option.bind_some, jFrom0 y m d (by omega) (by omega) hm.2 (by omega) (by omega) (m - 1).toNat k (jb y + 2) 1 (by omega) hm.1 (by omega) (by omega) (by omega) (by omega), cum_one]
 have e : jb y + 2 - 2 + cum (lj y) m - 0 + d = jb y + cum (lj y) m + d := by omega
 rw [e]
theorem jDate0 (y : Int) (hy : I64 y) : ∀ (j k : Nat) (n m : Int), 1 ≤ m → m ≤ 12 → 12 - m = j → j + 3 < k → 0 ≤ n → n + cum (lj y) m < 365 + lj y →
  ∃ m' d, julian_Julian.l1 k n y m 0 = some (y, m', d, 0) ∧ m ≤ m' ∧ m' ≤ 12 ∧ 1 ≤ d ∧ d ≤ dim (lj y) m' ∧ n + 1 + cum (lj y) m = cum (lj y) m' + d := by
 intro j
 induction j with
 | zero =>
  intro k n m h1 h2 h3 h4 h5 h6
  obtain ⟨k, rfl⟩ : ∃ j, k = j + 1 := ⟨k - 1, by omega⟩
  have : m = 12 := by omega
  subst this
  have e := cum_succ (lj y) 12 (by omega) (by omega)
  have e' := cum_end (lj y)
  have e2 : (12 : Int) + 1 = 13 := rfl
  have hl := lj_01 y
  rw [e2, e'] at e
  have hd := dim_lo (lj y) 12 (lj_01 y) (by omega) (by omega)
  refine ⟨12, n + 1, ?_, by omega, by omega, by omega, by omega, by omega⟩
  simp only [julian_Julian.l1]
  rw [jLength k (by omega) y 12 hy, Option.bind_some, if_neg (by omega), w64 (by omega) (by omega)]
 | succ j ih =>
  intro k n m h1 h2 h3 h4 h5 h6
  obtain ⟨k, rfl⟩ : ∃ j, k = j + 1 := ⟨k - 1, by omega⟩
  have e := cum_succ (lj y) m h1 h2
  have hd := dim_lo (lj y) m (lj_01 y) h1 h2
  have hl := lj_01 y
  have hc := cum_bd (lj_01 y) h1 (show m ≤ 13 by omega)
  simp only [julian_Julian.l1]
  rw [jLength k (by omega) y m hy, Option.bind_some]
  by_cases c : n ≥ dim (lj y) m
  ·rw [if_pos c, Option.bind_some, w64 (x := n - dim (lj y) m) (by omega) (by omega), w64 (x := m + 1) (by omega) (by omega)]
   obtain ⟨m', d, h7, h8, h9, h10, h11, h12⟩ := ih k (n - dim (lj y) m) (m + 1) (by omega) (by omega) (by omega) (by omega) (by omega) (by omega)
   exact ⟨m', d, h7, by omega, h9, h10, h11, by omega⟩
  ·rw [if_neg c, w64 (by omega) (by omega)]
   exact ⟨m, n + 1, rfl, by omega, h2, by omega, by omega, by omega⟩
theorem jDate_yes (k : Nat) (hk : 20 ≤ k) (day : Int) (h : In day) : ∃ y m d, julian_Julian.f k day = some (y, m, d, 0) ∧ Is jb lj y m d day ∧ 1 ≤ y ∧ y ≤ 20000 := by
 obtain ⟨h1, h2⟩ := h
 have hy : jb ((4 * (day + 1) + 1464) / 1461) < day ∧ day ≤ jb ((4 * (day + 1) + 1464) / 1461 + 1) ∧ 1 ≤ (4 * (day + 1) + 1464) / 1461 ∧ (4 * (day + 1) + 1464) / 1461 ≤ 20000 := by
  unfold jb; omega
 have e : julian_Julian.f k day = julian_Julian.l0 k (day + 1) ((4 * (day + 1) + 1464) / 1461) 1 0 := by
  unfold julian_Julian.f
  rw [rOf_yes ⟨h1, h2⟩, Option.bind_some, if_pos rfl, w64 (x := day + 1) (by omega) (by omega), w64 (x := 4 * (day + 1)) (by omega) (by omega), w64 (x := 4 * (day + 1) + 1464) (by omega) (by omega), rFloor _ 1461 (by omega) ⟨by omega, by omega⟩, Option.bind_some]
 rw [e]
 generalize (4 * (day + 1) + 1464) / 1461 = y at *
 obtain ⟨a1, a2, a3, a4⟩ := hy
 have hb := jbd y (by omega) (by omega)
 have hs := jul.succ y
 obtain ⟨k, rfl⟩ : ∃ j, k = j + 1 := ⟨k - 1, by omega⟩
 simp only [julian_Julian.l0]
 rw [jAhead y (by omega) (by omega), Option.bind_some, if_neg (by omega), Option.bind_some, w64 (by omega) (by omega)]
 obtain ⟨m, d, r1, r2, r3, r4, r5, r6⟩ := jDate0 y ⟨by omega, by omega⟩ 11 k (day + 1 - (jb y + 2)) 1 (by omega) (by omega) (by omega) (by omega) (by omega) (by rw [cum_one]; omega)
 rw [cum_one] at r6
 exact ⟨y, m, d, r1, ⟨r2, r3, r4, r5, by omega⟩, a3, a4⟩
theorem jDate_no (k : Nat) (day : Int) (h : ¬ In day) : julian_Julian.f k day = some (0, 0, 0, 2) := by
 unfold julian_Julian.f
 rw [rOf_no h, Option.bind_some, if_neg (by simp)]
end Go.Proofs.YtgbbgcepcnklkaaGreatDoor.FunJ
/- Plain laws of the Islamic and the Persian calendar over whole numbers: no program in sight. -/
namespace Go.Proofs.YtgbbgcepcnklkaaGreatDoor.Cal3
open Go.RowKit Go.Proofs.YtgbbgcepcnklkaaGreatDoor.Cal
/-- Days ahead of an Islamic year. -/
def ib (y : Int) : Int := 227014 + 354 * (y - 1) + (3 + 11 * y) / 30
def li (y : Int) : Int := if (14 + 11 * y) % 30 < 11 then 1 else 0
theorem li_01 (y : Int) : li y = 0 ∨ li y = 1 := by unfold li; split <;> simp
theorem ib_succ (y : Int) : ib (y + 1) = ib y + 354 + li y := by
 unfold ib li
 rw [show 3 + 11 * (y + 1) = 14 + 11 * y by omega, show 3 + 11 * y = 14 + 11 * y - 11 by omega]
 generalize 14 + 11 * y = t
 split <;> omega
/-- Days of an Islamic year ahead of a month. -/
def ic (m : Int) : Int := 29 * (m - 1) + (6 * m - 1) / 11
/-- Days of an Islamic month. -/
def il (l m : Int) : Int := if m < 1 ∨ 12 < m then 0 else if m % 2 = 1 then 30 else if m = 12 then 29 + l else 29
theorem ic_succ (l m : Int) (h1 : 1 ≤ m) (h2 : m < 12) : ic (m + 1) = ic m + il l m := by
 rcases (by omega : m = 1 ∨ m = 2 ∨ m = 3 ∨ m = 4 ∨ m = 5 ∨ m = 6 ∨ m = 7 ∨ m = 8 ∨ m = 9 ∨ m = 10 ∨ m = 11) with h | h | h | h | h | h | h | h | h | h | h <;> subst h <;> simp [ic, il]
theorem ic_end (l : Int) : ic 12 + il l 12 = 354 + l := by unfold ic il; simp; omega
theorem il_lo (l m : Int) (hl : l = 0 ∨ l = 1) (h1 : 1 ≤ m) (h2 : m ≤ 12) : 29 ≤ il l m ∧ il l m ≤ 30 := by
 unfold il; rw [if_neg (by omega)]; split
 ·omega
 ·split <;> omega
theorem il_pos (l m : Int) (h : 0 < il l m) : 1 ≤ m ∧ m ≤ 12 := by
 unfold il at h; split at h <;> omega
theorem ic_bd {m : Int} (h1 : 1 ≤ m) (h2 : m ≤ 13) : 0 ≤ ic m ∧ ic m ≤ 360 := by unfold ic; omega
structure IsI (y m d day : Int) : Prop where
 m1 : 1 ≤ m
 m2 : m ≤ 12
 d1 : 1 ≤ d
 d2 : d ≤ il (li y) m
 e : day = ib y + ic m + d
theorem ib_le {x y : Int} (h : x ≤ y) : ib x + 354 * (y - x) ≤ ib y := by unfold ib; omega
theorem IsI.year {y m d day : Int} (h : IsI y m d day) : ib y < day ∧ day ≤ ib (y + 1) := by
 have h1 := h.m1; have h2 := h.m2; have h3 := h.d1; have h4 := h.d2; have h5 := h.e
 have s := ib_succ y; have l := li_01 y
 have b := ic_bd h1 (by omega)
 have hx : ic m + il (li y) m ≤ 354 + li y := by
  by_cases c : m = 12
  ·subst c; have := ic_end (li y); omega
  ·have := ic_succ (li y) m h1 (by omega)
   have : ic (m + 1) ≤ 340 := by unfold ic; omega
   omega
 omega
theorem ic_mono {a b : Int} (h : a < b) (h1 : 1 ≤ a) (h2 : b ≤ 12) (l : Int) : ic a + il l a ≤ ic b := by
 have := ic_succ l a h1 (by omega)
 unfold ic at *; omega
theorem IsI.one {y m d y' m' d' day : Int} (h : IsI y m d day) (h' : IsI y' m' d' day) : y = y' ∧ m = m' ∧ d = d' := by
 have a := h.year; have a' := h'.year
 have ey : y = y' := by
  by_cases b : y < y'
  ·have := ib_le (show y + 1 ≤ y' by omega); omega
  ·by_cases b' : y' < y
   ·have := ib_le (show y' + 1 ≤ y by omega); omega
   ·omega
 subst ey
 have := h.e; have := h'.e; have := h.d1; have := h'.d1; have := h.d2; have := h'.d2; have := h.m1; have := h.m2; have := h'.m1; have := h'.m2
 have em : m = m' := by
  by_cases a : m < m'
  ·have := ic_mono a (by omega) (by omega) (li y); omega
  ·by_cases a' : m' < m
   ·have := ic_mono a' (by omega) (by omega) (li y); omega
   ·omega
 subst em
 exact ⟨rfl, rfl, by omega⟩
/-- A day's Islamic year. -/
theorem iyear (day : Int) : ib ((30 * (day - 227015) + 10646) / 10631) < day ∧ day ≤ ib ((30 * (day - 227015) + 10646) / 10631 + 1) := by
 unfold ib; omega

/-- A Persian year, counted without a year 0, from the base on. -/
def ps (y : Int) : Int := if y > 0 then y - 474 else y - 473
def pc (z : Int) : Int := z % 2820 + 474
/-- Days ahead of a Persian year, by its place. -/
def pz (z : Int) : Int := 226895 + 1029983 * (z / 2820) + 365 * (pc z - 1) + (31 * pc z - 5) / 128
def pl (z : Int) : Int := if ((pc z + 38) * 31) % 128 < 31 then 1 else 0
theorem pl_01 (z : Int) : pl z = 0 ∨ pl z = 1 := by unfold pl; split <;> simp
theorem pz_succ (z : Int) : pz (z + 1) = pz z + 365 + pl z := by
 have key : ∀ q r : Int, z = 2820 * q + r → 0 ≤ r → r < 2820 → pz (z + 1) = pz z + 365 + pl z := by
  intro q r h1 h2 h3
  have e1 : z / 2820 = q := by omega
  have e2 : z % 2820 = r := by omega
  unfold pz pl pc
  rw [e1, e2]
  by_cases c : r = 2819
  ·subst c
   have e3 : (z + 1) / 2820 = q + 1 := by omega
   have e4 : (z + 1) % 2820 = 0 := by omega
   rw [e3, e4]
   simp
   omega
  ·have e3 : (z + 1) / 2820 = q := by omega
   have e4 : (z + 1) % 2820 = r + 1 := by omega
   rw [e3, e4]
   rw [show (r + 474 + 38) * 31 = 31 * r + 14720 + 1152 by omega, show 31 * (r + 1 + 474) - 5 = 31 * r + 14720 by omega, show 31 * (r + 474) - 5 = 31 * r + 14720 - 31 by omega]
   generalize 31 * r + 14720 = t
   split <;> omega
 exact key (z / 2820) (z % 2820) (by omega) (by omega) (by omega)
theorem pz_mono (a : Int) : ∀ n : Nat, pz a + 365 * n ≤ pz (a + n)
 | 0 => by simp
 | n + 1 => by
  have h := pz_mono a n
  have h1 := pz_succ (a + n)
  have h2 := pl_01 (a + n)
  have e : a + ((n + 1 : Nat) : Int) = a + n + 1 := by omega
  rw [e]; omega
theorem pz_le {a b : Int} (h : a ≤ b) : pz a + 365 * (b - a) ≤ pz b := by
 have := pz_mono a (b - a).toNat
 have e : a + ((b - a).toNat : Int) = b := by omega
 rw [e] at this; omega
def pcum (m : Int) : Int := if m ≤ 7 then 31 * (m - 1) else 30 * (m - 1) + 6
def pdim (l m : Int) : Int := if m < 1 ∨ 12 < m then 0 else if m ≤ 6 then 31 else if m < 12 then 30 else 29 + l
theorem pcum_succ (l m : Int) (h1 : 1 ≤ m) (h2 : m < 12) : pcum (m + 1) = pcum m + pdim l m := by
 unfold pcum pdim; rw [if_neg (show ¬ (m < 1 ∨ 12 < m) by omega)]
 repeat' split
 all_goals omega
theorem pcum_end (l : Int) : pcum 12 + pdim l 12 = 365 + l := by unfold pcum pdim; simp; omega
theorem pdim_lo (l m : Int) (hl : l = 0 ∨ l = 1) (h1 : 1 ≤ m) (h2 : m ≤ 12) : 29 ≤ pdim l m ∧ pdim l m ≤ 31 := by
 unfold pdim; rw [if_neg (by omega)]
 repeat' split
 all_goals omega
theorem pdim_pos (l m : Int) (h : 0 < pdim l m) : 1 ≤ m ∧ m ≤ 12 := by
 unfold pdim at h; split at h <;> omega
theorem pcum_bd {m : Int} (h1 : 1 ≤ m) (h2 : m ≤ 13) : 0 ≤ pcum m ∧ pcum m ≤ 366 := by unfold pcum; split <;> omega
structure IsP (y m d day : Int) : Prop where
 m1 : 1 ≤ m
 m2 : m ≤ 12
 d1 : 1 ≤ d
 d2 : d ≤ pdim (pl (ps y)) m
 e : day = pz (ps y) + pcum m + d
theorem pcum_le {a b : Int} (h : a < b) (h1 : 1 ≤ a) (h2 : b ≤ 12) (l : Int) : pcum a + pdim l a ≤ pcum b := by
 have := pcum_succ l a h1 (by omega)
 unfold pcum at *
 repeat' split at *
 all_goals omega
theorem IsP.year {y m d day : Int} (h : IsP y m d day) : pz (ps y) < day ∧ day ≤ pz (ps y + 1) := by
 have h1 := h.m1; have h2 := h.m2; have h3 := h.d1; have h4 := h.d2; have h5 := h.e
 have s := pz_succ (ps y); have l := pl_01 (ps y)
 have b := pcum_bd h1 (by omega)
 have e := pcum_end (pl (ps y))
 by_cases c : m = 12
 ·subst c; omega
 ·have := pcum_le (show m < 12 by omega) h1 (by omega) (pl (ps y))
  have := (pdim_lo (pl (ps y)) 12 l (by omega) (by omega)).1
  omega
theorem ps_inj {y y' : Int} (h : y ≠ 0) (h' : y' ≠ 0) (e : ps y = ps y') : y = y' := by
 unfold ps at e; split at e <;> split at e <;> omega
theorem IsP.one {y m d y' m' d' day : Int} (n : y ≠ 0) (n' : y' ≠ 0) (h : IsP y m d day) (h' : IsP y' m' d' day) : y = y' ∧ m = m' ∧ d = d' := by
 have a := h.year; have a' := h'.year
 have ey : y = y' := by
  apply ps_inj n n'
  by_cases b : ps y < ps y'
  ·have := pz_le (show ps y + 1 ≤ ps y' by omega); omega
  ·by_cases b' : ps y' < ps y
   ·have := pz_le (show ps y' + 1 ≤ ps y by omega); omega
   ·omega
 subst ey
 have := h.e; have := h'.e; have := h.d1; have := h'.d1; have := h.d2; have := h'.d2; have := h.m1; have := h.m2; have := h'.m1; have := h'.m2
 have em : m = m' := by
  by_cases a : m < m'
  ·have := pcum_le a (by omega) (by omega) (pl (ps y)); omega
  ·by_cases a' : m' < m
   ·have := pcum_le a' (by omega) (by omega) (pl (ps y)); omega
   ·omega
 subst em
 exact ⟨rfl, rfl, by omega⟩
/-- The Persian year behind one. -/
def pn (y : Int) : Int := if y = -1 then 1 else y + 1
theorem pn_ps {y : Int} (h : y ≠ 0) : ps (pn y) = ps y + 1 ∧ pn y ≠ 0 := by
 unfold pn ps; repeat' split
 all_goals omega
end Go.Proofs.YtgbbgcepcnklkaaGreatDoor.Cal3
/- The Islamic calendar: what the package islam and the reference reckon, in plain numbers. -/
namespace Go.Proofs.YtgbbgcepcnklkaaGreatDoor.FunM
open Go.RowKit Go.Proofs.YtgbbgcepcnklkaaGreatDoorW.PrintWords Go.Proofs.YtgbbgcepcnklkaaGreatDoorW.PrintLast Go.Proofs.YtgbbgcepcnklkaaGreatDoor.Q Go.Proofs.YtgbbgcepcnklkaaGreatDoor.Cal Go.Proofs.YtgbbgcepcnklkaaGreatDoor.FunA Go.Proofs.YtgbbgcepcnklkaaGreatDoor.FunB Go.Proofs.YtgbbgcepcnklkaaGreatDoor.FunJ Go.Proofs.YtgbbgcepcnklkaaGreatDoor.Cal3
set_option linter.unusedVariables false
set_option linter.unusedSimpArgs false
/-- The reference's Day, out of its years, its month's length, its day reckoned. -/
theorem ofDay (n : Int) : ((rata_Of.f n).bind fun t => if t = true then some (n, (0 : Int)) else some (0, 2)) = some (dayOr n) := by
 by_cases h : In n
 ·rw [rOf_yes h, Option.bind_some, if_pos rfl, dayOr_yes h]
 ·rw [rOf_no h, Option.bind_some, if_neg (by simp), dayOr_no h]
theorem ibd (y : Int) (h : -40000 ≤ y) (h' : y ≤ 40000) : -15000000 ≤ ib y ∧ ib y ≤ 15000000 := by unfold ib; omega
theorem mLeap (y : Int) (h : -10000 ≤ y) (h' : y ≤ 20000) : islam_Leap.f y = some (decide (li y = 1)) := by
 unfold islam_Leap.f
 rw [if_pos h, if_pos h', w64 (x := 11 * y) (by omega) (by omega), w64 (x := 14 + 11 * y) (by omega) (by omega), rMod _ 30 (by omega) (by omega) ⟨by omega, by omega⟩, Option.bind_some]
 unfold li
 by_cases c : (14 + 11 * y) % 30 < 11
 ·simp [c]
 ·simp [c]
theorem mLength (k : Nat) (hk : 1 ≤ k) (y m : Int) (h : -10000 ≤ y) (h' : y ≤ 20000) : islam_length.f k y m = some (il (li y) m) := by
 obtain ⟨k, rfl⟩ : ∃ j, k = j + 1 := ⟨k - 1, by omega⟩
 unfold islam_length.f il
 by_cases a : m < 1
 ·rw [if_pos a, if_pos (Or.inl a)]; simp only [islam_length.j0, if_true]
 ·rw [if_neg a]
  by_cases b : m > 12
  ·rw [decide_eq_true b, if_pos (Or.inr (by omega))]; simp only [islam_length.j0, if_true]
  ·rw [decide_eq_false b, if_neg (by omega)]
   simp only [islam_length.j0]
   rw [if_neg (by simp), Int.tmod_eq_emod_of_nonneg (by omega)]
   by_cases c : m % 2 = 1
   ·rw [if_pos c, if_pos c]
   ·rw [if_neg c, if_neg c]
    by_cases e : m = 12
    ·rw [if_pos e, if_pos e, mLeap y h h', Option.bind_some]
     rcases li_01 y with q | q <;> rw [q] <;> simp
    ·rw [if_neg e, if_neg e]
theorem mFirst (y : Int) (h : -10000 ≤ y) (h' : y ≤ 20000) : islam_first.f y = some (ib y + 1) := by
 unfold islam_first.f
 rw [w64 (x := 11 * y) (by omega) (by omega), w64 (x := 3 + 11 * y) (by omega) (by omega), rFloor _ 30 (by omega) ⟨by omega, by omega⟩, Option.bind_some]
 unfold ib
 have q2 : -15000 ≤ (3 + 11 * y) / 30 ∧ (3 + 11 * y) / 30 ≤ 15000 := by omega
 generalize (3 + 11 * y) / 30 = b at q2 ⊢
 rw [w64 (x := y - 1) (by omega) (by omega), w64 (x := 354 * (y - 1)) (by omega) (by omega), w64 (x := 227015 + 354 * (y - 1)) (by omega) (by omega), w64 (by omega) (by omega)]
 congr 1; omega
theorem mFrom0 (y m d : Int) (hy : -10000 ≤ y) (hy' : y ≤ 20000) (hm : m ≤ 12) : ∀ (j k : Nat) (n i : Int), 1 ≤ i → i ≤ m → m - i = j → j + 2 ≤ k → -20000000 ≤ n → n + 31 * j ≤ 20000000 →
  islam_FromIslamic.l0 k n i y m d = some (dayOr (n + ic m - ic i)) := by
 intro j
 induction j with
 | zero =>
  intro k n i h1 h2 h3 h4 h5 h6
  obtain ⟨k, rfl⟩ : ∃ j, k = j + 1 := ⟨k - 1, by omega⟩
  have e : i = m := by omega
  subst e
  simp only [islam_FromIslamic.l0]
  rw [if_neg (by omega), ofDay]
  congr 2; omega
 | succ j ih =>
  intro k n i h1 h2 h3 h4 h5 h6
  obtain ⟨k, rfl⟩ : ∃ j, k = j + 1 := ⟨k - 1, by omega⟩
  have hl := il_lo (li y) i (li_01 y) h1 (by omega)
  have hc := ic_succ (li y) i h1 (by omega)
  simp only [islam_FromIslamic.l0]
  rw [if_pos (by omega), mLength k (by omega) y i hy hy', Option.bind_some, w64 (x := n + il (li y) i) (by omega) (by omega), w64 (x := i + 1) (by omega) (by omega), ih k _ (i + 1) (by omega) (by omega) (by omega) (by omega) (by omega) (by omega)]
  congr 2; omega
abbrev RightM (y m d : Int) : Prop := -10000 ≤ y ∧ y ≤ 20000 ∧ 1 ≤ d ∧ d ≤ il (li y) m
theorem mFrom (k : Nat) (hk : 20 ≤ k) (y m d : Int) : islam_FromIslamic.f k y m d = some (if RightM y m d then dayOr (ib y + ic m + d) else (0, 2)) := by
 obtain ⟨k, rfl⟩ : ∃ j, k = j + 1 := ⟨k - 1, by omega⟩
 have key : islam_FromIslamic.j0 (k + 1) true y m d = some (0, 2) := by simp only [islam_FromIslamic.j0, if_true]
 unfold islam_FromIslamic.f RightM
 by_cases a : y < -10000
 ·rw [if_pos a, key, if_neg (by omega)]
 ·by_cases b : y > 20000
  ·rw [if_neg a, if_pos b, key, if_neg (by omega)]
  ·by_cases c : d < 1
   ·rw [if_neg a, if_neg b, if_pos c, key, if_neg (by omega)]
   ·rw [if_neg a, if_neg b, if_neg c, mLength (k + 1) (by omega) y m (by omega) (by omega), Option.bind_some]
    by_cases e : d > il (li y) m
    ·rw [decide_eq_true e, key, if_neg (by omega)]
    ·rw [decide_eq_false e, if_pos (by omega)]
     have hm := il_pos (li y) m (by omega)
     have hl := il_lo (li y) m (li_01 y) hm.1 hm.2
     have hb := ibd y (by omega) (by omega)
     simp only [islam_FromIslamic.j0]
     rw [if_neg (by simp), mFirst y (by omega) (by omega), Option.bind_some, w64 (x := ib y + 1 + d) (by omega) (by omega), w64 (x := ib y + 1 + d - 1) (by omega) (by omega), mFrom0 y m d (by omega) (by omega) hm.2 (m - 1).toNat k _ 1 (by omega) hm.1 (by omega) (by omega) (by omega) (by omega)]
     have e1 : ic 1 = 0 := by decide
     rw [e1]
     congr 2; omega
theorem fIsl (y m d : Int) (h : -40000 ≤ y) (h' : y ≤ 40000) (hm : 1 ≤ m) (hm' : m ≤ 100) (hd : -100000 ≤ d) (hd' : d ≤ 100000) : trystref01_islamic.f y m d = some (ib y + ic m + d) := by
 unfold trystref01_islamic.f
 rw [w64 (x := 6 * m) (by omega) (by omega), w64 (x := 6 * m - 1) (by omega) (by omega), fFloor _ 11 (by omega) (by omega) ⟨by omega, by omega⟩, Option.bind_some, w64 (x := 11 * y) (by omega) (by omega), w64 (x := 3 + 11 * y) (by omega) (by omega), fFloor _ 30 (by omega) (by omega) ⟨by omega, by omega⟩, Option.bind_some]
 unfold ib ic
 have q1 : 0 ≤ (6 * m - 1) / 11 ∧ (6 * m - 1) / 11 ≤ 60 := by omega
 have q2 : -15000 ≤ (3 + 11 * y) / 30 ∧ (3 + 11 * y) / 30 ≤ 15000 := by omega
 generalize (6 * m - 1) / 11 = a at q1 ⊢
 generalize (3 + 11 * y) / 30 = b at q2 ⊢
 rw [w64 (x := m - 1) (by omega) (by omega), w64 (x := 29 * (m - 1)) (by omega) (by omega), w64 (x := d + 29 * (m - 1)) (by omega) (by omega), w64 (x := d + 29 * (m - 1) + a) (by omega) (by omega), w64 (x := y - 1) (by omega) (by omega), w64 (x := 354 * (y - 1)) (by omega) (by omega), w64 (x := d + 29 * (m - 1) + a + 354 * (y - 1)) (by omega) (by omega), w64 (x := d + 29 * (m - 1) + a + 354 * (y - 1) + b) (by omega) (by omega), w64 (by omega) (by omega)]
 congr 1; omega
theorem fFixed4 (k : Nat) (y m d : Int) (h : -40000 ≤ y) (h' : y ≤ 40000) (hm : 1 ≤ m) (hm' : m ≤ 100) (hd : -100000 ≤ d) (hd' : d ≤ 100000) : trystref01_Fixed.f k 4 y m d = some (ib y + ic m + d) := by
 unfold trystref01_Fixed.f
 rw [if_neg (by omega), if_neg (by omega), if_neg (by omega), if_neg (by omega), if_pos rfl, fIsl y m d h h' hm hm' hd hd', Option.bind_some]
end Go.Proofs.YtgbbgcepcnklkaaGreatDoor.FunM
/- The Persian calendar: what the package persian and the reference reckon, in plain numbers. -/
namespace Go.Proofs.YtgbbgcepcnklkaaGreatDoor.FunS
open Go.RowKit Go.Proofs.YtgbbgcepcnklkaaGreatDoorW.PrintWords Go.Proofs.YtgbbgcepcnklkaaGreatDoorW.PrintLast Go.Proofs.YtgbbgcepcnklkaaGreatDoor.Q Go.Proofs.YtgbbgcepcnklkaaGreatDoor.Cal Go.Proofs.YtgbbgcepcnklkaaGreatDoor.FunA Go.Proofs.YtgbbgcepcnklkaaGreatDoor.FunB Go.Proofs.YtgbbgcepcnklkaaGreatDoor.FunJ Go.Proofs.YtgbbgcepcnklkaaGreatDoor.FunM Go.Proofs.YtgbbgcepcnklkaaGreatDoor.Cal3
set_option linter.unusedVariables false
set_option linter.unusedSimpArgs false
theorem pzbd (z : Int) (h : -50000 ≤ z) (h' : z ≤ 50000) : -25000000 ≤ pz z ∧ pz z ≤ 25000000 := by
 unfold pz pc
 have q1 : -20 ≤ z / 2820 ∧ z / 2820 ≤ 20 := by omega
 have q2 : 0 ≤ z % 2820 ∧ z % 2820 < 2820 := by omega
 generalize z / 2820 = q at q1 ⊢
 generalize z % 2820 = r at q2 ⊢
 omega
theorem sShift (y : Int) (h : -40000 ≤ y) (h' : y ≤ 40000) : persian_shifted.f y = some (ps y) := by
 unfold persian_shifted.f ps
 by_cases c : y > 0
 ·rw [if_pos c, if_pos c, w64 (by omega) (by omega)]
 ·rw [if_neg c, if_neg c, w64 (x := y - 474) (by omega) (by omega), w64 (by omega) (by omega)]
  congr 1; omega
theorem psbd (y : Int) (h : -40000 ≤ y) (h' : y ≤ 40000) : -41000 ≤ ps y ∧ ps y ≤ 40000 := by unfold ps; split <;> omega
theorem sFirst (y : Int) (h : -40000 ≤ y) (h' : y ≤ 40000) : persian_first.f y = some (pz (ps y) + 1) := by
 have hb := psbd y h h'
 unfold persian_first.f
 rw [sShift y h h', Option.bind_some, rMod _ 2820 (by omega) (by omega) ⟨by omega, by omega⟩, Option.bind_some, rFloor _ 2820 (by omega) ⟨by omega, by omega⟩, Option.bind_some]
 unfold pz pc
 have q1 : -20 ≤ ps y / 2820 ∧ ps y / 2820 ≤ 20 := by omega
 have q2 : 0 ≤ ps y % 2820 ∧ ps y % 2820 < 2820 := by omega
 generalize ps y / 2820 = q at q1 ⊢
 generalize ps y % 2820 = r at q2 ⊢
 rw [w64 (x := r + 474) (by omega) (by omega), w64 (x := 31 * (r + 474)) (by omega) (by omega), w64 (x := 31 * (r + 474) - 5) (by omega) (by omega), rFloor _ 128 (by omega) ⟨by omega, by omega⟩, Option.bind_some]
 have q3 : 0 ≤ (31 * (r + 474) - 5) / 128 ∧ (31 * (r + 474) - 5) / 128 ≤ 1000 := by omega
 generalize (31 * (r + 474) - 5) / 128 = t at q3 ⊢
 rw [w64 (x := 1029983 * q) (by omega) (by omega), w64 (x := 226896 + 1029983 * q) (by omega) (by omega), w64 (x := r + 474 - 1) (by omega) (by omega), w64 (x := 365 * (r + 474 - 1)) (by omega) (by omega), w64 (x := 226896 + 1029983 * q + 365 * (r + 474 - 1)) (by omega) (by omega), w64 (by omega) (by omega)]
 congr 1; omega
theorem sRight (y : Int) : persian_right.f y = some (decide (-10000 ≤ y ∧ y ≤ 20000 ∧ y ≠ 0)) := by
 unfold persian_right.f
 by_cases a : y ≥ -10000
 ·rw [if_pos a]
  by_cases b : y ≤ 20000
  ·rw [if_pos b]
   by_cases c : y = 0
   ·subst c; rfl
   ·rw [decide_eq_true ⟨a, b, c⟩]; simp [c]
  ·rw [if_neg b, decide_eq_false (fun h => b h.2.1)]
 ·rw [if_neg a, decide_eq_false (fun h => a h.1)]
theorem sLeap (y : Int) (h : -10000 ≤ y) (h' : y ≤ 20000) (h0 : y ≠ 0) : persian_Leap.f y = some (decide (pl (ps y) = 1)) := by
 have hb := psbd y (by omega) (by omega)
 unfold persian_Leap.f
 rw [sShift y (by omega) (by omega), Option.bind_some, rMod _ 2820 (by omega) (by omega) ⟨by omega, by omega⟩, Option.bind_some, sRight, Option.bind_some, if_pos (by simp; exact ⟨h, h', h0⟩)]
 unfold pl pc
 have q2 : 0 ≤ ps y % 2820 ∧ ps y % 2820 < 2820 := by omega
 generalize ps y % 2820 = r at q2 ⊢
 rw [w64 (x := r + 474) (by omega) (by omega), w64 (x := r + 474 + 38) (by omega) (by omega), w64 (x := (r + 474 + 38) * 31) (by omega) (by omega), rMod _ 128 (by omega) (by omega) ⟨by omega, by omega⟩, Option.bind_some]
 by_cases c : (r + 474 + 38) * 31 % 128 < 31
 ·simp [c]
 ·simp [c]
theorem sLength (k : Nat) (hk : 1 ≤ k) (y m : Int) (h : -10000 ≤ y) (h' : y ≤ 20000) (h0 : y ≠ 0) : persian_length.f k y m = some (pdim (pl (ps y)) m) := by
 obtain ⟨k, rfl⟩ : ∃ j, k = j + 1 := ⟨k - 1, by omega⟩
 unfold persian_length.f pdim
 by_cases a : m < 1
 ·rw [if_pos a, if_pos (Or.inl a)]; simp only [persian_length.j0, if_true]
 ·rw [if_neg a]
  by_cases b : m > 12
  ·rw [decide_eq_true b, if_pos (Or.inr (by omega))]; simp only [persian_length.j0, if_true]
  ·rw [decide_eq_false b, if_neg (by omega)]
   simp only [persian_length.j0]
   rw [if_neg (by simp)]
   by_cases c : m ≤ 6
   ·rw [if_pos c, if_pos c]
   ·rw [if_neg c, if_neg c]
    by_cases e : m < 12
    ·rw [if_pos e, if_pos e]
    ·rw [if_neg e, if_neg e, sLeap y h h' h0, Option.bind_some]
     rcases pl_01 (ps y) with q | q <;> rw [q] <;> simp
theorem sFrom0 (y m d : Int) (hy : -10000 ≤ y) (hy' : y ≤ 20000) (h0 : y ≠ 0) (hm : m ≤ 12) : ∀ (j k : Nat) (n i : Int), 1 ≤ i → i ≤ m → m - i = j → j + 2 ≤ k → -30000000 ≤ n → n + 32 * j ≤ 30000000 →
  persian_FromPersian.l0 k n i y m d = some (dayOr (n + pcum m - pcum i)) := by
 intro j
 induction j with
 | zero =>
  intro k n i h1 h2 h3 h4 h5 h6
  obtain ⟨k, rfl⟩ : ∃ j, k = j + 1 := ⟨k - 1, by omega⟩
  have e : i = m := by omega
  subst e
  simp only [persian_FromPersian.l0]
  rw [if_neg (by omega), ofDay]
  congr 2; omega
 | succ j ih =>
  intro k n i h1 h2 h3 h4 h5 h6
  obtain ⟨k, rfl⟩ : ∃ j, k = j + 1 := ⟨k - 1, by omega⟩
  have hl := pdim_lo (pl (ps y)) i (pl_01 _) h1 (by omega)
  have hc := pcum_succ (pl (ps y)) i h1 (by omega)
  simp only [persian_FromPersian.l0]
  rw [if_pos (by omega), sLength k (by omega) y i hy hy' h0, Option.bind_some, w64 (x := n + pdim (pl (ps y)) i) (by omega) (by omega), w64 (x := i + 1) (by omega) (by omega), ih k _ (i + 1) (by omega) (by omega) (by omega) (by omega) (by omega) (by omega)]
  congr 2; omega
abbrev RightS (y m d : Int) : Prop := -10000 ≤ y ∧ y ≤ 20000 ∧ y ≠ 0 ∧ 1 ≤ d ∧ d ≤ pdim (pl (ps y)) m
theorem sFrom (k : Nat) (hk : 20 ≤ k) (y m d : Int) : persian_FromPersian.f k y m d = some (if RightS y m d then dayOr (pz (ps y) + pcum m + d) else (0, 2)) := by
 obtain ⟨k, rfl⟩ : ∃ j, k = j + 1 := ⟨k - 1, by omega⟩
 have key : persian_FromPersian.j0 (k + 1) true y m d = some (0, 2) := by simp only [persian_FromPersian.j0, if_true]
 unfold persian_FromPersian.f
 rw [sRight, Option.bind_some]
 by_cases a : -10000 ≤ y ∧ y ≤ 20000 ∧ y ≠ 0
 ·rw [decide_eq_true a, if_pos rfl]
  obtain ⟨a1, a2, a3⟩ := a
  by_cases c : d < 1
  ·rw [if_pos c, key, if_neg (fun h => by have := h.2.2.2.1; omega)]
  ·rw [if_neg c, sLength (k + 1) (by omega) y m a1 a2 a3, Option.bind_some]
   by_cases e : d > pdim (pl (ps y)) m
   ·rw [decide_eq_true e, key, if_neg (fun h => by have := h.2.2.2.2; omega)]
   ·rw [decide_eq_false e, if_pos ⟨a1, a2, a3, by omega, by omega⟩]
    have hm := pdim_pos (pl (ps y)) m (by omega)
    have hl := pdim_lo (pl (ps y)) m (pl_01 _) hm.1 hm.2
    have hs := psbd y (by omega) (by omega)
    have hb := pzbd (ps y) (by omega) (by omega)
    simp only [persian_FromPersian.j0]
    rw [if_neg (by simp), sFirst y (by omega) (by omega), Option.bind_some, w64 (x := pz (ps y) + 1 + d) (by omega) (by omega), w64 (x := pz (ps y) + 1 + d - 1) (by omega) (by omega), sFrom0 y m d a1 a2 a3 hm.2 (m - 1).toNat k _ 1 (by omega) hm.1 (by omega) (by omega) (by omega) (by omega)]
    have e1 : pcum 1 = 0 := by decide
    rw [e1]
    congr 2; omega
 ·rw [decide_eq_false a, if_neg (by simp), key, if_neg (fun h => a ⟨h.1, h.2.1, h.2.2.1⟩)]
theorem fPer (k : Nat) (hk : 1 ≤ k) (y m d : Int) (h : -40000 ≤ y) (h' : y ≤ 40000) (h0 : y ≠ 0) (hm : 1 ≤ m) (hm' : m ≤ 100) (hd : -100000 ≤ d) (hd' : d ≤ 100000) : trystref01_persian.f k y m d = some (pz (ps y) + pcum m + d) := by
 obtain ⟨k, rfl⟩ : ∃ j, k = j + 1 := ⟨k - 1, by omega⟩
 have hb := psbd y h h'
 have key : trystref01_persian.j0 (k + 1) m d (ps y) = some (pz (ps y) + pcum m + d) := by
  simp only [trystref01_persian.j0]
  rw [fMod _ 2820 (by omega) (by omega) ⟨by omega, by omega⟩, Option.bind_some, fFloor _ 2820 (by omega) (by omega) ⟨by omega, by omega⟩, Option.bind_some]
  unfold pz pc pcum
  have q1 : -20 ≤ ps y / 2820 ∧ ps y / 2820 ≤ 20 := by omega
  have q2 : 0 ≤ ps y % 2820 ∧ ps y % 2820 < 2820 := by omega
  generalize ps y / 2820 = q at q1 ⊢
  generalize ps y % 2820 = r at q2 ⊢
  rw [w64 (x := r + 474) (by omega) (by omega), w64 (x := 31 * (r + 474)) (by omega) (by omega), w64 (x := 31 * (r + 474) - 5) (by omega) (by omega), fFloor _ 128 (by omega) (by omega) ⟨by omega, by omega⟩, Option.bind_some]
  have q3 : 0 ≤ (31 * (r + 474) - 5) / 128 ∧ (31 * (r + 474) - 5) / 128 ≤ 1000 := by omega
  generalize (31 * (r + 474) - 5) / 128 = t at q3 ⊢
  rw [w64 (x := 1029983 * q) (by omega) (by omega), w64 (x := 226895 + 1029983 * q) (by omega) (by omega), w64 (x := r + 474 - 1) (by omega) (by omega), w64 (x := 365 * (r + 474 - 1)) (by omega) (by omega), w64 (x := 226895 + 1029983 * q + 365 * (r + 474 - 1)) (by omega) (by omega), w64 (x := 226895 + 1029983 * q + 365 * (r + 474 - 1) + t) (by omega) (by omega), w64 (x := 226895 + 1029983 * q + 365 * (r + 474 - 1) + t + d) (by omega) (by omega), w64 (x := m - 1) (by omega) (by omega)]
  by_cases c : m ≤ 7
  ·rw [if_pos c, if_pos c, w64 (x := 31 * (m - 1)) (by omega) (by omega), w64 (by omega) (by omega)]
   congr 1; omega
  ·rw [if_neg c, if_neg c, w64 (x := 30 * (m - 1)) (by omega) (by omega), w64 (x := 226895 + 1029983 * q + 365 * (r + 474 - 1) + t + d + 30 * (m - 1)) (by omega) (by omega), w64 (by omega) (by omega)]
   congr 1; omega
 unfold trystref01_persian.f
 by_cases c : y < 0
 ·have e : ps y = y - 473 := by unfold ps; rw [if_neg (by omega)]
  rw [if_pos c, w64 (x := y - 473) (by omega) (by omega), ← e, key]
 ·have e : ps y = y - 474 := by unfold ps; rw [if_pos (by omega)]
  rw [if_neg c, w64 (x := y - 474) (by omega) (by omega), ← e, key]
theorem fFixed5 (k : Nat) (hk : 1 ≤ k) (y m d : Int) (h : -40000 ≤ y) (h' : y ≤ 40000) (h0 : y ≠ 0) (hm : 1 ≤ m) (hm' : m ≤ 100) (hd : -100000 ≤ d) (hd' : d ≤ 100000) : trystref01_Fixed.f k 5 y m d = some (pz (ps y) + pcum m + d) := by
 unfold trystref01_Fixed.f
 rw [if_neg (by omega), if_neg (by omega), if_neg (by omega), if_neg (by omega), if_neg (by omega), if_pos rfl, fPer k hk y m d h h' h0 hm hm' hd hd', Option.bind_some]
theorem fNext5 (y : Int) (h : -40000 ≤ y) (h' : y < 40000) : trystref01_next.f 5 y = some (pn y) := by
 unfold trystref01_next.f pn
 rw [if_pos rfl]
 by_cases c : y = -1
 ·rw [if_pos c, if_pos c]
 ·rw [if_neg c, if_neg c, w64 (by omega) (by omega)]
end Go.Proofs.YtgbbgcepcnklkaaGreatDoor.FunS
/- Plain laws of the Hebrew calendar over whole numbers: no program in sight. -/
namespace Go.Proofs.YtgbbgcepcnklkaaGreatDoor.CalH
open Go.RowKit Go.Proofs.YtgbbgcepcnklkaaGreatDoor.Cal
/-- Months, days ahead of a Hebrew year. -/
def hm (y : Int) : Int := (235 * y - 234) / 19
def h0 (y : Int) : Int := 29 * hm y + (12084 + 13753 * hm y) / 25920
def he (y : Int) : Int := if (3 * (h0 y + 1)) % 7 < 3 then h0 y + 1 else h0 y
/-- The day with which a Hebrew year begins, less one. -/
def hb (y : Int) : Int := (if he (y + 1) - he y = 356 then he y + 2 else if he y - he (y - 1) = 382 then he y + 1 else he y) - 1373428
/-- 1 in a leap year, else 0. -/
def hl (y : Int) : Int := if (7 * y + 1) % 19 < 7 then 1 else 0
theorem hl_01 (y : Int) : hl y = 0 ∨ hl y = 1 := by unfold hl; split <;> simp
def hd (y : Int) : Int := hb (y + 1) - hb y

def mN (y : Nat) : Nat := (235 * y + 4231) / 19
def dN (m : Nat) : Nat := 29 * m + (20129 + 13753 * m) / 25920 + 60
def pN (d : Nat) : Nat := bif Nat.blt (3 * (d + 1) % 7) 3 then d + 1 else d
def eN (y : Nat) : Nat := pN (dN (mN y))
def bN (a b c : Nat) : Nat := bif Nat.beq c (b + 356) then b + 2 else bif Nat.beq b (a + 382) then b + 1 else b
def sN (l : Bool) (n m : Nat) : Bool := bif l then (Nat.beq n (m + 383) || Nat.beq n (m + 384) || Nat.beq n (m + 385)) else (Nat.beq n (m + 353) || Nat.beq n (m + 354) || Nat.beq n (m + 355))
def cN (y a b c d : Nat) : Bool := sN (Nat.blt ((7 * (y + 1) + 1) % 19) 7) (bN b c d) (bN a b c)
def oN (y : Nat) : Bool := cN y (eN y) (eN (y + 1)) (eN (y + 2)) (eN (y + 3))
def run (f : Nat → Bool) : Nat → Nat → Bool
 | 0, lo => f lo
 | n + 1, lo => run f n lo && run f n (lo + 2 ^ n)
theorem run_all (f : Nat → Bool) : ∀ n lo, run f n lo = true → ∀ y, lo ≤ y → y < lo + 2 ^ n → f y = true := by
 intro n
 induction n with
 | zero =>
  intro lo h y h1 h2
  obtain rfl : y = lo := by simp at h2; omega
  exact h
 | succ n ih =>
  intro lo h y h1 h2
  simp only [run, Bool.and_eq_true] at h
  have e : 2 ^ (n + 1) = 2 ^ n + 2 ^ n := by rw [Nat.pow_succ]; omega
  by_cases c : y < lo + 2 ^ n
  ·exact ih lo h.1 y h1 c
  ·exact ih _ h.2 y (by omega) (by omega)
set_option maxRecDepth 100000 in
theorem run1 : run oN 14 0 = true := by decide +kernel
set_option maxRecDepth 100000 in
theorem run2 : run oN 12 16384 = true := by decide +kernel
theorem oN_all (y : Nat) (h : y < 20480) : oN y = true := by
 by_cases c : y < 16384
 ·exact run_all oN 14 0 run1 y (by omega) (by omega)
 ·exact run_all oN 12 16384 run2 y (by omega) (by omega)
theorem blt_dec (a b : Nat) : Nat.blt a b = decide (a < b) := by
 rw [Bool.eq_iff_iff]; simp only [Nat.blt_eq, decide_eq_true_eq]
theorem beq_dec (a b : Nat) : Nat.beq a b = decide (a = b) := by
 rw [Bool.eq_iff_iff]; simp only [decide_eq_true_eq]; exact ⟨Nat.eq_of_beq_eq_true, fun h => h ▸ Nat.beq_refl a⟩
theorem pN_int (d : Nat) (z : Int) (h : (d : Int) = z + 7000) : ((pN d : Nat) : Int) - 7000 = if (3 * (z + 1)) % 7 < 3 then z + 1 else z := by
 unfold pN
 rw [blt_dec]
 have e : ((3 * (d + 1) % 7 : Nat) : Int) = (3 * (z + 1) + 21000) % 7 := by omega
 have e2 : (3 * (z + 1) + 21000) % 7 = (3 * (z + 1)) % 7 := by
  generalize 3 * (z + 1) = t
  omega
 rw [e2] at e
 by_cases c : (3 * (z + 1)) % 7 < 3
 ·rw [if_pos c, decide_eq_true (by omega)]; simp only [cond_true]; omega
 ·rw [if_neg c, decide_eq_false (by omega)]; simp only [cond_false]; omega
theorem dN_int (m : Nat) (z : Int) (h : (m : Int) = z + 235) : ((dN m : Nat) : Int) = 29 * z + (12084 + 13753 * z) / 25920 + 7000 := by
 unfold dN
 obtain rfl : z = (m : Int) - 235 := by omega
 have e : (12084 + 13753 * ((m : Int) - 235)) = (20129 + 13753 * (m : Int)) - 3240000 := by omega
 rw [e]
 have e2 : (((20129 + 13753 * m) / 25920 : Nat) : Int) = (20129 + 13753 * (m : Int)) / 25920 := by omega
 have e3 : ((20129 + 13753 * (m : Int)) - 3240000) / 25920 = (20129 + 13753 * (m : Int)) / 25920 - 125 := by
  generalize 20129 + 13753 * (m : Int) = t
  omega
 rw [e3]
 omega
theorem eN_he (y : Nat) : he (y : Int) = ((eN y : Nat) : Int) - 7000 := by
 have h1 : ((mN y : Nat) : Int) = hm y + 235 := by
  unfold mN hm
  have e : ((235 * y + 4231 : Nat) : Int) = 235 * (y : Int) - 234 + 4465 := by omega
  have e2 : (((235 * y + 4231) / 19 : Nat) : Int) = (235 * (y : Int) - 234 + 4465) / 19 := by omega
  rw [e2]
  generalize 235 * (y : Int) - 234 = t
  omega
 exact (pN_int _ _ (dN_int _ _ h1)).symm
theorem bN_int (a b c : Nat) : ((bN a b c : Nat) : Int) = if (c : Int) - b = 356 then (b : Int) + 2 else if (b : Int) - a = 382 then (b : Int) + 1 else b := by
 unfold bN
 rw [beq_dec, beq_dec]
 by_cases k : c = b + 356
 ·rw [if_pos (by omega), decide_eq_true k]; simp only [cond_true]; omega
 ·rw [if_neg (by omega), decide_eq_false k]; simp only [cond_false]
  by_cases k2 : b = a + 382
  ·rw [if_pos (by omega), decide_eq_true k2]; simp only [cond_true]; omega
  ·rw [if_neg (by omega), decide_eq_false k2]; simp only [cond_false]
theorem hb_int (a b c : Nat) (x y z : Int) (h1 : x = (a : Int) - 7000) (h2 : y = (b : Int) - 7000) (h3 : z = (c : Int) - 7000) : (if z - y = 356 then y + 2 else if y - x = 382 then y + 1 else y) - 1373428 = ((bN a b c : Nat) : Int) - 7000 - 1373428 := by
 rw [bN_int]
 subst h1 h2 h3
 repeat' split
 all_goals omega
theorem bN_hb (y : Nat) : hb ((y : Int) + 1) = ((bN (eN y) (eN (y + 1)) (eN (y + 2)) : Nat) : Int) - 7000 - 1373428 := by
 unfold hb
 refine hb_int _ _ _ _ _ _ ?_ (eN_he (y + 1)) (eN_he (y + 2))
 rw [show (y : Int) + 1 - 1 = y by omega]
 exact eN_he y
theorem sN_int (l : Bool) (n m : Nat) (h : sN l n m = true) : (l = true ∧ ((n : Int) - m = 383 ∨ (n : Int) - m = 384 ∨ (n : Int) - m = 385)) ∨ (l = false ∧ ((n : Int) - m = 353 ∨ (n : Int) - m = 354 ∨ (n : Int) - m = 355)) := by
 unfold sN at h
 simp only [beq_dec] at h
 cases l
 ·right
  simp only [cond_false, Bool.or_eq_true, decide_eq_true_eq] at h
  exact ⟨rfl, by omega⟩
 ·left
  simp only [cond_true, Bool.or_eq_true, decide_eq_true_eq] at h
  exact ⟨rfl, by omega⟩
/-- How many days a Hebrew year has. -/
theorem hd_set (y : Int) (h1 : 1 ≤ y) (h2 : y ≤ 20480) : (hl y = 1 ∧ (hd y = 383 ∨ hd y = 384 ∨ hd y = 385)) ∨ (hl y = 0 ∧ (hd y = 353 ∨ hd y = 354 ∨ hd y = 355)) := by
 obtain ⟨n, rfl⟩ : ∃ n : Nat, y = (n : Int) + 1 := ⟨(y - 1).toNat, by omega⟩
 have k := sN_int _ _ _ (oN_all n (by omega))
 have b1 := bN_hb n
 have b2 := bN_hb (n + 1)
 have e : hd ((n : Int) + 1) = ((bN (eN (n + 1)) (eN (n + 2)) (eN (n + 3)) : Nat) : Int) - ((bN (eN n) (eN (n + 1)) (eN (n + 2)) : Nat) : Int) := by
  unfold hd
  rw [b1]
  have b3 : hb ((n : Int) + 1 + 1) = ((bN (eN (n + 1)) (eN (n + 2)) (eN (n + 3)) : Nat) : Int) - 7000 - 1373428 := b2
  rw [b3]
  omega
 rw [e]
 rw [blt_dec] at k
 have q : hl ((n : Int) + 1) = if decide ((7 * (n + 1) + 1) % 19 < 7) = true then 1 else 0 := by
  unfold hl
  have e : ((7 * (n + 1) + 1 : Nat) : Int) = 7 * ((n : Int) + 1) + 1 := by omega
  have e2 : (((7 * (n + 1) + 1) % 19 : Nat) : Int) = (7 * ((n : Int) + 1) + 1) % 19 := by omega
  rw [← e2]
  by_cases c : (7 * (n + 1) + 1) % 19 < 7
  ·rw [if_pos (by omega), decide_eq_true c, if_pos rfl]
  ·rw [if_neg (by omega), decide_eq_false c, if_neg (by simp)]
 rcases k with ⟨k1, k2⟩ | ⟨k1, k2⟩
 ·left; exact ⟨by rw [q, if_pos k1], k2⟩
 ·right; exact ⟨by rw [q, if_neg (by rw [k1]; simp)], k2⟩
theorem hb_mono (a : Int) (h : 1 ≤ a) : ∀ n : Nat, a + n ≤ 20480 → hb a + 353 * n ≤ hb (a + n)
 | 0, _ => by simp
 | n + 1, h2 => by
  have h3 := hb_mono a h n (by omega)
  have h4 := hd_set (a + n) (by omega) (by omega)
  have e : a + ((n + 1 : Nat) : Int) = a + n + 1 := by omega
  unfold hd at h4
  rw [e]; omega
theorem hb_le {a b : Int} (h : a ≤ b) (h1 : 1 ≤ a) (h2 : b ≤ 20480) : hb a + 353 * (b - a) ≤ hb b := by
 have := hb_mono a h1 (b - a).toNat (by omega)
 have e : a + ((b - a).toNat : Int) = b := by omega
 rw [e] at this; omega
/-- Days of a Hebrew month; l: 1 in a leap year; n: days of the year. -/
def hx (l n m : Int) : Int := if m = 2 ∨ m = 4 ∨ m = 6 ∨ m = 10 ∨ m = 13 ∨ (m = 12 ∧ l = 0) ∨ (m = 8 ∧ n ≠ 355 ∧ n ≠ 385) ∨ (m = 9 ∧ (n = 353 ∨ n = 383)) then 29 else 30
theorem hx_bd (l n m : Int) : 29 ≤ hx l n m ∧ hx l n m ≤ 30 := by unfold hx; split <;> omega
/-- Days of the months from 7 on, ahead of one. -/
def ha (l n m : Int) : Int := if m ≤ 7 then 0 else if m ≤ 8 then 30 else if m ≤ 9 then 30 + hx l n 8 else if m ≤ 10 then 30 + hx l n 8 + hx l n 9 else if m ≤ 11 then 59 + hx l n 8 + hx l n 9 else if m ≤ 12 then 89 + hx l n 8 + hx l n 9 else if m ≤ 13 then 89 + hx l n 8 + hx l n 9 + hx l n 12 else 118 + hx l n 8 + hx l n 9 + hx l n 12
theorem ha_succ (l n m : Int) (h1 : 7 ≤ m) (h2 : m ≤ 13) : ha l n (m + 1) = ha l n m + hx l n m := by
 have h7 : hx l n 7 = 30 := by simp [hx]
 have h10 : hx l n 10 = 29 := by simp [hx]
 have h11 : hx l n 11 = 30 := by simp [hx]
 have h13 : hx l n 13 = 29 := by simp [hx]
 rcases (by omega : m = 7 ∨ m = 8 ∨ m = 9 ∨ m = 10 ∨ m = 11 ∨ m = 12 ∨ m = 13) with h | h | h | h | h | h | h <;> subst h <;> simp [ha] <;> omega
/-- Days of the months from 1 on, ahead of one. -/
def hz (m : Int) : Int := if m ≤ 1 then 0 else if m ≤ 2 then 30 else if m ≤ 3 then 59 else if m ≤ 4 then 89 else if m ≤ 5 then 118 else if m ≤ 6 then 148 else 177
theorem hz_succ (l n m : Int) (h1 : 1 ≤ m) (h2 : m ≤ 6) : hz (m + 1) = hz m + hx l n m := by
 rcases (by omega : m = 1 ∨ m = 2 ∨ m = 3 ∨ m = 4 ∨ m = 5 ∨ m = 6) with h | h | h | h | h | h <;> subst h <;> simp [hz, hx]
/-- Days of a Hebrew year ahead of a month. -/
def hc (l n m : Int) : Int := if m < 7 then ha l n (13 + l) + hz m else ha l n m
/-- All months together are the year. -/
theorem hc_all (l n : Int) (h : (l = 1 ∧ (n = 383 ∨ n = 384 ∨ n = 385)) ∨ (l = 0 ∧ (n = 353 ∨ n = 354 ∨ n = 355))) : ha l n (13 + l) + 177 = n := by
 rcases h with ⟨rfl, rfl | rfl | rfl⟩ | ⟨rfl, rfl | rfl | rfl⟩ <;> decide
/-- The month behind one. -/
def hn (l m : Int) : Int := if m = 12 + l then 1 else m + 1
end Go.Proofs.YtgbbgcepcnklkaaGreatDoor.CalH
