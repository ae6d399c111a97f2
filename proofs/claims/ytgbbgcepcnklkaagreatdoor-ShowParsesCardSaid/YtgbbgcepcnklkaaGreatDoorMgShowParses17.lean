/- Texts of this claim, merged: FunMd. -/
import Derived.Test.YtgbbgcepcnklkaaGreatDoorMgShowParses13
import Derived.Test.YtgbbgcepcnklkaaGreatDoorMgShowParses14
import Derived.Test.YtgbbgcepcnklkaaGreatDoorMgShowParses15
import Derived.Test.YtgbbgcepcnklkaaGreatDoorMgShowParses16
/- Days' dates in the Islamic, the Persian and the Hebrew calendar, as the program tells them. -/
namespace Go.Proofs.YtgbbgcepcnklkaaGreatDoor.FunMd
open Go.RowKit Go.Proofs.YtgbbgcepcnklkaaGreatDoorW.PrintWords Go.Proofs.YtgbbgcepcnklkaaGreatDoorW.PrintLast Go.Proofs.YtgbbgcepcnklkaaGreatDoor.Q Go.Proofs.YtgbbgcepcnklkaaGreatDoor.Cal Go.Proofs.YtgbbgcepcnklkaaGreatDoor.FunA Go.Proofs.YtgbbgcepcnklkaaGreatDoor.FunB Go.Proofs.YtgbbgcepcnklkaaGreatDoor.FunJ Go.Proofs.YtgbbgcepcnklkaaGreatDoor.Cal3
set_option linter.unusedVariables false
set_option linter.unusedSimpArgs false
/-! ### Islamic -/
theorem mDate0 (y : Int) (hy : -10000 ≤ y) (hy' : y ≤ 20000) : ∀ (j k : Nat) (n m : Int), 1 ≤ m → m ≤ 12 → 12 - m = j → j + 2 < k → 0 ≤ n → n + ic m < 354 + li y →
  ∃ m' d, islam_Islamic.l0 k n y m 0 = some (y, m', d, 0) ∧ m ≤ m' ∧ m' ≤ 12 ∧ 1 ≤ d ∧ d ≤ il (li y) m' ∧ n + 1 + ic m = ic m' + d := by
 intro j
 have l01 := li_01 y
 induction j with
 | zero =>
  intro k n m h1 h2 h3 h4 h5 h6
  obtain ⟨k, rfl⟩ : ∃ j, k = j + 1 := ⟨k - 1, by omega⟩
  have e : m = 12 := by omega
  subst e
  have he := ic_end (li y)
  have hbb := ic_bd (show (1 : Int) ≤ 12 by omega) (by omega)
  simp only [islam_Islamic.l0]
  rw [FunM.mLength k (by omega) y 12 hy hy', Option.bind_some, if_neg (by omega), w64 (by omega) (by omega)]
  exact ⟨12, n + 1, rfl, by omega, by omega, by omega, by omega, by omega⟩
 | succ j ih =>
  intro k n m h1 h2 h3 h4 h5 h6
  obtain ⟨k, rfl⟩ : ∃ j, k = j + 1 := ⟨k - 1, by omega⟩
  have hl := il_lo (li y) m l01 h1 h2
  have hs := ic_succ (li y) m h1 (by omega)
  have hb := ic_bd h1 (by omega)
  simp only [islam_Islamic.l0]
  rw [FunM.mLength k (by omega) y m hy hy', Option.bind_some]
  by_cases c : n ≥ il (li y) m
  ·rw [if_pos c, Option.bind_some, w64 (x := n - il (li y) m) (by omega) (by omega), w64 (x := m + 1) (by omega) (by omega)]
   obtain ⟨m', d, r1, r2, r3, r4, r5, r6⟩ := ih k (n - il (li y) m) (m + 1) (by omega) (by omega) (by omega) (by omega) (by omega) (by omega)
   exact ⟨m', d, r1, by omega, r3, r4, r5, by omega⟩
  ·rw [if_neg c, w64 (by omega) (by omega)]
   exact ⟨m, n + 1, rfl, by omega, h2, by omega, by omega, by omega⟩
theorem mDate_yes (k : Nat) (hk : 20 ≤ k) (day : Int) (h : In day) : ∃ y m d, islam_Islamic.f k day = some (y, m, d, 0) ∧ IsI y m d day := by
 obtain ⟨h1, h2⟩ := h
 have hy := iyear day
 have hyb : -1000 ≤ (30 * (day - 227015) + 10646) / 10631 ∧ (30 * (day - 227015) + 10646) / 10631 ≤ 11000 := by omega
 have hs := ib_succ ((30 * (day - 227015) + 10646) / 10631)
 unfold islam_Islamic.f
 rw [rOf_yes ⟨h1, h2⟩, Option.bind_some, if_pos rfl, w64 (x := day - 227015) (by omega) (by omega), w64 (x := 30 * (day - 227015)) (by omega) (by omega), w64 (x := 30 * (day - 227015) + 10646) (by omega) (by omega), rFloor _ 10631 (by omega) ⟨by omega, by omega⟩, Option.bind_some]
 generalize (30 * (day - 227015) + 10646) / 10631 = y at *
 have hib := FunM.ibd y (by omega) (by omega)
 have e1 : ic 1 = 0 := by decide
 rw [FunM.mFirst y (by omega) (by omega), Option.bind_some, w64 (x := day - (ib y + 1)) (by omega) (by omega)]
 obtain ⟨m', d, r1, r2, r3, r4, r5, r6⟩ := mDate0 y (by omega) (by omega) 11 k (day - (ib y + 1)) 1 (by omega) (by omega) (by omega) (by omega) (by omega) (by rw [e1]; omega)
 exact ⟨y, m', d, r1, ⟨by omega, r3, r4, r5, by omega⟩⟩
theorem mDate_no (k : Nat) (day : Int) (h : ¬ In day) : islam_Islamic.f k day = some (0, 0, 0, 2) := by
 unfold islam_Islamic.f
 rw [rOf_no h, Option.bind_some, if_neg (by simp)]
/-! ### Persian -/
theorem sDate0 (y : Int) (hy : -10000 ≤ y) (hy' : y ≤ 20000) (h0 : y ≠ 0) : ∀ (j k : Nat) (n m : Int), 1 ≤ m → m ≤ 12 → 12 - m = j → j + 2 < k → 0 ≤ n → n + pcum m < 365 + pl (ps y) →
  ∃ m' d, persian_Persian.l1 k n y m 0 = some (y, m', d, 0) ∧ m ≤ m' ∧ m' ≤ 12 ∧ 1 ≤ d ∧ d ≤ pdim (pl (ps y)) m' ∧ n + 1 + pcum m = pcum m' + d := by
 intro j
 have l01 := pl_01 (ps y)
 induction j with
 | zero =>
  intro k n m h1 h2 h3 h4 h5 h6
  obtain ⟨k, rfl⟩ : ∃ j, k = j + 1 := ⟨k - 1, by omega⟩
  have e : m = 12 := by omega
  subst e
  have he := pcum_end (pl (ps y))
  have hbb := pcum_bd (show (1 : Int) ≤ 12 by omega) (by omega)
  simp only [persian_Persian.l1]
  rw [FunS.sLength k (by omega) y 12 hy hy' h0, Option.bind_some, if_neg (by omega), w64 (by omega) (by omega)]
  exact ⟨12, n + 1, rfl, by omega, by omega, by omega, by omega, by omega⟩
 | succ j ih =>
  intro k n m h1 h2 h3 h4 h5 h6
  obtain ⟨k, rfl⟩ : ∃ j, k = j + 1 := ⟨k - 1, by omega⟩
  have hl := pdim_lo (pl (ps y)) m l01 h1 h2
  have hs := pcum_succ (pl (ps y)) m h1 (by omega)
  have hb := pcum_bd h1 (by omega)
  simp only [persian_Persian.l1]
  rw [FunS.sLength k (by omega) y m hy hy' h0, Option.bind_some]
  by_cases c : n ≥ pdim (pl (ps y)) m
  ·rw [if_pos c, Option.bind_some, w64 (x := n - pdim (pl (ps y)) m) (by omega) (by omega), w64 (x := m + 1) (by omega) (by omega)]
   obtain ⟨m', d, r1, r2, r3, r4, r5, r6⟩ := ih k (n - pdim (pl (ps y)) m) (m + 1) (by omega) (by omega) (by omega) (by omega) (by omega) (by omega)
   exact ⟨m', d, r1, by omega, r3, r4, r5, by omega⟩
  ·rw [if_neg c, w64 (by omega) (by omega)]
   exact ⟨m, n + 1, rfl, by omega, h2, by omega, by omega, by omega⟩
theorem sNext (y : Int) (h : -10000 ≤ y) (h' : y ≤ 20000) : persian_next.f y = some (pn y) := by
 unfold persian_next.f pn
 by_cases c : y = -1
 ·rw [if_pos c, if_pos c]
 ·rw [if_neg c, if_neg c, w64 (by omega) (by omega)]
theorem sYear (day : Int) (hd : In day) : ∀ (j k : Nat) (y : Int), -9000 ≤ y → y + 2 * j ≤ 15000 → y ≠ 0 → pz (ps y) < day → day - pz (ps y) ≤ 365 * ((j : Int) + 1) → j + 20 ≤ k →
  ∃ y' m d, persian_Persian.l0 k day y 1 0 = some (y', m, d, 0) ∧ y' ≠ 0 ∧ IsP y' m d day := by
 obtain ⟨d1, d2⟩ := hd
 intro j
 have e1 : pcum 1 = 0 := by decide
 have fin : ∀ (k : Nat) (y : Int), 18 ≤ k → -9000 ≤ y → y ≤ 15000 → y ≠ 0 → pz (ps y) < day → day ≤ pz (ps y + 1) → ∃ m d, persian_Persian.l1 k (wrap64 (day - (pz (ps y) + 1))) y 1 0 = some (y, m, d, 0) ∧ IsP y m d day := by
  intro k y hk h1 h2 h3 h4 h5
  have hs := FunS.psbd y (by omega) (by omega)
  have hb := FunS.pzbd (ps y) (by omega) (by omega)
  have hz := pz_succ (ps y)
  rw [w64 (by omega) (by omega)]
  obtain ⟨m', d, r1, r2, r3, r4, r5, r6⟩ := sDate0 y (by omega) (by omega) h3 11 k (day - (pz (ps y) + 1)) 1 (by omega) (by omega) (by omega) (by omega) (by omega) (by rw [e1]; omega)
  exact ⟨m', d, r1, ⟨by omega, r3, r4, r5, by omega⟩⟩
 induction j with
 | zero =>
  intro k y h1 h2 h3 h4 h5 h6
  obtain ⟨k, rfl⟩ : ∃ j, k = j + 1 := ⟨k - 1, by omega⟩
  obtain ⟨p1, p2⟩ := pn_ps h3
  have hpn : -9000 ≤ pn y ∧ pn y ≤ 15001 := by unfold pn; split <;> omega
  have hz := pz_succ (ps y)
  have l01 := pl_01 (ps y)
  simp only [persian_Persian.l0]
  rw [sNext y (by omega) (by omega), Option.bind_some, FunS.sFirst (pn y) (by omega) (by omega), Option.bind_some, p1, if_neg (by omega), FunS.sFirst y (by omega) (by omega), Option.bind_some]
  obtain ⟨m, d, r1, r2⟩ := fin k y (by omega) h1 (by omega) h3 h4 (by omega)
  exact ⟨y, m, d, r1, h3, r2⟩
 | succ j ih =>
  intro k y h1 h2 h3 h4 h5 h6
  obtain ⟨k, rfl⟩ : ∃ j, k = j + 1 := ⟨k - 1, by omega⟩
  obtain ⟨p1, p2⟩ := pn_ps h3
  have hpn : y < pn y ∧ pn y ≤ y + 2 := by unfold pn; split <;> omega
  have hpn2 : pn y = y + 1 ∨ pn y = 1 := by unfold pn; split <;> omega
  have hz := pz_succ (ps y)
  have l01 := pl_01 (ps y)
  simp only [persian_Persian.l0]
  rw [sNext y (by omega) (by omega), Option.bind_some, FunS.sFirst (pn y) (by omega) (by omega), Option.bind_some, p1]
  by_cases c : pz (ps y + 1) + 1 ≤ day
  ·rw [if_pos c, Option.bind_some]
   exact ih k (pn y) (by omega) (by omega) p2 (by rw [p1]; omega) (by rw [p1]; omega) (by omega)
  ·rw [if_neg c, FunS.sFirst y (by omega) (by omega), Option.bind_some]
   obtain ⟨m, d, r1, r2⟩ := fin k y (by omega) h1 (by omega) h3 h4 (by omega)
   exact ⟨y, m, d, r1, h3, r2⟩
theorem sDate_yes (k : Nat) (hk : 120 ≤ k) (day : Int) (h : In day) : ∃ y m d, persian_Persian.f k day = some (y, m, d, 0) ∧ y ≠ 0 ∧ IsP y m d day := by
 obtain ⟨h1, h2⟩ := h
 obtain ⟨k, rfl⟩ : ∃ j, k = j + 1 := ⟨k - 1, by omega⟩
 have q : -625 ≤ (day - 226896) / 366 ∧ (day - 226896) / 366 ≤ 9400 := by omega
 have q2 : 366 * ((day - 226896) / 366) ≤ day - 226896 ∧ day - 226896 < 366 * ((day - 226896) / 366) + 366 := by omega
 have est : ∀ z : Int, -2000 ≤ z → z ≤ 10000 → 226895 + 1029983 * (z / 2820) + 365 * (z % 2820 + 473) + (31 * (z % 2820) + 14689) / 128 = pz z := by
  intro z _ _
  unfold pz pc
  have : 31 * (z % 2820 + 474) - 5 = 31 * (z % 2820) + 14689 := by omega
  rw [this]; omega
 unfold persian_Persian.f
 rw [rOf_yes ⟨h1, h2⟩, Option.bind_some, if_pos rfl, w64 (x := day - 226896) (by omega) (by omega), rFloor _ 366 (by omega) ⟨by omega, by omega⟩, Option.bind_some]
 generalize (day - 226896) / 366 = y0 at q q2 ⊢
 by_cases c : y0 < 1
 ·rw [if_pos c, w64 (x := y0 - 3) (by omega) (by omega)]
  simp only [persian_Persian.j0]
  have e := est (y0 - 3 - 473) (by omega) (by omega)
  have ep : ps (y0 - 3) = y0 - 3 - 473 := by unfold ps; rw [if_neg (by omega)]
  have b1 : (y0 - 3 - 473) / 2820 = -1 := by omega
  have b2 : (y0 - 3 - 473) % 2820 = y0 - 476 + 2820 := by omega
  rw [b1, b2] at e
  exact sYear day ⟨h1, h2⟩ 60 k (y0 - 3) (by omega) (by omega) (by omega) (by rw [ep, ← e]; omega) (by rw [ep, ← e]; omega) (by omega)
 ·rw [if_neg c]
  simp only [persian_Persian.j0]
  have e := est (y0 - 474) (by omega) (by omega)
  have ep : ps y0 = y0 - 474 := by unfold ps; rw [if_pos (by omega)]
  exact sYear day ⟨h1, h2⟩ 60 k y0 (by omega) (by omega) (by omega) (by rw [ep, ← e]; omega) (by rw [ep, ← e]; omega) (by omega)
theorem sDate_no (k : Nat) (day : Int) (h : ¬ In day) : persian_Persian.f k day = some (0, 0, 0, 2) := by
 unfold persian_Persian.f
 rw [rOf_no h, Option.bind_some, if_neg (by simp)]
/-! ### Hebrew -/
section
open Go.Proofs.YtgbbgcepcnklkaaGreatDoor.CalH (hm h0 he hb hl hl_01 hd hd_set hb_le hx hx_bd ha ha_succ hz hz_succ hc hc_all hn)
structure IsH (y m d day : Int) : Prop where
 m1 : 1 ≤ m
 m2 : m ≤ 12 + hl y
 d1 : 1 ≤ d
 d2 : d ≤ hx (hl y) (hd y) m
 e : day = hb y + hc (hl y) (hd y) m + d
/-- How many months are left. -/
def pos (l m : Int) : Int := if m < 7 then 6 - m else 18 + l - m
theorem hc_next (l n m : Int) (hl : l = 0 ∨ l = 1) (h1 : 1 ≤ m) (h2 : m ≤ 12 + l) (h6 : m ≠ 6) : hc l n (hn l m) = hc l n m + hx l n m ∧ 1 ≤ hn l m ∧ hn l m ≤ 12 + l ∧ pos l (hn l m) + 1 = pos l m := by
 have z1 : hz 1 = 0 := by decide
 unfold hn
 by_cases c : m = 12 + l
 ·have hs := ha_succ l n m (by omega) (by omega)
  rw [if_pos c]
  refine ⟨?_, by omega, by omega, ?_⟩
  ·unfold hc
   rw [if_pos (by omega), if_neg (by omega), z1, show 13 + l = m + 1 by omega, hs]
   omega
  ·unfold pos; rw [if_pos (by omega), if_neg (by omega)]; omega
 ·rw [if_neg c]
  refine ⟨?_, by omega, by omega, ?_⟩
  ·unfold hc
   by_cases q : m < 7
   ·have hs := hz_succ l n m h1 (by omega)
    rw [if_pos (by omega), if_pos q, hs]; omega
   ·have hs := ha_succ l n m (by omega) (by omega)
    rw [if_neg (by omega), if_neg q, hs]
  ·unfold pos
   by_cases q : m < 7
   ·rw [if_pos (by omega), if_pos q]; omega
   ·rw [if_neg (by omega), if_neg q]; omega
theorem hc_end (l n : Int) (h : (l = 1 ∧ (n = 383 ∨ n = 384 ∨ n = 385)) ∨ (l = 0 ∧ (n = 353 ∨ n = 354 ∨ n = 355))) : hc l n 6 + hx l n 6 = n := by
 have a := hc_all l n h
 have b : hz 6 = 148 := by decide
 have c : hx l n 6 = 29 := by simp [hx]
 unfold hc
 rw [if_pos (by omega), b, c]; omega
theorem hc_nonneg (l n m : Int) (h1 : 1 ≤ m) : 0 ≤ hc l n m := by
 have b8 := hx_bd l n 8; have b9 := hx_bd l n 9; have b12 := hx_bd l n 12
 have a : ∀ m, 0 ≤ ha l n m := by
  intro m; unfold ha
  repeat' split
  all_goals omega
 have z : ∀ m, 0 ≤ hz m := by
  intro m; unfold hz
  repeat' split
  all_goals omega
 have := a (13 + l); have := z m; have := a m
 unfold hc; split <;> omega
theorem hDate0 (y : Int) (hy : 1 ≤ y) (hy' : y ≤ 20000) : ∀ (j k : Nat) (n m : Int), 1 ≤ m → m ≤ 12 + hl y → pos (hl y) m = j → j + 3 < k → 0 ≤ n → n + hc (hl y) (hd y) m < hd y →
  ∃ m' d, hebrew_Hebrew.l1 k n y m 0 = some (y, m', d, 0) ∧ 1 ≤ m' ∧ m' ≤ 12 + hl y ∧ 1 ≤ d ∧ d ≤ hx (hl y) (hd y) m' ∧ n + 1 + hc (hl y) (hd y) m = hc (hl y) (hd y) m' + d := by
 intro j
 have l01 := hl_01 y
 have hset := hd_set y hy (by omega)
 induction j with
 | zero =>
  intro k n m h1 h2 h3 h4 h5 h6
  obtain ⟨k, rfl⟩ : ∃ j, k = j + 1 := ⟨k - 1, by omega⟩
  have e : m = 6 := by
   unfold pos at h3
   by_cases q : m < 7
   ·rw [if_pos q] at h3; omega
   ·rw [if_neg q] at h3; omega
  subst e
  have he := hc_end (hl y) (hd y) hset
  have hbx := hx_bd (hl y) (hd y) 6
  simp only [hebrew_Hebrew.l1]
  rw [FunH.pOne k (by omega) y 6 hy hy' (by omega) h2, Option.bind_some, if_neg (by omega), w64 (by omega) (by omega)]
  exact ⟨6, n + 1, rfl, by omega, h2, by omega, by omega, by omega⟩
 | succ j ih =>
  intro k n m h1 h2 h3 h4 h5 h6
  obtain ⟨k, rfl⟩ : ∃ j, k = j + 1 := ⟨k - 1, by omega⟩
  have hbx := hx_bd (hl y) (hd y) m
  have hc0 := hc_nonneg (hl y) (hd y) m h1
  have e6 : m ≠ 6 := by
   intro e; subst e
   unfold pos at h3; rw [if_pos (by omega)] at h3; omega
  obtain ⟨q1, q2, q3, q4⟩ := hc_next (hl y) (hd y) m l01 h1 h2 e6
  simp only [hebrew_Hebrew.l1]
  rw [FunH.pOne k (by omega) y m hy hy' h1 h2, Option.bind_some]
  by_cases c : n ≥ hx (hl y) (hd y) m
  ·rw [if_pos c, Option.bind_some, FunH.pNext y m hy hy' h1 (by omega), Option.bind_some, w64 (x := n - hx (hl y) (hd y) m) (by omega) (by omega)]
   obtain ⟨m', d, r1, r2, r3, r4, r5, r6⟩ := ih k (n - hx (hl y) (hd y) m) (hn (hl y) m) q2 q3 (by omega) (by omega) (by omega) (by omega)
   exact ⟨m', d, r1, r2, r3, r4, r5, by omega⟩
  ·rw [if_neg c, w64 (by omega) (by omega)]
   exact ⟨m, n + 1, rfl, h1, h2, by omega, by omega, by omega⟩
theorem hYear (day : Int) (hday : In day) : ∀ (j k : Nat) (y : Int), 1 ≤ y → y + j ≤ 19990 → hb y < day → day - hb y ≤ 353 * ((j : Int) + 1) → j + 25 ≤ k →
  ∃ y' m d, hebrew_Hebrew.l0 k day y 7 0 = some (y', m, d, 0) ∧ 1 ≤ y' ∧ y' ≤ 19990 ∧ IsH y' m d day := by
 obtain ⟨d1, d2⟩ := hday
 intro j
 have a7 : ∀ l n, hc l n 7 = 0 := by intro l n; simp [hc, ha]
 have fin : ∀ (k : Nat) (y : Int), 22 ≤ k → 1 ≤ y → y ≤ 19990 → hb y < day → day ≤ hb (y + 1) → ∃ m d, hebrew_Hebrew.l1 k (wrap64 (day - (hb y + 1))) y 7 0 = some (y, m, d, 0) ∧ IsH y m d day := by
  intro k y hk h1 h2 h4 h5
  have l01 := hl_01 y
  have hbb := FunH.hb_bd y (by omega) (by omega)
  have hdd : hd y = hb (y + 1) - hb y := rfl
  have hp : pos (hl y) 7 = 11 + hl y := by unfold pos; rw [if_neg (by omega)]; omega
  rw [w64 (by omega) (by omega)]
  obtain ⟨m', d, r1, r2, r3, r4, r5, r6⟩ := hDate0 y h1 (by omega) (11 + hl y).toNat k (day - (hb y + 1)) 7 (by omega) (by omega) (by omega) (by omega) (by omega) (by rw [a7]; omega)
  rw [a7] at r6
  exact ⟨m', d, r1, ⟨r2, r3, r4, r5, by omega⟩⟩
 induction j with
 | zero =>
  intro k y h1 h2 h4 h5 h6
  obtain ⟨k, rfl⟩ : ∃ j, k = j + 1 := ⟨k - 1, by omega⟩
  have hset := hd_set y h1 (by omega)
  have hdd : hd y = hb (y + 1) - hb y := rfl
  simp only [hebrew_Hebrew.l0]
  rw [w64 (x := y + 1) (by omega) (by omega), FunH.pBegins (y + 1) (by omega) (by omega), Option.bind_some, if_neg (by omega), FunH.pBegins y (by omega) (by omega), Option.bind_some]
  obtain ⟨m, d, r1, r2⟩ := fin k y (by omega) h1 (by omega) h4 (by omega)
  exact ⟨y, m, d, r1, h1, by omega, r2⟩
 | succ j ih =>
  intro k y h1 h2 h4 h5 h6
  obtain ⟨k, rfl⟩ : ∃ j, k = j + 1 := ⟨k - 1, by omega⟩
  have hset := hd_set y h1 (by omega)
  have hdd : hd y = hb (y + 1) - hb y := rfl
  simp only [hebrew_Hebrew.l0]
  rw [w64 (x := y + 1) (by omega) (by omega), FunH.pBegins (y + 1) (by omega) (by omega), Option.bind_some]
  by_cases c : hb (y + 1) + 1 ≤ day
  ·rw [if_pos c]
   exact ih k (y + 1) (by omega) (by omega) (by omega) (by omega) (by omega)
  ·rw [if_neg c, FunH.pBegins y (by omega) (by omega), Option.bind_some]
   obtain ⟨m, d, r1, r2⟩ := fin k y (by omega) h1 (by omega) h4 (by omega)
   exact ⟨y, m, d, r1, h1, by omega, r2⟩
theorem hDate_yes (k : Nat) (hk : 120 ≤ k) (day : Int) (h : In day) : ∃ y m d, hebrew_Hebrew.f k day = some (y, m, d, 0) ∧ 1 ≤ y ∧ y ≤ 19990 ∧ IsH y m d day := by
 obtain ⟨h1, h2⟩ := h
 have q : 3700 ≤ (day + 1373427) / 366 ∧ (day + 1373427) / 366 ≤ 13800 := by omega
 have q2 : 366 * ((day + 1373427) / 366) ≤ day + 1373427 ∧ day + 1373427 < 366 * ((day + 1373427) / 366) + 366 := by omega
 unfold hebrew_Hebrew.f
 rw [rOf_yes ⟨h1, h2⟩, Option.bind_some, if_pos rfl, w64 (x := day + 1373427) (by omega) (by omega), rFloor _ 366 (by omega) ⟨by omega, by omega⟩, Option.bind_some]
 generalize (day + 1373427) / 366 = y0 at q q2 ⊢
 have e0 : 365 * y0 - 400 ≤ h0 y0 ∧ h0 y0 + 2 < 366 * y0 := by unfold h0 hm; omega
 have e1 : h0 y0 ≤ he y0 ∧ he y0 ≤ h0 y0 + 1 := by unfold he; split <;> omega
 have e2 : 0 ≤ FunH.dl y0 ∧ FunH.dl y0 ≤ 2 := by unfold FunH.dl; repeat' split <;> omega
 have e3 := FunH.hb_dl y0
 exact hYear day ⟨h1, h2⟩ 60 k y0 (by omega) (by omega) (by omega) (by omega) (by omega)
theorem hDate_no (k : Nat) (day : Int) (h : ¬ In day) : hebrew_Hebrew.f k day = some (0, 0, 0, 2) := by
 unfold hebrew_Hebrew.f
 rw [rOf_no h, Option.bind_some, if_neg (by simp)]
theorem pos_inj (l m m' : Int) (h1 : 1 ≤ m) (h2 : m ≤ 12 + l) (h1' : 1 ≤ m') (h2' : m' ≤ 12 + l) (e : pos l m = pos l m') : m = m' := by
 unfold pos at e
 split at e <;> split at e <;> omega
theorem pos_bd (l m : Int) (hl : l = 0 ∨ l = 1) (h1 : 1 ≤ m) (h2 : m ≤ 12 + l) : 0 ≤ pos l m ∧ pos l m ≤ 12 := by unfold pos; split <;> omega
theorem pos6 (l m : Int) (h1 : 1 ≤ m) (h2 : m ≤ 12 + l) (h : 0 < pos l m) : m ≠ 6 := by
 intro e; subst e; unfold pos at h; rw [if_pos (by omega)] at h; omega
theorem hc_mono (l n : Int) (hl : l = 0 ∨ l = 1) : ∀ (j : Nat) (m m' : Int), 1 ≤ m → m ≤ 12 + l → 1 ≤ m' → m' ≤ 12 + l → pos l m = pos l m' + (j + 1 : Nat) → hc l n m + hx l n m ≤ hc l n m' := by
 intro j
 induction j with
 | zero =>
  intro m m' h1 h2 h1' h2' h3
  have hp := pos_bd l m' hl h1' h2'
  obtain ⟨q1, q2, q3, q4⟩ := hc_next l n m hl h1 h2 (pos6 l m h1 h2 (by omega))
  have e := pos_inj l _ _ q2 q3 h1' h2' (by omega)
  rw [e] at q1; omega
 | succ j ih =>
  intro m m' h1 h2 h1' h2' h3
  have hp := pos_bd l m' hl h1' h2'
  obtain ⟨q1, q2, q3, q4⟩ := hc_next l n m hl h1 h2 (pos6 l m h1 h2 (by omega))
  have := ih (hn l m) m' q2 q3 h1' h2' (by omega)
  have := hx_bd l n (hn l m)
  omega
theorem hc_top (l n : Int) (h : (l = 1 ∧ (n = 383 ∨ n = 384 ∨ n = 385)) ∨ (l = 0 ∧ (n = 353 ∨ n = 354 ∨ n = 355))) (m : Int) (h1 : 1 ≤ m) (h2 : m ≤ 12 + l) : hc l n m + hx l n m ≤ n := by
 have hl : l = 0 ∨ l = 1 := by omega
 have he := hc_end l n h
 have hb6 := hx_bd l n 6
 by_cases c : m = 6
 ·subst c; omega
 ·have p6 : pos l 6 = 0 := by unfold pos; rw [if_pos (by omega)]; omega
  have hp := pos_bd l m hl h1 h2
  have hne : pos l m ≠ 0 := fun e => c (pos_inj l m 6 h1 h2 (by omega) (by omega) (by rw [p6]; exact e))
  have := hc_mono l n hl (pos l m - 1).toNat m 6 h1 h2 (by omega) (by omega) (by omega)
  omega
theorem IsH.year {y m d day : Int} (h : IsH y m d day) (hy : 1 ≤ y) (hy' : y ≤ 20000) : hb y < day ∧ day ≤ hb (y + 1) := by
 have h1 := h.m1; have h2 := h.m2; have h3 := h.d1; have h4 := h.d2; have h5 := h.e
 have t := hc_top (hl y) (hd y) (hd_set y hy (by omega)) m h1 h2
 have z := hc_nonneg (hl y) (hd y) m h1
 have e : hd y = hb (y + 1) - hb y := rfl
 omega
theorem IsH.one {y m d y' m' d' day : Int} (h : IsH y m d day) (h' : IsH y' m' d' day) (hy : 1 ≤ y) (hy' : y ≤ 20000) (gy : 1 ≤ y') (gy' : y' ≤ 20000) : y = y' ∧ m = m' ∧ d = d' := by
 have a := h.year hy hy'; have a' := h'.year gy gy'
 have ey : y = y' := by
  by_cases b : y < y'
  ·have := hb_le (show y + 1 ≤ y' by omega) (by omega) (by omega); omega
  ·by_cases b' : y' < y
   ·have := hb_le (show y' + 1 ≤ y by omega) (by omega) (by omega); omega
   ·omega
 subst ey
 have := h.e; have := h'.e; have := h.d1; have := h'.d1; have := h.d2; have := h'.d2
 have l01 := hl_01 y
 have p := pos_bd (hl y) m l01 h.m1 h.m2
 have p' := pos_bd (hl y) m' l01 h'.m1 h'.m2
 have em : m = m' := by
  apply pos_inj (hl y) m m' h.m1 h.m2 h'.m1 h'.m2
  by_cases a : pos (hl y) m > pos (hl y) m'
  ·have := hc_mono (hl y) (hd y) l01 (pos (hl y) m - pos (hl y) m' - 1).toNat m m' h.m1 h.m2 h'.m1 h'.m2 (by omega); omega
  ·by_cases a' : pos (hl y) m' > pos (hl y) m
   ·have := hc_mono (hl y) (hd y) l01 (pos (hl y) m' - pos (hl y) m - 1).toNat m' m h'.m1 h'.m2 h.m1 h.m2 (by omega); omega
   ·omega
 subst em
 exact ⟨rfl, rfl, by omega⟩
end
end Go.Proofs.YtgbbgcepcnklkaaGreatDoor.FunMd
