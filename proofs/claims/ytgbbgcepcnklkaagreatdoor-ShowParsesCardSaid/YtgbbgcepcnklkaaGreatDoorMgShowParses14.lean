/- Texts of this claim, merged: FunH, QislB. -/
import Derived.Test.YtgbbgcepcnklkaaGreatDoorMgShowParses13
import Derived.Test.YtgbbgcepcnklkaaGreatDoorMgShowParses6
import Derived.Test.YtgbbgcepcnklkaaGreatDoorMgShowParses1
import Derived.Test.YtgbbgcepcnklkaaGreatDoorMgShowParses7
/- The Hebrew calendar: what the package hebrew and the reference reckon, in plain numbers. -/
namespace Go.Proofs.YtgbbgcepcnklkaaGreatDoor.FunH
open Go.RowKit Go.Proofs.YtgbbgcepcnklkaaGreatDoorW.PrintWords Go.Proofs.YtgbbgcepcnklkaaGreatDoorW.PrintLast Go.Proofs.YtgbbgcepcnklkaaGreatDoor.Q Go.Proofs.YtgbbgcepcnklkaaGreatDoor.Cal Go.Proofs.YtgbbgcepcnklkaaGreatDoor.FunA Go.Proofs.YtgbbgcepcnklkaaGreatDoor.FunB Go.Proofs.YtgbbgcepcnklkaaGreatDoor.FunJ Go.Proofs.YtgbbgcepcnklkaaGreatDoor.FunM
set_option linter.unusedVariables false
set_option linter.unusedSimpArgs false
open Go.Proofs.YtgbbgcepcnklkaaGreatDoor.CalH (hm h0 he hb hl hl_01 hd hx hx_bd ha ha_succ hz hz_succ hc hn)
theorem h0_bd (y : Int) (h : -5 ≤ y) (h' : y ≤ 20010) : -3000 ≤ h0 y ∧ h0 y ≤ 8000000 := by unfold h0 hm; omega
theorem he_bd (y : Int) (h : -5 ≤ y) (h' : y ≤ 20010) : -3000 ≤ he y ∧ he y ≤ 8000001 := by
 have := h0_bd y h h'
 unfold he; split <;> omega
theorem pElapsed (y : Int) (h : -5 ≤ y) (h' : y ≤ 20010) : hebrew_elapsed.f y = some (he y) := by
 have hb0 := h0_bd y h h'
 unfold hebrew_elapsed.f he
 rw [w64 (x := 235 * y) (by omega) (by omega), w64 (x := 235 * y - 234) (by omega) (by omega), rFloor _ 19 (by omega) ⟨by omega, by omega⟩, Option.bind_some]
 have hmm : -100 ≤ hm y ∧ hm y ≤ 300000 := by unfold hm; omega
 have e : (235 * y - 234) / 19 = hm y := rfl
 rw [e, w64 (x := 13753 * hm y) (by omega) (by omega), w64 (x := 12084 + 13753 * hm y) (by omega) (by omega), rFloor _ 25920 (by omega) ⟨by omega, by omega⟩, Option.bind_some]
 have q : -100 ≤ (12084 + 13753 * hm y) / 25920 ∧ (12084 + 13753 * hm y) / 25920 ≤ 200000 := by omega
 have e2 : wrap64 (wrap64 (29 * hm y) + (12084 + 13753 * hm y) / 25920) = h0 y := by
  rw [w64 (x := 29 * hm y) (by omega) (by omega), w64 (by omega) (by omega)]; rfl
 rw [e2, w64 (x := h0 y + 1) (by omega) (by omega), w64 (x := 3 * (h0 y + 1)) (by omega) (by omega), rMod _ 7 (by omega) (by omega) ⟨by omega, by omega⟩, Option.bind_some]
 split <;> rfl
theorem fElapsed (y : Int) (h : -5 ≤ y) (h' : y ≤ 20010) : trystref01_elapsed.f y = some (he y) := by
 have hb0 := h0_bd y h h'
 unfold trystref01_elapsed.f he
 rw [w64 (x := 235 * y) (by omega) (by omega), w64 (x := 235 * y - 234) (by omega) (by omega), fFloor _ 19 (by omega) (by omega) ⟨by omega, by omega⟩, Option.bind_some]
 have hmm : -100 ≤ hm y ∧ hm y ≤ 300000 := by unfold hm; omega
 have e : (235 * y - 234) / 19 = hm y := rfl
 rw [e, w64 (x := 13753 * hm y) (by omega) (by omega), w64 (x := 12084 + 13753 * hm y) (by omega) (by omega), fFloor _ 25920 (by omega) (by omega) ⟨by omega, by omega⟩, Option.bind_some]
 have q : -100 ≤ (12084 + 13753 * hm y) / 25920 ∧ (12084 + 13753 * hm y) / 25920 ≤ 200000 := by omega
 have e2 : wrap64 (wrap64 (29 * hm y) + (12084 + 13753 * hm y) / 25920) = h0 y := by
  rw [w64 (x := 29 * hm y) (by omega) (by omega), w64 (by omega) (by omega)]; rfl
 rw [e2, w64 (x := h0 y + 1) (by omega) (by omega), w64 (x := 3 * (h0 y + 1)) (by omega) (by omega), fMod _ 7 (by omega) (by omega) ⟨by omega, by omega⟩, Option.bind_some]
 split <;> rfl
def dl (y : Int) : Int := if he (y + 1) - he y = 356 then 2 else if he y - he (y - 1) = 382 then 1 else 0
theorem hb_dl (y : Int) : hb y = he y + dl y - 1373428 := by
 unfold hb dl
 repeat' split
 all_goals omega
theorem hb_bd (y : Int) (h : -3 ≤ y) (h' : y ≤ 20005) : -1380000 ≤ hb y ∧ hb y ≤ 8000000 := by
 have := he_bd y (by omega) (by omega)
 rw [hb_dl]; unfold dl
 repeat' split
 all_goals omega
theorem pBegins (y : Int) (h : -3 ≤ y) (h' : y ≤ 20005) : hebrew_begins.f y = some (hb y + 1) := by
 have h1 := he_bd y (by omega) (by omega)
 have h2 := he_bd (y + 1) (by omega) (by omega)
 have h3 := he_bd (y - 1) (by omega) (by omega)
 have hD : hebrew_delay.f y = some (dl y) := by
  unfold hebrew_delay.f dl
  rw [pElapsed y (by omega) (by omega), Option.bind_some, w64 (x := y + 1) (by omega) (by omega), pElapsed (y + 1) (by omega) (by omega), Option.bind_some, w64 (x := he (y + 1) - he y) (by omega) (by omega)]
  by_cases c : he (y + 1) - he y = 356
  ·rw [if_pos c, if_pos c]
  ·rw [if_neg c, if_neg c, w64 (x := y - 1) (by omega) (by omega), pElapsed (y - 1) (by omega) (by omega), Option.bind_some, w64 (x := he y - he (y - 1)) (by omega) (by omega)]
   split <;> rfl
 have hb1 : 0 ≤ dl y ∧ dl y ≤ 2 := by unfold dl; repeat' split <;> omega
 unfold hebrew_begins.f
 rw [pElapsed y (by omega) (by omega), Option.bind_some, hD, Option.bind_some, hb_dl, w64 (x := -1373427 + he y) (by omega) (by omega), w64 (by omega) (by omega)]
 congr 1; omega
theorem fNew (y : Int) (h : -3 ≤ y) (h' : y ≤ 20005) : trystref01_newYear.f y = some (hb y + 1) := by
 have h1 := he_bd y (by omega) (by omega)
 have h2 := he_bd (y + 1) (by omega) (by omega)
 have h3 := he_bd (y - 1) (by omega) (by omega)
 unfold trystref01_newYear.f
 rw [w64 (x := y - 1) (by omega) (by omega), fElapsed (y - 1) (by omega) (by omega), Option.bind_some, fElapsed y (by omega) (by omega), Option.bind_some, w64 (x := y + 1) (by omega) (by omega), fElapsed (y + 1) (by omega) (by omega), Option.bind_some, w64 (x := he (y + 1) - he y) (by omega) (by omega), w64 (x := he y - he (y - 1)) (by omega) (by omega), hb_dl]
 unfold dl
 by_cases c : he (y + 1) - he y = 356
 ·rw [if_pos c, if_pos c, w64 (x := he y + 2) (by omega) (by omega), w64 (by omega) (by omega)]
  congr 1; omega
 ·rw [if_neg c, if_neg c]
  by_cases e : he y - he (y - 1) = 382
  ·rw [if_pos e, if_pos e, w64 (x := he y + 1) (by omega) (by omega), w64 (by omega) (by omega)]
   congr 1; omega
  ·rw [if_neg e, if_neg e, w64 (by omega) (by omega)]
   congr 1; omega
theorem pLeap (y : Int) (h : -3 ≤ y) (h' : y ≤ 20005) : hebrew_leap.f y = some (decide (hl y = 1)) := by
 unfold hebrew_leap.f hl
 rw [w64 (x := 7 * y) (by omega) (by omega), w64 (x := 7 * y + 1) (by omega) (by omega), rMod _ 19 (by omega) (by omega) ⟨by omega, by omega⟩, Option.bind_some]
 by_cases c : (7 * y + 1) % 19 < 7
 ·simp [c]
 ·simp [c]
theorem fLeapH (y : Int) (h : -3 ≤ y) (h' : y ≤ 20005) : trystref01_hebrewLeap.f y = some (decide (hl y = 1)) := by
 unfold trystref01_hebrewLeap.f hl
 rw [w64 (x := 7 * y) (by omega) (by omega), w64 (x := 7 * y + 1) (by omega) (by omega), fMod _ 19 (by omega) (by omega) ⟨by omega, by omega⟩, Option.bind_some]
 by_cases c : (7 * y + 1) % 19 < 7
 ·simp [c]
 ·simp [c]
theorem pLast (y : Int) (h : -3 ≤ y) (h' : y ≤ 20005) : hebrew_last.f y = some (12 + hl y) := by
 unfold hebrew_last.f
 rw [pLeap y h h', Option.bind_some]
 rcases hl_01 y with q | q <;> rw [q] <;> simp
theorem pDays (y : Int) (h : -3 ≤ y) (h' : y ≤ 20004) : hebrew_days.f y = some (hd y) := by
 have h1 := hb_bd y (by omega) (by omega)
 have h2 := hb_bd (y + 1) (by omega) (by omega)
 unfold hebrew_days.f hd
 rw [w64 (x := y + 1) (by omega) (by omega), pBegins (y + 1) (by omega) (by omega), Option.bind_some, pBegins y (by omega) (by omega), Option.bind_some, w64 (by omega) (by omega)]
 congr 1; omega
theorem pMonth (k : Nat) (y m : Int) (h : 1 ≤ y) (h' : y ≤ 20000) (h1 : 1 ≤ m) (h2 : m ≤ 13) : hebrew_Length.j0 (k + 2) y m false = some (hx (hl y) (hd y) m) := by
 simp only [hebrew_Length.j0]
 rw [if_neg (by simp), pDays y (by omega) (by omega), Option.bind_some]
 have hL := pLeap y (by omega) (by omega)
 generalize hd y = n
 rcases (by omega : m = 1 ∨ m = 2 ∨ m = 3 ∨ m = 4 ∨ m = 5 ∨ m = 6 ∨ m = 7 ∨ m = 8 ∨ m = 9 ∨ m = 10 ∨ m = 11 ∨ m = 12 ∨ m = 13) with e | e | e | e | e | e | e | e | e | e | e | e | e <;> subst e <;> simp [hebrew_Length.j1, hx]
 ·by_cases a : n = 355
  ·simp [a]
  ·by_cases b : n = 385
   ·simp [b]
   ·simp [a, b]
 ·by_cases a : n = 353
  ·simp [a]
  ·by_cases b : n = 383
   ·simp [b]
   ·simp [a, b]
 ·rw [hL, Option.bind_some]
  rcases hl_01 y with q | q <;> rw [q] <;> simp
theorem fMonth (y m : Int) (h : 1 ≤ y) (h' : y ≤ 20000) (h1 : 1 ≤ m) (h2 : m ≤ 13) : trystref01_hebrewMonth.f y m = some (hx (hl y) (hd y) m) := by
 have b1 := hb_bd y (by omega) (by omega)
 have b2 := hb_bd (y + 1) (by omega) (by omega)
 have hL := fLeapH y (by omega) (by omega)
 have e : wrap64 (hb (y + 1) + 1 - (hb y + 1)) = hd y := by
  rw [w64 (by omega) (by omega)]; unfold hd; omega
 unfold trystref01_hebrewMonth.f
 rw [w64 (x := y + 1) (by omega) (by omega), fNew (y + 1) (by omega) (by omega), Option.bind_some, fNew y (by omega) (by omega), Option.bind_some, e]
 generalize hd y = n
 rcases (by omega : m = 1 ∨ m = 2 ∨ m = 3 ∨ m = 4 ∨ m = 5 ∨ m = 6 ∨ m = 7 ∨ m = 8 ∨ m = 9 ∨ m = 10 ∨ m = 11 ∨ m = 12 ∨ m = 13) with e | e | e | e | e | e | e | e | e | e | e | e | e <;> subst e <;> simp [hx]
 ·by_cases a : n = 355
  ·simp [a]
  ·by_cases b : n = 385
   ·simp [b]
   ·simp [a, b]
 ·by_cases a : n = 353
  ·simp [a]
  ·by_cases b : n = 383
   ·simp [b]
   ·simp [a, b]
 ·rw [hL, Option.bind_some]
  rcases hl_01 y with q | q <;> rw [q] <;> simp
/-- How many days a month has; 0 of none. -/
def lenH (y m : Int) : Int := if 1 ≤ m ∧ m ≤ 12 + hl y then hx (hl y) (hd y) m else 0
theorem lenH_pos {y m : Int} (h : 0 < lenH y m) : 1 ≤ m ∧ m ≤ 12 + hl y := by
 unfold lenH at h; split at h
 ·assumption
 ·omega
theorem pLength (k : Nat) (hk : 2 ≤ k) (y m : Int) : hebrew_Length.f k y m = some (if 1 ≤ y ∧ y ≤ 20000 then lenH y m else 0) := by
 obtain ⟨k, rfl⟩ : ∃ j, k = j + 2 := ⟨k - 2, by omega⟩
 have key : hebrew_Length.j0 (k + 2) y m true = some 0 := by simp only [hebrew_Length.j0, if_true]
 have hR : hebrew_right.f y = some (decide (1 ≤ y ∧ y ≤ 20000)) := by
  unfold hebrew_right.f
  by_cases a : y ≥ 1
  ·rw [if_pos a]
   by_cases b : y ≤ 20000
   ·rw [decide_eq_true b, decide_eq_true ⟨a, b⟩]
   ·rw [decide_eq_false b, decide_eq_false (fun h => b h.2)]
  ·rw [if_neg a, decide_eq_false (fun h => a h.1)]
 unfold hebrew_Length.f
 rw [hR, Option.bind_some]
 by_cases c : 1 ≤ y ∧ y ≤ 20000
 ·rw [decide_eq_true c, if_pos rfl, if_pos c]
  have l01 := hl_01 y
  unfold lenH
  by_cases a : m < 1
  ·rw [if_pos a, key, if_neg (by omega)]
  ·rw [if_neg a, pLast y (by omega) (by omega), Option.bind_some]
   by_cases b : m > 12 + hl y
   ·rw [decide_eq_true b, key, if_neg (by omega)]
   ·rw [decide_eq_false b, pMonth k y m c.1 c.2 (by omega) (by omega), if_pos ⟨by omega, by omega⟩]
 ·rw [decide_eq_false c, if_neg (by simp), key, if_neg c]
theorem pNext (y m : Int) (h : 1 ≤ y) (h' : y ≤ 20000) (h1 : 1 ≤ m) (h2 : m ≤ 13) : hebrew_next.f y m = some (hn (hl y) m) := by
 unfold hebrew_next.f hn
 rw [pLast y (by omega) (by omega), Option.bind_some]
 by_cases c : m = 12 + hl y
 ·rw [if_pos c, if_pos c]
 ·rw [if_neg c, if_neg c, w64 (by omega) (by omega)]
theorem pOne (k : Nat) (hk : 2 ≤ k) (y i : Int) (h : 1 ≤ y) (h' : y ≤ 20000) (h1 : 1 ≤ i) (h2 : i ≤ 12 + hl y) : hebrew_Length.f k y i = some (hx (hl y) (hd y) i) := by
 rw [pLength k hk, if_pos ⟨h, h'⟩]; unfold lenH; rw [if_pos ⟨h1, h2⟩]
/-- One round of the program's loop. -/
theorem pRound (k : Nat) (hk : 2 ≤ k) (y m d n i : Int) (h : 1 ≤ y) (h' : y ≤ 20000) (h1 : 1 ≤ i) (h2 : i ≤ 12 + hl y) (hne : i ≠ m) (hn1 : -30000000 ≤ n) (hn2 : n ≤ 30000000) :
  hebrew_FromHebrew.l0 (k + 1) n i y m d = hebrew_FromHebrew.l0 k (n + hx (hl y) (hd y) i) (hn (hl y) i) y m d := by
 have hb := hx_bd (hl y) (hd y) i
 have l01 := hl_01 y
 simp only [hebrew_FromHebrew.l0]
 rw [if_neg hne, pOne k hk y i h h' h1 h2, Option.bind_some, pNext y i h h' h1 (by omega), Option.bind_some, w64 (by omega) (by omega)]
theorem pEnd (k : Nat) (y m d n : Int) : hebrew_FromHebrew.l0 (k + 1) n m y m d = some (dayOr n) := by
 simp only [hebrew_FromHebrew.l0, if_true]
 rw [ofDay]
theorem pB (y m d : Int) (h : 1 ≤ y) (h' : y ≤ 20000) (hm : m ≤ 6) : ∀ (j k : Nat) (n i : Int), 1 ≤ i → i ≤ m → m - i = j → j + 3 ≤ k → -20000000 ≤ n → n + 31 * j ≤ 20000000 →
  hebrew_FromHebrew.l0 k n i y m d = some (dayOr (n + hz m - hz i)) := by
 intro j
 induction j with
 | zero =>
  intro k n i h1 h2 h3 h4 h5 h6
  obtain ⟨k, rfl⟩ : ∃ j, k = j + 1 := ⟨k - 1, by omega⟩
  have e : i = m := by omega
  subst e
  rw [pEnd]; congr 2; omega
 | succ j ih =>
  intro k n i h1 h2 h3 h4 h5 h6
  obtain ⟨k, rfl⟩ : ∃ j, k = j + 1 := ⟨k - 1, by omega⟩
  have l01 := hl_01 y
  have hb := hx_bd (hl y) (hd y) i
  have hs := hz_succ (hl y) (hd y) i h1 (by omega)
  have en : hn (hl y) i = i + 1 := by unfold hn; rw [if_neg (by omega)]
  rw [pRound k (by omega) y m d n i h h' h1 (by omega) (by omega) (by omega) (by omega), en, ih k _ (i + 1) (by omega) (by omega) (by omega) (by omega) (by omega) (by omega)]
  congr 2; omega
theorem pA1 (y m d : Int) (h : 1 ≤ y) (h' : y ≤ 20000) (hm7 : 7 ≤ m) (hm : m ≤ 12 + hl y) : ∀ (j k : Nat) (n i : Int), 7 ≤ i → i ≤ m → m - i = j → j + 3 ≤ k → -20000000 ≤ n → n + 31 * j ≤ 20000000 →
  hebrew_FromHebrew.l0 k n i y m d = some (dayOr (n + ha (hl y) (hd y) m - ha (hl y) (hd y) i)) := by
 have l01 := hl_01 y
 intro j
 induction j with
 | zero =>
  intro k n i h1 h2 h3 h4 h5 h6
  obtain ⟨k, rfl⟩ : ∃ j, k = j + 1 := ⟨k - 1, by omega⟩
  have e : i = m := by omega
  subst e
  rw [pEnd]; congr 2; omega
 | succ j ih =>
  intro k n i h1 h2 h3 h4 h5 h6
  obtain ⟨k, rfl⟩ : ∃ j, k = j + 1 := ⟨k - 1, by omega⟩
  have hb := hx_bd (hl y) (hd y) i
  have hs := ha_succ (hl y) (hd y) i h1 (by omega)
  have en : hn (hl y) i = i + 1 := by unfold hn; rw [if_neg (by omega)]
  rw [pRound k (by omega) y m d n i h h' (by omega) (by omega) (by omega) (by omega) (by omega), en, ih k _ (i + 1) (by omega) (by omega) (by omega) (by omega) (by omega) (by omega)]
  congr 2; omega
theorem pA2 (y m d : Int) (h : 1 ≤ y) (h' : y ≤ 20000) (hm1 : 1 ≤ m) (hm : m ≤ 6) : ∀ (j k : Nat) (n i : Int), 7 ≤ i → i ≤ 12 + hl y → 12 + hl y - i = j → j + 12 ≤ k → -10000000 ≤ n → n + 31 * j ≤ 10000000 →
  hebrew_FromHebrew.l0 k n i y m d = some (dayOr (n + ha (hl y) (hd y) (13 + hl y) - ha (hl y) (hd y) i + hz m)) := by
 have l01 := hl_01 y
 have z1 : hz 1 = 0 := by decide
 intro j
 induction j with
 | zero =>
  intro k n i h1 h2 h3 h4 h5 h6
  obtain ⟨k, rfl⟩ : ∃ j, k = j + 1 := ⟨k - 1, by omega⟩
  have hb := hx_bd (hl y) (hd y) i
  have hs := ha_succ (hl y) (hd y) i h1 (by omega)
  have en : hn (hl y) i = 1 := by unfold hn; rw [if_pos (by omega)]
  have ei : i + 1 = 13 + hl y := by omega
  rw [pRound k (by omega) y m d n i h h' (by omega) (by omega) (by omega) (by omega) (by omega), en, pB y m d h h' hm (m - 1).toNat k _ 1 (by omega) hm1 (by omega) (by omega) (by omega) (by omega), z1]
  rw [ei] at hs
  congr 2; omega
 | succ j ih =>
  intro k n i h1 h2 h3 h4 h5 h6
  obtain ⟨k, rfl⟩ : ∃ j, k = j + 1 := ⟨k - 1, by omega⟩
  have hb := hx_bd (hl y) (hd y) i
  have hs := ha_succ (hl y) (hd y) i h1 (by omega)
  have en : hn (hl y) i = i + 1 := by unfold hn; rw [if_neg (by omega)]
  rw [pRound k (by omega) y m d n i h h' (by omega) (by omega) (by omega) (by omega) (by omega), en, ih k _ (i + 1) (by omega) (by omega) (by omega) (by omega) (by omega) (by omega)]
  congr 2; omega
abbrev RightH (y m d : Int) : Prop := 1 ≤ y ∧ y ≤ 20000 ∧ 1 ≤ d ∧ d ≤ lenH y m
theorem lenH_bd (y m : Int) : lenH y m ≤ 30 := by
 have := hx_bd (hl y) (hd y) m
 unfold lenH; split <;> omega
theorem pFrom (k : Nat) (hk : 40 ≤ k) (y m d : Int) : hebrew_FromHebrew.f k y m d = some (if RightH y m d then dayOr (hb y + hc (hl y) (hd y) m + d) else (0, 2)) := by
 obtain ⟨k, rfl⟩ : ∃ j, k = j + 1 := ⟨k - 1, by omega⟩
 have key : hebrew_FromHebrew.j0 (k + 1) true y m d = some (0, 2) := by simp only [hebrew_FromHebrew.j0, if_true]
 have l01 := hl_01 y
 unfold hebrew_FromHebrew.f
 by_cases a : d < 1
 ·rw [if_pos a, key, if_neg (fun h => by have := h.2.2.1; omega)]
 ·rw [if_neg a, pLength (k + 1) (by omega), Option.bind_some]
  by_cases c : 1 ≤ y ∧ y ≤ 20000
  ·rw [if_pos c]
   by_cases e : d > lenH y m
   ·rw [decide_eq_true e, key, if_neg (fun h => by have := h.2.2.2; omega)]
   ·rw [decide_eq_false e, if_pos ⟨c.1, c.2, by omega, by omega⟩]
    have hp := lenH_pos (y := y) (m := m) (by omega)
    have hl30 := lenH_bd y m
    have hbb := hb_bd y (by omega) (by omega)
    simp only [hebrew_FromHebrew.j0]
    rw [if_neg (by simp), pBegins y (by omega) (by omega), Option.bind_some, w64 (x := hb y + 1 + d) (by omega) (by omega), w64 (x := hb y + 1 + d - 1) (by omega) (by omega)]
    have a7 : ha (hl y) (hd y) 7 = 0 := by simp [ha]
    unfold hc
    by_cases q : m < 7
    ·rw [if_pos q, pA2 y m d c.1 c.2 hp.1 (by omega) (12 + hl y - 7).toNat k _ 7 (by omega) (by omega) (by omega) (by omega) (by omega) (by omega), a7]
     congr 2; omega
    ·rw [if_neg q, pA1 y m d c.1 c.2 (by omega) hp.2 (m - 7).toNat k _ 7 (by omega) (by omega) (by omega) (by omega) (by omega) (by omega), a7]
     congr 2; omega
  ·rw [if_neg c, decide_eq_true (show d > 0 by omega), key, if_neg (fun h => c ⟨h.1, h.2.1⟩)]
/-! ### The reference -/
theorem q1 (y m : Int) (h : 1 ≤ y) (h' : y ≤ 20000) : ∀ (j k : Nat) (n i : Int), 1 ≤ i → i ≤ m → m ≤ 6 → m - i = j → j + 1 ≤ k → -20000000 ≤ n → n + 31 * j ≤ 20000000 →
  trystref01_hebrew.l1 k y m n i = some (n + hz m - hz i) := by
 intro j
 induction j with
 | zero =>
  intro k n i h1 h2 hm h3 h4 h5 h6
  obtain ⟨k, rfl⟩ : ∃ j, k = j + 1 := ⟨k - 1, by omega⟩
  have e : i = m := by omega
  subst e
  simp only [trystref01_hebrew.l1]
  rw [if_neg (by omega)]; congr 1; omega
 | succ j ih =>
  intro k n i h1 h2 hm h3 h4 h5 h6
  obtain ⟨k, rfl⟩ : ∃ j, k = j + 1 := ⟨k - 1, by omega⟩
  have hb := hx_bd (hl y) (hd y) i
  have hs := hz_succ (hl y) (hd y) i h1 (by omega)
  simp only [trystref01_hebrew.l1]
  rw [if_pos (by omega), fMonth y i h h' h1 (by omega), Option.bind_some, w64 (x := n + hx (hl y) (hd y) i) (by omega) (by omega), w64 (x := i + 1) (by omega) (by omega), ih k _ (i + 1) (by omega) (by omega) hm (by omega) (by omega) (by omega) (by omega)]
  congr 1; omega
theorem q2 (y m : Int) (h : 1 ≤ y) (h' : y ≤ 20000) : ∀ (j k : Nat) (n i : Int), 7 ≤ i → i ≤ m → m ≤ 14 → m - i = j → j + 1 ≤ k → -20000000 ≤ n → n + 31 * j ≤ 20000000 →
  trystref01_hebrew.l2 k y m n i = some (n + ha (hl y) (hd y) m - ha (hl y) (hd y) i) := by
 intro j
 induction j with
 | zero =>
  intro k n i h1 h2 hm h3 h4 h5 h6
  obtain ⟨k, rfl⟩ : ∃ j, k = j + 1 := ⟨k - 1, by omega⟩
  have e : i = m := by omega
  subst e
  simp only [trystref01_hebrew.l2]
  rw [if_neg (by omega)]; congr 1; omega
 | succ j ih =>
  intro k n i h1 h2 hm h3 h4 h5 h6
  obtain ⟨k, rfl⟩ : ∃ j, k = j + 1 := ⟨k - 1, by omega⟩
  have hb := hx_bd (hl y) (hd y) i
  have hs := ha_succ (hl y) (hd y) i h1 (by omega)
  simp only [trystref01_hebrew.l2]
  rw [if_pos (by omega), fMonth y i h h' (by omega) (by omega), Option.bind_some, w64 (x := n + hx (hl y) (hd y) i) (by omega) (by omega), w64 (x := i + 1) (by omega) (by omega), ih k _ (i + 1) (by omega) (by omega) hm (by omega) (by omega) (by omega) (by omega)]
  congr 1; omega
theorem q0 (y m : Int) (h : 1 ≤ y) (h' : y ≤ 20000) (hm1 : 1 ≤ m) (hm : m ≤ 6) (L : Int) (hL : 12 ≤ L ∧ L ≤ 13) : ∀ (j k : Nat) (n i : Int), 7 ≤ i → i ≤ L + 1 → L + 1 - i = j → j + 8 ≤ k → -10000000 ≤ n → n + 31 * j ≤ 10000000 →
  trystref01_hebrew.l0 k y m L n i = some (n + ha (hl y) (hd y) (L + 1) - ha (hl y) (hd y) i + hz m) := by
 have z1 : hz 1 = 0 := by decide
 intro j
 induction j with
 | zero =>
  intro k n i h1 h2 h3 h4 h5 h6
  obtain ⟨k, rfl⟩ : ∃ j, k = j + 1 := ⟨k - 1, by omega⟩
  have e : i = L + 1 := by omega
  subst e
  simp only [trystref01_hebrew.l0]
  rw [if_neg (by omega), q1 y m h h' (m - 1).toNat k n 1 (by omega) hm1 hm (by omega) (by omega) (by omega) (by omega), z1]
  congr 1; omega
 | succ j ih =>
  intro k n i h1 h2 h3 h4 h5 h6
  obtain ⟨k, rfl⟩ : ∃ j, k = j + 1 := ⟨k - 1, by omega⟩
  have hb := hx_bd (hl y) (hd y) i
  have hs := ha_succ (hl y) (hd y) i h1 (by omega)
  simp only [trystref01_hebrew.l0]
  rw [if_pos (by omega), fMonth y i h h' (by omega) (by omega), Option.bind_some, w64 (x := n + hx (hl y) (hd y) i) (by omega) (by omega), w64 (x := i + 1) (by omega) (by omega), ih k _ (i + 1) (by omega) (by omega) (by omega) (by omega) (by omega) (by omega)]
  congr 1; omega
theorem fHeb (k : Nat) (hk : 30 ≤ k) (y m d : Int) (h : 1 ≤ y) (h' : y ≤ 20000) (h1 : 1 ≤ m) (h2 : m ≤ 12 + hl y) (hd0 : -1000 ≤ d) (hd1 : d ≤ 1000) : trystref01_hebrew.f k y m d = some (hb y + hc (hl y) (hd y) m + d) := by
 obtain ⟨k, rfl⟩ : ∃ j, k = j + 1 := ⟨k - 1, by omega⟩
 have l01 := hl_01 y
 have hbb := hb_bd y (by omega) (by omega)
 have a7 : ha (hl y) (hd y) 7 = 0 := by simp [ha]
 have key : trystref01_hebrew.j0 (k + 1) y m d (12 + hl y) = some (hb y + hc (hl y) (hd y) m + d) := by
  simp only [trystref01_hebrew.j0]
  rw [fNew y (by omega) (by omega), Option.bind_some, w64 (x := hb y + 1 + d) (by omega) (by omega), w64 (x := hb y + 1 + d - 1) (by omega) (by omega)]
  unfold hc
  by_cases q : m < 7
  ·rw [if_pos q, if_pos q, q0 y m h h' h1 (by omega) (12 + hl y) (by omega) (12 + hl y + 1 - 7).toNat k _ 7 (by omega) (by omega) (by omega) (by omega) (by omega) (by omega), a7, show 12 + hl y + 1 = 13 + hl y by omega]
   congr 1; omega
  ·rw [if_neg q, if_neg q, q2 y m h h' (m - 7).toNat k _ 7 (by omega) (by omega) (by omega) (by omega) (by omega) (by omega) (by omega), a7]
   congr 1; omega
 unfold trystref01_hebrew.f
 rw [fLeapH y (by omega) (by omega), Option.bind_some]
 rcases l01 with q | q
 ·rw [q] at key ⊢
  simpa using key
 ·rw [q] at key ⊢
  simpa using key
theorem fMonths3 (k : Nat) (y : Int) (h : -3 ≤ y) (h' : y ≤ 20005) : trystref01_Months.f k 3 y = some (12 + hl y) := by
 unfold trystref01_Months.f
 rw [if_neg (by omega), if_pos rfl, fLeapH y h h', Option.bind_some]
 rcases hl_01 y with q | q <;> rw [q] <;> simp
end Go.Proofs.YtgbbgcepcnklkaaGreatDoor.FunH
namespace Go.Proofs.YtgbbgcepcnklkaaGreatDoor.Q
open Go.RowKit Go.Proofs.YtgbbgcepcnklkaaGreatDoorW.PrintWords Go.Proofs.YtgbbgcepcnklkaaGreatDoorW.PrintLast Go.Proofs.YtgbbgcepcnklkaaGreatDoorW.PrintMore
attribute [local go_sem] max2_int min2_int max_two min_two
set_option linter.unusedVariables false
set_option linter.unusedSimpArgs false
/-! ### islam_Islamic: function 42 -/
def islam_Islamic.l0 : Nat → Int → Int → Int → Int → Option (Int × Int × Int × Int)
 | 0, _, _, _, _ => none
 | k + 1, x5, x175000, x175001, x175002 => (islam_length.f k x175000 x175001).bind fun t176 => (if x5 ≥ t176 then ((islam_length.f k x175000 x175001).bind fun t177 => (islam_Islamic.l0 k (wrap64 (x5 - t177)) x175000 (wrap64 (x175001 + 1)) x175002)) else (some (x175000, x175001, wrap64 (x5 + 1), 0)))
def islam_Islamic.f (k : Nat) (a0 : Int) : Option (Int × Int × Int × Int) := (rata_Of.f a0).bind fun t172 => (if t172 = true then ((rata_Floor.f (wrap64 ((wrap64 (30 * (wrap64 (a0 - 227015)))) + 10646)) 10631).bind fun t173 => ((islam_first.f t173).bind fun t175 => (islam_Islamic.l0 k (wrap64 (a0 - t175)) t173 1 0))) else (some (0, 0, 0, 2)))
set_option maxHeartbeats 8000000 in
set_option maxRecDepth 100000 in
theorem islam_Islamic.calls (k : Nat) (a0 : Int) (r1 : Int) (r2 : Int) (r3 : Int) (r4 : Int) (w : World) (h : islam_Islamic.f k a0 = some (r1, r2, r3, r4)) :
  Calls Tryz.prog 42 #[.int .i64 a0] w fun e w' => e = .returned (.tuple #[.agg #[.int .i64 r1, .int .i64 r2, .int .i64 r3], .int .i64 r4]) ∧ Below w.heap.size w w' := by
 have hu41 := Tryz.underlying41
 have HB := Aside0.mk (Below.refl w.heap.size w)
 have H : ((rata_Of.f a0).bind fun t172 => (if t172 = true then ((rata_Floor.f (wrap64 ((wrap64 (30 * (wrap64 (a0 - 227015)))) + 10646)) 10631).bind fun t173 => ((islam_first.f t173).bind fun t175 => (islam_Islamic.l0 k (wrap64 (a0 - t175)) t173 1 0))) else (some (0, 0, 0, 2)))) = some (r1, r2, r3, r4) := h
 clear h
 replace H := Option.bind_eq_some_iff.mp H
 obtain ⟨t172, A20, H⟩ := H
 replace H : (if t172 = true then ((rata_Floor.f (wrap64 ((wrap64 (30 * (wrap64 (a0 - 227015)))) + 10646)) 10631).bind fun t173 => ((islam_first.f t173).bind fun t175 => (islam_Islamic.l0 k (wrap64 (a0 - t175)) t173 1 0))) else (some (0, 0, 0, 2))) = some (r1, r2, r3, r4) := H
 have A2 := Aside0.mk A20
 clear A20
 by_cases c3 : t172 = true
 ·subst c3
  have H1 : ((rata_Floor.f (wrap64 ((wrap64 (30 * (wrap64 (a0 - 227015)))) + 10646)) 10631).bind fun t173 => ((islam_first.f t173).bind fun t175 => (islam_Islamic.l0 k (wrap64 (a0 - t175)) t173 1 0))) = some (r1, r2, r3, r4) := by rw [if_pos rfl] at H; exact H
  clear H
  have H := H1
  clear H1
  replace H := Option.bind_eq_some_iff.mp H
  obtain ⟨t173, A40, H⟩ := H
  replace H : ((islam_first.f t173).bind fun t175 => (islam_Islamic.l0 k (wrap64 (a0 - t175)) t173 1 0)) = some (r1, r2, r3, r4) := H
  have A4 := Aside0.mk A40
  clear A40
  replace H := Option.bind_eq_some_iff.mp H
  obtain ⟨t175, A50, H⟩ := H
  replace H : (islam_Islamic.l0 k (wrap64 (a0 - t175)) t173 1 0) = some (r1, r2, r3, r4) := H
  have A5 := Aside0.mk A50
  clear A50
  have H' := Aside0.mk H
  clear H
  go_enter Tryz.func42, Tryz.ntmps42
  go_wp2_with (first | ((with_reducible refine gate_dst (N := 2) rfl ?_); refine box_event ?hg (N := 2) ?hd (cs := #[.int .i64 0, .int .i64 0, .int .i64 0]) (t := 41) ?hr ?_; (case hd => rfl); (case hg => rfl); (case hr => first | (go_simp; done) | (go_simp; rfl)); intro gb171 hg w6 hbox hb; have n0_ := Aside0.mk (below_step (by repeat (first | (with_reducible first | exact HB.out | apply below_alloc | apply pw_below_drewN | apply below_drew1) | exact HB.out)) hb); have n1_ := Aside0.mk (hbox); have n2_ := Aside0.mk ((by rw [hg]; exact (below_size (by repeat (first | (with_reducible first | exact HB.out | apply below_alloc | apply pw_below_drewN | apply below_drew1) | exact HB.out))) : w.heap.size ≤ gb171)); have n3_ := Aside0.mk ((by rw [hg]; exact (below_size (by repeat (first | (with_reducible first | exact HB.out | apply below_alloc | apply pw_below_drewN | apply below_drew1) | exact HB.out))) : w.heap.size ≤ gb171)); clear HB; have HB := n0_; have BK171 := n1_; have GW171 := n2_; have GE171 := n3_; clear n0_ n1_ n2_ n3_; clear hb hbox hg) | ((with_reducible refine gate_callee (f := 60) rfl ?_); refine gm_ (some 7) Tryz.func60 #[.int .i64 a0] ?_; (with_reducible refine (rata_Of.calls a0 true _ A2.out).mono ?_); rintro e w' ⟨rfl, ⟨nd, rfl⟩⟩; refine ⟨_, rfl, ?_⟩; (try (rw [drewN_self w6]; generalize hq_ : World.drewN w6 _ = w6; have n0_ : Aside0 (w6.heap[gb171]? = some (.cells #[.int .i64 0, .int .i64 0, .int .i64 0] 41 (0, 0))) := ⟨by rw [← hq_]; exact (by (with_reducible repeat (first | refine blk_drewN ?_ _ | refine blk_drew ?_ | refine blk_alloc ?_ _)); exact BK171.out)⟩; have n1_ : Aside0 (Below w.heap.size w w6) := ⟨by rw [← hq_]; exact (by repeat (first | (with_reducible first | exact HB.out | apply below_alloc | apply pw_below_drewN | apply below_drew1 | refine below_set ?_ GE171.out) | exact HB.out))⟩; clear BK171 HB hq_; have BK171 := n0_; have HB := n1_; clear n0_ n1_)); (try (have hcz7_0 : w6.cell? ⟨gb171, 0, none⟩ = some (.int .i64 0) := (blk_cell BK171.out 0).trans rfl; have hcz7_1 : w6.cell? ⟨gb171, 1, none⟩ = some (.int .i64 0) := (blk_cell BK171.out 1).trans rfl; have hcz7_2 : w6.cell? ⟨gb171, 2, none⟩ = some (.int .i64 0) := (blk_cell BK171.out 2).trans rfl; have hfz7_0 := blk_frozen BK171.out 0; have hfz7_1 := blk_frozen BK171.out 1; have hfz7_2 := blk_frozen BK171.out 2))) | ((with_reducible refine gate_callee (f := 83) rfl ?_); refine gm_ (some 14) Tryz.func83 #[.int .i64 (wrap64 ((wrap64 (30 * (wrap64 (a0 - 227015)))) + 10646)), .int .i64 10631] ?_; (with_reducible refine (rata_Floor.calls (wrap64 ((wrap64 (30 * (wrap64 (a0 - 227015)))) + 10646)) 10631 t173 _ A4.out).mono ?_); rintro e w' ⟨rfl, ⟨nd, rfl⟩⟩; refine ⟨_, rfl, ?_⟩; (try (rw [drewN_self w6]; generalize hq_ : World.drewN w6 _ = w6; have n0_ : Aside0 (w6.heap[gb171]? = some (.cells #[.int .i64 0, .int .i64 0, .int .i64 0] 41 (0, 0))) := ⟨by rw [← hq_]; exact (by (with_reducible repeat (first | refine blk_drewN ?_ _ | refine blk_drew ?_ | refine blk_alloc ?_ _)); exact BK171.out)⟩; have n1_ : Aside0 (Below w.heap.size w w6) := ⟨by rw [← hq_]; exact (by repeat (first | (with_reducible first | exact HB.out | apply below_alloc | apply pw_below_drewN | apply below_drew1 | refine below_set ?_ GE171.out) | exact HB.out))⟩; clear BK171 HB hq_; have BK171 := n0_; have HB := n1_; clear n0_ n1_)); (try (have hcz8_0 : w6.cell? ⟨gb171, 0, none⟩ = some (.int .i64 0) := (blk_cell BK171.out 0).trans rfl; have hcz8_1 : w6.cell? ⟨gb171, 1, none⟩ = some (.int .i64 0) := (blk_cell BK171.out 1).trans rfl; have hcz8_2 : w6.cell? ⟨gb171, 2, none⟩ = some (.int .i64 0) := (blk_cell BK171.out 2).trans rfl; have hfz8_0 := blk_frozen BK171.out 0; have hfz8_1 := blk_frozen BK171.out 1; have hfz8_2 := blk_frozen BK171.out 2))) | ((with_reducible refine gate_dst (N := 4) rfl ?_); refine box_event ?hg (N := 4) ?hd (cs := #[.int .i64 0, .int .i64 0, .int .i64 0]) (t := 41) ?hr ?_; (case hd => rfl); (case hg => rfl); (case hr => first | (go_simp; done) | (go_simp; rfl)); intro gb174 hg w9 hbox hb; have n0_ := Aside0.mk (blk_below (g := gb171) (o := .cells #[.int .i64 0, .int .i64 0, .int .i64 0] 41 (0, 0)) (by (with_reducible repeat (first | refine blk_drewN ?_ _ | refine blk_drew ?_ | refine blk_alloc ?_ _)); exact BK171.out) hb); have n1_ := Aside0.mk (below_step (by repeat (first | (with_reducible first | exact HB.out | apply below_alloc | apply pw_below_drewN | apply below_drew1 | refine below_set ?_ GE171.out) | exact HB.out)) hb); have n2_ := Aside0.mk (hbox); have n3_ := Aside0.mk ((by rw [hg]; exact (below_size (by repeat (first | (with_reducible first | exact HB.out | apply below_alloc | apply pw_below_drewN | apply below_drew1 | refine below_set ?_ GE171.out) | exact HB.out))) : w.heap.size ≤ gb174)); have n4_ := Aside0.mk ((by rw [hg]; exact (below_size (by repeat (first | (with_reducible first | exact HB.out | apply below_alloc | apply pw_below_drewN | apply below_drew1 | refine below_set ?_ GE171.out) | exact HB.out))) : w.heap.size ≤ gb174)); have n5_ := Aside0.mk ((by rw [hg]; exact Nat.ne_of_lt (blk_lt (g := gb171) (o := .cells #[.int .i64 0, .int .i64 0, .int .i64 0] 41 (0, 0)) (by (with_reducible repeat (first | refine blk_drewN ?_ _ | refine blk_drew ?_ | refine blk_alloc ?_ _)); exact BK171.out)) : gb171 ≠ gb174)); have n6_ := Aside0.mk ((by rw [hg]; exact Nat.ne_of_gt (blk_lt (g := gb171) (o := .cells #[.int .i64 0, .int .i64 0, .int .i64 0] 41 (0, 0)) (by (with_reducible repeat (first | refine blk_drewN ?_ _ | refine blk_drew ?_ | refine blk_alloc ?_ _)); exact BK171.out)) : gb174 ≠ gb171)); clear BK171; clear HB; have BK171 := n0_; have HB := n1_; have BK174 := n2_; have GW174 := n3_; have GE174 := n4_; have NB171_174 := n5_; have NB174_171 := n6_; clear n0_ n1_ n2_ n3_ n4_ n5_ n6_; clear hb hbox hg; have hnb10 := NB174_171.out; have hnc10 := NB171_174.out; have hcz11_0 : w9.cell? ⟨gb174, 0, none⟩ = some (.int .i64 0) := (blk_cell BK174.out 0).trans rfl; have hcz11_1 : w9.cell? ⟨gb174, 1, none⟩ = some (.int .i64 0) := (blk_cell BK174.out 1).trans rfl; have hcz11_2 : w9.cell? ⟨gb174, 2, none⟩ = some (.int .i64 0) := (blk_cell BK174.out 2).trans rfl; have hfz11_0 := blk_frozen BK174.out 0; have hfz11_1 := blk_frozen BK174.out 1; have hfz11_2 := blk_frozen BK174.out 2) | ((with_reducible refine gate_callee (f := 65) rfl ?_); refine gm_ (some 19) Tryz.func65 #[.int .i64 t173] ?_; (with_reducible refine (islam_first.calls t173 t175 _ A5.out).mono ?_); rintro e w' ⟨rfl, ⟨nd, rfl⟩⟩; refine ⟨_, rfl, ?_⟩))
  go_loopg [5] k (fun kq v5 w' => ∃ (x5_1 : Int) (x175001_1 : Int), v5 = .int .i64 x5_1 ∧ Aside0 (islam_Islamic.l0 kq x5_1 t173 x175001_1 0 = some (r1, r2, r3, r4)) ∧ Aside0 (kq ≤ k) ∧ Aside0 (w'.heap[gb171]? = some (.cells #[.int .i64 0, .int .i64 0, .int .i64 0] 41 (0, 0))) ∧ Aside0 (w'.heap[gb174]? = some (.cells #[.int .i64 t173, .int .i64 x175001_1, .int .i64 0] 41 (0, 0))) ∧ Aside0 (Below w.heap.size w w'))
  case atStart => exact ⟨(wrap64 (a0 - t175)), (1), (by first | rfl | (simp; done) | (simp [*]; done)), H', ⟨Nat.le_refl _⟩, ⟨by (with_reducible repeat (first | refine blk_drewN ?_ _ | refine blk_drew ?_ | refine blk_alloc ?_ _)); refine blk_far ?_ NB171_174.out _; (with_reducible repeat (first | refine blk_drewN ?_ _ | refine blk_drew ?_ | refine blk_alloc ?_ _)); refine blk_far ?_ NB171_174.out _; (with_reducible repeat (first | refine blk_drewN ?_ _ | refine blk_drew ?_ | refine blk_alloc ?_ _)); refine blk_far ?_ NB171_174.out _; (with_reducible repeat (first | refine blk_drewN ?_ _ | refine blk_drew ?_ | refine blk_alloc ?_ _)); exact BK171.out⟩, ⟨by (with_reducible repeat (first | refine blk_drewN ?_ _ | refine blk_drew ?_ | refine blk_alloc ?_ _)); refine blk_put (cs := #[.int .i64 t173, .int .i64 1, .int .i64 0]) ?_ 2 _ rfl; (with_reducible repeat (first | refine blk_drewN ?_ _ | refine blk_drew ?_ | refine blk_alloc ?_ _)); refine blk_put (cs := #[.int .i64 t173, .int .i64 0, .int .i64 0]) ?_ 1 _ rfl; (with_reducible repeat (first | refine blk_drewN ?_ _ | refine blk_drew ?_ | refine blk_alloc ?_ _)); refine blk_put (cs := #[.int .i64 0, .int .i64 0, .int .i64 0]) ?_ 0 _ rfl; (with_reducible repeat (first | refine blk_drewN ?_ _ | refine blk_drew ?_ | refine blk_alloc ?_ _)); exact BK174.out⟩, ⟨by repeat (first | (with_reducible first | exact HB.out | apply below_alloc | apply pw_below_drewN | apply below_drew1 | refine below_set ?_ GE171.out | refine below_set ?_ GE174.out) | exact HB.out)⟩⟩
  case round =>
   clear H'
   try clear c1
   try clear p2
   try clear c3
   try clear c4
   try clear c6
   try clear p6
   try clear c8
   try clear c10
   try clear hcz11_0
   try clear hcz11_1
   try clear hcz11_2
   try clear hcz7_0
   try clear hcz7_1
   try clear hcz7_2
   try clear hcz8_0
   try clear hcz8_1
   try clear hcz8_2
   try clear hfz11_0
   try clear hfz11_1
   try clear hfz11_2
   try clear hfz7_0
   try clear hfz7_1
   try clear hfz7_2
   try clear hfz8_0
   try clear hfz8_1
   try clear hfz8_2
   obtain ⟨x5_1, x175001_1, rfl, HA, HK1, BK171, BK174, HB⟩ := hrel
   cases gk with
   | zero => exact absurd HA.out (by simp [islam_Islamic.l0])
   | succ k1 =>
    have H := HA.out
    clear HA
    simp only [islam_Islamic.l0] at H
    replace H := Option.bind_eq_some_iff.mp H
    obtain ⟨t176, A120, H⟩ := H
    replace H : (if x5_1 ≥ t176 then ((islam_length.f k1 t173 x175001_1).bind fun t177 => (islam_Islamic.l0 k1 (wrap64 (x5_1 - t177)) t173 (wrap64 (x175001_1 + 1)) 0)) else (some (t173, x175001_1, wrap64 (x5_1 + 1), 0))) = some (r1, r2, r3, r4) := H
    have A12 := Aside0.mk A120
    clear A120
    by_cases c13 : x5_1 ≥ t176
    ·rw [if_pos c13] at H
     have c13b0 : decide (t176 ≤ x5_1) = true := decide_eq_true c13
     clear c13
     replace H := Option.bind_eq_some_iff.mp H
     obtain ⟨t177, A140, H⟩ := H
     have A14d := Option.some.inj (A12.out.symm.trans A140)
     clear A140
     subst A14d
     replace H : (islam_Islamic.l0 k1 (wrap64 (x5_1 - t176)) t173 (wrap64 (x175001_1 + 1)) 0) = some (r1, r2, r3, r4) := H
     have H' := Aside0.mk H
     clear H
     have hnb15 := NB174_171.out
     have hnc15 := NB171_174.out
     have hcz16_0 : wr.cell? ⟨gb174, 0, none⟩ = some (.int .i64 t173) := (blk_cell BK174.out 0).trans rfl
     have hcz16_1 : wr.cell? ⟨gb174, 1, none⟩ = some (.int .i64 x175001_1) := (blk_cell BK174.out 1).trans rfl
     have hcz16_2 : wr.cell? ⟨gb174, 2, none⟩ = some (.int .i64 0) := (blk_cell BK174.out 2).trans rfl
     have hfz16_0 := blk_frozen BK174.out 0
     have hfz16_1 := blk_frozen BK174.out 1
     have hfz16_2 := blk_frozen BK174.out 2
     go_wp2_with (first | ((with_reducible refine gate_callee (f := 64) rfl ?_); refine gm_ (some 26) Tryz.func64 #[.int .i64 t173, .int .i64 x175001_1] ?_; (with_reducible refine (islam_length.calls k1 t173 x175001_1 t176 _ A12.out).mono ?_); rintro e w' ⟨rfl, ⟨nd, rfl⟩⟩; refine ⟨_, rfl, ?_⟩; (try (rw [drewN_self wr]; generalize hq_ : World.drewN wr _ = wr; have n0_ : Aside0 (wr.heap[gb171]? = some (.cells #[.int .i64 0, .int .i64 0, .int .i64 0] 41 (0, 0))) := ⟨by rw [← hq_]; exact (by (with_reducible repeat (first | refine blk_drewN ?_ _ | refine blk_drew ?_ | refine blk_alloc ?_ _)); exact BK171.out)⟩; have n1_ : Aside0 (wr.heap[gb174]? = some (.cells #[.int .i64 t173, .int .i64 x175001_1, .int .i64 0] 41 (0, 0))) := ⟨by rw [← hq_]; exact (by (with_reducible repeat (first | refine blk_drewN ?_ _ | refine blk_drew ?_ | refine blk_alloc ?_ _)); exact BK174.out)⟩; have n2_ : Aside0 (Below w.heap.size w wr) := ⟨by rw [← hq_]; exact (by repeat (first | (with_reducible first | exact HB.out | apply below_alloc | apply pw_below_drewN | apply below_drew1 | refine below_set ?_ GE171.out | refine below_set ?_ GE174.out) | exact HB.out))⟩; clear BK171 BK174 HB hq_; have BK171 := n0_; have BK174 := n1_; have HB := n2_; clear n0_ n1_ n2_)); (try (have hcz17_0 : wr.cell? ⟨gb171, 0, none⟩ = some (.int .i64 0) := (blk_cell BK171.out 0).trans rfl; have hcz17_1 : wr.cell? ⟨gb171, 1, none⟩ = some (.int .i64 0) := (blk_cell BK171.out 1).trans rfl; have hcz17_2 : wr.cell? ⟨gb171, 2, none⟩ = some (.int .i64 0) := (blk_cell BK171.out 2).trans rfl; have hfz17_0 := blk_frozen BK171.out 0; have hfz17_1 := blk_frozen BK171.out 1; have hfz17_2 := blk_frozen BK171.out 2; have hcz18_0 : wr.cell? ⟨gb174, 0, none⟩ = some (.int .i64 t173) := (blk_cell BK174.out 0).trans rfl; have hcz18_1 : wr.cell? ⟨gb174, 1, none⟩ = some (.int .i64 x175001_1) := (blk_cell BK174.out 1).trans rfl; have hcz18_2 : wr.cell? ⟨gb174, 2, none⟩ = some (.int .i64 0) := (blk_cell BK174.out 2).trans rfl; have hfz18_0 := blk_frozen BK174.out 0; have hfz18_1 := blk_frozen BK174.out 1; have hfz18_2 := blk_frozen BK174.out 2))) | ((with_reducible refine gate_callee (f := 64) rfl ?_); refine gm_ (some 33) Tryz.func64 #[.int .i64 t173, .int .i64 x175001_1] ?_; (with_reducible refine (islam_length.calls k1 t173 x175001_1 t176 _ A12.out).mono ?_); rintro e w' ⟨rfl, ⟨nd, rfl⟩⟩; refine ⟨_, rfl, ?_⟩; (try (rw [drewN_self wr]; generalize hq_ : World.drewN wr _ = wr; have n0_ : Aside0 (wr.heap[gb171]? = some (.cells #[.int .i64 0, .int .i64 0, .int .i64 0] 41 (0, 0))) := ⟨by rw [← hq_]; exact (by (with_reducible repeat (first | refine blk_drewN ?_ _ | refine blk_drew ?_ | refine blk_alloc ?_ _)); exact BK171.out)⟩; have n1_ : Aside0 (wr.heap[gb174]? = some (.cells #[.int .i64 t173, .int .i64 x175001_1, .int .i64 0] 41 (0, 0))) := ⟨by rw [← hq_]; exact (by (with_reducible repeat (first | refine blk_drewN ?_ _ | refine blk_drew ?_ | refine blk_alloc ?_ _)); exact BK174.out)⟩; have n2_ : Aside0 (Below w.heap.size w wr) := ⟨by rw [← hq_]; exact (by repeat (first | (with_reducible first | exact HB.out | apply below_alloc | apply pw_below_drewN | apply below_drew1 | refine below_set ?_ GE171.out | refine below_set ?_ GE174.out) | exact HB.out))⟩; clear BK171 BK174 HB hq_; have BK171 := n0_; have BK174 := n1_; have HB := n2_; clear n0_ n1_ n2_)); (try (have hcz19_0 : wr.cell? ⟨gb171, 0, none⟩ = some (.int .i64 0) := (blk_cell BK171.out 0).trans rfl; have hcz19_1 : wr.cell? ⟨gb171, 1, none⟩ = some (.int .i64 0) := (blk_cell BK171.out 1).trans rfl; have hcz19_2 : wr.cell? ⟨gb171, 2, none⟩ = some (.int .i64 0) := (blk_cell BK171.out 2).trans rfl; have hfz19_0 := blk_frozen BK171.out 0; have hfz19_1 := blk_frozen BK171.out 1; have hfz19_2 := blk_frozen BK171.out 2; have hcz20_0 : wr.cell? ⟨gb174, 0, none⟩ = some (.int .i64 t173) := (blk_cell BK174.out 0).trans rfl; have hcz20_1 : wr.cell? ⟨gb174, 1, none⟩ = some (.int .i64 x175001_1) := (blk_cell BK174.out 1).trans rfl; have hcz20_2 : wr.cell? ⟨gb174, 2, none⟩ = some (.int .i64 0) := (blk_cell BK174.out 2).trans rfl; have hfz20_0 := blk_frozen BK174.out 0; have hfz20_1 := blk_frozen BK174.out 1; have hfz20_2 := blk_frozen BK174.out 2))))
     go_roundg k1
     case measure => have := HK1.out; omega
     case rel => exact ⟨(wrap64 (x5_1 - t176)), (wrap64 (x175001_1 + 1)), (by first | rfl | (simp; done) | (simp [*]; done)), H', ⟨by have := HK1.out; omega⟩, ⟨by (with_reducible repeat (first | refine blk_drewN ?_ _ | refine blk_drew ?_ | refine blk_alloc ?_ _)); refine blk_far ?_ NB171_174.out _; (with_reducible repeat (first | refine blk_drewN ?_ _ | refine blk_drew ?_ | refine blk_alloc ?_ _)); exact BK171.out⟩, ⟨by (with_reducible repeat (first | refine blk_drewN ?_ _ | refine blk_drew ?_ | refine blk_alloc ?_ _)); refine blk_put (cs := #[.int .i64 t173, .int .i64 x175001_1, .int .i64 0]) ?_ 1 _ rfl; (with_reducible repeat (first | refine blk_drewN ?_ _ | refine blk_drew ?_ | refine blk_alloc ?_ _)); exact BK174.out⟩, ⟨by repeat (first | (with_reducible first | exact HB.out | apply below_alloc | apply pw_below_drewN | apply below_drew1 | refine below_set ?_ GE171.out | refine below_set ?_ GE174.out) | exact HB.out)⟩⟩
    ·rw [if_neg c13] at H
     have c13b0 : decide (t176 ≤ x5_1) = false := decide_eq_false c13
     clear c13
     simp only [Option.some.injEq, Prod.mk.injEq] at H
     obtain ⟨rfl, rfl, rfl, rfl⟩ := H
     have hnb21 := NB174_171.out
     have hnc21 := NB171_174.out
     have hcz22_0 : wr.cell? ⟨gb174, 0, none⟩ = some (.int .i64 t173) := (blk_cell BK174.out 0).trans rfl
     have hcz22_1 : wr.cell? ⟨gb174, 1, none⟩ = some (.int .i64 x175001_1) := (blk_cell BK174.out 1).trans rfl
     have hcz22_2 : wr.cell? ⟨gb174, 2, none⟩ = some (.int .i64 0) := (blk_cell BK174.out 2).trans rfl
     have hfz22_0 := blk_frozen BK174.out 0
     have hfz22_1 := blk_frozen BK174.out 1
     have hfz22_2 := blk_frozen BK174.out 2
     go_wp2_with (first | ((with_reducible refine gate_callee (f := 64) rfl ?_); refine gm_ (some 26) Tryz.func64 #[.int .i64 t173, .int .i64 x175001_1] ?_; (with_reducible refine (islam_length.calls k1 t173 x175001_1 t176 _ A12.out).mono ?_); rintro e w' ⟨rfl, ⟨nd, rfl⟩⟩; refine ⟨_, rfl, ?_⟩; (try (rw [drewN_self wr]; generalize hq_ : World.drewN wr _ = wr; have n0_ : Aside0 (wr.heap[gb171]? = some (.cells #[.int .i64 0, .int .i64 0, .int .i64 0] 41 (0, 0))) := ⟨by rw [← hq_]; exact (by (with_reducible repeat (first | refine blk_drewN ?_ _ | refine blk_drew ?_ | refine blk_alloc ?_ _)); exact BK171.out)⟩; have n1_ : Aside0 (wr.heap[gb174]? = some (.cells #[.int .i64 t173, .int .i64 x175001_1, .int .i64 0] 41 (0, 0))) := ⟨by rw [← hq_]; exact (by (with_reducible repeat (first | refine blk_drewN ?_ _ | refine blk_drew ?_ | refine blk_alloc ?_ _)); exact BK174.out)⟩; have n2_ : Aside0 (Below w.heap.size w wr) := ⟨by rw [← hq_]; exact (by repeat (first | (with_reducible first | exact HB.out | apply below_alloc | apply pw_below_drewN | apply below_drew1 | refine below_set ?_ GE171.out | refine below_set ?_ GE174.out) | exact HB.out))⟩; clear BK171 BK174 HB hq_; have BK171 := n0_; have BK174 := n1_; have HB := n2_; clear n0_ n1_ n2_)); (try (have hcz23_0 : wr.cell? ⟨gb171, 0, none⟩ = some (.int .i64 0) := (blk_cell BK171.out 0).trans rfl; have hcz23_1 : wr.cell? ⟨gb171, 1, none⟩ = some (.int .i64 0) := (blk_cell BK171.out 1).trans rfl; have hcz23_2 : wr.cell? ⟨gb171, 2, none⟩ = some (.int .i64 0) := (blk_cell BK171.out 2).trans rfl; have hfz23_0 := blk_frozen BK171.out 0; have hfz23_1 := blk_frozen BK171.out 1; have hfz23_2 := blk_frozen BK171.out 2; have hcz24_0 : wr.cell? ⟨gb174, 0, none⟩ = some (.int .i64 t173) := (blk_cell BK174.out 0).trans rfl; have hcz24_1 : wr.cell? ⟨gb174, 1, none⟩ = some (.int .i64 x175001_1) := (blk_cell BK174.out 1).trans rfl; have hcz24_2 : wr.cell? ⟨gb174, 2, none⟩ = some (.int .i64 0) := (blk_cell BK174.out 2).trans rfl; have hfz24_0 := blk_frozen BK174.out 0; have hfz24_1 := blk_frozen BK174.out 1; have hfz24_2 := blk_frozen BK174.out 2)); have hcz25_0 : wr.cell? ⟨gb171, 0, none⟩ = some (.int .i64 0) := (blk_cell BK171.out 0).trans rfl; have hcz25_1 : wr.cell? ⟨gb171, 1, none⟩ = some (.int .i64 0) := (blk_cell BK171.out 1).trans rfl; have hcz25_2 : wr.cell? ⟨gb171, 2, none⟩ = some (.int .i64 0) := (blk_cell BK171.out 2).trans rfl; have hfz25_0 := blk_frozen BK171.out 0; have hfz25_1 := blk_frozen BK171.out 1; have hfz25_2 := blk_frozen BK171.out 2))
     refine bodyPost_ret (results_ct rfl _ _ gb171 41 #[.int .i64 t173, .int .i64 x175001_1, .int .i64 (wrap64 (x5_1 + 1))] (0, 0) _ rfl (by (with_reducible repeat (first | refine blk_drewN ?_ _ | refine blk_drew ?_ | refine blk_alloc ?_ _)); refine blk_put (cs := #[.int .i64 t173, .int .i64 x175001_1, .int .i64 0]) ?_ 2 _ rfl; (with_reducible repeat (first | refine blk_drewN ?_ _ | refine blk_drew ?_ | refine blk_alloc ?_ _)); refine blk_put (cs := #[.int .i64 t173, .int .i64 0, .int .i64 0]) ?_ 1 _ rfl; (with_reducible repeat (first | refine blk_drewN ?_ _ | refine blk_drew ?_ | refine blk_alloc ?_ _)); refine blk_put (cs := #[.int .i64 0, .int .i64 0, .int .i64 0]) ?_ 0 _ rfl; (with_reducible repeat (first | refine blk_drewN ?_ _ | refine blk_drew ?_ | refine blk_alloc ?_ _)); refine blk_far ?_ NB171_174.out _; (with_reducible repeat (first | refine blk_drewN ?_ _ | refine blk_drew ?_ | refine blk_alloc ?_ _)); exact BK171.out) Tryz.underlying41 rfl (by kernel_rfl)) rfl ?_
     exact ⟨by first | rfl | (simp [*, errW_none, errW_some] <;> rfl), by repeat (first | (with_reducible first | exact HB.out | apply below_alloc | apply pw_below_drewN | apply below_drew1 | refine below_set ?_ GE171.out | refine below_set ?_ GE174.out) | exact HB.out)⟩
 ·replace c3 := Bool.eq_false_iff.mpr c3
  subst c3
  have H1 : (some (0, 0, 0, 2)) = some (r1, r2, r3, r4) := by rw [if_neg (show ¬ (false = true) by decide)] at H; exact H
  clear H
  have H := H1
  clear H1
  simp only [Option.some.injEq, Prod.mk.injEq] at H
  obtain ⟨rfl, rfl, rfl, rfl⟩ := H
  go_enter Tryz.func42, Tryz.ntmps42
  go_wp2_with (first | ((with_reducible refine gate_dst (N := 2) rfl ?_); refine box_event ?hg (N := 2) ?hd (cs := #[.int .i64 0, .int .i64 0, .int .i64 0]) (t := 41) ?hr ?_; (case hd => rfl); (case hg => rfl); (case hr => first | (go_simp; done) | (go_simp; rfl)); intro gb171 hg w26 hbox hb; have n0_ := Aside0.mk (below_step (by repeat (first | (with_reducible first | exact HB.out | apply below_alloc | apply pw_below_drewN | apply below_drew1) | exact HB.out)) hb); have n1_ := Aside0.mk (hbox); have n2_ := Aside0.mk ((by rw [hg]; exact (below_size (by repeat (first | (with_reducible first | exact HB.out | apply below_alloc | apply pw_below_drewN | apply below_drew1) | exact HB.out))) : w.heap.size ≤ gb171)); have n3_ := Aside0.mk ((by rw [hg]; exact (below_size (by repeat (first | (with_reducible first | exact HB.out | apply below_alloc | apply pw_below_drewN | apply below_drew1) | exact HB.out))) : w.heap.size ≤ gb171)); clear HB; have HB := n0_; have BK171 := n1_; have GW171 := n2_; have GE171 := n3_; clear n0_ n1_ n2_ n3_; clear hb hbox hg) | ((with_reducible refine gate_callee (f := 60) rfl ?_); refine gm_ (some 7) Tryz.func60 #[.int .i64 a0] ?_; (with_reducible refine (rata_Of.calls a0 false _ A2.out).mono ?_); rintro e w' ⟨rfl, ⟨nd, rfl⟩⟩; refine ⟨_, rfl, ?_⟩; (try (rw [drewN_self w26]; generalize hq_ : World.drewN w26 _ = w26; have n0_ : Aside0 (w26.heap[gb171]? = some (.cells #[.int .i64 0, .int .i64 0, .int .i64 0] 41 (0, 0))) := ⟨by rw [← hq_]; exact (by (with_reducible repeat (first | refine blk_drewN ?_ _ | refine blk_drew ?_ | refine blk_alloc ?_ _)); exact BK171.out)⟩; have n1_ : Aside0 (Below w.heap.size w w26) := ⟨by rw [← hq_]; exact (by repeat (first | (with_reducible first | exact HB.out | apply below_alloc | apply pw_below_drewN | apply below_drew1 | refine below_set ?_ GE171.out) | exact HB.out))⟩; clear BK171 HB hq_; have BK171 := n0_; have HB := n1_; clear n0_ n1_)); (try (have hcz27_0 : w26.cell? ⟨gb171, 0, none⟩ = some (.int .i64 0) := (blk_cell BK171.out 0).trans rfl; have hcz27_1 : w26.cell? ⟨gb171, 1, none⟩ = some (.int .i64 0) := (blk_cell BK171.out 1).trans rfl; have hcz27_2 : w26.cell? ⟨gb171, 2, none⟩ = some (.int .i64 0) := (blk_cell BK171.out 2).trans rfl; have hfz27_0 := blk_frozen BK171.out 0; have hfz27_1 := blk_frozen BK171.out 1; have hfz27_2 := blk_frozen BK171.out 2)); have hcz28_0 : w26.cell? ⟨gb171, 0, none⟩ = some (.int .i64 0) := (blk_cell BK171.out 0).trans rfl; have hcz28_1 : w26.cell? ⟨gb171, 1, none⟩ = some (.int .i64 0) := (blk_cell BK171.out 1).trans rfl; have hcz28_2 : w26.cell? ⟨gb171, 2, none⟩ = some (.int .i64 0) := (blk_cell BK171.out 2).trans rfl; have hfz28_0 := blk_frozen BK171.out 0; have hfz28_1 := blk_frozen BK171.out 1; have hfz28_2 := blk_frozen BK171.out 2))
  refine bodyPost_ret (results_ct rfl _ _ gb171 41 #[.int .i64 0, .int .i64 0, .int .i64 0] (0, 0) _ rfl (by (with_reducible repeat (first | refine blk_drewN ?_ _ | refine blk_drew ?_ | refine blk_alloc ?_ _)); refine blk_put (cs := #[.int .i64 0, .int .i64 0, .int .i64 0]) ?_ 2 _ rfl; (with_reducible repeat (first | refine blk_drewN ?_ _ | refine blk_drew ?_ | refine blk_alloc ?_ _)); refine blk_put (cs := #[.int .i64 0, .int .i64 0, .int .i64 0]) ?_ 1 _ rfl; (with_reducible repeat (first | refine blk_drewN ?_ _ | refine blk_drew ?_ | refine blk_alloc ?_ _)); refine blk_put (cs := #[.int .i64 0, .int .i64 0, .int .i64 0]) ?_ 0 _ rfl; (with_reducible repeat (first | refine blk_drewN ?_ _ | refine blk_drew ?_ | refine blk_alloc ?_ _)); exact BK171.out) Tryz.underlying41 rfl (by kernel_rfl)) rfl ?_
  exact ⟨by first | rfl | (simp [*, errW_none, errW_some] <;> rfl), by repeat (first | (with_reducible first | exact HB.out | apply below_alloc | apply pw_below_drewN | apply below_drew1 | refine below_set ?_ GE171.out) | exact HB.out)⟩

end Go.Proofs.YtgbbgcepcnklkaaGreatDoor.Q
