/- Texts of this claim, merged: FunH, FunY, Qshowis. -/
import Derived.Test.YtgbbgcepcnklkaaDoorMgShowDays9
import Derived.Test.YtgbbgcepcnklkaaDoorMgShowDays11
import Derived.Test.YtgbbgcepcnklkaaDoorMgShowDays12
import Derived.Test.YtgbbgcepcnklkaaDoorMgShowDays3
import Derived.Test.YtgbbgcepcnklkaaDoorMgShowDays5
import Derived.Test.YtgbbgcepcnklkaaDoorMgShowDays6
import Derived.Test.YtgbbgcepcnklkaaDoorMgShowDays8
import Derived.Test.YtgbbgcepcnklkaaDoorMgShowDays1
/- The Hebrew calendar: what the package hebrew and the reference reckon, in plain numbers. -/
namespace Go.Proofs.YtgbbgcepcnklkaaDoor.FunH
open Go.RowKit Go.Proofs.YtgbbgcepcnklkaaDoorW.PrintWords Go.Proofs.YtgbbgcepcnklkaaDoorW.PrintLast Go.Proofs.YtgbbgcepcnklkaaDoor.Q Go.Proofs.YtgbbgcepcnklkaaDoor.Cal Go.Proofs.YtgbbgcepcnklkaaDoor.FunA Go.Proofs.YtgbbgcepcnklkaaDoor.FunB Go.Proofs.YtgbbgcepcnklkaaDoor.FunJ Go.Proofs.YtgbbgcepcnklkaaDoor.FunM
open Go.Proofs.YtgbbgcepcnklkaaDoor.CalH (hm h0 he hb hl hl_01 hd hx hx_bd ha ha_succ hz hz_succ hc hn)
theorem h0_bd (y : Int) (h : -5 ≤ y) (h' : y ≤ 20010) : -3000 ≤ h0 y ∧ h0 y ≤ 8000000 := by unfold h0 hm; omega
theorem he_bd (y : Int) (h : -5 ≤ y) (h' : y ≤ 20010) : -3000 ≤ he y ∧ he y ≤ 8000001 := by
  have := h0_bd y h h'
  unfold he; split <;> omega
theorem pElapsed (y : Int) (h : -5 ≤ y) (h' : y ≤ 20010) : hebrew_elapsed.f y = some (he y) := by
  have hb0 := h0_bd y h h'
  unfold hebrew_elapsed.f he
  rw [w64 (x := 235 * y) (by omega) (by omega), w64 (x := 235 * y - 234) (by omega) (by omega), rFloor _ 19 (by omega) ⟨by omega, by omega⟩, Option.bind_some]
  have hmm : -100 ≤ hm y ∧ hm y ≤ 300000 := by unfold hm; omega
  have e : (235 * y - 234) / 19 = hm y := rfl
  rw [e, w64 (x := 13753 * hm y) (by omega) (by omega), w64 (x := 12084 + 13753 * hm y) (by omega) (by omega), rFloor _ 25920 (by omega) ⟨by omega, by omega⟩, Option.bind_some]
  have q : -100 ≤ (12084 + 13753 * hm y) / 25920 ∧ (12084 + 13753 * hm y) / 25920 ≤ 200000 := by omega
  have e2 : wrap64 (wrap64 (29 * hm y) + (12084 + 13753 * hm y) / 25920) = h0 y := by
    rw [w64 (x := 29 * hm y) (by omega) (by omega), w64 (by omega) (by omega)]; rfl
  rw [e2, w64 (x := h0 y + 1) (by omega) (by omega), w64 (x := 3 * (h0 y + 1)) (by omega) (by omega), rMod _ 7 (by omega) (by omega) ⟨by omega, by omega⟩, Option.bind_some]
  split <;> rfl
theorem fElapsed (y : Int) (h : -5 ≤ y) (h' : y ≤ 20010) : trystref01_elapsed.f y = some (he y) := by
  have hb0 := h0_bd y h h'
  unfold trystref01_elapsed.f he
  rw [w64 (x := 235 * y) (by omega) (by omega), w64 (x := 235 * y - 234) (by omega) (by omega), fFloor _ 19 (by omega) (by omega) ⟨by omega, by omega⟩, Option.bind_some]
  have hmm : -100 ≤ hm y ∧ hm y ≤ 300000 := by unfold hm; omega
  have e : (235 * y - 234) / 19 = hm y := rfl
  rw [e, w64 (x := 13753 * hm y) (by omega) (by omega), w64 (x := 12084 + 13753 * hm y) (by omega) (by omega), fFloor _ 25920 (by omega) (by omega) ⟨by omega, by omega⟩, Option.bind_some]
  have q : -100 ≤ (12084 + 13753 * hm y) / 25920 ∧ (12084 + 13753 * hm y) / 25920 ≤ 200000 := by omega
  have e2 : wrap64 (wrap64 (29 * hm y) + (12084 + 13753 * hm y) / 25920) = h0 y := by
    rw [w64 (x := 29 * hm y) (by omega) (by omega), w64 (by omega) (by omega)]; rfl
  rw [e2, w64 (x := h0 y + 1) (by omega) (by omega), w64 (x := 3 * (h0 y + 1)) (by omega) (by omega), fMod _ 7 (by omega) (by omega) ⟨by omega, by omega⟩, Option.bind_some]
  split <;> rfl
def dl (y : Int) : Int := if he (y + 1) - he y = 356 then 2 else if he y - he (y - 1) = 382 then 1 else 0
theorem hb_dl (y : Int) : hb y = he y + dl y - 1373428 := by
  unfold hb dl
  repeat' split
  all_goals omega
theorem hb_bd (y : Int) (h : -3 ≤ y) (h' : y ≤ 20005) : -1380000 ≤ hb y ∧ hb y ≤ 8000000 := by
  have := he_bd y (by omega) (by omega)
  rw [hb_dl]; unfold dl
  repeat' split
  all_goals omega
theorem pBegins (y : Int) (h : -3 ≤ y) (h' : y ≤ 20005) : hebrew_begins.f y = some (hb y + 1) := by
  have h1 := he_bd y (by omega) (by omega)
  have h2 := he_bd (y + 1) (by omega) (by omega)
  have h3 := he_bd (y - 1) (by omega) (by omega)
  have hD : hebrew_delay.f y = some (dl y) := by
    unfold hebrew_delay.f dl
    rw [pElapsed y (by omega) (by omega), Option.bind_some, w64 (x := y + 1) (by omega) (by omega), pElapsed (y + 1) (by omega) (by omega), Option.bind_some, w64 (x := he (y + 1) - he y) (by omega) (by omega)]
    by_cases c : he (y + 1) - he y = 356
    · rw [if_pos c, if_pos c]
    · rw [if_neg c, if_neg c, w64 (x := y - 1) (by omega) (by omega), pElapsed (y - 1) (by omega) (by omega), Option.bind_some, w64 (x := he y - he (y - 1)) (by omega) (by omega)]
      split <;> rfl
  have hb1 : 0 ≤ dl y ∧ dl y ≤ 2 := by unfold dl; repeat' split <;> omega
  unfold hebrew_begins.f
  rw [pElapsed y (by omega) (by omega), Option.bind_some, hD, Option.bind_some, hb_dl, w64 (x := -1373427 + he y) (by omega) (by omega), w64 (by omega) (by omega)]
  congr 1; omega
theorem fNew (y : Int) (h : -3 ≤ y) (h' : y ≤ 20005) : trystref01_newYear.f y = some (hb y + 1) := by
  have h1 := he_bd y (by omega) (by omega)
  have h2 := he_bd (y + 1) (by omega) (by omega)
  have h3 := he_bd (y - 1) (by omega) (by omega)
  unfold trystref01_newYear.f
  rw [w64 (x := y - 1) (by omega) (by omega), fElapsed (y - 1) (by omega) (by omega), Option.bind_some, fElapsed y (by omega) (by omega), Option.bind_some, w64 (x := y + 1) (by omega) (by omega), fElapsed (y + 1) (by omega) (by omega), Option.bind_some, w64 (x := he (y + 1) - he y) (by omega) (by omega), w64 (x := he y - he (y - 1)) (by omega) (by omega), hb_dl]
  unfold dl
  by_cases c : he (y + 1) - he y = 356
  · rw [if_pos c, if_pos c, w64 (x := he y + 2) (by omega) (by omega), w64 (by omega) (by omega)]
    congr 1; omega
  · rw [if_neg c, if_neg c]
    by_cases e : he y - he (y - 1) = 382
    · rw [if_pos e, if_pos e, w64 (x := he y + 1) (by omega) (by omega), w64 (by omega) (by omega)]
      congr 1; omega
    · rw [if_neg e, if_neg e, w64 (by omega) (by omega)]
      congr 1; omega
theorem pLeap (y : Int) (h : -3 ≤ y) (h' : y ≤ 20005) : hebrew_leap.f y = some (decide (hl y = 1)) := by
  unfold hebrew_leap.f hl
  rw [w64 (x := 7 * y) (by omega) (by omega), w64 (x := 7 * y + 1) (by omega) (by omega), rMod _ 19 (by omega) (by omega) ⟨by omega, by omega⟩, Option.bind_some]
  by_cases c : (7 * y + 1) % 19 < 7
  · simp [c]
  · simp [c]
theorem fLeapH (y : Int) (h : -3 ≤ y) (h' : y ≤ 20005) : trystref01_hebrewLeap.f y = some (decide (hl y = 1)) := by
  unfold trystref01_hebrewLeap.f hl
  rw [w64 (x := 7 * y) (by omega) (by omega), w64 (x := 7 * y + 1) (by omega) (by omega), fMod _ 19 (by omega) (by omega) ⟨by omega, by omega⟩, Option.bind_some]
  by_cases c : (7 * y + 1) % 19 < 7
  · simp [c]
  · simp [c]
theorem pLast (y : Int) (h : -3 ≤ y) (h' : y ≤ 20005) : hebrew_last.f y = some (12 + hl y) := by
  unfold hebrew_last.f
  rw [pLeap y h h', Option.bind_some]
  rcases hl_01 y with q | q <;> rw [q] <;> simp
theorem pDays (y : Int) (h : -3 ≤ y) (h' : y ≤ 20004) : hebrew_days.f y = some (hd y) := by
  have h1 := hb_bd y (by omega) (by omega)
  have h2 := hb_bd (y + 1) (by omega) (by omega)
  unfold hebrew_days.f hd
  rw [w64 (x := y + 1) (by omega) (by omega), pBegins (y + 1) (by omega) (by omega), Option.bind_some, pBegins y (by omega) (by omega), Option.bind_some, w64 (by omega) (by omega)]
  congr 1; omega
theorem pMonth (k : Nat) (y m : Int) (h : 1 ≤ y) (h' : y ≤ 20000) (h1 : 1 ≤ m) (h2 : m ≤ 13) : hebrew_Length.j0 (k + 2) y m false = some (hx (hl y) (hd y) m) := by
  simp only [hebrew_Length.j0]
  rw [if_neg (by simp), pDays y (by omega) (by omega), Option.bind_some]
  have hL := pLeap y (by omega) (by omega)
  generalize hd y = n
  rcases (by omega : m = 1 ∨ m = 2 ∨ m = 3 ∨ m = 4 ∨ m = 5 ∨ m = 6 ∨ m = 7 ∨ m = 8 ∨ m = 9 ∨ m = 10 ∨ m = 11 ∨ m = 12 ∨ m = 13) with e | e | e | e | e | e | e | e | e | e | e | e | e <;> subst e <;> simp [hebrew_Length.j1, hx]
  · by_cases a : n = 355
    · simp [a]
    · by_cases b : n = 385
      · simp [b]
      · simp [a, b]
  · by_cases a : n = 353
    · simp [a]
    · by_cases b : n = 383
      · simp [b]
      · simp [a, b]
  · rw [hL, Option.bind_some]
    rcases hl_01 y with q | q <;> rw [q] <;> simp
theorem fMonth (y m : Int) (h : 1 ≤ y) (h' : y ≤ 20000) (h1 : 1 ≤ m) (h2 : m ≤ 13) : trystref01_hebrewMonth.f y m = some (hx (hl y) (hd y) m) := by
  have b1 := hb_bd y (by omega) (by omega)
  have b2 := hb_bd (y + 1) (by omega) (by omega)
  have hL := fLeapH y (by omega) (by omega)
  have e : wrap64 (hb (y + 1) + 1 - (hb y + 1)) = hd y := by
    rw [w64 (by omega) (by omega)]; unfold hd; omega
  unfold trystref01_hebrewMonth.f
  rw [w64 (x := y + 1) (by omega) (by omega), fNew (y + 1) (by omega) (by omega), Option.bind_some, fNew y (by omega) (by omega), Option.bind_some, e]
  generalize hd y = n
  rcases (by omega : m = 1 ∨ m = 2 ∨ m = 3 ∨ m = 4 ∨ m = 5 ∨ m = 6 ∨ m = 7 ∨ m = 8 ∨ m = 9 ∨ m = 10 ∨ m = 11 ∨ m = 12 ∨ m = 13) with e | e | e | e | e | e | e | e | e | e | e | e | e <;> subst e <;> simp [hx]
  · by_cases a : n = 355
    · simp [a]
    · by_cases b : n = 385
      · simp [b]
      · simp [a, b]
  · by_cases a : n = 353
    · simp [a]
    · by_cases b : n = 383
      · simp [b]
      · simp [a, b]
  · rw [hL, Option.bind_some]
    rcases hl_01 y with q | q <;> rw [q] <;> simp
/-- How many days a month has; 0 of none. -/
def lenH (y m : Int) : Int := if 1 ≤ m ∧ m ≤ 12 + hl y then hx (hl y) (hd y) m else 0
theorem lenH_pos {y m : Int} (h : 0 < lenH y m) : 1 ≤ m ∧ m ≤ 12 + hl y := by
  unfold lenH at h; split at h
  · assumption
  · omega
theorem pLength (k : Nat) (hk : 2 ≤ k) (y m : Int) : hebrew_Length.f k y m = some (if 1 ≤ y ∧ y ≤ 20000 then lenH y m else 0) := by
  obtain ⟨k, rfl⟩ : ∃ j, k = j + 2 := ⟨k - 2, by omega⟩
  have key : hebrew_Length.j0 (k + 2) y m true = some 0 := by simp only [hebrew_Length.j0, if_true]
  have hR : hebrew_right.f y = some (decide (1 ≤ y ∧ y ≤ 20000)) := by
    unfold hebrew_right.f
    by_cases a : y ≥ 1
    · rw [if_pos a]
      by_cases b : y ≤ 20000
      · rw [decide_eq_true b, decide_eq_true ⟨a, b⟩]
      · rw [decide_eq_false b, decide_eq_false (fun h => b h.2)]
    · rw [if_neg a, decide_eq_false (fun h => a h.1)]
  unfold hebrew_Length.f
  rw [hR, Option.bind_some]
  by_cases c : 1 ≤ y ∧ y ≤ 20000
  · rw [decide_eq_true c, if_pos rfl, if_pos c]
    have l01 := hl_01 y
    unfold lenH
    by_cases a : m < 1
    · rw [if_pos a, key, if_neg (by omega)]
    · rw [if_neg a, pLast y (by omega) (by omega), Option.bind_some]
      by_cases b : m > 12 + hl y
      · rw [decide_eq_true b, key, if_neg (by omega)]
      · rw [decide_eq_false b, pMonth k y m c.1 c.2 (by omega) (by omega), if_pos ⟨by omega, by omega⟩]
  · rw [decide_eq_false c, if_neg (by simp), key, if_neg c]
theorem pNext (y m : Int) (h : 1 ≤ y) (h' : y ≤ 20000) (h1 : 1 ≤ m) (h2 : m ≤ 13) : hebrew_next.f y m = some (hn (hl y) m) := by
  unfold hebrew_next.f hn
  rw [pLast y (by omega) (by omega), Option.bind_some]
  by_cases c : m = 12 + hl y
  · rw [if_pos c, if_pos c]
  · rw [if_neg c, if_neg c, w64 (by omega) (by omega)]
theorem pOne (k : Nat) (hk : 2 ≤ k) (y i : Int) (h : 1 ≤ y) (h' : y ≤ 20000) (h1 : 1 ≤ i) (h2 : i ≤ 12 + hl y) : hebrew_Length.f k y i = some (hx (hl y) (hd y) i) := by
  rw [pLength k hk, if_pos ⟨h, h'⟩]; unfold lenH; rw [if_pos ⟨h1, h2⟩]
/-- One round of the program's loop. -/
theorem pRound (k : Nat) (hk : 2 ≤ k) (y m d n i : Int) (h : 1 ≤ y) (h' : y ≤ 20000) (h1 : 1 ≤ i) (h2 : i ≤ 12 + hl y) (hne : i ≠ m) (hn1 : -30000000 ≤ n) (hn2 : n ≤ 30000000) :
    hebrew_FromHebrew.l0 (k + 1) n i y m d = hebrew_FromHebrew.l0 k (n + hx (hl y) (hd y) i) (hn (hl y) i) y m d := by
  have hb := hx_bd (hl y) (hd y) i
  have l01 := hl_01 y
  simp only [hebrew_FromHebrew.l0]
  rw [if_neg hne, pOne k hk y i h h' h1 h2, Option.bind_some, pNext y i h h' h1 (by omega), Option.bind_some, w64 (by omega) (by omega)]
theorem pEnd (k : Nat) (y m d n : Int) : hebrew_FromHebrew.l0 (k + 1) n m y m d = some (dayOr n) := by
  simp only [hebrew_FromHebrew.l0, if_true]
  rw [ofDay]
theorem pB (y m d : Int) (h : 1 ≤ y) (h' : y ≤ 20000) (hm : m ≤ 6) : ∀ (j k : Nat) (n i : Int), 1 ≤ i → i ≤ m → m - i = j → j + 3 ≤ k → -20000000 ≤ n → n + 31 * j ≤ 20000000 →
    hebrew_FromHebrew.l0 k n i y m d = some (dayOr (n + hz m - hz i)) := by
  intro j
  induction j with
  | zero =>
    intro k n i h1 h2 h3 h4 h5 h6
    obtain ⟨k, rfl⟩ : ∃ j, k = j + 1 := ⟨k - 1, by omega⟩
    have e : i = m := by omega
    subst e
    rw [pEnd]; congr 2; omega
  | succ j ih =>
    intro k n i h1 h2 h3 h4 h5 h6
    obtain ⟨k, rfl⟩ : ∃ j, k = j + 1 := ⟨k - 1, by omega⟩
    have l01 := hl_01 y
    have hb := hx_bd (hl y) (hd y) i
    have hs := hz_succ (hl y) (hd y) i h1 (by omega)
    have en : hn (hl y) i = i + 1 := by unfold hn; rw [if_neg (by omega)]
    rw [pRound k (by omega) y m d n i h h' h1 (by omega) (by omega) (by omega) (by omega), en, ih k _ (i + 1) (by omega) (by omega) (by omega) (by omega) (by omega) (by omega)]
    congr 2; omega
theorem pA1 (y m d : Int) (h : 1 ≤ y) (h' : y ≤ 20000) (hm7 : 7 ≤ m) (hm : m ≤ 12 + hl y) : ∀ (j k : Nat) (n i : Int), 7 ≤ i → i ≤ m → m - i = j → j + 3 ≤ k → -20000000 ≤ n → n + 31 * j ≤ 20000000 →
    hebrew_FromHebrew.l0 k n i y m d = some (dayOr (n + ha (hl y) (hd y) m - ha (hl y) (hd y) i)) := by
  have l01 := hl_01 y
  intro j
  induction j with
  | zero =>
    intro k n i h1 h2 h3 h4 h5 h6
    obtain ⟨k, rfl⟩ : ∃ j, k = j + 1 := ⟨k - 1, by omega⟩
    have e : i = m := by omega
    subst e
    rw [pEnd]; congr 2; omega
  | succ j ih =>
    intro k n i h1 h2 h3 h4 h5 h6
    obtain ⟨k, rfl⟩ : ∃ j, k = j + 1 := ⟨k - 1, by omega⟩
    have hb := hx_bd (hl y) (hd y) i
    have hs := ha_succ (hl y) (hd y) i h1 (by omega)
    have en : hn (hl y) i = i + 1 := by unfold hn; rw [if_neg (by omega)]
    rw [pRound k (by omega) y m d n i h h' (by omega) (by omega) (by omega) (by omega) (by omega), en, ih k _ (i + 1) (by omega) (by omega) (by omega) (by omega) (by omega) (by omega)]
    congr 2; omega
theorem pA2 (y m d : Int) (h : 1 ≤ y) (h' : y ≤ 20000) (hm1 : 1 ≤ m) (hm : m ≤ 6) : ∀ (j k : Nat) (n i : Int), 7 ≤ i → i ≤ 12 + hl y → 12 + hl y - i = j → j + 12 ≤ k → -10000000 ≤ n → n + 31 * j ≤ 10000000 →
    hebrew_FromHebrew.l0 k n i y m d = some (dayOr (n + ha (hl y) (hd y) (13 + hl y) - ha (hl y) (hd y) i + hz m)) := by
  have l01 := hl_01 y
  have z1 : hz 1 = 0 := by decide
  intro j
  induction j with
  | zero =>
    intro k n i h1 h2 h3 h4 h5 h6
    obtain ⟨k, rfl⟩ : ∃ j, k = j + 1 := ⟨k - 1, by omega⟩
    have hb := hx_bd (hl y) (hd y) i
    have hs := ha_succ (hl y) (hd y) i h1 (by omega)
    have en : hn (hl y) i = 1 := by unfold hn; rw [if_pos (by omega)]
    have ei : i + 1 = 13 + hl y := by omega
    rw [pRound k (by omega) y m d n i h h' (by omega) (by omega) (by omega) (by omega) (by omega), en, pB y m d h h' hm (m - 1).toNat k _ 1 (by omega) hm1 (by omega) (by omega) (by omega) (by omega), z1]
    rw [ei] at hs
    congr 2; omega
  | succ j ih =>
    intro k n i h1 h2 h3 h4 h5 h6
    obtain ⟨k, rfl⟩ : ∃ j, k = j + 1 := ⟨k - 1, by omega⟩
    have hb := hx_bd (hl y) (hd y) i
    have hs := ha_succ (hl y) (hd y) i h1 (by omega)
    have en : hn (hl y) i = i + 1 := by unfold hn; rw [if_neg (by omega)]
    rw [pRound k (by omega) y m d n i h h' (by omega) (by omega) (by omega) (by omega) (by omega), en, ih k _ (i + 1) (by omega) (by omega) (by omega) (by omega) (by omega) (by omega)]
    congr 2; omega
abbrev RightH (y m d : Int) : Prop := 1 ≤ y ∧ y ≤ 20000 ∧ 1 ≤ d ∧ d ≤ lenH y m
theorem lenH_bd (y m : Int) : lenH y m ≤ 30 := by
  have := hx_bd (hl y) (hd y) m
  unfold lenH; split <;> omega
theorem pFrom (k : Nat) (hk : 40 ≤ k) (y m d : Int) : hebrew_FromHebrew.f k y m d = some (if RightH y m d then dayOr (hb y + hc (hl y) (hd y) m + d) else (0, 2)) := by
  obtain ⟨k, rfl⟩ : ∃ j, k = j + 1 := ⟨k - 1, by omega⟩
  have key : hebrew_FromHebrew.j0 (k + 1) true y m d = some (0, 2) := by simp only [hebrew_FromHebrew.j0, if_true]
  have l01 := hl_01 y
  unfold hebrew_FromHebrew.f
  by_cases a : d < 1
  · rw [if_pos a, key, if_neg (fun h => by have := h.2.2.1; omega)]
  · rw [if_neg a, pLength (k + 1) (by omega), Option.bind_some]
    by_cases c : 1 ≤ y ∧ y ≤ 20000
    · rw [if_pos c]
      by_cases e : d > lenH y m
      · rw [decide_eq_true e, key, if_neg (fun h => by have := h.2.2.2; omega)]
      · rw [decide_eq_false e, if_pos ⟨c.1, c.2, by omega, by omega⟩]
        have hp := lenH_pos (y := y) (m := m) (by omega)
        have hl30 := lenH_bd y m
        have hbb := hb_bd y (by omega) (by omega)
        simp only [hebrew_FromHebrew.j0]
        rw [if_neg (by simp), pBegins y (by omega) (by omega), Option.bind_some, w64 (x := hb y + 1 + d) (by omega) (by omega), w64 (x := hb y + 1 + d - 1) (by omega) (by omega)]
        have a7 : ha (hl y) (hd y) 7 = 0 := by simp [ha]
        unfold hc
        by_cases q : m < 7
        · rw [if_pos q, pA2 y m d c.1 c.2 hp.1 (by omega) (12 + hl y - 7).toNat k _ 7 (by omega) (by omega) (by omega) (by omega) (by omega) (by omega), a7]
          congr 2; omega
        · rw [if_neg q, pA1 y m d c.1 c.2 (by omega) hp.2 (m - 7).toNat k _ 7 (by omega) (by omega) (by omega) (by omega) (by omega) (by omega), a7]
          congr 2; omega
    · rw [if_neg c, decide_eq_true (show d > 0 by omega), key, if_neg (fun h => c ⟨h.1, h.2.1⟩)]
/-! ### The reference -/
theorem q1 (y m : Int) (h : 1 ≤ y) (h' : y ≤ 20000) : ∀ (j k : Nat) (n i : Int), 1 ≤ i → i ≤ m → m ≤ 6 → m - i = j → j + 1 ≤ k → -20000000 ≤ n → n + 31 * j ≤ 20000000 →
    trystref01_hebrew.l1 k y m n i = some (n + hz m - hz i) := by
  intro j
  induction j with
  | zero =>
    intro k n i h1 h2 hm h3 h4 h5 h6
    obtain ⟨k, rfl⟩ : ∃ j, k = j + 1 := ⟨k - 1, by omega⟩
    have e : i = m := by omega
    subst e
    simp only [trystref01_hebrew.l1]
    rw [if_neg (by omega)]; congr 1; omega
  | succ j ih =>
    intro k n i h1 h2 hm h3 h4 h5 h6
    obtain ⟨k, rfl⟩ : ∃ j, k = j + 1 := ⟨k - 1, by omega⟩
    have hb := hx_bd (hl y) (hd y) i
    have hs := hz_succ (hl y) (hd y) i h1 (by omega)
    simp only [trystref01_hebrew.l1]
    rw [if_pos (by omega), fMonth y i h h' h1 (by omega), Option.bind_some, w64 (x := n + hx (hl y) (hd y) i) (by omega) (by omega), w64 (x := i + 1) (by omega) (by omega), ih k _ (i + 1) (by omega) (by omega) hm (by omega) (by omega) (by omega) (by omega)]
    congr 1; omega
theorem q2 (y m : Int) (h : 1 ≤ y) (h' : y ≤ 20000) : ∀ (j k : Nat) (n i : Int), 7 ≤ i → i ≤ m → m ≤ 14 → m - i = j → j + 1 ≤ k → -20000000 ≤ n → n + 31 * j ≤ 20000000 →
    trystref01_hebrew.l2 k y m n i = some (n + ha (hl y) (hd y) m - ha (hl y) (hd y) i) := by
  intro j
  induction j with
  | zero =>
    intro k n i h1 h2 hm h3 h4 h5 h6
    obtain ⟨k, rfl⟩ : ∃ j, k = j + 1 := ⟨k - 1, by omega⟩
    have e : i = m := by omega
    subst e
    simp only [trystref01_hebrew.l2]
    rw [if_neg (by omega)]; congr 1; omega
  | succ j ih =>
    intro k n i h1 h2 hm h3 h4 h5 h6
    obtain ⟨k, rfl⟩ : ∃ j, k = j + 1 := ⟨k - 1, by omega⟩
    have hb := hx_bd (hl y) (hd y) i
    have hs := ha_succ (hl y) (hd y) i h1 (by omega)
    simp only [trystref01_hebrew.l2]
    rw [if_pos (by omega), fMonth y i h h' (by omega) (by omega), Option.bind_some, w64 (x := n + hx (hl y) (hd y) i) (by omega) (by omega), w64 (x := i + 1) (by omega) (by omega), ih k _ (i + 1) (by omega) (by omega) hm (by omega) (by omega) (by omega) (by omega)]
    congr 1; omega
theorem q0 (y m : Int) (h : 1 ≤ y) (h' : y ≤ 20000) (hm1 : 1 ≤ m) (hm : m ≤ 6) (L : Int) (hL : 12 ≤ L ∧ L ≤ 13) : ∀ (j k : Nat) (n i : Int), 7 ≤ i → i ≤ L + 1 → L + 1 - i = j → j + 8 ≤ k → -10000000 ≤ n → n + 31 * j ≤ 10000000 →
    trystref01_hebrew.l0 k y m L n i = some (n + ha (hl y) (hd y) (L + 1) - ha (hl y) (hd y) i + hz m) := by
  have z1 : hz 1 = 0 := by decide
  intro j
  induction j with
  | zero =>
    intro k n i h1 h2 h3 h4 h5 h6
    obtain ⟨k, rfl⟩ : ∃ j, k = j + 1 := ⟨k - 1, by omega⟩
    have e : i = L + 1 := by omega
    subst e
    simp only [trystref01_hebrew.l0]
    rw [if_neg (by omega), q1 y m h h' (m - 1).toNat k n 1 (by omega) hm1 hm (by omega) (by omega) (by omega) (by omega), z1]
    congr 1; omega
  | succ j ih =>
    intro k n i h1 h2 h3 h4 h5 h6
    obtain ⟨k, rfl⟩ : ∃ j, k = j + 1 := ⟨k - 1, by omega⟩
    have hb := hx_bd (hl y) (hd y) i
    have hs := ha_succ (hl y) (hd y) i h1 (by omega)
    simp only [trystref01_hebrew.l0]
    rw [if_pos (by omega), fMonth y i h h' (by omega) (by omega), Option.bind_some, w64 (x := n + hx (hl y) (hd y) i) (by omega) (by omega), w64 (x := i + 1) (by omega) (by omega), ih k _ (i + 1) (by omega) (by omega) (by omega) (by omega) (by omega) (by omega)]
    congr 1; omega
theorem fHeb (k : Nat) (hk : 30 ≤ k) (y m d : Int) (h : 1 ≤ y) (h' : y ≤ 20000) (h1 : 1 ≤ m) (h2 : m ≤ 12 + hl y) (hd0 : -1000 ≤ d) (hd1 : d ≤ 1000) : trystref01_hebrew.f k y m d = some (hb y + hc (hl y) (hd y) m + d) := by
  obtain ⟨k, rfl⟩ : ∃ j, k = j + 1 := ⟨k - 1, by omega⟩
  have l01 := hl_01 y
  have hbb := hb_bd y (by omega) (by omega)
  have a7 : ha (hl y) (hd y) 7 = 0 := by simp [ha]
  have key : trystref01_hebrew.j0 (k + 1) y m d (12 + hl y) = some (hb y + hc (hl y) (hd y) m + d) := by
    simp only [trystref01_hebrew.j0]
    rw [fNew y (by omega) (by omega), Option.bind_some, w64 (x := hb y + 1 + d) (by omega) (by omega), w64 (x := hb y + 1 + d - 1) (by omega) (by omega)]
    unfold hc
    by_cases q : m < 7
    · rw [if_pos q, if_pos q, q0 y m h h' h1 (by omega) (12 + hl y) (by omega) (12 + hl y + 1 - 7).toNat k _ 7 (by omega) (by omega) (by omega) (by omega) (by omega) (by omega), a7, show 12 + hl y + 1 = 13 + hl y by omega]
      congr 1; omega
    · rw [if_neg q, if_neg q, q2 y m h h' (m - 7).toNat k _ 7 (by omega) (by omega) (by omega) (by omega) (by omega) (by omega) (by omega), a7]
      congr 1; omega
  unfold trystref01_hebrew.f
  rw [fLeapH y (by omega) (by omega), Option.bind_some]
  rcases l01 with q | q
  · rw [q] at key ⊢
    simpa using key
  · rw [q] at key ⊢
    simpa using key
theorem fMonths3 (k : Nat) (y : Int) (h : -3 ≤ y) (h' : y ≤ 20005) : trystref01_Months.f k 3 y = some (12 + hl y) := by
  unfold trystref01_Months.f
  rw [if_neg (by omega), if_pos rfl, fLeapH y h h', Option.bind_some]
  rcases hl_01 y with q | q <;> rw [q] <;> simp
theorem fLength3 (k : Nat) (hk : 1 ≤ k) (y m : Int) (h : 1 ≤ y) (h' : y ≤ 20000) : trystref01_Length.f k 3 y m = some (lenH y m) := by
  obtain ⟨k, rfl⟩ : ∃ j, k = j + 1 := ⟨k - 1, by omega⟩
  have l01 := hl_01 y
  unfold trystref01_Length.f lenH
  by_cases a : m < 1
  · rw [if_pos a, if_neg (by omega)]; simp only [trystref01_Length.j0, if_true]
  · rw [if_neg a, fMonths3 _ y (by omega) (by omega), Option.bind_some]
    by_cases b : m > 12 + hl y
    · rw [decide_eq_true b, if_neg (by omega)]; simp only [trystref01_Length.j0, if_true]
    · rw [decide_eq_false b, if_pos ⟨by omega, by omega⟩]
      simp only [trystref01_Length.j0]
      rw [if_neg (by simp), if_neg (by omega)]
      simp only [if_true]
      rw [fMonth y m h h' (by omega) (by omega), Option.bind_some]
theorem ref3 (k : Nat) (hk : 40 ≤ k) (y m d : Int) : trystref01_Day.f k 3 y m d = some (if RightH y m d then dayOr (hb y + hc (hl y) (hd y) m + d) else (0, 2)) := by
  have hY : trystref01_years.f 3 = some (1, 20000) := by decide
  rw [refDay k 3 y m d 1 20000 (lenH y m) (hb y + hc (hl y) (hd y) m + d) hY (fun a b _ => fLength3 k (by omega) y m a b) (fun a b _ e f => by
    have hp := lenH_pos (y := y) (m := m) (by omega)
    have h30 := lenH_bd y m
    unfold trystref01_Fixed.f
    rw [if_neg (by omega), if_neg (by omega), if_neg (by omega), if_pos rfl, fHeb k (by omega) y m d a b hp.1 hp.2 (by omega) (by omega), Option.bind_some])]
  by_cases c : RightH y m d
  · rw [if_pos c]
    obtain ⟨c1, c2, c4, c5⟩ := c
    rw [if_pos ⟨c1, c2, fun h => by omega, c4, c5⟩]
  · rw [if_neg c, if_neg (fun h => c ⟨h.1, h.2.1, h.2.2.2.1, h.2.2.2.2⟩)]
/-- The two are one. -/
theorem hebrew (k : Nat) (hk : 40 ≤ k) (y m d : Int) : hebrew_FromHebrew.f k y m d = trystref01_Day.f k 3 y m d := by rw [pFrom k hk, ref3 k hk]
end Go.Proofs.YtgbbgcepcnklkaaDoor.FunH
/- Each calendar's day of a date, as the program tells it, is the reference's. -/
namespace Go.Proofs.YtgbbgcepcnklkaaDoor.FunY
open Go.RowKit Go.Proofs.YtgbbgcepcnklkaaDoorW.PrintWords Go.Proofs.YtgbbgcepcnklkaaDoorW.PrintLast Go.Proofs.YtgbbgcepcnklkaaDoor.Q Go.Proofs.YtgbbgcepcnklkaaDoor.Cal Go.Proofs.YtgbbgcepcnklkaaDoor.FunA Go.Proofs.YtgbbgcepcnklkaaDoor.FunB Go.Proofs.YtgbbgcepcnklkaaDoor.FunC Go.Proofs.YtgbbgcepcnklkaaDoor.FunE Go.Proofs.YtgbbgcepcnklkaaDoor.FunI Go.Proofs.YtgbbgcepcnklkaaDoor.FunJ Go.Proofs.YtgbbgcepcnklkaaDoor.FunK
theorem day0 (y m d : Int) : rata_Day.f 40 y m d = trystref01_Day.f 40 0 y m d := by
  by_cases h : Right y m d
  · have hm := dim_pos (lp y) m (by have := h.2.2; omega)
    have hd := dim_lo (lp y) m (lp_01 y) hm.1 hm.2
    obtain ⟨h1, h2, h3, h4⟩ := h
    have hs := ah_le h1
    have hs' := ah_le (show y + 1 ≤ 10000 by omega)
    have e1 : ah 1 = 0 := by decide
    have e2 : ah 10000 = 3652059 := by decide
    have hi : Is ah lp y m d (ah y + cum (lp y) m + d) := ⟨hm.1, hm.2, h3, h4, rfl⟩
    have hyy := hi.year greg
    have e : fx 0 y m + d = ah y + cum (lp y) m + d := by simp [fx]
    rw [rDay_yes 40 (by omega) y m d ⟨h1, h2, h3, h4⟩, fDay_yes 40 (by omega) 0 y m d 1 9999 (Or.inl rfl) rfl (by omega) (by omega) ⟨h1, h2, h3, by simp [len]; exact h4⟩ ⟨hm.1, by omega⟩ (by omega), e, if_pos (by omega)]
  · rw [rDay_no 40 (by omega) y m d h, fDay_no 40 (by omega) 0 y m d 1 9999 (Or.inl rfl) rfl (by omega) (by omega) (fun z => h ⟨z.1, z.2.1, z.2.2.1, by have := z.2.2.2; simpa [len] using this⟩)]
theorem day1 (y m d : Int) : julian_FromJulian.f 40 y m d = trystref01_Day.f 40 1 y m d := by
  by_cases h : RightJ y m d
  · have hm := dim_pos (lj y) m (by have := h.2.2; omega)
    have hd := dim_lo (lj y) m (lj_01 y) hm.1 hm.2
    obtain ⟨h1, h2, h3, h4⟩ := h
    have e : fx 1 y m + d = jb y + cum (lj y) m + d := by simp [fx]
    rw [jFrom_yes 40 (by omega) y m d ⟨h1, h2, h3, h4⟩, fDay_yes 40 (by omega) 1 y m d 1 20000 (Or.inr (Or.inl rfl)) rfl (by omega) (by omega) ⟨h1, h2, h3, by simp [len]; exact h4⟩ ⟨hm.1, by omega⟩ (by omega), e]
    rfl
  · rw [jFrom_no 40 (by omega) y m d h, fDay_no 40 (by omega) 1 y m d 1 20000 (Or.inr (Or.inl rfl)) rfl (by omega) (by omega) (fun z => h ⟨z.1, z.2.1, z.2.2.1, by have := z.2.2.2; simpa [len] using this⟩)]
theorem day2 (y m d : Int) : iso_FromISO.f 40 y m d = trystref01_Day.f 40 2 y m d := by
  obtain ⟨n, hn, hw⟩ := wks y 1
  have hM : mths 2 y = (wk (y + 1) 1 - wk y 1) / 7 := by simp [mths]
  have hl : (1 ≤ d ∧ d ≤ len 2 y m) ↔ (1 ≤ m ∧ m ≤ (wk (y + 1) 1 - wk y 1) / 7 ∧ 1 ≤ d ∧ d ≤ 7) := by
    unfold len
    rw [if_neg (by omega), if_neg (by omega), hM]
    by_cases c : m < 1 ∨ (wk (y + 1) 1 - wk y 1) / 7 < m
    · rw [if_pos c]; omega
    · rw [if_neg c, if_pos rfl]; omega
  by_cases h : RightI y m d
  · have hh := h
    obtain ⟨h1, h2, h3, h4, h5, h6⟩ := h
    have hl' := hl.2 ⟨h3, h4, h5, h6⟩
    have e : fx 2 y m + d = wk y 1 + 7 * (m - 1) + d - 1 := by simp [fx]; omega
    rw [iFrom_yes 40 (by omega) y m d hh, fDay_yes 40 (by omega) 2 y m d 0 9999 (Or.inr (Or.inr (Or.inl rfl))) rfl (by omega) (by omega) ⟨h1, h2, hl'.1, hl'.2⟩ ⟨h3, by omega⟩ (by omega), e]
  · rw [iFrom_no 40 (by omega) y m d h, fDay_no 40 (by omega) 2 y m d 0 9999 (Or.inr (Or.inr (Or.inl rfl))) rfl (by omega) (by omega) (fun z => h ⟨z.1, z.2.1, hl.1 z.2.2⟩)]
theorem day6 (y m d : Int) : julian_FromCoptic.f 40 y m d = trystref01_Day.f 40 6 y m d := by
  have hl : len 6 y m = clen y m := by simp [len, clen, mths]
  by_cases h : RightC y m d
  · have hm := clen_pos y m (by have := h.2.2; omega)
    obtain ⟨h1, h2, h3, h4⟩ := h
    have e : fx 6 y m + d = cb y + 30 * (m - 1) + d := by simp [fx]
    rw [kFrom_yes 40 (by omega) y m d ⟨h1, h2, h3, h4⟩, fDay_yes 40 (by omega) 6 y m d (-20000) 20000 (Or.inr (Or.inr (Or.inr rfl))) rfl (by omega) (by omega) ⟨h1, h2, h3, by rw [hl]; exact h4⟩ ⟨hm.1, by omega⟩ (by omega), e]
    rfl
  · rw [kFrom_no 40 (by omega) y m d h, fDay_no 40 (by omega) 6 y m d (-20000) 20000 (Or.inr (Or.inr (Or.inr rfl))) rfl (by omega) (by omega) (by rw [hl]; exact h)]
theorem day3 (y m d : Int) : hebrew_FromHebrew.f 40 y m d = trystref01_Day.f 40 3 y m d := FunH.hebrew 40 (by omega) y m d
theorem day4 (y m d : Int) : islam_FromIslamic.f 40 y m d = trystref01_Day.f 40 4 y m d := FunM.islamic 40 (by omega) y m d
theorem day5 (y m d : Int) : persian_FromPersian.f 40 y m d = trystref01_Day.f 40 5 y m d := FunS.persian 40 (by omega) y m d
/-- The reference tells a day, or an error, in every calendar. -/
theorem told (c y m d : Int) (hc : 0 ≤ c) (hc' : c ≤ 6) : ∃ r1 r2, trystref01_Day.f 40 c y m d = some (r1, r2) := by
  have four : ∀ c, Four c → (∃ a b, trystref01_years.f c = some (a, b) ∧ -40000 ≤ a ∧ b < 40000) → ∃ r1 r2, trystref01_Day.f 40 c y m d = some (r1, r2) := by
    rintro c hF ⟨a, b, hy, ha, hb⟩
    by_cases h : a ≤ y ∧ y ≤ b ∧ 1 ≤ d ∧ d ≤ len c y m
    · have hb1 : 1 ≤ m ∧ m ≤ 100 ∧ d ≤ 1000 := by
        obtain ⟨_, _, h3, h4⟩ := h
        rcases hF with rfl | rfl | rfl | rfl
        · have h5 : d ≤ dim (lp y) m := by simpa [len] using h4
          have hm := dim_pos (lp y) m (by omega)
          have hd := dim_lo (lp y) m (lp_01 y) hm.1 hm.2
          omega
        · have h5 : d ≤ dim (lj y) m := by simpa [len] using h4
          have hm := dim_pos (lj y) m (by omega)
          have hd := dim_lo (lj y) m (lj_01 y) hm.1 hm.2
          omega
        · obtain ⟨n, hn, hw⟩ := wks y 1
          have hM : mths 2 y = (wk (y + 1) 1 - wk y 1) / 7 := by simp [mths]
          unfold len at h4
          rw [if_neg (by omega), if_neg (by omega), hM] at h4
          by_cases c : m < 1 ∨ (wk (y + 1) 1 - wk y 1) / 7 < m
          · rw [if_pos c] at h4; omega
          · rw [if_neg c, if_pos rfl] at h4; omega
        · have hl : len 6 y m = clen y m := by simp [len, clen, mths]
          rw [hl] at h4
          have hm := clen_pos y m (by omega)
          omega
      rw [fDay_yes 40 (by omega) c y m d a b hF hy ha hb h ⟨hb1.1, hb1.2.1⟩ hb1.2.2]
      split <;> exact ⟨_, _, rfl⟩
    · exact ⟨_, _, fDay_no 40 (by omega) c y m d a b hF hy ha hb h⟩
  rcases (by omega : c = 0 ∨ c = 1 ∨ c = 2 ∨ c = 3 ∨ c = 4 ∨ c = 5 ∨ c = 6) with rfl | rfl | rfl | rfl | rfl | rfl | rfl
  · exact four 0 (Or.inl rfl) ⟨_, _, rfl, by omega, by omega⟩
  · exact four 1 (Or.inr (Or.inl rfl)) ⟨_, _, rfl, by omega, by omega⟩
  · exact four 2 (Or.inr (Or.inr (Or.inl rfl))) ⟨_, _, rfl, by omega, by omega⟩
  · rw [FunH.ref3 40 (by omega)]; exact ⟨_, _, rfl⟩
  · rw [FunM.ref4 40 (by omega)]; exact ⟨_, _, rfl⟩
  · rw [FunS.ref5 40 (by omega)]; exact ⟨_, _, rfl⟩
  · exact four 6 (Or.inr (Or.inr (Or.inr rfl))) ⟨_, _, rfl, by omega, by omega⟩
end Go.Proofs.YtgbbgcepcnklkaaDoor.FunY
-- written by a program of this session (wip/own_print.sh)
namespace Go.Proofs.YtgbbgcepcnklkaaDoor.Q
open Go.RowKit Go.Proofs.YtgbbgcepcnklkaaDoorW.PrintWords Go.Proofs.YtgbbgcepcnklkaaDoorW.PrintLast Go.Proofs.YtgbbgcepcnklkaaDoorW.PrintMore
attribute [local go_sem] max2_int min2_int max_two min_two max_three min_three max_four min_four   -- for this text's walks alone
set_option linter.unusedVariables false
set_option linter.unusedSimpArgs false
/-! ### show_is: function 17 -/
def show_is.f (a0 : Int) : Option (Bool) := if a0 ≥ 0 then (some (decide (a0 < 7))) else (some false)
set_option maxHeartbeats 8000000 in
set_option maxRecDepth 100000 in
theorem show_is.calls (a0 : Int) (r : Bool) (w : World) (h : show_is.f a0 = some r) :
    Calls Tryd.prog 17 #[.int .i64 a0] w fun e w' => e = .returned (.bool r) ∧ Drawn0 w w' := by
  have H : (if a0 ≥ 0 then (some (decide (a0 < 7))) else (some false)) = some r := h
  clear h
  by_cases c2 : a0 ≥ 0
  · rw [if_pos c2] at H
    have c2b0 : decide (0 ≤ a0) = true := decide_eq_true c2
    clear c2
    obtain rfl := Option.some.inj H
    go_enter Tryd.func17, Tryd.ntmps17
    go_wp2
    go_ret
    exact ⟨by first | rfl | (simp; done) | (simp [*]; done) | (simp [bne_nil_]; done), by repeat (first | exact Drawn0.refl _ | apply Drawn0.step)⟩
  · rw [if_neg c2] at H
    have c2b0 : decide (0 ≤ a0) = false := decide_eq_false c2
    clear c2
    obtain rfl := Option.some.inj H
    go_enter Tryd.func17, Tryd.ntmps17
    go_wp2
    go_ret
    exact ⟨by first | rfl | (simp; done) | (simp [*]; done) | (simp [bne_nil_]; done), by repeat (first | exact Drawn0.refl _ | apply Drawn0.step)⟩

end Go.Proofs.YtgbbgcepcnklkaaDoor.Q
