/- Texts of this claim, merged: FunS, CalH. -/
import Derived.Test.YtgbbgcepcnklkaaDoorMgShowDays9
import Derived.Test.YtgbbgcepcnklkaaDoorMgShowDays10
import Derived.Test.YtgbbgcepcnklkaaDoorMgShowDays1
/- The Persian calendar: what the package persian and the reference reckon, in plain numbers. -/
namespace Go.Proofs.YtgbbgcepcnklkaaDoor.FunS
open Go.RowKit Go.Proofs.YtgbbgcepcnklkaaDoorW.PrintWords Go.Proofs.YtgbbgcepcnklkaaDoorW.PrintLast Go.Proofs.YtgbbgcepcnklkaaDoor.Q Go.Proofs.YtgbbgcepcnklkaaDoor.Cal Go.Proofs.YtgbbgcepcnklkaaDoor.FunA Go.Proofs.YtgbbgcepcnklkaaDoor.FunB Go.Proofs.YtgbbgcepcnklkaaDoor.FunJ Go.Proofs.YtgbbgcepcnklkaaDoor.FunM Go.Proofs.YtgbbgcepcnklkaaDoor.Cal3
theorem pzbd (z : Int) (h : -50000 ≤ z) (h' : z ≤ 50000) : -25000000 ≤ pz z ∧ pz z ≤ 25000000 := by
  unfold pz pc
  have q1 : -20 ≤ z / 2820 ∧ z / 2820 ≤ 20 := by omega
  have q2 : 0 ≤ z % 2820 ∧ z % 2820 < 2820 := by omega
  generalize z / 2820 = q at q1 ⊢
  generalize z % 2820 = r at q2 ⊢
  omega
theorem sShift (y : Int) (h : -40000 ≤ y) (h' : y ≤ 40000) : persian_shifted.f y = some (ps y) := by
  unfold persian_shifted.f ps
  by_cases c : y > 0
  · rw [if_pos c, if_pos c, w64 (by omega) (by omega)]
  · rw [if_neg c, if_neg c, w64 (x := y - 474) (by omega) (by omega), w64 (by omega) (by omega)]
    congr 1; omega
theorem psbd (y : Int) (h : -40000 ≤ y) (h' : y ≤ 40000) : -41000 ≤ ps y ∧ ps y ≤ 40000 := by unfold ps; split <;> omega
theorem sFirst (y : Int) (h : -40000 ≤ y) (h' : y ≤ 40000) : persian_first.f y = some (pz (ps y) + 1) := by
  have hb := psbd y h h'
  unfold persian_first.f
  rw [sShift y h h', Option.bind_some, rMod _ 2820 (by omega) (by omega) ⟨by omega, by omega⟩, Option.bind_some, rFloor _ 2820 (by omega) ⟨by omega, by omega⟩, Option.bind_some]
  unfold pz pc
  have q1 : -20 ≤ ps y / 2820 ∧ ps y / 2820 ≤ 20 := by omega
  have q2 : 0 ≤ ps y % 2820 ∧ ps y % 2820 < 2820 := by omega
  generalize ps y / 2820 = q at q1 ⊢
  generalize ps y % 2820 = r at q2 ⊢
  rw [w64 (x := r + 474) (by omega) (by omega), w64 (x := 31 * (r + 474)) (by omega) (by omega), w64 (x := 31 * (r + 474) - 5) (by omega) (by omega), rFloor _ 128 (by omega) ⟨by omega, by omega⟩, Option.bind_some]
  have q3 : 0 ≤ (31 * (r + 474) - 5) / 128 ∧ (31 * (r + 474) - 5) / 128 ≤ 1000 := by omega
  generalize (31 * (r + 474) - 5) / 128 = t at q3 ⊢
  rw [w64 (x := 1029983 * q) (by omega) (by omega), w64 (x := 226896 + 1029983 * q) (by omega) (by omega), w64 (x := r + 474 - 1) (by omega) (by omega), w64 (x := 365 * (r + 474 - 1)) (by omega) (by omega), w64 (x := 226896 + 1029983 * q + 365 * (r + 474 - 1)) (by omega) (by omega), w64 (by omega) (by omega)]
  congr 1; omega
theorem sRight (y : Int) : persian_right.f y = some (decide (-10000 ≤ y ∧ y ≤ 20000 ∧ y ≠ 0)) := by
  unfold persian_right.f
  by_cases a : y ≥ -10000
  · rw [if_pos a]
    by_cases b : y ≤ 20000
    · rw [if_pos b]
      by_cases c : y = 0
      · subst c; rfl
      · rw [decide_eq_true ⟨a, b, c⟩]; simp [c]
    · rw [if_neg b, decide_eq_false (fun h => b h.2.1)]
  · rw [if_neg a, decide_eq_false (fun h => a h.1)]
theorem sLeap (y : Int) (h : -10000 ≤ y) (h' : y ≤ 20000) (h0 : y ≠ 0) : persian_Leap.f y = some (decide (pl (ps y) = 1)) := by
  have hb := psbd y (by omega) (by omega)
  unfold persian_Leap.f
  rw [sShift y (by omega) (by omega), Option.bind_some, rMod _ 2820 (by omega) (by omega) ⟨by omega, by omega⟩, Option.bind_some, sRight, Option.bind_some, if_pos (by simp; exact ⟨h, h', h0⟩)]
  unfold pl pc
  have q2 : 0 ≤ ps y % 2820 ∧ ps y % 2820 < 2820 := by omega
  generalize ps y % 2820 = r at q2 ⊢
  rw [w64 (x := r + 474) (by omega) (by omega), w64 (x := r + 474 + 38) (by omega) (by omega), w64 (x := (r + 474 + 38) * 31) (by omega) (by omega), rMod _ 128 (by omega) (by omega) ⟨by omega, by omega⟩, Option.bind_some]
  by_cases c : (r + 474 + 38) * 31 % 128 < 31
  · simp [c]
  · simp [c]
theorem sLength (k : Nat) (hk : 1 ≤ k) (y m : Int) (h : -10000 ≤ y) (h' : y ≤ 20000) (h0 : y ≠ 0) : persian_length.f k y m = some (pdim (pl (ps y)) m) := by
  obtain ⟨k, rfl⟩ : ∃ j, k = j + 1 := ⟨k - 1, by omega⟩
  unfold persian_length.f pdim
  by_cases a : m < 1
  · rw [if_pos a, if_pos (Or.inl a)]; simp only [persian_length.j0, if_true]
  · rw [if_neg a]
    by_cases b : m > 12
    · rw [decide_eq_true b, if_pos (Or.inr (by omega))]; simp only [persian_length.j0, if_true]
    · rw [decide_eq_false b, if_neg (by omega)]
      simp only [persian_length.j0]
      rw [if_neg (by simp)]
      by_cases c : m ≤ 6
      · rw [if_pos c, if_pos c]
      · rw [if_neg c, if_neg c]
        by_cases e : m < 12
        · rw [if_pos e, if_pos e]
        · rw [if_neg e, if_neg e, sLeap y h h' h0, Option.bind_some]
          rcases pl_01 (ps y) with q | q <;> rw [q] <;> simp
theorem sFrom0 (y m d : Int) (hy : -10000 ≤ y) (hy' : y ≤ 20000) (h0 : y ≠ 0) (hm : m ≤ 12) : ∀ (j k : Nat) (n i : Int), 1 ≤ i → i ≤ m → m - i = j → j + 2 ≤ k → -30000000 ≤ n → n + 32 * j ≤ 30000000 →
    persian_FromPersian.l0 k n i y m d = some (dayOr (n + pcum m - pcum i)) := by
  intro j
  induction j with
  | zero =>
    intro k n i h1 h2 h3 h4 h5 h6
    obtain ⟨k, rfl⟩ : ∃ j, k = j + 1 := ⟨k - 1, by omega⟩
    have e : i = m := by omega
    subst e
    simp only [persian_FromPersian.l0]
    rw [if_neg (by omega), ofDay]
    congr 2; omega
  | succ j ih =>
    intro k n i h1 h2 h3 h4 h5 h6
    obtain ⟨k, rfl⟩ : ∃ j, k = j + 1 := ⟨k - 1, by omega⟩
    have hl := pdim_lo (pl (ps y)) i (pl_01 _) h1 (by omega)
    have hc := pcum_succ (pl (ps y)) i h1 (by omega)
    simp only [persian_FromPersian.l0]
    rw [if_pos (by omega), sLength k (by omega) y i hy hy' h0, Option.bind_some, w64 (x := n + pdim (pl (ps y)) i) (by omega) (by omega), w64 (x := i + 1) (by omega) (by omega), ih k _ (i + 1) (by omega) (by omega) (by omega) (by omega) (by omega) (by omega)]
    congr 2; omega
abbrev RightS (y m d : Int) : Prop := -10000 ≤ y ∧ y ≤ 20000 ∧ y ≠ 0 ∧ 1 ≤ d ∧ d ≤ pdim (pl (ps y)) m
theorem sFrom (k : Nat) (hk : 20 ≤ k) (y m d : Int) : persian_FromPersian.f k y m d = some (if RightS y m d then dayOr (pz (ps y) + pcum m + d) else (0, 2)) := by
  obtain ⟨k, rfl⟩ : ∃ j, k = j + 1 := ⟨k - 1, by omega⟩
  have key : persian_FromPersian.j0 (k + 1) true y m d = some (0, 2) := by simp only [persian_FromPersian.j0, if_true]
  unfold persian_FromPersian.f
  rw [sRight, Option.bind_some]
  by_cases a : -10000 ≤ y ∧ y ≤ 20000 ∧ y ≠ 0
  · rw [decide_eq_true a, if_pos rfl]
    obtain ⟨a1, a2, a3⟩ := a
    by_cases c : d < 1
    · rw [if_pos c, key, if_neg (fun h => by have := h.2.2.2.1; omega)]
    · rw [if_neg c, sLength (k + 1) (by omega) y m a1 a2 a3, Option.bind_some]
      by_cases e : d > pdim (pl (ps y)) m
      · rw [decide_eq_true e, key, if_neg (fun h => by have := h.2.2.2.2; omega)]
      · rw [decide_eq_false e, if_pos ⟨a1, a2, a3, by omega, by omega⟩]
        have hm := pdim_pos (pl (ps y)) m (by omega)
        have hl := pdim_lo (pl (ps y)) m (pl_01 _) hm.1 hm.2
        have hs := psbd y (by omega) (by omega)
        have hb := pzbd (ps y) (by omega) (by omega)
        simp only [persian_FromPersian.j0]
        rw [if_neg (by simp), sFirst y (by omega) (by omega), Option.bind_some, w64 (x := pz (ps y) + 1 + d) (by omega) (by omega), w64 (x := pz (ps y) + 1 + d - 1) (by omega) (by omega), sFrom0 y m d a1 a2 a3 hm.2 (m - 1).toNat k _ 1 (by omega) hm.1 (by omega) (by omega) (by omega) (by omega)]
        have e1 : pcum 1 = 0 := by decide
        rw [e1]
        congr 2; omega
  · rw [decide_eq_false a, if_neg (by simp), key, if_neg (fun h => a ⟨h.1, h.2.1, h.2.2.1⟩)]
theorem fPer (k : Nat) (hk : 1 ≤ k) (y m d : Int) (h : -40000 ≤ y) (h' : y ≤ 40000) (h0 : y ≠ 0) (hm : 1 ≤ m) (hm' : m ≤ 100) (hd : -100000 ≤ d) (hd' : d ≤ 100000) : trystref01_persian.f k y m d = some (pz (ps y) + pcum m + d) := by
  obtain ⟨k, rfl⟩ : ∃ j, k = j + 1 := ⟨k - 1, by omega⟩
  have hb := psbd y h h'
  have key : trystref01_persian.j0 (k + 1) m d (ps y) = some (pz (ps y) + pcum m + d) := by
    simp only [trystref01_persian.j0]
    rw [fMod _ 2820 (by omega) (by omega) ⟨by omega, by omega⟩, Option.bind_some, fFloor _ 2820 (by omega) (by omega) ⟨by omega, by omega⟩, Option.bind_some]
    unfold pz pc pcum
    have q1 : -20 ≤ ps y / 2820 ∧ ps y / 2820 ≤ 20 := by omega
    have q2 : 0 ≤ ps y % 2820 ∧ ps y % 2820 < 2820 := by omega
    generalize ps y / 2820 = q at q1 ⊢
    generalize ps y % 2820 = r at q2 ⊢
    rw [w64 (x := r + 474) (by omega) (by omega), w64 (x := 31 * (r + 474)) (by omega) (by omega), w64 (x := 31 * (r + 474) - 5) (by omega) (by omega), fFloor _ 128 (by omega) (by omega) ⟨by omega, by omega⟩, Option.bind_some]
    have q3 : 0 ≤ (31 * (r + 474) - 5) / 128 ∧ (31 * (r + 474) - 5) / 128 ≤ 1000 := by omega
    generalize (31 * (r + 474) - 5) / 128 = t at q3 ⊢
    rw [w64 (x := 1029983 * q) (by omega) (by omega), w64 (x := 226895 + 1029983 * q) (by omega) (by omega), w64 (x := r + 474 - 1) (by omega) (by omega), w64 (x := 365 * (r + 474 - 1)) (by omega) (by omega), w64 (x := 226895 + 1029983 * q + 365 * (r + 474 - 1)) (by omega) (by omega), w64 (x := 226895 + 1029983 * q + 365 * (r + 474 - 1) + t) (by omega) (by omega), w64 (x := 226895 + 1029983 * q + 365 * (r + 474 - 1) + t + d) (by omega) (by omega), w64 (x := m - 1) (by omega) (by omega)]
    by_cases c : m ≤ 7
    · rw [if_pos c, if_pos c, w64 (x := 31 * (m - 1)) (by omega) (by omega), w64 (by omega) (by omega)]
      congr 1; omega
    · rw [if_neg c, if_neg c, w64 (x := 30 * (m - 1)) (by omega) (by omega), w64 (x := 226895 + 1029983 * q + 365 * (r + 474 - 1) + t + d + 30 * (m - 1)) (by omega) (by omega), w64 (by omega) (by omega)]
      congr 1; omega
  unfold trystref01_persian.f
  by_cases c : y < 0
  · have e : ps y = y - 473 := by unfold ps; rw [if_neg (by omega)]
    rw [if_pos c, w64 (x := y - 473) (by omega) (by omega), ← e, key]
  · have e : ps y = y - 474 := by unfold ps; rw [if_pos (by omega)]
    rw [if_neg c, w64 (x := y - 474) (by omega) (by omega), ← e, key]
theorem fFixed5 (k : Nat) (hk : 1 ≤ k) (y m d : Int) (h : -40000 ≤ y) (h' : y ≤ 40000) (h0 : y ≠ 0) (hm : 1 ≤ m) (hm' : m ≤ 100) (hd : -100000 ≤ d) (hd' : d ≤ 100000) : trystref01_Fixed.f k 5 y m d = some (pz (ps y) + pcum m + d) := by
  unfold trystref01_Fixed.f
  rw [if_neg (by omega), if_neg (by omega), if_neg (by omega), if_neg (by omega), if_neg (by omega), if_pos rfl, fPer k hk y m d h h' h0 hm hm' hd hd', Option.bind_some]
theorem fNext5 (y : Int) (h : -40000 ≤ y) (h' : y < 40000) : trystref01_next.f 5 y = some (pn y) := by
  unfold trystref01_next.f pn
  rw [if_pos rfl]
  by_cases c : y = -1
  · rw [if_pos c, if_pos c]
  · rw [if_neg c, if_neg c, w64 (by omega) (by omega)]
theorem fLength5 (k : Nat) (hk : 2 ≤ k) (y m : Int) (h : -10000 ≤ y) (h' : y ≤ 20000) (h0 : y ≠ 0) : trystref01_Length.f k 5 y m = some (pdim (pl (ps y)) m) := by
  obtain ⟨k, rfl⟩ : ∃ j, k = j + 1 := ⟨k - 1, by omega⟩
  have hM : ∀ k, trystref01_Months.f k 5 y = some 12 := fun k => by
    unfold trystref01_Months.f
    rw [if_neg (by omega), if_neg (by omega), if_neg (by omega)]
  have hs := psbd y (by omega) (by omega)
  have hb := pzbd (ps y) (by omega) (by omega)
  have hb1 := pzbd (ps y + 1) (by omega) (by omega)
  unfold trystref01_Length.f
  by_cases a : m < 1
  · rw [if_pos a]; simp only [trystref01_Length.j0, if_true]; unfold pdim; rw [if_pos (Or.inl a)]
  · rw [if_neg a, hM, Option.bind_some]
    by_cases b : m > 12
    · rw [decide_eq_true b]; simp only [trystref01_Length.j0, if_true]; unfold pdim; rw [if_pos (Or.inr (by omega))]
    · rw [decide_eq_false b]
      simp only [trystref01_Length.j0]
      have hl := pdim_lo (pl (ps y)) m (pl_01 _) (by omega) (by omega)
      have hc0 := pcum_bd (show 1 ≤ m by omega) (by omega)
      rw [if_neg (by simp), if_neg (by omega), if_neg (by omega), hM, Option.bind_some]
      by_cases c : m < 12
      · have hc := pcum_succ (pl (ps y)) m (by omega) c
        rw [if_pos c, w64 (x := m + 1) (by omega) (by omega), fFixed5 k (by omega) y (m + 1) 1 (by omega) (by omega) h0 (by omega) (by omega) (by omega) (by omega), Option.bind_some, fFixed5 k (by omega) y m 1 (by omega) (by omega) h0 (by omega) (by omega) (by omega) (by omega), Option.bind_some, w64 (by omega) (by omega)]
        congr 1; omega
      · have e : m = 12 := by omega
        subst e
        obtain ⟨p1, p2⟩ := pn_ps h0
        have hpn : -10000 ≤ pn y ∧ pn y ≤ 20001 := by unfold pn; split <;> omega
        have hbg : trystref01_begins.f k 5 (pn y) = some (pz (ps y + 1) + pcum 1 + 1) := by
          unfold trystref01_begins.f
          rw [if_neg (by omega), fFixed5 k (by omega) (pn y) 1 1 (by omega) (by omega) p2 (by omega) (by omega) (by omega) (by omega), Option.bind_some, p1]
        have e1 : pcum 1 = 0 := by decide
        have e2 := pcum_end (pl (ps y))
        have e3 := pz_succ (ps y)
        have e4 := pl_01 (ps y)
        rw [if_neg c, fNext5 y (by omega) (by omega), Option.bind_some, hbg, Option.bind_some, fFixed5 k (by omega) y 12 1 (by omega) (by omega) h0 (by omega) (by omega) (by omega) (by omega), Option.bind_some, w64 (by omega) (by omega)]
        congr 1; omega
theorem ref5 (k : Nat) (hk : 20 ≤ k) (y m d : Int) : trystref01_Day.f k 5 y m d = some (if RightS y m d then dayOr (pz (ps y) + pcum m + d) else (0, 2)) := by
  have hY : trystref01_years.f 5 = some (-10000, 20000) := by decide
  rw [refDay k 5 y m d (-10000) 20000 (pdim (pl (ps y)) m) (pz (ps y) + pcum m + d) hY (fun a b c => fLength5 k (by omega) y m a b (by omega)) (fun a b c e f => by
    have hm := pdim_pos (pl (ps y)) m (by omega)
    have hl := pdim_lo (pl (ps y)) m (pl_01 _) hm.1 hm.2
    exact fFixed5 k (by omega) y m d (by omega) (by omega) (by omega) hm.1 (by omega) (by omega) (by omega))]
  by_cases c : RightS y m d
  · rw [if_pos c]
    obtain ⟨c1, c2, c3, c4, c5⟩ := c
    rw [if_pos ⟨c1, c2, fun h => c3 h.2, c4, c5⟩]
  · rw [if_neg c, if_neg (fun h => c ⟨h.1, h.2.1, fun z => h.2.2.1 ⟨rfl, z⟩, h.2.2.2.1, h.2.2.2.2⟩)]
/-- The two are one. -/
theorem persian (k : Nat) (hk : 20 ≤ k) (y m d : Int) : persian_FromPersian.f k y m d = trystref01_Day.f k 5 y m d := by rw [sFrom k hk, ref5 k hk]
end Go.Proofs.YtgbbgcepcnklkaaDoor.FunS
/- Plain laws of the Hebrew calendar over whole numbers: no program in sight. -/
namespace Go.Proofs.YtgbbgcepcnklkaaDoor.CalH
open Go.RowKit Go.Proofs.YtgbbgcepcnklkaaDoor.Cal
/-- Months, days ahead of a Hebrew year. -/
def hm (y : Int) : Int := (235 * y - 234) / 19
def h0 (y : Int) : Int := 29 * hm y + (12084 + 13753 * hm y) / 25920
def he (y : Int) : Int := if (3 * (h0 y + 1)) % 7 < 3 then h0 y + 1 else h0 y
/-- The day with which a Hebrew year begins, less one. -/
def hb (y : Int) : Int := (if he (y + 1) - he y = 356 then he y + 2 else if he y - he (y - 1) = 382 then he y + 1 else he y) - 1373428
/-- 1 in a leap year, else 0. -/
def hl (y : Int) : Int := if (7 * y + 1) % 19 < 7 then 1 else 0
theorem hl_01 (y : Int) : hl y = 0 ∨ hl y = 1 := by unfold hl; split <;> simp
def hd (y : Int) : Int := hb (y + 1) - hb y

def run (f : Nat → Bool) : Nat → Nat → Bool
  | 0, lo => f lo
  | n + 1, lo => run f n lo && run f n (lo + 2 ^ n)
/-- Days of a Hebrew month; l: 1 in a leap year; n: days of the year. -/
def hx (l n m : Int) : Int := if m = 2 ∨ m = 4 ∨ m = 6 ∨ m = 10 ∨ m = 13 ∨ (m = 12 ∧ l = 0) ∨ (m = 8 ∧ n ≠ 355 ∧ n ≠ 385) ∨ (m = 9 ∧ (n = 353 ∨ n = 383)) then 29 else 30
theorem hx_bd (l n m : Int) : 29 ≤ hx l n m ∧ hx l n m ≤ 30 := by unfold hx; split <;> omega
/-- Days of the months from 7 on, ahead of one. -/
def ha (l n m : Int) : Int := if m ≤ 7 then 0 else if m ≤ 8 then 30 else if m ≤ 9 then 30 + hx l n 8 else if m ≤ 10 then 30 + hx l n 8 + hx l n 9 else if m ≤ 11 then 59 + hx l n 8 + hx l n 9 else if m ≤ 12 then 89 + hx l n 8 + hx l n 9 else if m ≤ 13 then 89 + hx l n 8 + hx l n 9 + hx l n 12 else 118 + hx l n 8 + hx l n 9 + hx l n 12
theorem ha_succ (l n m : Int) (h1 : 7 ≤ m) (h2 : m ≤ 13) : ha l n (m + 1) = ha l n m + hx l n m := by
  have h7 : hx l n 7 = 30 := by simp [hx]
  have h10 : hx l n 10 = 29 := by simp [hx]
  have h11 : hx l n 11 = 30 := by simp [hx]
  have h13 : hx l n 13 = 29 := by simp [hx]
  rcases (by omega : m = 7 ∨ m = 8 ∨ m = 9 ∨ m = 10 ∨ m = 11 ∨ m = 12 ∨ m = 13) with h | h | h | h | h | h | h <;> subst h <;> simp [ha] <;> omega
/-- Days of the months from 1 on, ahead of one. -/
def hz (m : Int) : Int := if m ≤ 1 then 0 else if m ≤ 2 then 30 else if m ≤ 3 then 59 else if m ≤ 4 then 89 else if m ≤ 5 then 118 else if m ≤ 6 then 148 else 177
theorem hz_succ (l n m : Int) (h1 : 1 ≤ m) (h2 : m ≤ 6) : hz (m + 1) = hz m + hx l n m := by
  rcases (by omega : m = 1 ∨ m = 2 ∨ m = 3 ∨ m = 4 ∨ m = 5 ∨ m = 6) with h | h | h | h | h | h <;> subst h <;> simp [hz, hx]
/-- Days of a Hebrew year ahead of a month. -/
def hc (l n m : Int) : Int := if m < 7 then ha l n (13 + l) + hz m else ha l n m
/-- The month behind one. -/
def hn (l m : Int) : Int := if m = 12 + l then 1 else m + 1
end Go.Proofs.YtgbbgcepcnklkaaDoor.CalH
