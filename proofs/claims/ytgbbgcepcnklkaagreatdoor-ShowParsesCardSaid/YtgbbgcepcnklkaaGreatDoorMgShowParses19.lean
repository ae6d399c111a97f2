/- Texts of this claim, merged: FunRd, FunD, QisoB, FunI. -/
import Derived.Test.YtgbbgcepcnklkaaGreatDoorMgShowParses17
import Derived.Test.YtgbbgcepcnklkaaGreatDoorMgShowParses18
import Derived.Test.YtgbbgcepcnklkaaGreatDoorMgShowParses12
import Derived.Test.YtgbbgcepcnklkaaGreatDoorMgShowParses1
import Derived.Test.YtgbbgcepcnklkaaGreatDoorMgShowParses3
import Derived.Test.YtgbbgcepcnklkaaGreatDoorMgShowParses5
/- The reference's Date in the Hebrew (3), the Islamic (4) and the Persian (5) calendar. -/
namespace Go.Proofs.YtgbbgcepcnklkaaGreatDoor.FunRd
open Go.RowKit Go.Proofs.YtgbbgcepcnklkaaGreatDoorW.PrintWords Go.Proofs.YtgbbgcepcnklkaaGreatDoorW.PrintLast Go.Proofs.YtgbbgcepcnklkaaGreatDoor.Q Go.Proofs.YtgbbgcepcnklkaaGreatDoor.Cal Go.Proofs.YtgbbgcepcnklkaaGreatDoor.FunA Go.Proofs.YtgbbgcepcnklkaaGreatDoor.FunB Go.Proofs.YtgbbgcepcnklkaaGreatDoor.FunJ Go.Proofs.YtgbbgcepcnklkaaGreatDoor.Cal3 Go.Proofs.YtgbbgcepcnklkaaGreatDoor.FunMd
set_option linter.unusedVariables false
set_option linter.unusedSimpArgs false
/-- The search for the year, where years follow one another by one. -/
theorem searchA (c : Int) (n5 : c ≠ 5) (B : Int → Int) (hN : ∀ y, -801 ≤ y → y ≤ 15000 → trystref01_next.f c y = some (y + 1)) (lo : Int) (hlo : -801 ≤ lo) (hB : ∀ k y, lo ≤ y → y ≤ 15000 → trystref01_begins.f k c y = some (B y + 1)) (day : Int) (K : Nat) :
  ∀ (n k : Nat) (a b : Int), K + 2 * n + 1 ≤ k → a < b → b - a ≤ (n : Int) + 1 → lo ≤ a → b ≤ 15000 → B a < day → day ≤ B b →
  ∃ (y : Int) (k' : Nat), a ≤ y ∧ y < b ∧ B y < day ∧ day ≤ B (y + 1) ∧ K ≤ k' ∧ trystref01_Date.l0 k c day a b = trystref01_Date.l0 (k' + 1) c day y (y + 1) := by
 intro n
 induction n with
 | zero =>
  intro k a b h1 h2 h3 h4 h5 h6 h7
  obtain ⟨k, rfl⟩ : ∃ j, k = j + 1 := ⟨k - 1, by omega⟩
  have e : b = a + 1 := by omega
  subst e
  exact ⟨a, k, by omega, by omega, h6, h7, by omega, rfl⟩
 | succ n ih =>
  intro k a b h1 h2 h3 h4 h5 h6 h7
  by_cases c1 : a + 1 < b
  ·obtain ⟨k, rfl⟩ : ∃ j, k = j + 2 := ⟨k - 2, by omega⟩
   have step : trystref01_Date.l0 (k + 2) c day a b = if B ((a + b) / 2) + 1 ≤ day then trystref01_Date.l0 k c day ((a + b) / 2) b else trystref01_Date.l0 k c day a ((a + b) / 2) := by
    simp only [trystref01_Date.l0]
    rw [hN a (by omega) (by omega), Option.bind_some, if_pos c1, w64 (by omega) (by omega), fFloor _ 2 (by omega) (by omega) ⟨by omega, by omega⟩, Option.bind_some, if_neg n5]
    simp only [trystref01_Date.j1]
    rw [if_neg (by simp), hB k _ (by omega) (by omega), Option.bind_some]
   rw [step]
   by_cases c2 : B ((a + b) / 2) + 1 ≤ day
   ·rw [if_pos c2]
    obtain ⟨y, k', r1, r2, r3, r4, r5, r6⟩ := ih k ((a + b) / 2) b (by omega) (by omega) (by omega) (by omega) h5 (by omega) h7
    exact ⟨y, k', by omega, r2, r3, r4, r5, r6⟩
   ·rw [if_neg c2]
    obtain ⟨y, k', r1, r2, r3, r4, r5, r6⟩ := ih k a ((a + b) / 2) (by omega) (by omega) (by omega) h4 (by omega) h6 (by omega)
    exact ⟨y, k', r1, by omega, r3, r4, r5, r6⟩
  ·obtain ⟨k, rfl⟩ : ∃ j, k = j + 1 := ⟨k - 1, by omega⟩
   have e : b = a + 1 := by omega
   subst e
   exact ⟨a, k, by omega, by omega, h6, h7, by omega, rfl⟩
/-- .. and where the year 0 is missing. -/
theorem searchP (day : Int) (K : Nat) (hK : 1 ≤ K) :
  ∀ (n k : Nat) (a b : Int), K + 2 * n + 1 ≤ k → a < b → b - a ≤ (n : Int) + 1 → -801 ≤ a → b ≤ 15000 → a ≠ 0 → b ≠ 0 → pz (ps a) < day → day ≤ pz (ps b) →
  ∃ (y : Int) (k' : Nat), a ≤ y ∧ y < b ∧ y ≠ 0 ∧ pz (ps y) < day ∧ day ≤ pz (ps y + 1) ∧ K ≤ k' ∧ trystref01_Date.l0 k 5 day a b = trystref01_Date.l1 k' 5 day y 1 := by
 have e1 : pcum 1 = 0 := by decide
 have hB : ∀ (k : Nat) y, 1 ≤ k → -801 ≤ y → y ≤ 15000 → y ≠ 0 → trystref01_begins.f k 5 y = some (pz (ps y) + 1) := by
  intro k y hk h1 h2 h3
  unfold trystref01_begins.f
  rw [if_neg (by omega), FunS.fFixed5 k hk y 1 1 (by omega) (by omega) h3 (by omega) (by omega) (by omega) (by omega), Option.bind_some, e1]
  congr 1; omega
 intro n
 have stop : ∀ (k : Nat) (a b : Int), K + 1 ≤ k → a < b → -801 ≤ a → b ≤ 15000 → a ≠ 0 → b ≠ 0 → pz (ps a) < day → day ≤ pz (ps b) → ¬ pn a < b →
   ∃ (y : Int) (k' : Nat), a ≤ y ∧ y < b ∧ y ≠ 0 ∧ pz (ps y) < day ∧ day ≤ pz (ps y + 1) ∧ K ≤ k' ∧ trystref01_Date.l0 k 5 day a b = trystref01_Date.l1 k' 5 day y 1 := by
  intro k a b h1 h2 h4 h5 z1 z2 h6 h7 hn
  obtain ⟨k, rfl⟩ : ∃ j, k = j + 1 := ⟨k - 1, by omega⟩
  have e : b = pn a := by unfold pn at hn ⊢; split at hn <;> split <;> omega
  obtain ⟨p1, p2⟩ := pn_ps z1
  refine ⟨a, k, by omega, h2, z1, h6, by rw [← p1, ← e]; exact h7, by omega, ?_⟩
  simp only [trystref01_Date.l0]
  rw [FunS.fNext5 a (by omega) (by omega), Option.bind_some, if_neg hn, if_neg (by omega)]
 induction n with
 | zero =>
  intro k a b h1 h2 h3 h4 h5 z1 z2 h6 h7
  exact stop k a b (by omega) h2 h4 h5 z1 z2 h6 h7 (by unfold pn; split <;> omega)
 | succ n ih =>
  intro k a b h1 h2 h3 h4 h5 z1 z2 h6 h7
  by_cases c1 : pn a < b
  ·obtain ⟨k, rfl⟩ : ∃ j, k = j + 2 := ⟨k - 2, by omega⟩
   have hab : a + 2 ≤ b := by unfold pn at c1; split at c1 <;> omega
   obtain ⟨m, m1, m2, m3, step⟩ : ∃ m, a < m ∧ m < b ∧ m ≠ 0 ∧ trystref01_Date.l0 (k + 2) 5 day a b = if pz (ps m) + 1 ≤ day then trystref01_Date.l0 k 5 day m b else trystref01_Date.l0 k 5 day a m := by
    have head : trystref01_Date.l0 (k + 2) 5 day a b = trystref01_Date.j1 (k + 1) 5 day a b ((a + b) / 2) ((a + b) / 2 == 0) := by
     simp only [trystref01_Date.l0]
     rw [FunS.fNext5 a (by omega) (by omega), Option.bind_some, if_pos c1, w64 (by omega) (by omega), fFloor _ 2 (by omega) (by omega) ⟨by omega, by omega⟩, Option.bind_some]
     simp only [if_true]
    by_cases q : (a + b) / 2 = 0
    ·have qb : ((a + b) / 2 == 0) = true := beq_iff_eq.2 q
     by_cases r : a = -1
     ·refine ⟨1, by omega, ?_, by omega, ?_⟩
      ·unfold pn at c1; rw [if_pos r] at c1; exact c1
      ·rw [head, qb]
       simp only [trystref01_Date.j1, if_true]
       rw [if_pos r, hB k 1 (by omega) (by omega) (by omega) (by omega), Option.bind_some]
     ·refine ⟨-1, by omega, by omega, by omega, ?_⟩
      rw [head, qb]
      simp only [trystref01_Date.j1, if_true]
      rw [if_neg r, hB k (-1) (by omega) (by omega) (by omega) (by omega), Option.bind_some]
    ·have qb : ((a + b) / 2 == 0) = false := beq_eq_false_iff_ne.2 q
     refine ⟨(a + b) / 2, by omega, by omega, q, ?_⟩
     rw [head, qb]
     simp only [trystref01_Date.j1]
     rw [if_neg (by simp), hB k _ (by omega) (by omega) (by omega) q, Option.bind_some]
   rw [step]
   by_cases c2 : pz (ps m) + 1 ≤ day
   ·rw [if_pos c2]
    obtain ⟨y, k', r1, r2, r3, r4, r5, r6, r7⟩ := ih k m b (by omega) m2 (by omega) (by omega) h5 m3 z2 (by omega) h7
    exact ⟨y, k', by omega, r2, r3, r4, r5, r6, r7⟩
   ·rw [if_neg c2]
    obtain ⟨y, k', r1, r2, r3, r4, r5, r6, r7⟩ := ih k a m (by omega) m1 (by omega) h4 (by omega) z1 m3 h6 (by omega)
    exact ⟨y, k', r1, by omega, r3, r4, r5, r6, r7⟩
  ·exact stop k a b (by omega) h2 h4 h5 z1 z2 h6 h7 c1
/-- The loop over twelve months. -/
theorem months (c y : Int) (F : Int → Int) (hM : ∀ k, trystref01_Months.f k c y = some 12) (hF : ∀ (k : Nat) m, 1 ≤ k → 1 ≤ m → m ≤ 12 → trystref01_Fixed.f k c y m 1 = some (F m + 1)) (hb : ∀ m, 1 ≤ m → m ≤ 12 → -30000000 ≤ F m ∧ F m ≤ 30000000) (day : Int) (hd : In day) :
  ∀ (j k : Nat) (m : Int), 1 ≤ m → m ≤ 12 → 12 - m = j → j + 2 ≤ k → F m < day → ∃ m', m ≤ m' ∧ m' ≤ 12 ∧ F m' < day ∧ (m' < 12 → day ≤ F (m' + 1)) ∧ trystref01_Date.l1 k c day y m = some (y, m', day - F m', 0) := by
 obtain ⟨d1, d2⟩ := hd
 intro j
 induction j with
 | zero =>
  intro k m h1 h2 h3 h4 h5
  obtain ⟨k, rfl⟩ : ∃ j, k = j + 1 := ⟨k - 1, by omega⟩
  have hbm := hb m h1 h2
  refine ⟨m, by omega, h2, h5, fun h => by omega, ?_⟩
  simp only [trystref01_Date.l1]
  rw [hM, Option.bind_some, if_neg (by omega), hF k m (by omega) h1 h2, Option.bind_some, w64 (x := day - (F m + 1)) (by omega) (by omega), w64 (by omega) (by omega)]
  have e : day - (F m + 1) + 1 = day - F m := by omega
  rw [e]
 | succ j ih =>
  intro k m h1 h2 h3 h4 h5
  obtain ⟨k, rfl⟩ : ∃ j, k = j + 1 := ⟨k - 1, by omega⟩
  have hbm := hb m h1 h2
  simp only [trystref01_Date.l1]
  rw [hM, Option.bind_some, if_pos (by omega), w64 (x := m + 1) (by omega) (by omega), hF k (m + 1) (by omega) (by omega) (by omega), Option.bind_some]
  by_cases c2 : F (m + 1) + 1 ≤ day
  ·rw [if_pos c2]
   obtain ⟨m', r1, r2, r3, r4, r5⟩ := ih k (m + 1) (by omega) (by omega) (by omega) (by omega) (by omega)
   exact ⟨m', by omega, r2, r3, r4, r5⟩
  ·refine ⟨m, by omega, h2, h5, fun _ => by omega, ?_⟩
   rw [if_neg c2, hF k m (by omega) h1 h2, Option.bind_some, w64 (x := day - (F m + 1)) (by omega) (by omega), w64 (by omega) (by omega)]
   have e : day - (F m + 1) + 1 = day - F m := by omega
   rw [e]
theorem months45 (k : Nat) (c y : Int) (h : c = 4 ∨ c = 5) : trystref01_Months.f k c y = some 12 := by
 unfold trystref01_Months.f
 rw [if_neg (by omega), if_neg (by omega), if_neg (by omega)]
theorem date4 (k : Nat) (hk : 40000 ≤ k) (day : Int) (hd : In day) : ∃ y m d, trystref01_Date.f k 4 day = some (y, m, d, 0) ∧ IsI y m d day := by
 have e1 : ic 1 = 0 := by decide
 have hN : ∀ y, -801 ≤ y → y ≤ 15000 → trystref01_next.f 4 y = some (y + 1) := by
  intro y _ _
  unfold trystref01_next.f
  rw [if_neg (by omega), w64 (by omega) (by omega)]
 have hB : ∀ (k : Nat) y, (-800 : Int) ≤ y → y ≤ 15000 → trystref01_begins.f k 4 y = some (ib y + 1) := by
  intro k y _ _
  unfold trystref01_begins.f
  rw [if_neg (by omega), FunM.fFixed4 k y 1 1 (by omega) (by omega) (by omega) (by omega) (by omega) (by omega), Option.bind_some, e1]
  congr 1; omega
 have b0 : ib (-800) < 1 ∧ 3652059 ≤ ib 15000 := by decide
 obtain ⟨y, k', r1, r2, r3, r4, r5, r6⟩ := searchA 4 (by omega) ib hN (-800) (by omega) hB day 100 15800 k (-800) 15000 (by omega) (by omega) (by omega) (by omega) (by omega) (by have := hd.1; omega) (by have := hd.2; omega)
 have l01 := li_01 y
 have hs := ib_succ y
 have hbd := FunM.ibd y (by omega) (by omega)
 obtain ⟨m', s1, s2, s3, s4, s5⟩ := months 4 y (fun m => ib y + ic m) (fun k => months45 k 4 y (Or.inl rfl)) (fun k m _ a b => FunM.fFixed4 k y m 1 (by omega) (by omega) a (by omega) (by omega) (by omega)) (fun m a b => by have := ic_bd a (show m ≤ 13 by omega); omega) day hd 11 k' 1 (by omega) (by omega) (by omega) (by omega) (by rw [e1]; omega)
 refine ⟨y, m', day - (ib y + ic m'), ?_, ⟨s1, s2, by omega, ?_, by omega⟩⟩
 ·unfold trystref01_Date.f
  have hl : trystref01_least.f 4 = some (-800) := by decide
  rw [fIn_yes hd, Option.bind_some, if_pos rfl, hl, Option.bind_some, r6]
  simp only [trystref01_Date.l0]
  rw [hN y (by omega) (by omega), Option.bind_some, if_neg (by omega), if_neg (by omega), s5]
 ·by_cases e : m' < 12
  ·have h1 := s4 e
   have h2 := ic_succ (li y) m' s1 e
   omega
  ·have e12 : m' = 12 := by omega
   have h2 := ic_end (li y)
   subst e12; omega
theorem date5 (k : Nat) (hk : 40000 ≤ k) (day : Int) (hd : In day) : ∃ y m d, trystref01_Date.f k 5 day = some (y, m, d, 0) ∧ y ≠ 0 ∧ IsP y m d day := by
 have e1 : pcum 1 = 0 := by decide
 have b0 : pz (ps (-800)) < 1 ∧ 3652059 ≤ pz (ps 15000) := by decide
 obtain ⟨y, k', r1, r2, r3, r4, r5, r6, r7⟩ := searchP day 100 (by omega) 15800 k (-800) 15000 (by omega) (by omega) (by omega) (by omega) (by omega) (by omega) (by omega) (by have := hd.1; omega) (by have := hd.2; omega)
 have l01 := pl_01 (ps y)
 have hs := pz_succ (ps y)
 have hps := FunS.psbd y (by omega) (by omega)
 have hbd := FunS.pzbd (ps y) (by omega) (by omega)
 obtain ⟨m', s1, s2, s3, s4, s5⟩ := months 5 y (fun m => pz (ps y) + pcum m) (fun k => months45 k 5 y (Or.inr rfl)) (fun k m hk a b => FunS.fFixed5 k hk y m 1 (by omega) (by omega) r3 a (by omega) (by omega) (by omega)) (fun m a b => by have := pcum_bd a (show m ≤ 13 by omega); omega) day hd 11 k' 1 (by omega) (by omega) (by omega) (by omega) (by rw [e1]; omega)
 refine ⟨y, m', day - (pz (ps y) + pcum m'), ?_, r3, ⟨s1, s2, by omega, ?_, by omega⟩⟩
 ·unfold trystref01_Date.f
  have hl : trystref01_least.f 5 = some (-800) := by decide
  rw [fIn_yes hd, Option.bind_some, if_pos rfl, hl, Option.bind_some, r7, s5]
 ·by_cases e : m' < 12
  ·have h1 := s4 e
   have h2 := pcum_succ (pl (ps y)) m' s1 e
   omega
  ·have e12 : m' = 12 := by omega
   have h2 := pcum_end (pl (ps y))
   subst e12; omega
section
open Go.Proofs.YtgbbgcepcnklkaaGreatDoor.CalH (hb hl hl_01 hd hb_le hx hx_bd hc)
theorem hebrewDate (y M D day : Int) (hy : 1 ≤ y) (hy' : y ≤ 19990) (hd0 : In day) (h : IsH y M D day) : ∀ (j k : Nat) (m : Int), 1 ≤ m → m ≤ M → M - m = j → j + 35 ≤ k →
  ∃ m' d', trystref01_hebrewDate.l0 k y day m = some (y, m', d') ∧ IsH y m' d' day := by
 obtain ⟨d1, d2⟩ := hd0
 have l01 := hl_01 y
 have hbb := FunH.hb_bd y (by omega) (by omega)
 have g1 := h.m1; have g2 := h.m2; have g3 := h.d1; have g4 := h.d2; have g5 := h.e
 have one : ∀ (k : Nat) (m : Int), 34 ≤ k → 1 ≤ m → m ≤ 12 + hl y → 0 ≤ hc (hl y) (hd y) m → hc (hl y) (hd y) m ≤ 400 → trystref01_hebrewDate.l0 (k + 1) y day m =
   if day - (hb y + hc (hl y) (hd y) m + 1) ≥ 0 ∧ day - (hb y + hc (hl y) (hd y) m + 1) < hx (hl y) (hd y) m then some (y, m, day - (hb y + hc (hl y) (hd y) m)) else trystref01_hebrewDate.l0 k y day (m + 1) := by
  intro k m hk h1 h2 z1 z2
  have hbx := hx_bd (hl y) (hd y) m
  simp only [trystref01_hebrewDate.l0]
  rw [FunH.fMonths3 k y (by omega) (by omega), Option.bind_some, if_pos h2, FunH.fHeb k (by omega) y m 1 hy (by omega) h1 h2 (by omega) (by omega), Option.bind_some, w64 (x := day - (hb y + hc (hl y) (hd y) m + 1)) (by omega) (by omega)]
  by_cases a : day - (hb y + hc (hl y) (hd y) m + 1) ≥ 0
  ·rw [if_pos a, FunH.fMonth y m hy (by omega) h1 (by omega), Option.bind_some]
   by_cases b : day - (hb y + hc (hl y) (hd y) m + 1) < hx (hl y) (hd y) m
   ·rw [if_pos b, if_pos ⟨a, b⟩, w64 (by omega) (by omega)]
    have e : day - (hb y + hc (hl y) (hd y) m + 1) + 1 = day - (hb y + hc (hl y) (hd y) m) := by omega
    rw [e]
   ·rw [if_neg b, if_neg (fun q => b q.2), w64 (by omega) (by omega)]
  ·rw [if_neg a, if_neg (fun q => a q.1), w64 (by omega) (by omega)]
 have hcb : ∀ m, 1 ≤ m → m ≤ 12 + hl y → 0 ≤ hc (hl y) (hd y) m ∧ hc (hl y) (hd y) m ≤ 400 := by
  intro m h1 h2
  have a := hc_nonneg (hl y) (hd y) m h1
  have hs := CalH.hd_set y hy (by omega)
  have b := hc_top (hl y) (hd y) hs m h1 h2
  have := hx_bd (hl y) (hd y) m
  omega
 intro j
 induction j with
 | zero =>
  intro k m h1 h2 h3 h4
  obtain ⟨k, rfl⟩ : ∃ j, k = j + 1 := ⟨k - 1, by omega⟩
  have e : m = M := by omega
  subst e
  have z := hcb m h1 (by omega)
  rw [one k m (by omega) h1 (by omega) z.1 z.2, if_pos (by omega)]
  exact ⟨m, _, rfl, ⟨h1, g2, by omega, by omega, by omega⟩⟩
 | succ j ih =>
  intro k m h1 h2 h3 h4
  obtain ⟨k, rfl⟩ : ∃ j, k = j + 1 := ⟨k - 1, by omega⟩
  have z := hcb m h1 (by omega)
  rw [one k m (by omega) h1 (by omega) z.1 z.2]
  by_cases c : day - (hb y + hc (hl y) (hd y) m + 1) ≥ 0 ∧ day - (hb y + hc (hl y) (hd y) m + 1) < hx (hl y) (hd y) m
  ·rw [if_pos c]
   exact ⟨m, _, rfl, ⟨h1, by omega, by omega, by omega, by omega⟩⟩
  ·rw [if_neg c]
   exact ih k (m + 1) (by omega) (by omega) (by omega) (by omega)
theorem date3 (k : Nat) (hk : 40000 ≤ k) (day : Int) (hd0 : In day) : ∃ y m d, trystref01_Date.f k 3 day = some (y, m, d, 0) ∧ 1 ≤ y ∧ y ≤ 19990 ∧ IsH y m d day := by
 have hN : ∀ y, -801 ≤ y → y ≤ 15000 → trystref01_next.f 3 y = some (y + 1) := by
  intro y _ _
  unfold trystref01_next.f
  rw [if_neg (by omega), w64 (by omega) (by omega)]
 have hB : ∀ (k : Nat) y, (3000 : Int) ≤ y → y ≤ 15000 → trystref01_begins.f k 3 y = some (hb y + 1) := by
  intro k y _ _
  unfold trystref01_begins.f
  rw [if_pos rfl, FunH.fNew y (by omega) (by omega), Option.bind_some]
 have b0 : hb 3000 < 1 ∧ 3652059 ≤ hb 15000 := by decide +kernel
 obtain ⟨y, k', r1, r2, r3, r4, r5, r6⟩ := searchA 3 (by omega) hb hN 3000 (by omega) hB day 100 12000 k 3000 15000 (by omega) (by omega) (by omega) (by omega) (by omega) (by have := hd0.1; omega) (by have := hd0.2; omega)
 obtain ⟨yp, M, D, _, p1, p2, hI⟩ := hDate_yes 120 (by omega) day hd0
 have hyr := hI.year p1 (by omega)
 have ey : yp = y := by
  by_cases b : yp < y
  ·have := hb_le (show yp + 1 ≤ y by omega) (by omega) (by omega); omega
  ·by_cases b' : y < yp
   ·have := hb_le (show y + 1 ≤ yp by omega) (by omega) (by omega); omega
   ·omega
 subst ey
 have g1 := hI.m1; have g2 := hI.m2; have l01 := hl_01 yp
 obtain ⟨m', d', s1, s2⟩ := hebrewDate yp M D day p1 p2 hd0 hI (M - 1).toNat k' 1 (by omega) g1 (by omega) (by omega)
 refine ⟨yp, m', d', ?_, p1, p2, s2⟩
 unfold trystref01_Date.f
 have hls : trystref01_least.f 3 = some 3000 := by decide
 rw [fIn_yes hd0, Option.bind_some, if_pos rfl, hls, Option.bind_some, r6]
 simp only [trystref01_Date.l0]
 rw [hN yp (by omega) (by omega), Option.bind_some, if_neg (by omega)]
 simp only [if_true]
 unfold trystref01_hebrewDate.f
 rw [s1, Option.bind_some]
end
end Go.Proofs.YtgbbgcepcnklkaaGreatDoor.FunRd
/- What the reference's Date tells: the date of a day in the Gregorian (0), Julian (1), ISO (2) and Coptic (6) calendar. -/
namespace Go.Proofs.YtgbbgcepcnklkaaGreatDoor.FunD
open Go.RowKit Go.Proofs.YtgbbgcepcnklkaaGreatDoorW.PrintWords Go.Proofs.YtgbbgcepcnklkaaGreatDoorW.PrintLast Go.Proofs.YtgbbgcepcnklkaaGreatDoor.Q Go.Proofs.YtgbbgcepcnklkaaGreatDoor.Cal Go.Proofs.YtgbbgcepcnklkaaGreatDoor.FunA Go.Proofs.YtgbbgcepcnklkaaGreatDoor.FunB
theorem fSearch (c : Int) (hc : Four c) (day : Int) (K : Nat) (hK : 8 ≤ K) : ∀ (n k : Nat) (a b : Int), K + 2 * n + 1 ≤ k → a < b → b - a ≤ 2 ^ n → -801 ≤ a → b ≤ 15000 →
  fx c a 1 < day → day ≤ fx c b 1 → ∃ (y : Int) (k' : Nat), a ≤ y ∧ y < b ∧ fx c y 1 < day ∧ day ≤ fx c (y + 1) 1 ∧ K ≤ k' ∧ trystref01_Date.l0 k c day a b = trystref01_Date.l1 k' c day y 1 := by
 have n3 : ¬ c = 3 := by rcases hc with rfl | rfl | rfl | rfl <;> omega
 have n5 : ¬ c = 5 := by rcases hc with rfl | rfl | rfl | rfl <;> omega
 intro n
 induction n with
 | zero =>
  intro k a b h1 h2 h3 h4 h5 h6 h7
  obtain ⟨k, rfl⟩ : ∃ j, k = j + 1 := ⟨k - 1, by omega⟩
  have e : b = a + 1 := by simp at h3; omega
  subst e
  refine ⟨a, k, by omega, by omega, h6, h7, by omega, ?_⟩
  simp only [trystref01_Date.l0]
  rw [fNext c a hc (by omega) (by omega), Option.bind_some, if_neg (by omega), if_neg n3]
 | succ n ih =>
  intro k a b h1 h2 h3 h4 h5 h6 h7
  obtain ⟨k, rfl⟩ : ∃ j, k = j + 1 := ⟨k - 1, by omega⟩
  simp only [trystref01_Date.l0]
  rw [fNext c a hc (by omega) (by omega), Option.bind_some]
  by_cases c1 : a + 1 < b
  ·rw [if_pos c1, w64 (by omega) (by omega), fFloor _ 2 (by omega) (by omega) ⟨by omega, by omega⟩, Option.bind_some, if_neg n5]
   obtain ⟨k, rfl⟩ : ∃ j, k = j + 1 := ⟨k - 1, by omega⟩
   simp only [trystref01_Date.j1]
   rw [if_neg (by simp), fBegins k (by omega) c _ hc (by omega) (by omega), Option.bind_some]
   have hp : (2 : Int) ^ (n + 1) = 2 * 2 ^ n := by rw [Int.pow_succ]; omega
   rw [hp] at h3
   generalize (2 : Int) ^ n = P at *
   by_cases c2 : fx c ((a + b) / 2) 1 + 1 ≤ day
   ·rw [if_pos c2]
    obtain ⟨y, k', r1, r2, r3, r4, r5, r6⟩ := ih k ((a + b) / 2) b (by omega) (by omega) (by omega) (by omega) (by omega) (by omega) h7
    exact ⟨y, k', by omega, r2, r3, r4, r5, r6⟩
   ·rw [if_neg c2]
    obtain ⟨y, k', r1, r2, r3, r4, r5, r6⟩ := ih k a ((a + b) / 2) (by omega) (by omega) (by omega) (by omega) (by omega) h6 (by omega)
    exact ⟨y, k', r1, by omega, r3, r4, r5, r6⟩
  ·have e : b = a + 1 := by omega
   subst e
   refine ⟨a, k, by omega, by omega, h6, h7, by omega, ?_⟩
   rw [if_neg (by omega), if_neg n3]
theorem fLoop (c : Int) (hc : Four c) (day y : Int) (hd : In day) (hy : -801 ≤ y) (hy' : y ≤ 15000) : ∀ (j k : Nat) (m : Int), 1 ≤ m → m ≤ mths c y → mths c y - m = j → j + 9 ≤ k →
  fx c y m < day → ∃ m', m ≤ m' ∧ m' ≤ mths c y ∧ fx c y m' < day ∧ (m' < mths c y → day ≤ fx c y (m' + 1)) ∧ trystref01_Date.l1 k c day y m = some (y, m', day - fx c y m', 0) := by
 obtain ⟨d1, d2⟩ := hd
 have hM := mths_bd c y
 intro j
 induction j with
 | zero =>
  intro k m h1 h2 h3 h4 h5
  obtain ⟨k, rfl⟩ : ∃ j, k = j + 1 := ⟨k - 1, by omega⟩
  have hb := fx_bd c y m hc (by omega) (by omega) h1 (by omega)
  refine ⟨m, by omega, h2, h5, fun h => by omega, ?_⟩
  simp only [trystref01_Date.l1]
  rw [fMonths k (by omega) c y hc (by omega) (by omega), Option.bind_some, if_neg (by omega), fFixed k (by omega) c y m 1 hc (by omega) (by omega) (by omega) (by omega) (by omega) (by omega), Option.bind_some, w64 (x := day - (fx c y m + 1)) (by omega) (by omega), w64 (by omega) (by omega)]
  have e : day - (fx c y m + 1) + 1 = day - fx c y m := by omega
  rw [e]
 | succ j ih =>
  intro k m h1 h2 h3 h4 h5
  obtain ⟨k, rfl⟩ : ∃ j, k = j + 1 := ⟨k - 1, by omega⟩
  have hb := fx_bd c y m hc (by omega) (by omega) h1 (by omega)
  simp only [trystref01_Date.l1]
  rw [fMonths k (by omega) c y hc (by omega) (by omega), Option.bind_some, if_pos (by omega), w64 (x := m + 1) (by omega) (by omega), fFixed k (by omega) c y (m + 1) 1 hc (by omega) (by omega) (by omega) (by omega) (by omega) (by omega), Option.bind_some]
  by_cases c2 : fx c y (m + 1) + 1 ≤ day
  ·rw [if_pos c2]
   obtain ⟨m', r1, r2, r3, r4, r5⟩ := ih k (m + 1) (by omega) (by omega) (by omega) (by omega) (by omega)
   exact ⟨m', by omega, r2, r3, r4, r5⟩
  ·refine ⟨m, by omega, h2, h5, fun _ => by omega, ?_⟩
   rw [if_neg c2, fFixed k (by omega) c y m 1 hc (by omega) (by omega) (by omega) (by omega) (by omega) (by omega), Option.bind_some, w64 (x := day - (fx c y m + 1)) (by omega) (by omega), w64 (by omega) (by omega)]
   have e : day - (fx c y m + 1) + 1 = day - fx c y m := by omega
   rw [e]
def start (c : Int) : Int := if c = 1 then 1 else if c = 2 then 0 else if c = 0 then 1 else -800
theorem fLeast (c : Int) (hc : Four c) : trystref01_least.f c = some (start c) := by
 rcases hc with rfl | rfl | rfl | rfl <;> rfl
theorem fx_start (c : Int) (hc : Four c) : fx c (start c) 1 < 1 ∧ 3652059 ≤ fx c 15000 1 := by
 have h1 := wk_bd 0 1; have h2 := wk_bd 15000 1
 have e0 : ah 0 = -366 := by decide
 have e1 : ah 15000 = 5478272 := by decide
 rcases hc with rfl | rfl | rfl | rfl
 ·decide
 ·decide
 ·simp [fx, start]; omega
 ·decide
theorem fDate (k : Nat) (hk : 120 ≤ k) (c : Int) (hc : Four c) (day : Int) (hd : In day) : ∃ y m, -801 ≤ y ∧ y < 15000 ∧ fx c y 1 < day ∧ day ≤ fx c (y + 1) 1 ∧ 1 ≤ m ∧ m ≤ mths c y ∧
  fx c y m < day ∧ (m < mths c y → day ≤ fx c y (m + 1)) ∧ trystref01_Date.f k c day = some (y, m, day - fx c y m, 0) := by
 have hs := fx_start c hc
 have h0 : -800 ≤ start c ∧ start c ≤ 1 := by rcases hc with rfl | rfl | rfl | rfl <;> decide
 have h14 : (2 : Int) ^ 14 = 16384 := by decide
 obtain ⟨y, k', h1, h2, h3, h4, h5, h6⟩ := fSearch c hc day 80 (by omega) 14 k (start c) 15000 (by omega) (by omega) (by rw [h14]; omega) (by omega) (by omega) (by have := hd.1; omega) (by have := hd.2; omega)
 have hM := mths_bd c y
 obtain ⟨m, r1, r2, r3, r4, r5⟩ := fLoop c hc day y hd (by omega) (by omega) (mths c y - 1).toNat k' 1 (by omega) (by omega) (by omega) (by omega) h3
 refine ⟨y, m, by omega, h2, h3, h4, r1, r2, r3, r4, ?_⟩
 unfold trystref01_Date.f
 rw [fIn_yes hd, Option.bind_some, if_pos rfl, fLeast c hc, Option.bind_some, h6, r5]
theorem fDate_no (k : Nat) (c day : Int) (h : ¬ In day) : trystref01_Date.f k c day = some (0, 0, 0, 2) := by
 unfold trystref01_Date.f
 rw [fIn_no h, Option.bind_some, if_neg (by simp)]
theorem mths12 (c y : Int) (hc : c = 0 ∨ c = 1) : mths c y = 12 := by
 unfold mths; rcases hc with rfl | rfl <;> simp
/-- The reference's Gregorian date. -/
theorem fDate0 (k : Nat) (hk : 120 ≤ k) (day : Int) (hd : In day) : ∃ y m d, trystref01_Date.f k 0 day = some (y, m, d, 0) ∧ Is ah lp y m d day := by
 obtain ⟨y, m, h1, h2, h3, h4, h5, h6, h7, h8, h9⟩ := fDate k hk 0 (Or.inl rfl) day hd
 rw [mths12 0 y (Or.inl rfl)] at h6 h8
 refine ⟨y, m, _, h9, ⟨h5, h6, by omega, ?_, by simp [fx]; omega⟩⟩
 have s := cum_succ (lp y) m h5 h6
 by_cases e : m < 12
 ·have := h8 e
  simp [fx] at this ⊢; omega
 ·have e12 : m = 12 := by omega
  subst e12
  rw [fx_end 0 y (Or.inl rfl)] at h4
  simp [fx] at h4 ⊢
  have e13 : (12 : Int) + 1 = 13 := rfl
  rw [e13] at s; omega
theorem fDate1 (k : Nat) (hk : 120 ≤ k) (day : Int) (hd : In day) : ∃ y m d, trystref01_Date.f k 1 day = some (y, m, d, 0) ∧ Is jb lj y m d day := by
 obtain ⟨y, m, h1, h2, h3, h4, h5, h6, h7, h8, h9⟩ := fDate k hk 1 (Or.inr (Or.inl rfl)) day hd
 rw [mths12 1 y (Or.inr rfl)] at h6 h8
 refine ⟨y, m, _, h9, ⟨h5, h6, by omega, ?_, by simp [fx]; omega⟩⟩
 have s := cum_succ (lj y) m h5 h6
 by_cases e : m < 12
 ·have := h8 e
  simp [fx] at this ⊢; omega
 ·have e12 : m = 12 := by omega
  subst e12
  rw [fx_end 1 y (Or.inr rfl)] at h4
  simp [fx] at h4 ⊢
  have e13 : (12 : Int) + 1 = 13 := rfl
  rw [e13] at s; omega
theorem fDate6 (k : Nat) (hk : 120 ≤ k) (day : Int) (hd : In day) : ∃ y m d, trystref01_Date.f k 6 day = some (y, m, d, 0) ∧ IsC y m d day := by
 obtain ⟨y, m, h1, h2, h3, h4, h5, h6, h7, h8, h9⟩ := fDate k hk 6 (Or.inr (Or.inr (Or.inr rfl))) day hd
 have e : mths 6 y = 13 := by simp [mths]
 have s := cb_succ y
 rw [e] at h6 h8
 simp [fx] at h3 h4 h7 h8
 refine ⟨y, m, _, h9, ⟨h5, h6, by simp [fx]; omega, ?_, ?_, by simp [fx]; omega⟩⟩
 ·simp [fx]
  have := lc_56 y
  by_cases e : m < 13
  ·have := h8 e; omega
  ·omega
 ·intro e; subst e; simp [fx]; omega
/-- The reference's ISO date. -/
theorem fDate2 (k : Nat) (hk : 120 ≤ k) (day : Int) (hd : In day) : ∃ y m d, trystref01_Date.f k 2 day = some (y, m, d, 0) ∧ -801 ≤ y ∧ y < 15000 ∧ wk y 1 ≤ day ∧ day < wk (y + 1) 1 ∧ m = (day - wk y 1) / 7 + 1 ∧ d = (day - wk y 1) % 7 + 1 := by
 obtain ⟨y, m, h1, h2, h3, h4, h5, h6, h7, h8, h9⟩ := fDate k hk 2 (Or.inr (Or.inr (Or.inl rfl))) day hd
 obtain ⟨n, hn, hw⟩ := wks y 1
 have e : mths 2 y = n := by simp [mths]; omega
 rw [e] at h6 h8
 simp [fx] at h3 h4 h7 h8
 refine ⟨y, m, _, h9, h1, h2, by omega, by omega, ?_, ?_⟩
 ·by_cases c : m < n
  ·have := h8 c; omega
  ·omega
 ·simp [fx]
  by_cases c : m < n
  ·have := h8 c; omega
  ·omega
end Go.Proofs.YtgbbgcepcnklkaaGreatDoor.FunD
namespace Go.Proofs.YtgbbgcepcnklkaaGreatDoor.Q
open Go.RowKit Go.Proofs.YtgbbgcepcnklkaaGreatDoorW.PrintWords Go.Proofs.YtgbbgcepcnklkaaGreatDoorW.PrintLast Go.Proofs.YtgbbgcepcnklkaaGreatDoorW.PrintMore
attribute [local go_sem] max2_int min2_int max_two min_two
set_option linter.unusedVariables false
set_option linter.unusedSimpArgs false
/-! ### iso_Week: function 84 -/
def iso_Week.l0 : Nat → Int → Int → Int → Option (Int × Int × Int)
 | 0, _, _, _ => none
 | k + 1, x0, x1, x7 => (iso_first.f x7 x1).bind fun t134 => (if x0 < t134 then (iso_Week.l0 k x0 x1 (wrap64 (x7 - 1))) else ((iso_first.f x7 x1).bind fun t135 => (some (x7, wrap64 ((wrap64 (Int.tdiv (wrap64 (x0 - t135)) 7)) + 1), 0))))
def iso_Week.f (k : Nat) (a0 : Int) (a1 : Int) : Option (Int × Int × Int) := (rata_Of.f a0).bind fun t131 => (if t131 = true then ((iso_right.f a1).bind fun t132 => (if t132 = true then ((rata_Year.f a0).bind fun t133 => (iso_Week.l0 k a0 a1 (wrap64 (t133 + 1)))) else (some (0, 0, 1)))) else (some (0, 0, 2)))
set_option maxHeartbeats 8000000 in
set_option maxRecDepth 100000 in
theorem iso_Week.calls (k : Nat) (a0 : Int) (a1 : Int) (r1 : Int) (r2 : Int) (r3 : Int) (w : World) (h : iso_Week.f k a0 a1 = some (r1, r2, r3)) :
  Calls Tryz.prog 84 #[.int .i64 a0, .int .i64 a1] w fun e w' => e = .returned (.tuple #[.int .i64 r1, .int .i64 r2, .int .i64 r3]) ∧ Below w.heap.size w w' := by
 have HB := Aside0.mk (Below.refl w.heap.size w)
 have H : ((rata_Of.f a0).bind fun t131 => (if t131 = true then ((iso_right.f a1).bind fun t132 => (if t132 = true then ((rata_Year.f a0).bind fun t133 => (iso_Week.l0 k a0 a1 (wrap64 (t133 + 1)))) else (some (0, 0, 1)))) else (some (0, 0, 2)))) = some (r1, r2, r3) := h
 clear h
 replace H := Option.bind_eq_some_iff.mp H
 obtain ⟨t131, A30, H⟩ := H
 replace H : (if t131 = true then ((iso_right.f a1).bind fun t132 => (if t132 = true then ((rata_Year.f a0).bind fun t133 => (iso_Week.l0 k a0 a1 (wrap64 (t133 + 1)))) else (some (0, 0, 1)))) else (some (0, 0, 2))) = some (r1, r2, r3) := H
 have A3 := Aside0.mk A30
 clear A30
 by_cases c4 : t131 = true
 ·subst c4
  have H1 : ((iso_right.f a1).bind fun t132 => (if t132 = true then ((rata_Year.f a0).bind fun t133 => (iso_Week.l0 k a0 a1 (wrap64 (t133 + 1)))) else (some (0, 0, 1)))) = some (r1, r2, r3) := by rw [if_pos rfl] at H; exact H
  clear H
  have H := H1
  clear H1
  replace H := Option.bind_eq_some_iff.mp H
  obtain ⟨t132, A50, H⟩ := H
  replace H : (if t132 = true then ((rata_Year.f a0).bind fun t133 => (iso_Week.l0 k a0 a1 (wrap64 (t133 + 1)))) else (some (0, 0, 1))) = some (r1, r2, r3) := H
  have A5 := Aside0.mk A50
  clear A50
  by_cases c6 : t132 = true
  ·subst c6
   have H1 : ((rata_Year.f a0).bind fun t133 => (iso_Week.l0 k a0 a1 (wrap64 (t133 + 1)))) = some (r1, r2, r3) := by rw [if_pos rfl] at H; exact H
   clear H
   have H := H1
   clear H1
   replace H := Option.bind_eq_some_iff.mp H
   obtain ⟨t133, A70, H⟩ := H
   replace H : (iso_Week.l0 k a0 a1 (wrap64 (t133 + 1))) = some (r1, r2, r3) := H
   have A7 := Aside0.mk A70
   clear A70
   have H' := Aside0.mk H
   clear H
   go_enter Tryz.func84, Tryz.ntmps84
   go_wp2_with (first | ((with_reducible refine gate_callee (f := 60) rfl ?_); refine gm_ (some 10) Tryz.func60 #[.int .i64 a0] ?_; (with_reducible refine (rata_Of.calls a0 true _ A3.out).mono ?_); rintro e w' ⟨rfl, ⟨nd, rfl⟩⟩; refine ⟨_, rfl, ?_⟩) | ((with_reducible refine gate_callee (f := 98) rfl ?_); refine gm_ (some 14) Tryz.func98 #[.int .i64 a1] ?_; (with_reducible refine (iso_right.calls a1 true _ A5.out).mono ?_); rintro e w' ⟨rfl, ⟨nd, rfl⟩⟩; refine ⟨_, rfl, ?_⟩) | ((with_reducible refine gate_callee (f := 81) rfl ?_); refine gm_ (some 17) Tryz.func81 #[.int .i64 a0] ?_; (with_reducible refine (rata_Year.calls a0 t133 _ A7.out).mono ?_); rintro e w8 ⟨rfl, hb⟩; refine ⟨_, rfl, ?_⟩; have n0_ := Aside0.mk (below_step (by repeat (first | (with_reducible first | exact HB.out | apply below_alloc | apply pw_below_drewN | apply below_drew1) | exact HB.out)) hb); clear HB; have HB := n0_; clear n0_; (try clear hb); (try clear hb2); (try clear hk); (try clear hi)))
   go_loopg [7] k (fun kq v7 w' => ∃ (x7_1 : Int), v7 = .int .i64 x7_1 ∧ Aside0 (iso_Week.l0 kq a0 a1 x7_1 = some (r1, r2, r3)) ∧ Aside0 (kq ≤ k) ∧ Aside0 (Below w.heap.size w w'))
   case atStart => exact ⟨(wrap64 (t133 + 1)), (by first | rfl | (simp; done) | (simp [*]; done)), H', ⟨Nat.le_refl _⟩, ⟨by repeat (first | (with_reducible first | exact HB.out | apply below_alloc | apply pw_below_drewN | apply below_drew1) | exact HB.out)⟩⟩
   case round =>
    clear H'
    try clear p2
    try clear c4
    try clear c6
    try clear p6
    try clear c8
    obtain ⟨x7_1, rfl, HA, HK1, HB⟩ := hrel
    cases gk with
    | zero => exact absurd HA.out (by simp [iso_Week.l0])
    | succ k1 =>
     have H := HA.out
     clear HA
     simp only [iso_Week.l0] at H
     replace H := Option.bind_eq_some_iff.mp H
     obtain ⟨t134, A90, H⟩ := H
     replace H : (if a0 < t134 then (iso_Week.l0 k1 a0 a1 (wrap64 (x7_1 - 1))) else ((iso_first.f x7_1 a1).bind fun t135 => (some (x7_1, wrap64 ((wrap64 (Int.tdiv (wrap64 (a0 - t135)) 7)) + 1), 0)))) = some (r1, r2, r3) := H
     have A9 := Aside0.mk A90
     clear A90
     by_cases c10 : a0 < t134
     ·rw [if_pos c10] at H
      have c10b0 : decide (a0 < t134) = true := decide_eq_true c10
      clear c10
      have H' := Aside0.mk H
      clear H
      go_wp2_with (first | ((with_reducible refine gate_callee (f := 59) rfl ?_); refine gm_ (some 22) Tryz.func59 #[.int .i64 x7_1, .int .i64 a1] ?_; (with_reducible refine (iso_first.calls x7_1 a1 t134 _ A9.out).mono ?_); rintro e w' ⟨rfl, ⟨nd, rfl⟩⟩; refine ⟨_, rfl, ?_⟩))
      go_roundg k1
      case measure => have := HK1.out; omega
      case rel => exact ⟨(wrap64 (x7_1 - 1)), (by first | rfl | (simp; done) | (simp [*]; done)), H', ⟨by have := HK1.out; omega⟩, ⟨by repeat (first | (with_reducible first | exact HB.out | apply below_alloc | apply pw_below_drewN | apply below_drew1) | exact HB.out)⟩⟩
     ·rw [if_neg c10] at H
      have c10b0 : decide (a0 < t134) = false := decide_eq_false c10
      clear c10
      replace H := Option.bind_eq_some_iff.mp H
      obtain ⟨t135, A110, H⟩ := H
      have A11d := Option.some.inj (A9.out.symm.trans A110)
      clear A110
      subst A11d
      replace H : (some (x7_1, wrap64 ((wrap64 (Int.tdiv (wrap64 (a0 - t134)) 7)) + 1), 0)) = some (r1, r2, r3) := H
      simp only [Option.some.injEq, Prod.mk.injEq] at H
      obtain ⟨rfl, rfl, rfl⟩ := H
      go_wp2_with (first | ((with_reducible refine gate_callee (f := 59) rfl ?_); refine gm_ (some 22) Tryz.func59 #[.int .i64 x7_1, .int .i64 a1] ?_; (with_reducible refine (iso_first.calls x7_1 a1 t134 _ A9.out).mono ?_); rintro e w' ⟨rfl, ⟨nd, rfl⟩⟩; refine ⟨_, rfl, ?_⟩) | ((with_reducible refine gate_callee (f := 59) rfl ?_); refine gm_ (some 30) Tryz.func59 #[.int .i64 x7_1, .int .i64 a1] ?_; (with_reducible refine (iso_first.calls x7_1 a1 t134 _ A9.out).mono ?_); rintro e w' ⟨rfl, ⟨nd, rfl⟩⟩; refine ⟨_, rfl, ?_⟩))
      go_ret3
      exact ⟨by first | rfl | (simp [*, errW_none, errW_some] <;> rfl), by repeat (first | (with_reducible first | exact HB.out | apply below_alloc | apply pw_below_drewN | apply below_drew1) | exact HB.out)⟩
  ·replace c6 := Bool.eq_false_iff.mpr c6
   subst c6
   have H1 : (some (0, 0, 1)) = some (r1, r2, r3) := by rw [if_neg (show ¬ (false = true) by decide)] at H; exact H
   clear H
   have H := H1
   clear H1
   simp only [Option.some.injEq, Prod.mk.injEq] at H
   obtain ⟨rfl, rfl, rfl⟩ := H
   go_enter Tryz.func84, Tryz.ntmps84
   go_wp2_with (first | ((with_reducible refine gate_callee (f := 60) rfl ?_); refine gm_ (some 10) Tryz.func60 #[.int .i64 a0] ?_; (with_reducible refine (rata_Of.calls a0 true _ A3.out).mono ?_); rintro e w' ⟨rfl, ⟨nd, rfl⟩⟩; refine ⟨_, rfl, ?_⟩) | ((with_reducible refine gate_callee (f := 98) rfl ?_); refine gm_ (some 14) Tryz.func98 #[.int .i64 a1] ?_; (with_reducible refine (iso_right.calls a1 false _ A5.out).mono ?_); rintro e w' ⟨rfl, ⟨nd, rfl⟩⟩; refine ⟨_, rfl, ?_⟩))
   go_ret3
   exact ⟨by first | rfl | (simp [*, errW_none, errW_some] <;> rfl), by repeat (first | (with_reducible first | exact HB.out | apply below_alloc | apply pw_below_drewN | apply below_drew1) | exact HB.out)⟩
 ·replace c4 := Bool.eq_false_iff.mpr c4
  subst c4
  have H1 : (some (0, 0, 2)) = some (r1, r2, r3) := by rw [if_neg (show ¬ (false = true) by decide)] at H; exact H
  clear H
  have H := H1
  clear H1
  simp only [Option.some.injEq, Prod.mk.injEq] at H
  obtain ⟨rfl, rfl, rfl⟩ := H
  go_enter Tryz.func84, Tryz.ntmps84
  go_wp2_with (first | ((with_reducible refine gate_callee (f := 60) rfl ?_); refine gm_ (some 10) Tryz.func60 #[.int .i64 a0] ?_; (with_reducible refine (rata_Of.calls a0 false _ A3.out).mono ?_); rintro e w' ⟨rfl, ⟨nd, rfl⟩⟩; refine ⟨_, rfl, ?_⟩))
  go_ret3
  exact ⟨by first | rfl | (simp [*, errW_none, errW_some] <;> rfl), by repeat (first | (with_reducible first | exact HB.out | apply below_alloc | apply pw_below_drewN | apply below_drew1) | exact HB.out)⟩

/-! ### iso_ISO: function 40 -/
def iso_ISO.f (k : Nat) (a0 : Int) : Option (Int × Int × Int × Int) := (iso_Week.f k a0 1).bind fun bt137 => (if bt137.2.2 = 0 then ((rata_Weekday.f a0).bind fun t140 => ((rata_Mod.f (wrap64 (t140 - 1)) 7).bind fun t141 => (some (bt137.1, bt137.2.1, wrap64 (t141 + 1), 0)))) else (some (0, 0, 0, bt137.2.2)))
set_option maxHeartbeats 8000000 in
set_option maxRecDepth 100000 in
theorem iso_ISO.calls (k : Nat) (a0 : Int) (r1 : Int) (r2 : Int) (r3 : Int) (r4 : Int) (w : World) (h : iso_ISO.f k a0 = some (r1, r2, r3, r4)) :
  Calls Tryz.prog 40 #[.int .i64 a0] w fun e w' => e = .returned (.tuple #[.agg #[.int .i64 r1, .int .i64 r2, .int .i64 r3], .int .i64 r4]) ∧ Below w.heap.size w w' := by
 have hu41 := Tryz.underlying41
 have HB := Aside0.mk (Below.refl w.heap.size w)
 have H : ((iso_Week.f k a0 1).bind fun bt137 => (if bt137.2.2 = 0 then ((rata_Weekday.f a0).bind fun t140 => ((rata_Mod.f (wrap64 (t140 - 1)) 7).bind fun t141 => (some (bt137.1, bt137.2.1, wrap64 (t141 + 1), 0)))) else (some (0, 0, 0, bt137.2.2)))) = some (r1, r2, r3, r4) := h
 clear h
 replace H := Option.bind_eq_some_iff.mp H
 obtain ⟨⟨t137, t138, t139⟩, A20, H⟩ := H
 replace H : (if t139 = 0 then ((rata_Weekday.f a0).bind fun t140 => ((rata_Mod.f (wrap64 (t140 - 1)) 7).bind fun t141 => (some (t137, t138, wrap64 (t141 + 1), 0)))) else (some (0, 0, 0, t139))) = some (r1, r2, r3, r4) := H
 have A2 := Aside0.mk A20
 clear A20
 by_cases c3 : t139 = 0
 ·rw [if_pos c3] at H
  have c3b0 : (t139 == 0) = true := beq_iff_eq.mpr c3
  have c3b1 : (t139 != 0) = false := bne_eq_false_iff_eq.mpr c3
  clear c3
  replace H := Option.bind_eq_some_iff.mp H
  obtain ⟨t140, A40, H⟩ := H
  replace H : ((rata_Mod.f (wrap64 (t140 - 1)) 7).bind fun t141 => (some (t137, t138, wrap64 (t141 + 1), 0))) = some (r1, r2, r3, r4) := H
  have A4 := Aside0.mk A40
  clear A40
  replace H := Option.bind_eq_some_iff.mp H
  obtain ⟨t141, A50, H⟩ := H
  replace H : (some (t137, t138, wrap64 (t141 + 1), 0)) = some (r1, r2, r3, r4) := H
  have A5 := Aside0.mk A50
  clear A50
  simp only [Option.some.injEq, Prod.mk.injEq] at H
  obtain ⟨rfl, rfl, rfl, rfl⟩ := H
  go_enter Tryz.func40, Tryz.ntmps40
  go_wp2_with (first | ((with_reducible refine gate_dst (N := 2) rfl ?_); refine box_event ?hg (N := 2) ?hd (cs := #[.int .i64 0, .int .i64 0, .int .i64 0]) (t := 41) ?hr ?_; (case hd => rfl); (case hg => rfl); (case hr => first | (go_simp; done) | (go_simp; rfl)); intro gb136 hg w6 hbox hb; have n0_ := Aside0.mk (below_step (by repeat (first | (with_reducible first | exact HB.out | apply below_alloc | apply pw_below_drewN | apply below_drew1) | exact HB.out)) hb); have n1_ := Aside0.mk (hbox); have n2_ := Aside0.mk ((by rw [hg]; exact (below_size (by repeat (first | (with_reducible first | exact HB.out | apply below_alloc | apply pw_below_drewN | apply below_drew1) | exact HB.out))) : w.heap.size ≤ gb136)); have n3_ := Aside0.mk ((by rw [hg]; exact (below_size (by repeat (first | (with_reducible first | exact HB.out | apply below_alloc | apply pw_below_drewN | apply below_drew1) | exact HB.out))) : w.heap.size ≤ gb136)); clear HB; have HB := n0_; have BK136 := n1_; have GW136 := n2_; have GE136 := n3_; clear n0_ n1_ n2_ n3_; clear hb hbox hg) | ((with_reducible refine gate_callee (f := 84) rfl ?_); refine gm_ (some 9) Tryz.func84 #[.int .i64 a0, .int .i64 1] ?_; (with_reducible refine (iso_Week.calls k a0 1 t137 t138 t139 _ A2.out).mono ?_); rintro e w7 ⟨rfl, hb⟩; refine ⟨_, rfl, ?_⟩; have n0_ := Aside0.mk (blk_below (g := gb136) (o := .cells #[.int .i64 0, .int .i64 0, .int .i64 0] 41 (0, 0)) (by (with_reducible repeat (first | refine blk_drewN ?_ _ | refine blk_drew ?_ | refine blk_alloc ?_ _)); exact BK136.out) hb); have n1_ := Aside0.mk (below_step (by repeat (first | (with_reducible first | exact HB.out | apply below_alloc | apply pw_below_drewN | apply below_drew1 | refine below_set ?_ GE136.out) | exact HB.out)) hb); clear BK136; clear HB; have BK136 := n0_; have HB := n1_; clear n0_ n1_; (try clear hb); (try clear hb2); (try clear hk); (try clear hi)) | ((with_reducible refine gate_callee (f := 86) rfl ?_); refine gm_ (some 20) Tryz.func86 #[.int .i64 a0] ?_; (with_reducible refine (rata_Weekday.calls a0 t140 _ A4.out).mono ?_); rintro e w' ⟨rfl, ⟨nd, rfl⟩⟩; refine ⟨_, rfl, ?_⟩; (try (rw [drewN_self w7]; generalize hq_ : World.drewN w7 _ = w7; have n0_ : Aside0 (w7.heap[gb136]? = some (.cells #[.int .i64 0, .int .i64 0, .int .i64 0] 41 (0, 0))) := ⟨by rw [← hq_]; exact (by (with_reducible repeat (first | refine blk_drewN ?_ _ | refine blk_drew ?_ | refine blk_alloc ?_ _)); exact BK136.out)⟩; have n1_ : Aside0 (Below w.heap.size w w7) := ⟨by rw [← hq_]; exact (by repeat (first | (with_reducible first | exact HB.out | apply below_alloc | apply pw_below_drewN | apply below_drew1 | refine below_set ?_ GE136.out) | exact HB.out))⟩; clear BK136 HB hq_; have BK136 := n0_; have HB := n1_; clear n0_ n1_)); (try (have hcz8_0 : w7.cell? ⟨gb136, 0, none⟩ = some (.int .i64 0) := (blk_cell BK136.out 0).trans rfl; have hcz8_1 : w7.cell? ⟨gb136, 1, none⟩ = some (.int .i64 0) := (blk_cell BK136.out 1).trans rfl; have hcz8_2 : w7.cell? ⟨gb136, 2, none⟩ = some (.int .i64 0) := (blk_cell BK136.out 2).trans rfl; have hfz8_0 := blk_frozen BK136.out 0; have hfz8_1 := blk_frozen BK136.out 1; have hfz8_2 := blk_frozen BK136.out 2))) | ((with_reducible refine gate_callee (f := 85) rfl ?_); refine gm_ (some 22) Tryz.func85 #[.int .i64 (wrap64 (t140 - 1)), .int .i64 7] ?_; (with_reducible refine (rata_Mod.calls (wrap64 (t140 - 1)) 7 t141 _ A5.out).mono ?_); rintro e w' ⟨rfl, ⟨nd, rfl⟩⟩; refine ⟨_, rfl, ?_⟩; (try (rw [drewN_self w7]; generalize hq_ : World.drewN w7 _ = w7; have n0_ : Aside0 (w7.heap[gb136]? = some (.cells #[.int .i64 0, .int .i64 0, .int .i64 0] 41 (0, 0))) := ⟨by rw [← hq_]; exact (by (with_reducible repeat (first | refine blk_drewN ?_ _ | refine blk_drew ?_ | refine blk_alloc ?_ _)); exact BK136.out)⟩; have n1_ : Aside0 (Below w.heap.size w w7) := ⟨by rw [← hq_]; exact (by repeat (first | (with_reducible first | exact HB.out | apply below_alloc | apply pw_below_drewN | apply below_drew1 | refine below_set ?_ GE136.out) | exact HB.out))⟩; clear BK136 HB hq_; have BK136 := n0_; have HB := n1_; clear n0_ n1_)); (try (have hcz9_0 : w7.cell? ⟨gb136, 0, none⟩ = some (.int .i64 0) := (blk_cell BK136.out 0).trans rfl; have hcz9_1 : w7.cell? ⟨gb136, 1, none⟩ = some (.int .i64 0) := (blk_cell BK136.out 1).trans rfl; have hcz9_2 : w7.cell? ⟨gb136, 2, none⟩ = some (.int .i64 0) := (blk_cell BK136.out 2).trans rfl; have hfz9_0 := blk_frozen BK136.out 0; have hfz9_1 := blk_frozen BK136.out 1; have hfz9_2 := blk_frozen BK136.out 2)); have hcz10_0 : w7.cell? ⟨gb136, 0, none⟩ = some (.int .i64 0) := (blk_cell BK136.out 0).trans rfl; have hcz10_1 : w7.cell? ⟨gb136, 1, none⟩ = some (.int .i64 0) := (blk_cell BK136.out 1).trans rfl; have hcz10_2 : w7.cell? ⟨gb136, 2, none⟩ = some (.int .i64 0) := (blk_cell BK136.out 2).trans rfl; have hfz10_0 := blk_frozen BK136.out 0; have hfz10_1 := blk_frozen BK136.out 1; have hfz10_2 := blk_frozen BK136.out 2))
  refine bodyPost_ret (results_ct rfl _ _ gb136 41 #[.int .i64 t137, .int .i64 t138, .int .i64 (wrap64 (t141 + 1))] (0, 0) _ rfl (by (with_reducible repeat (first | refine blk_drewN ?_ _ | refine blk_drew ?_ | refine blk_alloc ?_ _)); refine blk_put (cs := #[.int .i64 t137, .int .i64 t138, .int .i64 0]) ?_ 2 _ rfl; (with_reducible repeat (first | refine blk_drewN ?_ _ | refine blk_drew ?_ | refine blk_alloc ?_ _)); refine blk_put (cs := #[.int .i64 t137, .int .i64 0, .int .i64 0]) ?_ 1 _ rfl; (with_reducible repeat (first | refine blk_drewN ?_ _ | refine blk_drew ?_ | refine blk_alloc ?_ _)); refine blk_put (cs := #[.int .i64 0, .int .i64 0, .int .i64 0]) ?_ 0 _ rfl; (with_reducible repeat (first | refine blk_drewN ?_ _ | refine blk_drew ?_ | refine blk_alloc ?_ _)); exact BK136.out) Tryz.underlying41 rfl (by kernel_rfl)) rfl ?_
  exact ⟨by first | rfl | (simp [*, errW_none, errW_some] <;> rfl), by repeat (first | (with_reducible first | exact HB.out | apply below_alloc | apply pw_below_drewN | apply below_drew1 | refine below_set ?_ GE136.out) | exact HB.out)⟩
 ·rw [if_neg c3] at H
  have c3b0 : (t139 == 0) = false := beq_eq_false_iff_ne.mpr c3
  have c3b1 : (t139 != 0) = true := bne_iff_ne.mpr c3
  simp only [Option.some.injEq, Prod.mk.injEq] at H
  obtain ⟨rfl, rfl, rfl, rfl⟩ := H
  go_enter Tryz.func40, Tryz.ntmps40
  go_wp2_with (first | ((with_reducible refine gate_dst (N := 2) rfl ?_); refine box_event ?hg (N := 2) ?hd (cs := #[.int .i64 0, .int .i64 0, .int .i64 0]) (t := 41) ?hr ?_; (case hd => rfl); (case hg => rfl); (case hr => first | (go_simp; done) | (go_simp; rfl)); intro gb136 hg w11 hbox hb; have n0_ := Aside0.mk (below_step (by repeat (first | (with_reducible first | exact HB.out | apply below_alloc | apply pw_below_drewN | apply below_drew1) | exact HB.out)) hb); have n1_ := Aside0.mk (hbox); have n2_ := Aside0.mk ((by rw [hg]; exact (below_size (by repeat (first | (with_reducible first | exact HB.out | apply below_alloc | apply pw_below_drewN | apply below_drew1) | exact HB.out))) : w.heap.size ≤ gb136)); have n3_ := Aside0.mk ((by rw [hg]; exact (below_size (by repeat (first | (with_reducible first | exact HB.out | apply below_alloc | apply pw_below_drewN | apply below_drew1) | exact HB.out))) : w.heap.size ≤ gb136)); clear HB; have HB := n0_; have BK136 := n1_; have GW136 := n2_; have GE136 := n3_; clear n0_ n1_ n2_ n3_; clear hb hbox hg) | ((with_reducible refine gate_callee (f := 84) rfl ?_); refine gm_ (some 9) Tryz.func84 #[.int .i64 a0, .int .i64 1] ?_; (with_reducible refine (iso_Week.calls k a0 1 t137 t138 t139 _ A2.out).mono ?_); rintro e w12 ⟨rfl, hb⟩; refine ⟨_, rfl, ?_⟩; have n0_ := Aside0.mk (blk_below (g := gb136) (o := .cells #[.int .i64 0, .int .i64 0, .int .i64 0] 41 (0, 0)) (by (with_reducible repeat (first | refine blk_drewN ?_ _ | refine blk_drew ?_ | refine blk_alloc ?_ _)); exact BK136.out) hb); have n1_ := Aside0.mk (below_step (by repeat (first | (with_reducible first | exact HB.out | apply below_alloc | apply pw_below_drewN | apply below_drew1 | refine below_set ?_ GE136.out) | exact HB.out)) hb); clear BK136; clear HB; have BK136 := n0_; have HB := n1_; clear n0_ n1_; (try clear hb); (try clear hb2); (try clear hk); (try clear hi); have hcz13_0 : w12.cell? ⟨gb136, 0, none⟩ = some (.int .i64 0) := (blk_cell BK136.out 0).trans rfl; have hcz13_1 : w12.cell? ⟨gb136, 1, none⟩ = some (.int .i64 0) := (blk_cell BK136.out 1).trans rfl; have hcz13_2 : w12.cell? ⟨gb136, 2, none⟩ = some (.int .i64 0) := (blk_cell BK136.out 2).trans rfl; have hfz13_0 := blk_frozen BK136.out 0; have hfz13_1 := blk_frozen BK136.out 1; have hfz13_2 := blk_frozen BK136.out 2))
  refine bodyPost_ret (results_ct rfl _ _ gb136 41 #[.int .i64 0, .int .i64 0, .int .i64 0] (0, 0) _ rfl (by (with_reducible repeat (first | refine blk_drewN ?_ _ | refine blk_drew ?_ | refine blk_alloc ?_ _)); refine blk_put (cs := #[.int .i64 0, .int .i64 0, .int .i64 0]) ?_ 2 _ rfl; (with_reducible repeat (first | refine blk_drewN ?_ _ | refine blk_drew ?_ | refine blk_alloc ?_ _)); refine blk_put (cs := #[.int .i64 0, .int .i64 0, .int .i64 0]) ?_ 1 _ rfl; (with_reducible repeat (first | refine blk_drewN ?_ _ | refine blk_drew ?_ | refine blk_alloc ?_ _)); refine blk_put (cs := #[.int .i64 0, .int .i64 0, .int .i64 0]) ?_ 0 _ rfl; (with_reducible repeat (first | refine blk_drewN ?_ _ | refine blk_drew ?_ | refine blk_alloc ?_ _)); exact BK136.out) Tryz.underlying41 rfl (by kernel_rfl)) rfl ?_
  exact ⟨by first | rfl | (simp [*, errW_none, errW_some] <;> rfl), by repeat (first | (with_reducible first | exact HB.out | apply below_alloc | apply pw_below_drewN | apply below_drew1 | refine below_set ?_ GE136.out) | exact HB.out)⟩

end Go.Proofs.YtgbbgcepcnklkaaGreatDoor.Q
/- What the program's package iso reckons, in plain numbers. -/
namespace Go.Proofs.YtgbbgcepcnklkaaGreatDoor.FunI
open Go.RowKit Go.Proofs.YtgbbgcepcnklkaaGreatDoorW.PrintWords Go.Proofs.YtgbbgcepcnklkaaGreatDoorW.PrintLast Go.Proofs.YtgbbgcepcnklkaaGreatDoor.Q Go.Proofs.YtgbbgcepcnklkaaGreatDoor.Cal Go.Proofs.YtgbbgcepcnklkaaGreatDoor.FunA Go.Proofs.YtgbbgcepcnklkaaGreatDoor.FunC
theorem wk_rng (y s : Int) (h : -40000 ≤ y) (h' : y ≤ 40000) : -15000002 ≤ wk y s ∧ wk y s ≤ 15000004 := by
 have := ah_bd y h h'; have := wk_bd y s; omega
theorem iFirst (y s : Int) (h : -40000 ≤ y) (h' : y ≤ 40000) (hs : 0 ≤ s) (hs' : s ≤ 6) : iso_first.f y s = some (wk y s) := by
 have hb := ah_bd y h h'
 unfold iso_first.f
 rw [rBegins y h h', Option.bind_some, w64 (x := ah y + 1 + 3) (by omega) (by omega), rWeekday _ ⟨by omega, by omega⟩, Option.bind_some, w64 (x := (ah y + 1 + 3) % 7 - s) (by omega) (by omega), rMod _ 7 (by omega) (by omega) ⟨by omega, by omega⟩, Option.bind_some, w64 (by omega) (by omega)]
 congr 1
 unfold wk; omega
def Wday (s : Int) : Prop := 0 ≤ s ∧ s ≤ 6
theorem iRight_yes (s : Int) (h : Wday s) : iso_right.f s = some true := by
 unfold iso_right.f; rw [if_pos h.1, decide_eq_true (by have := h.2; omega)]
theorem iWeeks_range (k : Nat) (hk : 1 ≤ k) (y s : Int) (h : y < 0 ∨ 9999 < y) : iso_Weeks.f k y s = some (0, 2) := by
 obtain ⟨k, rfl⟩ : ∃ j, k = j + 1 := ⟨k - 1, by omega⟩
 unfold iso_Weeks.f
 by_cases a : y < 0
 ·rw [if_pos a]; simp only [iso_Weeks.j0, if_true]
 ·rw [if_neg a, decide_eq_true (by omega)]; simp only [iso_Weeks.j0, if_true]
theorem iWeeks_yes (k : Nat) (hk : 1 ≤ k) (y s : Int) (h : 0 ≤ y) (h' : y ≤ 9999) (hs : Wday s) : iso_Weeks.f k y s = some ((wk (y + 1) s - wk y s) / 7, 0) := by
 obtain ⟨k, rfl⟩ : ∃ j, k = j + 1 := ⟨k - 1, by omega⟩
 have hw := wk_bd y s; have hw' := wk_bd (y + 1) s; have ha := ah_succ y; have hl := lp_01 y
 have hr := wk_rng y s (by omega) (by omega); have hr' := wk_rng (y + 1) s (by omega) (by omega)
 unfold iso_Weeks.f
 rw [if_neg (by omega), decide_eq_false (by omega)]
 simp only [iso_Weeks.j0]
 rw [if_neg (by simp), iRight_yes s hs, Option.bind_some, if_pos rfl, w64 (x := y + 1) (by omega) (by omega), iFirst (y + 1) s (by omega) (by omega) hs.1 hs.2, iFirst y s (by omega) (by omega) hs.1 hs.2]
 simp only [Option.bind_some]
 rw [w64 (x := wk (y + 1) s - wk y s) (by omega) (by omega), Int.tdiv_eq_ediv_of_nonneg (by omega), w64 (by omega) (by omega)]
theorem iWeek0 (day s : Int) (hd : In day) (hs : Wday s) : ∀ (j k : Nat) (y : Int), y - (yr day - 1) = j → j + 1 ≤ k → y ≤ yr day + 1 → day < wk (y + 1) s →
  ∃ z, yr day - 1 ≤ z ∧ z ≤ yr day + 1 ∧ wk z s ≤ day ∧ day < wk (z + 1) s ∧ iso_Week.l0 k day s y = some (z, (day - wk z s) / 7 + 1, 0) := by
 have hy := yr_In hd
 have ho := yr_ok day
 intro j
 induction j with
 | zero =>
  intro k y h1 h2 h3 h4
  obtain ⟨k, rfl⟩ : ∃ j, k = j + 1 := ⟨k - 1, by omega⟩
  have e : y = yr day - 1 := by omega
  subst e
  have hw := wk_bd (yr day - 1) s
  have ha := ah_le (show yr day - 1 ≤ yr day by omega)
  have hr := wk_rng (yr day - 1) s (by omega) (by omega)
  have hm := hd.1; have hm' := hd.2
  refine ⟨yr day - 1, by omega, by omega, by omega, h4, ?_⟩
  simp only [iso_Week.l0]
  rw [iFirst _ s (by omega) (by omega) hs.1 hs.2, Option.bind_some, if_neg (by omega), Option.bind_some, w64 (x := day - wk (yr day - 1) s) (by omega) (by omega), Int.tdiv_eq_ediv_of_nonneg (by omega), w64 (x := (day - wk (yr day - 1) s) / 7) (by omega) (by omega), w64 (by omega) (by omega)]
 | succ j ih =>
  intro k y h1 h2 h3 h4
  obtain ⟨k, rfl⟩ : ∃ j, k = j + 1 := ⟨k - 1, by omega⟩
  have hr := wk_rng y s (by omega) (by omega)
  have hm := hd.1; have hm' := hd.2
  simp only [iso_Week.l0]
  rw [iFirst _ s (by omega) (by omega) hs.1 hs.2, Option.bind_some]
  by_cases c : day < wk y s
  ·rw [if_pos c, w64 (by omega) (by omega)]
   exact ih k (y - 1) (by omega) (by omega) (by omega) (by rw [show y - 1 + 1 = y by omega]; exact c)
  ·refine ⟨y, by omega, h3, by omega, h4, ?_⟩
   rw [if_neg c, Option.bind_some, w64 (x := day - wk y s) (by omega) (by omega), Int.tdiv_eq_ediv_of_nonneg (by omega), w64 (x := (day - wk y s) / 7) (by omega) (by omega), w64 (by omega) (by omega)]
theorem iWeek_yes (k : Nat) (hk : 4 ≤ k) (day s : Int) (hd : In day) (hs : Wday s) : ∃ z, 0 ≤ z ∧ z ≤ 10000 ∧ wk z s ≤ day ∧ day < wk (z + 1) s ∧ iso_Week.f k day s = some (z, (day - wk z s) / 7 + 1, 0) := by
 have hy := yr_In hd
 have ho := yr_ok day
 have hw := wk_bd (yr day + 1 + 1) s
 have ha := ah_le (show yr day + 1 ≤ yr day + 1 + 1 by omega)
 obtain ⟨z, h1, h2, h3, h4, h5⟩ := iWeek0 day s hd hs 2 k (yr day + 1) (by omega) (by omega) (by omega) (by omega)
 refine ⟨z, by omega, by omega, h3, h4, ?_⟩
 unfold iso_Week.f
 rw [rOf_yes hd, Option.bind_some, if_pos rfl, iRight_yes s hs, Option.bind_some, if_pos rfl, rYear day (by have := hd.1; omega) (by have := hd.2; omega), Option.bind_some, w64 (by omega) (by omega), h5]
theorem iWeek_range (k : Nat) (day s : Int) (hd : ¬ In day) : iso_Week.f k day s = some (0, 0, 2) := by
 unfold iso_Week.f
 rw [rOf_no hd, Option.bind_some, if_neg (by simp)]
theorem wk_le {x y : Int} (s : Int) (h : x ≤ y) : wk x s + 359 * (y - x) ≤ wk y s := by
 by_cases e : x = y
 ·subst e; omega
 ·have := ah_le h; have := wk_bd x s; have := wk_bd y s; omega
theorem wk_one {x y s day : Int} (hx : wk x s ≤ day) (hx' : day < wk (x + 1) s) (hy : wk y s ≤ day) (hy' : day < wk (y + 1) s) : x = y := by
 by_cases a : x < y
 ·have := wk_le s (show x + 1 ≤ y by omega); omega
 ·by_cases b : y < x
  ·have := wk_le s (show y + 1 ≤ x by omega); omega
  ·omega
/-- The ISO date of a day. -/
theorem iISO_yes (k : Nat) (hk : 4 ≤ k) (day : Int) (hd : In day) : ∃ z, 0 ≤ z ∧ z ≤ 10000 ∧ wk z 1 ≤ day ∧ day < wk (z + 1) 1 ∧ iso_ISO.f k day = some (z, (day - wk z 1) / 7 + 1, (day - wk z 1) % 7 + 1, 0) := by
 obtain ⟨z, h1, h2, h3, h4, h5⟩ := iWeek_yes k hk day 1 hd ⟨by omega, by omega⟩
 have hw := wk_bd z 1
 have hm := hd.1; have hm' := hd.2
 refine ⟨z, h1, h2, h3, h4, ?_⟩
 unfold iso_ISO.f
 rw [h5]
 simp only [Option.bind_some, if_true]
 rw [rWeekday day ⟨by omega, by omega⟩, Option.bind_some, w64 (x := day % 7 - 1) (by omega) (by omega), rMod _ 7 (by omega) (by omega) ⟨by omega, by omega⟩, Option.bind_some, w64 (by omega) (by omega)]
 have e : (day % 7 - 1) % 7 = (day - wk z 1) % 7 := by omega
 rw [e]
theorem iISO_no (k : Nat) (day : Int) (hd : ¬ In day) : iso_ISO.f k day = some (0, 0, 0, 2) := by
 unfold iso_ISO.f
 rw [iWeek_range k day 1 hd]; simp
/-- Days of the weeks of a year. -/
def RightI (y m d : Int) : Prop := 0 ≤ y ∧ y ≤ 9999 ∧ 1 ≤ m ∧ m ≤ (wk (y + 1) 1 - wk y 1) / 7 ∧ 1 ≤ d ∧ d ≤ 7
theorem iFrom_no (k : Nat) (hk : 2 ≤ k) (y m d : Int) (h : ¬ RightI y m d) : iso_FromISO.f k y m d = some (0, 2) := by
 have key : iso_FromISO.j0 k true y m d = some (0, 2) := by
  obtain ⟨k, rfl⟩ : ∃ j, k = j + 1 := ⟨k - 1, by omega⟩
  simp only [iso_FromISO.j0, if_true]
 unfold iso_FromISO.f
 by_cases a : 0 ≤ y ∧ y ≤ 9999
 ·rw [iWeeks_yes k (by omega) y 1 a.1 a.2 ⟨by omega, by omega⟩]
  simp only [Option.bind_some, if_true]
  by_cases b : m < 1
  ·rw [if_pos b, key]
  ·by_cases c : m > (wk (y + 1) 1 - wk y 1) / 7
   ·rw [if_neg b, if_pos c, key]
   ·by_cases e : d < 1
    ·rw [if_neg b, if_neg c, if_pos e, key]
    ·rw [if_neg b, if_neg c, if_neg e, decide_eq_true (show d > 7 from by
      by_cases g : d ≤ 7
      ·exact absurd ⟨a.1, a.2, by omega, by omega, by omega, g⟩ h
      ·omega), key]
 ·rw [iWeeks_range k (by omega) y 1 (by omega)]
  simp only [Option.bind_some]
  rw [if_neg (by omega), key]
theorem iFrom_yes (k : Nat) (hk : 2 ≤ k) (y m d : Int) (h : RightI y m d) : iso_FromISO.f k y m d = some (if 1 ≤ wk y 1 + 7 * (m - 1) + d - 1 ∧ wk y 1 + 7 * (m - 1) + d - 1 ≤ 3652059 then (wk y 1 + 7 * (m - 1) + d - 1, 0) else (0, 2)) := by
 obtain ⟨h1, h2, h3, h4, h5, h6⟩ := h
 have hr := wk_rng y 1 (by omega) (by omega)
 obtain ⟨n, hn, hw⟩ := (show ∃ n, (wk (y + 1) 1 - wk y 1) / 7 = n ∧ n ≤ 60 from ⟨_, rfl, by have := wk_bd y 1; have := wk_bd (y + 1) 1; have := ah_succ y; have := lp_01 y; omega⟩)
 unfold iso_FromISO.f
 rw [iWeeks_yes k (by omega) y 1 h1 h2 ⟨by omega, by omega⟩]
 simp only [Option.bind_some, if_true]
 rw [if_neg (by omega), if_neg (by omega), if_neg (by omega), decide_eq_false (by omega)]
 obtain ⟨k, rfl⟩ : ∃ j, k = j + 1 := ⟨k - 1, by omega⟩
 simp only [iso_FromISO.j0]
 rw [if_neg (by simp), iFirst y 1 (by omega) (by omega) (by omega) (by omega), Option.bind_some, w64 (x := m - 1) (by omega) (by omega), w64 (x := 7 * (m - 1)) (by omega) (by omega), w64 (x := wk y 1 + 7 * (m - 1)) (by omega) (by omega), w64 (x := wk y 1 + 7 * (m - 1) + d) (by omega) (by omega), w64 (x := wk y 1 + 7 * (m - 1) + d - 1) (by omega) (by omega)]
 by_cases c : 1 ≤ wk y 1 + 7 * (m - 1) + d - 1 ∧ wk y 1 + 7 * (m - 1) + d - 1 ≤ 3652059
 ·rw [rOf_yes c, Option.bind_some, if_pos rfl, if_pos c]
 ·rw [rOf_no c, Option.bind_some, if_neg (by simp), if_neg c]
end Go.Proofs.YtgbbgcepcnklkaaGreatDoor.FunI
