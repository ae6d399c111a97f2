/- What the reference's Date tells: the date of a day in the Gregorian (0), Julian (1), ISO (2) and Coptic (6) calendar. -/
import Derived.Test.YthppkdbelmolbaaFunB
import Derived.Test.YthppkdbelmolbaaQrefDate
namespace Go.Proofs.Ythppkdbelmolbaa.FunD
open Go.RowKit Go.Proofs.YthppkdbelmolbaaW.PrintWords Go.Proofs.YthppkdbelmolbaaW.PrintLast Go.Proofs.Ythppkdbelmolbaa.Q Go.Proofs.Ythppkdbelmolbaa.Cal Go.Proofs.Ythppkdbelmolbaa.FunA Go.Proofs.Ythppkdbelmolbaa.FunB

theorem fSearch (c : Int) (hc : Four c) (day : Int) (K : Nat) (hK : 8 ≤ K) : ∀ (n k : Nat) (a b : Int), K + 2 * n + 1 ≤ k → a < b → b - a ≤ 2 ^ n → -801 ≤ a → b ≤ 15000 →
    fx c a 1 < day → day ≤ fx c b 1 → ∃ (y : Int) (k' : Nat), a ≤ y ∧ y < b ∧ fx c y 1 < day ∧ day ≤ fx c (y + 1) 1 ∧ K ≤ k' ∧ trystref01_Date.l0 k c day a b = trystref01_Date.l1 k' c day y 1 := by
  have n3 : ¬ c = 3 := by rcases hc with rfl | rfl | rfl | rfl <;> omega
  have n5 : ¬ c = 5 := by rcases hc with rfl | rfl | rfl | rfl <;> omega
  intro n
  induction n with
  | zero =>
    intro k a b h1 h2 h3 h4 h5 h6 h7
    obtain ⟨k, rfl⟩ : ∃ j, k = j + 1 := ⟨k - 1, by omega⟩
    have e : b = a + 1 := by simp at h3; omega
    subst e
    refine ⟨a, k, by omega, by omega, h6, h7, by omega, ?_⟩
    simp only [trystref01_Date.l0]
    rw [fNext c a hc (by omega) (by omega), Option.bind_some, if_neg (by omega), if_neg n3]
  | succ n ih =>
    intro k a b h1 h2 h3 h4 h5 h6 h7
    obtain ⟨k, rfl⟩ : ∃ j, k = j + 1 := ⟨k - 1, by omega⟩
    simp only [trystref01_Date.l0]
    rw [fNext c a hc (by omega) (by omega), Option.bind_some]
    by_cases c1 : a + 1 < b
    · rw [if_pos c1, w64 (by omega) (by omega), fFloor _ 2 (by omega) (by omega) ⟨by omega, by omega⟩, Option.bind_some, if_neg n5]
      obtain ⟨k, rfl⟩ : ∃ j, k = j + 1 := ⟨k - 1, by omega⟩
      simp only [trystref01_Date.j1]
      rw [if_neg (by simp), fBegins k (by omega) c _ hc (by omega) (by omega), Option.bind_some]
      have hp : (2 : Int) ^ (n + 1) = 2 * 2 ^ n := by rw [Int.pow_succ]; omega
      rw [hp] at h3
      generalize (2 : Int) ^ n = P at *
      by_cases c2 : fx c ((a + b) / 2) 1 + 1 ≤ day
      · rw [if_pos c2]
        obtain ⟨y, k', r1, r2, r3, r4, r5, r6⟩ := ih k ((a + b) / 2) b (by omega) (by omega) (by omega) (by omega) (by omega) (by omega) h7
        exact ⟨y, k', by omega, r2, r3, r4, r5, r6⟩
      · rw [if_neg c2]
        obtain ⟨y, k', r1, r2, r3, r4, r5, r6⟩ := ih k a ((a + b) / 2) (by omega) (by omega) (by omega) (by omega) (by omega) h6 (by omega)
        exact ⟨y, k', r1, by omega, r3, r4, r5, r6⟩
    · have e : b = a + 1 := by omega
      subst e
      refine ⟨a, k, by omega, by omega, h6, h7, by omega, ?_⟩
      rw [if_neg (by omega), if_neg n3]
theorem fLoop (c : Int) (hc : Four c) (day y : Int) (hd : In day) (hy : -801 ≤ y) (hy' : y ≤ 15000) : ∀ (j k : Nat) (m : Int), 1 ≤ m → m ≤ mths c y → mths c y - m = j → j + 9 ≤ k →
    fx c y m < day → ∃ m', m ≤ m' ∧ m' ≤ mths c y ∧ fx c y m' < day ∧ (m' < mths c y → day ≤ fx c y (m' + 1)) ∧ trystref01_Date.l1 k c day y m = some (y, m', day - fx c y m', 0) := by
  obtain ⟨d1, d2⟩ := hd
  have hM := mths_bd c y
  intro j
  induction j with
  | zero =>
    intro k m h1 h2 h3 h4 h5
    obtain ⟨k, rfl⟩ : ∃ j, k = j + 1 := ⟨k - 1, by omega⟩
    have hb := fx_bd c y m hc (by omega) (by omega) h1 (by omega)
    refine ⟨m, by omega, h2, h5, fun h => by omega, ?_⟩
    simp only [trystref01_Date.l1]
    rw [fMonths k (by omega) c y hc (by omega) (by omega), Option.bind_some, if_neg (by omega), fFixed k (by omega) c y m 1 hc (by omega) (by omega) (by omega) (by omega) (by omega) (by omega), Option.bind_some, w64 (x := day - (fx c y m + 1)) (by omega) (by omega), w64 (by omega) (by omega)]
    have e : day - (fx c y m + 1) + 1 = day - fx c y m := by omega
    rw [e]
  | succ j ih =>
    intro k m h1 h2 h3 h4 h5
    obtain ⟨k, rfl⟩ : ∃ j, k = j + 1 := ⟨k - 1, by omega⟩
    have hb := fx_bd c y m hc (by omega) (by omega) h1 (by omega)
    simp only [trystref01_Date.l1]
    rw [fMonths k (by omega) c y hc (by omega) (by omega), Option.bind_some, if_pos (by omega), w64 (x := m + 1) (by omega) (by omega), fFixed k (by omega) c y (m + 1) 1 hc (by omega) (by omega) (by omega) (by omega) (by omega) (by omega), Option.bind_some]
    by_cases c2 : fx c y (m + 1) + 1 ≤ day
    · rw [if_pos c2]
      obtain ⟨m', r1, r2, r3, r4, r5⟩ := ih k (m + 1) (by omega) (by omega) (by omega) (by omega) (by omega)
      exact ⟨m', by omega, r2, r3, r4, r5⟩
    · refine ⟨m, by omega, h2, h5, fun _ => by omega, ?_⟩
      rw [if_neg c2, fFixed k (by omega) c y m 1 hc (by omega) (by omega) (by omega) (by omega) (by omega) (by omega), Option.bind_some, w64 (x := day - (fx c y m + 1)) (by omega) (by omega), w64 (by omega) (by omega)]
      have e : day - (fx c y m + 1) + 1 = day - fx c y m := by omega
      rw [e]
def start (c : Int) : Int := if c = 1 then 1 else if c = 2 then 0 else if c = 0 then 1 else -800
theorem fLeast (c : Int) (hc : Four c) : trystref01_least.f c = some (start c) := by
  rcases hc with rfl | rfl | rfl | rfl <;> rfl
theorem fx_start (c : Int) (hc : Four c) : fx c (start c) 1 < 1 ∧ 3652059 ≤ fx c 15000 1 := by
  have h1 := wk_bd 0 1; have h2 := wk_bd 15000 1
  have e0 : ah 0 = -366 := by decide
  have e1 : ah 15000 = 5478272 := by decide
  rcases hc with rfl | rfl | rfl | rfl
  · decide
  · decide
  · simp [fx, start]; omega
  · decide
theorem fDate (k : Nat) (hk : 120 ≤ k) (c : Int) (hc : Four c) (day : Int) (hd : In day) : ∃ y m, -801 ≤ y ∧ y < 15000 ∧ fx c y 1 < day ∧ day ≤ fx c (y + 1) 1 ∧ 1 ≤ m ∧ m ≤ mths c y ∧
    fx c y m < day ∧ (m < mths c y → day ≤ fx c y (m + 1)) ∧ trystref01_Date.f k c day = some (y, m, day - fx c y m, 0) := by
  have hs := fx_start c hc
  have h0 : -800 ≤ start c ∧ start c ≤ 1 := by rcases hc with rfl | rfl | rfl | rfl <;> decide
  have h14 : (2 : Int) ^ 14 = 16384 := by decide
  obtain ⟨y, k', h1, h2, h3, h4, h5, h6⟩ := fSearch c hc day 80 (by omega) 14 k (start c) 15000 (by omega) (by omega) (by rw [h14]; omega) (by omega) (by omega) (by have := hd.1; omega) (by have := hd.2; omega)
  have hM := mths_bd c y
  obtain ⟨m, r1, r2, r3, r4, r5⟩ := fLoop c hc day y hd (by omega) (by omega) (mths c y - 1).toNat k' 1 (by omega) (by omega) (by omega) (by omega) h3
  refine ⟨y, m, by omega, h2, h3, h4, r1, r2, r3, r4, ?_⟩
  unfold trystref01_Date.f
  rw [fIn_yes hd, Option.bind_some, if_pos rfl, fLeast c hc, Option.bind_some, h6, r5]
theorem fDate_no (k : Nat) (c day : Int) (h : ¬ In day) : trystref01_Date.f k c day = some (0, 0, 0, 2) := by
  unfold trystref01_Date.f
  rw [fIn_no h, Option.bind_some, if_neg (by simp)]
theorem mths12 (c y : Int) (hc : c = 0 ∨ c = 1) : mths c y = 12 := by
  unfold mths; rcases hc with rfl | rfl <;> simp
/-- The reference's Gregorian date. -/
theorem fDate0 (k : Nat) (hk : 120 ≤ k) (day : Int) (hd : In day) : ∃ y m d, trystref01_Date.f k 0 day = some (y, m, d, 0) ∧ Is ah lp y m d day := by
  obtain ⟨y, m, h1, h2, h3, h4, h5, h6, h7, h8, h9⟩ := fDate k hk 0 (Or.inl rfl) day hd
  rw [mths12 0 y (Or.inl rfl)] at h6 h8
  refine ⟨y, m, _, h9, ⟨h5, h6, by omega, ?_, by simp [fx]; omega⟩⟩
  have s := cum_succ (lp y) m h5 h6
  by_cases e : m < 12
  · have := h8 e
    simp [fx] at this ⊢; omega
  · have e12 : m = 12 := by omega
    subst e12
    rw [fx_end 0 y (Or.inl rfl)] at h4
    simp [fx] at h4 ⊢
    have e13 : (12 : Int) + 1 = 13 := rfl
    rw [e13] at s; omega
theorem fDate1 (k : Nat) (hk : 120 ≤ k) (day : Int) (hd : In day) : ∃ y m d, trystref01_Date.f k 1 day = some (y, m, d, 0) ∧ Is jb lj y m d day := by
  obtain ⟨y, m, h1, h2, h3, h4, h5, h6, h7, h8, h9⟩ := fDate k hk 1 (Or.inr (Or.inl rfl)) day hd
  rw [mths12 1 y (Or.inr rfl)] at h6 h8
  refine ⟨y, m, _, h9, ⟨h5, h6, by omega, ?_, by simp [fx]; omega⟩⟩
  have s := cum_succ (lj y) m h5 h6
  by_cases e : m < 12
  · have := h8 e
    simp [fx] at this ⊢; omega
  · have e12 : m = 12 := by omega
    subst e12
    rw [fx_end 1 y (Or.inr rfl)] at h4
    simp [fx] at h4 ⊢
    have e13 : (12 : Int) + 1 = 13 := rfl
    rw [e13] at s; omega
theorem fDate6 (k : Nat) (hk : 120 ≤ k) (day : Int) (hd : In day) : ∃ y m d, trystref01_Date.f k 6 day = some (y, m, d, 0) ∧ IsC y m d day := by
  obtain ⟨y, m, h1, h2, h3, h4, h5, h6, h7, h8, h9⟩ := fDate k hk 6 (Or.inr (Or.inr (Or.inr rfl))) day hd
  have e : mths 6 y = 13 := by simp [mths]
  have s := cb_succ y
  rw [e] at h6 h8
  simp [fx] at h3 h4 h7 h8
  refine ⟨y, m, _, h9, ⟨h5, h6, by simp [fx]; omega, ?_, ?_, by simp [fx]; omega⟩⟩
  · simp [fx]
    have := lc_56 y
    by_cases e : m < 13
    · have := h8 e; omega
    · omega
  · intro e; subst e; simp [fx]; omega
/-- The reference's ISO date. -/
theorem fDate2 (k : Nat) (hk : 120 ≤ k) (day : Int) (hd : In day) : ∃ y m d, trystref01_Date.f k 2 day = some (y, m, d, 0) ∧ -801 ≤ y ∧ y < 15000 ∧ wk y 1 ≤ day ∧ day < wk (y + 1) 1 ∧ m = (day - wk y 1) / 7 + 1 ∧ d = (day - wk y 1) % 7 + 1 := by
  obtain ⟨y, m, h1, h2, h3, h4, h5, h6, h7, h8, h9⟩ := fDate k hk 2 (Or.inr (Or.inr (Or.inl rfl))) day hd
  obtain ⟨n, hn, hw⟩ := wks y 1
  have e : mths 2 y = n := by simp [mths]; omega
  rw [e] at h6 h8
  simp [fx] at h3 h4 h7 h8
  refine ⟨y, m, _, h9, h1, h2, by omega, by omega, ?_, ?_⟩
  · by_cases c : m < n
    · have := h8 c; omega
    · omega
  · simp [fx]
    by_cases c : m < n
    · have := h8 c; omega
    · omega
end Go.Proofs.Ythppkdbelmolbaa.FunD
