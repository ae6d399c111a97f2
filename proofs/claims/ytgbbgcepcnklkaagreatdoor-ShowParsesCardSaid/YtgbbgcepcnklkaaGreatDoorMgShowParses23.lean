/- Texts of this claim, merged: ShowPl, FunBk, ShowPs, ShowP3, ShowTx2. -/
import Derived.Test.YtgbbgcepcnklkaaGreatDoorMgShowParses22
import Derived.Lib.SplitLaws
import Derived.Lib.AtoiAll
import Derived.Lib.ItoaNum
import Derived.Test.YtgbbgcepcnklkaaGreatDoorMgShowParses20
import Derived.Test.YtgbbgcepcnklkaaGreatDoorMgShowParses1
import Derived.Test.YtgbbgcepcnklkaaGreatDoorMgShowParses3
import Derived.Test.YtgbbgcepcnklkaaGreatDoorMgShowParses10
/- Texts cut at '-': three pieces; numerals written and read back. No program in sight. -/
namespace Go.Proofs.YtgbbgcepcnklkaaGreatDoor.ShowPl
open Go.Lib
set_option linter.unusedVariables false
set_option linter.unusedSimpArgs false
theorem idx (c : UInt8) : ∀ l : List UInt8, (index l [c] = -1 ∧ c ∉ l) ∨ ∃ a r, l = a ++ c :: r ∧ c ∉ a ∧ index l [c] = (a.length : Int)
 | [] => Or.inl ⟨rfl, by simp⟩
 | b :: l => by
  by_cases e : c = b
  ·subst e
   exact Or.inr ⟨[], l, rfl, by simp, by simp [index, List.isPrefixOf]⟩
  ·have e' : ([c].isPrefixOf (b :: l)) = false := by simp [List.isPrefixOf, e]
   rcases idx c l with ⟨h1, h2⟩ | ⟨a, r, h1, h2, h3⟩
   ·refine Or.inl ⟨?_, by simp [h2, e]⟩
    unfold index
    rw [e', if_neg (by simp), h1]
    exact if_pos rfl
   ·refine Or.inr ⟨b :: a, r, by rw [h1]; rfl, by simp [h2, e], ?_⟩
    unfold index
    rw [e', if_neg (by simp), h3, if_neg (by simp <;> omega)]
    simp
theorem idx_at (c : UInt8) (a r : List UInt8) (h : c ∉ a) : index (a ++ c :: r) [c] = (a.length : Int) := by
 induction a with
 | nil => simp [index, List.isPrefixOf]
 | cons b a ih =>
  have hb : ¬ c = b := fun e => h (by simp [e])
  have e' : ([c].isPrefixOf (b :: (a ++ c :: r))) = false := by simp [List.isPrefixOf, hb]
  show index (b :: (a ++ c :: r)) [c] = _
  unfold index
  rw [e', if_neg (by simp), ih (fun z => h (by simp [z])), if_neg (by simp <;> omega)]
  simp
theorem cut (c : UInt8) (a r : List UInt8) (h : c ∉ a) (k : Nat) : splitK [c] 0 (k + 1) (a ++ c :: r) = a :: splitK [c] 0 k r := by
 rw [splitK, idx_at c a r h, if_neg (by simp <;> omega)]
 simp
/-- Two separators: three pieces. -/
theorem three (c : UInt8) (l : List UInt8) (h : l.count c = 2) : ∃ a b d, l = a ++ c :: (b ++ c :: d) ∧ c ∉ a ∧ c ∉ b ∧ c ∉ d := by
 rcases idx c l with ⟨h1, h2⟩ | ⟨a, r, h1, h2, h3⟩
 ·rw [List.count_eq_zero_of_not_mem h2] at h; omega
 ·subst h1
  rw [List.count_append, List.count_eq_zero_of_not_mem h2, List.count_cons_self] at h
  rcases idx c r with ⟨g1, g2⟩ | ⟨b, d, g1, g2, g3⟩
  ·rw [List.count_eq_zero_of_not_mem g2] at h; omega
  ·subst g1
   rw [List.count_append, List.count_eq_zero_of_not_mem g2, List.count_cons_self] at h
   have hd : c ∉ d := List.count_eq_zero.1 (by omega)
   exact ⟨a, b, d, rfl, h2, g2, hd⟩
def by3 (l : List UInt8) : ByteArray := ⟨l.toArray⟩
theorem ba (s : ByteArray) : by3 s.data.toList = s := by unfold by3; cases s; simp
theorem countB_eq (s : ByteArray) (c : UInt8) : countB s ⟨#[c]⟩ = s.data.toList.count c := by
 show Lib.count s.data.toList [c] = _
 rw [Lib.count_one]
theorem pieces (c : UInt8) (s : ByteArray) (a b d : List UInt8) (h : s.data.toList = a ++ c :: (b ++ c :: d)) (ha : c ∉ a) (hb : c ∉ b) (hd : c ∉ d) :
  countB s ⟨#[c]⟩ = 2 ∧ splitB ⟨#[c]⟩ 0 2 s = [by3 a, by3 b, by3 d] := by
 constructor
 ·rw [countB_eq, h, List.count_append, List.count_cons_self, List.count_append, List.count_cons_self, List.count_eq_zero_of_not_mem ha, List.count_eq_zero_of_not_mem hb, List.count_eq_zero_of_not_mem hd]
 ·have e := splitB_data ⟨#[c]⟩ 0 2 s
  rw [h] at e
  have e2 : splitK [c] 0 2 (a ++ c :: (b ++ c :: d)) = [a, b, d] := by
   rw [cut c a _ ha, cut c b _ hb]
   rfl
  have e3 : (splitB ⟨#[c]⟩ 0 2 s).map (·.data.toList) = [a, b, d] := e.trans e2
  have e4 : (splitB ⟨#[c]⟩ 0 2 s) = ((splitB ⟨#[c]⟩ 0 2 s).map (·.data.toList)).map by3 := by
   rw [List.map_map]
   conv => lhs; rw [← List.map_id (splitB ⟨#[c]⟩ 0 2 s)]
   apply List.map_congr_left
   intro x _
   exact (ba x).symm
  rw [e4, e3]
  rfl
/-! ### numerals -/
theorem dec_ne (u : Nat) : decDigits u ≠ [] := by
 unfold decDigits
 split <;> simp
theorem dig_byte (u : Nat) (h : u < 10) : (UInt8.ofNat (48 + u)).toNat = 48 + u := by
 rw [UInt8.toNat_ofNat']
 omega
theorem dec_mem : ∀ (j u : Nat), u < 10 ^ (j + 1) → ∀ x ∈ decDigits u, 48 ≤ x.toNat ∧ x.toNat ≤ 57 := by
 intro j
 induction j with
 | zero =>
  intro u h x hx
  unfold decDigits at hx
  rw [dif_pos (by omega)] at hx
  rw [List.mem_singleton] at hx
  rw [hx, dig_byte u (by omega)]
  omega
 | succ j ih =>
  intro u h x hx
  unfold decDigits at hx
  by_cases c : u < 10
  ·rw [dif_pos c] at hx
   rw [List.mem_singleton] at hx
   rw [hx, dig_byte u c]
   omega
  ·rw [dif_neg c] at hx
   rcases List.mem_append.1 hx with q | q
   ·exact ih (u / 10) (by rw [Nat.pow_succ] at h; omega) x q
   ·rw [List.mem_singleton] at q
    rw [q, dig_byte (u % 10) (by omega)]
    omega
theorem par_app : ∀ (l : List UInt8) (acc v d : Nat), parseUint10 acc l = .ok v → v < 100000000 → d < 10 → parseUint10 acc (l ++ [UInt8.ofNat (48 + d)]) = .ok (v * 10 + d)
 | [], acc, v, d, h, hv, hd => by
  simp only [parseUint10] at h
  injection h with h
  subst h
  simp only [List.nil_append, parseUint10]
  rw [dig_byte d hd, if_pos (by omega), if_neg (by omega), if_neg (by omega)]
  congr 1
  omega
 | c :: r, acc, v, d, h, hv, hd => by
  simp only [parseUint10] at h
  show parseUint10 acc (c :: (r ++ _)) = _
  simp only [parseUint10]
  split at h
  ·rename_i c1
   rw [if_pos c1]
   split at h
   ·cases h
   ·rename_i c2
    rw [if_neg c2]
    split at h
    ·cases h
    ·rename_i c3
     rw [if_neg c3]
     exact par_app r _ v d h hv hd
  ·cases h
theorem par_dec : ∀ (j u : Nat), u < 10 ^ (j + 1) → u < 100000000 → parseUint10 0 (decDigits u) = .ok u := by
 intro j
 induction j with
 | zero =>
  intro u h hu
  unfold decDigits
  rw [dif_pos (by omega)]
  have := par_app [] 0 0 u rfl (by omega) (by omega)
  simpa using this
 | succ j ih =>
  intro u h hu
  unfold decDigits
  by_cases c : u < 10
  ·rw [dif_pos c]
   have := par_app [] 0 0 u rfl (by omega) (by omega)
   simpa using this
  ·rw [dif_neg c, par_app _ 0 (u / 10) (u % 10) (ih (u / 10) (by rw [Nat.pow_succ] at h; omega) (by omega)) (by omega) (by omega)]
   congr 1
   omega
theorem par_mag (u : Nat) (hu : u < 100000000) : parseMag (decDigits u) = .ok u := by
 unfold parseMag
 rw [if_neg (dec_ne u), par_dec 8 u (by omega) hu]
theorem dec_head (u : Nat) (hu : u < 100000000) : ∃ x r, decDigits u = x :: r ∧ 48 ≤ x.toNat ∧ x.toNat ≤ 57 := by
 cases h : decDigits u with
 | nil => exact absurd h (dec_ne u)
 | cons x r => exact ⟨x, r, rfl, dec_mem 8 u (by omega) x (by rw [h]; simp)⟩
theorem atoi_itoa (n : Int) (h : -10000000 ≤ n) (h' : n ≤ 10000000) : atoiAll (itoa n) = .ok n := by
 unfold itoa
 by_cases c : n < 0
 ·rw [if_pos c]
  unfold atoiAll
  simp only
  have e : (45 : UInt8).toNat = 45 := rfl
  rw [e, if_pos (Or.inr rfl), par_mag n.natAbs (by omega)]
  simp only
  rw [if_neg (by omega), if_neg (by omega), if_pos trivial]
  congr 1
  omega
 ·rw [if_neg c]
  obtain ⟨x, r, e, h1, h2⟩ := dec_head n.toNat (by omega)
  have em := par_mag n.toNat (by omega)
  rw [e] at em ⊢
  unfold atoiAll
  simp only
  rw [if_neg (by omega), em]
  simp only
  rw [if_neg (by omega), if_neg (by omega), if_neg (by omega)]
  congr 1
  omega
theorem dec_no (u : Nat) (hu : u < 100000000) : (45 : UInt8) ∉ decDigits u := fun h => by
 have := dec_mem 8 u (by omega) 45 h
 have e : (45 : UInt8).toNat = 45 := rfl
 omega
/-- A numeral: a sign perhaps, then digits. -/
theorem itoa_parts (n : Int) (h : -10000000 ≤ n) (h' : n ≤ 10000000) : ∃ x r, (45 : UInt8) ∉ x :: r ∧ ((n < 0 ∧ itoa n = 45 :: x :: r) ∨ (0 ≤ n ∧ itoa n = x :: r)) := by
 unfold itoa
 by_cases c : n < 0
 ·obtain ⟨x, r, e, h1, h2⟩ := dec_head n.natAbs (by omega)
  exact ⟨x, r, by rw [← e]; exact dec_no _ (by omega), Or.inl ⟨c, by rw [if_pos c, e]⟩⟩
 ·obtain ⟨x, r, e, h1, h2⟩ := dec_head n.toNat (by omega)
  exact ⟨x, r, by rw [← e]; exact dec_no _ (by omega), Or.inr ⟨by omega, by rw [if_neg c, e]⟩⟩
theorem itoa_no (n : Int) (h : 0 ≤ n) (h' : n ≤ 10000000) : (45 : UInt8) ∉ itoa n := by
 unfold itoa
 rw [if_neg (by omega)]
 exact dec_no _ (by omega)
/-- What digits tells of a text. -/
def dig (s : ByteArray) : Int × Bool :=
 match atoiAll s.data.toList with
 | .ok v => (v, (itoa v) == s.data.toList)
 | .«syntax» => (0, false)
 | .range => (atoiSat s.data.toList, false)
theorem dig_yes (s : ByteArray) (v : Int) (h : dig s = (v, true)) : s.data.toList = itoa v := by
 unfold dig at h
 cases hA : atoiAll s.data.toList with
 | ok u =>
  rw [hA] at h
  simp only [Prod.mk.injEq] at h
  obtain ⟨rfl, h2⟩ := h
  exact (eq_of_beq h2).symm
 | «syntax» => rw [hA] at h; simp at h
 | range => rw [hA] at h; simp at h
theorem dig_it (n : Int) (h : -10000000 ≤ n) (h' : n ≤ 10000000) : dig (by3 (itoa n)) = (n, true) := by
 have e : (by3 (itoa n)).data.toList = itoa n := by simp [by3]
 unfold dig
 rw [e, atoi_itoa n h h']
 simp
end Go.Proofs.YtgbbgcepcnklkaaGreatDoor.ShowPl
/- There and back in every calendar: the date of a day has the day, the day of a date has the date (days by the program's functions, dates by the reference's). -/
namespace Go.Proofs.YtgbbgcepcnklkaaGreatDoor.FunBk
open Go.RowKit Go.Proofs.YtgbbgcepcnklkaaGreatDoorW.PrintWords Go.Proofs.YtgbbgcepcnklkaaGreatDoorW.PrintLast Go.Proofs.YtgbbgcepcnklkaaGreatDoor.Q Go.Proofs.YtgbbgcepcnklkaaGreatDoor.Cal Go.Proofs.YtgbbgcepcnklkaaGreatDoor.FunA Go.Proofs.YtgbbgcepcnklkaaGreatDoor.FunB Go.Proofs.YtgbbgcepcnklkaaGreatDoor.FunC Go.Proofs.YtgbbgcepcnklkaaGreatDoor.FunD Go.Proofs.YtgbbgcepcnklkaaGreatDoor.FunI Go.Proofs.YtgbbgcepcnklkaaGreatDoor.FunJ Go.Proofs.YtgbbgcepcnklkaaGreatDoor.FunK Go.Proofs.YtgbbgcepcnklkaaGreatDoor.Cal3
set_option linter.unusedVariables false
set_option linter.unusedSimpArgs false
abbrev K : Nat := FunZ.K
/-- A date's day, as the program tells it. -/
def PD (c y m d : Int) : Option (Int × Int) := if c = 0 then rata_Day.f 40 y m d else if c = 1 then julian_FromJulian.f 40 y m d else if c = 2 then iso_FromISO.f 40 y m d else if c = 3 then hebrew_FromHebrew.f 40 y m d else if c = 4 then islam_FromIslamic.f 40 y m d else if c = 5 then persian_FromPersian.f 40 y m d else julian_FromCoptic.f 40 y m d
theorem pd0 (y m d : Int) : PD 0 y m d = rata_Day.f 40 y m d := by unfold PD; rw [if_pos rfl]
theorem pd1 (y m d : Int) : PD 1 y m d = julian_FromJulian.f 40 y m d := by unfold PD; rw [if_neg (by decide), if_pos rfl]
theorem pd2 (y m d : Int) : PD 2 y m d = iso_FromISO.f 40 y m d := by unfold PD; rw [if_neg (by decide), if_neg (by decide), if_pos rfl]
theorem pd3 (y m d : Int) : PD 3 y m d = hebrew_FromHebrew.f 40 y m d := by unfold PD; rw [if_neg (by decide), if_neg (by decide), if_neg (by decide), if_pos rfl]
theorem pd4 (y m d : Int) : PD 4 y m d = islam_FromIslamic.f 40 y m d := by unfold PD; rw [if_neg (by decide), if_neg (by decide), if_neg (by decide), if_neg (by decide), if_pos rfl]
theorem pd5 (y m d : Int) : PD 5 y m d = persian_FromPersian.f 40 y m d := by unfold PD; rw [if_neg (by decide), if_neg (by decide), if_neg (by decide), if_neg (by decide), if_neg (by decide), if_pos rfl]
theorem pd6 (y m d : Int) : PD 6 y m d = julian_FromCoptic.f 40 y m d := by unfold PD; rw [if_neg (by decide), if_neg (by decide), if_neg (by decide), if_neg (by decide), if_neg (by decide), if_neg (by decide)]
/-- What a date's day says. -/
def Back (c y m d n : Int) : Prop := In n ∧ trystref01_Date.f K c n = some (y, m, d, 0)
theorem back0 (y m d n : Int) (h : rata_Day.f 40 y m d = some (n, 0)) : Back 0 y m d n := by
 by_cases c : Right y m d
 ·rw [rDay_yes 40 (by omega) y m d c] at h
  simp only [Option.some.injEq, Prod.mk.injEq, and_true] at h
  have hm := dim_pos (lp y) m (by have := c.2.2; omega)
  obtain ⟨h1, h2, h3, h4⟩ := c
  have hi : Is ah lp y m d n := ⟨hm.1, hm.2, h3, h4, h.symm⟩
  have hs := ah_le h1
  have hs' := ah_le (show y + 1 ≤ 10000 by omega)
  have e1 : ah 1 = 0 := by decide
  have e2 : ah 10000 = 3652059 := by decide
  have hyy := hi.year greg
  have hn : In n := ⟨by omega, by omega⟩
  obtain ⟨y', m', d', e', hd'⟩ := fDate0 K (by decide) n hn
  obtain ⟨r1, r2, r3⟩ := Is.one greg hi hd'
  rw [← r1, ← r2, ← r3] at e'
  exact ⟨hn, e'⟩
 ·rw [rDay_no 40 (by omega) y m d c] at h
  simp at h
theorem or0 {x n : Int} (h : dayOr x = (n, 0)) : In n ∧ x = n := by
 unfold dayOr at h
 by_cases c : 1 ≤ x ∧ x ≤ 3652059
 ·rw [if_pos c] at h
  simp only [Prod.mk.injEq, and_true] at h
  subst h
  exact ⟨c, rfl⟩
 ·rw [if_neg c] at h
  simp at h
theorem back1 (y m d n : Int) (h : julian_FromJulian.f 40 y m d = some (n, 0)) : Back 1 y m d n := by
 by_cases c : RightJ y m d
 ·rw [jFrom_yes 40 (by omega) y m d c] at h
  obtain ⟨hn, e⟩ := or0 (Option.some.inj h)
  have hm := dim_pos (lj y) m (by have := c.2.2; omega)
  obtain ⟨h1, h2, h3, h4⟩ := c
  have hi : Is jb lj y m d n := ⟨hm.1, hm.2, h3, h4, e.symm⟩
  obtain ⟨y', m', d', e', hd'⟩ := fDate1 K (by decide) n hn
  obtain ⟨r1, r2, r3⟩ := Is.one jul hi hd'
  rw [← r1, ← r2, ← r3] at e'
  exact ⟨hn, e'⟩
 ·rw [jFrom_no 40 (by omega) y m d c] at h
  simp at h
theorem back2 (y m d n : Int) (h : iso_FromISO.f 40 y m d = some (n, 0)) : Back 2 y m d n := by
 by_cases c : RightI y m d
 ·rw [iFrom_yes 40 (by omega) y m d c] at h
  obtain ⟨hn, e⟩ := or0 (Option.some.inj h)
  obtain ⟨c1, c2, c3, c4, c5, c6⟩ := c
  obtain ⟨q, hq, hw⟩ := wks y 1
  obtain ⟨z, m', d', e', z1, z2, h3, h4, h5, h6⟩ := fDate2 K (by decide) n hn
  have hz : y = z := wk_one (by omega) (by omega) h3 h4
  subst hz
  rw [show m' = m by omega, show d' = d by omega] at e'
  exact ⟨hn, e'⟩
 ·rw [iFrom_no 40 (by omega) y m d c] at h
  simp at h
theorem back6 (y m d n : Int) (h : julian_FromCoptic.f 40 y m d = some (n, 0)) : Back 6 y m d n := by
 by_cases c : RightC y m d
 ·rw [kFrom_yes 40 (by omega) y m d c] at h
  obtain ⟨hn, e⟩ := or0 (Option.some.inj h)
  have hm := clen_pos y m (by have := c.2.2; omega)
  obtain ⟨h1, h2, h3, h4⟩ := c
  have hi : IsC y m d n := ⟨hm.1, hm.2.1, h3, by omega, fun q => by subst q; unfold clen at h4; rw [if_neg (by omega), if_pos rfl] at h4; exact h4, e.symm⟩
  obtain ⟨y', m', d', e', hd'⟩ := fDate6 K (by decide) n hn
  obtain ⟨r1, r2, r3⟩ := IsC.one hi hd'
  rw [← r1, ← r2, ← r3] at e'
  exact ⟨hn, e'⟩
 ·rw [kFrom_no 40 (by omega) y m d c] at h
  simp at h
theorem back4 (y m d n : Int) (h : islam_FromIslamic.f 40 y m d = some (n, 0)) : Back 4 y m d n := by
 rw [FunM.mFrom 40 (by omega)] at h
 by_cases c : FunM.RightM y m d
 ·rw [if_pos c] at h
  obtain ⟨hn, e⟩ := or0 (Option.some.inj h)
  have hm := il_pos (li y) m (by have := c.2.2; omega)
  obtain ⟨h1, h2, h3, h4⟩ := c
  have hi : IsI y m d n := ⟨hm.1, hm.2, h3, h4, e.symm⟩
  obtain ⟨y', m', d', e', hd'⟩ := FunRd.date4 K (by decide) n hn
  obtain ⟨r1, r2, r3⟩ := IsI.one hi hd'
  rw [← r1, ← r2, ← r3] at e'
  exact ⟨hn, e'⟩
 ·rw [if_neg c] at h
  simp at h
theorem back5 (y m d n : Int) (h : persian_FromPersian.f 40 y m d = some (n, 0)) : Back 5 y m d n := by
 rw [FunS.sFrom 40 (by omega)] at h
 by_cases c : FunS.RightS y m d
 ·rw [if_pos c] at h
  obtain ⟨hn, e⟩ := or0 (Option.some.inj h)
  have hm := pdim_pos (pl (ps y)) m (by have := c.2.2.2; omega)
  obtain ⟨h1, h2, h0, h3, h4⟩ := c
  have hi : IsP y m d n := ⟨hm.1, hm.2, h3, h4, e.symm⟩
  obtain ⟨y', m', d', e', z', hd'⟩ := FunRd.date5 K (by decide) n hn
  obtain ⟨r1, r2, r3⟩ := IsP.one h0 z' hi hd'
  rw [← r1, ← r2, ← r3] at e'
  exact ⟨hn, e'⟩
 ·rw [if_neg c] at h
  simp at h
theorem back3 (y m d n : Int) (h : hebrew_FromHebrew.f 40 y m d = some (n, 0)) : Back 3 y m d n := by
 rw [FunH.pFrom 40 (by omega)] at h
 by_cases c : FunH.RightH y m d
 ·rw [if_pos c] at h
  obtain ⟨hn, e⟩ := or0 (Option.some.inj h)
  have hm := FunH.lenH_pos (y := y) (m := m) (by have := c.2.2; omega)
  obtain ⟨h1, h2, h3, h4⟩ := c
  have hi : FunMd.IsH y m d n := ⟨hm.1, hm.2, h3, by unfold FunH.lenH at h4; rw [if_pos hm] at h4; exact h4, e.symm⟩
  obtain ⟨y', m', d', e', z1', z2', hd'⟩ := FunRd.date3 K (by decide) n hn
  obtain ⟨r1, r2, r3⟩ := FunMd.IsH.one hi hd' h1 h2 z1' (by omega)
  rw [← r1, ← r2, ← r3] at e'
  exact ⟨hn, e'⟩
 ·rw [if_neg c] at h
  simp at h
theorem calendars {c : Int} (h : 0 ≤ c) (h' : c ≤ 6) : c = 0 ∨ c = 1 ∨ c = 2 ∨ c = 3 ∨ c = 4 ∨ c = 5 ∨ c = 6 := by omega
/-- The day of a date has the date. -/
theorem back (c y m d n : Int) (hc : 0 ≤ c) (hc' : c ≤ 6) (h : PD c y m d = some (n, 0)) : Back c y m d n := by
 rcases calendars hc hc' with rfl | rfl | rfl | rfl | rfl | rfl | rfl
 ·rw [pd0] at h; exact back0 y m d n h
 ·rw [pd1] at h; exact back1 y m d n h
 ·rw [pd2] at h; exact back2 y m d n h
 ·rw [pd3] at h; exact back3 y m d n h
 ·rw [pd4] at h; exact back4 y m d n h
 ·rw [pd5] at h; exact back5 y m d n h
 ·rw [pd6] at h; exact back6 y m d n h
/-- A day, or an error, in every calendar. -/
theorem told (c y m d : Int) (hc : 0 ≤ c) (hc' : c ≤ 6) : ∃ r1 r2, PD c y m d = some (r1, r2) := by
 rcases calendars hc hc' with rfl | rfl | rfl | rfl | rfl | rfl | rfl
 ·rw [pd0]
  by_cases c : Right y m d
  ·exact ⟨_, _, rDay_yes 40 (by omega) y m d c⟩
  ·exact ⟨_, _, rDay_no 40 (by omega) y m d c⟩
 ·rw [pd1]
  by_cases c : RightJ y m d
  ·exact ⟨_, _, jFrom_yes 40 (by omega) y m d c⟩
  ·exact ⟨_, _, jFrom_no 40 (by omega) y m d c⟩
 ·rw [pd2]
  by_cases c : RightI y m d
  ·exact ⟨_, _, iFrom_yes 40 (by omega) y m d c⟩
  ·exact ⟨_, _, iFrom_no 40 (by omega) y m d c⟩
 ·rw [pd3]; exact ⟨_, _, FunH.pFrom 40 (by omega) y m d⟩
 ·rw [pd4]; exact ⟨_, _, FunM.mFrom 40 (by omega) y m d⟩
 ·rw [pd5]; exact ⟨_, _, FunS.sFrom 40 (by omega) y m d⟩
 ·rw [pd6]
  by_cases c : RightC y m d
  ·exact ⟨_, _, kFrom_yes 40 (by omega) y m d c⟩
  ·exact ⟨_, _, kFrom_no 40 (by omega) y m d c⟩
/-- The date of a day has the day. -/
theorem there (c a : Int) (hc : 0 ≤ c) (hc' : c ≤ 6) (ha : In a) : ∃ y m d, trystref01_Date.f K c a = some (y, m, d, 0) ∧ PD c y m d = some (a, 0) := by
 rcases calendars hc hc' with rfl | rfl | rfl | rfl | rfl | rfl | rfl
 ·obtain ⟨m, d, e, hd⟩ := rDate_yes K (by decide) a ha
  obtain ⟨y', m', d', e', hd'⟩ := fDate0 K (by decide) a ha
  obtain ⟨r1, r2, r3⟩ := Is.one greg hd hd'
  rw [← r1, ← r2, ← r3] at e'
  have hy := yr_In ha
  refine ⟨_, m, d, e', ?_⟩
  rw [pd0, rDay_yes 40 (by omega) _ m d ⟨hy.1, hy.2, hd.d1, hd.d2⟩, ← hd.e]
 ·obtain ⟨y, m, d, e, hd, h3, h4⟩ := jDate_yes K (by decide) a ha
  obtain ⟨y', m', d', e', hd'⟩ := fDate1 K (by decide) a ha
  obtain ⟨r1, r2, r3⟩ := Is.one jul hd hd'
  rw [← r1, ← r2, ← r3] at e'
  refine ⟨y, m, d, e', ?_⟩
  rw [pd1, jFrom_yes 40 (by omega) y m d ⟨h3, h4, hd.d1, hd.d2⟩, ← hd.e, dayOr_yes ha]
 ·obtain ⟨z, m', d', e', z1, z2, h3, h4, h5, h6⟩ := fDate2 K (by decide) a ha
  obtain ⟨y, y1, y2, y3, y4, e⟩ := iISO_yes K (by decide) a ha
  have r := wk_one h3 h4 y3 y4
  subst r
  have e1 : wk 10000 1 = 3652062 := by decide
  obtain ⟨c1, c2⟩ := ha
  have hz : z ≤ 9999 := by
   by_cases q : 10000 ≤ z
   ·have := wk_le 1 q; omega
   ·omega
  obtain ⟨q, hq, hw⟩ := wks z 1
  have e2 : wk z 1 + 7 * (m' - 1) + d' - 1 = a := by omega
  refine ⟨z, m', d', e', ?_⟩
  rw [pd2, iFrom_yes 40 (by omega) z _ _ ⟨y1, hz, by omega, by omega, by omega, by omega⟩, e2, if_pos ⟨c1, c2⟩]
 ·obtain ⟨y, m, d, e, h1, h2, hd⟩ := FunRd.date3 K (by decide) a ha
  refine ⟨y, m, d, e, ?_⟩
  rw [pd3, FunH.pFrom 40 (by omega), if_pos ⟨h1, by omega, hd.d1, by unfold FunH.lenH; rw [if_pos ⟨hd.m1, hd.m2⟩]; exact hd.d2⟩, ← hd.e, dayOr_yes ha]
 ·obtain ⟨y, m, d, e, hd⟩ := FunRd.date4 K (by decide) a ha
  have hyy := hd.year
  have hy1 : -10000 ≤ y := by
   by_cases q : -10000 ≤ y
   ·exact q
   ·have := ib_le (show y + 1 ≤ -9999 by omega); have e0 : ib (-9999) < 0 := by decide
    have := ha.1; omega
  have hy2 : y ≤ 20000 := by
   by_cases q : y ≤ 20000
   ·exact q
   ·have := ib_le (show 20000 ≤ y by omega); have e0 : 3652059 < ib 20000 := by decide
    have := ha.2; omega
  refine ⟨y, m, d, e, ?_⟩
  rw [pd4, FunM.mFrom 40 (by omega), if_pos ⟨hy1, hy2, hd.d1, hd.d2⟩, ← hd.e, dayOr_yes ha]
 ·obtain ⟨y, m, d, e, z, hd⟩ := FunRd.date5 K (by decide) a ha
  have hyy := hd.year
  have hz1 : -9000 ≤ ps y := by
   by_cases q : -9000 ≤ ps y
   ·exact q
   ·have := pz_le (show ps y + 1 ≤ -8999 by omega); have e0 : pz (-8999) < 0 := by decide
    have := ha.1; omega
  have hz2 : ps y ≤ 19000 := by
   by_cases q : ps y ≤ 19000
   ·exact q
   ·have := pz_le (show 19000 ≤ ps y by omega); have e0 : 3652059 < pz 19000 := by decide
    have := ha.2; omega
  have hy12 : -10000 ≤ y ∧ y ≤ 20000 := by unfold ps at hz1 hz2; split at hz1 <;> omega
  refine ⟨y, m, d, e, ?_⟩
  rw [pd5, FunS.sFrom 40 (by omega), if_pos ⟨hy12.1, hy12.2, z, hd.d1, hd.d2⟩, ← hd.e, dayOr_yes ha]
 ·obtain ⟨y, m, d, e, hd, h3, h4⟩ := kDate_yes a ha
  obtain ⟨y', m', d', e', hd'⟩ := fDate6 K (by decide) a ha
  obtain ⟨r1, r2, r3⟩ := IsC.one hd hd'
  rw [← r1, ← r2, ← r3] at e'
  refine ⟨y, m, d, e', ?_⟩
  have hl : d ≤ clen y m := by
   unfold clen
   have := hd.m1; have := hd.m2
   rw [if_neg (by omega)]
   by_cases q : m = 13
   ·rw [if_pos q]; exact hd.d3 q
   ·rw [if_neg q]; exact hd.d2
  rw [pd6, kFrom_yes 40 (by omega) y m d ⟨h3, h4, hd.d1, hl⟩, ← hd.e, dayOr_yes ha]
end Go.Proofs.YtgbbgcepcnklkaaGreatDoor.FunBk
/- show.digits and show.Parse, walked; the table of powers, strconv's two errors and MaxLen are premises. -/
namespace Go.Proofs.YtgbbgcepcnklkaaGreatDoor.ShowPs
open Go.RowKit Go.Proofs.YtgbbgcepcnklkaaGreatDoorW.PrintWords Go.Proofs.YtgbbgcepcnklkaaGreatDoorW.PrintLast Go.Proofs.YtgbbgcepcnklkaaGreatDoor.Q Go.Proofs.YtgbbgcepcnklkaaGreatDoor.ShowPl
set_option linter.unusedVariables false
set_option linter.unusedSimpArgs false
/-- What is premised of the world. -/
structure Pre (w : World) : Prop where
 tab : ShowAw.Tab w
 syn : ∃ tp p, w.var? Tryz.prog "strconv.ErrSyntax" = some #[.iface tp p]
 rng : ∃ tp p, w.var? Tryz.prog "strconv.ErrRange" = some #[.iface tp p]
 len : ∃ m, w.cell? ⟨0, 0, none⟩ = some (.int .i64 m)
theorem var_below {n : String} {cs : Array Value} {w w' : World} (h : w.var? Tryz.prog n = some cs) (hb : Below w.heap.size w w') : w'.var? Tryz.prog n = some cs := by
 unfold World.var? at h ⊢
 cases hg : Program.globalNamed Tryz.prog n with
 | none => rw [hg] at h; cases h
 | some g =>
  rw [hg] at h
  simp only [Option.bind_some] at h ⊢
  have hlt : g < w.heap.size := by
   rcases Nat.lt_or_ge g w.heap.size with q | q
   ·exact q
   ·rw [Array.getElem?_eq_none q] at h; cases h
  rw [hb.block g hlt]
  exact h
theorem Pre.below {w w' : World} (h : Pre w) (hb : Below w.heap.size w w') : Pre w' := by
 obtain ⟨h1, ⟨a, b, h2⟩, ⟨c, d, h3⟩, ⟨m, h4⟩⟩ := h
 exact ⟨ShowAw.tab_below h1 hb, ⟨a, b, var_below h2 hb⟩, ⟨c, d, var_below h3 hb⟩, ⟨m, pw_cell_below hb h4⟩⟩
set_option maxHeartbeats 4000000 in
set_option maxRecDepth 100000 in
theorem digits (s : ByteArray) (w : World) (hs : s.size ≤ 2000) (hp : Pre w) :
  Calls Tryz.prog 14 #[.string s] w fun e w' => e = .returned (.tuple #[.int .i64 (dig s).1, .bool (dig s).2]) ∧ Below w.heap.size w w' := by
 have P := Lib.hid hp
 clear hp
 cases hA : Lib.atoiAll s.data.toList with
 | ok v =>
  have e1 : dig s = (v, (Lib.itoa v) == s.toList) := by unfold dig; rw [hA, ByteArray.toList_eq]
  rw [e1]
  have hb := Lib.atoiAll_bounds hA
  have HA := Lib.hid hA
  clear hA e1
  go_enter Tryz.func14, Tryz.ntmps14
  go_wp2_with fail
  refine (Shelf.strconv_Atoi_ok s (by omega) v HA.out _).mono ?_
  rintro e w1 ⟨rfl, hw⟩
  have B := Lib.hid (show Below w.heap.size w w1 by
   rcases hw with rfl | ⟨t, rfl⟩
   ·exact Below.refl _ _
   ·exact Lib.bytesWorld_below w _ t)
  clear hw
  go_wp2_with fail
  refine (ShowAw.itoa v _ _ hb.1 hb.2 rfl (P.out.below B.out).tab).mono ?_
  rintro e w2 ⟨rfl, hB2⟩
  have B2 := below_then B.out B.out.size hB2
  clear hB2
  go_wp2_with fail
  go_ret2
  exact ⟨rfl, B2⟩
 | «syntax» =>
  have e1 : dig s = (0, false) := by unfold dig; rw [hA]
  rw [e1]
  have HA := Lib.hid hA
  clear hA e1
  obtain ⟨tp, p, hv⟩ := P.out.syn
  have HV := Lib.hid hv
  clear hv
  go_enter Tryz.func14, Tryz.ntmps14
  go_wp2_with fail
  refine (Shelf.strconv_Atoi_syntax_var s (by omega) HA.out tp p _ HV.out).mono ?_
  rintro e w1 ⟨n, rfl, _, _, hB⟩
  go_wp2_with fail
  go_ret2
  exact ⟨rfl, hB⟩
 | range =>
  have e1 : dig s = (Lib.atoiSat s.data.toList, false) := by unfold dig; rw [hA]
  rw [e1]
  have HA := Lib.hid hA
  clear hA e1
  obtain ⟨tp, p, hv⟩ := P.out.rng
  have HV := Lib.hid hv
  clear hv
  go_enter Tryz.func14, Tryz.ntmps14
  go_wp2_with fail
  refine (Shelf.strconv_Atoi_range_var s (by omega) HA.out tp p _ HV.out).mono ?_
  rintro e w1 ⟨n, rfl, _, _, hB⟩
  go_wp2_with fail
  go_ret2
  exact ⟨rfl, hB⟩
theorem isCal (c : Int) : show_is.f c = some (decide (0 ≤ c ∧ c ≤ 6)) := by
 unfold show_is.f
 by_cases a : c ≥ 0
 ·rw [if_pos a]; refine congrArg some (decide_eq_decide.2 ?_); omega
 ·rw [if_neg a]; refine congrArg some (decide_eq_false ?_).symm; omega
theorem day (c y m d r1 r2 : Int) (w : World) (hc : 0 ≤ c) (hc' : c ≤ 6) (h : FunBk.PD c y m d = some (r1, r2)) :
  Calls Tryz.prog 15 #[.int .i64 c, .agg #[.int .i64 y, .int .i64 m, .int .i64 d]] w fun e w' => e = .returned (.tuple #[.int .i64 r1, .int .i64 r2]) ∧ Below w.heap.size w w' := by
 rcases FunBk.calendars hc hc' with rfl | rfl | rfl | rfl | rfl | rfl | rfl
 ·rw [FunBk.pd0] at h; exact ShowDay.walk0 y m d r1 r2 w h
 ·rw [FunBk.pd1] at h; exact ShowDay.walk1 y m d r1 r2 w h
 ·rw [FunBk.pd2] at h; exact ShowDay.walk2 y m d r1 r2 w h
 ·rw [FunBk.pd3] at h; exact ShowDay.walk3 y m d r1 r2 w h
 ·rw [FunBk.pd4] at h; exact ShowDay.walk4 y m d r1 r2 w h
 ·rw [FunBk.pd5] at h; exact ShowDay.walk5 y m d r1 r2 w h
 ·rw [FunBk.pd6] at h; exact ShowDay.walk6 y m d r1 r2 w h
theorem cutP (s p t : ByteArray) (b : Bool) (w : World) (ht : (⟨(Lib.trimPrefix s.data.toList p.data.toList).toArray⟩ : ByteArray) = t) (hb : Lib.hasPrefix s.data.toList p.data.toList = b) :
  Calls Tryz.prog 12 #[.string s, .string p] w fun e w' => e = .returned (.tuple #[.string t, .bool b]) ∧ w' = w := by
 subst ht hb
 exact Shelf.strings_CutPrefix s p w
theorem split3 (t A B D : ByteArray) (w : World) (hs : t.size ≤ 2000) (h1 : Lib.countB t ⟨#[45]⟩ = 2) (h2 : Lib.splitB ⟨#[45]⟩ 0 2 t = [A, B, D]) (hp : Pre w) :
  Calls Tryz.prog 13 #[.string t, .string ⟨#[45]⟩] w fun e w' => ∃ g, e = .returned (.slice (some ⟨g, 0, none⟩) 3 3) ∧ w.heap.size ≤ g ∧ w'.heap[g]? = some (.cells #[.string A, .string B, .string D] 9 (0, 0)) ∧ Below w.heap.size w w' := by
 obtain ⟨m, hm⟩ := hp.len
 have h := Shelf.strings_Split t ⟨#[45]⟩ m w (by omega) hm (by decide)
 rw [h1, h2] at h
 refine h.mono ?_
 rintro e w' ⟨rfl, rfl⟩
 exact ⟨_, rfl, Nat.le_refl _, blk_new w _, below_alloc (Below.refl _ _) _⟩
theorem splitN (t : ByteArray) (w : World) (hs : t.size ≤ 2000) (h1 : Lib.countB t ⟨#[45]⟩ ≠ 2) (hp : Pre w) :
  Calls Tryz.prog 13 #[.string t, .string ⟨#[45]⟩] w fun e w' => ∃ (o : Obj) (n : Nat), n ≠ 3 ∧ n ≤ 2001 ∧ e = .returned (.slice (some ⟨w.heap.size, 0, none⟩) n n) ∧ w' = w.alloc o := by
 obtain ⟨m, hm⟩ := hp.len
 have hle := Lib.countB_le ⟨#[45]⟩ (by decide) t.size t (Nat.le_refl _)
 refine (Shelf.strings_Split t ⟨#[45]⟩ m w (by omega) hm (by decide)).mono ?_
 rintro e w' ⟨rfl, rfl⟩
 exact ⟨_, _, by omega, by omega, rfl, rfl⟩
set_option maxHeartbeats 4000000 in
set_option maxRecDepth 100000 in
theorem parseArg (c : Int) (s : ByteArray) (w : World) (hc : ¬ (0 ≤ c ∧ c ≤ 6)) :
  Calls Tryz.prog 6 #[.int .i64 c, .string s] w fun e w' => e = .returned (.tuple #[.int .i64 0, .int .i64 1]) ∧ Below w.heap.size w w' := by
 have hf : show_is.f c = some false := by rw [isCal, decide_eq_false hc]
 clear hc
 go_enter Tryz.func6, Tryz.ntmps6
 go_wp2_with fail
 refine (show_is.calls c false _ hf).mono ?_
 rintro e w1 ⟨rfl, ⟨nd, rfl⟩⟩
 go_wp2_with fail
 go_ret2
 exact ⟨rfl, by repeat (with_reducible first | exact Below.refl _ _ | apply below_drew | apply pw_below_drewN | apply below_alloc)⟩
set_option maxHeartbeats 4000000 in
set_option maxRecDepth 100000 in
/-- Not three parts. -/
theorem parseNo (c : Int) (s t : ByteArray) (b : Bool) (w : World) (hc : 0 ≤ c ∧ c ≤ 6) (hp : Pre w) (hs : t.size ≤ 2000) (ht : (⟨(Lib.trimPrefix s.data.toList [45]).toArray⟩ : ByteArray) = t) (hb : Lib.hasPrefix s.data.toList [45] = b)
  (h1 : Lib.countB t ⟨#[45]⟩ ≠ 2) :
  Calls Tryz.prog 6 #[.int .i64 c, .string s] w fun e w' => e = .returned (.tuple #[.int .i64 0, .int .i64 7]) ∧ Below w.heap.size w w' := by
 have hf : show_is.f c = some true := by rw [isCal, decide_eq_true hc]
 have P := Lib.hid hp
 have HT := Lib.hid ht
 have HB := Lib.hid hb
 have HS := Lib.hid hs
 have H1 := Lib.hid h1
 clear hc hp ht hb hs h1
 go_enter Tryz.func6, Tryz.ntmps6
 go_wp2_with fail
 refine (show_is.calls c true _ hf).mono ?_
 rintro e w1 ⟨rfl, ⟨nd, rfl⟩⟩
 go_wp2_with fail
 refine (cutP s ⟨#[45]⟩ t b _ HT.out HB.out).mono ?_
 rintro e w2 ⟨rfl, rfl⟩
 clear HB
 cases b
 all_goals
  go_wp2_with fail
  refine (splitN t _ HS.out H1.out (P.out.below (by repeat (with_reducible first | exact Below.refl _ _ | apply below_drew | apply pw_below_drewN | apply below_alloc)))).mono ?_
  rintro e w3 ⟨o, n, n3, n0, rfl, rfl⟩
  have l1 : ((n : Int) != 3) = true := bne_iff_ne.2 (by omega)
  clear n3
  go_wp2_with fail
  go_ret2
  exact ⟨rfl, by repeat (with_reducible first | exact Below.refl _ _ | apply below_drew | apply pw_below_drewN | apply below_alloc)⟩
end Go.Proofs.YtgbbgcepcnklkaaGreatDoor.ShowPs
/- show.Parse of a text of three parts, walked. (Written by gen_parse.py.) -/
namespace Go.Proofs.YtgbbgcepcnklkaaGreatDoor.ShowP3
open Go.RowKit Go.Proofs.YtgbbgcepcnklkaaGreatDoorW.PrintWords Go.Proofs.YtgbbgcepcnklkaaGreatDoorW.PrintLast Go.Proofs.YtgbbgcepcnklkaaGreatDoor.Q Go.Proofs.YtgbbgcepcnklkaaGreatDoor.ShowPl Go.Proofs.YtgbbgcepcnklkaaGreatDoor.ShowPs
set_option linter.unusedVariables false
set_option linter.unusedSimpArgs false
theorem digitsAt (s : ByteArray) (y : Int) (q : Bool) (w : World) (hs : s.size ≤ 2000) (h : dig s = (y, q)) (hp : Pre w) :
  Calls Tryz.prog 14 #[.string s] w fun e w' => e = .returned (.tuple #[.int .i64 y, .bool q]) ∧ Below w.heap.size w w' := by
 have := digits s w hs hp
 rw [h] at this
 exact this
/-- A sign. -/
def sg (b : Bool) : ByteArray := if b then ⟨#[45]⟩ else ⟨#[]⟩
/-- What Parse tells. -/
def res (q1 q2 q3 : Bool) (r1 r2 : Int) : Value := if (q1 && q2 && q3 && (r2 == 0)) = true then .tuple #[.int .i64 r1, .int .i64 0] else .tuple #[.int .i64 0, .int .i64 7]

set_option maxHeartbeats 1000000 in
set_option maxRecDepth 100000 in
theorem parse3 (c : Int) (s t A B' D : ByteArray) (b : Bool) (w : World) (hc : 0 ≤ c ∧ c ≤ 6) (hn : c ≠ 2) (hp : Pre w) (hs : t.size ≤ 2000) (ht : (⟨(Lib.trimPrefix s.data.toList [45]).toArray⟩ : ByteArray) = t) (hb : Lib.hasPrefix s.data.toList [45] = b)
  (h1 : Lib.countB t ⟨#[45]⟩ = 2) (h2 : Lib.splitB ⟨#[45]⟩ 0 2 t = [A, B', D]) (zA : A.size ≤ 1900) (zB : B'.size ≤ 1900) (zD : D.size ≤ 1900) (y m d : Int) (q1 q2 q3 : Bool)
  (hy : dig (sg b ++ A) = (y, q1)) (hm : dig B' = (m, q2)) (hd : dig D = (d, q3)) (r1 r2 : Int) (hD : FunBk.PD c y m d = some (r1, r2)) :
  Calls Tryz.prog 6 #[.int .i64 c, .string s] w fun e w' => e = .returned (res q1 q2 q3 r1 r2) ∧ Below w.heap.size w w' := by
 have hf : show_is.f c = some true := by rw [isCal, decide_eq_true hc]
 have l2 : (c == 2) = false := beq_eq_false_iff_ne.2 hn
 have HC := Lib.hid hc
 have Hhp := Lib.hid hp
 have Hht := Lib.hid ht
 have Hhb := Lib.hid hb
 have Hhs := Lib.hid hs
 have Hh1 := Lib.hid h1
 have Hh2 := Lib.hid h2
 have Hhy := Lib.hid hy
 have Hhm := Lib.hid hm
 have Hhd := Lib.hid hd
 have HhD := Lib.hid hD
 have HzA := Lib.hid zA
 have HzB := Lib.hid zB
 have HzD := Lib.hid zD
 clear hp ht hb hs h1 h2 hy hm hd hD zA zB zD hc hn
 go_enter Tryz.func6, Tryz.ntmps6
 go_wp2_with fail
 refine (show_is.calls c true _ hf).mono ?_
 rintro e w1 ⟨rfl, ⟨nd, rfl⟩⟩
 go_wp2_with fail
 refine (cutP s ⟨#[45]⟩ t b _ Hht.out Hhb.out).mono ?_
 rintro e w2 ⟨rfl, rfl⟩
 clear Hhb
 have hz : w.heap.size ≤ (w.drewN nd).heap.size := Nat.le_refl _
 cases b
 ·go_wp2_with fail
  refine (split3 t A B' D _ Hhs.out Hh1.out Hh2.out (Hhp.out.below (by repeat (with_reducible first | exact Below.refl _ _ | apply below_drew | apply pw_below_drewN | apply below_alloc)))).mono ?_
  rintro e w3 ⟨g, rfl, hg, hk, hB3⟩
  have BB := Lib.hid (below_then (pw_below_drewN (Below.refl w.heap.size w) nd) (Nat.le_refl _) hB3)
  have hgw : w.heap.size ≤ g := hg
  have e0 : w3.cell? ⟨g, 0, none⟩ = some (.string A) := (blk_cell hk 0).trans rfl
  have e1 : w3.cell? ⟨g, 1, none⟩ = some (.string B') := (blk_cell hk 1).trans rfl
  have e2 : w3.cell? ⟨g, 2, none⟩ = some (.string D) := (blk_cell hk 2).trans rfl
  have f1 := blk_frozen hk 1
  have f0 := blk_frozen hk 0
  have f2 := blk_frozen hk 2
  clear hg hk hB3 hz
  have sA : (⟨#[]⟩ ++ A).size ≤ 2000 := by have := HzA.out; rw [ByteArray.size_append]; have e1 : (⟨#[]⟩ : ByteArray).size ≤ 1 := (by decide); omega
  have hy2 : dig (⟨#[]⟩ ++ A) = (y, q1) := by have q := Hhy.out; rw [show sg false = (⟨#[]⟩ : ByteArray) from rfl] at q; exact q
  have Hhy2 := Lib.hid hy2
  clear hy2 Hhy
  have cat : ∀ W : World, (Op.stringOp .add ⟨#[]⟩ A).run Tryz.prog W = .ok (.string (⟨#[]⟩ ++ A)) W := fun W => run_string_add_sum W _ _ (by have := HzA.out; have e1 : (⟨#[]⟩ : ByteArray).size ≤ 1 := (by decide); omega)
  go_wp2_with fail
  have h0 := digitsAt _ y q1 w3 sA Hhy2.out (Hhp.out.below BB.out)
  refine h0.mono ?_
  clear h0
  rintro e w5 ⟨rfl, hB⟩
  have B5 := Lib.hid (below_then BB.out BB.out.size hB)
  replace e1 := pw_cell_below hB e1
  replace e2 := pw_cell_below hB e2
  clear hB BB e0 f0 f1 cat sA Hhy2
  go_wp2_with fail
  refine (digitsAt B' m q2 _ (by have := HzB.out; omega) Hhm.out (Hhp.out.below B5.out)).mono ?_
  rintro e w6 ⟨rfl, hB⟩
  have B6 := Lib.hid (below_then B5.out B5.out.size hB)
  replace e2 := pw_cell_below hB e2
  clear hB B5 e1
  go_wp2_with fail
  refine (digitsAt D d q3 _ (by have := HzD.out; omega) Hhd.out (Hhp.out.below B6.out)).mono ?_
  rintro e w7 ⟨rfl, hB⟩
  have B7 := Lib.hid (below_then B6.out B6.out.size hB)
  clear hB B6 e2 f2 HzA HzB HzD Hhm Hhd
  go_wp2_with fail
  refine (day c y m d r1 r2 _ HC.out.1 HC.out.2 HhD.out).mono ?_
  rintro e w8 ⟨rfl, hB⟩
  have B8 := Lib.hid (below_then B7.out B7.out.size hB)
  clear hB B7
  by_cases hr : r2 = 0
  ·subst hr
   cases q1 <;> cases q2 <;> cases q3
   all_goals
    go_wp2_with fail
    go_ret2
    exact ⟨by simp [res], B8.out⟩
  ·have l3 : (r2 != 0) = true := bne_iff_ne.2 hr
   have l4 : (r2 == 0) = false := beq_eq_false_iff_ne.2 hr
   cases q1 <;> cases q2 <;> cases q3
   all_goals
    go_wp2_with fail
    go_ret2
    exact ⟨by simp [res, l4], B8.out⟩
 ·go_wp2_with fail
  refine (split3 t A B' D _ Hhs.out Hh1.out Hh2.out (Hhp.out.below (by repeat (with_reducible first | exact Below.refl _ _ | apply below_drew | apply pw_below_drewN | apply below_alloc)))).mono ?_
  rintro e w3 ⟨g, rfl, hg, hk, hB3⟩
  have BB := Lib.hid (below_then (pw_below_drewN (Below.refl w.heap.size w) nd) (Nat.le_refl _) hB3)
  have hgw : w.heap.size ≤ g := hg
  have e0 : w3.cell? ⟨g, 0, none⟩ = some (.string A) := (blk_cell hk 0).trans rfl
  have e1 : w3.cell? ⟨g, 1, none⟩ = some (.string B') := (blk_cell hk 1).trans rfl
  have e2 : w3.cell? ⟨g, 2, none⟩ = some (.string D) := (blk_cell hk 2).trans rfl
  have f1 := blk_frozen hk 1
  have f0 := blk_frozen hk 0
  have f2 := blk_frozen hk 2
  clear hg hk hB3 hz
  have sA : (⟨#[45]⟩ ++ A).size ≤ 2000 := by have := HzA.out; rw [ByteArray.size_append]; have e1 : (⟨#[45]⟩ : ByteArray).size ≤ 1 := (by decide); omega
  have hy2 : dig (⟨#[45]⟩ ++ A) = (y, q1) := by have q := Hhy.out; rw [show sg true = (⟨#[45]⟩ : ByteArray) from rfl] at q; exact q
  have Hhy2 := Lib.hid hy2
  clear hy2 Hhy
  have cat : ∀ W : World, (Op.stringOp .add ⟨#[45]⟩ A).run Tryz.prog W = .ok (.string (⟨#[45]⟩ ++ A)) W := fun W => run_string_add_sum W _ _ (by have := HzA.out; have e1 : (⟨#[45]⟩ : ByteArray).size ≤ 1 := (by decide); omega)
  go_wp2_with fail
  have h0 := digitsAt _ y q1 w3 sA Hhy2.out (Hhp.out.below BB.out)
  refine h0.mono ?_
  clear h0
  rintro e w5 ⟨rfl, hB⟩
  have B5 := Lib.hid (below_then BB.out BB.out.size hB)
  replace e1 := pw_cell_below hB e1
  replace e2 := pw_cell_below hB e2
  clear hB BB e0 f0 f1 cat sA Hhy2
  go_wp2_with fail
  refine (digitsAt B' m q2 _ (by have := HzB.out; omega) Hhm.out (Hhp.out.below B5.out)).mono ?_
  rintro e w6 ⟨rfl, hB⟩
  have B6 := Lib.hid (below_then B5.out B5.out.size hB)
  replace e2 := pw_cell_below hB e2
  clear hB B5 e1
  go_wp2_with fail
  refine (digitsAt D d q3 _ (by have := HzD.out; omega) Hhd.out (Hhp.out.below B6.out)).mono ?_
  rintro e w7 ⟨rfl, hB⟩
  have B7 := Lib.hid (below_then B6.out B6.out.size hB)
  clear hB B6 e2 f2 HzA HzB HzD Hhm Hhd
  go_wp2_with fail
  refine (day c y m d r1 r2 _ HC.out.1 HC.out.2 HhD.out).mono ?_
  rintro e w8 ⟨rfl, hB⟩
  have B8 := Lib.hid (below_then B7.out B7.out.size hB)
  clear hB B7
  by_cases hr : r2 = 0
  ·subst hr
   cases q1 <;> cases q2 <;> cases q3
   all_goals
    go_wp2_with fail
    go_ret2
    exact ⟨by simp [res], B8.out⟩
  ·have l3 : (r2 != 0) = true := bne_iff_ne.2 hr
   have l4 : (r2 == 0) = false := beq_eq_false_iff_ne.2 hr
   cases q1 <;> cases q2 <;> cases q3
   all_goals
    go_wp2_with fail
    go_ret2
    exact ⟨by simp [res, l4], B8.out⟩
set_option maxHeartbeats 1000000 in
set_option maxRecDepth 100000 in
theorem parseW (s t A B' D : ByteArray) (b : Bool) (w : World) (hp : Pre w) (hs : t.size ≤ 2000) (ht : (⟨(Lib.trimPrefix s.data.toList [45]).toArray⟩ : ByteArray) = t) (hb : Lib.hasPrefix s.data.toList [45] = b)
  (B : ByteArray) (hbt : (⟨(Lib.trimPrefix B.data.toList [87]).toArray⟩ : ByteArray) = B') (hbb : Lib.hasPrefix B.data.toList [87] = true)
  (h1 : Lib.countB t ⟨#[45]⟩ = 2) (h2 : Lib.splitB ⟨#[45]⟩ 0 2 t = [A, B, D]) (zA : A.size ≤ 1900) (zB : B'.size ≤ 1900) (zD : D.size ≤ 1900) (y m d : Int) (q1 q2 q3 : Bool)
  (hy : dig (sg b ++ A) = (y, q1)) (hm : dig B' = (m, q2)) (hd : dig D = (d, q3)) (r1 r2 : Int) (hD : FunBk.PD 2 y m d = some (r1, r2)) :
  Calls Tryz.prog 6 #[.int .i64 2, .string s] w fun e w' => e = .returned (res q1 q2 q3 r1 r2) ∧ Below w.heap.size w w' := by
 have hf : show_is.f 2 = some true := by rw [isCal]; rfl
 have Hhp := Lib.hid hp
 have Hht := Lib.hid ht
 have Hhb := Lib.hid hb
 have Hhs := Lib.hid hs
 have Hh1 := Lib.hid h1
 have Hh2 := Lib.hid h2
 have Hhy := Lib.hid hy
 have Hhm := Lib.hid hm
 have Hhd := Lib.hid hd
 have HhD := Lib.hid hD
 have HzA := Lib.hid zA
 have HzB := Lib.hid zB
 have HzD := Lib.hid zD
 have Hhbt := Lib.hid hbt
 have Hhbb := Lib.hid hbb
 clear hp ht hb hs h1 h2 hy hm hd hD zA zB zD hbt hbb
 go_enter Tryz.func6, Tryz.ntmps6
 go_wp2_with fail
 refine (show_is.calls 2 true _ hf).mono ?_
 rintro e w1 ⟨rfl, ⟨nd, rfl⟩⟩
 go_wp2_with fail
 refine (cutP s ⟨#[45]⟩ t b _ Hht.out Hhb.out).mono ?_
 rintro e w2 ⟨rfl, rfl⟩
 clear Hhb
 have hz : w.heap.size ≤ (w.drewN nd).heap.size := Nat.le_refl _
 cases b
 ·go_wp2_with fail
  refine (split3 t A B D _ Hhs.out Hh1.out Hh2.out (Hhp.out.below (by repeat (with_reducible first | exact Below.refl _ _ | apply below_drew | apply pw_below_drewN | apply below_alloc)))).mono ?_
  rintro e w3 ⟨g, rfl, hg, hk, hB3⟩
  have BB := Lib.hid (below_then (pw_below_drewN (Below.refl w.heap.size w) nd) (Nat.le_refl _) hB3)
  have hgw : w.heap.size ≤ g := hg
  have e0 : w3.cell? ⟨g, 0, none⟩ = some (.string A) := (blk_cell hk 0).trans rfl
  have e1 : w3.cell? ⟨g, 1, none⟩ = some (.string B) := (blk_cell hk 1).trans rfl
  have e2 : w3.cell? ⟨g, 2, none⟩ = some (.string D) := (blk_cell hk 2).trans rfl
  have f1 := blk_frozen hk 1
  have f0 := blk_frozen hk 0
  have f2 := blk_frozen hk 2
  clear hg hk hB3 hz
  go_wp2_with fail
  refine (cutP B ⟨#[87]⟩ B' true _ Hhbt.out Hhbb.out).mono ?_
  rintro e w4 ⟨rfl, rfl⟩
  have sA : (⟨#[]⟩ ++ A).size ≤ 2000 := by have := HzA.out; rw [ByteArray.size_append]; have e1 : (⟨#[]⟩ : ByteArray).size ≤ 1 := (by decide); omega
  have hy2 : dig (⟨#[]⟩ ++ A) = (y, q1) := by have q := Hhy.out; rw [show sg false = (⟨#[]⟩ : ByteArray) from rfl] at q; exact q
  have Hhy2 := Lib.hid hy2
  clear hy2 Hhy
  have cat : ∀ W : World, (Op.stringOp .add ⟨#[]⟩ A).run Tryz.prog W = .ok (.string (⟨#[]⟩ ++ A)) W := fun W => run_string_add_sum W _ _ (by have := HzA.out; have e1 : (⟨#[]⟩ : ByteArray).size ≤ 1 := (by decide); omega)
  go_wp2_with fail
  refine (digitsAt _ y q1 _ sA Hhy2.out ?pre).mono ?_
  case pre => exact Hhp.out.below (by repeat (with_reducible first | exact BB.out | exact Below.refl _ _ | apply below_drew | apply pw_below_drewN | apply below_alloc | refine below_set ?_ (by have := BB.out.size; simp; omega)))
  rintro e w5 ⟨rfl, hB⟩
  have B5 := Lib.hid (below_then (w1 := w4.setCell ⟨g, 1, none⟩ (.string B')) (below_set BB.out hgw) (by have := BB.out.size; simp; omega) hB)
  replace e1 : w5.cell? ⟨g, 1, none⟩ = some (.string B') := pw_cell_below hB (World.cell?_setCell_same _ _ _ e1)
  replace e2 : w5.cell? ⟨g, 2, none⟩ = some (.string D) := pw_cell_below hB ((World.cell?_setCell_other _ _ _ _ (by simp)).trans e2)
  clear hB BB e0 f0 f1 cat sA Hhy2
  go_wp2_with fail
  refine (digitsAt B' m q2 _ (by have := HzB.out; omega) Hhm.out (Hhp.out.below B5.out)).mono ?_
  rintro e w6 ⟨rfl, hB⟩
  have B6 := Lib.hid (below_then B5.out B5.out.size hB)
  replace e2 := pw_cell_below hB e2
  clear hB B5 e1
  go_wp2_with fail
  refine (digitsAt D d q3 _ (by have := HzD.out; omega) Hhd.out (Hhp.out.below B6.out)).mono ?_
  rintro e w7 ⟨rfl, hB⟩
  have B7 := Lib.hid (below_then B6.out B6.out.size hB)
  clear hB B6 e2 f2 HzA HzB HzD Hhm Hhd
  go_wp2_with fail
  refine (day 2 y m d r1 r2 _ (by decide) (by decide) HhD.out).mono ?_
  rintro e w8 ⟨rfl, hB⟩
  have B8 := Lib.hid (below_then B7.out B7.out.size hB)
  clear hB B7
  by_cases hr : r2 = 0
  ·subst hr
   cases q1 <;> cases q2 <;> cases q3
   all_goals
    go_wp2_with fail
    go_ret2
    exact ⟨by simp [res], B8.out⟩
  ·have l3 : (r2 != 0) = true := bne_iff_ne.2 hr
   have l4 : (r2 == 0) = false := beq_eq_false_iff_ne.2 hr
   cases q1 <;> cases q2 <;> cases q3
   all_goals
    go_wp2_with fail
    go_ret2
    exact ⟨by simp [res, l4], B8.out⟩
 ·go_wp2_with fail
  refine (split3 t A B D _ Hhs.out Hh1.out Hh2.out (Hhp.out.below (by repeat (with_reducible first | exact Below.refl _ _ | apply below_drew | apply pw_below_drewN | apply below_alloc)))).mono ?_
  rintro e w3 ⟨g, rfl, hg, hk, hB3⟩
  have BB := Lib.hid (below_then (pw_below_drewN (Below.refl w.heap.size w) nd) (Nat.le_refl _) hB3)
  have hgw : w.heap.size ≤ g := hg
  have e0 : w3.cell? ⟨g, 0, none⟩ = some (.string A) := (blk_cell hk 0).trans rfl
  have e1 : w3.cell? ⟨g, 1, none⟩ = some (.string B) := (blk_cell hk 1).trans rfl
  have e2 : w3.cell? ⟨g, 2, none⟩ = some (.string D) := (blk_cell hk 2).trans rfl
  have f1 := blk_frozen hk 1
  have f0 := blk_frozen hk 0
  have f2 := blk_frozen hk 2
  clear hg hk hB3 hz
  go_wp2_with fail
  refine (cutP B ⟨#[87]⟩ B' true _ Hhbt.out Hhbb.out).mono ?_
  rintro e w4 ⟨rfl, rfl⟩
  have sA : (⟨#[45]⟩ ++ A).size ≤ 2000 := by have := HzA.out; rw [ByteArray.size_append]; have e1 : (⟨#[45]⟩ : ByteArray).size ≤ 1 := (by decide); omega
  have hy2 : dig (⟨#[45]⟩ ++ A) = (y, q1) := by have q := Hhy.out; rw [show sg true = (⟨#[45]⟩ : ByteArray) from rfl] at q; exact q
  have Hhy2 := Lib.hid hy2
  clear hy2 Hhy
  have cat : ∀ W : World, (Op.stringOp .add ⟨#[45]⟩ A).run Tryz.prog W = .ok (.string (⟨#[45]⟩ ++ A)) W := fun W => run_string_add_sum W _ _ (by have := HzA.out; have e1 : (⟨#[45]⟩ : ByteArray).size ≤ 1 := (by decide); omega)
  go_wp2_with fail
  refine (digitsAt _ y q1 _ sA Hhy2.out ?pre).mono ?_
  case pre => exact Hhp.out.below (by repeat (with_reducible first | exact BB.out | exact Below.refl _ _ | apply below_drew | apply pw_below_drewN | apply below_alloc | refine below_set ?_ (by have := BB.out.size; simp; omega)))
  rintro e w5 ⟨rfl, hB⟩
  have B5 := Lib.hid (below_then (w1 := w4.setCell ⟨g, 1, none⟩ (.string B')) (below_set BB.out hgw) (by have := BB.out.size; simp; omega) hB)
  replace e1 : w5.cell? ⟨g, 1, none⟩ = some (.string B') := pw_cell_below hB (World.cell?_setCell_same _ _ _ e1)
  replace e2 : w5.cell? ⟨g, 2, none⟩ = some (.string D) := pw_cell_below hB ((World.cell?_setCell_other _ _ _ _ (by simp)).trans e2)
  clear hB BB e0 f0 f1 cat sA Hhy2
  go_wp2_with fail
  refine (digitsAt B' m q2 _ (by have := HzB.out; omega) Hhm.out (Hhp.out.below B5.out)).mono ?_
  rintro e w6 ⟨rfl, hB⟩
  have B6 := Lib.hid (below_then B5.out B5.out.size hB)
  replace e2 := pw_cell_below hB e2
  clear hB B5 e1
  go_wp2_with fail
  refine (digitsAt D d q3 _ (by have := HzD.out; omega) Hhd.out (Hhp.out.below B6.out)).mono ?_
  rintro e w7 ⟨rfl, hB⟩
  have B7 := Lib.hid (below_then B6.out B6.out.size hB)
  clear hB B6 e2 f2 HzA HzB HzD Hhm Hhd
  go_wp2_with fail
  refine (day 2 y m d r1 r2 _ (by decide) (by decide) HhD.out).mono ?_
  rintro e w8 ⟨rfl, hB⟩
  have B8 := Lib.hid (below_then B7.out B7.out.size hB)
  clear hB B7
  by_cases hr : r2 = 0
  ·subst hr
   cases q1 <;> cases q2 <;> cases q3
   all_goals
    go_wp2_with fail
    go_ret2
    exact ⟨by simp [res], B8.out⟩
  ·have l3 : (r2 != 0) = true := bne_iff_ne.2 hr
   have l4 : (r2 == 0) = false := beq_eq_false_iff_ne.2 hr
   cases q1 <;> cases q2 <;> cases q3
   all_goals
    go_wp2_with fail
    go_ret2
    exact ⟨by simp [res, l4], B8.out⟩
set_option maxHeartbeats 4000000 in
set_option maxRecDepth 100000 in
/-- Weeks without their letter. -/
theorem parseWNo (s t A B D : ByteArray) (b : Bool) (w : World) (hp : Pre w) (hs : t.size ≤ 2000) (ht : (⟨(Lib.trimPrefix s.data.toList [45]).toArray⟩ : ByteArray) = t) (hb : Lib.hasPrefix s.data.toList [45] = b)
  (hbb : Lib.hasPrefix B.data.toList [87] = false) (h1 : Lib.countB t ⟨#[45]⟩ = 2) (h2 : Lib.splitB ⟨#[45]⟩ 0 2 t = [A, B, D]) :
  Calls Tryz.prog 6 #[.int .i64 2, .string s] w fun e w' => e = .returned (.tuple #[.int .i64 0, .int .i64 7]) ∧ Below w.heap.size w w' := by
 have hf : show_is.f 2 = some true := by rw [isCal]; rfl
 obtain ⟨B', hbt⟩ : ∃ B', (⟨(Lib.trimPrefix B.data.toList [87]).toArray⟩ : ByteArray) = B' := ⟨_, rfl⟩
 have Hhp := Lib.hid hp
 have Hht := Lib.hid ht
 have Hhb := Lib.hid hb
 have Hhs := Lib.hid hs
 have Hh1 := Lib.hid h1
 have Hh2 := Lib.hid h2
 have Hhbt := Lib.hid hbt
 have Hhbb := Lib.hid hbb
 clear hp ht hb hs h1 h2 hbt hbb
 go_enter Tryz.func6, Tryz.ntmps6
 go_wp2_with fail
 refine (show_is.calls 2 true _ hf).mono ?_
 rintro e w1 ⟨rfl, ⟨nd, rfl⟩⟩
 go_wp2_with fail
 refine (cutP s ⟨#[45]⟩ t b _ Hht.out Hhb.out).mono ?_
 rintro e w2 ⟨rfl, rfl⟩
 clear Hhb
 cases b
 all_goals
  go_wp2_with fail
  refine (split3 t A B D _ Hhs.out Hh1.out Hh2.out (Hhp.out.below (by repeat (with_reducible first | exact Below.refl _ _ | apply below_drew | apply pw_below_drewN | apply below_alloc)))).mono ?_
  rintro e w3 ⟨g, rfl, hg, hk, hB3⟩
  have BB := Lib.hid (below_then (pw_below_drewN (Below.refl w.heap.size w) nd) (Nat.le_refl _) hB3)
  have e1 : w3.cell? ⟨g, 1, none⟩ = some (.string B) := (blk_cell hk 1).trans rfl
  clear hg hk hB3
  go_wp2_with fail
  refine (cutP B ⟨#[87]⟩ B' false _ Hhbt.out Hhbb.out).mono ?_
  rintro e w4 ⟨rfl, rfl⟩
  go_wp2_with fail
  go_ret2
  exact ⟨rfl, BB.out⟩
end Go.Proofs.YtgbbgcepcnklkaaGreatDoor.ShowP3
/- show.Text as a function: the reference's text, and whether there is one. -/
namespace Go.Proofs.YtgbbgcepcnklkaaGreatDoor.ShowTx2
open Go.RowKit Go.Proofs.YtgbbgcepcnklkaaGreatDoorW.PrintWords Go.Proofs.YtgbbgcepcnklkaaGreatDoorW.PrintLast Go.Proofs.YtgbbgcepcnklkaaGreatDoor.Q
set_option linter.unusedVariables false
set_option linter.unusedSimpArgs false
def text (c a : Int) : Option (ByteArray × Int) := if 0 ≤ c ∧ c ≤ 6 then (trystref01_Text.f FunZ.K c a).bind fun s => (trystref01_Date.f FunZ.K c a).bind fun t => some (s, t.2.2.2) else some (⟨#[]⟩, 1)
theorem tx_size (c y m d : Int) (y1 : -20000 ≤ y) (y2 : y ≤ 20000) (hm : 1 ≤ m ∧ m ≤ 60 ∧ 1 ≤ d ∧ d ≤ 60) : (ShowTx.tx c y m d).size ≤ 400 := by
 have zy := ShowTx.it_size y y1 y2
 have zm := ShowTx.it_size m (by omega) (by omega)
 have zd := ShowTx.it_size d (by omega) (by omega)
 unfold ShowTx.tx
 split
 ·simp only [ByteArray.size_append, ShowTx.s1_, ShowTx.s2_]; omega
 ·simp only [ByteArray.size_append, ShowTx.s1_]; omega
theorem both (c a : Int) (h : 0 ≤ c ∧ c ≤ 6) : ∃ s e0, text c a = some (s, e0) ∧ trystref01_Text.f FunZ.K c a = some s ∧ s.size ≤ 400 ∧
  ∀ w : World, ShowAw.Tab w → Calls Tryz.prog 10 #[.int .i64 c, .int .i64 a] w fun e w' => e = .returned (.tuple #[.string s, .int .i64 e0]) ∧ Below w.heap.size w w' := by
 obtain ⟨y, m, d, e0, hR, y1, y2, he, hm, hD⟩ := ShowDt.date c a h.1 h.2
 rcases he with rfl | rfl
 ·have hX := ShowTx.refYes c a y m d hR y1 y2 (hm rfl)
  refine ⟨_, 0, ?_, hX, tx_size c y m d y1 y2 (hm rfl), fun w hw => ShowTx.textYes c a y m d _ w hw hD (fun w hw => ShowTx.written c y m d w hw y1 y2 (hm rfl))⟩
  unfold text; rw [if_pos h, hX, hR]; rfl
 ·have hX := ShowTx.refNo c a y m d hR
  refine ⟨_, 2, ?_, hX, by decide, fun w hw => ShowTx.textNo c a y m d 2 w (by decide) hD⟩
  unfold text; rw [if_pos h, hX, hR]; rfl
theorem walk (c a : Int) (s : ByteArray) (e0 : Int) (w : World) (h : text c a = some (s, e0)) (ht : ShowAw.Tab w) :
  Calls Tryz.prog 10 #[.int .i64 c, .int .i64 a] w fun e w' => e = .returned (.tuple #[.string s, .int .i64 e0]) ∧ Below w.heap.size w w' := by
 by_cases hc : 0 ≤ c ∧ c ≤ 6
 ·obtain ⟨s', e', h1, h2, h3, h4⟩ := both c a hc
  rw [h1] at h
  simp only [Option.some.injEq, Prod.mk.injEq] at h
  obtain ⟨rfl, rfl⟩ := h
  exact h4 w ht
 ·unfold text at h
  rw [if_neg hc] at h
  simp only [Option.some.injEq, Prod.mk.injEq] at h
  obtain ⟨rfl, rfl⟩ := h
  exact ShowTx.textNo c a 0 0 0 1 w (by decide) (fun w => ShowTx.dateOut c a w hc)
end Go.Proofs.YtgbbgcepcnklkaaGreatDoor.ShowTx2
