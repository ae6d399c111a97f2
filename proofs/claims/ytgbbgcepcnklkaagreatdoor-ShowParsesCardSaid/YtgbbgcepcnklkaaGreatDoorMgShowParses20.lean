/- Texts of this claim, merged: FunK, FunZ, ShowDt. -/
import Derived.Test.YtgbbgcepcnklkaaGreatDoorMgShowParses13
import Derived.Test.YtgbbgcepcnklkaaGreatDoorMgShowParses9
import Derived.Test.YtgbbgcepcnklkaaGreatDoorMgShowParses19
import Derived.Test.YtgbbgcepcnklkaaGreatDoorMgShowParses12
import Derived.Test.YtgbbgcepcnklkaaGreatDoorMgShowParses3
/- What the program's Coptic dates (package julian) are, in plain numbers. -/
namespace Go.Proofs.YtgbbgcepcnklkaaGreatDoor.FunK
open Go.RowKit Go.Proofs.YtgbbgcepcnklkaaGreatDoorW.PrintWords Go.Proofs.YtgbbgcepcnklkaaGreatDoorW.PrintLast Go.Proofs.YtgbbgcepcnklkaaGreatDoor.Q Go.Proofs.YtgbbgcepcnklkaaGreatDoor.Cal Go.Proofs.YtgbbgcepcnklkaaGreatDoor.FunA Go.Proofs.YtgbbgcepcnklkaaGreatDoor.FunC Go.Proofs.YtgbbgcepcnklkaaGreatDoor.FunJ
theorem kbd (y : Int) (h : -40000 ≤ y) (h' : y ≤ 40000) : -15000000 ≤ cb y ∧ cb y ≤ 15000000 := by unfold cb; omega
theorem kAhead (y : Int) (h : -40000 ≤ y) (h' : y ≤ 40000) : julian_copticAhead.f y = some (cb y + 1) := by
 unfold julian_copticAhead.f
 rw [rFloor _ 4 (by omega) ⟨by omega, by omega⟩, Option.bind_some, w64 (x := y - 1) (by omega) (by omega)]
 congr 1
 unfold cb wrap64; omega
theorem kDate_yes (day : Int) (h : In day) : ∃ y m d, julian_Coptic.f day = some (y, m, d, 0) ∧ IsC y m d day ∧ -20000 ≤ y ∧ y ≤ 20000 := by
 obtain ⟨h1, h2⟩ := h
 have hy : cb ((4 * (day - 103605) + 1463) / 1461) < day ∧ day ≤ cb ((4 * (day - 103605) + 1463) / 1461 + 1) ∧ -20000 ≤ (4 * (day - 103605) + 1463) / 1461 ∧ (4 * (day - 103605) + 1463) / 1461 ≤ 20000 := by
  unfold cb; omega
 have e : julian_Coptic.f day = (julian_copticAhead.f ((4 * (day - 103605) + 1463) / 1461)).bind fun t => some ((4 * (day - 103605) + 1463) / 1461, wrap64 ((wrap64 (Int.tdiv (wrap64 (day - t)) 30)) + 1), wrap64 ((Int.tmod (wrap64 (day - t)) 30) + 1), 0) := by
  unfold julian_Coptic.f
  rw [rOf_yes ⟨h1, h2⟩, Option.bind_some, if_pos rfl, w64 (x := day - 103605) (by omega) (by omega), w64 (x := 4 * (day - 103605)) (by omega) (by omega), w64 (x := 4 * (day - 103605) + 1463) (by omega) (by omega), rFloor _ 1461 (by omega) ⟨by omega, by omega⟩, Option.bind_some]
 rw [e]
 generalize (4 * (day - 103605) + 1463) / 1461 = y at *
 obtain ⟨a1, a2, a3, a4⟩ := hy
 have hb := kbd y (by omega) (by omega)
 have hs := cb_succ y
 have hl := lc_56 y
 rw [kAhead y (by omega) (by omega), Option.bind_some, w64 (x := day - (cb y + 1)) (by omega) (by omega), Int.tdiv_eq_ediv_of_nonneg (by omega), Int.tmod_eq_emod_of_nonneg (by omega)]
 have e0 : 0 ≤ day - (cb y + 1) ∧ day - (cb y + 1) < 366 := by omega
 rw [w64 (x := (day - (cb y + 1)) / 30) (by omega) (by omega), w64 (x := (day - (cb y + 1)) / 30 + 1) (by omega) (by omega), w64 (x := (day - (cb y + 1)) % 30 + 1) (by omega) (by omega)]
 exact ⟨y, _, _, rfl, ⟨by omega, by omega, by omega, by omega, by omega, by omega⟩, a3, a4⟩
theorem kDate_no (day : Int) (h : ¬ In day) : julian_Coptic.f day = some (0, 0, 0, 2) := by
 unfold julian_Coptic.f
 rw [rOf_no h, Option.bind_some, if_neg (by simp)]
/-- Days of a Coptic month. -/
def clen (y m : Int) : Int := if m < 1 ∨ 13 < m then 0 else if m = 13 then lc y else 30
theorem clen_pos (y m : Int) (h : 0 < clen y m) : 1 ≤ m ∧ m ≤ 13 ∧ clen y m ≤ 30 := by
 have := lc_56 y
 unfold clen at h ⊢
 by_cases c : m < 1 ∨ 13 < m
 ·rw [if_pos c] at h; omega
 ·rw [if_neg c]; split <;> omega
theorem kLength (k : Nat) (hk : 1 ≤ k) (y m : Int) (hy : I64 y) : julian_copticLength.f k y m = some (clen y m) := by
 obtain ⟨k, rfl⟩ : ∃ j, k = j + 1 := ⟨k - 1, by omega⟩
 unfold julian_copticLength.f clen
 by_cases a : m < 1
 ·rw [if_pos a, if_pos (Or.inl a)]; simp only [julian_copticLength.j0, if_true]
 ·rw [if_neg a]
  by_cases b : m > 13
  ·rw [decide_eq_true b, if_pos (Or.inr b)]; simp only [julian_copticLength.j0, if_true]
  ·rw [decide_eq_false b, if_neg (by omega)]
   simp only [julian_copticLength.j0]
   rw [if_neg (by simp)]
   by_cases c : m < 13
   ·rw [if_pos c, if_neg (by omega)]
   ·rw [if_neg c, if_pos (by omega), rMod y 4 (by omega) (by omega) hy, Option.bind_some]
    unfold lc
    by_cases d : y % 4 = 3
    ·rw [if_pos d, if_pos d]
    ·rw [if_neg d, if_neg d]
/-- A Coptic date of the years that are asked. -/
def RightC (y m d : Int) : Prop := -20000 ≤ y ∧ y ≤ 20000 ∧ 1 ≤ d ∧ d ≤ clen y m
theorem kFrom_no (k : Nat) (hk : 2 ≤ k) (y m d : Int) (h : ¬ RightC y m d) : julian_FromCoptic.f k y m d = some (0, 2) := by
 have key : julian_FromCoptic.j0 k true y m d = some (0, 2) := by
  obtain ⟨k, rfl⟩ : ∃ j, k = j + 1 := ⟨k - 1, by omega⟩
  simp only [julian_FromCoptic.j0, if_true]
 unfold julian_FromCoptic.f
 by_cases a : y < -20000
 ·rw [if_pos a, key]
 ·by_cases b : y > 20000
  ·rw [if_neg a, if_pos b, key]
  ·by_cases c : d < 1
   ·rw [if_neg a, if_neg b, if_pos c, key]
   ·rw [if_neg a, if_neg b, if_neg c, kLength k (by omega) y m ⟨by omega, by omega⟩, Option.bind_some, decide_eq_true (show d > clen y m from by
     by_cases e : d ≤ clen y m
     ·exact absurd ⟨by omega, by omega, by omega, e⟩ h
     ·omega), key]
theorem kFrom_yes (k : Nat) (hk : 2 ≤ k) (y m d : Int) (h : RightC y m d) : julian_FromCoptic.f k y m d = some (dayOr (cb y + 30 * (m - 1) + d)) := by
 obtain ⟨h1, h2, h3, h4⟩ := h
 have hm := clen_pos y m (by omega)
 have hb := kbd y (by omega) (by omega)
 unfold julian_FromCoptic.f
 rw [if_neg (by omega), if_neg (by omega), if_neg (by omega), kLength k (by omega) y m ⟨by omega, by omega⟩, Option.bind_some, decide_eq_false (by omega)]
 obtain ⟨k, rfl⟩ : ∃ j, k = j + 1 := ⟨k - 1, by omega⟩
 simp only [julian_FromCoptic.j0]
 rw [if_neg (by simp), kAhead y (by omega) (by omega), Option.bind_some, w64 (x := m - 1) (by omega) (by omega), w64 (x := 30 * (m - 1)) (by omega) (by omega), w64 (x := cb y + 1 + 30 * (m - 1)) (by omega) (by omega), w64 (x := cb y + 1 + 30 * (m - 1) + d) (by omega) (by omega), w64 (x := cb y + 1 + 30 * (m - 1) + d - 1) (by omega) (by omega), jDays]
 have e : cb y + 1 + 30 * (m - 1) + d - 1 = cb y + 30 * (m - 1) + d := by omega
 rw [e]; rfl
end Go.Proofs.YtgbbgcepcnklkaaGreatDoor.FunK
/- Each calendar's date of a day, as the program tells it, is the reference's. -/
namespace Go.Proofs.YtgbbgcepcnklkaaGreatDoor.FunZ
open Go.RowKit Go.Proofs.YtgbbgcepcnklkaaGreatDoorW.PrintWords Go.Proofs.YtgbbgcepcnklkaaGreatDoorW.PrintLast Go.Proofs.YtgbbgcepcnklkaaGreatDoor.Q Go.Proofs.YtgbbgcepcnklkaaGreatDoor.Cal Go.Proofs.YtgbbgcepcnklkaaGreatDoor.FunA Go.Proofs.YtgbbgcepcnklkaaGreatDoor.FunB Go.Proofs.YtgbbgcepcnklkaaGreatDoor.FunC Go.Proofs.YtgbbgcepcnklkaaGreatDoor.FunD Go.Proofs.YtgbbgcepcnklkaaGreatDoor.FunI Go.Proofs.YtgbbgcepcnklkaaGreatDoor.FunJ Go.Proofs.YtgbbgcepcnklkaaGreatDoor.FunK Go.Proofs.YtgbbgcepcnklkaaGreatDoor.Cal3
set_option linter.unusedVariables false
set_option linter.unusedSimpArgs false
/-- The rounds that are enough. -/
abbrev K : Nat := 50000
theorem date0 (a : Int) : ∃ y m d e, rata_Date.f K a = some (y, m, d, e) ∧ trystref01_Date.f K 0 a = some (y, m, d, e) ∧ -20000 ≤ y ∧ y ≤ 20000 ∧ (e = 0 ∨ e = 2) ∧ (e = 0 → 1 ≤ m ∧ m ≤ 60 ∧ 1 ≤ d ∧ d ≤ 60) := by
 by_cases h : In a
 ·obtain ⟨m, d, e, hd⟩ := rDate_yes K (by decide) a h
  obtain ⟨y', m', d', e', hd'⟩ := fDate0 K (by decide) a h
  obtain ⟨r1, r2, r3⟩ := Is.one greg hd hd'
  rw [← r1, ← r2, ← r3] at e'
  have hy := yr_In h
  have hm := hd.m1; have hm2 := hd.m2; have h1 := hd.d1; have h2 := hd.d2
  have hl := dim_lo (lp (yr a)) m (lp_01 _) hm hm2
  exact ⟨_, m, d, 0, e, e', by omega, by omega, Or.inl rfl, fun _ => by omega⟩
 ·exact ⟨0, 0, 0, 2, rDate_no _ a h, fDate_no _ _ a h, by omega, by omega, Or.inr rfl, fun q => by omega⟩
theorem date1 (a : Int) : ∃ y m d e, julian_Julian.f K a = some (y, m, d, e) ∧ trystref01_Date.f K 1 a = some (y, m, d, e) ∧ -20000 ≤ y ∧ y ≤ 20000 ∧ (e = 0 ∨ e = 2) ∧ (e = 0 → 1 ≤ m ∧ m ≤ 60 ∧ 1 ≤ d ∧ d ≤ 60) := by
 by_cases h : In a
 ·obtain ⟨y, m, d, e, hd, h3, h4⟩ := jDate_yes K (by decide) a h
  obtain ⟨y', m', d', e', hd'⟩ := fDate1 K (by decide) a h
  obtain ⟨r1, r2, r3⟩ := Is.one jul hd hd'
  rw [← r1, ← r2, ← r3] at e'
  have hm := hd.m1; have hm2 := hd.m2; have h1 := hd.d1; have h2 := hd.d2
  have hl := dim_lo (lj y) m (lj_01 _) hm hm2
  exact ⟨y, m, d, 0, e, e', by omega, by omega, Or.inl rfl, fun _ => by omega⟩
 ·exact ⟨0, 0, 0, 2, jDate_no _ a h, fDate_no _ _ a h, by omega, by omega, Or.inr rfl, fun q => by omega⟩
theorem date2 (a : Int) : ∃ y m d e, iso_ISO.f K a = some (y, m, d, e) ∧ trystref01_Date.f K 2 a = some (y, m, d, e) ∧ -20000 ≤ y ∧ y ≤ 20000 ∧ (e = 0 ∨ e = 2) ∧ (e = 0 → 1 ≤ m ∧ m ≤ 60 ∧ 1 ≤ d ∧ d ≤ 60) := by
 by_cases h : In a
 ·obtain ⟨y, y1, y2, h1, h2, e⟩ := iISO_yes K (by decide) a h
  obtain ⟨y', m', d', e', z1, z2, h3, h4, h5, h6⟩ := fDate2 K (by decide) a h
  have r := wk_one h1 h2 h3 h4
  subst r
  obtain ⟨n, hn, hw⟩ := wks y 1
  rw [h5, h6] at e'
  exact ⟨y, _, _, 0, e, e', by omega, by omega, Or.inl rfl, fun _ => by omega⟩
 ·exact ⟨0, 0, 0, 2, iISO_no _ a h, fDate_no _ _ a h, by omega, by omega, Or.inr rfl, fun q => by omega⟩
theorem date6 (a : Int) : ∃ y m d e, julian_Coptic.f a = some (y, m, d, e) ∧ trystref01_Date.f K 6 a = some (y, m, d, e) ∧ -20000 ≤ y ∧ y ≤ 20000 ∧ (e = 0 ∨ e = 2) ∧ (e = 0 → 1 ≤ m ∧ m ≤ 60 ∧ 1 ≤ d ∧ d ≤ 60) := by
 by_cases h : In a
 ·obtain ⟨y, m, d, e, hd, h3, h4⟩ := kDate_yes a h
  obtain ⟨y', m', d', e', hd'⟩ := fDate6 K (by decide) a h
  obtain ⟨r1, r2, r3⟩ := IsC.one hd hd'
  rw [← r1, ← r2, ← r3] at e'
  obtain ⟨a1, a2, a3, a4, a5, a6⟩ := hd
  exact ⟨y, m, d, 0, e, e', by omega, by omega, Or.inl rfl, fun _ => by omega⟩
 ·exact ⟨0, 0, 0, 2, kDate_no a h, fDate_no _ _ a h, by omega, by omega, Or.inr rfl, fun q => by omega⟩
theorem date4 (a : Int) : ∃ y m d e, islam_Islamic.f K a = some (y, m, d, e) ∧ trystref01_Date.f K 4 a = some (y, m, d, e) ∧ -20000 ≤ y ∧ y ≤ 20000 ∧ (e = 0 ∨ e = 2) ∧ (e = 0 → 1 ≤ m ∧ m ≤ 60 ∧ 1 ≤ d ∧ d ≤ 60) := by
 by_cases h : In a
 ·obtain ⟨y, m, d, e, hd⟩ := FunMd.mDate_yes K (by decide) a h
  obtain ⟨y', m', d', e', hd'⟩ := FunRd.date4 K (by decide) a h
  obtain ⟨r1, r2, r3⟩ := IsI.one hd hd'
  rw [← r1, ← r2, ← r3] at e'
  have hyy := hd.year
  have hm := hd.m1; have hm2 := hd.m2; have h1 := hd.d1; have h2 := hd.d2
  have hl := il_lo (li y) m (li_01 _) hm hm2
  obtain ⟨a1, a2⟩ := h
  have hy1 : -20000 ≤ y := by
   by_cases q : -20000 ≤ y
   ·exact q
   ·have := ib_le (show y + 1 ≤ -19999 by omega); have e0 : ib (-19999) < 0 := by decide
    omega
  have hy2 : y ≤ 20000 := by
   by_cases q : y ≤ 20000
   ·exact q
   ·have := ib_le (show 20000 ≤ y by omega); have e0 : 3652059 < ib 20000 := by decide
    omega
  exact ⟨y, m, d, 0, e, e', hy1, hy2, Or.inl rfl, fun _ => by omega⟩
 ·exact ⟨0, 0, 0, 2, FunMd.mDate_no _ a h, fDate_no _ _ a h, by omega, by omega, Or.inr rfl, fun q => by omega⟩
theorem date5 (a : Int) : ∃ y m d e, persian_Persian.f K a = some (y, m, d, e) ∧ trystref01_Date.f K 5 a = some (y, m, d, e) ∧ -20000 ≤ y ∧ y ≤ 20000 ∧ (e = 0 ∨ e = 2) ∧ (e = 0 → 1 ≤ m ∧ m ≤ 60 ∧ 1 ≤ d ∧ d ≤ 60) := by
 by_cases h : In a
 ·obtain ⟨y, m, d, e, z, hd⟩ := FunMd.sDate_yes K (by decide) a h
  obtain ⟨y', m', d', e', z', hd'⟩ := FunRd.date5 K (by decide) a h
  obtain ⟨r1, r2, r3⟩ := IsP.one z z' hd hd'
  rw [← r1, ← r2, ← r3] at e'
  have hyy := hd.year
  have hm := hd.m1; have hm2 := hd.m2; have h1 := hd.d1; have h2 := hd.d2
  have hl := pdim_lo (pl (ps y)) m (pl_01 _) hm hm2
  obtain ⟨a1, a2⟩ := h
  have hz1 : -19000 ≤ ps y := by
   by_cases q : -19000 ≤ ps y
   ·exact q
   ·have := pz_le (show ps y + 1 ≤ -18999 by omega); have e0 : pz (-18999) < 0 := by decide
    omega
  have hz2 : ps y ≤ 19000 := by
   by_cases q : ps y ≤ 19000
   ·exact q
   ·have := pz_le (show 19000 ≤ ps y by omega); have e0 : 3652059 < pz 19000 := by decide
    omega
  have hy12 : -20000 ≤ y ∧ y ≤ 20000 := by unfold ps at hz1 hz2; split at hz1 <;> omega
  exact ⟨y, m, d, 0, e, e', hy12.1, hy12.2, Or.inl rfl, fun _ => by omega⟩
 ·exact ⟨0, 0, 0, 2, FunMd.sDate_no _ a h, fDate_no _ _ a h, by omega, by omega, Or.inr rfl, fun q => by omega⟩
theorem date3 (a : Int) : ∃ y m d e, hebrew_Hebrew.f K a = some (y, m, d, e) ∧ trystref01_Date.f K 3 a = some (y, m, d, e) ∧ -20000 ≤ y ∧ y ≤ 20000 ∧ (e = 0 ∨ e = 2) ∧ (e = 0 → 1 ≤ m ∧ m ≤ 60 ∧ 1 ≤ d ∧ d ≤ 60) := by
 by_cases h : In a
 ·obtain ⟨y, m, d, e, z1, z2, hd⟩ := FunMd.hDate_yes K (by decide) a h
  obtain ⟨y', m', d', e', z1', z2', hd'⟩ := FunRd.date3 K (by decide) a h
  obtain ⟨r1, r2, r3⟩ := FunMd.IsH.one hd hd' z1 (by omega) z1' (by omega)
  rw [← r1, ← r2, ← r3] at e'
  have l01 := CalH.hl_01 y
  have hm := hd.m1; have hm2 := hd.m2; have h1 := hd.d1; have h2 := hd.d2
  have hl := CalH.hx_bd (CalH.hl y) (CalH.hd y) m
  exact ⟨y, m, d, 0, e, e', by omega, by omega, Or.inl rfl, fun _ => by omega⟩
 ·exact ⟨0, 0, 0, 2, FunMd.hDate_no _ a h, fDate_no _ _ a h, by omega, by omega, Or.inr rfl, fun q => by omega⟩
end Go.Proofs.YtgbbgcepcnklkaaGreatDoor.FunZ
/- show.Date for each calendar, show.written and show.Text of any date, walked; the table of powers is a premise. (Written by gen_showdt.py.) -/
namespace Go.Proofs.YtgbbgcepcnklkaaGreatDoor.ShowDt
open Go.RowKit Go.Proofs.YtgbbgcepcnklkaaGreatDoorW.PrintWords Go.Proofs.YtgbbgcepcnklkaaGreatDoorW.PrintLast Go.Proofs.YtgbbgcepcnklkaaGreatDoor.Q Go.Proofs.YtgbbgcepcnklkaaGreatDoor.ShowAw
set_option linter.unusedVariables false
set_option linter.unusedSimpArgs false
theorem s1_ (a : UInt8) : ByteArray.size ⟨#[a]⟩ = 1 := rfl
theorem s2_ (a b : UInt8) : ByteArray.size ⟨#[a, b]⟩ = 2 := rfl

theorem ix0 (w : World) : (Instr.index 60 (.agg #[.func (.func 38) #[] #[], .func (.func 39) #[] #[], .func (.func 40) #[] #[], .func (.func 41) #[] #[], .func (.func 42) #[] #[], .func (.func 43) #[] #[], .func (.func 44) #[] #[]]) (.int .i64 0)).run Tryz.prog w = .ok (.func (.func 38) #[] #[]) w := by kernel_rfl
attribute [local go_sem] ix0
set_option maxHeartbeats 4000000 in
set_option maxRecDepth 100000 in
theorem walk0 (a y m d e0 : Int) (w : World) (h : rata_Date.f FunZ.K a = some (y, m, d, e0)) : Calls Tryz.prog 18 #[.int .i64 0, .int .i64 a] w fun e w' => e = .returned (.tuple #[.agg #[.int .i64 y, .int .i64 m, .int .i64 d], .int .i64 e0]) ∧ Below w.heap.size w w' := by
 have H := Lib.hid h
 clear h
 go_enter Tryz.func18, Tryz.ntmps18
 go_wp2_with fail
 refine (show_is.calls 0 true _ (by decide)).mono ?_
 rintro e w1 ⟨rfl, ⟨nd, rfl⟩⟩
 go_wp2_with fail
 refine (rata_Date.calls FunZ.K a _ _ _ _ _ H.out).mono ?_
 rintro e w2 ⟨rfl, hB0⟩
 have hB := (by first | exact hB0 | exact hB0.below : Below _ _ w2)
 have B : Below w.heap.size w w2 := below_then (by repeat (with_reducible first | exact Below.refl _ _ | apply below_drew | apply pw_below_drewN | apply below_alloc)) (by simp) hB
 have hk : w2.heap[w.heap.size]? = some (.cells #[.int .i64 0, .int .i64 0, .int .i64 0] 41 (0, 0)) := (hB.block _ (by simp)).trans (by first | exact blk_drewN (blk_new w _) nd | exact blk_new w _)
 have c0 : w2.cell? ⟨w.heap.size, 0, none⟩ = some (.int .i64 0) := (blk_cell hk 0).trans rfl
 have c1 : w2.cell? ⟨w.heap.size, 1, none⟩ = some (.int .i64 0) := (blk_cell hk 1).trans rfl
 have c2 : w2.cell? ⟨w.heap.size, 2, none⟩ = some (.int .i64 0) := (blk_cell hk 2).trans rfl
 have f0 := blk_frozen hk 0; have f1 := blk_frozen hk 1; have f2 := blk_frozen hk 2
 clear hB hB0 hk
 go_wp2_with fail
 refine bodyPost_ret (v := .tuple #[.agg #[.int .i64 y, .int .i64 m, .int .i64 d], .int .i64 e0]) (by simp [results, Tryz.results18, go_sem, c0, c1, c2, f0, f1, f2]) rfl ⟨rfl, ?_⟩
 repeat (with_reducible first | exact B | apply pw_below_drewN | apply below_drew | refine below_set ?_ (by simp; done))
theorem ix1 (w : World) : (Instr.index 60 (.agg #[.func (.func 38) #[] #[], .func (.func 39) #[] #[], .func (.func 40) #[] #[], .func (.func 41) #[] #[], .func (.func 42) #[] #[], .func (.func 43) #[] #[], .func (.func 44) #[] #[]]) (.int .i64 1)).run Tryz.prog w = .ok (.func (.func 39) #[] #[]) w := by kernel_rfl
attribute [local go_sem] ix1
set_option maxHeartbeats 4000000 in
set_option maxRecDepth 100000 in
theorem walk1 (a y m d e0 : Int) (w : World) (h : julian_Julian.f FunZ.K a = some (y, m, d, e0)) : Calls Tryz.prog 18 #[.int .i64 1, .int .i64 a] w fun e w' => e = .returned (.tuple #[.agg #[.int .i64 y, .int .i64 m, .int .i64 d], .int .i64 e0]) ∧ Below w.heap.size w w' := by
 have H := Lib.hid h
 clear h
 go_enter Tryz.func18, Tryz.ntmps18
 go_wp2_with fail
 refine (show_is.calls 1 true _ (by decide)).mono ?_
 rintro e w1 ⟨rfl, ⟨nd, rfl⟩⟩
 go_wp2_with fail
 refine (julian_Julian.calls FunZ.K a _ _ _ _ _ H.out).mono ?_
 rintro e w2 ⟨rfl, hB0⟩
 have hB := (by first | exact hB0 | exact hB0.below : Below _ _ w2)
 have B : Below w.heap.size w w2 := below_then (by repeat (with_reducible first | exact Below.refl _ _ | apply below_drew | apply pw_below_drewN | apply below_alloc)) (by simp) hB
 have hk : w2.heap[w.heap.size]? = some (.cells #[.int .i64 0, .int .i64 0, .int .i64 0] 41 (0, 0)) := (hB.block _ (by simp)).trans (by first | exact blk_drewN (blk_new w _) nd | exact blk_new w _)
 have c0 : w2.cell? ⟨w.heap.size, 0, none⟩ = some (.int .i64 0) := (blk_cell hk 0).trans rfl
 have c1 : w2.cell? ⟨w.heap.size, 1, none⟩ = some (.int .i64 0) := (blk_cell hk 1).trans rfl
 have c2 : w2.cell? ⟨w.heap.size, 2, none⟩ = some (.int .i64 0) := (blk_cell hk 2).trans rfl
 have f0 := blk_frozen hk 0; have f1 := blk_frozen hk 1; have f2 := blk_frozen hk 2
 clear hB hB0 hk
 go_wp2_with fail
 refine bodyPost_ret (v := .tuple #[.agg #[.int .i64 y, .int .i64 m, .int .i64 d], .int .i64 e0]) (by simp [results, Tryz.results18, go_sem, c0, c1, c2, f0, f1, f2]) rfl ⟨rfl, ?_⟩
 repeat (with_reducible first | exact B | apply pw_below_drewN | apply below_drew | refine below_set ?_ (by simp; done))
theorem ix2 (w : World) : (Instr.index 60 (.agg #[.func (.func 38) #[] #[], .func (.func 39) #[] #[], .func (.func 40) #[] #[], .func (.func 41) #[] #[], .func (.func 42) #[] #[], .func (.func 43) #[] #[], .func (.func 44) #[] #[]]) (.int .i64 2)).run Tryz.prog w = .ok (.func (.func 40) #[] #[]) w := by kernel_rfl
attribute [local go_sem] ix2
set_option maxHeartbeats 4000000 in
set_option maxRecDepth 100000 in
theorem walk2 (a y m d e0 : Int) (w : World) (h : iso_ISO.f FunZ.K a = some (y, m, d, e0)) : Calls Tryz.prog 18 #[.int .i64 2, .int .i64 a] w fun e w' => e = .returned (.tuple #[.agg #[.int .i64 y, .int .i64 m, .int .i64 d], .int .i64 e0]) ∧ Below w.heap.size w w' := by
 have H := Lib.hid h
 clear h
 go_enter Tryz.func18, Tryz.ntmps18
 go_wp2_with fail
 refine (show_is.calls 2 true _ (by decide)).mono ?_
 rintro e w1 ⟨rfl, ⟨nd, rfl⟩⟩
 go_wp2_with fail
 refine (iso_ISO.calls FunZ.K a _ _ _ _ _ H.out).mono ?_
 rintro e w2 ⟨rfl, hB0⟩
 have hB := (by first | exact hB0 | exact hB0.below : Below _ _ w2)
 have B : Below w.heap.size w w2 := below_then (by repeat (with_reducible first | exact Below.refl _ _ | apply below_drew | apply pw_below_drewN | apply below_alloc)) (by simp) hB
 have hk : w2.heap[w.heap.size]? = some (.cells #[.int .i64 0, .int .i64 0, .int .i64 0] 41 (0, 0)) := (hB.block _ (by simp)).trans (by first | exact blk_drewN (blk_new w _) nd | exact blk_new w _)
 have c0 : w2.cell? ⟨w.heap.size, 0, none⟩ = some (.int .i64 0) := (blk_cell hk 0).trans rfl
 have c1 : w2.cell? ⟨w.heap.size, 1, none⟩ = some (.int .i64 0) := (blk_cell hk 1).trans rfl
 have c2 : w2.cell? ⟨w.heap.size, 2, none⟩ = some (.int .i64 0) := (blk_cell hk 2).trans rfl
 have f0 := blk_frozen hk 0; have f1 := blk_frozen hk 1; have f2 := blk_frozen hk 2
 clear hB hB0 hk
 go_wp2_with fail
 refine bodyPost_ret (v := .tuple #[.agg #[.int .i64 y, .int .i64 m, .int .i64 d], .int .i64 e0]) (by simp [results, Tryz.results18, go_sem, c0, c1, c2, f0, f1, f2]) rfl ⟨rfl, ?_⟩
 repeat (with_reducible first | exact B | apply pw_below_drewN | apply below_drew | refine below_set ?_ (by simp; done))
theorem ix3 (w : World) : (Instr.index 60 (.agg #[.func (.func 38) #[] #[], .func (.func 39) #[] #[], .func (.func 40) #[] #[], .func (.func 41) #[] #[], .func (.func 42) #[] #[], .func (.func 43) #[] #[], .func (.func 44) #[] #[]]) (.int .i64 3)).run Tryz.prog w = .ok (.func (.func 41) #[] #[]) w := by kernel_rfl
attribute [local go_sem] ix3
set_option maxHeartbeats 4000000 in
set_option maxRecDepth 100000 in
theorem walk3 (a y m d e0 : Int) (w : World) (h : hebrew_Hebrew.f FunZ.K a = some (y, m, d, e0)) : Calls Tryz.prog 18 #[.int .i64 3, .int .i64 a] w fun e w' => e = .returned (.tuple #[.agg #[.int .i64 y, .int .i64 m, .int .i64 d], .int .i64 e0]) ∧ Below w.heap.size w w' := by
 have H := Lib.hid h
 clear h
 go_enter Tryz.func18, Tryz.ntmps18
 go_wp2_with fail
 refine (show_is.calls 3 true _ (by decide)).mono ?_
 rintro e w1 ⟨rfl, ⟨nd, rfl⟩⟩
 go_wp2_with fail
 refine (hebrew_Hebrew.calls FunZ.K a _ _ _ _ _ H.out).mono ?_
 rintro e w2 ⟨rfl, hB0⟩
 have hB := (by first | exact hB0 | exact hB0.below : Below _ _ w2)
 have B : Below w.heap.size w w2 := below_then (by repeat (with_reducible first | exact Below.refl _ _ | apply below_drew | apply pw_below_drewN | apply below_alloc)) (by simp) hB
 have hk : w2.heap[w.heap.size]? = some (.cells #[.int .i64 0, .int .i64 0, .int .i64 0] 41 (0, 0)) := (hB.block _ (by simp)).trans (by first | exact blk_drewN (blk_new w _) nd | exact blk_new w _)
 have c0 : w2.cell? ⟨w.heap.size, 0, none⟩ = some (.int .i64 0) := (blk_cell hk 0).trans rfl
 have c1 : w2.cell? ⟨w.heap.size, 1, none⟩ = some (.int .i64 0) := (blk_cell hk 1).trans rfl
 have c2 : w2.cell? ⟨w.heap.size, 2, none⟩ = some (.int .i64 0) := (blk_cell hk 2).trans rfl
 have f0 := blk_frozen hk 0; have f1 := blk_frozen hk 1; have f2 := blk_frozen hk 2
 clear hB hB0 hk
 go_wp2_with fail
 refine bodyPost_ret (v := .tuple #[.agg #[.int .i64 y, .int .i64 m, .int .i64 d], .int .i64 e0]) (by simp [results, Tryz.results18, go_sem, c0, c1, c2, f0, f1, f2]) rfl ⟨rfl, ?_⟩
 repeat (with_reducible first | exact B | apply pw_below_drewN | apply below_drew | refine below_set ?_ (by simp; done))
theorem ix4 (w : World) : (Instr.index 60 (.agg #[.func (.func 38) #[] #[], .func (.func 39) #[] #[], .func (.func 40) #[] #[], .func (.func 41) #[] #[], .func (.func 42) #[] #[], .func (.func 43) #[] #[], .func (.func 44) #[] #[]]) (.int .i64 4)).run Tryz.prog w = .ok (.func (.func 42) #[] #[]) w := by kernel_rfl
attribute [local go_sem] ix4
set_option maxHeartbeats 4000000 in
set_option maxRecDepth 100000 in
theorem walk4 (a y m d e0 : Int) (w : World) (h : islam_Islamic.f FunZ.K a = some (y, m, d, e0)) : Calls Tryz.prog 18 #[.int .i64 4, .int .i64 a] w fun e w' => e = .returned (.tuple #[.agg #[.int .i64 y, .int .i64 m, .int .i64 d], .int .i64 e0]) ∧ Below w.heap.size w w' := by
 have H := Lib.hid h
 clear h
 go_enter Tryz.func18, Tryz.ntmps18
 go_wp2_with fail
 refine (show_is.calls 4 true _ (by decide)).mono ?_
 rintro e w1 ⟨rfl, ⟨nd, rfl⟩⟩
 go_wp2_with fail
 refine (islam_Islamic.calls FunZ.K a _ _ _ _ _ H.out).mono ?_
 rintro e w2 ⟨rfl, hB0⟩
 have hB := (by first | exact hB0 | exact hB0.below : Below _ _ w2)
 have B : Below w.heap.size w w2 := below_then (by repeat (with_reducible first | exact Below.refl _ _ | apply below_drew | apply pw_below_drewN | apply below_alloc)) (by simp) hB
 have hk : w2.heap[w.heap.size]? = some (.cells #[.int .i64 0, .int .i64 0, .int .i64 0] 41 (0, 0)) := (hB.block _ (by simp)).trans (by first | exact blk_drewN (blk_new w _) nd | exact blk_new w _)
 have c0 : w2.cell? ⟨w.heap.size, 0, none⟩ = some (.int .i64 0) := (blk_cell hk 0).trans rfl
 have c1 : w2.cell? ⟨w.heap.size, 1, none⟩ = some (.int .i64 0) := (blk_cell hk 1).trans rfl
 have c2 : w2.cell? ⟨w.heap.size, 2, none⟩ = some (.int .i64 0) := (blk_cell hk 2).trans rfl
 have f0 := blk_frozen hk 0; have f1 := blk_frozen hk 1; have f2 := blk_frozen hk 2
 clear hB hB0 hk
 go_wp2_with fail
 refine bodyPost_ret (v := .tuple #[.agg #[.int .i64 y, .int .i64 m, .int .i64 d], .int .i64 e0]) (by simp [results, Tryz.results18, go_sem, c0, c1, c2, f0, f1, f2]) rfl ⟨rfl, ?_⟩
 repeat (with_reducible first | exact B | apply pw_below_drewN | apply below_drew | refine below_set ?_ (by simp; done))
theorem ix5 (w : World) : (Instr.index 60 (.agg #[.func (.func 38) #[] #[], .func (.func 39) #[] #[], .func (.func 40) #[] #[], .func (.func 41) #[] #[], .func (.func 42) #[] #[], .func (.func 43) #[] #[], .func (.func 44) #[] #[]]) (.int .i64 5)).run Tryz.prog w = .ok (.func (.func 43) #[] #[]) w := by kernel_rfl
attribute [local go_sem] ix5
set_option maxHeartbeats 4000000 in
set_option maxRecDepth 100000 in
theorem walk5 (a y m d e0 : Int) (w : World) (h : persian_Persian.f FunZ.K a = some (y, m, d, e0)) : Calls Tryz.prog 18 #[.int .i64 5, .int .i64 a] w fun e w' => e = .returned (.tuple #[.agg #[.int .i64 y, .int .i64 m, .int .i64 d], .int .i64 e0]) ∧ Below w.heap.size w w' := by
 have H := Lib.hid h
 clear h
 go_enter Tryz.func18, Tryz.ntmps18
 go_wp2_with fail
 refine (show_is.calls 5 true _ (by decide)).mono ?_
 rintro e w1 ⟨rfl, ⟨nd, rfl⟩⟩
 go_wp2_with fail
 refine (persian_Persian.calls FunZ.K a _ _ _ _ _ H.out).mono ?_
 rintro e w2 ⟨rfl, hB0⟩
 have hB := (by first | exact hB0 | exact hB0.below : Below _ _ w2)
 have B : Below w.heap.size w w2 := below_then (by repeat (with_reducible first | exact Below.refl _ _ | apply below_drew | apply pw_below_drewN | apply below_alloc)) (by simp) hB
 have hk : w2.heap[w.heap.size]? = some (.cells #[.int .i64 0, .int .i64 0, .int .i64 0] 41 (0, 0)) := (hB.block _ (by simp)).trans (by first | exact blk_drewN (blk_new w _) nd | exact blk_new w _)
 have c0 : w2.cell? ⟨w.heap.size, 0, none⟩ = some (.int .i64 0) := (blk_cell hk 0).trans rfl
 have c1 : w2.cell? ⟨w.heap.size, 1, none⟩ = some (.int .i64 0) := (blk_cell hk 1).trans rfl
 have c2 : w2.cell? ⟨w.heap.size, 2, none⟩ = some (.int .i64 0) := (blk_cell hk 2).trans rfl
 have f0 := blk_frozen hk 0; have f1 := blk_frozen hk 1; have f2 := blk_frozen hk 2
 clear hB hB0 hk
 go_wp2_with fail
 refine bodyPost_ret (v := .tuple #[.agg #[.int .i64 y, .int .i64 m, .int .i64 d], .int .i64 e0]) (by simp [results, Tryz.results18, go_sem, c0, c1, c2, f0, f1, f2]) rfl ⟨rfl, ?_⟩
 repeat (with_reducible first | exact B | apply pw_below_drewN | apply below_drew | refine below_set ?_ (by simp; done))
theorem ix6 (w : World) : (Instr.index 60 (.agg #[.func (.func 38) #[] #[], .func (.func 39) #[] #[], .func (.func 40) #[] #[], .func (.func 41) #[] #[], .func (.func 42) #[] #[], .func (.func 43) #[] #[], .func (.func 44) #[] #[]]) (.int .i64 6)).run Tryz.prog w = .ok (.func (.func 44) #[] #[]) w := by kernel_rfl
attribute [local go_sem] ix6
set_option maxHeartbeats 4000000 in
set_option maxRecDepth 100000 in
theorem walk6 (a y m d e0 : Int) (w : World) (h : julian_Coptic.f a = some (y, m, d, e0)) : Calls Tryz.prog 18 #[.int .i64 6, .int .i64 a] w fun e w' => e = .returned (.tuple #[.agg #[.int .i64 y, .int .i64 m, .int .i64 d], .int .i64 e0]) ∧ Below w.heap.size w w' := by
 have H := Lib.hid h
 clear h
 go_enter Tryz.func18, Tryz.ntmps18
 go_wp2_with fail
 refine (show_is.calls 6 true _ (by decide)).mono ?_
 rintro e w1 ⟨rfl, ⟨nd, rfl⟩⟩
 go_wp2_with fail
 refine (julian_Coptic.calls a _ _ _ _ _ H.out).mono ?_
 rintro e w2 ⟨rfl, hB0⟩
 have hB := (by first | exact hB0 | exact hB0.below : Below _ _ w2)
 have B : Below w.heap.size w w2 := below_then (by repeat (with_reducible first | exact Below.refl _ _ | apply below_drew | apply pw_below_drewN | apply below_alloc)) (by simp) hB
 have hk : w2.heap[w.heap.size]? = some (.cells #[.int .i64 0, .int .i64 0, .int .i64 0] 41 (0, 0)) := (hB.block _ (by simp)).trans (by first | exact blk_drewN (blk_new w _) nd | exact blk_new w _)
 have c0 : w2.cell? ⟨w.heap.size, 0, none⟩ = some (.int .i64 0) := (blk_cell hk 0).trans rfl
 have c1 : w2.cell? ⟨w.heap.size, 1, none⟩ = some (.int .i64 0) := (blk_cell hk 1).trans rfl
 have c2 : w2.cell? ⟨w.heap.size, 2, none⟩ = some (.int .i64 0) := (blk_cell hk 2).trans rfl
 have f0 := blk_frozen hk 0; have f1 := blk_frozen hk 1; have f2 := blk_frozen hk 2
 clear hB hB0 hk
 go_wp2_with fail
 refine bodyPost_ret (v := .tuple #[.agg #[.int .i64 y, .int .i64 m, .int .i64 d], .int .i64 e0]) (by simp [results, Tryz.results18, go_sem, c0, c1, c2, f0, f1, f2]) rfl ⟨rfl, ?_⟩
 repeat (with_reducible first | exact B | apply pw_below_drewN | apply below_drew | refine below_set ?_ (by simp; done))
/-- show.Date tells the reference's date. -/
theorem date (c a : Int) (hc : 0 ≤ c) (hc' : c ≤ 6) : ∃ y m d e0, trystref01_Date.f FunZ.K c a = some (y, m, d, e0) ∧ -20000 ≤ y ∧ y ≤ 20000 ∧ (e0 = 0 ∨ e0 = 2) ∧ (e0 = 0 → 1 ≤ m ∧ m ≤ 60 ∧ 1 ≤ d ∧ d ≤ 60) ∧
  ∀ w : World, Calls Tryz.prog 18 #[.int .i64 c, .int .i64 a] w fun e w' => e = .returned (.tuple #[.agg #[.int .i64 y, .int .i64 m, .int .i64 d], .int .i64 e0]) ∧ Below w.heap.size w w' := by
 rcases (by omega : c = 0 ∨ c = 1 ∨ c = 2 ∨ c = 3 ∨ c = 4 ∨ c = 5 ∨ c = 6) with rfl | rfl | rfl | rfl | rfl | rfl | rfl
 ·obtain ⟨y, m, d, e, h1, h2, h3, h4, h5, h6⟩ := FunZ.date0 a
  exact ⟨y, m, d, e, h2, h3, h4, h5, h6, fun w => walk0 a y m d e w h1⟩
 ·obtain ⟨y, m, d, e, h1, h2, h3, h4, h5, h6⟩ := FunZ.date1 a
  exact ⟨y, m, d, e, h2, h3, h4, h5, h6, fun w => walk1 a y m d e w h1⟩
 ·obtain ⟨y, m, d, e, h1, h2, h3, h4, h5, h6⟩ := FunZ.date2 a
  exact ⟨y, m, d, e, h2, h3, h4, h5, h6, fun w => walk2 a y m d e w h1⟩
 ·obtain ⟨y, m, d, e, h1, h2, h3, h4, h5, h6⟩ := FunZ.date3 a
  exact ⟨y, m, d, e, h2, h3, h4, h5, h6, fun w => walk3 a y m d e w h1⟩
 ·obtain ⟨y, m, d, e, h1, h2, h3, h4, h5, h6⟩ := FunZ.date4 a
  exact ⟨y, m, d, e, h2, h3, h4, h5, h6, fun w => walk4 a y m d e w h1⟩
 ·obtain ⟨y, m, d, e, h1, h2, h3, h4, h5, h6⟩ := FunZ.date5 a
  exact ⟨y, m, d, e, h2, h3, h4, h5, h6, fun w => walk5 a y m d e w h1⟩
 ·obtain ⟨y, m, d, e, h1, h2, h3, h4, h5, h6⟩ := FunZ.date6 a
  exact ⟨y, m, d, e, h2, h3, h4, h5, h6, fun w => walk6 a y m d e w h1⟩
def T4 : Bool × List (List Nat × List Nat) := (true, [([], []), ([0], [0]), ([1], [1]), ([], []), ([2, 3], [2, 3]), ([], []), ([5], [5]), ([6, 2], [6]), ([4, 7], [4, 7]), ([8], [8]), ([], []), ([10], [10]), ([11, 7], [11]), ([9, 12], [9, 12]), ([13, 12, 0, 1, 2, 3, 4, 5, 6, 7, 8, 9, 10, 11, 12, 13], [13])])
def B4 : List Nat := [0, 1, 3, 0, 15, 0, 32, 103, 255, 511, 0, 1024, 3303, 8191, 16383]
theorem tab4 : rtab .any (opsOf Tryz.f19 4) = T4 := by kernel_rfl
theorem bits4 : waitsOk T4.2 B4 = true := by kernel_rfl

set_option maxHeartbeats 4000000 in
set_option maxRecDepth 100000 in
theorem written2 (c y m d : Int) (w : World) (ht : Tab w) (hc : c = 2) (y1 : -20000 ≤ y) (y2 : y ≤ 20000) (m1 : 1 ≤ m) (m2 : m ≤ 60) (d1 : 1 ≤ d) (d2 : d ≤ 60) (hz : ∀ n : Int, -20000 ≤ n → n ≤ 20000 → (⟨(Lib.itoa n).toArray⟩ : ByteArray).size ≤ 100) :
  Calls Tryz.prog 19 #[.int .i64 c, .agg #[.int .i64 y, .int .i64 m, .int .i64 d]] w fun e w' => e = .returned (.string ((⟨(Lib.itoa y).toArray⟩ : ByteArray) ++ ⟨#[45, 87]⟩ ++ ⟨(Lib.itoa m).toArray⟩ ++ ⟨#[45]⟩ ++ ⟨(Lib.itoa d).toArray⟩)) ∧ Below w.heap.size w w' := by
 have T := Lib.hid ht
 have Y := Lib.hid (And.intro y1 y2)
 have zy := hz y y1 y2
 have zm := hz m (by omega) (by omega)
 have zd := hz d (by omega) (by omega)
 have M := Lib.hid (And.intro m1 m2)
 have D := Lib.hid (And.intro d1 d2)
 have c1 : (c == 2) = true := beq_iff_eq.2 hc
 clear ht hc y1 y2 m1 m2 d1 d2 hz
 generalize hsy : (⟨(Lib.itoa y).toArray⟩ : ByteArray) = sy at zy ⊢
 generalize hsm : (⟨(Lib.itoa m).toArray⟩ : ByteArray) = sm at zm ⊢
 generalize hsd : (⟨(Lib.itoa d).toArray⟩ : ByteArray) = sd at zd ⊢
 have SY := Lib.hid hsy
 have SM := Lib.hid hsm
 have SD := Lib.hid hsd
 clear hsy hsm hsd
 go_enter Tryz.func19, Tryz.ntmps19
 go_wp2_with fail
 refine start_ (n := 15) (S := fun w' => w'.cell? ⟨w.heap.size, 0, none⟩ = some (.int .i64 y) ∧ w'.cell? ⟨w.heap.size, 1, none⟩ = some (.int .i64 m) ∧ w'.cell? ⟨w.heap.size, 2, none⟩ = some (.int .i64 d)) (ds := []) #[false, false, false, false, false, false, false, false, false, false, false, false, false, false, false] (by kernel_rfl) rfl rfl ⟨by go_simp, by go_simp, by go_simp⟩ (fun hHeld => ?_)
 refine with_tabW tab4 bits4 (fun HT_ HW_ => ?_)
 have B : Below w.heap.size w _ := (by repeat (with_reducible first | exact Below.refl _ _ | apply below_drew | apply pw_below_drewN | apply below_alloc) : Below w.heap.size w ((w.alloc (.cells #[.int .i64 y, .int .i64 m, .int .i64 d] 41 (0, 0))).drew))
 generalize (w.alloc (.cells #[.int .i64 y, .int .i64 m, .int .i64 d] 41 (0, 0))).drew = w1 at B hHeld ⊢
 replace B := Lib.hid B
 refine pure_ (i := 0) (N := some 8) (v := ?_) (a' := ?_) #[true, false, false, false, false, false, false, false, false, false, false, false, false, false, false] rfl rfl (any_of HT_.out (by kernel_rfl)) (fun _ _ _ h => h) (Or.inl ⟨by rfl, ?_⟩) ?_ ?_
 rotate_left
 ·intro w'
  go_simp
  with_reducible rfl
 rotate_left
 ·simp only [Act.put, sA, sB, sC, i64_w, i32_w]
  rfl
 refine pure_ (i := 5) (N := some 13) (v := ?_) (a' := ?_) #[true, false, false, false, false, true, false, false, false, false, false, false, false, false, false] rfl rfl (any_of HT_.out (by kernel_rfl)) (fun _ _ _ h => h) (Or.inl ⟨by rfl, ?_⟩) ?_ ?_
 rotate_left
 ·intro w'
  go_simp
  with_reducible rfl
 rotate_left
 ·simp only [Act.put, sA, sB, sC, i64_w, i32_w]
  rfl
 refine pure_ (i := 10) (N := some 18) (v := ?_) (a' := ?_) #[true, false, false, false, false, true, false, false, false, false, true, false, false, false, false] rfl rfl (any_of HT_.out (by kernel_rfl)) (fun _ _ _ h => h) (Or.inl ⟨by rfl, ?_⟩) ?_ ?_
 rotate_left
 ·intro w'
  go_simp
  with_reducible rfl
 rotate_left
 ·simp only [Act.put, sA, sB, sC, i64_w, i32_w]
  rfl
 refine pure_ (i := 3) (N := some 11) (v := ?_) (a' := ?_) #[true, false, false, true, false, true, false, false, false, false, true, false, false, false, false] rfl rfl (any_of HT_.out (by kernel_rfl)) (fun _ _ _ h => h) (Or.inl ⟨by rfl, ?_⟩) ?_ ?_
 rotate_left
 ·intro w'
  go_simp
  with_reducible rfl
 rotate_left
 ·simp only [Act.put, sA, sB, sC, i64_w, i32_w]
  rfl
 refine take_ (i := 1) (N := some 9) (v := ?_) (a' := ?_) #[true, true, false, true, false, true, false, false, false, false, true, false, false, false, false] rfl rfl (take_ofW HT_.out HW_.out (by kernel_rfl)) (fun _ _ _ h => h) (Or.inl ⟨by rfl, ?_⟩) hHeld ?_ ?_
 rotate_left
 ·rintro w' ⟨s0, s1, s2⟩
  go_simp
  with_reducible rfl
 rotate_left
 ·simp only [Act.put, sA, sB, sC, i64_w, i32_w]
  rfl
 refine take_ (i := 6) (N := some 14) (v := ?_) (a' := ?_) #[true, true, false, true, false, true, true, false, false, false, true, false, false, false, false] rfl rfl (take_ofW HT_.out HW_.out (by kernel_rfl)) (fun _ _ _ h => h) (Or.inl ⟨by rfl, ?_⟩) hHeld ?_ ?_
 rotate_left
 ·rintro w' ⟨s0, s1, s2⟩
  go_simp
  with_reducible rfl
 rotate_left
 ·simp only [Act.put, sA, sB, sC, i64_w, i32_w]
  rfl
 refine take_ (i := 11) (N := some 19) (v := ?_) (a' := ?_) #[true, true, false, true, false, true, true, false, false, false, true, true, false, false, false] rfl rfl (take_ofW HT_.out HW_.out (by kernel_rfl)) (fun _ _ _ h => h) (Or.inl ⟨by rfl, ?_⟩) hHeld ?_ ?_
 rotate_left
 ·rintro w' ⟨s0, s1, s2⟩
  go_simp
  with_reducible rfl
 rotate_left
 ·simp only [Act.put, sA, sB, sC, i64_w, i32_w]
  rfl
 refine one_ (i := 2) (N := some 10) #[true, true, true, true, false, true, true, false, false, false, true, true, false, false, false] rfl rfl (one_of HT_.out (by kernel_rfl)) (by decide) (fun K hK => ?_)
 refine goes_ Tryz.func23 (by kernel_rfl) rfl #[.int .i64 y] (by rfl) rfl rfl (by (try simp only [List.map_toArray, List.map_cons, List.map_nil]); first | done | rfl) ?_
 refine (itoa y sy _ (by have := Y.out; omega) (by have := Y.out; omega) SY.out (tab_below T.out B.out)).mono ?_
 rintro e w2 ⟨rfl, hb⟩
 refine ⟨_, rfl, ?_⟩
 replace B := Lib.hid (below_then B.out B.out.size hb)
 refine hK.out _ _ ⟨pw_cell_below hb hHeld.1, pw_cell_below hb hHeld.2.1, pw_cell_below hb hHeld.2.2⟩ (fun hHeld => ?_)
 clear hK K hb
 refine norm_ (a' := ?_) ?_ ?_
 rotate_left
 ·show Act.put _ (some 10) _ = _
  simp only [Act.put, sA, sB, sC, i64_w, i32_w]
  rfl
 refine pure_ (i := 4) (N := some 12) (v := ?_) (a' := ?_) #[true, true, true, true, true, true, true, false, false, false, true, true, false, false, false] rfl rfl (any_of HT_.out (by kernel_rfl)) (fun _ _ _ h => h) (Or.inl ⟨by rfl, ?_⟩) ?_ ?_
 rotate_left
 ·intro w'
  go_simp
  first | (with_reducible rfl) | (rw [if_neg (by first | omega | (simp only [ByteArray.size_append, s1_, s2_]; omega) | (simp [ByteArray.size_append, s1_, s2_]; omega))])
 rotate_left
 ·simp only [Act.put, sA, sB, sC, i64_w, i32_w]
  rfl
 refine one_ (i := 7) (N := some 15) #[true, true, true, true, true, true, true, true, false, false, true, true, false, false, false] rfl rfl (one_of HT_.out (by kernel_rfl)) (by decide) (fun K hK => ?_)
 refine goes_ Tryz.func23 (by kernel_rfl) rfl #[.int .i64 m] (by rfl) rfl rfl (by (try simp only [List.map_toArray, List.map_cons, List.map_nil]); first | done | rfl) ?_
 refine (itoa m sm _ (by have := M.out; omega) (by have := M.out; omega) SM.out (tab_below T.out B.out)).mono ?_
 rintro e w3 ⟨rfl, hb⟩
 refine ⟨_, rfl, ?_⟩
 replace B := Lib.hid (below_then B.out B.out.size hb)
 refine hK.out _ _ ⟨pw_cell_below hb hHeld.1, pw_cell_below hb hHeld.2.1, pw_cell_below hb hHeld.2.2⟩ (fun hHeld => ?_)
 clear hK K hb
 refine norm_ (a' := ?_) ?_ ?_
 rotate_left
 ·show Act.put _ (some 15) _ = _
  simp only [Act.put, sA, sB, sC, i64_w, i32_w]
  rfl
 refine pure_ (i := 8) (N := some 16) (v := ?_) (a' := ?_) #[true, true, true, true, true, true, true, true, true, false, true, true, false, false, false] rfl rfl (any_of HT_.out (by kernel_rfl)) (fun _ _ _ h => h) (Or.inl ⟨by rfl, ?_⟩) ?_ ?_
 rotate_left
 ·intro w'
  go_simp
  first | (with_reducible rfl) | (rw [if_neg (by first | omega | (simp only [ByteArray.size_append, s1_, s2_]; omega) | (simp [ByteArray.size_append, s1_, s2_]; omega))])
 rotate_left
 ·simp only [Act.put, sA, sB, sC, i64_w, i32_w]
  rfl
 refine pure_ (i := 9) (N := some 17) (v := ?_) (a' := ?_) #[true, true, true, true, true, true, true, true, true, true, true, true, false, false, false] rfl rfl (any_of HT_.out (by kernel_rfl)) (fun _ _ _ h => h) (Or.inl ⟨by rfl, ?_⟩) ?_ ?_
 rotate_left
 ·intro w'
  go_simp
  first | (with_reducible rfl) | (rw [if_neg (by first | omega | (simp only [ByteArray.size_append, s1_, s2_]; omega) | (simp [ByteArray.size_append, s1_, s2_]; omega))])
 rotate_left
 ·simp only [Act.put, sA, sB, sC, i64_w, i32_w]
  rfl
 refine one_ (i := 12) (N := some 20) #[true, true, true, true, true, true, true, true, true, true, true, true, true, false, false] rfl rfl (one_of HT_.out (by kernel_rfl)) (by decide) (fun K hK => ?_)
 refine goes_ Tryz.func23 (by kernel_rfl) rfl #[.int .i64 d] (by rfl) rfl rfl (by (try simp only [List.map_toArray, List.map_cons, List.map_nil]); first | done | rfl) ?_
 refine (itoa d sd _ (by have := D.out; omega) (by have := D.out; omega) SD.out (tab_below T.out B.out)).mono ?_
 rintro e w4 ⟨rfl, hb⟩
 refine ⟨_, rfl, ?_⟩
 replace B := Lib.hid (below_then B.out B.out.size hb)
 refine hK.out _ _ ⟨pw_cell_below hb hHeld.1, pw_cell_below hb hHeld.2.1, pw_cell_below hb hHeld.2.2⟩ (fun hHeld => ?_)
 clear hK K hb
 refine norm_ (a' := ?_) ?_ ?_
 rotate_left
 ·show Act.put _ (some 20) _ = _
  simp only [Act.put, sA, sB, sC, i64_w, i32_w]
  rfl
 refine pure_ (i := 13) (N := some 21) (v := ?_) (a' := ?_) #[true, true, true, true, true, true, true, true, true, true, true, true, true, true, false] rfl rfl (any_of HT_.out (by kernel_rfl)) (fun _ _ _ h => h) (Or.inl ⟨by rfl, ?_⟩) ?_ ?_
 rotate_left
 ·intro w'
  go_simp
  first | (with_reducible rfl) | (rw [if_neg (by first | omega | (simp only [ByteArray.size_append, s1_, s2_]; omega) | (simp [ByteArray.size_append, s1_, s2_]; omega))])
 rotate_left
 ·simp only [Act.put, sA, sB, sC, i64_w, i32_w]
  rfl
 refine pure_ (i := 14) (N := some 4) (v := ?_) (a' := ?_) #[true, true, true, true, true, true, true, true, true, true, true, true, true, true, true] rfl rfl (any_of HT_.out (by kernel_rfl)) (fun _ _ _ h => h) (Or.inl ⟨by rfl, ?_⟩) ?_ ?_
 rotate_left
 ·intro w'
  go_simp
  first | (with_reducible rfl) | (rw [if_neg (by first | omega | (simp only [ByteArray.size_append, s1_, s2_]; omega) | (simp [ByteArray.size_append, s1_, s2_]; omega))])
 rotate_left
 ·simp only [Act.put, sA, sB, sC, i64_w, i32_w]
  rfl
 refine done_ (done_of HT_.out (by kernel_rfl)) ?_
 clear HT_ HW_
 go_wp2_with fail
 go_ret
 exact ⟨rfl, B.out⟩
set_option maxHeartbeats 4000000 in
set_option maxRecDepth 100000 in
theorem written0 (c y m d : Int) (w : World) (ht : Tab w) (hc : ¬ c = 2) (y1 : -20000 ≤ y) (y2 : y ≤ 20000) (m1 : 1 ≤ m) (m2 : m ≤ 60) (d1 : 1 ≤ d) (d2 : d ≤ 60) (hz : ∀ n : Int, -20000 ≤ n → n ≤ 20000 → (⟨(Lib.itoa n).toArray⟩ : ByteArray).size ≤ 100) :
  Calls Tryz.prog 19 #[.int .i64 c, .agg #[.int .i64 y, .int .i64 m, .int .i64 d]] w fun e w' => e = .returned (.string ((⟨(Lib.itoa y).toArray⟩ : ByteArray) ++ ⟨#[45]⟩ ++ ⟨(Lib.itoa m).toArray⟩ ++ ⟨#[45]⟩ ++ ⟨(Lib.itoa d).toArray⟩)) ∧ Below w.heap.size w w' := by
 have T := Lib.hid ht
 have Y := Lib.hid (And.intro y1 y2)
 have zy := hz y y1 y2
 have zm := hz m (by omega) (by omega)
 have zd := hz d (by omega) (by omega)
 have M := Lib.hid (And.intro m1 m2)
 have D := Lib.hid (And.intro d1 d2)
 have c1 : (c == 2) = false := beq_eq_false_iff_ne.2 hc
 clear ht hc y1 y2 m1 m2 d1 d2 hz
 generalize hsy : (⟨(Lib.itoa y).toArray⟩ : ByteArray) = sy at zy ⊢
 generalize hsm : (⟨(Lib.itoa m).toArray⟩ : ByteArray) = sm at zm ⊢
 generalize hsd : (⟨(Lib.itoa d).toArray⟩ : ByteArray) = sd at zd ⊢
 have SY := Lib.hid hsy
 have SM := Lib.hid hsm
 have SD := Lib.hid hsd
 clear hsy hsm hsd
 go_enter Tryz.func19, Tryz.ntmps19
 go_wp2_with fail
 refine start_ (n := 15) (S := fun w' => w'.cell? ⟨w.heap.size, 0, none⟩ = some (.int .i64 y) ∧ w'.cell? ⟨w.heap.size, 1, none⟩ = some (.int .i64 m) ∧ w'.cell? ⟨w.heap.size, 2, none⟩ = some (.int .i64 d)) (ds := []) #[false, false, false, false, false, false, false, false, false, false, false, false, false, false, false] (by kernel_rfl) rfl rfl ⟨by go_simp, by go_simp, by go_simp⟩ (fun hHeld => ?_)
 refine with_tabW tab4 bits4 (fun HT_ HW_ => ?_)
 have B : Below w.heap.size w _ := (by repeat (with_reducible first | exact Below.refl _ _ | apply below_drew | apply pw_below_drewN | apply below_alloc) : Below w.heap.size w ((w.alloc (.cells #[.int .i64 y, .int .i64 m, .int .i64 d] 41 (0, 0))).drew))
 generalize (w.alloc (.cells #[.int .i64 y, .int .i64 m, .int .i64 d] 41 (0, 0))).drew = w1 at B hHeld ⊢
 replace B := Lib.hid B
 refine pure_ (i := 0) (N := some 8) (v := ?_) (a' := ?_) #[true, false, false, false, false, false, false, false, false, false, false, false, false, false, false] rfl rfl (any_of HT_.out (by kernel_rfl)) (fun _ _ _ h => h) (Or.inl ⟨by rfl, ?_⟩) ?_ ?_
 rotate_left
 ·intro w'
  go_simp
  with_reducible rfl
 rotate_left
 ·simp only [Act.put, sA, sB, sC, i64_w, i32_w]
  rfl
 refine pure_ (i := 5) (N := some 13) (v := ?_) (a' := ?_) #[true, false, false, false, false, true, false, false, false, false, false, false, false, false, false] rfl rfl (any_of HT_.out (by kernel_rfl)) (fun _ _ _ h => h) (Or.inl ⟨by rfl, ?_⟩) ?_ ?_
 rotate_left
 ·intro w'
  go_simp
  with_reducible rfl
 rotate_left
 ·simp only [Act.put, sA, sB, sC, i64_w, i32_w]
  rfl
 refine pure_ (i := 10) (N := some 18) (v := ?_) (a' := ?_) #[true, false, false, false, false, true, false, false, false, false, true, false, false, false, false] rfl rfl (any_of HT_.out (by kernel_rfl)) (fun _ _ _ h => h) (Or.inl ⟨by rfl, ?_⟩) ?_ ?_
 rotate_left
 ·intro w'
  go_simp
  with_reducible rfl
 rotate_left
 ·simp only [Act.put, sA, sB, sC, i64_w, i32_w]
  rfl
 refine pure_ (i := 3) (N := some 11) (v := ?_) (a' := ?_) #[true, false, false, true, false, true, false, false, false, false, true, false, false, false, false] rfl rfl (any_of HT_.out (by kernel_rfl)) (fun _ _ _ h => h) (Or.inl ⟨by rfl, ?_⟩) ?_ ?_
 rotate_left
 ·intro w'
  go_simp
  with_reducible rfl
 rotate_left
 ·simp only [Act.put, sA, sB, sC, i64_w, i32_w]
  rfl
 refine take_ (i := 1) (N := some 9) (v := ?_) (a' := ?_) #[true, true, false, true, false, true, false, false, false, false, true, false, false, false, false] rfl rfl (take_ofW HT_.out HW_.out (by kernel_rfl)) (fun _ _ _ h => h) (Or.inl ⟨by rfl, ?_⟩) hHeld ?_ ?_
 rotate_left
 ·rintro w' ⟨s0, s1, s2⟩
  go_simp
  with_reducible rfl
 rotate_left
 ·simp only [Act.put, sA, sB, sC, i64_w, i32_w]
  rfl
 refine take_ (i := 6) (N := some 14) (v := ?_) (a' := ?_) #[true, true, false, true, false, true, true, false, false, false, true, false, false, false, false] rfl rfl (take_ofW HT_.out HW_.out (by kernel_rfl)) (fun _ _ _ h => h) (Or.inl ⟨by rfl, ?_⟩) hHeld ?_ ?_
 rotate_left
 ·rintro w' ⟨s0, s1, s2⟩
  go_simp
  with_reducible rfl
 rotate_left
 ·simp only [Act.put, sA, sB, sC, i64_w, i32_w]
  rfl
 refine take_ (i := 11) (N := some 19) (v := ?_) (a' := ?_) #[true, true, false, true, false, true, true, false, false, false, true, true, false, false, false] rfl rfl (take_ofW HT_.out HW_.out (by kernel_rfl)) (fun _ _ _ h => h) (Or.inl ⟨by rfl, ?_⟩) hHeld ?_ ?_
 rotate_left
 ·rintro w' ⟨s0, s1, s2⟩
  go_simp
  with_reducible rfl
 rotate_left
 ·simp only [Act.put, sA, sB, sC, i64_w, i32_w]
  rfl
 refine one_ (i := 2) (N := some 10) #[true, true, true, true, false, true, true, false, false, false, true, true, false, false, false] rfl rfl (one_of HT_.out (by kernel_rfl)) (by decide) (fun K hK => ?_)
 refine goes_ Tryz.func23 (by kernel_rfl) rfl #[.int .i64 y] (by rfl) rfl rfl (by (try simp only [List.map_toArray, List.map_cons, List.map_nil]); first | done | rfl) ?_
 refine (itoa y sy _ (by have := Y.out; omega) (by have := Y.out; omega) SY.out (tab_below T.out B.out)).mono ?_
 rintro e w2 ⟨rfl, hb⟩
 refine ⟨_, rfl, ?_⟩
 replace B := Lib.hid (below_then B.out B.out.size hb)
 refine hK.out _ _ ⟨pw_cell_below hb hHeld.1, pw_cell_below hb hHeld.2.1, pw_cell_below hb hHeld.2.2⟩ (fun hHeld => ?_)
 clear hK K hb
 refine norm_ (a' := ?_) ?_ ?_
 rotate_left
 ·show Act.put _ (some 10) _ = _
  simp only [Act.put, sA, sB, sC, i64_w, i32_w]
  rfl
 refine pure_ (i := 4) (N := some 12) (v := ?_) (a' := ?_) #[true, true, true, true, true, true, true, false, false, false, true, true, false, false, false] rfl rfl (any_of HT_.out (by kernel_rfl)) (fun _ _ _ h => h) (Or.inl ⟨by rfl, ?_⟩) ?_ ?_
 rotate_left
 ·intro w'
  go_simp
  first | (with_reducible rfl) | (rw [if_neg (by first | omega | (simp only [ByteArray.size_append, s1_, s2_]; omega) | (simp [ByteArray.size_append, s1_, s2_]; omega))])
 rotate_left
 ·simp only [Act.put, sA, sB, sC, i64_w, i32_w]
  rfl
 refine one_ (i := 7) (N := some 15) #[true, true, true, true, true, true, true, true, false, false, true, true, false, false, false] rfl rfl (one_of HT_.out (by kernel_rfl)) (by decide) (fun K hK => ?_)
 refine goes_ Tryz.func23 (by kernel_rfl) rfl #[.int .i64 m] (by rfl) rfl rfl (by (try simp only [List.map_toArray, List.map_cons, List.map_nil]); first | done | rfl) ?_
 refine (itoa m sm _ (by have := M.out; omega) (by have := M.out; omega) SM.out (tab_below T.out B.out)).mono ?_
 rintro e w3 ⟨rfl, hb⟩
 refine ⟨_, rfl, ?_⟩
 replace B := Lib.hid (below_then B.out B.out.size hb)
 refine hK.out _ _ ⟨pw_cell_below hb hHeld.1, pw_cell_below hb hHeld.2.1, pw_cell_below hb hHeld.2.2⟩ (fun hHeld => ?_)
 clear hK K hb
 refine norm_ (a' := ?_) ?_ ?_
 rotate_left
 ·show Act.put _ (some 15) _ = _
  simp only [Act.put, sA, sB, sC, i64_w, i32_w]
  rfl
 refine pure_ (i := 8) (N := some 16) (v := ?_) (a' := ?_) #[true, true, true, true, true, true, true, true, true, false, true, true, false, false, false] rfl rfl (any_of HT_.out (by kernel_rfl)) (fun _ _ _ h => h) (Or.inl ⟨by rfl, ?_⟩) ?_ ?_
 rotate_left
 ·intro w'
  go_simp
  first | (with_reducible rfl) | (rw [if_neg (by first | omega | (simp only [ByteArray.size_append, s1_, s2_]; omega) | (simp [ByteArray.size_append, s1_, s2_]; omega))])
 rotate_left
 ·simp only [Act.put, sA, sB, sC, i64_w, i32_w]
  rfl
 refine pure_ (i := 9) (N := some 17) (v := ?_) (a' := ?_) #[true, true, true, true, true, true, true, true, true, true, true, true, false, false, false] rfl rfl (any_of HT_.out (by kernel_rfl)) (fun _ _ _ h => h) (Or.inl ⟨by rfl, ?_⟩) ?_ ?_
 rotate_left
 ·intro w'
  go_simp
  first | (with_reducible rfl) | (rw [if_neg (by first | omega | (simp only [ByteArray.size_append, s1_, s2_]; omega) | (simp [ByteArray.size_append, s1_, s2_]; omega))])
 rotate_left
 ·simp only [Act.put, sA, sB, sC, i64_w, i32_w]
  rfl
 refine one_ (i := 12) (N := some 20) #[true, true, true, true, true, true, true, true, true, true, true, true, true, false, false] rfl rfl (one_of HT_.out (by kernel_rfl)) (by decide) (fun K hK => ?_)
 refine goes_ Tryz.func23 (by kernel_rfl) rfl #[.int .i64 d] (by rfl) rfl rfl (by (try simp only [List.map_toArray, List.map_cons, List.map_nil]); first | done | rfl) ?_
 refine (itoa d sd _ (by have := D.out; omega) (by have := D.out; omega) SD.out (tab_below T.out B.out)).mono ?_
 rintro e w4 ⟨rfl, hb⟩
 refine ⟨_, rfl, ?_⟩
 replace B := Lib.hid (below_then B.out B.out.size hb)
 refine hK.out _ _ ⟨pw_cell_below hb hHeld.1, pw_cell_below hb hHeld.2.1, pw_cell_below hb hHeld.2.2⟩ (fun hHeld => ?_)
 clear hK K hb
 refine norm_ (a' := ?_) ?_ ?_
 rotate_left
 ·show Act.put _ (some 20) _ = _
  simp only [Act.put, sA, sB, sC, i64_w, i32_w]
  rfl
 refine pure_ (i := 13) (N := some 21) (v := ?_) (a' := ?_) #[true, true, true, true, true, true, true, true, true, true, true, true, true, true, false] rfl rfl (any_of HT_.out (by kernel_rfl)) (fun _ _ _ h => h) (Or.inl ⟨by rfl, ?_⟩) ?_ ?_
 rotate_left
 ·intro w'
  go_simp
  first | (with_reducible rfl) | (rw [if_neg (by first | omega | (simp only [ByteArray.size_append, s1_, s2_]; omega) | (simp [ByteArray.size_append, s1_, s2_]; omega))])
 rotate_left
 ·simp only [Act.put, sA, sB, sC, i64_w, i32_w]
  rfl
 refine pure_ (i := 14) (N := some 4) (v := ?_) (a' := ?_) #[true, true, true, true, true, true, true, true, true, true, true, true, true, true, true] rfl rfl (any_of HT_.out (by kernel_rfl)) (fun _ _ _ h => h) (Or.inl ⟨by rfl, ?_⟩) ?_ ?_
 rotate_left
 ·intro w'
  go_simp
  first | (with_reducible rfl) | (rw [if_neg (by first | omega | (simp only [ByteArray.size_append, s1_, s2_]; omega) | (simp [ByteArray.size_append, s1_, s2_]; omega))])
 rotate_left
 ·simp only [Act.put, sA, sB, sC, i64_w, i32_w]
  rfl
 refine done_ (done_of HT_.out (by kernel_rfl)) ?_
 clear HT_ HW_
 go_wp2_with fail
 go_ret
 exact ⟨rfl, B.out⟩
end Go.Proofs.YtgbbgcepcnklkaaGreatDoor.ShowDt
