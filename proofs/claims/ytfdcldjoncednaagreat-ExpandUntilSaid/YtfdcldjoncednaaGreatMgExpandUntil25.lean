/- Texts of this claim, merged: Right, PureE, ExB, MexB, RefW. -/
import Derived.Test.YtfdcldjoncednaaGreatMgExpandUntil18
import Derived.Test.YtfdcldjoncednaaGreatMgExpandUntil15
import Derived.Test.YtfdcldjoncednaaGreatMgExpandUntil22
import Derived.Test.YtfdcldjoncednaaGreatMgExpandUntil23
import Derived.Test.YtfdcldjoncednaaGreatMgExpandUntil24
import Derived.Test.YtfdcldjoncednaaGreatMgExpandUntil16
import Derived.Test.YtfdcldjoncednaaGreatMgExpandUntil7
import Derived.Test.YtfdcldjoncednaaGreatMgExpandUntil13
/- A time is right by value when it is by the reference: one answer. -/
namespace Go.Proofs.YtfdcldjoncednaaGreat.Right
open Go.RowKit Go.Proofs.YtfdcldjoncednaaGreatW.PrintWords Go.Proofs.YtfdcldjoncednaaGreatW.PrintLast Go.Proofs.YtfdcldjoncednaaGreat.M Go.Proofs.YtfdcldjoncednaaGreat.Cal
set_option linter.unusedVariables false
set_option linter.unusedSimpArgs false
theorem cRight (a : Int) : clock_Right.f a = some (decide (86400 ≤ a) && decide (a < 315537984000)) := by
 unfold clock_Right.f
 by_cases h : a ≥ 86400
 ·rw [if_pos h, decide_eq_true (show 86400 ≤ a from h)]; rfl
 ·rw [if_neg h, decide_eq_false (show ¬ 86400 ≤ a from h)]; rfl
theorem fRight (a : Int) : trystref01_Right.f a = some (decide (86400 ≤ a) && decide (a < 315537984000)) := by
 unfold trystref01_Right.f
 by_cases h : a ≥ 86400
 ·rw [if_pos h, decide_eq_true (show 86400 ≤ a from h)]; rfl
 ·rw [if_neg h, decide_eq_false (show ¬ 86400 ≤ a from h)]; rfl
theorem cSplit {a : Int} (h : 0 ≤ a) (h' : a ≤ 9223372036854775807) : clock_split.f a = some (a / 86400, a % 86400) := by
 unfold clock_split.f
 rw [Int.tmod_eq_emod_of_nonneg h, Int.tdiv_eq_ediv_of_nonneg h, if_neg (by omega), w64 (by omega) (by omega)]
theorem right_ (kd at_ : Int) (s : ByteArray) (hs : s.size ≤ 9223372036854775807) : ∃ b, ∀ k, 2 ≤ k → value_RightTime.f kd at_ s = some b ∧ trystref12_RightTime.f k kd at_ s = some b := by
 have hz1 : value_ZoneName.f s = some (Zn.znB s) := if_pos hs
 have hz2 : trystref12_ZoneName.f s = some (Zn.znB s) := if_pos hs
 by_cases r : 86400 ≤ at_ ∧ at_ < 315537984000
 ·have e1 : clock_Right.f at_ = some true := by rw [cRight, decide_eq_true r.1, decide_eq_true r.2]; rfl
  have e2 : trystref01_Right.f at_ = some true := by rw [fRight, decide_eq_true r.1, decide_eq_true r.2]; rfl
  have e3 : clock_Second.f at_ = some (at_ % 86400) := by
   unfold clock_Second.f
   rw [e1, Option.bind_some, if_pos rfl, cSplit (by omega) (by omega)]; rfl
  by_cases a : kd = 0
  ·by_cases c : s.toList = ([] : List UInt8)
   ·refine ⟨at_ % 86400 == 0, fun k hk => ⟨?_, ?_⟩⟩
    ·unfold value_RightTime.f; rw [e1, Option.bind_some, if_pos rfl, if_pos a, if_pos c, e3]; rfl
    ·unfold trystref12_RightTime.f; rw [e2, Option.bind_some, if_pos rfl, if_pos a, if_pos c, Int.tmod_eq_emod_of_nonneg (by omega)]
   ·refine ⟨false, fun k hk => ⟨?_, ?_⟩⟩
    ·unfold value_RightTime.f; rw [e1, Option.bind_some, if_pos rfl, if_pos a, if_neg c]
    ·unfold trystref12_RightTime.f; rw [e2, Option.bind_some, if_pos rfl, if_pos a, if_neg c]
  ·by_cases b : kd = 3
   ·have b1 : ¬ kd = 1 := by omega
    have b2 : (kd == 2) = false := beq_eq_false_iff_ne.2 (by omega)
    refine ⟨Zn.znB s, fun k hk => ?_⟩
    obtain ⟨k, rfl⟩ : ∃ m, k = m + 1 := ⟨k - 1, by omega⟩
    refine ⟨?_, ?_⟩
    ·unfold value_RightTime.f; rw [e1, Option.bind_some, if_pos rfl, if_neg a, if_pos b, hz1]; rfl
    ·unfold trystref12_RightTime.f; rw [e2, Option.bind_some, if_pos rfl, if_neg a, if_neg b1, b2]
     simp only [trystref12_RightTime.j0]
     rw [if_neg (by simp), if_pos b, hz2]; rfl
   ·by_cases c : kd = 1
    ·refine ⟨s.toList == ([] : List UInt8), fun k hk => ?_⟩
     obtain ⟨k, rfl⟩ : ∃ m, k = m + 1 := ⟨k - 1, by omega⟩
     refine ⟨?_, ?_⟩
     ·unfold value_RightTime.f
      rw [e1, Option.bind_some, if_pos rfl, if_neg a, if_neg b]
      by_cases q : s.toList = ([] : List UInt8)
      ·rw [if_pos q, if_pos c, q]; rfl
      ·rw [if_neg q]; simp [q]
     ·unfold trystref12_RightTime.f
      rw [e2, Option.bind_some, if_pos rfl, if_neg a, if_pos c, show (kd == 1) = true from beq_iff_eq.2 c]
      simp only [trystref12_RightTime.j0]
      rw [if_pos trivial]
    ·refine ⟨(kd == 2) && (s.toList == ([] : List UInt8)), fun k hk => ?_⟩
     obtain ⟨k, rfl⟩ : ∃ m, k = m + 1 := ⟨k - 1, by omega⟩
     refine ⟨?_, ?_⟩
     ·unfold value_RightTime.f
      rw [e1, Option.bind_some, if_pos rfl, if_neg a, if_neg b]
      by_cases q : s.toList = ([] : List UInt8)
      ·rw [if_pos q, if_neg c, q]; simp
      ·rw [if_neg q]; simp [q]
     ·unfold trystref12_RightTime.f
      rw [e2, Option.bind_some, if_pos rfl, if_neg a, if_neg c]
      simp only [trystref12_RightTime.j0]
      by_cases d : kd = 2
      ·rw [show (kd == 2) = true from beq_iff_eq.2 d, if_pos rfl, Bool.true_and]
      ·rw [show (kd == 2) = false from beq_eq_false_iff_ne.2 d, if_neg (by simp), if_neg b, Bool.false_and]
 ·have e1 : clock_Right.f at_ = some false := by
   rw [cRight]
   by_cases c : 86400 ≤ at_
   ·rw [decide_eq_false (show ¬ at_ < 315537984000 from fun z => r ⟨c, z⟩)]; simp
   ·rw [decide_eq_false c]; rfl
  have e2 : trystref01_Right.f at_ = some false := by rw [fRight, ← cRight, e1]
  refine ⟨false, fun k hk => ⟨?_, ?_⟩⟩
  ·unfold value_RightTime.f; rw [e1, Option.bind_some, if_neg (by simp)]
  ·unfold trystref12_RightTime.f; rw [e2, Option.bind_some, if_neg (by simp)]
end Go.Proofs.YtfdcldjoncednaaGreat.Right
/- What the laws of expand need: plain. (Written by gen_puree.py.) -/
namespace Go.Proofs.YtfdcldjoncednaaGreat.PureE
open Go.RowKit Go.Proofs.YtfdcldjoncednaaGreatW.PrintWords Go.Proofs.YtfdcldjoncednaaGreatW.PrintLast Go.Proofs.YtfdcldjoncednaaGreat.M Go.Proofs.YtfdcldjoncednaaGreat.Cal Go.Proofs.YtfdcldjoncednaaGreat.FunA Go.Proofs.YtfdcldjoncednaaGreat.FunB Go.Proofs.YtfdcldjoncednaaGreat.FunC Go.Proofs.YtfdcldjoncednaaGreat.FunD Go.Proofs.YtfdcldjoncednaaGreat.FunI Go.Proofs.YtfdcldjoncednaaGreat.Ru Go.Proofs.YtfdcldjoncednaaGreat.MatD Go.Proofs.YtfdcldjoncednaaGreat.MatP Go.Proofs.YtfdcldjoncednaaGreat.MatF Go.Proofs.YtfdcldjoncednaaGreat.MatG Go.Proofs.YtfdcldjoncednaaGreat.MatS Go.Proofs.YtfdcldjoncednaaGreat.RefF Go.Proofs.YtfdcldjoncednaaGreat.RecG
set_option linter.unusedVariables false
set_option linter.unusedSimpArgs false
theorem i64 {a : Int} (h : -1000000000 ≤ a) (h' : a ≤ 1000000000) : I64 a := ⟨by omega, by omega⟩
/-- The day with which a day's week begins. -/
def wbg (d s : Int) : Int := d - (d - s) % 7
theorem wb_p (d s : Int) (hd : In d) (h0 : 0 ≤ s) (h6 : s ≤ 6) : match_weekBegin.f d s = some (wbg d s) := by
 obtain ⟨d1, d2⟩ := hd
 unfold match_weekBegin.f wbg
 rw [rWeekday d (i64 (by omega) (by omega)), Option.bind_some, w64 (by omega) (by omega), rMod _ 7 (by omega) (by omega) (i64 (by omega) (by omega)), Option.bind_some, show (d % 7 - s) % 7 = (d - s) % 7 by omega, w64 (by omega) (by omega)]
/-- What a formed rule is, as far as a day's fitting goes. -/
structure Frm (r : Ru) : Prop where
 f1 : 1 ≤ r.a0
 f4 : r.a0 ≤ 4
 i1 : 1 ≤ r.a1
 s0 : 0 ≤ r.a7
 s6 : r.a7 ≤ 6
 l11 : r.l11.length ≤ 40
 l12 : r.l12.length ≤ 40
 l13 : r.l13.length ≤ 40
 l14 : r.l14.length ≤ 40
 l15 : r.l15.length ≤ 40
 nw : r.a0 ≠ 4 → r.l14.length = 0
theorem dim_le (y m : Int) (h1 : 1 ≤ m) (h2 : m ≤ 12) : 28 ≤ dim (lp y) m ∧ dim (lp y) m ≤ 31 := dim_lo (lp y) m (lp_01 y) h1 h2
theorem both (r : Ru) (hs : r.a5.size ≤ 9223372036854775807) : ∃ rt : Bool, ∀ k, r.a5.size + 60 ≤ k → trystref12_RightTime.f k r.a3 r.a4 r.a5 = some rt ∧ FormOk k r (frmB r rt) := by
 obtain ⟨rt, h⟩ := Right.right_ r.a3 r.a4 r.a5 hs
 exact ⟨rt, fun k hk => ⟨(h k (by omega)).2, rt, by omega, (h k (by omega)).1, rfl⟩⟩
theorem frm_of {r : Ru} {rt : Bool} (h : frmB r rt = true) : Frm r := by
 unfold frmB at h
 simp only [Bool.and_eq_true] at h
 obtain ⟨h1, _, h3, _, h5⟩ := h
 unfold grd at h1
 simp only [Bool.and_eq_true, Bool.not_eq_true', decide_eq_false_iff_not] at h1
 have l40 : ∀ j, j < 8 → (LL r j).length ≤ 40 := fun j hj => ((RecM.formedF_iff _ _ _ _).1 (all8_at h3 j hj)).1
 have a3 := l40 3 (by omega); have a4 := l40 4 (by omega); have a5 := l40 5 (by omega); have a6 := l40 6 (by omega)
 unfold LL at a3 a4 a5 a6
 unfold last at h5
 simp only [Bool.and_eq_true, Bool.not_eq_true', Bool.or_eq_false_iff, Bool.and_eq_false_iff, decide_eq_false_iff_not] at h5
 refine ⟨by omega, by omega, by omega, by omega, by omega, by omega, a3, a4, a5, a6, fun n => ?_⟩
 rcases h5.1.1.1 with q | q
 ·exact absurd n (by simpa using q)
 ·omega
theorem wbg_bd (d s : Int) : d - 6 ≤ wbg d s ∧ wbg d s ≤ d ∧ (wbg d s - s) % 7 = 0 := by unfold wbg; omega
theorem nest {y m n q : Int} (y1 : 1 ≤ y) (y9 : y ≤ 9999) (m1 : 1 ≤ m) (m2 : m ≤ 12) (n1 : -4000000 ≤ n) (n2 : n ≤ 4000000) (hq : 12 * y + m - 1 + n = q) :
  wrap64 (12 * y) = 12 * y ∧ wrap64 (12 * y + m) = 12 * y + m ∧ wrap64 (12 * y + m - 1) = 12 * y + m - 1 ∧ wrap64 (12 * y + m - 1 + n) = q ∧ I64 q := by
 refine ⟨w64 (by omega) (by omega), w64 (by omega) (by omega), w64 (by omega) (by omega), ?_, ⟨by omega, by omega⟩⟩
 rw [w64 (by omega) (by omega)]; exact hq
theorem month_in (k : Nat) (hk : 20 ≤ k) (y m dd n q : Int) (y1 : 1 ≤ y) (y9 : y ≤ 9999) (m1 : 1 ≤ m) (m2 : m ≤ 12) (n1 : -4000000 ≤ n) (n2 : n ≤ 4000000) (hq : 12 * y + m - 1 + n = q) (h1 : 1 ≤ q / 12) (h2 : q / 12 ≤ 9999) :
  match_month.f k y m dd n = some (ah (q / 12) + cum (lp (q / 12)) (q % 12 + 1) + 1, ah (q / 12) + cum (lp (q / 12)) (q % 12 + 1) + 1 + dim (lp (q / 12)) (q % 12 + 1) - 1) := by
 obtain ⟨e1, e2, e3, e4, iq⟩ := nest y1 y9 m1 m2 n1 n2 hq
 have ab := ah_bd (q / 12) (by omega) (by omega)
 have cb := cum_bd (l := lp (q / 12)) (m := q % 12 + 1) (lp_01 _) (by omega) (by omega)
 have db := dim_le (q / 12) (q % 12 + 1) (by omega) (by omega)
 unfold match_month.f
 rw [e1, e2, e3, e4, rFloor q 12 (by omega) iq, Option.bind_some, rMod q 12 (by omega) (by omega) iq, Option.bind_some, if_neg (by omega), w64 (x := q % 12 + 1) (by omega) (by omega), decide_eq_false (by omega)]
 obtain ⟨k, rfl⟩ : ∃ j, k = j + 1 := ⟨k - 1, by omega⟩
 simp only [match_month.j0]
 rw [if_neg (by simp), rDay_yes k (by omega) (q / 12) (q % 12 + 1) 1 ⟨h1, h2, by omega, by omega⟩, Option.bind_some, rLength k (by omega), Option.bind_some]
 simp only []
 rw [w64 (x := ah (q / 12) + cum (lp (q / 12)) (q % 12 + 1) + 1 + dim (lp (q / 12)) (q % 12 + 1)) (by omega) (by omega), w64 (by omega) (by omega)]
theorem month_out (k : Nat) (hk : 20 ≤ k) (y m dd n q : Int) (y1 : 1 ≤ y) (y9 : y ≤ 9999) (m1 : 1 ≤ m) (m2 : m ≤ 12) (n1 : -4000000 ≤ n) (n2 : n ≤ 4000000) (hq : 12 * y + m - 1 + n = q) (h : ¬ (1 ≤ q / 12 ∧ q / 12 ≤ 9999)) :
  match_month.f k y m dd n = some (0, -1) := by
 obtain ⟨e1, e2, e3, e4, iq⟩ := nest y1 y9 m1 m2 n1 n2 hq
 unfold match_month.f
 rw [e1, e2, e3, e4, rFloor q 12 (by omega) iq, Option.bind_some, rMod q 12 (by omega) (by omega) iq, Option.bind_some, w64 (x := q % 12 + 1) (by omega) (by omega)]
 obtain ⟨k, rfl⟩ : ∃ j, k = j + 1 := ⟨k - 1, by omega⟩
 by_cases c : q / 12 < 1
 ·rw [if_pos c]; simp only [match_month.j0]; rw [if_pos trivial]
 ·rw [if_neg c, decide_eq_true (by omega)]; simp only [match_month.j0]; rw [if_pos trivial]
theorem cont0 (l : List Int) (a : Int) (hl : l.length ≤ 1000) : ∀ (j i : Nat), j + i = l.length → ∃ b : Int, ∀ k, j + 1 ≤ k → slices_Index_int_int.l0 k l a (l.length : Int) (i : Int) = some b := by
 intro j
 induction j with
 | zero =>
  intro i hj
  refine ⟨-1, fun k hk => ?_⟩
  obtain ⟨k, rfl⟩ : ∃ m, k = m + 1 := ⟨k - 1, by omega⟩
  simp only [slices_Index_int_int.l0]
  rw [if_neg (by omega)]
 | succ j ih =>
  intro i hj
  obtain ⟨b, hb⟩ := ih (i + 1) (by omega)
  by_cases e : a = rd l (i : Int)
  ·refine ⟨(i : Int), fun k hk => ?_⟩
   obtain ⟨k, rfl⟩ : ∃ m, k = m + 1 := ⟨k - 1, by omega⟩
   simp only [slices_Index_int_int.l0]
   rw [if_pos (by omega), if_pos (by omega), if_pos (by omega), if_pos e]
  ·refine ⟨b, fun k hk => ?_⟩
   obtain ⟨k, rfl⟩ : ∃ m, k = m + 1 := ⟨k - 1, by omega⟩
   simp only [slices_Index_int_int.l0]
   rw [if_pos (by omega), if_pos (by omega), if_pos (by omega), if_neg e, w64 (by omega) (by omega), show (i : Int) + 1 = ((i + 1 : Nat) : Int) by omega]
   exact hb k (by omega)
theorem cont_ (l : List Int) (a : Int) (hl : l.length ≤ 1000) : ∃ b, ∀ k, l.length + 1 ≤ k → slices_Contains_int_int.f k l a = some b := by
 obtain ⟨i, h⟩ := cont0 l a hl l.length 0 (by omega)
 refine ⟨decide (i ≥ 0), fun k hk => ?_⟩
 unfold slices_Contains_int_int.f slices_Index_int_int.f
 have := h k hk
 simp only [Int.natCast_zero] at this
 rw [this]; rfl
theorem place_ (l : List Int) (n o : Int) (hl : l.length ≤ 1000) : ∃ b, ∀ k, l.length + 1 ≤ k → match_place_in.f k n o l = some b := by
 obtain ⟨a, ha⟩ := cont_ l n hl
 obtain ⟨c, hc⟩ := cont_ l (wrap64 (wrap64 (n - o) - 1)) hl
 cases a with
 | true => exact ⟨true, fun k hk => by unfold match_place_in.f; rw [ha k hk]; rfl⟩
 | false => exact ⟨c, fun k hk => by unfold match_place_in.f; rw [ha k hk, Option.bind_some, if_neg (by simp), hc k hk]; rfl⟩
/-- A day's date by the program. -/
theorem dateP (k : Nat) (hk : 130 ≤ k) (d : Int) (hd : In d) : ∃ y m dd, 1 ≤ y ∧ y ≤ 9999 ∧ Is ah lp y m dd d ∧ rata_Date.f k d = some (y, m, dd, 0) ∧
  match_of.f k d = some (d, y, m, dd, d % 7, dd, dim (lp y) m, d - ah y, 365 + lp y) := by
 obtain ⟨m, dd, e1, i1⟩ := rDate_yes k (by omega) d hd
 have hy := yr_In hd
 refine ⟨yr d, m, dd, hy.1, hy.2, i1, e1, ?_⟩
 unfold match_of.f
 rw [e1, Option.bind_some, rInYear_yes d hd, Option.bind_some, rLeap, Option.bind_some, rWeekday d (i64 (by have := hd.1; omega) (by have := hd.2; omega)), rLength k (by omega)]
 rcases lp_01 (yr d) with h | h
 ·rw [h]; rfl
 ·rw [h]; rfl
/-- What a day is. -/
def fa_of (d y m dd : Int) : Fa := ⟨d, y, m, dd, d % 7, dd, dim (lp y) m, d - ah y, 365 + lp y⟩
/-- Of every day it is told whether it fits. -/
theorem fitsEx (r : Ru) (f : Frm r) (k : Nat) (hk : 130 ≤ k) (B : Fa) (hB : In B.day) (d : Int) (hd : In d) : ∃ X v, dayOf k d X ∧ FitsOk k r B X v := by
 obtain ⟨y, m, dd, y1, y9, iy, _, ey⟩ := dateP k hk d hd
 have m1 := iy.m1; have m2 := iy.m2; have d1 := iy.d1; have d2 := iy.d2; have he := iy.e
 have dl := dim_le y m m1 m2
 have cb := cum_bd (l := lp y) (m := m) (lp_01 y) m1 (by omega)
 have ce := cum_le (l := lp y) (a := m + 1) (b := 13) (lp_01 y) (by omega) (by omega) (by omega)
 rw [cum_end, cum_succ _ _ m1 m2] at ce
 have hl := lp_01 y
 have ab := ah_bd y (by omega) (by omega)
 have l12 := f.l12; have l13 := f.l13; have l14 := f.l14; have l15 := f.l15
 have hs : Wday r.a7 := ⟨f.s0, f.s6⟩
 obtain ⟨z, z0, z1, hz, hz', e⟩ := iWeek_yes k (by omega) d r.a7 hd hs
 obtain ⟨hm, e3⟩ := cont_ r.l15 m (by omega)
 obtain ⟨b13, e13⟩ := place_ r.l13 (d - ah y) (365 + lp y) (by omega)
 obtain ⟨b12, e12⟩ := place_ r.l12 dd (dim (lp y) m) (by omega)
 obtain ⟨b14, e14⟩ := place_ r.l14 ((d - wk z r.a7) / 7 + 1) ((wk (z + 1) r.a7 - wk z r.a7) / 7) (by omega)
 exact ⟨fa_of d y m dd, _, ey, wbg d r.a7, wbg B.day r.a7, z, _, 0, _, 0, hm, b14, b13, b12, f.i1, wb_p d r.a7 hd f.s0 f.s6, wb_p B.day r.a7 hB f.s0 f.s6, e3 k (by omega), e, fun q => iWeeks_yes k (by omega) z r.a7 (by omega) (by have h : z = y := q; omega) hs, e14 k (by omega), e13 k (by omega), e12 k (by omega), ⟨d1, d2, by show dim (lp y) m ≤ 400; omega⟩, ⟨by show 1 ≤ d - ah y; omega, by show d - ah y ≤ 365 + lp y; omega, by show 365 + lp y ≤ 400; omega⟩, ⟨f.l13, f.l12, f.l11⟩, rfl⟩
/-- A period's first and last day, ahead of the bounds. -/
theorem rawP (k : Nat) (hk : 130 ≤ k) (r : Ru) (f : Frm r) (b : Int) (hb : In b) (y m dd : Int) (y1 : 1 ≤ y) (y9 : y ≤ 9999) (ib : Is ah lp y m dd b) (n : Int) (n1 : -4000000 ≤ n) (n2 : n ≤ 4000000) :
  ∃ r1 r2, SpanOk k r b n y m dd r1 r2 := by
 have f1 := f.f1; have f4 := f.f4
 have hb1 := hb.1; have hb2 := hb.2
 have m1 := ib.m1; have m2 := ib.m2
 by_cases c1 : r.a0 = 1
 ·exact ⟨_, _, .day c1⟩
 by_cases c2 : r.a0 = 2
 ·have u := wbg_bd b r.a7
  exact ⟨_, _, .week (wbg b r.a7) c2 (wb_p b r.a7 hb f.s0 f.s6) (by omega) (by omega)⟩
 by_cases c3 : r.a0 = 3
 ·obtain ⟨q, hq⟩ : ∃ q, 12 * y + m - 1 + n = q := ⟨_, rfl⟩
  by_cases g : 1 ≤ q / 12 ∧ q / 12 ≤ 9999
  ·exact ⟨_, _, .month _ _ c3 (month_in k (by omega) y m dd n q y1 y9 m1 m2 n1 n2 hq g.1 g.2)⟩
  ·exact ⟨_, _, .month _ _ c3 (month_out k (by omega) y m dd n q y1 y9 m1 m2 n1 n2 hq g)⟩
 have c4 : r.a0 = 4 := by omega
 by_cases g : 1 ≤ y + n ∧ y + n ≤ 9999
 ·have am := ah_le (show (1 : Int) ≤ y + n + 1 by omega)
  have am2 := ah_le (show y + n + 1 ≤ 10000 by omega)
  have a0 : ah 1 = 0 := by decide
  have a1 : ah 10000 = 3652059 := by decide
  exact ⟨_, _, .year _ _ c4 g.1 g.2 (rBegins _ (by omega) (by omega)) (rBegins _ (by omega) (by omega)) (by omega) (by omega)⟩
 ·exact ⟨_, _, .none c4 g⟩
theorem ask_one {b : Int} (hb : In b) : askF true [b] = 0 := by
 unfold askF; rw [if_pos rfl]
 have : isDay b = true := by unfold isDay; rw [decide_eq_true hb.1, decide_eq_true hb.2]; rfl
 simp [this]
/-- What Span tells, of every number. -/
theorem spanEx (k : Nat) (hk : 130 ≤ k) (r : Ru) (f : Frm r) (b : Int) (hb : In b) (n : Int) : ∃ g l e, SpOk k r true b n g l e ∧ (e = 0 → 1 ≤ g ∧ g ≤ l ∧ l ≤ 3652059 ∧ n ≤ 3652059) := by
 by_cases c : n > 3652059 ∨ n < -3652059
 ·exact ⟨0, 0, 2, .far (ask_one hb) c, fun h => by omega⟩
 obtain ⟨y, m, dd, y1, y9, iy, e1, _⟩ := dateP k hk b hb
 obtain ⟨r1, r2, hS⟩ := rawP k hk r f b hb y m dd y1 y9 iy n (by omega) (by omega)
 obtain ⟨f0, hf0⟩ : ∃ f0, (if r1 < 1 then 1 else r1) = f0 := ⟨_, rfl⟩
 obtain ⟨l0, hl0⟩ : ∃ l0, (if 3652059 < r2 then 3652059 else r2) = l0 := ⟨_, rfl⟩
 by_cases g : f0 > l0
 ·exact ⟨0, 0, 2, .none y m dd 0 r1 r2 f0 l0 (ask_one hb) hS e1 hb.1 hb.2 (by omega) (by omega) y1 y9 hf0 hl0 g, fun h => by omega⟩
 ·exact ⟨f0, l0, 0, .ok y m dd 0 r1 r2 f0 l0 (ask_one hb) hS e1 hb.1 hb.2 (by omega) (by omega) y1 y9 hf0 hl0 g, fun _ => by split at hf0 <;> split at hl0 <;> omega⟩
end Go.Proofs.YtfdcldjoncednaaGreat.PureE
/- What a formed rule means: the contracts of expand put together. -/
namespace Go.Proofs.YtfdcldjoncednaaGreat.ExB
open Go.RowKit Go.Proofs.YtfdcldjoncednaaGreatW.PrintWords Go.Proofs.YtfdcldjoncednaaGreatW.PrintLast Go.Proofs.YtfdcldjoncednaaGreat.M Go.Proofs.YtfdcldjoncednaaGreat.Cal Go.Proofs.YtfdcldjoncednaaGreat.FunA Go.Proofs.YtfdcldjoncednaaGreat.FunB Go.Proofs.YtfdcldjoncednaaGreat.Ru Go.Proofs.YtfdcldjoncednaaGreat.MatD Go.Proofs.YtfdcldjoncednaaGreat.MatP Go.Proofs.YtfdcldjoncednaaGreat.MatF Go.Proofs.YtfdcldjoncednaaGreat.MatG Go.Proofs.YtfdcldjoncednaaGreat.MatS Go.Proofs.YtfdcldjoncednaaGreat.RefF Go.Proofs.YtfdcldjoncednaaGreat.RecG Go.Proofs.YtfdcldjoncednaaGreat.ExD Go.Proofs.YtfdcldjoncednaaGreat.ExO Go.Proofs.YtfdcldjoncednaaGreat.ExS Go.Proofs.YtfdcldjoncednaaGreat.ExT Go.Proofs.YtfdcldjoncednaaGreat.ExE Go.Proofs.YtfdcldjoncednaaGreat.ExI Go.Proofs.YtfdcldjoncednaaGreat.ExU Go.Proofs.YtfdcldjoncednaaGreat.PureE
set_option linter.unusedVariables false
set_option linter.unusedSimpArgs false
/-- Numbers in their bounds, rising. -/
structure Nums (lo hi : Int) (l : List Int) : Prop where
 len : l.length ≤ 40
 ge : ∀ j : Nat, j < l.length → lo ≤ rd l (j : Int)
 le : ∀ j : Nat, j < l.length → rd l (j : Int) ≤ hi
 up : ∀ j : Nat, j + 1 < l.length → rd l (j : Int) < rd l ((j + 1 : Nat) : Int)
theorem nums_of {lo hi : Int} {z : Bool} {l : List Int} (h : RecM.formedF lo hi z l = true) : Nums lo hi l := by
 obtain ⟨h1, h2⟩ := (RecM.formedF_iff _ _ _ _).1 h
 have m : ∀ j : Nat, j < l.length → lo ≤ rd l (j : Int) ∧ rd l (j : Int) ≤ hi := fun j hj => by
  have := (h2 j hj).1
  unfold RecM.mayF at this
  simp only [Bool.and_eq_true, decide_eq_true_eq] at this
  exact this.1
 exact ⟨h1, fun j hj => (m j hj).1, fun j hj => (m j hj).2, fun j hj => (h2 (j + 1) hj).2 (by omega)⟩
/-- What a formed rule is, as far as its times go. -/
structure Full (r : Ru) : Prop where
 f : Frm r
 i2 : r.a1 ≤ 1000
 c0 : 0 ≤ r.a2
 c1 : r.a2 ≤ 1000
 l8 : Nums 0 59 r.l8
 l9 : Nums 0 59 r.l9
 l10 : Nums 0 23 r.l10
 l16 : r.l16.length ≤ 40
theorem full_of {r : Ru} {rt : Bool} (h : frmB r rt = true) : Full r := by
 have f := frm_of h
 unfold frmB at h
 simp only [Bool.and_eq_true] at h
 obtain ⟨h1, _, h3, _, h5⟩ := h
 unfold grd at h1
 simp only [Bool.and_eq_true, Bool.not_eq_true', decide_eq_false_iff_not] at h1
 have q0 : Nums 0 59 r.l8 := nums_of (z := false) (by have := all8_at h3 0 (by omega); unfold formL lo RefF.hi nz LL at this; exact this)
 have q1 : Nums 0 59 r.l9 := nums_of (z := false) (by have := all8_at h3 1 (by omega); unfold formL lo RefF.hi nz LL at this; exact this)
 have q2 : Nums 0 23 r.l10 := nums_of (z := false) (by have := all8_at h3 2 (by omega); unfold formL lo RefF.hi nz LL at this; exact this)
 have q7 : r.l16.length ≤ 40 := by have := ((RecM.formedF_iff _ _ _ _).1 (all8_at h3 7 (by omega))).1; unfold LL at this; exact this
 exact ⟨f, by omega, by omega, by omega, q0, q1, q2, q7⟩
theorem orL_len (l : List Int) (n : Int) (h : l.length ≤ 40) : (orL l n).length ≤ 40 ∧ 1 ≤ (orL l n).length := by
 unfold orL; split
 ·simp
 ·omega
/-- A minute's seconds. -/
def rowS (h m : Int) (S : List Int) : Nat → List Int
 | 0 => []
 | q + 1 => rowS h m S q ++ [secV h m (rd S (q : Int))]
/-- An hour's. -/
def blkM (h : Int) (M S : List Int) : Nat → List Int
 | 0 => []
 | j + 1 => blkM h M S j ++ rowS h (rd M (j : Int)) S S.length
/-- A day's. -/
def allH (H M S : List Int) : Nat → List Int
 | 0 => []
 | i + 1 => allH H M S i ++ blkM (rd H (i : Int)) M S M.length
theorem rowS_len (h m : Int) (S : List Int) : ∀ q, (rowS h m S q).length = q
 | 0 => rfl
 | q + 1 => by rw [rowS, List.length_append, rowS_len h m S q]; rfl
theorem blkM_len (h : Int) (M S : List Int) (hS : S.length ≤ 40) : ∀ j, (blkM h M S j).length ≤ 40 * j
 | 0 => by simp [blkM]
 | j + 1 => by have := blkM_len h M S hS j; rw [blkM, List.length_append, rowS_len]; omega
theorem allH_len (H M S : List Int) (hM : M.length ≤ 40) (hS : S.length ≤ 40) : ∀ i, (allH H M S i).length ≤ 1600 * i
 | 0 => by simp [allH]
 | i + 1 => by have := allH_len H M S hM hS i; have := blkM_len (rd H (i : Int)) M S hS M.length; rw [allH, List.length_append]; omega
/-- A rule's seconds of a day, s its begin's. -/
def secL (r : Ru) (s : Int) : List Int := allH (orL r.l10 (s / 3600)) (orL r.l9 (s / 60 % 60)) (orL r.l8 (s % 60)) (orL r.l10 (s / 3600)).length
theorem secL_len {r : Ru} (f : Full r) (s : Int) : (secL r s).length ≤ 64000 := by
 have a := (orL_len r.l10 (s / 3600) f.l10.len).1
 have := allH_len (orL r.l10 (s / 3600)) (orL r.l9 (s / 60 % 60)) (orL r.l8 (s % 60)) (orL_len _ _ f.l9.len).1 (orL_len _ _ f.l8.len).1 (orL r.l10 (s / 3600)).length
 unfold secL; omega
theorem secC (r : Ru) (p : Rp) (f : Full r) (b s : Int) (hs : clock_Second.f b = some s) (h0 : 0 ≤ s) (h1 : s < 86400) : SecC r p b (secL r s) := by
 intro w ok
 have q1 : wrap64 (Int.tdiv s 3600) = s / 3600 := by rw [Int.tdiv_eq_ediv_of_nonneg h0, w64 (by omega) (by omega)]
 have q2 : wrap64 (Int.tdiv s 60) = s / 60 := by rw [Int.tdiv_eq_ediv_of_nonneg h0, w64 (by omega) (by omega)]
 have lM := (orL_len r.l9 (s / 60 % 60) f.l9.len).1
 have lS := (orL_len r.l8 (s % 60) f.l8.len).1
 have lH := (orL_len r.l10 (s / 3600) f.l10.len).1
 obtain ⟨H, hH⟩ : ∃ H, orL r.l10 (s / 3600) = H := ⟨_, rfl⟩
 obtain ⟨M, hM⟩ : ∃ M, orL r.l9 (s / 60 % 60) = M := ⟨_, rfl⟩
 obtain ⟨S, hS⟩ : ∃ S, orL r.l8 (s % 60) = S := ⟨_, rfl⟩
 have e : secL r s = allH H M S H.length := by unfold secL; rw [hH, hM, hS]
 rw [hM] at lM; rw [hS] at lS; rw [hH] at lH
 rw [e]
 exact seconds r p b s (s / 3600) (s / 60) (s / 60 % 60) (s % 60) H M S (allH H M S) (fun i j => allH H M S i ++ blkM (rd H (i : Int)) M S j) (fun i j q => allH H M S i ++ blkM (rd H (i : Int)) M S j ++ rowS (rd H (i : Int)) (rd M (j : Int)) S q) w ok hs q1 q2 (Int.tmod_eq_emod_of_nonneg (by omega)) (Int.tmod_eq_emod_of_nonneg h0) hH hM hS ⟨by omega, by omega, by omega⟩ rfl (fun i => by simp [blkM]) (fun i j => by simp [rowS]) (fun i j q => by simp [rowS]) (fun i j => by simp [blkM]) (fun i => by simp [allH]) (fun i j q hi hj hq => by
  have a := allH_len H M S lM lS i; have b := blkM_len (rd H (i : Int)) M S lS j; have c := rowS_len (rd H (i : Int)) (rd M (j : Int)) S q
  simp only [List.length_append]; omega)
/-- The days from f on that fit, of so many. -/
def dayG (fit : Int → Bool) (f : Int) : Nat → List Int
 | 0 => []
 | i + 1 => if fit (f + i) = true then dayG fit f i ++ [f + i] else dayG fit f i
theorem dayG_len (fit : Int → Bool) (f : Int) : ∀ i, (dayG fit f i).length ≤ i
 | 0 => Nat.le_refl _
 | i + 1 => by have := dayG_len fit f i; unfold dayG; split <;> simp <;> omega
def daysL (fit : Int → Bool) (f l : Int) : List Int := dayG fit f (l + 1 - f).toNat
theorem daysC (r : Ru) (p : Rp) (k : Nat) (b : Int) (B : Fa) (fit : Int → Bool) (hB : dayOf k b B) (hf : ∀ d, In d → ∃ X, dayOf k d X ∧ FitsOk k r B X (fit d)) (f l : Int) (f1 : 1 ≤ f) (fl : f ≤ l) (l2 : l ≤ 3652059) : DaysC r p b f l (daysL fit f l) := fun w ok =>
 days k r p b f l B (l + 1 - f).toNat (dayG fit f) fit w ok hB (fun x h1 h2 => hf x ⟨by omega, by omega⟩) (Or.inl (by omega)) (by omega) (by omega) rfl (fun i => rfl) (dayG_len fit f) (by omega)
/-- A day's times. -/
def dayT (d : Int) (D : List Int) : Nat → List Int
 | 0 => []
 | j + 1 => dayT d D j ++ [timV d (rd D (j : Int))]
/-- All of a period's. -/
def allT (L D : List Int) : Nat → List Int
 | 0 => []
 | i + 1 => allT L D i ++ dayT (rd L (i : Int)) D D.length
theorem dayT_len (d : Int) (D : List Int) : ∀ j, (dayT d D j).length = j
 | 0 => rfl
 | j + 1 => by rw [dayT, List.length_append, dayT_len d D j]; rfl
theorem allT_len (L D : List Int) (h : D.length ≤ 64000) : ∀ i, (allT L D i).length ≤ 64000 * i
 | 0 => by simp [allT]
 | i + 1 => by have := allT_len L D h i; rw [allT, List.length_append, dayT_len]; omega
/-- Those whose places are chosen. -/
def selG (sel : Nat → Bool) (T : List Int) : Nat → List Int
 | 0 => []
 | i + 1 => if sel i = true then selG sel T i ++ [rd T (i : Int)] else selG sel T i
theorem selG_len (sel : Nat → Bool) (T : List Int) : ∀ i, (selG sel T i).length ≤ i
 | 0 => Nat.le_refl _
 | i + 1 => by have := selG_len sel T i; unfold selG; split <;> simp <;> omega
def selP (ps T : List Int) (i : Nat) : Bool := decide ((i : Int) + 1 ∈ ps) || decide ((i : Int) - (T.length : Int) ∈ ps)
def choT (ps T : List Int) : List Int := choL ps T (selG (selP ps T) T T.length)
theorem rd_drop (l : List Int) {i : Nat} (h : i < l.length) : l.drop i = rd l (i : Int) :: l.drop (i + 1) := by
 rw [List.drop_eq_getElem_cons h, rd_get l h]
theorem idx0 (l : List Int) (a : Int) (hl : l.length ≤ 1000) : ∀ (j i : Nat), j + i = l.length → ∃ z : Int, (z ≥ 0 ↔ a ∈ l.drop i) ∧ ∀ k, j + 1 ≤ k → slices_Index_int_int.l0 k l a (l.length : Int) (i : Int) = some z := by
 intro j
 induction j with
 | zero =>
  intro i hj
  refine ⟨-1, ⟨fun h => by omega, fun h => ?_⟩, fun k hk => ?_⟩
  ·rw [List.drop_of_length_le (by omega)] at h; cases h
  ·obtain ⟨k, rfl⟩ : ∃ m, k = m + 1 := ⟨k - 1, by omega⟩
   simp only [slices_Index_int_int.l0]
   rw [if_neg (by omega)]
 | succ j ih =>
  intro i hj
  obtain ⟨b, hb, hk⟩ := ih (i + 1) (by omega)
  have dr := rd_drop l (i := i) (by omega)
  by_cases e : a = rd l (i : Int)
  ·refine ⟨(i : Int), ⟨fun _ => by rw [dr, ← e]; exact List.mem_cons_self, fun _ => by omega⟩, fun k hk => ?_⟩
   obtain ⟨k, rfl⟩ : ∃ m, k = m + 1 := ⟨k - 1, by omega⟩
   simp only [slices_Index_int_int.l0]
   rw [if_pos (by omega), if_pos (by omega), if_pos (by omega), if_pos e]
  ·refine ⟨b, ⟨fun h => by rw [dr]; exact List.mem_cons_of_mem _ (hb.1 h), fun h => ?_⟩, fun k hk' => ?_⟩
   ·rw [dr] at h
    rcases List.mem_cons.1 h with q | q
    ·exact absurd q e
    ·exact hb.2 q
   ·obtain ⟨k, rfl⟩ : ∃ m, k = m + 1 := ⟨k - 1, by omega⟩
    simp only [slices_Index_int_int.l0]
    rw [if_pos (by omega), if_pos (by omega), if_pos (by omega), if_neg e, w64 (by omega) (by omega), show (i : Int) + 1 = ((i + 1 : Nat) : Int) by omega]
    exact hk k (by omega)
theorem cont_eq (l : List Int) (a : Int) (hl : l.length ≤ 1000) (k : Nat) (hk : l.length + 1 ≤ k) : slices_Contains_int_int.f k l a = some (decide (a ∈ l)) := by
 obtain ⟨z, h1, h2⟩ := idx0 l a hl l.length 0 (by omega)
 have := h2 k hk
 unfold slices_Contains_int_int.f slices_Index_int_int.f
 simp only [Int.natCast_zero] at this
 rw [this, Option.bind_some]
 rw [List.drop_zero] at h1
 by_cases c : a ∈ l
 ·rw [decide_eq_true (h1.2 c), decide_eq_true c]
 ·rw [decide_eq_false (fun q => c (h1.1 q)), decide_eq_false c]
theorem selOk (ps T : List Int) (h : ps.length ≤ 40) : SelOk 1000 T ps (selP ps T) := fun i hi =>
 ⟨_, _, cont_eq ps _ (by omega) 1000 (by omega), cont_eq ps _ (by omega) 1000 (by omega), rfl⟩
/-- A period's times. -/
def timL (r : Ru) (sf sl se : Int → Int) (fit : Int → Bool) (s n : Int) : List Int :=
 if n < 0 then [] else if Int.tmod n r.a1 ≠ 0 then [] else if se n ≠ 0 then [] else
  choT r.l16 (allT (daysL fit (sf n) (sl n)) (secL r s) (daysL fit (sf n) (sl n)).length)
theorem choT_len (ps T : List Int) : (choT ps T).length ≤ T.length := by
 unfold choT choL; split
 ·exact Nat.le_refl _
 ·exact selG_len _ _ _
/-- What is told of a formed rule and a right begin. -/
structure Has (r : Ru) (b dy s : Int) (B : Fa) (sf sl se : Int → Int) (fit : Int → Bool) (k : Nat) : Prop where
 full : Full r
 day : clock_Day.f b = some dy
 sec : clock_Second.f b = some s
 s0 : 0 ≤ s
 s1 : s < 86400
 din : In dy
 bt : b = 86400 * dy + s
 bd : dayOf k dy B
 bday : B.day = dy
 form : FormOk k r true
 sp : ∀ n, SpOk k r true dy n (sf n) (sl n) (se n)
 ok : ∀ n, se n = 0 → 1 ≤ sf n ∧ sf n ≤ sl n ∧ sl n ≤ 3652059 ∧ n ≤ 3652059
 ft : ∀ d, In d → ∃ X, dayOf k d X ∧ FitsOk k r B X (fit d)
theorem Has.tim_len {r : Ru} {b dy s : Int} {B : Fa} {sf sl se : Int → Int} {fit : Int → Bool} {k : Nat} (h : Has r b dy s B sf sl se fit k) (n : Int) : (timL r sf sl se fit s n).length ≤ 17000000000000 := by
 unfold timL
 split; · simp
 split; · simp
 split; · simp
 rename_i e
 obtain ⟨q1, q2, q3, q4⟩ := h.ok n (by omega)
 have a := choT_len r.l16 (allT (daysL fit (sf n) (sl n)) (secL r s) (daysL fit (sf n) (sl n)).length)
 have c := allT_len (daysL fit (sf n) (sl n)) (secL r s) (secL_len h.full s) (daysL fit (sf n) (sl n)).length
 have d := dayG_len fit (sf n) (sl n + 1 - sf n).toNat
 unfold daysL at *
 omega
theorem Has.span {r : Ru} {b dy s : Int} {B : Fa} {sf sl se : Int → Int} {fit : Int → Bool} {k : Nat} (h : Has r b dy s B sf sl se fit k) (p : Rp) (n : Int) : SpanC r p dy n (sf n) (sl n) (se n) := fun w ok =>
 Span k r p true dy n (sf n) (sl n) (se n) w ok h.form (h.sp n)
theorem Has.tim {r : Ru} {b dy s : Int} {B : Fa} {sf sl se : Int → Int} {fit : Int → Bool} {k : Nat} (h : Has r b dy s B sf sl se fit k) (p : Rp) (n : Int) : TimC r p b n (timL r sf sl se fit s n) := by
 intro w ok
 have i1 := h.full.f.i1
 unfold timL
 by_cases c : n < 0
 ·rw [if_pos c]; exact neg r p b n c w ok
 rw [if_neg c]
 by_cases c2 : Int.tmod n r.a1 ≠ 0
 ·rw [if_pos c2]; exact rem r p b n c i1 _ rfl c2 w ok
 rw [if_neg c2]
 have c2' : Int.tmod n r.a1 = 0 := Decidable.not_not.1 c2
 by_cases c3 : se n ≠ 0
 ·rw [if_pos c3]; exact err r p b n c i1 _ rfl c2' dy _ _ _ h.day (h.span p n) c3 w ok
 rw [if_neg c3]
 have c3' : se n = 0 := Decidable.not_not.1 c3
 obtain ⟨q1, q2, q3, q4⟩ := h.ok n c3'
 have dl : (daysL fit (sf n) (sl n)).length ≤ 3652059 := by have := dayG_len fit (sf n) (sl n + 1 - sf n).toNat; unfold daysL; omega
 have sl_ := secL_len h.full s
 have hD := daysC r p k dy B fit h.bd h.ft (sf n) (sl n) q1 q2 q3
 have hS := secC r p h.full b s h.sec h.s0 h.s1
 generalize daysL fit (sf n) (sl n) = L at dl hD ⊢
 generalize secL r s = D at sl_ hS ⊢
 have tl : ∀ i, i ≤ L.length → (allT L D i).length ≤ 64000 * 3652059 := fun i hi => by have := allT_len L D sl_ i; omega
 exact times r p b n c i1 _ rfl c2' dy _ _ _ h.day (h.span p n) c3' D L hS hD (allT L D) (fun i j => allT L D i ++ dayT (rd L (i : Int)) D j) rfl (fun i => by simp [dayT]) (fun i j => by simp [dayT]) (fun i => by simp [allT]) ⟨by omega, by omega⟩
  (fun i j hi hj => by have := tl i (by omega); have := dayT_len (rd L (i : Int)) D j; simp only [List.length_append]; omega) (allT L D L.length) rfl 1000 (selP r.l16 (allT L D L.length)) (selG (selP r.l16 (allT L D L.length)) (allT L D L.length)) (fun _ => selOk _ _ h.full.l16) (by have := tl L.length (Nat.le_refl _); omega) rfl (fun i => rfl) (selG_len _ _) w ok
/-- Of every formed rule and right begin it is told. -/
theorem has_ (r : Ru) (rt : Bool) (k : Nat) (hk : 130 ≤ k) (hf : frmB r rt = true) (fo : FormOk k r true) (b : Int) (b0 : 86400 ≤ b) (b1 : b < 315537984000) : ∃ B sf sl se fit, Has r b (b / 86400) (b % 86400) B sf sl se fit k := by
 have full := full_of hf
 have din : In (b / 86400) := ⟨by omega, by omega⟩
 have hr : clock_Right.f b = some true := by rw [Right.cRight, decide_eq_true b0, decide_eq_true b1]; rfl
 have hd : clock_Day.f b = some (b / 86400) := by unfold clock_Day.f; rw [hr]; simp [Right.cSplit (show 0 ≤ b by omega) (show b ≤ 9223372036854775807 by omega)]
 have hs : clock_Second.f b = some (b % 86400) := by unfold clock_Second.f; rw [hr]; simp [Right.cSplit (show 0 ≤ b by omega) (show b ≤ 9223372036854775807 by omega)]
 obtain ⟨y, m, dd, _, _, iy, _, ey⟩ := dateP k hk _ din
 have bd : dayOf k (b / 86400) (fa_of (b / 86400) y m dd) := ey
 have e1 : ∀ n, ∃ q : Int × Int × Int, SpOk k r true (b / 86400) n q.1 q.2.1 q.2.2 ∧ (q.2.2 = 0 → 1 ≤ q.1 ∧ q.1 ≤ q.2.1 ∧ q.2.1 ≤ 3652059 ∧ n ≤ 3652059) := fun n => by
  obtain ⟨g, l, e, h1, h2⟩ := spanEx k hk r full.f _ din n
  exact ⟨(g, l, e), h1, h2⟩
 obtain ⟨sp, hsp⟩ := Classical.axiomOfChoice e1
 have e2 : ∀ d, ∃ v : Bool, In d → ∃ X, dayOf k d X ∧ FitsOk k r (fa_of (b / 86400) y m dd) X v := fun d => by
  by_cases c : In d
  ·obtain ⟨X, v, h⟩ := fitsEx r full.f k hk (fa_of (b / 86400) y m dd) din d c
   exact ⟨v, fun _ => ⟨X, h⟩⟩
  ·exact ⟨true, fun q => absurd q c⟩
 obtain ⟨fit, hfit⟩ := Classical.axiomOfChoice e2
 exact ⟨fa_of (b / 86400) y m dd, fun n => (sp n).1, fun n => (sp n).2.1, fun n => (sp n).2.2, fit, full, hd, hs, by omega, by omega, din, by omega, bd, rfl, fo, fun n => (hsp n).1, fun n => (hsp n).2, hfit⟩
/-- It ends. -/
theorem ends {r : Ru} {b dy s : Int} {B : Fa} {sf sl se : Int → Int} {fit : Int → Bool} {k : Nat} (h : Has r b dy s B sf sl se fit k) (last : Int) (tm : Int → List Int) : ∀ (m : Nat) (per left : Int), 0 ≤ per → 3652060 ≤ per + m → per ≤ 4000000 → ∃ rest, eachL b last r.a1 sf se tm (m + 1) per left = some rest := by
 have i1 := h.full.f.i1; have i2 := h.full.i2
 intro m
 induction m with
 | zero =>
  intro per left p0 pm p9
  unfold eachL
  split; · exact ⟨_, rfl⟩
  have : se per ≠ 0 := fun q => by have := h.ok per q; omega
  rw [if_pos (Or.inl this)]; exact ⟨_, rfl⟩
 | succ m ih =>
  intro per left p0 pm p9
  unfold eachL
  split; · exact ⟨_, rfl⟩
  split; · exact ⟨_, rfl⟩
  rename_i c
  have pe : per ≤ 3652059 := by
   have : se per = 0 := Decidable.not_not.1 fun q => c (Or.inl q)
   have := h.ok per this; omega
  split; · exact ⟨_, rfl⟩
  rw [w64 (x := per + r.a1) (by omega) (by omega)]
  obtain ⟨rest, hr⟩ := ih (per + r.a1) (inner b last (tm per) left).2.1 (by omega) (by omega) (by omega)
  rw [hr]; exact ⟨_, rfl⟩
/-- What Until answers of a formed rule and a right begin. -/
theorem until_ {r : Ru} {b dy s : Int} {B : Fa} {sf sl se : Int → Int} {fit : Int → Bool} {k : Nat} (h : Has r b dy s B sf sl se fit k) (hr : clock_Right.f b = some true) (p : Rp) (last most : Int) (rest : List Int) (K : Nat)
  (hU : eachL b (endF r last) r.a1 sf se (timL r sf sl se fit s) K 0 (wrap64 (r.a2 - 1)) = some rest) (hN : rest.length ≤ 17000000000000 ∨ most ≤ 17000000000000) (m0 : 0 ≤ most) (w : World) (ok : Ok r p w) :
  Calls Tryz.prog 15 #[.agg (agg r p), .int .i64 b, .int .i64 last, .int .i64 most] w fun e W' => OutU W' ((allU b last rest).take most.toNat) (decide (most < ((allU b last rest).length : Int))) 0 e ∧ Below w.heap.size w W' :=
 untilOk k r p b last most (endF r last) dy sf sl se (timL r sf sl se fit s) (fun per => 0 ≤ per) rest K w ok h.form hr (by omega) h.day rfl (Int.le_refl 0)
  (fun per h0 he => by have q := h.ok per he; have i1 := h.full.f.i1; have i2 := h.full.i2; rw [w64 (x := per + r.a1) (by omega) (by omega)]; omega) (fun n _ => h.span p n) (fun n _ _ => h.tim p n) h.tim_len (fun _ => hU) hN
end Go.Proofs.YtfdcldjoncednaaGreat.ExB
namespace Go.Proofs.YtfdcldjoncednaaGreat.M
open Go.RowKit Go.Proofs.YtfdcldjoncednaaGreatW.PrintWords Go.Proofs.YtfdcldjoncednaaGreatW.PrintLast Go.Proofs.YtfdcldjoncednaaGreatW.PrintMore
attribute [local go_sem] max2_int min2_int max_two min_two
set_option linter.unusedVariables false
set_option linter.unusedSimpArgs false
/-! ### trystlaw13_PerDay: function 14 -/
def trystlaw13_PerDay.f (a0_0 : Int) (a0_1 : Int) (a0_2 : Int) (a0_3 : Int) (a0_4 : Int) (a0_5 : ByteArray) (a0_6 : Bool) (a0_7 : Int) (l0_8 : List Int) (l0_9 : List Int) (l0_10 : List Int) (l0_11 : List (S80)) (l0_12 : List Int) (l0_13 : List Int) (l0_14 : List Int) (l0_15 : List Int) (l0_16 : List Int) : Option (Int) := some (wrap64 ((wrap64 ((mx 1 (l0_10.length : Int)) * (mx 1 (l0_9.length : Int)))) * (mx 1 (l0_8.length : Int))))
set_option maxHeartbeats 8000000 in
set_option maxRecDepth 100000 in
theorem trystlaw13_PerDay.calls (a0_0 : Int) (a0_1 : Int) (a0_2 : Int) (a0_3 : Int) (a0_4 : Int) (a0_5 : ByteArray) (a0_6 : Bool) (a0_7 : Int) (A0_8 : Option Addr) (c0_8 : Nat) (l0_8 : List Int) (A0_9 : Option Addr) (c0_9 : Nat) (l0_9 : List Int) (A0_10 : Option Addr) (c0_10 : Nat) (l0_10 : List Int) (A0_11 : Option Addr) (c0_11 : Nat) (l0_11 : List (S80)) (A0_12 : Option Addr) (c0_12 : Nat) (l0_12 : List Int) (A0_13 : Option Addr) (c0_13 : Nat) (l0_13 : List Int) (A0_14 : Option Addr) (c0_14 : Nat) (l0_14 : List Int) (A0_15 : Option Addr) (c0_15 : Nat) (l0_15 : List Int) (A0_16 : Option Addr) (c0_16 : Nat) (l0_16 : List Int) (r : Int) (w : World) (hr0_8 : Kd.C (Kd.int .i64) w A0_8 l0_8.length l0_8) (hc0_8 : l0_8.length ≤ c0_8) (hr0_9 : Kd.C (Kd.int .i64) w A0_9 l0_9.length l0_9) (hc0_9 : l0_9.length ≤ c0_9) (hr0_10 : Kd.C (Kd.int .i64) w A0_10 l0_10.length l0_10) (hc0_10 : l0_10.length ≤ c0_10) (hr0_11 : Kd.C k80 w A0_11 l0_11.length l0_11) (hc0_11 : l0_11.length ≤ c0_11) (hr0_12 : Kd.C (Kd.int .i64) w A0_12 l0_12.length l0_12) (hc0_12 : l0_12.length ≤ c0_12) (hr0_13 : Kd.C (Kd.int .i64) w A0_13 l0_13.length l0_13) (hc0_13 : l0_13.length ≤ c0_13) (hr0_14 : Kd.C (Kd.int .i64) w A0_14 l0_14.length l0_14) (hc0_14 : l0_14.length ≤ c0_14) (hr0_15 : Kd.C (Kd.int .i64) w A0_15 l0_15.length l0_15) (hc0_15 : l0_15.length ≤ c0_15) (hr0_16 : Kd.C (Kd.int .i64) w A0_16 l0_16.length l0_16) (hc0_16 : l0_16.length ≤ c0_16) (h : trystlaw13_PerDay.f a0_0 a0_1 a0_2 a0_3 a0_4 a0_5 a0_6 a0_7 l0_8 l0_9 l0_10 l0_11 l0_12 l0_13 l0_14 l0_15 l0_16 = some r) :
  Calls Tryz.prog 14 #[.agg #[.int .i64 a0_0, .int .i64 a0_1, .int .i64 a0_2, .int .i64 a0_3, .int .i64 a0_4, .string a0_5, .bool a0_6, .int .i64 a0_7, .slice A0_8 l0_8.length c0_8, .slice A0_9 l0_9.length c0_9, .slice A0_10 l0_10.length c0_10, .slice A0_11 l0_11.length c0_11, .slice A0_12 l0_12.length c0_12, .slice A0_13 l0_13.length c0_13, .slice A0_14 l0_14.length c0_14, .slice A0_15 l0_15.length c0_15, .slice A0_16 l0_16.length c0_16]] w fun e w' => e = .returned (.int .i64 r) ∧ Below w.heap.size w w' := by
 have hu27 := Tryz.underlying27
 have HR0_8 := Aside0.mk hr0_8
 have HC0_8 := Aside0.mk hc0_8
 clear hr0_8 hc0_8
 have HR0_9 := Aside0.mk hr0_9
 have HC0_9 := Aside0.mk hc0_9
 clear hr0_9 hc0_9
 have HR0_10 := Aside0.mk hr0_10
 have HC0_10 := Aside0.mk hc0_10
 clear hr0_10 hc0_10
 have HR0_11 := Aside0.mk hr0_11
 have HC0_11 := Aside0.mk hc0_11
 clear hr0_11 hc0_11
 have HR0_12 := Aside0.mk hr0_12
 have HC0_12 := Aside0.mk hc0_12
 clear hr0_12 hc0_12
 have HR0_13 := Aside0.mk hr0_13
 have HC0_13 := Aside0.mk hc0_13
 clear hr0_13 hc0_13
 have HR0_14 := Aside0.mk hr0_14
 have HC0_14 := Aside0.mk hc0_14
 clear hr0_14 hc0_14
 have HR0_15 := Aside0.mk hr0_15
 have HC0_15 := Aside0.mk hc0_15
 clear hr0_15 hc0_15
 have HR0_16 := Aside0.mk hr0_16
 have HC0_16 := Aside0.mk hc0_16
 clear hr0_16 hc0_16
 have HB := Aside0.mk (Below.refl w.heap.size w)
 have H : (some (wrap64 ((wrap64 ((mx 1 (l0_10.length : Int)) * (mx 1 (l0_9.length : Int)))) * (mx 1 (l0_8.length : Int))))) = some r := h
 clear h
 obtain ⟨ji2, hji2⟩ : ∃ j_ : Int, (mx 1 (l0_10.length : Int)) = j_ := ⟨_, rfl⟩
 replace H : (some (wrap64 ((wrap64 ((ji2) * (mx 1 (l0_9.length : Int)))) * (mx 1 (l0_8.length : Int))))) = some r := by first | (rw [hji2] at H; exact H) | (simp only [hji2] at H ⊢; exact H)
 (try (have hji2l : 1 ≤ ji2 := by (rw [← hji2]; unfold mx; (repeat' split) <;> omega)))
 (try (have hji2m : 0 ≤ ji2 := by omega))
 have hji2_ : (if 1 < (l0_10.length : Int) then (l0_10.length : Int) else 1) = ji2 := hji2
 obtain ⟨ji3, hji3⟩ : ∃ j_ : Int, (mx 1 (l0_9.length : Int)) = j_ := ⟨_, rfl⟩
 replace H : (some (wrap64 ((wrap64 ((ji2) * (ji3))) * (mx 1 (l0_8.length : Int))))) = some r := by first | (rw [hji3] at H; exact H) | (simp only [hji3] at H ⊢; exact H)
 (try (have hji3l : 1 ≤ ji3 := by (rw [← hji3]; unfold mx; (repeat' split) <;> omega)))
 (try (have hji3m : 0 ≤ ji3 := by omega))
 have hji3_ : (if 1 < (l0_9.length : Int) then (l0_9.length : Int) else 1) = ji3 := hji3
 obtain ⟨ji4, hji4⟩ : ∃ j_ : Int, (mx 1 (l0_8.length : Int)) = j_ := ⟨_, rfl⟩
 replace H : (some (wrap64 ((wrap64 ((ji2) * (ji3))) * (ji4)))) = some r := by first | (rw [hji4] at H; exact H) | (simp only [hji4] at H ⊢; exact H)
 (try (have hji4l : 1 ≤ ji4 := by (rw [← hji4]; unfold mx; (repeat' split) <;> omega)))
 (try (have hji4m : 0 ≤ ji4 := by omega))
 have hji4_ : (if 1 < (l0_8.length : Int) then (l0_8.length : Int) else 1) = ji4 := hji4
 obtain rfl := Option.some.inj H
 go_enter Tryz.func14, Tryz.ntmps14
 go_wp2_with (first | ((with_reducible refine gate_dst (N := 1) rfl ?_); refine box_event ?hg (N := 1) ?hd (cs := #[.int .i64 a0_0, .int .i64 a0_1, .int .i64 a0_2, .int .i64 a0_3, .int .i64 a0_4, .string a0_5, .bool a0_6, .int .i64 a0_7, .slice A0_8 l0_8.length c0_8, .slice A0_9 l0_9.length c0_9, .slice A0_10 l0_10.length c0_10, .slice A0_11 l0_11.length c0_11, .slice A0_12 l0_12.length c0_12, .slice A0_13 l0_13.length c0_13, .slice A0_14 l0_14.length c0_14, .slice A0_15 l0_15.length c0_15, .slice A0_16 l0_16.length c0_16]) (t := 27) ?hr ?_; (case hd => rfl); (case hg => rfl); (case hr => first | (go_simp; done) | (go_simp; rfl)); intro gb350 hg w5 hbox hb; have n0_ := Aside0.mk (below_step (by repeat (first | (with_reducible first | exact HB.out | apply below_alloc | apply pw_below_drewN | apply below_drew1) | exact HB.out)) hb); have n1_ := Aside0.mk (hbox); have n2_ := Aside0.mk ((by rw [hg]; exact (below_size (by repeat (first | (with_reducible first | exact HB.out | apply below_alloc | apply pw_below_drewN | apply below_drew1) | exact HB.out))) : w.heap.size ≤ gb350)); have n3_ := Aside0.mk ((by rw [hg]; exact (below_size (by repeat (first | (with_reducible first | exact HB.out | apply below_alloc | apply pw_below_drewN | apply below_drew1) | exact HB.out))) : w.heap.size ≤ gb350)); clear HB; have HB := n0_; have BK350 := n1_; have GW350 := n2_; have GE350 := n3_; clear n0_ n1_ n2_ n3_; clear hb hbox hg; have hcz6_0 : w5.cell? ⟨gb350, 0, none⟩ = some (.int .i64 a0_0) := (blk_cell BK350.out 0).trans rfl; have hcz6_1 : w5.cell? ⟨gb350, 1, none⟩ = some (.int .i64 a0_1) := (blk_cell BK350.out 1).trans rfl; have hcz6_2 : w5.cell? ⟨gb350, 2, none⟩ = some (.int .i64 a0_2) := (blk_cell BK350.out 2).trans rfl; have hcz6_3 : w5.cell? ⟨gb350, 3, none⟩ = some (.int .i64 a0_3) := (blk_cell BK350.out 3).trans rfl; have hcz6_4 : w5.cell? ⟨gb350, 4, none⟩ = some (.int .i64 a0_4) := (blk_cell BK350.out 4).trans rfl; have hcz6_5 : w5.cell? ⟨gb350, 5, none⟩ = some (.string a0_5) := (blk_cell BK350.out 5).trans rfl; have hcz6_6 : w5.cell? ⟨gb350, 6, none⟩ = some (.bool a0_6) := (blk_cell BK350.out 6).trans rfl; have hcz6_7 : w5.cell? ⟨gb350, 7, none⟩ = some (.int .i64 a0_7) := (blk_cell BK350.out 7).trans rfl; have hcz6_8 : w5.cell? ⟨gb350, 8, none⟩ = some (.slice A0_8 l0_8.length c0_8) := (blk_cell BK350.out 8).trans rfl; have hcz6_9 : w5.cell? ⟨gb350, 9, none⟩ = some (.slice A0_9 l0_9.length c0_9) := (blk_cell BK350.out 9).trans rfl; have hcz6_10 : w5.cell? ⟨gb350, 10, none⟩ = some (.slice A0_10 l0_10.length c0_10) := (blk_cell BK350.out 10).trans rfl; have hcz6_11 : w5.cell? ⟨gb350, 11, none⟩ = some (.slice A0_11 l0_11.length c0_11) := (blk_cell BK350.out 11).trans rfl; have hcz6_12 : w5.cell? ⟨gb350, 12, none⟩ = some (.slice A0_12 l0_12.length c0_12) := (blk_cell BK350.out 12).trans rfl; have hcz6_13 : w5.cell? ⟨gb350, 13, none⟩ = some (.slice A0_13 l0_13.length c0_13) := (blk_cell BK350.out 13).trans rfl; have hcz6_14 : w5.cell? ⟨gb350, 14, none⟩ = some (.slice A0_14 l0_14.length c0_14) := (blk_cell BK350.out 14).trans rfl; have hcz6_15 : w5.cell? ⟨gb350, 15, none⟩ = some (.slice A0_15 l0_15.length c0_15) := (blk_cell BK350.out 15).trans rfl; have hcz6_16 : w5.cell? ⟨gb350, 16, none⟩ = some (.slice A0_16 l0_16.length c0_16) := (blk_cell BK350.out 16).trans rfl; have hfz6_0 := blk_frozen BK350.out 0; have hfz6_1 := blk_frozen BK350.out 1; have hfz6_2 := blk_frozen BK350.out 2; have hfz6_3 := blk_frozen BK350.out 3; have hfz6_4 := blk_frozen BK350.out 4; have hfz6_5 := blk_frozen BK350.out 5; have hfz6_6 := blk_frozen BK350.out 6; have hfz6_7 := blk_frozen BK350.out 7; have hfz6_8 := blk_frozen BK350.out 8; have hfz6_9 := blk_frozen BK350.out 9; have hfz6_10 := blk_frozen BK350.out 10; have hfz6_11 := blk_frozen BK350.out 11; have hfz6_12 := blk_frozen BK350.out 12; have hfz6_13 := blk_frozen BK350.out 13; have hfz6_14 := blk_frozen BK350.out 14; have hfz6_15 := blk_frozen BK350.out 15; have hfz6_16 := blk_frozen BK350.out 16))
 go_ret
 exact ⟨by first | rfl | (simp [i64_w]; done) | (simp [errW_none, errW_some] <;> rfl) | (simp only [← hji2, ← hji3, ← hji4]; first | rfl | (simp [errW_none, errW_some] <;> rfl)) | (simp [*, errW_none, errW_some] <;> rfl), by repeat (first | (with_reducible first | exact HB.out | apply below_alloc | apply pw_below_drewN | apply below_drew1 | refine below_set ?_ GE350.out) | exact HB.out)⟩

/-! ### trystlaw15_Same: function 19 -/
def trystlaw15_Same.l0 : Nat → List Int → List Int → Int → Int → Option (Bool)
 | 0, _, _, _, _ => none
 | k + 1, x0, x1, x12, x13 => if x13 < x12 then (if 0 ≤ x13 then (if x13 < (x0.length : Int) then (if x13 < (x1.length : Int) then (if (rd x0 x13) = (rd x1 x13) then (trystlaw15_Same.l0 k x0 x1 x12 (wrap64 (x13 + 1))) else (some false)) else (none)) else (none)) else (none)) else (some true)
def trystlaw15_Same.f (k : Nat) (l0 : List Int) (l1 : List Int) : Option (Bool) := if (l0.length : Int) = (l1.length : Int) then (trystlaw15_Same.l0 k l0 l1 (l0.length : Int) 0) else (some false)
set_option maxHeartbeats 8000000 in
set_option maxRecDepth 100000 in
theorem trystlaw15_Same.calls (k : Nat) (A0 : Option Addr) (c0 : Nat) (l0 : List Int) (A1 : Option Addr) (c1 : Nat) (l1 : List Int) (r : Bool) (w : World) (hr0 : Kd.C (Kd.int .i64) w A0 l0.length l0) (hc0 : l0.length ≤ c0) (hr1 : Kd.C (Kd.int .i64) w A1 l1.length l1) (hc1 : l1.length ≤ c1) (h : trystlaw15_Same.f k l0 l1 = some r) :
  Calls Tryz.prog 19 #[.slice A0 l0.length c0, .slice A1 l1.length c1] w fun e w' => e = .returned (.bool r) ∧ Drawn0 w w' := by
 have HR0 := Aside0.mk hr0
 have HC0 := Aside0.mk hc0
 clear hr0 hc0
 have HR1 := Aside0.mk hr1
 have HC1 := Aside0.mk hc1
 clear hr1 hc1
 have H : (if (l0.length : Int) = (l1.length : Int) then (trystlaw15_Same.l0 k l0 l1 (l0.length : Int) 0) else (some false)) = some r := h
 clear h
 by_cases c3 : (l0.length : Int) = (l1.length : Int)
 ·rw [if_pos c3] at H
  have c3b0 : ((l0.length : Int) == (l1.length : Int)) = true := beq_iff_eq.mpr c3
  have c3b1 : ((l0.length : Int) != (l1.length : Int)) = false := bne_eq_false_iff_eq.mpr c3
  have c3b2 : (l0.length == l1.length) = true := by first | simpa using c3 | (simp at c3 ⊢; omega)
  clear c3
  have H' := Aside0.mk H
  clear H
  go_enter Tryz.func19, Tryz.ntmps19
  go_wp2
  repeat (go_quiet (fail); try go_wp2)
  go_loopg [13] k (fun kq v13 w' => ∃ (x13_1 : Int), v13 = .int .i64 x13_1 ∧ Aside0 (trystlaw15_Same.l0 kq l0 l1 (l0.length : Int) x13_1 = some r) ∧ Aside0 (kq ≤ k) ∧ Drawn0 w w')
  case atStart => exact ⟨(0), (by first | rfl | (simp; done) | (simp [*]; done)), H', ⟨Nat.le_refl _⟩, by repeat (first | exact Drawn0.refl _ | apply Drawn0.step)⟩
  case round =>
   clear H'
   try clear c1
   try clear p2
   try clear c3
   try clear c3b0
   try clear c3b1
   try clear c3b2
   obtain ⟨x13_1, rfl, HA, HK1, ⟨m1, rfl⟩⟩ := hrel
   cases gk with
   | zero => exact absurd HA.out (by simp [trystlaw15_Same.l0])
   | succ k1 =>
    have H := HA.out
    clear HA
    simp only [trystlaw15_Same.l0] at H
    by_cases c4 : x13_1 < (l0.length : Int)
    ·rw [if_pos c4] at H
     have c4b0 : decide (x13_1 < (l0.length : Int)) = true := decide_eq_true c4
     clear c4
     by_cases c5 : 0 ≤ x13_1
     ·rw [if_pos c5] at H
      have c5b0 : decide (0 ≤ x13_1) = true := decide_eq_true c5
      clear c5
      by_cases c6 : x13_1 < (l0.length : Int)
      ·rw [if_pos c6] at H
       have c6b0 : decide (x13_1 < (l0.length : Int)) = true := decide_eq_true c6
       clear c6
       by_cases c7 : x13_1 < (l1.length : Int)
       ·rw [if_pos c7] at H
        have c7b0 : decide (x13_1 < (l1.length : Int)) = true := decide_eq_true c7
        clear c7
        by_cases c8 : (rd l0 x13_1) = (rd l1 x13_1)
        ·rw [if_pos c8] at H
         have c8b0 : ((rd l0 x13_1) == (rd l1 x13_1)) = true := beq_iff_eq.mpr c8
         have c8b1 : ((rd l0 x13_1) != (rd l1 x13_1)) = false := bne_eq_false_iff_eq.mpr c8
         clear c8
         have H' := Aside0.mk H
         clear H
         have p456 : 0 ≤ (x13_1 : Int) := of_decide_eq_true (by first | (with_reducible assumption) | assumption)
         have q456 : x13_1 < (l0.length : Int) := of_decide_eq_true (by first | (with_reducible assumption) | assumption)
         obtain ⟨ad456, e456, hx456_0⟩ := Kd.at_int HR0.out x13_1 p456 q456
         cases e456
         replace p456 := eq_true p456
         replace q456 := eq_true q456
         have p457 : 0 ≤ (x13_1 : Int) := of_decide_eq_true (by first | (with_reducible assumption) | assumption)
         have q457 : x13_1 < (l1.length : Int) := of_decide_eq_true (by first | (with_reducible assumption) | assumption)
         obtain ⟨ad457, e457, hx457_0⟩ := Kd.at_int HR1.out x13_1 p457 q457
         cases e457
         replace p457 := eq_true p457
         replace q457 := eq_true q457
         go_wp2
         repeat (go_quiet (fail); try go_wp2)
         go_roundg k1
         case measure => have := HK1.out; omega
         case rel => exact ⟨(wrap64 (x13_1 + 1)), (by first | rfl | (simp; done) | (simp [*]; done)), H', ⟨by have := HK1.out; omega⟩, by repeat (first | exact Drawn0.refl _ | apply Drawn0.step)⟩
        ·rw [if_neg c8] at H
         have c8b0 : ((rd l0 x13_1) == (rd l1 x13_1)) = false := beq_eq_false_iff_ne.mpr c8
         have c8b1 : ((rd l0 x13_1) != (rd l1 x13_1)) = true := bne_iff_ne.mpr c8
         obtain rfl := Option.some.inj H
         have p456 : 0 ≤ (x13_1 : Int) := of_decide_eq_true (by first | (with_reducible assumption) | assumption)
         have q456 : x13_1 < (l0.length : Int) := of_decide_eq_true (by first | (with_reducible assumption) | assumption)
         obtain ⟨ad456, e456, hx456_0⟩ := Kd.at_int HR0.out x13_1 p456 q456
         cases e456
         replace p456 := eq_true p456
         replace q456 := eq_true q456
         have p457 : 0 ≤ (x13_1 : Int) := of_decide_eq_true (by first | (with_reducible assumption) | assumption)
         have q457 : x13_1 < (l1.length : Int) := of_decide_eq_true (by first | (with_reducible assumption) | assumption)
         obtain ⟨ad457, e457, hx457_0⟩ := Kd.at_int HR1.out x13_1 p457 q457
         cases e457
         replace p457 := eq_true p457
         replace q457 := eq_true q457
         go_wp2
         repeat (go_quiet (fail); try go_wp2)
         go_ret
         exact ⟨by first | rfl | simp | simp [*] | simp [bne_nil_], by repeat (first | exact Drawn0.refl _ | apply Drawn0.step)⟩
       ·rw [if_neg c7] at H
        exact absurd H (by simp)
      ·rw [if_neg c6] at H
       exact absurd H (by simp)
     ·rw [if_neg c5] at H
      exact absurd H (by simp)
    ·rw [if_neg c4] at H
     have c4b0 : decide (x13_1 < (l0.length : Int)) = false := decide_eq_false c4
     clear c4
     obtain rfl := Option.some.inj H
     go_wp2
     repeat (go_quiet (fail); try go_wp2)
     go_ret
     exact ⟨by first | rfl | simp | simp [*] | simp [bne_nil_], by repeat (first | exact Drawn0.refl _ | apply Drawn0.step)⟩
 ·rw [if_neg c3] at H
  have c3b0 : ((l0.length : Int) == (l1.length : Int)) = false := beq_eq_false_iff_ne.mpr c3
  have c3b1 : ((l0.length : Int) != (l1.length : Int)) = true := bne_iff_ne.mpr c3
  have c3b2 : (l0.length == l1.length) = false := by first | simpa using c3 | (simp at c3 ⊢; omega)
  obtain rfl := Option.some.inj H
  go_enter Tryz.func19, Tryz.ntmps19
  go_wp2
  repeat (go_quiet (fail); try go_wp2)
  go_ret
  exact ⟨by first | rfl | simp | simp [*] | simp [bne_nil_], by repeat (first | exact Drawn0.refl _ | apply Drawn0.step)⟩

end Go.Proofs.YtfdcldjoncednaaGreat.M
/- trystlaw13.Few told. (Written by gen_reffew.py.) -/
namespace Go.Proofs.YtfdcldjoncednaaGreat.RefW
open Go.RowKit Go.Proofs.YtfdcldjoncednaaGreatW.PrintWords Go.Proofs.YtfdcldjoncednaaGreatW.PrintLast Go.Proofs.YtfdcldjoncednaaGreatW.PrintMore Go.Proofs.YtfdcldjoncednaaGreat.M
set_option linter.unusedVariables false
set_option linter.unusedSimpArgs false
/-- The numbers of the first so many lists, and the days. -/
def fs (d : Nat) (g : Nat → Nat) : Nat → Int
 | 0 => (d : Int)
 | q + 1 => wrap64 (fs d g q + (g q : Int))
theorem fs_step (d : Nat) (g : Nat → Nat) (q n : Nat) (h : g q = n) : fs d g (q + 1) = wrap64 (fs d g q + (n : Int)) := by rw [fs, h]
def ln (l8 l9 l10 l12 l13 l14 l15 l16 : Nat) : Nat → Nat
 | 0 => l8
 | 1 => l9
 | 2 => l10
 | 3 => l12
 | 4 => l13
 | 5 => l14
 | 6 => l15
 | _ => l16
def few (d l8 l9 l10 l12 l13 l14 l15 l16 : Nat) : Bool := decide (fs d (ln l8 l9 l10 l12 l13 l14 l15 l16) 8 ≤ 500)
theorem few_ (a0 : Int) (a1 : Int) (a2 : Int) (a3 : Int) (a4 : Int) (a5 : ByteArray) (a6 : Bool) (a7 : Int) (A8 : Option Addr) (c8 : Nat) (l8 : List Int) (A9 : Option Addr) (c9 : Nat) (l9 : List Int) (A10 : Option Addr) (c10 : Nat) (l10 : List Int) (A11 : Option Addr) (c11 : Nat) (l11 : List S80) (A12 : Option Addr) (c12 : Nat) (l12 : List Int) (A13 : Option Addr) (c13 : Nat) (l13 : List Int) (A14 : Option Addr) (c14 : Nat) (l14 : List Int) (A15 : Option Addr) (c15 : Nat) (l15 : List Int) (A16 : Option Addr) (c16 : Nat) (l16 : List Int) (w : World) :
  Calls Tryz.prog 7 #[.agg #[.int .i64 a0, .int .i64 a1, .int .i64 a2, .int .i64 a3, .int .i64 a4, .string a5, .bool a6, .int .i64 a7, .slice A8 l8.length c8, .slice A9 l9.length c9, .slice A10 l10.length c10, .slice A11 l11.length c11, .slice A12 l12.length c12, .slice A13 l13.length c13, .slice A14 l14.length c14, .slice A15 l15.length c15, .slice A16 l16.length c16]] w fun e w' => e = .returned (.bool (few l11.length l8.length l9.length l10.length l12.length l13.length l14.length l15.length l16.length)) ∧ Below w.heap.size w w' :=
 RefL.few0 a0 a1 a2 a3 a4 a5 a6 a7 A8 c8 l8 A9 c9 l9 A10 c10 l10 A11 c11 l11 A12 c12 l12 A13 c13 l13 A14 c14 l14 A15 c15 l15 A16 c16 l16 (fs l11.length (ln l8.length l9.length l10.length l12.length l13.length l14.length l15.length l16.length)) (by rw [fs]) (fs_step _ _ 0 _ rfl) (fs_step _ _ 1 _ rfl) (fs_step _ _ 2 _ rfl) (fs_step _ _ 3 _ rfl) (fs_step _ _ 4 _ rfl) (fs_step _ _ 5 _ rfl) (fs_step _ _ 6 _ rfl) (fs_step _ _ 7 _ rfl) w
end Go.Proofs.YtfdcldjoncednaaGreat.RefW
