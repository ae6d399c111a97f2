/- Texts of this claim, merged: PureFits, RefSec. -/
import Derived.Test.YtfdcldjoncednaaGreatMgExpandUntil20
import Derived.Test.YtfdcldjoncednaaGreatMgExpandUntil30
import Derived.Test.YtfdcldjoncednaaGreatMgExpandUntil23
import Derived.Test.YtfdcldjoncednaaGreatMgExpandUntil24
import Derived.Test.YtfdcldjoncednaaGreatMgExpandUntil26
/- A day fits by the program when it does by the document: plain. -/
namespace Go.Proofs.YtfdcldjoncednaaGreat.PureFits
open Go.RowKit Go.Proofs.YtfdcldjoncednaaGreatW.PrintWords Go.Proofs.YtfdcldjoncednaaGreatW.PrintLast Go.Proofs.YtfdcldjoncednaaGreat.M Go.Proofs.YtfdcldjoncednaaGreat.Cal Go.Proofs.YtfdcldjoncednaaGreat.FunA Go.Proofs.YtfdcldjoncednaaGreat.FunB Go.Proofs.YtfdcldjoncednaaGreat.FunC Go.Proofs.YtfdcldjoncednaaGreat.FunD Go.Proofs.YtfdcldjoncednaaGreat.FunI Go.Proofs.YtfdcldjoncednaaGreat.Ru Go.Proofs.YtfdcldjoncednaaGreat.MatD Go.Proofs.YtfdcldjoncednaaGreat.MatP Go.Proofs.YtfdcldjoncednaaGreat.MatF Go.Proofs.YtfdcldjoncednaaGreat.MatG Go.Proofs.YtfdcldjoncednaaGreat.RefP Go.Proofs.YtfdcldjoncednaaGreat.RefQ
set_option linter.unusedVariables false
set_option linter.unusedSimpArgs false
theorem idx0 (l : List Int) (a : Int) (hl : l.length ≤ 1000) : ∀ (k : Nat) (i : Int), 0 ≤ i → i ≤ 1000 → ((slices_Index_int_int.l0 k l a (l.length : Int) i).bind fun t => some (decide (t ≥ 0))) = trystref14_has.l0 k l a (l.length : Int) i := by
 intro k
 induction k with
 | zero => intro i h0 h1; simp only [slices_Index_int_int.l0, trystref14_has.l0, Option.bind_none]
 | succ k ih =>
  intro i h0 h1
  simp only [slices_Index_int_int.l0, trystref14_has.l0]
  by_cases c : i < (l.length : Int)
  ·rw [if_pos c, if_pos c, if_pos h0, if_pos h0, if_pos c, if_pos c]
   by_cases e : a = rd l i
   ·rw [if_pos e, if_pos e.symm, Option.bind_some, decide_eq_true (show i ≥ 0 from h0)]
   ·rw [if_neg e, if_neg (fun q => e q.symm), w64 (by omega) (by omega)]
    exact ih (i + 1) (by omega) (by omega)
  ·rw [if_neg c, if_neg c, Option.bind_some, decide_eq_false (by omega)]
theorem cont_has (k : Nat) (l : List Int) (a : Int) (hl : l.length ≤ 1000) : slices_Contains_int_int.f k l a = trystref14_has.f k l a := by
 unfold slices_Contains_int_int.f slices_Index_int_int.f trystref14_has.f
 exact idx0 l a hl k 0 (by omega) (by omega)
theorem has0 (l : List Int) (a : Int) (hl : l.length ≤ 1000) : ∀ (j i : Nat), j + i = l.length → ∃ b, ∀ k, j + 1 ≤ k → trystref14_has.l0 k l a (l.length : Int) (i : Int) = some b := by
 intro j
 induction j with
 | zero =>
  intro i hj
  refine ⟨false, fun k hk => ?_⟩
  obtain ⟨k, rfl⟩ : ∃ m, k = m + 1 := ⟨k - 1, by omega⟩
  simp only [trystref14_has.l0]
  rw [if_neg (by omega)]
 | succ j ih =>
  intro i hj
  obtain ⟨b, hb⟩ := ih (i + 1) (by omega)
  by_cases e : rd l (i : Int) = a
  ·refine ⟨true, fun k hk => ?_⟩
   obtain ⟨k, rfl⟩ : ∃ m, k = m + 1 := ⟨k - 1, by omega⟩
   simp only [trystref14_has.l0]
   rw [if_pos (by omega), if_pos (by omega), if_pos (by omega), if_pos e]
  ·refine ⟨b, fun k hk => ?_⟩
   obtain ⟨k, rfl⟩ : ∃ m, k = m + 1 := ⟨k - 1, by omega⟩
   simp only [trystref14_has.l0]
   rw [if_pos (by omega), if_pos (by omega), if_pos (by omega), if_neg e, w64 (by omega) (by omega), show (i : Int) + 1 = ((i + 1 : Nat) : Int) by omega]
   exact hb k (by omega)
theorem has_ (l : List Int) (a : Int) (hl : l.length ≤ 1000) : ∃ b, ∀ k, l.length + 1 ≤ k → trystref14_has.f k l a = some b := has0 l a hl l.length 0 (by omega)
theorem counted_ (l : List Int) (n o : Int) (hl : l.length ≤ 1000) : ∃ b, ∀ k, l.length + 1 ≤ k → trystref14_counted.f k l n o = some b ∧ match_place_in.f k n o l = some b := by
 obtain ⟨a, ha⟩ := has_ l n hl
 obtain ⟨c, hc⟩ := has_ l (wrap64 (wrap64 (n - o) - 1)) hl
 cases a with
 | true => exact ⟨true, fun k hk => ⟨by unfold trystref14_counted.f; rw [ha k hk]; rfl, by unfold match_place_in.f; rw [cont_has k l n hl, ha k hk]; rfl⟩⟩
 | false => exact ⟨c, fun k hk => ⟨by unfold trystref14_counted.f; rw [ha k hk, Option.bind_some, if_neg (by simp), hc k hk]; rfl, by unfold match_place_in.f; rw [cont_has k l n hl, ha k hk, Option.bind_some, if_neg (by simp), cont_has k l _ hl, hc k hk]; rfl⟩⟩
theorem i64 {a : Int} (h : -1000000000 ≤ a) (h' : a ≤ 1000000000) : I64 a := ⟨by omega, by omega⟩
theorem weekday_ (x : Int) (h : -1000000000 ≤ x) (h' : x ≤ 1000000000) : trystref14_weekday.f x = some (x % 7) := by
 unfold trystref14_weekday.f
 rw [fMod x 7 (by omega) (by omega) (i64 h h')]; rfl
/-- The day with which a day's week begins. -/
def wbg (d s : Int) : Int := d - (d - s) % 7
theorem wb_p (d s : Int) (hd : In d) (h0 : 0 ≤ s) (h6 : s ≤ 6) : match_weekBegin.f d s = some (wbg d s) := by
 obtain ⟨d1, d2⟩ := hd
 unfold match_weekBegin.f wbg
 rw [rWeekday d (i64 (by omega) (by omega)), Option.bind_some, w64 (by omega) (by omega), rMod _ 7 (by omega) (by omega) (i64 (by omega) (by omega)), Option.bind_some, show (d % 7 - s) % 7 = (d - s) % 7 by omega, w64 (by omega) (by omega)]
theorem wb0 (s : Int) (h0 : 0 ≤ s) (h6 : s ≤ 6) : ∀ (j k : Nat) (d : Int), -100 + j ≤ d → d ≤ 4000000 → (d - s) % 7 = j → j + 1 ≤ k → trystref14_Begin.l0 k d s = some (d - j) := by
 intro j
 induction j with
 | zero =>
  intro k d h1 h2 h3 hk
  obtain ⟨k, rfl⟩ : ∃ m, k = m + 1 := ⟨k - 1, by omega⟩
  simp only [trystref14_Begin.l0]
  rw [weekday_ d (by omega) (by omega), Option.bind_some, if_pos (by omega)]; simp
 | succ j ih =>
  intro k d h1 h2 h3 hk
  obtain ⟨k, rfl⟩ : ∃ m, k = m + 1 := ⟨k - 1, by omega⟩
  simp only [trystref14_Begin.l0]
  rw [weekday_ d (by omega) (by omega), Option.bind_some, if_neg (by omega), w64 (by omega) (by omega), ih k (d - 1) (by omega) (by omega) (by omega) (by omega)]
  congr 1; omega
theorem wb_r (k : Nat) (hk : 8 ≤ k) (d s : Int) (hd : In d) (h0 : 0 ≤ s) (h6 : s ≤ 6) : trystref14_Begin.f k d s = some (wbg d s) := by
 obtain ⟨d1, d2⟩ := hd
 unfold trystref14_Begin.f wbg
 have := wb0 s h0 h6 ((d - s) % 7).toNat k d (by omega) (by omega) (by omega) (by omega)
 rw [this]; congr 1; omega
/-- A day's date, by both. -/
theorem date_ (k : Nat) (hk : 130 ≤ k) (d : Int) (hd : In d) : ∃ y m dd, 1 ≤ y ∧ y ≤ 9999 ∧ Is ah lp y m dd d ∧ trystref14_date.f k d = some (y, m, dd) ∧
  match_of.f k d = some (d, y, m, dd, d % 7, dd, dim (lp y) m, d - ah y, 365 + lp y) := by
 obtain ⟨m, dd, e1, i1⟩ := rDate_yes k (by omega) d hd
 obtain ⟨y', m', d', e2, i2⟩ := fDate0 k (by omega) d hd
 obtain ⟨rfl, rfl, rfl⟩ := Is.one greg i1 i2
 have hy := yr_In hd
 refine ⟨yr d, m, dd, hy.1, hy.2, i1, ?_, ?_⟩
 ·unfold trystref14_date.f
  rw [e2]; rfl
 ·unfold match_of.f
  rw [e1, Option.bind_some, rInYear_yes d hd, Option.bind_some, rLeap, Option.bind_some, rWeekday d (i64 (by have := hd.1; omega) (by have := hd.2; omega)), rLength k (by omega)]
  rcases lp_01 (yr d) with h | h
  ·rw [h]; rfl
  ·rw [h]; rfl
theorem fixed1 (k : Nat) (hk : 8 ≤ k) (y : Int) (h : -40000 ≤ y) (h' : y ≤ 40000) : trystref01_Fixed.f k 0 y 1 1 = some (ah y + 1) := by
 rw [fFixed k hk 0 y 1 1 (Or.inl rfl) h h' (by omega) (by omega) (by omega) (by omega)]
 unfold fx; rw [if_pos rfl, cum_one]; congr 1; omega
theorem fixedM (k : Nat) (hk : 8 ≤ k) (y m : Int) (h : -40000 ≤ y) (h' : y ≤ 40000) (hm : 1 ≤ m) (hm' : m ≤ 12) : trystref01_Fixed.f k 0 y m 1 = some (ah y + cum (lp y) m + 1) := by
 rw [fFixed k hk 0 y m 1 (Or.inl rfl) h h' hm (by omega) (by omega) (by omega)]
 unfold fx; rw [if_pos rfl]
theorem year_ (k : Nat) (hk : 8 ≤ k) (y : Int) (h : -39999 ≤ y) (h' : y ≤ 39999) : trystref14_year.f k y = some (365 + lp y) := by
 have a := ah_bd y (by omega) (by omega)
 have b := ah_bd (y + 1) (by omega) (by omega)
 unfold trystref14_year.f
 rw [w64 (by omega) (by omega), fixed1 k hk (y + 1) (by omega) (by omega), Option.bind_some, fixed1 k hk y (by omega) (by omega), Option.bind_some, w64 (by omega) (by omega), ah_succ]
 congr 1; omega
theorem lengthM (k : Nat) (hk : 9 ≤ k) (y m : Int) (h : -40000 ≤ y) (h' : y < 40000) : trystref01_Length.f k 0 y m = some (dim (lp y) m) := by
 rw [fLength k hk 0 y m (Or.inl rfl) h h']; unfold len; rw [if_pos rfl]
/-- Days of the same weekday ahead, and behind, and the day itself. -/
def cA (fr d : Int) : Nat → Int
 | 0 => 1
 | i + 1 => cA fr d i + (if (fr + (i : Int)) % 7 = d % 7 ∧ fr + (i : Int) < d then 1 else 0)
def cB (fr d : Int) : Nat → Int
 | 0 => 1
 | i + 1 => cB fr d i + (if (fr + (i : Int)) % 7 = d % 7 ∧ fr + (i : Int) > d then 1 else 0)
theorem cA_eq (fr q : Int) (hq : 0 ≤ q) : ∀ i : Nat, cA fr (fr + q) i = 1 + (if (i : Int) ≤ q then ((i : Int) + 6 - q % 7) / 7 else q / 7) := by
 intro i
 induction i with
 | zero => simp only [cA]; rw [if_pos (by omega)]; omega
 | succ i ih =>
  simp only [cA]; rw [ih]
  by_cases c : (fr + (i : Int)) % 7 = (fr + q) % 7 ∧ fr + (i : Int) < fr + q
  ·rw [if_pos c, if_pos (by omega), if_pos (by push_cast; omega)]
   have : ((i : Int) - q) % 7 = 0 := by omega
   push_cast; omega
  ·rw [if_neg c]
   by_cases e : (i : Int) ≤ q
   ·rw [if_pos e]
    by_cases g : ((i + 1 : Nat) : Int) ≤ q
    ·rw [if_pos g]
     have : ¬ ((i : Int) - q) % 7 = 0 := by push_cast at g; omega
     push_cast; omega
    ·rw [if_neg g]; push_cast at g; omega
   ·rw [if_neg e, if_neg (by push_cast; omega)]; omega
theorem cB_eq (fr q : Int) (hq : 0 ≤ q) : ∀ i : Nat, cB fr (fr + q) i = 1 + (if (i : Int) ≤ q then 0 else ((i : Int) - 1 - q) / 7) := by
 intro i
 induction i with
 | zero => simp only [cB]; rw [if_pos (by omega)]; omega
 | succ i ih =>
  simp only [cB]; rw [ih]
  by_cases c : (fr + (i : Int)) % 7 = (fr + q) % 7 ∧ fr + (i : Int) > fr + q
  ·rw [if_pos c, if_neg (by omega), if_neg (by push_cast; omega)]
   have : ((i : Int) - q) % 7 = 0 := by omega
   push_cast; omega
  ·rw [if_neg c]
   by_cases e : (i : Int) ≤ q
   ·rw [if_pos e]
    by_cases g : ((i + 1 : Nat) : Int) ≤ q
    ·rw [if_pos g]; omega
    ·rw [if_neg g]; push_cast at g ⊢; omega
   ·rw [if_neg e, if_neg (by push_cast; omega)]
    have : ¬ ((i : Int) - q) % 7 = 0 := by omega
    push_cast; omega
theorem hit_eq (x : Fa) (fr pn n : Int) (h1 : 1 ≤ pn) (h2 : pn ≤ n) (hw : x.wd = (fr + (pn - 1)) % 7) (l : List S80) :
  anyHit x pn n l = anyR (fr + (pn - 1)) (cA fr (fr + (pn - 1)) n.toNat) (cB fr (fr + (pn - 1)) n.toNat) l := by
 unfold anyHit anyR
 congr 1
 funext j
 unfold hit hitR ordF
 rw [cA_eq fr (pn - 1) (by omega), cB_eq fr (pn - 1) (by omega), if_neg (by omega), if_neg (by omega), hw]
 show (_ && (_ || _)) = (_ && (_ || _ || _))
 generalize (rd_T80 l (j : Int)).f0 = z
 generalize (rd_T80 l (j : Int)).f1 = u
 have e1 : ((pn - 1) / 7 + 1 == z) = (z == 1 + (pn - 1) / 7) := by rw [Bool.eq_iff_iff, beq_iff_eq, beq_iff_eq]; omega
 have e2 : (-((n - pn) / 7 + 1) == z) = (z == -(1 + (((n.toNat : Nat) : Int) - 1 - (pn - 1)) / 7)) := by
  rw [Bool.eq_iff_iff, beq_iff_eq, beq_iff_eq]
  have : (((n.toNat : Nat) : Int) - 1 - (pn - 1)) = n - pn := by omega
  rw [this]; omega
 rw [e1, e2, Bool.or_assoc]
/-- What the document's Fits asks, and tells (v). -/
def RefOk (k : Nat) (r : Ru) (b d : Int) (v : Bool) : Prop := ∃ (ay am ad dy dm dd w1 w2 fy nd ny nm wb wd : Int) (hm bw b13 b12 bd : Bool), 1 ≤ r.a1 ∧ trystref14_date.f k b = some (ay, am, ad) ∧ trystref14_date.f k d = some (dy, dm, dd) ∧ trystref14_Begin.f k d r.a7 = some w1 ∧ trystref14_Begin.f k b r.a7 = some w2 ∧ trystref01_Fixed.f k 0 dy 1 1 = some fy ∧ wrap64 (wrap64 (d - fy) + 1) = nd ∧
 trystref14_has.f k r.l15 dm = some hm ∧ WeekOk k r d bw ∧ trystref14_year.f k dy = some ny ∧ trystref14_counted.f k r.l13 nd ny = some b13 ∧ trystref01_Length.f k 0 dy dm = some nm ∧ trystref14_counted.f k r.l12 dd nm = some b12 ∧ DaysOk k r d bd ∧ trystref14_weekday.f b = some wb ∧ trystref14_weekday.f d = some wd ∧ r.l13.length ≤ 40 ∧ r.l12.length ≤ 40 ∧ r.l11.length ≤ 40 ∧
 v = fitsF r (perR r b d ay am dy dm w1 w2) hm bw b13 b12 bd (usualR r wb wd am ad dm dd)
theorem refX (k : Nat) (r : Ru) (p : Rp) (b d : Int) (v : Bool) (w : World) (ok : Ok r p w) (h : RefOk k r b d v) :
  Calls Tryz.prog 43 #[.agg (agg r p), .int .i64 b, .int .i64 d] w fun e w' => e = .returned (.bool v) ∧ Below w.heap.size w w' := by
 obtain ⟨ay, am, ad, dy, dm, dd, w1, w2, fy, nd, ny, nm, wb, wd, hm, bw, b13, b12, bd, hi, h1, h2, h3, h4, h5, h6, h7, h8, h9, h10, h11, h12, h13, h14, h15, l13, l12, l11, rfl⟩ := h
 exact RefQ.fits k r p b d ay am ad dy dm dd w1 w2 fy nd ny nm wb wd hm bw b13 b12 bd w ok hi h1 h2 h3 h4 h5 h6 h7 h8 h9 h10 h11 h12 h13 h14 h15 l13 l12 l11
/-- What a formed rule is, as far as a day's fitting goes. -/
structure Frm (r : Ru) : Prop where
 f1 : 1 ≤ r.a0
 f4 : r.a0 ≤ 4
 i1 : 1 ≤ r.a1
 s0 : 0 ≤ r.a7
 s6 : r.a7 ≤ 6
 l11 : r.l11.length ≤ 40
 l12 : r.l12.length ≤ 40
 l13 : r.l13.length ≤ 40
 l14 : r.l14.length ≤ 40
 l15 : r.l15.length ≤ 40
 nw : r.a0 ≠ 4 → r.l14.length = 0
theorem week_eq (k : Nat) (hk : 130 ≤ k) (r : Ru) (f : Frm r) (d : Int) (hd : In d) (x : Fa) (hx : x.day = d) (y m dd : Int) (y1 : 1 ≤ y) (y9 : y ≤ 9999) (hi : Is ah lp y m dd d) (hy : x.y = y) (hdt : trystref14_date.f k d = some (y, m, dd)) :
  ∃ z n e1 t e2 b14, iso_Week.f k x.day r.a7 = some (z, n, e1) ∧ (z = x.y → iso_Weeks.f k z r.a7 = some (t, e2)) ∧ match_place_in.f k n t r.l14 = some b14 ∧ WeekOk k r d (inWeekF x z b14) := by
 have hs : Wday r.a7 := ⟨f.s0, f.s6⟩
 obtain ⟨z, z0, z1, hz, hz', e⟩ := iWeek_yes k (by omega) d r.a7 hd hs
 have bz := wk_rng z r.a7 (by omega) (by omega)
 have b1 := wk_rng y r.a7 (by omega) (by omega)
 have b2 := wk_rng (y + 1) r.a7 (by omega) (by omega)
 have hdd := hd.1
 have hdd' := hd.2
 have f14 := f.l14
 obtain ⟨cb, hcb⟩ := counted_ r.l14 (wrap64 (wrap64 (Int.tdiv (wrap64 (d - wk y r.a7)) 7) + 1)) (wrap64 (Int.tdiv (wrap64 (wk (y + 1) r.a7 - wk y r.a7)) 7)) (by omega)
 have hW : ∀ bw, bw = (decide (wk y r.a7 ≤ d) && decide (d < wk (y + 1) r.a7) && cb) → WeekOk k r d bw := fun bw hbw =>
  ⟨y, m, dd, y + 1, wk y r.a7, wk (y + 1) r.a7, _, _, cb, hdt, w64 (by omega) (by omega), fWeek1 k (by omega) y r.a7 (by omega) (by omega) f.s0 f.s6, fWeek1 k (by omega) (y + 1) r.a7 (by omega) (by omega) f.s0 f.s6, rfl, rfl, (hcb k (by omega)).1, hbw⟩
 by_cases c : z = y
 ·subst c
  have q1 : wrap64 (wrap64 (Int.tdiv (wrap64 (d - wk z r.a7)) 7) + 1) = (d - wk z r.a7) / 7 + 1 := by
   rw [w64 (x := d - wk z r.a7) (by omega) (by omega), Int.tdiv_eq_ediv_of_nonneg (by omega), w64 (x := (d - wk z r.a7) / 7) (by omega) (by omega), w64 (by omega) (by omega)]
  have q2 : wrap64 (Int.tdiv (wrap64 (wk (z + 1) r.a7 - wk z r.a7)) 7) = (wk (z + 1) r.a7 - wk z r.a7) / 7 := by
   rw [w64 (x := wk (z + 1) r.a7 - wk z r.a7) (by omega) (by omega), Int.tdiv_eq_ediv_of_nonneg (by omega), w64 (by omega) (by omega)]
  rw [q1, q2] at hcb
  refine ⟨z, _, 0, (wk (z + 1) r.a7 - wk z r.a7) / 7, 0, cb, by rw [hx]; exact e, fun _ => iWeeks_yes k (by omega) z r.a7 (by omega) (by omega) hs, (hcb k (by omega)).2, hW _ ?_⟩
  unfold inWeekF
  rw [if_pos hy.symm, decide_eq_true hz, decide_eq_true hz']; rfl
 ·obtain ⟨c2, hc2⟩ := counted_ r.l14 ((d - wk z r.a7) / 7 + 1) 0 (by omega)
  refine ⟨z, _, 0, 0, 0, c2, by rw [hx]; exact e, fun q => absurd (q.trans hy) c, (hc2 k (by omega)).2, hW _ ?_⟩
  unfold inWeekF
  rw [if_neg (fun q => c (q.trans hy))]
  by_cases g1 : wk y r.a7 ≤ d
  ·by_cases g2 : d < wk (y + 1) r.a7
   ·exact absurd (wk_one hz hz' g1 g2) c
   ·rw [decide_eq_false g2]; simp
  ·rw [decide_eq_false g1]; rfl
theorem dim_le (y m : Int) (h1 : 1 ≤ m) (h2 : m ≤ 12) : 28 ≤ dim (lp y) m ∧ dim (lp y) m ≤ 31 := dim_lo (lp y) m (lp_01 y) h1 h2
theorem days_eq (k : Nat) (hk : 130 ≤ k) (r : Ru) (f : Frm r) (d : Int) (hd : In d) (y m dd : Int) (y1 : 1 ≤ y) (y9 : y ≤ 9999) (hi : Is ah lp y m dd d) (hdt : trystref14_date.f k d = some (y, m, dd)) :
  DaysOk k r d (onDayF r ⟨d, y, m, dd, d % 7, dd, dim (lp y) m, d - ah y, 365 + lp y⟩) := by
 have m1 := hi.m1; have m2 := hi.m2; have d1 := hi.d1; have d2 := hi.d2; have he := hi.e
 have dl := dim_le y m m1 m2
 have cb := cum_bd (l := lp y) (m := m) (lp_01 y) m1 (by omega)
 have ce := cum_le (l := lp y) (a := m + 1) (b := 13) (lp_01 y) (by omega) (by omega) (by omega)
 rw [cum_end, cum_succ _ _ m1 m2] at ce
 have ab := ah_bd y (by omega) (by omega)
 have hl := lp_01 y
 have hdd := hd.1
 have hdd' := hd.2
 have key : ∀ (fr pn n : Int), d = fr + (pn - 1) → 1 ≤ pn → pn ≤ n → n ≤ 400 → -100000000 ≤ fr → fr ≤ 100000000 → (fr = if inMonth r = true then ah y + cum (lp y) m + 1 else ah y + 1) → (n = if inMonth r = true then dim (lp y) m else 365 + lp y) →
   ∀ bd, bd = anyHit ⟨d, y, m, dd, d % 7, dd, dim (lp y) m, d - ah y, 365 + lp y⟩ pn n r.l11 → DaysOk k r d bd := by
  intro fr pn n e1 p1 p2 p3 p4 p5 p6 p7 bd hbd
  refine ⟨y, m, dd, ah y + 1, 365 + lp y, ah y + cum (lp y) m + 1, dim (lp y) m, fr, n, fr + n, cA fr d, cB fr d, hdt, fixed1 k (by omega) y (by omega) (by omega), year_ k (by omega) y (by omega) (by omega), fun _ => fixedM k (by omega) y m (by omega) (by omega) m1 m2, fun _ => lengthM k (by omega) y m (by omega) (by omega), p6, p7, w64 (by omega) (by omega), by omega, p3, p4, p5, fun x a b => weekday_ x a b, by omega, by omega, rfl, fun i => rfl, rfl, fun i => rfl, f.l11, ?_⟩
  rw [hbd, hit_eq _ fr pn n p1 p2 (by show d % 7 = _; rw [← e1]), ← e1]
 unfold onDayF
 by_cases c : inMonth r = true
 ·rw [if_pos c]
  exact key (ah y + cum (lp y) m + 1) dd (dim (lp y) m) (by omega) d1 d2 (by omega) (by omega) (by omega) (by rw [if_pos c]) (by rw [if_pos c]) _ rfl
 ·rw [if_neg c]
  exact key (ah y + 1) (d - ah y) (365 + lp y) (by omega) (by omega) (by omega) (by omega) (by omega) (by omega) (by rw [if_neg c]) (by rw [if_neg c]) _ rfl
theorem usual_eq (r : Ru) (f : Frm r) (X Y : Fa) : usualF r X Y = usualR r X.wd Y.wd X.m X.d Y.m Y.d := by
 unfold usualF usualR
 have f1 := f.f1; have f4 := f.f4
 by_cases a : 0 < r.l13.length + r.l12.length + r.l11.length
 ·rw [if_pos a, if_pos a]
 rw [if_neg a, if_neg a]
 have sy : ∀ u v : Int, (u == v) = (v == u) := fun u v => by rw [Bool.eq_iff_iff, beq_iff_eq, beq_iff_eq]; exact ⟨Eq.symm, Eq.symm⟩
 by_cases c1 : r.a0 = 1
 ·rw [if_pos c1, if_neg (by omega), if_neg (by omega), if_neg (by omega), if_neg (by omega)]
 rw [if_neg c1]
 by_cases c2 : r.a0 = 2
 ·rw [if_pos (Or.inl c2), if_pos c2]; exact sy _ _
 rw [if_neg c2]
 by_cases c3 : r.a0 = 3
 ·have n14 := f.nw (by omega)
  rw [if_neg (by omega), if_pos c3]
  by_cases e : Y.d = X.d
  ·rw [if_pos e, if_pos (Or.inl c3), e]; simp
  ·rw [if_neg e]
   symm
   exact beq_eq_false_iff_ne.2 (fun q => e q.symm)
 rw [if_neg c3]
 have c4 : r.a0 = 4 := by omega
 by_cases z : 0 < r.l14.length
 ·rw [if_pos (Or.inr z), if_pos ⟨c4, z⟩]; exact sy _ _
 rw [if_neg (show ¬ (r.a0 = 2 ∨ 0 < r.l14.length) by omega), if_neg (show ¬ (r.a0 = 4 ∧ 0 < r.l14.length) by omega), if_pos c4]
 by_cases e : Y.d = X.d
 ·rw [if_pos e, if_pos e.symm]
  by_cases g : 0 < r.l15.length
  ·rw [if_pos (Or.inr g), if_pos g]
  ·rw [if_neg (show ¬ (r.a0 = 3 ∨ 0 < r.l15.length) by omega), if_neg g]; exact sy _ _
 ·rw [if_neg e, if_neg (fun q => e q.symm)]
/-- By the program, and by the document: one answer. -/
theorem main (r : Ru) (f : Frm r) (b d : Int) (hb : In b) (hd : In d) (k : Nat) (hk : 130 ≤ k) : ∃ X Y v, dayOf k b X ∧ dayOf k d Y ∧ FitsOk k r X Y v ∧ RefOk k r b d v ∧ X.day = b ∧ Y.day = d := by
 obtain ⟨ay, am, ad, a1, a9, ia, ea, fa_⟩ := date_ k hk b hb
 obtain ⟨y, m, dd, y1, y9, iy, ey, fy_⟩ := date_ k hk d hd
 have l11 := f.l11; have l12 := f.l12; have l13 := f.l13; have l14 := f.l14; have l15 := f.l15
 have hb1 := hb.1; have hb2 := hb.2; have hd1 := hd.1; have hd2 := hd.2
 have m1 := iy.m1; have m2 := iy.m2; have d1 := iy.d1; have d2 := iy.d2; have he := iy.e
 have dl := dim_le y m m1 m2
 have cb := cum_bd (l := lp y) (m := m) (lp_01 y) m1 (by omega)
 have ce := cum_le (l := lp y) (a := m + 1) (b := 13) (lp_01 y) (by omega) (by omega) (by omega)
 rw [cum_end, cum_succ _ _ m1 m2] at ce
 have hl := lp_01 y
 have ab := ah_bd y (by omega) (by omega)
 obtain ⟨hm, e3⟩ := has_ r.l15 m (by omega)
 obtain ⟨z, n, e1, t, e2, b14, w1, w2, w3, w4⟩ := week_eq k hk r f d hd ⟨d, y, m, dd, d % 7, dd, dim (lp y) m, d - ah y, 365 + lp y⟩ rfl y m dd y1 y9 iy rfl ey
 obtain ⟨b13, e13⟩ := counted_ r.l13 (d - ah y) (365 + lp y) (by omega)
 obtain ⟨b12, e12⟩ := counted_ r.l12 dd (dim (lp y) m) (by omega)
 have days := days_eq k hk r f d hd y m dd y1 y9 iy ey
 refine ⟨⟨b, ay, am, ad, b % 7, ad, dim (lp ay) am, b - ah ay, 365 + lp ay⟩, ⟨d, y, m, dd, d % 7, dd, dim (lp y) m, d - ah y, 365 + lp y⟩, _, fa_, fy_, ⟨wbg d r.a7, wbg b r.a7, z, n, e1, t, e2, hm, b14, b13, b12, f.i1, wb_p d r.a7 hd f.s0 f.s6, wb_p b r.a7 hb f.s0 f.s6, by rw [cont_has k _ _ (by omega)]; exact e3 k (by omega), w1, w2, w3, (e13 k (by omega)).2, (e12 k (by omega)).2, ⟨d1, d2, by show dim (lp y) m ≤ 400; omega⟩, ⟨by show 1 ≤ d - ah y; omega, by show d - ah y ≤ 365 + lp y; omega, by show 365 + lp y ≤ 400; omega⟩, ⟨f.l13, f.l12, f.l11⟩, rfl⟩, ?_, rfl, rfl⟩
 refine ⟨ay, am, ad, y, m, dd, wbg d r.a7, wbg b r.a7, ah y + 1, d - ah y, 365 + lp y, dim (lp y) m, b % 7, d % 7, hm, _, b13, b12, _, f.i1, ea, ey, wb_r k (by omega) d r.a7 hd f.s0 f.s6, wb_r k (by omega) b r.a7 hb f.s0 f.s6, fixed1 k (by omega) y (by omega) (by omega), by rw [w64 (x := d - (ah y + 1)) (by omega) (by omega), w64 (by omega) (by omega)]; omega, e3 k (by omega), w4, year_ k (by omega) y (by omega) (by omega), (e13 k (by omega)).1, lengthM k (by omega) y m (by omega) (by omega), (e12 k (by omega)).1, days, weekday_ b (by omega) (by omega), weekday_ d (by omega) (by omega), f.l13, f.l12, f.l11, ?_⟩
 rw [usual_eq r f]
 rfl
end Go.Proofs.YtfdcldjoncednaaGreat.PureFits
/- trystref14.on, trystref14.Seconds. (Written by gen_refsec.py.) -/
namespace Go.Proofs.YtfdcldjoncednaaGreat.RefSec
open Go.RowKit Go.Proofs.YtfdcldjoncednaaGreatW.PrintWords Go.Proofs.YtfdcldjoncednaaGreatW.PrintLast Go.Proofs.YtfdcldjoncednaaGreat.M Go.Proofs.YtfdcldjoncednaaGreat.Cal Go.Proofs.YtfdcldjoncednaaGreat.Ru Go.Proofs.YtfdcldjoncednaaGreat.MatP Go.Proofs.YtfdcldjoncednaaGreat.ExD Go.Proofs.YtfdcldjoncednaaGreat.ExO Go.Proofs.YtfdcldjoncednaaGreat.ExB
set_option linter.unusedVariables false
set_option linter.unusedSimpArgs false
/-- May a second of the day be one of the rule's? -/
def onB (r : Ru) (s x : Int) : Bool := decide (x / 3600 ∈ orL r.l10 (s / 3600)) && (decide (x / 60 % 60 ∈ orL r.l9 (s / 60 % 60)) && decide (x % 60 ∈ orL r.l8 (s % 60)))
theorem has_eq (l : List Int) (a : Int) (hl : l.length ≤ 40) (k : Nat) (hk : 50 ≤ k) : trystref14_has.f k l a = some (decide (a ∈ l)) := by
 rw [← PureFits.cont_has k l a (by omega)]
 exact cont_eq l a (by omega) k (by omega)
theorem orB (l : List Int) (n a : Int) : decide (a ∈ orL l n) = if l.length = 0 then (a == n) else decide (a ∈ l) := by
 unfold orL
 by_cases c : l.length = 0
 ·rw [if_pos c, if_pos c]
  by_cases e : a = n
  ·subst e; simp
  ·rw [beq_eq_false_iff_ne.2 e]; simp [e]
 ·rw [if_neg c, if_neg c]
def Ton : Bool × List (List Nat × List Nat) := (true, [([], []), ([0], [0]), ([], []), ([2], [2]), ([1, 3], [1, 3]), ([], []), ([5], [5]), ([], []), ([7], [7]), ([8], [8]), ([6, 9, 4], [6, 9]), ([], []), ([11], [11]), ([], []), ([13], [13]), ([12, 14, 10], [12, 14]), ([4, 15, 0, 1, 2, 3, 4], [4]), ([10, 16, 0, 1, 2, 3, 4, 5, 6, 7, 8, 9, 10, 16], [10]), ([15, 17, 0, 1, 2, 3, 4, 5, 6, 7, 8, 9, 10, 11, 12, 13, 14, 15, 16, 17], [15])])
def Bon : List Nat := [0, 1, 0, 4, 15, 0, 32, 0, 128, 384, 1023, 0, 2048, 0, 8192, 32767, 65535, 131071, 262143]
theorem tabon : rtab .any (opsOf Tryz.f45 2) = Ton := by kernel_rfl
theorem bitson : waitsOk Ton.2 Bon = true := by kernel_rfl
set_option maxHeartbeats 8000000 in
set_option maxRecDepth 100000 in
theorem on_ (r : Ru) (p : Rp) (f : Full r) (b s x : Int) (hs : b % 86400 = s) (b0 : 0 ≤ b) (x0 : 0 ≤ x) (x1 : x < 86400) (w : World) (ok : Ok r p w) :
  Calls Tryz.prog 45 #[.agg (agg r p), .int .i64 b, .int .i64 x] w fun q w' => q = .returned (.bool (onB r s x)) ∧ Below w.heap.size w w' := by
 have e0 : Int.tmod b 86400 = s := by rw [Int.tmod_eq_emod_of_nonneg b0]; exact hs
 have s0 : 0 ≤ s := by omega
 have s1 : s < 86400 := by omega
 obtain ⟨h, hh⟩ : ∃ h, x / 3600 = h := ⟨_, rfl⟩
 obtain ⟨n, hn⟩ : ∃ n, x / 60 = n := ⟨_, rfl⟩
 obtain ⟨m, hm⟩ : ∃ m, n % 60 = m := ⟨_, rfl⟩
 obtain ⟨q, hq⟩ : ∃ q, x % 60 = q := ⟨_, rfl⟩
 obtain ⟨sh, hsh⟩ : ∃ h, s / 3600 = h := ⟨_, rfl⟩
 obtain ⟨sn, hsn⟩ : ∃ n, s / 60 = n := ⟨_, rfl⟩
 obtain ⟨sm, hsm⟩ : ∃ m, sn % 60 = m := ⟨_, rfl⟩
 obtain ⟨sq, hsq⟩ : ∃ q, s % 60 = q := ⟨_, rfl⟩
 have a1 : wrap64 (Int.tdiv x 3600) = h := by rw [Int.tdiv_eq_ediv_of_nonneg x0, w64 (by omega) (by omega)]; exact hh
 have a2 : wrap64 (Int.tdiv x 60) = n := by rw [Int.tdiv_eq_ediv_of_nonneg x0, w64 (by omega) (by omega)]; exact hn
 have a3 : Int.tmod n 60 = m := by rw [Int.tmod_eq_emod_of_nonneg (by omega)]; exact hm
 have a4 : Int.tmod x 60 = q := by rw [Int.tmod_eq_emod_of_nonneg x0]; exact hq
 have c1 : wrap64 (Int.tdiv s 3600) = sh := by rw [Int.tdiv_eq_ediv_of_nonneg s0, w64 (by omega) (by omega)]; exact hsh
 have c2 : wrap64 (Int.tdiv s 60) = sn := by rw [Int.tdiv_eq_ediv_of_nonneg s0, w64 (by omega) (by omega)]; exact hsn
 have c3 : Int.tmod sn 60 = sm := by rw [Int.tmod_eq_emod_of_nonneg (by omega)]; exact hsm
 have c4 : Int.tmod s 60 = sq := by rw [Int.tmod_eq_emod_of_nonneg s0]; exact hsq
 obtain ⟨o1, ho1⟩ : ∃ o, decide (h ∈ orL r.l10 sh) = o := ⟨_, rfl⟩
 obtain ⟨o2, ho2⟩ : ∃ o, decide (m ∈ orL r.l9 sm) = o := ⟨_, rfl⟩
 obtain ⟨o3, ho3⟩ : ∃ o, decide (q ∈ orL r.l8 sq) = o := ⟨_, rfl⟩
 have E := Aside0.mk (show onB r s x = (o1 && (o2 && o3)) by unfold onB; rw [hh, hn, hm, hq, hsh, hsn, hsm, hsq, ho1, ho2, ho3])
 obtain ⟨g1, hg1⟩ : ∃ o, decide (h ∈ r.l10) = o := ⟨_, rfl⟩
 obtain ⟨g2, hg2⟩ : ∃ o, decide (m ∈ r.l9) = o := ⟨_, rfl⟩
 obtain ⟨g3, hg3⟩ : ∃ o, decide (q ∈ r.l8) = o := ⟨_, rfl⟩
 have H1 := Aside0.mk (has_eq r.l10 h f.l10.len 50 (by omega)); have H2 := Aside0.mk (has_eq r.l9 m f.l9.len 50 (by omega)); have H3 := Aside0.mk (has_eq r.l8 q f.l8.len 50 (by omega))
 rw [hg1] at H1; rw [hg2] at H2; rw [hg3] at H3
 rw [orB, hg1] at ho1; rw [orB, hg2] at ho2; rw [orB, hg3] at ho3
 have O1 := Aside0.mk ho1; have O2 := Aside0.mk ho2; have O3 := Aside0.mk ho3
 have OK := Aside0.mk ok
 clear hs b0 x0 x1 s0 s1 hh hn hm hq hsh hsn hsm hsq hg1 hg2 hg3 ho1 ho2 ho3 ok f
 have HK := Aside0.mk (blk_new w (obj r p))
 have HB := Aside0.mk (below_alloc (Below.refl w.heap.size w) (obj r p))
 go_enter Tryz.func45, Tryz.ntmps45
 go_upto_region 1 with fail
 generalize w.alloc (obj r p) = w0 at HK HB ⊢
 go_upto_region 2 with fail
 have HR := Aside0.mk (below_drew1 (Below.refl w0.heap.size w0))
 refine start_ (n := 19) (S := fun w' => w'.cell? ⟨w.heap.size, 10, none⟩ = some (.slice p.A10 r.l10.length p.c10) ∧ w'.cell? ⟨w.heap.size, 9, none⟩ = some (.slice p.A9 r.l9.length p.c9) ∧ w'.cell? ⟨w.heap.size, 8, none⟩ = some (.slice p.A8 r.l8.length p.c8)) (ds := []) (tt 19 0) (by kernel_rfl) rfl rfl ⟨pw_cell_below (below_drew1 (Below.refl _ _)) ((blk_cell HK.out 10).trans rfl), pw_cell_below (below_drew1 (Below.refl _ _)) ((blk_cell HK.out 9).trans rfl), pw_cell_below (below_drew1 (Below.refl _ _)) ((blk_cell HK.out 8).trans rfl)⟩ (fun hHeld => ?_)
 refine with_tabW tabon bitson (fun HT_ HW_ => ?_)
 generalize w0.drew = wd_ at HR hHeld ⊢
 refine pu 0 (some 13) (tt 19 1) HT_ ?_
 refine take_ (i := 1) (N := some 14) (v := ?_) (a' := ?_) (tt 19 2) rfl rfl (take_ofW HT_.out HW_.out (by kernel_rfl)) (fun _ _ _ h => h) (Or.inl ⟨by rfl, ?_⟩) hHeld ?_ ?_
 rotate_left
 ·rintro w' ⟨s0, s1, s2⟩
  go_simp
  with_reducible rfl
 rotate_left
 ·simp only [Act.put, sA, sB, sC, i64_w, i32_w]
  rfl
 refine pu 2 (some 15) (tt 19 3) HT_ ?_
 refine pu 3 (some 16) (tt 19 4) HT_ ?_
 refine pu 5 (some 18) #[true, true, true, true, false, true, false, false, false, false, false, false, false, false, false, false, false, false, false] HT_ ?_
 refine take_ (i := 6) (N := some 19) (v := ?_) (a' := ?_) #[true, true, true, true, false, true, true, false, false, false, false, false, false, false, false, false, false, false, false] rfl rfl (take_ofW HT_.out HW_.out (by kernel_rfl)) (fun _ _ _ h => h) (Or.inl ⟨by rfl, ?_⟩) hHeld ?_ ?_
 rotate_left
 ·rintro w' ⟨s0, s1, s2⟩
  go_simp
  with_reducible rfl
 rotate_left
 ·simp only [Act.put, sA, sB, sC, i64_w, i32_w]
  rfl
 refine pu 7 (some 20) #[true, true, true, true, false, true, true, true, false, false, false, false, false, false, false, false, false, false, false] HT_ ?_
 refine pu 8 (some 21) #[true, true, true, true, false, true, true, true, true, false, false, false, false, false, false, false, false, false, false] HT_ ?_
 refine pu 9 (some 22) #[true, true, true, true, false, true, true, true, true, true, false, false, false, false, false, false, false, false, false] HT_ ?_
 refine pu 11 (some 24) #[true, true, true, true, false, true, true, true, true, true, false, true, false, false, false, false, false, false, false] HT_ ?_
 refine take_ (i := 12) (N := some 25) (v := ?_) (a' := ?_) #[true, true, true, true, false, true, true, true, true, true, false, true, true, false, false, false, false, false, false] rfl rfl (take_ofW HT_.out HW_.out (by kernel_rfl)) (fun _ _ _ h => h) (Or.inl ⟨by rfl, ?_⟩) hHeld ?_ ?_
 rotate_left
 ·rintro w' ⟨s0, s1, s2⟩
  go_simp
  with_reducible rfl
 rotate_left
 ·simp only [Act.put, sA, sB, sC, i64_w, i32_w]
  rfl
 refine pu 13 (some 26) #[true, true, true, true, false, true, true, true, true, true, false, true, true, true, false, false, false, false, false] HT_ ?_
 refine pu 14 (some 27) #[true, true, true, true, false, true, true, true, true, true, false, true, true, true, true, false, false, false, false] HT_ ?_
 refine one_ (i := 4) (N := some 17) #[true, true, true, true, true, true, true, true, true, true, false, true, true, true, true, false, false, false, false] rfl rfl (one_of HT_.out (by kernel_rfl)) (by decide) (fun K hK => ?_)
 refine goes_ Tryz.func78 (by kernel_rfl) rfl #[.slice p.A10 r.l10.length p.c10, .int .i64 (wrap64 (Int.tdiv x 3600))] (by rfl) rfl rfl (by (try simp only [List.map_toArray, List.map_cons, List.map_nil]); first | done | rfl) ?_
 refine (trystref14_has.calls 50 p.A10 p.c10 r.l10 (wrap64 (Int.tdiv x 3600)) g1 _ (OK.out.below (below_then HB.out HB.out.size HR.out)).h10 OK.out.d10 (by rw [a1]; exact H1.out)).mono ?_
 rintro e_ wq ⟨rfl, ⟨nd10, rfl⟩⟩
 refine ⟨_, rfl, ?_⟩
 replace HR := Aside0.mk (pw_below_drewN HR.out nd10)
 refine hK.out _ _ ⟨pw_cell_below (pw_below_drewN (Below.refl _ _) nd10) hHeld.1, pw_cell_below (pw_below_drewN (Below.refl _ _) nd10) hHeld.2.1, pw_cell_below (pw_below_drewN (Below.refl _ _) nd10) hHeld.2.2⟩ (fun hHeld => ?_)
 clear hK K
 refine norm_ (a' := ?_) ?_ ?_
 rotate_left
 ·show Act.put _ (some 17) _ = _
  simp only [Act.put, sA, sB, sC, i64_w, i32_w]
  rfl
 refine one_ (i := 10) (N := some 23) (tt 19 15) rfl rfl (one_of HT_.out (by kernel_rfl)) (by decide) (fun K hK => ?_)
 refine goes_ Tryz.func78 (by kernel_rfl) rfl #[.slice p.A9 r.l9.length p.c9, .int .i64 m] (by rfl) rfl rfl (by (try simp only [List.map_toArray, List.map_cons, List.map_nil]); first | done | rfl) ?_
 refine (trystref14_has.calls 50 p.A9 p.c9 r.l9 m g2 _ (OK.out.below (below_then HB.out HB.out.size HR.out)).h9 OK.out.d9 H2.out).mono ?_
 rintro e_ wq ⟨rfl, ⟨nd9, rfl⟩⟩
 refine ⟨_, rfl, ?_⟩
 replace HR := Aside0.mk (pw_below_drewN HR.out nd9)
 refine hK.out _ _ ⟨pw_cell_below (pw_below_drewN (Below.refl _ _) nd9) hHeld.1, pw_cell_below (pw_below_drewN (Below.refl _ _) nd9) hHeld.2.1, pw_cell_below (pw_below_drewN (Below.refl _ _) nd9) hHeld.2.2⟩ (fun hHeld => ?_)
 clear hK K
 refine norm_ (a' := ?_) ?_ ?_
 rotate_left
 ·show Act.put _ (some 23) _ = _
  simp only [Act.put, sA, sB, sC, i64_w, i32_w]
  rfl
 refine one_ (i := 15) (N := some 28) (tt 19 16) rfl rfl (one_of HT_.out (by kernel_rfl)) (by decide) (fun K hK => ?_)
 refine goes_ Tryz.func78 (by kernel_rfl) rfl #[.slice p.A8 r.l8.length p.c8, .int .i64 q] (by rfl) rfl rfl (by (try simp only [List.map_toArray, List.map_cons, List.map_nil]); first | done | rfl) ?_
 refine (trystref14_has.calls 50 p.A8 p.c8 r.l8 q g3 _ (OK.out.below (below_then HB.out HB.out.size HR.out)).h8 OK.out.d8 H3.out).mono ?_
 rintro e_ wq ⟨rfl, ⟨nd8, rfl⟩⟩
 refine ⟨_, rfl, ?_⟩
 replace HR := Aside0.mk (pw_below_drewN HR.out nd8)
 refine hK.out _ _ ⟨pw_cell_below (pw_below_drewN (Below.refl _ _) nd8) hHeld.1, pw_cell_below (pw_below_drewN (Below.refl _ _) nd8) hHeld.2.1, pw_cell_below (pw_below_drewN (Below.refl _ _) nd8) hHeld.2.2⟩ (fun hHeld => ?_)
 clear hK K
 refine norm_ (a' := ?_) ?_ ?_
 rotate_left
 ·show Act.put _ (some 28) _ = _
  simp only [Act.put, sA, sB, sC, i64_w, i32_w]
  rfl
 refine pu 16 (some 8) (tt 19 17) HT_ ?_
 refine pu 17 (some 9) (tt 19 18) HT_ ?_
 refine pu 18 (some 10) (tt 19 19) HT_ ?_
 refine done_ (done_of HT_.out (by kernel_rfl)) ?_
 clear HT_ HW_
 generalize ((wd_.drewN nd10).drewN nd9).drewN nd8 = wn at HR hHeld ⊢
 obtain ⟨k10, k9, k8⟩ := hHeld
 replace HB := Aside0.mk (below_then HB.out HB.out.size HR.out)
 clear HR HK H1 H2 H3
 go_upto_if 32 with fail
 go_cut [8] (fun v wc => v = .bool o1 ∧ Aside0 (wc.cell? ⟨w.heap.size, 9, none⟩ = some (.slice p.A9 r.l9.length p.c9)) ∧ Aside0 (wc.cell? ⟨w.heap.size, 8, none⟩ = some (.slice p.A8 r.l8.length p.c8)) ∧ Aside0 (Below w.heap.size w wc))
 case first => as_aux_lemma =>
  have K9 := Aside0.mk k9; have K8 := Aside0.mk k8
  clear k9 k8
  by_cases z : r.l10.length = 0
  ·have z1 : ((r.l10.length : Int) == 0) = true := beq_iff_eq.2 (by omega)
   have oo := O1.out
   rw [if_pos z] at oo
   subst oo
   clear z
   go_wp2_with fail; go_meet
   case rel => exact ⟨rfl, K9, K8, HB⟩
  ·have z1 : ((r.l10.length : Int) == 0) = false := beq_eq_false_iff_ne.2 (by omega)
   have oo := O1.out
   rw [if_neg z] at oo
   subst oo
   clear z
   go_wp2_with fail; go_meet
   case rel => exact ⟨rfl, K9, K8, HB⟩
 case rest =>
  clear k10 k9 k8 HB
  obtain ⟨rfl, ⟨k9⟩, ⟨k8⟩, HB⟩ := hcut
  go_upto_if 41 with fail
  go_cut [9] (fun v wc => v = .bool o2 ∧ Aside0 (wc.cell? ⟨w.heap.size, 8, none⟩ = some (.slice p.A8 r.l8.length p.c8)) ∧ Aside0 (Below w.heap.size w wc))
  case first => as_aux_lemma =>
   have K8 := Aside0.mk k8
   clear k8
   by_cases z : r.l9.length = 0
   ·have z1 : ((r.l9.length : Int) == 0) = true := beq_iff_eq.2 (by omega)
    have oo := O2.out
    rw [if_pos z] at oo
    subst oo
    clear z
    go_wp2_with fail; go_meet
    case rel => exact ⟨rfl, K8, HB⟩
   ·have z1 : ((r.l9.length : Int) == 0) = false := beq_eq_false_iff_ne.2 (by omega)
    have oo := O2.out
    rw [if_neg z] at oo
    subst oo
    clear z
    go_wp2_with fail; go_meet
    case rel => exact ⟨rfl, K8, HB⟩
  case rest =>
   clear k9 k8 HB
   obtain ⟨rfl, ⟨k8⟩, HB⟩ := hcut
   go_upto_if 52 with fail
   go_cut [10] (fun v wc => v = .bool o3 ∧ Aside0 (Below w.heap.size w wc))
   case first => as_aux_lemma =>
    clear k8
    by_cases z : r.l8.length = 0
    ·have z1 : ((r.l8.length : Int) == 0) = true := beq_iff_eq.2 (by omega)
     have oo := O3.out
     rw [if_pos z] at oo
     subst oo
     clear z
     go_wp2_with fail; go_meet
     case rel => exact ⟨rfl, HB⟩
    ·have z1 : ((r.l8.length : Int) == 0) = false := beq_eq_false_iff_ne.2 (by omega)
     have oo := O3.out
     rw [if_neg z] at oo
     subst oo
     clear z
     go_wp2_with fail; go_meet
     case rel => exact ⟨rfl, HB⟩
   case rest =>
    clear k8 HB
    obtain ⟨rfl, HB⟩ := hcut
    clear O1 O2 O3
    cases o1 <;> cases o2 <;> cases o3
    all_goals
     go_wp2_with fail
     go_ret
     exact ⟨by rw [E.out]; rfl, HB.out⟩
set_option maxHeartbeats 8000000 in
set_option maxRecDepth 100000 in
theorem seconds (r : Ru) (p : Rp) (f : Full r) (b s : Int) (hs : b % 86400 = s) (b0 : 0 ≤ b) (G : Nat → List Int) (h0 : G 0 = []) (h1 : ∀ i : Nat, G (i + 1) = if onB r s (i : Int) = true then G i ++ [(i : Int)] else G i) (hG : ∀ i, (G i).length ≤ i) (w : World) (ok : Ok r p w) :
  Calls Tryz.prog 22 #[.agg (agg r p), .int .i64 b] w fun q w' => Out w.heap.size w' (G 86400) q ∧ Below w.heap.size w w' := by
 have ON := Aside0.mk (fun x x0 x1 w ok => on_ r p f b s x hs b0 x0 x1 w ok)
 have G0 := Aside0.mk h0; have G1 := Aside0.mk h1; have GL := Aside0.mk hG; have OK := Aside0.mk ok
 clear hs b0 h0 h1 hG ok f
 have HK := Aside0.mk (blk_new w (obj r p))
 have HB := Aside0.mk (below_alloc (Below.refl w.heap.size w) (obj r p))
 go_enter Tryz.func22, Tryz.ntmps22
 go_upto_region 1 with fail
 generalize w.alloc (obj r p) = w0 at HK HB ⊢
 go_wp2_with fail
 go_loopg [5, 7] 86400 (fun kq v5 v7 w' => ∃ (i : Nat) (x : Int), v7 = .int .i64 x ∧ Aside0 (x = (i : Int)) ∧ Aside0 (i + kq = 86400) ∧ Aside0 ((Kd.int .i64).R 2 w' w0.heap.size (fun _ => True) v5 (G i)) ∧ Aside0 (Below w0.heap.size w0 w'))
 case atStart => exact ⟨0, 0, rfl, ⟨rfl⟩, ⟨rfl⟩, ⟨by rw [G0.out]; exact Kd.R_nil _ _ _ _ _⟩, ⟨Below.refl _ _⟩⟩
 case round =>
  obtain ⟨i, x, rfl, HX, HI, HO, HL⟩ := hrel
  cases gk with
  | zero =>
   have l1 : decide (x < 86400) = false := decide_eq_false (by have := HX.out; have := HI.out; omega)
   have e : i = 86400 := by have := HI.out; omega
   rw [e] at HO; clear e
   go_wp2_with fail
   go_ret
   exact ⟨out_of HO.out HB.out.size, below_then HB.out HB.out.size HL.out⟩
  | succ k1 =>
   have q1 : x < 86400 := by have := HX.out; have := HI.out; omega
   have l1 : decide (x < 86400) = true := decide_eq_true q1
   have nx : wrap64 (x + 1) = x + 1 := by have := HX.out; have := HI.out; unfold wrap64; omega
   have ONX := Aside0.mk (ON.out x (by have := HX.out; omega) q1)
   have GN := Aside0.mk (G1.out i); rw [← HX.out] at GN
   obtain ⟨li, hli⟩ : ∃ li, G i = li := ⟨_, rfl⟩
   have LN := Aside0.mk (GL.out i); rw [hli] at HO LN GN
   have KW := Aside0.mk (blk_below HK.out HL.out)
   clear hli q1
   go_wp2_with ((with_reducible refine gate_ (.load 27 (.tmp 2)) rfl ?_); (try (refine gate_guard (by rfl) ?_; dsimp only)); refine Kd.event_run rfl (MatP.xR (.tmp 2) (w.heap.size) r p rfl rfl _ KW.out) ?_)
   refine (ONX.out wr (OK.out.below (below_then HB.out HB.out.size HL.out))).mono ?_
   rintro q w2 ⟨rfl, hb⟩
   replace HO := Aside0.mk (Kd.R_below HO.out hb)
   replace HL := Aside0.mk (below_then HL.out HL.out.size hb)
   clear hb KW ONX
   cases hv : onB r s x with
   | false =>
    rw [hv, if_neg (by simp)] at GN
    clear hv
    go_wp2_with fail
    go_roundg k1
    case measure => omega
    case rel => exact ⟨i + 1, x + 1, by simp [nx], ⟨by have := HX.out; push_cast; omega⟩, ⟨by have := HI.out; omega⟩, ⟨by rw [GN.out]; exact HO.out⟩, HL⟩
   | true =>
    rw [hv, if_pos rfl] at GN
    clear hv
    go_wp2_with ((with_reducible refine gate_builtin (b := .append) (xs := #[.tmp 14, .tmp 16]) rfl ?_); (try (refine gate_guard (by rfl) ?_; dsimp only)); at_builtin; refine Kd.R_append (Kd.int .i64) (w0 := w0) w0.heap.size rfl (.tmp 14) (.tmp 16) 42 2 (.int .i64 0) 8 rfl Tryz.underlying42 (by kernel_rfl) rfl (by decide) (by omega) _ li (x) [.int .i64 (x)] (fun _ => True) (fun _ => False) rfl rfl ?aP (fun _ hk => hk.elim) ?aF ?aO ?aB ?aS ?aL ?_; (case aP => exact rfl); (case aB => exact (by repeat (first | (with_reducible first | exact HL.out | apply below_alloc | apply pw_below_drewN | apply below_drew1) | exact HL.out))); (case aF => exact (fun _ _ => trivial)); (case aO => exact (by (with_reducible repeat (first | apply Kd.R_alloc | apply Kd.R_drewN | apply Kd.R_drew)); exact HO.out)); (case aS => exact (below_size (by repeat (first | (with_reducible first | exact HL.out | apply below_alloc | apply pw_below_drewN | apply below_drew1) | exact HL.out)))); (case aL => have := LN.out; have := HI.out; omega); intro v_ w_ ho hb hg hat;  clear hg hat; replace HO := Aside0.mk ho; replace HL := Aside0.mk hb; clear ho hb)
    go_roundg k1
    case measure => omega
    case rel => exact ⟨i + 1, x + 1, by simp [nx], ⟨by have := HX.out; push_cast; omega⟩, ⟨by have := HI.out; omega⟩, ⟨by rw [GN.out]; exact HO.out⟩, HL⟩
end Go.Proofs.YtfdcldjoncednaaGreat.RefSec
