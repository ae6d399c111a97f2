/- Texts of this claim, merged: PureFits, Right, RefW, MatLaw, Op, OpRule, PureMatchMany. -/
import Derived.Test.YtfdcldjoncednaaMgMatchMany15
import Derived.Test.YtfdcldjoncednaaMgMatchMany19
import Derived.Test.YtfdcldjoncednaaMgMatchMany20
import Derived.Test.YtfdcldjoncednaaMgMatchMany13
import Derived.Test.YtfdcldjoncednaaMgMatchMany9
import Derived.Test.YtfdcldjoncednaaMgMatchMany6
import Derived.Test.YtfdcldjoncednaaMgMatchMany1
import Derived.Deep.Slices
import Derived.ChangeSame
/- A day fits by the program when it does by the document: plain. -/
namespace Go.Proofs.Ytfdcldjoncednaa.PureFits
open Go.RowKit Go.Proofs.YtfdcldjoncednaaW.PrintWords Go.Proofs.YtfdcldjoncednaaW.PrintLast Go.Proofs.Ytfdcldjoncednaa.M Go.Proofs.Ytfdcldjoncednaa.Cal Go.Proofs.Ytfdcldjoncednaa.FunA Go.Proofs.Ytfdcldjoncednaa.FunB Go.Proofs.Ytfdcldjoncednaa.FunC Go.Proofs.Ytfdcldjoncednaa.FunD Go.Proofs.Ytfdcldjoncednaa.FunI Go.Proofs.Ytfdcldjoncednaa.Ru Go.Proofs.Ytfdcldjoncednaa.MatD Go.Proofs.Ytfdcldjoncednaa.MatP Go.Proofs.Ytfdcldjoncednaa.MatF Go.Proofs.Ytfdcldjoncednaa.MatG Go.Proofs.Ytfdcldjoncednaa.RefP Go.Proofs.Ytfdcldjoncednaa.RefQ
set_option linter.unusedVariables false
set_option linter.unusedSimpArgs false
theorem idx0 (l : List Int) (a : Int) (hl : l.length ≤ 1000) : ∀ (k : Nat) (i : Int), 0 ≤ i → i ≤ 1000 → ((slices_Index_int_int.l0 k l a (l.length : Int) i).bind fun t => some (decide (t ≥ 0))) = trystref14_has.l0 k l a (l.length : Int) i := by
 intro k
 induction k with
 | zero => intro i h0 h1; simp only [slices_Index_int_int.l0, trystref14_has.l0, Option.bind_none]
 | succ k ih =>
  intro i h0 h1
  simp only [slices_Index_int_int.l0, trystref14_has.l0]
  by_cases c : i < (l.length : Int)
  ·rw [if_pos c, if_pos c, if_pos h0, if_pos h0, if_pos c, if_pos c]
   by_cases e : a = rd l i
   ·rw [if_pos e, if_pos e.symm, Option.bind_some, decide_eq_true (show i ≥ 0 from h0)]
   ·rw [if_neg e, if_neg (fun q => e q.symm), w64 (by omega) (by omega)]
    exact ih (i + 1) (by omega) (by omega)
  ·rw [if_neg c, if_neg c, Option.bind_some, decide_eq_false (by omega)]
theorem cont_has (k : Nat) (l : List Int) (a : Int) (hl : l.length ≤ 1000) : slices_Contains_int_int.f k l a = trystref14_has.f k l a := by
 unfold slices_Contains_int_int.f slices_Index_int_int.f trystref14_has.f
 exact idx0 l a hl k 0 (by omega) (by omega)
theorem has0 (l : List Int) (a : Int) (hl : l.length ≤ 1000) : ∀ (j i : Nat), j + i = l.length → ∃ b, ∀ k, j + 1 ≤ k → trystref14_has.l0 k l a (l.length : Int) (i : Int) = some b := by
 intro j
 induction j with
 | zero =>
  intro i hj
  refine ⟨false, fun k hk => ?_⟩
  obtain ⟨k, rfl⟩ : ∃ m, k = m + 1 := ⟨k - 1, by omega⟩
  simp only [trystref14_has.l0]
  rw [if_neg (by omega)]
 | succ j ih =>
  intro i hj
  obtain ⟨b, hb⟩ := ih (i + 1) (by omega)
  by_cases e : rd l (i : Int) = a
  ·refine ⟨true, fun k hk => ?_⟩
   obtain ⟨k, rfl⟩ : ∃ m, k = m + 1 := ⟨k - 1, by omega⟩
   simp only [trystref14_has.l0]
   rw [if_pos (by omega), if_pos (by omega), if_pos (by omega), if_pos e]
  ·refine ⟨b, fun k hk => ?_⟩
   obtain ⟨k, rfl⟩ : ∃ m, k = m + 1 := ⟨k - 1, by omega⟩
   simp only [trystref14_has.l0]
   rw [if_pos (by omega), if_pos (by omega), if_pos (by omega), if_neg e, w64 (by omega) (by omega), show (i : Int) + 1 = ((i + 1 : Nat) : Int) by omega]
   exact hb k (by omega)
theorem has_ (l : List Int) (a : Int) (hl : l.length ≤ 1000) : ∃ b, ∀ k, l.length + 1 ≤ k → trystref14_has.f k l a = some b := has0 l a hl l.length 0 (by omega)
theorem counted_ (l : List Int) (n o : Int) (hl : l.length ≤ 1000) : ∃ b, ∀ k, l.length + 1 ≤ k → trystref14_counted.f k l n o = some b ∧ match_place_in.f k n o l = some b := by
 obtain ⟨a, ha⟩ := has_ l n hl
 obtain ⟨c, hc⟩ := has_ l (wrap64 (wrap64 (n - o) - 1)) hl
 cases a with
 | true => exact ⟨true, fun k hk => ⟨by unfold trystref14_counted.f; rw [ha k hk]; rfl, by unfold match_place_in.f; rw [cont_has k l n hl, ha k hk]; rfl⟩⟩
 | false => exact ⟨c, fun k hk => ⟨by unfold trystref14_counted.f; rw [ha k hk, Option.bind_some, if_neg (by simp), hc k hk]; rfl, by unfold match_place_in.f; rw [cont_has k l n hl, ha k hk, Option.bind_some, if_neg (by simp), cont_has k l _ hl, hc k hk]; rfl⟩⟩
theorem i64 {a : Int} (h : -1000000000 ≤ a) (h' : a ≤ 1000000000) : I64 a := ⟨by omega, by omega⟩
theorem weekday_ (x : Int) (h : -1000000000 ≤ x) (h' : x ≤ 1000000000) : trystref14_weekday.f x = some (x % 7) := by
 unfold trystref14_weekday.f
 rw [fMod x 7 (by omega) (by omega) (i64 h h')]; rfl
/-- The day with which a day's week begins. -/
def wbg (d s : Int) : Int := d - (d - s) % 7
theorem wb_p (d s : Int) (hd : In d) (h0 : 0 ≤ s) (h6 : s ≤ 6) : match_weekBegin.f d s = some (wbg d s) := by
 obtain ⟨d1, d2⟩ := hd
 unfold match_weekBegin.f wbg
 rw [rWeekday d (i64 (by omega) (by omega)), Option.bind_some, w64 (by omega) (by omega), rMod _ 7 (by omega) (by omega) (i64 (by omega) (by omega)), Option.bind_some, show (d % 7 - s) % 7 = (d - s) % 7 by omega, w64 (by omega) (by omega)]
theorem wb0 (s : Int) (h0 : 0 ≤ s) (h6 : s ≤ 6) : ∀ (j k : Nat) (d : Int), -100 + j ≤ d → d ≤ 4000000 → (d - s) % 7 = j → j + 1 ≤ k → trystref14_Begin.l0 k d s = some (d - j) := by
 intro j
 induction j with
 | zero =>
  intro k d h1 h2 h3 hk
  obtain ⟨k, rfl⟩ : ∃ m, k = m + 1 := ⟨k - 1, by omega⟩
  simp only [trystref14_Begin.l0]
  rw [weekday_ d (by omega) (by omega), Option.bind_some, if_pos (by omega)]; simp
 | succ j ih =>
  intro k d h1 h2 h3 hk
  obtain ⟨k, rfl⟩ : ∃ m, k = m + 1 := ⟨k - 1, by omega⟩
  simp only [trystref14_Begin.l0]
  rw [weekday_ d (by omega) (by omega), Option.bind_some, if_neg (by omega), w64 (by omega) (by omega), ih k (d - 1) (by omega) (by omega) (by omega) (by omega)]
  congr 1; omega
theorem wb_r (k : Nat) (hk : 8 ≤ k) (d s : Int) (hd : In d) (h0 : 0 ≤ s) (h6 : s ≤ 6) : trystref14_Begin.f k d s = some (wbg d s) := by
 obtain ⟨d1, d2⟩ := hd
 unfold trystref14_Begin.f wbg
 have := wb0 s h0 h6 ((d - s) % 7).toNat k d (by omega) (by omega) (by omega) (by omega)
 rw [this]; congr 1; omega
/-- A day's date, by both. -/
theorem date_ (k : Nat) (hk : 130 ≤ k) (d : Int) (hd : In d) : ∃ y m dd, 1 ≤ y ∧ y ≤ 9999 ∧ Is ah lp y m dd d ∧ trystref14_date.f k d = some (y, m, dd) ∧
  match_of.f k d = some (d, y, m, dd, d % 7, dd, dim (lp y) m, d - ah y, 365 + lp y) := by
 obtain ⟨m, dd, e1, i1⟩ := rDate_yes k (by omega) d hd
 obtain ⟨y', m', d', e2, i2⟩ := fDate0 k (by omega) d hd
 obtain ⟨rfl, rfl, rfl⟩ := Is.one greg i1 i2
 have hy := yr_In hd
 refine ⟨yr d, m, dd, hy.1, hy.2, i1, ?_, ?_⟩
 ·unfold trystref14_date.f
  rw [e2]; rfl
 ·unfold match_of.f
  rw [e1, Option.bind_some, rInYear_yes d hd, Option.bind_some, rLeap, Option.bind_some, rWeekday d (i64 (by have := hd.1; omega) (by have := hd.2; omega)), rLength k (by omega)]
  rcases lp_01 (yr d) with h | h
  ·rw [h]; rfl
  ·rw [h]; rfl
theorem fixed1 (k : Nat) (hk : 8 ≤ k) (y : Int) (h : -40000 ≤ y) (h' : y ≤ 40000) : trystref01_Fixed.f k 0 y 1 1 = some (ah y + 1) := by
 rw [fFixed k hk 0 y 1 1 (Or.inl rfl) h h' (by omega) (by omega) (by omega) (by omega)]
 unfold fx; rw [if_pos rfl, cum_one]; congr 1; omega
theorem fixedM (k : Nat) (hk : 8 ≤ k) (y m : Int) (h : -40000 ≤ y) (h' : y ≤ 40000) (hm : 1 ≤ m) (hm' : m ≤ 12) : trystref01_Fixed.f k 0 y m 1 = some (ah y + cum (lp y) m + 1) := by
 rw [fFixed k hk 0 y m 1 (Or.inl rfl) h h' hm (by omega) (by omega) (by omega)]
 unfold fx; rw [if_pos rfl]
theorem year_ (k : Nat) (hk : 8 ≤ k) (y : Int) (h : -39999 ≤ y) (h' : y ≤ 39999) : trystref14_year.f k y = some (365 + lp y) := by
 have a := ah_bd y (by omega) (by omega)
 have b := ah_bd (y + 1) (by omega) (by omega)
 unfold trystref14_year.f
 rw [w64 (by omega) (by omega), fixed1 k hk (y + 1) (by omega) (by omega), Option.bind_some, fixed1 k hk y (by omega) (by omega), Option.bind_some, w64 (by omega) (by omega), ah_succ]
 congr 1; omega
theorem lengthM (k : Nat) (hk : 9 ≤ k) (y m : Int) (h : -40000 ≤ y) (h' : y < 40000) : trystref01_Length.f k 0 y m = some (dim (lp y) m) := by
 rw [fLength k hk 0 y m (Or.inl rfl) h h']; unfold len; rw [if_pos rfl]
/-- Days of the same weekday ahead, and behind, and the day itself. -/
def cA (fr d : Int) : Nat → Int
 | 0 => 1
 | i + 1 => cA fr d i + (if (fr + (i : Int)) % 7 = d % 7 ∧ fr + (i : Int) < d then 1 else 0)
def cB (fr d : Int) : Nat → Int
 | 0 => 1
 | i + 1 => cB fr d i + (if (fr + (i : Int)) % 7 = d % 7 ∧ fr + (i : Int) > d then 1 else 0)
theorem cA_eq (fr q : Int) (hq : 0 ≤ q) : ∀ i : Nat, cA fr (fr + q) i = 1 + (if (i : Int) ≤ q then ((i : Int) + 6 - q % 7) / 7 else q / 7) := by
 intro i
 induction i with
 | zero => simp only [cA]; rw [if_pos (by omega)]; omega
 | succ i ih =>
  simp only [cA]; rw [ih]
  by_cases c : (fr + (i : Int)) % 7 = (fr + q) % 7 ∧ fr + (i : Int) < fr + q
  ·rw [if_pos c, if_pos (by omega), if_pos (by push_cast; omega)]
   have : ((i : Int) - q) % 7 = 0 := by omega
   push_cast; omega
  ·rw [if_neg c]
   by_cases e : (i : Int) ≤ q
   ·rw [if_pos e]
    by_cases g : ((i + 1 : Nat) : Int) ≤ q
    ·rw [if_pos g]
     have : ¬ ((i : Int) - q) % 7 = 0 := by push_cast at g; omega
     push_cast; omega
    ·rw [if_neg g]; push_cast at g; omega
   ·rw [if_neg e, if_neg (by push_cast; omega)]; omega
theorem cB_eq (fr q : Int) (hq : 0 ≤ q) : ∀ i : Nat, cB fr (fr + q) i = 1 + (if (i : Int) ≤ q then 0 else ((i : Int) - 1 - q) / 7) := by
 intro i
 induction i with
 | zero => simp only [cB]; rw [if_pos (by omega)]; omega
 | succ i ih =>
  simp only [cB]; rw [ih]
  by_cases c : (fr + (i : Int)) % 7 = (fr + q) % 7 ∧ fr + (i : Int) > fr + q
  ·rw [if_pos c, if_neg (by omega), if_neg (by push_cast; omega)]
   have : ((i : Int) - q) % 7 = 0 := by omega
   push_cast; omega
  ·rw [if_neg c]
   by_cases e : (i : Int) ≤ q
   ·rw [if_pos e]
    by_cases g : ((i + 1 : Nat) : Int) ≤ q
    ·rw [if_pos g]; omega
    ·rw [if_neg g]; push_cast at g ⊢; omega
   ·rw [if_neg e, if_neg (by push_cast; omega)]
    have : ¬ ((i : Int) - q) % 7 = 0 := by omega
    push_cast; omega
theorem hit_eq (x : Fa) (fr pn n : Int) (h1 : 1 ≤ pn) (h2 : pn ≤ n) (hw : x.wd = (fr + (pn - 1)) % 7) (l : List S73) :
  anyHit x pn n l = anyR (fr + (pn - 1)) (cA fr (fr + (pn - 1)) n.toNat) (cB fr (fr + (pn - 1)) n.toNat) l := by
 unfold anyHit anyR
 congr 1
 funext j
 unfold hit hitR ordF
 rw [cA_eq fr (pn - 1) (by omega), cB_eq fr (pn - 1) (by omega), if_neg (by omega), if_neg (by omega), hw]
 show (_ && (_ || _)) = (_ && (_ || _ || _))
 generalize (rd_T73 l (j : Int)).f0 = z
 generalize (rd_T73 l (j : Int)).f1 = u
 have e1 : ((pn - 1) / 7 + 1 == z) = (z == 1 + (pn - 1) / 7) := by rw [Bool.eq_iff_iff, beq_iff_eq, beq_iff_eq]; omega
 have e2 : (-((n - pn) / 7 + 1) == z) = (z == -(1 + (((n.toNat : Nat) : Int) - 1 - (pn - 1)) / 7)) := by
  rw [Bool.eq_iff_iff, beq_iff_eq, beq_iff_eq]
  have : (((n.toNat : Nat) : Int) - 1 - (pn - 1)) = n - pn := by omega
  rw [this]; omega
 rw [e1, e2, Bool.or_assoc]
/-- What the document's Fits asks, and tells (v). -/
def RefOk (k : Nat) (r : Ru) (b d : Int) (v : Bool) : Prop := ∃ (ay am ad dy dm dd w1 w2 fy nd ny nm wb wd : Int) (hm bw b13 b12 bd : Bool), 1 ≤ r.a1 ∧ trystref14_date.f k b = some (ay, am, ad) ∧ trystref14_date.f k d = some (dy, dm, dd) ∧ trystref14_Begin.f k d r.a7 = some w1 ∧ trystref14_Begin.f k b r.a7 = some w2 ∧ trystref01_Fixed.f k 0 dy 1 1 = some fy ∧ wrap64 (wrap64 (d - fy) + 1) = nd ∧
 trystref14_has.f k r.l15 dm = some hm ∧ WeekOk k r d bw ∧ trystref14_year.f k dy = some ny ∧ trystref14_counted.f k r.l13 nd ny = some b13 ∧ trystref01_Length.f k 0 dy dm = some nm ∧ trystref14_counted.f k r.l12 dd nm = some b12 ∧ DaysOk k r d bd ∧ trystref14_weekday.f b = some wb ∧ trystref14_weekday.f d = some wd ∧ r.l13.length ≤ 40 ∧ r.l12.length ≤ 40 ∧ r.l11.length ≤ 40 ∧
 v = fitsF r (perR r b d ay am dy dm w1 w2) hm bw b13 b12 bd (usualR r wb wd am ad dm dd)
theorem refX (k : Nat) (r : Ru) (p : Rp) (b d : Int) (v : Bool) (w : World) (ok : Ok r p w) (h : RefOk k r b d v) :
  Calls Try.prog 11 #[.agg (agg r p), .int .i64 b, .int .i64 d] w fun e w' => e = .returned (.bool v) ∧ Below w.heap.size w w' := by
 obtain ⟨ay, am, ad, dy, dm, dd, w1, w2, fy, nd, ny, nm, wb, wd, hm, bw, b13, b12, bd, hi, h1, h2, h3, h4, h5, h6, h7, h8, h9, h10, h11, h12, h13, h14, h15, l13, l12, l11, rfl⟩ := h
 exact RefQ.fits k r p b d ay am ad dy dm dd w1 w2 fy nd ny nm wb wd hm bw b13 b12 bd w ok hi h1 h2 h3 h4 h5 h6 h7 h8 h9 h10 h11 h12 h13 h14 h15 l13 l12 l11
/-- What a formed rule is, as far as a day's fitting goes. -/
structure Frm (r : Ru) : Prop where
 f1 : 1 ≤ r.a0
 f4 : r.a0 ≤ 4
 i1 : 1 ≤ r.a1
 s0 : 0 ≤ r.a7
 s6 : r.a7 ≤ 6
 l11 : r.l11.length ≤ 40
 l12 : r.l12.length ≤ 40
 l13 : r.l13.length ≤ 40
 l14 : r.l14.length ≤ 40
 l15 : r.l15.length ≤ 40
 nw : r.a0 ≠ 4 → r.l14.length = 0
theorem week_eq (k : Nat) (hk : 130 ≤ k) (r : Ru) (f : Frm r) (d : Int) (hd : In d) (x : Fa) (hx : x.day = d) (y m dd : Int) (y1 : 1 ≤ y) (y9 : y ≤ 9999) (hi : Is ah lp y m dd d) (hy : x.y = y) (hdt : trystref14_date.f k d = some (y, m, dd)) :
  ∃ z n e1 t e2 b14, iso_Week.f k x.day r.a7 = some (z, n, e1) ∧ (z = x.y → iso_Weeks.f k z r.a7 = some (t, e2)) ∧ match_place_in.f k n t r.l14 = some b14 ∧ WeekOk k r d (inWeekF x z b14) := by
 have hs : Wday r.a7 := ⟨f.s0, f.s6⟩
 obtain ⟨z, z0, z1, hz, hz', e⟩ := iWeek_yes k (by omega) d r.a7 hd hs
 have bz := wk_rng z r.a7 (by omega) (by omega)
 have b1 := wk_rng y r.a7 (by omega) (by omega)
 have b2 := wk_rng (y + 1) r.a7 (by omega) (by omega)
 have hdd := hd.1
 have hdd' := hd.2
 have f14 := f.l14
 obtain ⟨cb, hcb⟩ := counted_ r.l14 (wrap64 (wrap64 (Int.tdiv (wrap64 (d - wk y r.a7)) 7) + 1)) (wrap64 (Int.tdiv (wrap64 (wk (y + 1) r.a7 - wk y r.a7)) 7)) (by omega)
 have hW : ∀ bw, bw = (decide (wk y r.a7 ≤ d) && decide (d < wk (y + 1) r.a7) && cb) → WeekOk k r d bw := fun bw hbw =>
  ⟨y, m, dd, y + 1, wk y r.a7, wk (y + 1) r.a7, _, _, cb, hdt, w64 (by omega) (by omega), fWeek1 k (by omega) y r.a7 (by omega) (by omega) f.s0 f.s6, fWeek1 k (by omega) (y + 1) r.a7 (by omega) (by omega) f.s0 f.s6, rfl, rfl, (hcb k (by omega)).1, hbw⟩
 by_cases c : z = y
 ·subst c
  have q1 : wrap64 (wrap64 (Int.tdiv (wrap64 (d - wk z r.a7)) 7) + 1) = (d - wk z r.a7) / 7 + 1 := by
   rw [w64 (x := d - wk z r.a7) (by omega) (by omega), Int.tdiv_eq_ediv_of_nonneg (by omega), w64 (x := (d - wk z r.a7) / 7) (by omega) (by omega), w64 (by omega) (by omega)]
  have q2 : wrap64 (Int.tdiv (wrap64 (wk (z + 1) r.a7 - wk z r.a7)) 7) = (wk (z + 1) r.a7 - wk z r.a7) / 7 := by
   rw [w64 (x := wk (z + 1) r.a7 - wk z r.a7) (by omega) (by omega), Int.tdiv_eq_ediv_of_nonneg (by omega), w64 (by omega) (by omega)]
  rw [q1, q2] at hcb
  refine ⟨z, _, 0, (wk (z + 1) r.a7 - wk z r.a7) / 7, 0, cb, by rw [hx]; exact e, fun _ => iWeeks_yes k (by omega) z r.a7 (by omega) (by omega) hs, (hcb k (by omega)).2, hW _ ?_⟩
  unfold inWeekF
  rw [if_pos hy.symm, decide_eq_true hz, decide_eq_true hz']; rfl
 ·obtain ⟨c2, hc2⟩ := counted_ r.l14 ((d - wk z r.a7) / 7 + 1) 0 (by omega)
  refine ⟨z, _, 0, 0, 0, c2, by rw [hx]; exact e, fun q => absurd (q.trans hy) c, (hc2 k (by omega)).2, hW _ ?_⟩
  unfold inWeekF
  rw [if_neg (fun q => c (q.trans hy))]
  by_cases g1 : wk y r.a7 ≤ d
  ·by_cases g2 : d < wk (y + 1) r.a7
   ·exact absurd (wk_one hz hz' g1 g2) c
   ·rw [decide_eq_false g2]; simp
  ·rw [decide_eq_false g1]; rfl
theorem dim_le (y m : Int) (h1 : 1 ≤ m) (h2 : m ≤ 12) : 28 ≤ dim (lp y) m ∧ dim (lp y) m ≤ 31 := dim_lo (lp y) m (lp_01 y) h1 h2
theorem days_eq (k : Nat) (hk : 130 ≤ k) (r : Ru) (f : Frm r) (d : Int) (hd : In d) (y m dd : Int) (y1 : 1 ≤ y) (y9 : y ≤ 9999) (hi : Is ah lp y m dd d) (hdt : trystref14_date.f k d = some (y, m, dd)) :
  DaysOk k r d (onDayF r ⟨d, y, m, dd, d % 7, dd, dim (lp y) m, d - ah y, 365 + lp y⟩) := by
 have m1 := hi.m1; have m2 := hi.m2; have d1 := hi.d1; have d2 := hi.d2; have he := hi.e
 have dl := dim_le y m m1 m2
 have cb := cum_bd (l := lp y) (m := m) (lp_01 y) m1 (by omega)
 have ce := cum_le (l := lp y) (a := m + 1) (b := 13) (lp_01 y) (by omega) (by omega) (by omega)
 rw [cum_end, cum_succ _ _ m1 m2] at ce
 have ab := ah_bd y (by omega) (by omega)
 have hl := lp_01 y
 have hdd := hd.1
 have hdd' := hd.2
 have key : ∀ (fr pn n : Int), d = fr + (pn - 1) → 1 ≤ pn → pn ≤ n → n ≤ 400 → -100000000 ≤ fr → fr ≤ 100000000 → (fr = if inMonth r = true then ah y + cum (lp y) m + 1 else ah y + 1) → (n = if inMonth r = true then dim (lp y) m else 365 + lp y) →
   ∀ bd, bd = anyHit ⟨d, y, m, dd, d % 7, dd, dim (lp y) m, d - ah y, 365 + lp y⟩ pn n r.l11 → DaysOk k r d bd := by
  intro fr pn n e1 p1 p2 p3 p4 p5 p6 p7 bd hbd
  refine ⟨y, m, dd, ah y + 1, 365 + lp y, ah y + cum (lp y) m + 1, dim (lp y) m, fr, n, fr + n, cA fr d, cB fr d, hdt, fixed1 k (by omega) y (by omega) (by omega), year_ k (by omega) y (by omega) (by omega), fun _ => fixedM k (by omega) y m (by omega) (by omega) m1 m2, fun _ => lengthM k (by omega) y m (by omega) (by omega), p6, p7, w64 (by omega) (by omega), by omega, p3, p4, p5, fun x a b => weekday_ x a b, by omega, by omega, rfl, fun i => rfl, rfl, fun i => rfl, f.l11, ?_⟩
  rw [hbd, hit_eq _ fr pn n p1 p2 (by show d % 7 = _; rw [← e1]), ← e1]
 unfold onDayF
 by_cases c : inMonth r = true
 ·rw [if_pos c]
  exact key (ah y + cum (lp y) m + 1) dd (dim (lp y) m) (by omega) d1 d2 (by omega) (by omega) (by omega) (by rw [if_pos c]) (by rw [if_pos c]) _ rfl
 ·rw [if_neg c]
  exact key (ah y + 1) (d - ah y) (365 + lp y) (by omega) (by omega) (by omega) (by omega) (by omega) (by omega) (by rw [if_neg c]) (by rw [if_neg c]) _ rfl
theorem usual_eq (r : Ru) (f : Frm r) (X Y : Fa) : usualF r X Y = usualR r X.wd Y.wd X.m X.d Y.m Y.d := by
 unfold usualF usualR
 have f1 := f.f1; have f4 := f.f4
 by_cases a : 0 < r.l13.length + r.l12.length + r.l11.length
 ·rw [if_pos a, if_pos a]
 rw [if_neg a, if_neg a]
 have sy : ∀ u v : Int, (u == v) = (v == u) := fun u v => by rw [Bool.eq_iff_iff, beq_iff_eq, beq_iff_eq]; exact ⟨Eq.symm, Eq.symm⟩
 by_cases c1 : r.a0 = 1
 ·rw [if_pos c1, if_neg (by omega), if_neg (by omega), if_neg (by omega), if_neg (by omega)]
 rw [if_neg c1]
 by_cases c2 : r.a0 = 2
 ·rw [if_pos (Or.inl c2), if_pos c2]; exact sy _ _
 rw [if_neg c2]
 by_cases c3 : r.a0 = 3
 ·have n14 := f.nw (by omega)
  rw [if_neg (by omega), if_pos c3]
  by_cases e : Y.d = X.d
  ·rw [if_pos e, if_pos (Or.inl c3), e]; simp
  ·rw [if_neg e]
   symm
   exact beq_eq_false_iff_ne.2 (fun q => e q.symm)
 rw [if_neg c3]
 have c4 : r.a0 = 4 := by omega
 by_cases z : 0 < r.l14.length
 ·rw [if_pos (Or.inr z), if_pos ⟨c4, z⟩]; exact sy _ _
 rw [if_neg (show ¬ (r.a0 = 2 ∨ 0 < r.l14.length) by omega), if_neg (show ¬ (r.a0 = 4 ∧ 0 < r.l14.length) by omega), if_pos c4]
 by_cases e : Y.d = X.d
 ·rw [if_pos e, if_pos e.symm]
  by_cases g : 0 < r.l15.length
  ·rw [if_pos (Or.inr g), if_pos g]
  ·rw [if_neg (show ¬ (r.a0 = 3 ∨ 0 < r.l15.length) by omega), if_neg g]; exact sy _ _
 ·rw [if_neg e, if_neg (fun q => e q.symm)]
/-- By the program, and by the document: one answer. -/
theorem main (r : Ru) (f : Frm r) (b d : Int) (hb : In b) (hd : In d) (k : Nat) (hk : 130 ≤ k) : ∃ X Y v, dayOf k b X ∧ dayOf k d Y ∧ FitsOk k r X Y v ∧ RefOk k r b d v ∧ X.day = b ∧ Y.day = d := by
 obtain ⟨ay, am, ad, a1, a9, ia, ea, fa_⟩ := date_ k hk b hb
 obtain ⟨y, m, dd, y1, y9, iy, ey, fy_⟩ := date_ k hk d hd
 have l11 := f.l11; have l12 := f.l12; have l13 := f.l13; have l14 := f.l14; have l15 := f.l15
 have hb1 := hb.1; have hb2 := hb.2; have hd1 := hd.1; have hd2 := hd.2
 have m1 := iy.m1; have m2 := iy.m2; have d1 := iy.d1; have d2 := iy.d2; have he := iy.e
 have dl := dim_le y m m1 m2
 have cb := cum_bd (l := lp y) (m := m) (lp_01 y) m1 (by omega)
 have ce := cum_le (l := lp y) (a := m + 1) (b := 13) (lp_01 y) (by omega) (by omega) (by omega)
 rw [cum_end, cum_succ _ _ m1 m2] at ce
 have hl := lp_01 y
 have ab := ah_bd y (by omega) (by omega)
 obtain ⟨hm, e3⟩ := has_ r.l15 m (by omega)
 obtain ⟨z, n, e1, t, e2, b14, w1, w2, w3, w4⟩ := week_eq k hk r f d hd ⟨d, y, m, dd, d % 7, dd, dim (lp y) m, d - ah y, 365 + lp y⟩ rfl y m dd y1 y9 iy rfl ey
 obtain ⟨b13, e13⟩ := counted_ r.l13 (d - ah y) (365 + lp y) (by omega)
 obtain ⟨b12, e12⟩ := counted_ r.l12 dd (dim (lp y) m) (by omega)
 have days := days_eq k hk r f d hd y m dd y1 y9 iy ey
 refine ⟨⟨b, ay, am, ad, b % 7, ad, dim (lp ay) am, b - ah ay, 365 + lp ay⟩, ⟨d, y, m, dd, d % 7, dd, dim (lp y) m, d - ah y, 365 + lp y⟩, _, fa_, fy_, ⟨wbg d r.a7, wbg b r.a7, z, n, e1, t, e2, hm, b14, b13, b12, f.i1, wb_p d r.a7 hd f.s0 f.s6, wb_p b r.a7 hb f.s0 f.s6, by rw [cont_has k _ _ (by omega)]; exact e3 k (by omega), w1, w2, w3, (e13 k (by omega)).2, (e12 k (by omega)).2, ⟨d1, d2, by show dim (lp y) m ≤ 400; omega⟩, ⟨by show 1 ≤ d - ah y; omega, by show d - ah y ≤ 365 + lp y; omega, by show 365 + lp y ≤ 400; omega⟩, ⟨f.l13, f.l12, f.l11⟩, rfl⟩, ?_, rfl, rfl⟩
 refine ⟨ay, am, ad, y, m, dd, wbg d r.a7, wbg b r.a7, ah y + 1, d - ah y, 365 + lp y, dim (lp y) m, b % 7, d % 7, hm, _, b13, b12, _, f.i1, ea, ey, wb_r k (by omega) d r.a7 hd f.s0 f.s6, wb_r k (by omega) b r.a7 hb f.s0 f.s6, fixed1 k (by omega) y (by omega) (by omega), by rw [w64 (x := d - (ah y + 1)) (by omega) (by omega), w64 (by omega) (by omega)]; omega, e3 k (by omega), w4, year_ k (by omega) y (by omega) (by omega), (e13 k (by omega)).1, lengthM k (by omega) y m (by omega) (by omega), (e12 k (by omega)).1, days, weekday_ b (by omega) (by omega), weekday_ d (by omega) (by omega), f.l13, f.l12, f.l11, ?_⟩
 rw [usual_eq r f]
 rfl
end Go.Proofs.Ytfdcldjoncednaa.PureFits
/- A time is right by value when it is by the reference: one answer. -/
namespace Go.Proofs.Ytfdcldjoncednaa.Right
open Go.RowKit Go.Proofs.YtfdcldjoncednaaW.PrintWords Go.Proofs.YtfdcldjoncednaaW.PrintLast Go.Proofs.Ytfdcldjoncednaa.M Go.Proofs.Ytfdcldjoncednaa.Cal
set_option linter.unusedVariables false
set_option linter.unusedSimpArgs false
theorem cRight (a : Int) : clock_Right.f a = some (decide (86400 ≤ a) && decide (a < 315537984000)) := by
 unfold clock_Right.f
 by_cases h : a ≥ 86400
 ·rw [if_pos h, decide_eq_true (show 86400 ≤ a from h)]; rfl
 ·rw [if_neg h, decide_eq_false (show ¬ 86400 ≤ a from h)]; rfl
theorem fRight (a : Int) : trystref01_Right.f a = some (decide (86400 ≤ a) && decide (a < 315537984000)) := by
 unfold trystref01_Right.f
 by_cases h : a ≥ 86400
 ·rw [if_pos h, decide_eq_true (show 86400 ≤ a from h)]; rfl
 ·rw [if_neg h, decide_eq_false (show ¬ 86400 ≤ a from h)]; rfl
theorem cSplit {a : Int} (h : 0 ≤ a) (h' : a ≤ 9223372036854775807) : clock_split.f a = some (a / 86400, a % 86400) := by
 unfold clock_split.f
 rw [Int.tmod_eq_emod_of_nonneg h, Int.tdiv_eq_ediv_of_nonneg h, if_neg (by omega), w64 (by omega) (by omega)]
theorem right_ (kd at_ : Int) (s : ByteArray) (hs : s.size ≤ 9223372036854775807) : ∃ b, ∀ k, 2 ≤ k → value_RightTime.f kd at_ s = some b ∧ trystref12_RightTime.f k kd at_ s = some b := by
 have hz1 : value_ZoneName.f s = some (Zn.znB s) := if_pos hs
 have hz2 : trystref12_ZoneName.f s = some (Zn.znB s) := if_pos hs
 by_cases r : 86400 ≤ at_ ∧ at_ < 315537984000
 ·have e1 : clock_Right.f at_ = some true := by rw [cRight, decide_eq_true r.1, decide_eq_true r.2]; rfl
  have e2 : trystref01_Right.f at_ = some true := by rw [fRight, decide_eq_true r.1, decide_eq_true r.2]; rfl
  have e3 : clock_Second.f at_ = some (at_ % 86400) := by
   unfold clock_Second.f
   rw [e1, Option.bind_some, if_pos rfl, cSplit (by omega) (by omega)]; rfl
  by_cases a : kd = 0
  ·by_cases c : s.toList = ([] : List UInt8)
   ·refine ⟨at_ % 86400 == 0, fun k hk => ⟨?_, ?_⟩⟩
    ·unfold value_RightTime.f; rw [e1, Option.bind_some, if_pos rfl, if_pos a, if_pos c, e3]; rfl
    ·unfold trystref12_RightTime.f; rw [e2, Option.bind_some, if_pos rfl, if_pos a, if_pos c, Int.tmod_eq_emod_of_nonneg (by omega)]
   ·refine ⟨false, fun k hk => ⟨?_, ?_⟩⟩
    ·unfold value_RightTime.f; rw [e1, Option.bind_some, if_pos rfl, if_pos a, if_neg c]
    ·unfold trystref12_RightTime.f; rw [e2, Option.bind_some, if_pos rfl, if_pos a, if_neg c]
  ·by_cases b : kd = 3
   ·have b1 : ¬ kd = 1 := by omega
    have b2 : (kd == 2) = false := beq_eq_false_iff_ne.2 (by omega)
    refine ⟨Zn.znB s, fun k hk => ?_⟩
    obtain ⟨k, rfl⟩ : ∃ m, k = m + 1 := ⟨k - 1, by omega⟩
    refine ⟨?_, ?_⟩
    ·unfold value_RightTime.f; rw [e1, Option.bind_some, if_pos rfl, if_neg a, if_pos b, hz1]; rfl
    ·unfold trystref12_RightTime.f; rw [e2, Option.bind_some, if_pos rfl, if_neg a, if_neg b1, b2]
     simp only [trystref12_RightTime.j0]
     rw [if_neg (by simp), if_pos b, hz2]; rfl
   ·by_cases c : kd = 1
    ·refine ⟨s.toList == ([] : List UInt8), fun k hk => ?_⟩
     obtain ⟨k, rfl⟩ : ∃ m, k = m + 1 := ⟨k - 1, by omega⟩
     refine ⟨?_, ?_⟩
     ·unfold value_RightTime.f
      rw [e1, Option.bind_some, if_pos rfl, if_neg a, if_neg b]
      by_cases q : s.toList = ([] : List UInt8)
      ·rw [if_pos q, if_pos c, q]; rfl
      ·rw [if_neg q]; simp [q]
     ·unfold trystref12_RightTime.f
      rw [e2, Option.bind_some, if_pos rfl, if_neg a, if_pos c, show (kd == 1) = true from beq_iff_eq.2 c]
      simp only [trystref12_RightTime.j0]
      rw [if_pos trivial]
    ·refine ⟨(kd == 2) && (s.toList == ([] : List UInt8)), fun k hk => ?_⟩
     obtain ⟨k, rfl⟩ : ∃ m, k = m + 1 := ⟨k - 1, by omega⟩
     refine ⟨?_, ?_⟩
     ·unfold value_RightTime.f
      rw [e1, Option.bind_some, if_pos rfl, if_neg a, if_neg b]
      by_cases q : s.toList = ([] : List UInt8)
      ·rw [if_pos q, if_neg c, q]; simp
      ·rw [if_neg q]; simp [q]
     ·unfold trystref12_RightTime.f
      rw [e2, Option.bind_some, if_pos rfl, if_neg a, if_neg c]
      simp only [trystref12_RightTime.j0]
      by_cases d : kd = 2
      ·rw [show (kd == 2) = true from beq_iff_eq.2 d, if_pos rfl, Bool.true_and]
      ·rw [show (kd == 2) = false from beq_eq_false_iff_ne.2 d, if_neg (by simp), if_neg b, Bool.false_and]
 ·have e1 : clock_Right.f at_ = some false := by
   rw [cRight]
   by_cases c : 86400 ≤ at_
   ·rw [decide_eq_false (show ¬ at_ < 315537984000 from fun z => r ⟨c, z⟩)]; simp
   ·rw [decide_eq_false c]; rfl
  have e2 : trystref01_Right.f at_ = some false := by rw [fRight, ← cRight, e1]
  refine ⟨false, fun k hk => ⟨?_, ?_⟩⟩
  ·unfold value_RightTime.f; rw [e1, Option.bind_some, if_neg (by simp)]
  ·unfold trystref12_RightTime.f; rw [e2, Option.bind_some, if_neg (by simp)]
end Go.Proofs.Ytfdcldjoncednaa.Right
/- trystlaw13.Few told. (Written by gen_reffew.py.) -/
namespace Go.Proofs.Ytfdcldjoncednaa.RefW
open Go.RowKit Go.Proofs.YtfdcldjoncednaaW.PrintWords Go.Proofs.YtfdcldjoncednaaW.PrintLast Go.Proofs.YtfdcldjoncednaaW.PrintMore Go.Proofs.Ytfdcldjoncednaa.M
set_option linter.unusedVariables false
set_option linter.unusedSimpArgs false
/-- The numbers of the first so many lists, and the days. -/
def fs (d : Nat) (g : Nat → Nat) : Nat → Int
 | 0 => (d : Int)
 | q + 1 => wrap64 (fs d g q + (g q : Int))
theorem fs_step (d : Nat) (g : Nat → Nat) (q n : Nat) (h : g q = n) : fs d g (q + 1) = wrap64 (fs d g q + (n : Int)) := by rw [fs, h]
def ln (l8 l9 l10 l12 l13 l14 l15 l16 : Nat) : Nat → Nat
 | 0 => l8
 | 1 => l9
 | 2 => l10
 | 3 => l12
 | 4 => l13
 | 5 => l14
 | 6 => l15
 | _ => l16
def few (d l8 l9 l10 l12 l13 l14 l15 l16 : Nat) : Bool := decide (fs d (ln l8 l9 l10 l12 l13 l14 l15 l16) 8 ≤ 500)
theorem few_ (a0 : Int) (a1 : Int) (a2 : Int) (a3 : Int) (a4 : Int) (a5 : ByteArray) (a6 : Bool) (a7 : Int) (A8 : Option Addr) (c8 : Nat) (l8 : List Int) (A9 : Option Addr) (c9 : Nat) (l9 : List Int) (A10 : Option Addr) (c10 : Nat) (l10 : List Int) (A11 : Option Addr) (c11 : Nat) (l11 : List S73) (A12 : Option Addr) (c12 : Nat) (l12 : List Int) (A13 : Option Addr) (c13 : Nat) (l13 : List Int) (A14 : Option Addr) (c14 : Nat) (l14 : List Int) (A15 : Option Addr) (c15 : Nat) (l15 : List Int) (A16 : Option Addr) (c16 : Nat) (l16 : List Int) (w : World) :
  Calls Try.prog 8 #[.agg #[.int .i64 a0, .int .i64 a1, .int .i64 a2, .int .i64 a3, .int .i64 a4, .string a5, .bool a6, .int .i64 a7, .slice A8 l8.length c8, .slice A9 l9.length c9, .slice A10 l10.length c10, .slice A11 l11.length c11, .slice A12 l12.length c12, .slice A13 l13.length c13, .slice A14 l14.length c14, .slice A15 l15.length c15, .slice A16 l16.length c16]] w fun e w' => e = .returned (.bool (few l11.length l8.length l9.length l10.length l12.length l13.length l14.length l15.length l16.length)) ∧ Below w.heap.size w w' :=
 RefL.few0 a0 a1 a2 a3 a4 a5 a6 a7 A8 c8 l8 A9 c9 l9 A10 c10 l10 A11 c11 l11 A12 c12 l12 A13 c13 l13 A14 c14 l14 A15 c15 l15 A16 c16 l16 (fs l11.length (ln l8.length l9.length l10.length l12.length l13.length l14.length l15.length l16.length)) (by rw [fs]) (fs_step _ _ 0 _ rfl) (fs_step _ _ 1 _ rfl) (fs_step _ _ 2 _ rfl) (fs_step _ _ 3 _ rfl) (fs_step _ _ 4 _ rfl) (fs_step _ _ 5 _ rfl) (fs_step _ _ 6 _ rfl) (fs_step _ _ 7 _ rfl) w
end Go.Proofs.Ytfdcldjoncednaa.RefW
/- The laws of match: what is asked wrongly, the first look, what is told of a formed rule. -/
namespace Go.Proofs.Ytfdcldjoncednaa.MatLaw
open Go.RowKit Go.Proofs.YtfdcldjoncednaaW.PrintWords Go.Proofs.YtfdcldjoncednaaW.PrintLast Go.Proofs.Ytfdcldjoncednaa.M Go.Proofs.Ytfdcldjoncednaa.Cal Go.Proofs.Ytfdcldjoncednaa.FunA Go.Proofs.Ytfdcldjoncednaa.FunB Go.Proofs.Ytfdcldjoncednaa.Ru Go.Proofs.Ytfdcldjoncednaa.MatP Go.Proofs.Ytfdcldjoncednaa.MatF Go.Proofs.Ytfdcldjoncednaa.MatG Go.Proofs.Ytfdcldjoncednaa.RefF Go.Proofs.Ytfdcldjoncednaa.RecG Go.Proofs.Ytfdcldjoncednaa.PureFits
set_option linter.unusedVariables false
set_option linter.unusedSimpArgs false
theorem both (r : Ru) (hs : r.a5.size ≤ 9223372036854775807) : ∃ rt : Bool, ∀ k, r.a5.size + 60 ≤ k → trystref12_RightTime.f k r.a3 r.a4 r.a5 = some rt ∧ FormOk k r (frmB r rt) := by
 obtain ⟨rt, h⟩ := Right.right_ r.a3 r.a4 r.a5 hs
 exact ⟨rt, fun k hk => ⟨(h k (by omega)).2, rt, by omega, (h k (by omega)).1, rfl⟩⟩
theorem frm_of {r : Ru} {rt : Bool} (h : frmB r rt = true) : Frm r := by
 unfold frmB at h
 simp only [Bool.and_eq_true] at h
 obtain ⟨h1, _, h3, _, h5⟩ := h
 unfold grd at h1
 simp only [Bool.and_eq_true, Bool.not_eq_true', decide_eq_false_iff_not] at h1
 have l40 : ∀ j, j < 8 → (LL r j).length ≤ 40 := fun j hj => ((RecM.formedF_iff _ _ _ _).1 (all8_at h3 j hj)).1
 have a3 := l40 3 (by omega); have a4 := l40 4 (by omega); have a5 := l40 5 (by omega); have a6 := l40 6 (by omega)
 unfold LL at a3 a4 a5 a6
 unfold last at h5
 simp only [Bool.and_eq_true, Bool.not_eq_true', Bool.or_eq_false_iff, Bool.and_eq_false_iff, decide_eq_false_iff_not] at h5
 refine ⟨by omega, by omega, by omega, by omega, by omega, by omega, a3, a4, a5, a6, fun n => ?_⟩
 rcases h5.1.1.1 with q | q
 ·exact absurd n (by simpa using q)
 ·omega
theorem fin_ (d : Int) : trystref01_In.f d = some (isDay d) := fIn d
theorem ask2 (fb : Bool) (b d : Int) : askF fb [b, d] = if fb = true then (if isDay b = true then (if isDay d = true then 0 else 2) else 2) else 10 := by
 unfold askF
 cases fb
 ·rfl
 ·rw [if_pos rfl, if_pos rfl]
  cases hb : isDay b <;> cases hd : isDay d <;> simp [hb, hd]
theorem reform (r : Ru) (p : Rp) (k : Nat) (rt : Bool) (w : World) (ok : Ok r p w) (h : trystref12_RightTime.f k r.a3 r.a4 r.a5 = some rt) :
  Calls Try.prog 15 #[.agg (agg r p)] w fun e w' => e = .returned (.bool (frmB r rt)) ∧ Below w.heap.size w w' :=
 RefF.walk r p k rt (oth r) w ok h rfl (fun i hi => rfl)
set_option maxHeartbeats 4000000 in
set_option maxRecDepth 100000 in
theorem wrong (r : Ru) (p : Rp) (k : Nat) (rt : Bool) (b d : Int) (w : World) (ok : Ok r p w) (h : trystref12_RightTime.f k r.a3 r.a4 r.a5 = some rt) :
  Calls Try.prog 10 #[.agg (agg r p), .int .i64 b, .int .i64 d] w fun e w' => e = .returned (.int .i64 (askF (frmB r rt) [b, d])) ∧ Below w.heap.size w w' := by
 have OK := Aside0.mk ok; have H := Aside0.mk h; clear ok h
 have HK := Aside0.mk (blk_new w (obj r p))
 have HB := Aside0.mk (below_alloc (Below.refl w.heap.size w) (obj r p))
 have A2 := Aside0.mk (ask2 (frmB r rt) b d)
 go_enter Try.func10, Try.ntmps10
 go_upto_region 1 with fail
 generalize w.alloc (obj r p) = w0 at HK HB ⊢
 go_wp2_with ((with_reducible refine gate_ (.load 27 (.tmp 3)) rfl ?_); refine Kd.event_run rfl (MatP.xR (.tmp 3) (w.heap.size) r p rfl rfl _ HK.out) ?_)
 refine (reform r p k rt w0 (OK.out.below HB.out) H.out).mono ?_
 rintro e w1 ⟨rfl, hb⟩
 replace HB := Aside0.mk (below_then HB.out HB.out.size hb)
 clear hb HK
 generalize hf : frmB r rt = fb at A2 ⊢
 have HF := Aside0.mk hf; clear hf
 cases fb with
 | false =>
  go_wp2_with fail
  go_ret
  exact ⟨by rw [HF.out]; rfl, HB.out⟩
 | true =>
  go_wp2_with fail
  refine (trystref01_In.calls b _ _ (fin_ b)).mono ?_
  rintro e w2 ⟨rfl, ⟨nd, rfl⟩⟩
  replace HB := Aside0.mk (pw_below_drewN HB.out nd)
  generalize w1.drewN nd = w2 at HB ⊢
  cases hb : isDay b with
  | false =>
   have B := Aside0.mk hb; clear hb
   go_wp2_with fail
   go_ret
   exact ⟨by rw [HF.out, A2.out, B.out]; rfl, HB.out⟩
  | true =>
   have B := Aside0.mk hb; clear hb
   go_wp2_with fail
   refine (trystref01_In.calls d _ _ (fin_ d)).mono ?_
   rintro e w3 ⟨rfl, ⟨nd, rfl⟩⟩
   replace HB := Aside0.mk (pw_below_drewN HB.out nd)
   generalize w2.drewN nd = w3 at HB ⊢
   cases hd : isDay d with
   | false =>
    have D := Aside0.mk hd; clear hd
    go_wp2_with fail
    go_ret
    exact ⟨by rw [HF.out, A2.out, B.out, D.out]; rfl, HB.out⟩
   | true =>
    have D := Aside0.mk hd; clear hd
    go_wp2_with fail
    go_ret
    exact ⟨by rw [HF.out, A2.out, B.out, D.out]; rfl, HB.out⟩
/-- The rule of the first look. -/
abbrev r0 : Ru := ⟨1, 1, 0, 0, 0, ⟨#[]⟩, false, 0, [], [], [], [], [], [], [], [], []⟩
abbrev p0 : Rp := ⟨none, 0, none, 0, none, 0, none, 0, none, 0, none, 0, none, 0, none, 0, none, 0⟩
theorem ok0 (w : World) : Ok r0 p0 w := ⟨Kd.C_nil _ _, Nat.le_refl _, Kd.C_nil _ _, Nat.le_refl _, Kd.C_nil _ _, Nat.le_refl _, Kd.C_nil _ _, Nat.le_refl _, Kd.C_nil _ _, Nat.le_refl _, Kd.C_nil _ _, Nat.le_refl _, Kd.C_nil _ _, Nat.le_refl _, Kd.C_nil _ _, Nat.le_refl _, Kd.C_nil _ _, Nat.le_refl _⟩
theorem LL0 (i : Nat) : LL r0 i = [] := by unfold LL; split <;> rfl
theorem frm0 (rt : Bool) : frmB r0 rt = true := by
 unfold frmB
 have h1 : grd r0 = true := rfl
 have h2 : untl r0 rt = true := by
  unfold untl
  rw [if_neg (by simp)]
  show (_ && (_ && ((⟨#[]⟩ : ByteArray).toList == _))) = _
  rw [ByteArray.toList_eq]; rfl
 have h3 : all8 r0 = true := all8_yes fun j hj => by
  unfold formL
  rw [LL0]; rfl
 have h4 : daysB r0.l11 = true := rfl
 have h5 : last r0 (oth r0 8) = true := by
  rw [oth_eq]; rfl
 rw [h1, h2, h3, h4, h5]; rfl
theorem v0 {k : Nat} {X Y : MatD.Fa} {v : Bool} (h : FitsOk k r0 X Y v) (hx : X.day = 5) (hy : Y.day = 6) : v = true := by
 obtain ⟨w1, w2, y, n, e1, t, e2, hm, b14, b13, b12, _, _, _, _, _, _, _, _, _, _, _, _, rfl⟩ := h
 have hp : perF r0 X Y w1 w2 = 1 := by
  unfold perF
  rw [if_pos rfl, hx, hy, w64 (by omega) (by omega)]; rfl
 rw [hp]
 rfl
set_option maxHeartbeats 4000000 in
set_option maxRecDepth 100000 in
theorem awake (w : World) : Calls Try.prog 7 #[] w fun e w' => e = .returned (.bool true) ∧ Below w.heap.size w w' := by
 obtain ⟨rt, hrt⟩ := both r0 (by decide)
 have hf := (hrt 300 (by decide)).2
 rw [frm0] at hf
 obtain ⟨X, Y, v, h1, h2, h3, _, h5, h6⟩ := main r0 (frm_of (frm0 rt)) 5 6 ⟨by omega, by omega⟩ ⟨by omega, by omega⟩ 300 (by omega)
 obtain rfl := v0 h3 h5 h6
 have HH := Aside0.mk (And.intro hf (And.intro h1 (And.intro h2 h3)))
 clear hrt hf h1 h2 h3 h5 h6
 go_enter Try.func7, Try.ntmps7
 go_wp2_with fail
 refine (fitsYes 300 r0 p0 true 5 6 X Y true w (ok0 w) HH.out.1 rfl HH.out.2.1 HH.out.2.2.1 HH.out.2.2.2).mono ?_
 rintro e w1 ⟨rfl, hb⟩
 have HB := Aside0.mk hb
 clear hb
 go_wp2_with fail
 go_ret
 exact ⟨rfl, HB.out⟩
theorem fewX (r : Ru) (p : Rp) (w : World) : Calls Try.prog 8 #[.agg (agg r p)] w fun e w' => e = .returned (.bool (RefW.few r.l11.length r.l8.length r.l9.length r.l10.length r.l12.length r.l13.length r.l14.length r.l15.length r.l16.length)) ∧ Below w.heap.size w w' :=
 RefW.few_ r.a0 r.a1 r.a2 r.a3 r.a4 r.a5 r.a6 r.a7 p.A8 p.c8 r.l8 p.A9 p.c9 r.l9 p.A10 p.c10 r.l10 p.A11 p.c11 r.l11 p.A12 p.c12 r.l12 p.A13 p.c13 r.l13 p.A14 p.c14 r.l14 p.A15 p.c15 r.l15 p.A16 p.c16 r.l16 w
/-- What is told of a rule, a begin and a day, by both. -/
theorem told (r : Ru) (hs : r.a5.size ≤ 9223372036854775807) (b d : Int) : ∃ (k : Nat) (rt : Bool) (e : Int) (v : Bool), trystref12_RightTime.f k r.a3 r.a4 r.a5 = some rt ∧ askF (frmB r rt) [b, d] = e ∧
  (∀ (p : Rp) (w : World), Ok r p w → Calls Try.prog 9 #[.agg (agg r p), .int .i64 b, .int .i64 d] w fun q w' => q = .returned (.tuple #[.bool v, .int .i64 e]) ∧ Below w.heap.size w w') ∧
  (e ≠ 0 → v = false) ∧ (e = 0 → ∀ (p : Rp) (w : World), Ok r p w → Calls Try.prog 11 #[.agg (agg r p), .int .i64 b, .int .i64 d] w fun q w' => q = .returned (.bool v) ∧ Below w.heap.size w w') := by
 obtain ⟨rt, hrt⟩ := both r hs
 obtain ⟨h1, h2⟩ := hrt (r.a5.size + 200) (by omega)
 by_cases c : askF (frmB r rt) [b, d] = 0
 ·have ha := c
  rw [ask2] at c
  have hf : frmB r rt = true := by
   cases q : frmB r rt with
   | true => rfl
   | false => rw [q] at c; simp at c
  rw [hf, if_pos rfl] at c
  have hb : isDay b = true := by
   cases q : isDay b with
   | true => rfl
   | false => rw [q] at c; simp at c
  rw [hb, if_pos rfl] at c
  have hd : isDay d = true := by
   cases q : isDay d with
   | true => rfl
   | false => rw [q] at c; simp at c
  have ib : In b := by unfold isDay at hb; simp at hb; exact hb
  have id_ : In d := by unfold isDay at hd; simp at hd; exact hd
  obtain ⟨X, Y, v, g1, g2, g3, g4, _, _⟩ := main r (frm_of hf) b d ib id_ (r.a5.size + 200) (by omega)
  exact ⟨r.a5.size + 200, rt, 0, v, h1, ha, fun p w ok => fitsYes (r.a5.size + 200) r p (frmB r rt) b d X Y v w ok h2 ha g1 g2 g3, fun n => absurd rfl n, fun _ p w ok => refX (r.a5.size + 200) r p b d v w ok g4⟩
 ·exact ⟨r.a5.size + 200, rt, _, false, h1, rfl, fun p w ok => fitsNo (r.a5.size + 200) r p (frmB r rt) b d _ w ok h2 rfl c, fun _ => rfl, fun n => absurd n c⟩
end Go.Proofs.Ytfdcldjoncednaa.MatLaw
/- What an argument's cells read as, kind by kind: numbers, bools, texts, structs, slices of whatever of these. -/
namespace Go.Proofs.Ytfdcldjoncednaa.Op
open Go.ChangeShapes Go.WideShapes Go.RowKit Go.Deep Go.Proofs.YtfdcldjoncednaaW.PrintWords Go.Proofs.YtfdcldjoncednaaW.PrintLast
set_option linter.unusedVariables false
set_option linter.unusedSimpArgs false
/-- Whatever reads as type t reads as kind d, and φ holds of what is read. -/
def Opk {α : Type} (P : Program) (t : TypeId) (d : Kd α) (φ : α → Prop) : Prop :=
 P.cellsOf t = d.sz ∧ ∀ {H : Type} {enc : TypeId × Value → H} {w : World} {base : Nat} {spare : Nat → Bool} {held : Bool} {fuel : Nat} {cs : List Value} {x : DataW H × List MemPlace}, DataW.trod enc P w base spare held fuel t cs = some x → ∃ z : α, d.K w z cs ∧ φ z
theorem Opk.int {P : Program} {t : TypeId} {k : IntKind} (ht : P.underlying t = some (.int k)) (hC : P.cellsOf t = 1) : Opk P t (Kd.int k) (fun n => (Lit.int k n).wf = true) :=
 ⟨hC, fun h => by obtain ⟨n, rfl, _, hw⟩ := DataW.trod_int ht h; exact ⟨n, rfl, hw⟩⟩
theorem Opk.bool {P : Program} {t : TypeId} (ht : P.underlying t = some .bool) (hC : P.cellsOf t = 1) : Opk P t Kd.bool (fun _ => True) :=
 ⟨hC, fun h => by obtain ⟨b, rfl, _⟩ := DataW.trod_bool ht h; exact ⟨b, rfl, trivial⟩⟩
theorem Opk.string {P : Program} {t : TypeId} (ht : P.underlying t = some .string) (hC : P.cellsOf t = 1) : Opk P t Kd.string (fun s => s.size ≤ maxLen) :=
 ⟨hC, fun h => by obtain ⟨s, rfl, _, hs⟩ := DataW.trod_string ht h; exact ⟨s, rfl, hs⟩⟩
theorem C_of {α : Type} (d : Kd α) (w : World) (a : Addr) (len : Nat) (hlen : len ≤ 9223372036854775807) (xs : Nat → α) (hc : ∀ i, i < len → ∃ cs, d.K w (xs i) cs ∧ ∀ j u, cs[j]? = some u → w.cell? (a.add (i * d.sz + j)) = some u) :
  Kd.C d w (some a) len ((List.range len).map xs) := by
 refine ⟨by simp, hlen, fun _ => ⟨a, rfl, fun j p hp => ?_⟩⟩
 rw [List.getElem?_map] at hp
 by_cases h : j < len
 ·rw [List.getElem?_range h] at hp
  obtain rfl := Option.some.inj hp
  obtain ⟨cs, hK, hcs⟩ := hc j h
  exact ⟨cs, d.K_len hK, hK, hcs⟩
 ·rw [List.getElem?_eq_none (by simp; omega)] at hp
  cases hp
theorem C_nil {α : Type} (d : Kd α) (w : World) (A : Option Addr) : Kd.C d w A 0 ([] : List α) := ⟨rfl, by omega, fun h => by omega⟩
theorem Opk.slice {α : Type} [Inhabited α] {P : Program} {t e : TypeId} {d : Kd α} {φ : α → Prop} (ht : P.underlying t = some (.slice e)) (hC : P.cellsOf t = 1) (he : Opk P e d φ) : Opk P t (Kd.slice e d) (fun l => l.length ≤ maxLen ∧ ∀ x ∈ l, φ x) :=
 ⟨hC, fun {H enc w base spare held fuel cs x} h => by
  rcases open_slice ht h with ⟨rfl, _⟩ | ⟨a, len, cap, m, n, D, Pl, rfl, _, hl, hm, hmm, _, hi⟩
  ·exact ⟨[], ⟨none, 0, rfl, Nat.le_refl _, C_nil _ _ _⟩, by simp, fun x hx => by cases hx⟩
  ·obtain ⟨hsz, hop⟩ := he
   have each : ∀ i, i < len → ∃ z : α, φ z ∧ ∃ cs', d.K w z cs' ∧ ∀ j u, cs'[j]? = some u → w.cell? (a.add (i * d.sz + j)) = some u := by
    intro i hil
    obtain ⟨cs', hc, ht'⟩ := hi i (by rw [hmm]; split <;> omega)
    obtain ⟨z, hz, hφ⟩ := hop ht'
    rw [hsz] at hc
    obtain ⟨_, hcl, hat⟩ := World.cells?_some hc
    refine ⟨z, hφ, cs', hz, fun j u hu => ?_⟩
    have hj : j < d.sz := by rw [← hcl]; exact (List.getElem?_eq_some_iff.1 hu).1
    rw [← Go.Deep.add_add, hat j hj, hu]
   obtain ⟨xs, hxs⟩ := choose_lt each
   have hlen : len ≤ 9223372036854775807 := by unfold maxLen at hm; omega
   have hC0 := C_of d w a len hlen xs (fun i hi' => (hxs i hi').2)
   have hl0 : ((List.range len).map xs).length = len := by simp
   refine ⟨(List.range len).map xs, ⟨some a, cap, by rw [hl0], by rw [hl0]; exact hl, by rw [hl0]; exact hC0⟩, by rw [hl0]; exact Nat.le_trans hl hm, fun x hx => ?_⟩
   obtain ⟨i, hi', rfl⟩ := List.mem_map.1 hx
   exact (hxs i (List.mem_range.1 hi')).1⟩
/-- A struct's fields from a place on. -/
structure Fl {α : Type} (P : Program) (fs : List Field) (o : Nat) (d : Kd α) (φ : α → Prop) : Prop where
 get : ∀ {H : Type} {enc : TypeId × Value → H} {w : World} {base : Nat} {spare : Nat → Bool} {held : Bool} {cs : List Value}, cs.length = o + d.sz → (∀ f ∈ fs, ∃ (n : Nat) (y : DataW H × List MemPlace), DataW.trod enc P w base spare held n f.type ((cs.drop f.offset).take (P.cellsOf f.type)) = some y) → ∃ z : α, d.K w z (cs.drop o) ∧ φ z
theorem Fl.last {α : Type} {P : Program} {f : Field} {o : Nat} {d : Kd α} {φ : α → Prop} (ho : f.offset = o) (hf : Opk P f.type d φ) : Fl P [f] o d φ := by
 constructor
 intro H enc w base spare held cs hl h
 obtain ⟨n, y, hy⟩ := h f (by simp)
 rw [ho, hf.1] at hy
 have e : (cs.drop o).take d.sz = cs.drop o := List.take_of_length_le (by rw [List.length_drop]; omega)
 rw [e] at hy
 exact hf.2 hy
theorem Fl.cons {α β : Type} {P : Program} {f : Field} {r : List Field} {o : Nat} {a : Kd α} {b : Kd β} {φ : α → Prop} {ψ : β → Prop} (ho : f.offset = o) (hf : Opk P f.type a φ) (hr : Fl P r (o + a.sz) b ψ) : Fl P (f :: r) o (Kd.pair a b) (fun x => φ x.1 ∧ ψ x.2) := by
 constructor
 intro H enc w base spare held cs hl h
 obtain ⟨n, y, hy⟩ := h f (by simp)
 rw [ho, hf.1] at hy
 obtain ⟨z0, k0, p0⟩ := hf.2 hy
 have hl' : cs.length = (o + a.sz) + b.sz := by rw [hl]; show o + (a.sz + b.sz) = _; omega
 obtain ⟨z1, k1, p1⟩ := hr.get hl' (fun g hg => h g (by simp [hg]))
 refine ⟨(z0, z1), ⟨(cs.drop o).take a.sz, cs.drop (o + a.sz), ?_, k0, k1⟩, p0, p1⟩
 rw [← List.drop_drop, List.take_append_drop]
theorem Opk.struct {α : Type} {P : Program} {t : TypeId} {fs : Array Field} {d : Kd α} {φ : α → Prop} (ht : P.underlying t = some (.struct fs)) (hC : P.cellsOf t = d.sz) (hf : Fl P fs.toList 0 d φ) : Opk P t d φ :=
 ⟨hC, fun {H enc w base spare held fuel cs x} h => by
  obtain ⟨xs, n, _, _, hlen, hxl, hg⟩ := DataW.trod_struct ht h
  obtain ⟨z, k, p⟩ := hf.get (w := w) (cs := cs) (by rw [hlen, hC]; omega) (fun f hm => by
   obtain ⟨i, hi, rfl⟩ := List.getElem_of_mem hm
   have e := hg i fs.toList[i] (by simp)
   have hx : i < xs.length := by rw [hxl]; simpa using hi
   rw [List.getElem?_eq_getElem hx] at e
   exact ⟨n, _, e⟩)
  exact ⟨z, by simpa using k, p⟩⟩
theorem Opk.iso {α β : Type} {P : Program} {t : TypeId} {d : Kd α} {φ : α → Prop} (f : β → α) (g : α → β) (hfg : ∀ x, f (g x) = x) (h : Opk P t d φ) : Opk P t (Kd.iso d f) (fun x => φ (f x)) :=
 ⟨h.1, fun hx => by
  obtain ⟨z, k, p⟩ := h.2 hx
  exact ⟨g z, by show d.K _ (f (g z)) _; rw [hfg]; exact k, by show φ (f (g z)); rw [hfg]; exact p⟩⟩
end Go.Proofs.Ytfdcldjoncednaa.Op
/- What an argument of rules reads as. -/
namespace Go.Proofs.Ytfdcldjoncednaa.OpRule
open Go.ChangeShapes Go.WideShapes Go.RowKit Go.Deep Go.Proofs.YtfdcldjoncednaaW.PrintWords Go.Proofs.YtfdcldjoncednaaW.PrintLast Go.Proofs.Ytfdcldjoncednaa.M Go.Proofs.Ytfdcldjoncednaa.Op Go.Proofs.Ytfdcldjoncednaa.Ru
set_option linter.unusedVariables false
set_option linter.unusedSimpArgs false
instance : Inhabited S73 := ⟨z73⟩
def PhW (x : S73) : Prop := (Lit.int .i64 x.f0).wf = true ∧ (Lit.int .i64 x.f1).wf = true
set_option maxRecDepth 100000 in
theorem opW : Opk Try.prog 73 k73 PhW :=
 Opk.iso (d := Kd.pair (Kd.int .i64) (Kd.int .i64)) (φ := fun x => (Lit.int .i64 x.1).wf = true ∧ (Lit.int .i64 x.2).wf = true) (fun x : S73 => (x.f0, x.f1)) (fun x : Int × Int => (⟨x.1, x.2⟩ : S73)) (fun _ => rfl) (Opk.struct (P := Try.prog) Try.underlying73 (by kernel_rfl)
  (Fl.cons rfl (Opk.int Try.underlying3 (by kernel_rfl)) (Fl.last rfl (Opk.int Try.underlying3 (by kernel_rfl)))))
abbrev W64 (n : Int) : Prop := (Lit.int .i64 n).wf = true
set_option maxRecDepth 100000 in
theorem opT : Opk Try.prog 23 (Kd.pair (Kd.int .i64) (Kd.pair (Kd.int .i64) Kd.string)) (fun x => W64 x.1 ∧ W64 x.2.1 ∧ x.2.2.size ≤ maxLen) :=
 Opk.struct (P := Try.prog) Try.underlying23 (by kernel_rfl) (Fl.cons rfl (Opk.int Try.underlying3 (by kernel_rfl)) (Fl.cons rfl (Opk.int Try.underlying2 (by kernel_rfl)) (Fl.last rfl (Opk.string Try.underlying9 (by kernel_rfl)))))
abbrev LI : Kd (List Int) := Kd.slice 3 (Kd.int .i64)
abbrev LW : Kd (List S73) := Kd.slice 73 k73
set_option maxRecDepth 100000 in
theorem opI : Opk Try.prog 24 LI (fun l => l.length ≤ maxLen ∧ ∀ x ∈ l, W64 x) := Opk.slice Try.underlying24 (by kernel_rfl) (Opk.int Try.underlying3 (by kernel_rfl))
set_option maxRecDepth 100000 in
theorem opD : Opk Try.prog 25 LW (fun l => l.length ≤ maxLen ∧ ∀ x ∈ l, PhW x) := Opk.slice Try.underlying25 (by kernel_rfl) opW
abbrev d := Kd.pair (Kd.int .i64) (Kd.pair (Kd.int .i64) (Kd.pair (Kd.int .i64) (Kd.pair (Kd.pair (Kd.int .i64) (Kd.pair (Kd.int .i64) Kd.string)) (Kd.pair (Kd.bool) (Kd.pair (Kd.int .i64) (Kd.pair (LI) (Kd.pair (LI) (Kd.pair (LI) (Kd.pair (LW) (Kd.pair (LI) (Kd.pair (LI) (Kd.pair (LI) (Kd.pair (LI) (LI))))))))))))))
abbrev V := Int × Int × Int × (Int × Int × ByteArray) × Bool × Int × List Int × List Int × List Int × List S73 × List Int × List Int × List Int × List Int × List Int
/-- What is asked of a rule that came in: its end's zone is no longer than a text may be. -/
def Ph (x : V) : Prop := x.2.2.2.1.2.2.size ≤ maxLen
set_option maxRecDepth 100000 in
theorem op : Opk Try.prog 27 d Ph := by
 have h : ∃ φ, (∀ x : V, φ x → Ph x) ∧ Opk Try.prog 27 d φ := ⟨_, fun x hx => hx.2.2.2.1.2.2, Opk.struct (P := Try.prog) Try.underlying27 (by kernel_rfl)
  (Fl.cons rfl (Opk.int Try.underlying3 (by kernel_rfl)) (Fl.cons rfl (Opk.int Try.underlying3 (by kernel_rfl)) (Fl.cons rfl (Opk.int Try.underlying3 (by kernel_rfl)) (Fl.cons rfl (opT) (Fl.cons rfl (Opk.bool Try.underlying4 (by kernel_rfl)) (Fl.cons rfl (Opk.int Try.underlying3 (by kernel_rfl)) (Fl.cons rfl (opI) (Fl.cons rfl (opI) (Fl.cons rfl (opI) (Fl.cons rfl (opD) (Fl.cons rfl (opI) (Fl.cons rfl (opI) (Fl.cons rfl (opI) (Fl.cons rfl (opI) (Fl.last rfl (opI))))))))))))))))⟩
 obtain ⟨φ, hφ, h1, h2⟩ := h
 exact ⟨h1, fun hx => by obtain ⟨z, k, q⟩ := h2 hx; exact ⟨z, k, hφ z q⟩⟩
def zero : Value := .agg #[.int .i64 0, .int .i64 0, .int .i64 0, .int .i64 0, .int .i64 0, .string ⟨#[]⟩, .bool false, .int .i64 0, .slice none 0 0, .slice none 0 0, .slice none 0 0, .slice none 0 0, .slice none 0 0, .slice none 0 0, .slice none 0 0, .slice none 0 0, .slice none 0 0]
def ru (x : V) : Ru := ⟨x.1, x.2.1, x.2.2.1, x.2.2.2.1.1, x.2.2.2.1.2.1, x.2.2.2.1.2.2, x.2.2.2.2.1, x.2.2.2.2.2.1, x.2.2.2.2.2.2.1, x.2.2.2.2.2.2.2.1, x.2.2.2.2.2.2.2.2.1, x.2.2.2.2.2.2.2.2.2.1, x.2.2.2.2.2.2.2.2.2.2.1, x.2.2.2.2.2.2.2.2.2.2.2.1, x.2.2.2.2.2.2.2.2.2.2.2.2.1, x.2.2.2.2.2.2.2.2.2.2.2.2.2.1, x.2.2.2.2.2.2.2.2.2.2.2.2.2.2⟩
theorem form {w : World} {x : V} {cs : List Value} (h : d.K w x cs) : ∃ p : Rp, cs = (agg (ru x) p).toList ∧ Ok (ru x) p w := by
 obtain ⟨x0, x1, x2, ⟨x3, x4, x5⟩, x6, x7, x8, x9, x10, x11, x12, x13, x14, x15, x16⟩ := x
 obtain ⟨a0, b0, rfl, e0, a1, b1, rfl, e1, a2, b2, rfl, e2, a3, b3, rfl, ⟨a4, b4, rfl, e4, a5, b5, rfl, e5, e6⟩, a6, b6, rfl, e7, a7, b7, rfl, e8, a8, b8, rfl, e9, a9, b9, rfl, e10, a10, b10, rfl, e11, a11, b11, rfl, e12, a12, b12, rfl, e13, a13, b13, rfl, e14, a14, b14, rfl, e15, a15, b15, rfl, e16, e17⟩ := h
 change _ = [_] at e0 e1 e2 e4 e5 e6 e7 e8
 subst e0 e1 e2 e4 e5 e6 e7 e8
 obtain ⟨A8, c8, rfl, d8, h8⟩ := e9
 obtain ⟨A9, c9, rfl, d9, h9⟩ := e10
 obtain ⟨A10, c10, rfl, d10, h10⟩ := e11
 obtain ⟨A11, c11, rfl, d11, h11⟩ := e12
 obtain ⟨A12, c12, rfl, d12, h12⟩ := e13
 obtain ⟨A13, c13, rfl, d13, h13⟩ := e14
 obtain ⟨A14, c14, rfl, d14, h14⟩ := e15
 obtain ⟨A15, c15, rfl, d15, h15⟩ := e16
 obtain ⟨A16, c16, rfl, d16, h16⟩ := e17
 exact ⟨⟨A8, c8, A9, c9, A10, c10, A11, c11, A12, c12, A13, c13, A14, c14, A15, c15, A16, c16⟩, rfl, ⟨h8, d8, h9, d9, h10, d10, h11, d11, h12, d12, h13, d13, h14, d14, h15, d15, h16, d16⟩⟩
end Go.Proofs.Ytfdcldjoncednaa.OpRule
/- Of some hundred days behind the begin those fit that the document says: with no condition. -/
namespace Go.Proofs.Ytfdcldjoncednaa.Pure
open Go.RowKit Go.Proofs.YtfdcldjoncednaaW.PrintWords Go.Proofs.YtfdcldjoncednaaW.PrintLast Go.Proofs.Ytfdcldjoncednaa.M Go.Proofs.Ytfdcldjoncednaa.Cal Go.Proofs.Ytfdcldjoncednaa.FunA Go.Proofs.Ytfdcldjoncednaa.Ru Go.Proofs.Ytfdcldjoncednaa.MatP Go.Proofs.Ytfdcldjoncednaa.MatG Go.Proofs.Ytfdcldjoncednaa.MatLaw Go.Proofs.Ytfdcldjoncednaa.RecG Go.Proofs.Ytfdcldjoncednaa.PureFits
set_option linter.unusedVariables false
set_option linter.unusedSimpArgs false
namespace MatchManyW
/-- Of a formed rule and a right begin: what is told of a day. -/
theorem told2 (r : Ru) (rt : Bool) (k : Nat) (hk : 130 ≤ k) (h : FormOk k r (frmB r rt)) (hf : frmB r rt = true) (b : Int) (hb : In b) (d : Int) (hd : In d) : ∃ v : Bool,
  (∀ (p : Rp) (w : World), Ok r p w → Calls Try.prog 9 #[.agg (agg r p), .int .i64 b, .int .i64 d] w fun q w' => q = .returned (.tuple #[.bool v, .int .i64 0]) ∧ Below w.heap.size w w') ∧
  (∀ (p : Rp) (w : World), Ok r p w → Calls Try.prog 11 #[.agg (agg r p), .int .i64 b, .int .i64 d] w fun q w' => q = .returned (.bool v) ∧ Below w.heap.size w w') := by
 obtain ⟨X, Y, v, g1, g2, g3, g4, _, _⟩ := main r (frm_of hf) b d hb hd k hk
 have ha : askF (frmB r rt) [b, d] = 0 := by
  rw [ask2, hf, if_pos rfl]
  have i1 : isDay b = true := by unfold isDay; rw [decide_eq_true hb.1, decide_eq_true hb.2]; rfl
  have i2 : isDay d = true := by unfold isDay; rw [decide_eq_true hd.1, decide_eq_true hd.2]; rfl
  rw [if_pos i1, if_pos i2]
 exact ⟨v, fun p w ok => fitsYes k r p (frmB r rt) b d X Y v w ok h ha g1 g2 g3, fun p w ok => refX k r p b d v w ok g4⟩
theorem zero_of {fb : Bool} {b d : Int} (h : askF fb [b, d] = 0) : fb = true ∧ In b := by
 rw [ask2] at h
 cases fb with
 | false => simp at h
 | true =>
  rw [if_pos rfl] at h
  cases q : isDay b with
  | false => rw [q] at h; simp at h
  | true => unfold isDay at q; simp at q; exact ⟨rfl, q⟩
set_option maxHeartbeats 4000000 in
set_option maxRecDepth 100000 in
theorem walk (r : Ru) (p : Rp) (b a : Int) (w : World) (ok : Ok r p w) (hs : r.a5.size ≤ 9223372036854775807) (a0 : 0 ≤ a) (a1 : a ≤ 65535) :
  Calls Try.prog 4 #[.agg (agg r p), .int .i64 b, .int .u16 a] w fun e w' => e = .returned (.bool true) ∧ Below w.heap.size w w' := by
 obtain ⟨rt, hrt⟩ := both r hs
 obtain ⟨h1, h2⟩ := hrt (r.a5.size + 200) (by omega)
 have T := Aside0.mk h1
 have T2 := Aside0.mk (fun q1 q2 d hd => told2 r rt (r.a5.size + 200) (by omega) h2 q1 b q2 d hd)
 have OK := Aside0.mk ok
 obtain ⟨c, hc⟩ : ∃ c, Int.tmod a 2000 = c := ⟨_, rfl⟩
 have hce : a % 2000 = c := by rw [← hc, Int.tmod_eq_emod_of_nonneg a0]
 have CB := Aside0.mk (show 0 ≤ c ∧ c < 2000 by omega)
 clear h1 h2 hrt ok hs
 have HK := Aside0.mk (blk_new w (obj r p))
 have HB := Aside0.mk (below_alloc (Below.refl w.heap.size w) (obj r p))
 go_enter Try.func4, Try.ntmps4
 go_upto_region 1 with fail
 generalize w.alloc (obj r p) = w0 at HK HB ⊢
 go_wp2_with fail
 refine (awake w0).mono ?_
 rintro e w1 ⟨rfl, hb⟩
 replace HK := Aside0.mk (blk_below HK.out hb)
 replace HB := Aside0.mk (below_then HB.out HB.out.size hb)
 clear hb
 go_wp2_with ((with_reducible refine gate_ (.load 27 (.tmp 3)) rfl ?_); (try (refine gate_guard (by rfl) ?_; dsimp only)); refine Kd.event_run rfl (MatP.xR (.tmp 3) (w.heap.size) r p rfl rfl _ HK.out) ?_)
 refine (fewX r p w1).mono ?_
 rintro e w2 ⟨rfl, hb⟩
 replace HK := Aside0.mk (blk_below HK.out hb)
 replace HB := Aside0.mk (below_then HB.out HB.out.size hb)
 clear hb
 generalize RefW.few r.l11.length r.l8.length r.l9.length r.l10.length r.l12.length r.l13.length r.l14.length r.l15.length r.l16.length = fw
 cases fw with
 | false =>
  go_wp2_with fail
  refine (awake w2).mono ?_
  rintro e w3 ⟨rfl, hb⟩
  replace HB := Aside0.mk (below_then HB.out HB.out.size hb)
  clear hb
  go_wp2_with fail
  go_ret
  exact ⟨rfl, HB.out⟩
 | true =>
  go_wp2_with ((with_reducible refine gate_ (.load 27 (.tmp 3)) rfl ?_); (try (refine gate_guard (by rfl) ?_; dsimp only)); refine Kd.event_run rfl (MatP.xR (.tmp 3) (w.heap.size) r p rfl rfl _ HK.out) ?_)
  refine (wrong r p (r.a5.size + 200) rt b b w2 (OK.out.below HB.out) T.out).mono ?_
  rintro e w3 ⟨rfl, hb⟩
  replace HK := Aside0.mk (blk_below HK.out hb)
  replace HB := Aside0.mk (below_then HB.out HB.out.size hb)
  clear hb
  generalize he : askF (frmB r rt) [b, b] = e0
  by_cases z : e0 = 0
  ·have z1 : (e0 != 0) = false := bne_eq_false_iff_eq.2 z
   have FB := Aside0.mk (zero_of (he.trans z))
   clear z he
   go_wp2_with fail
   go_loopg [26] 150 (fun kq v w' => ∃ (i : Nat) (x : Int), v = .int .i64 x ∧ Aside0 (x = (i : Int)) ∧ Aside0 (i + kq = 150) ∧ Aside0 (w'.heap[w.heap.size]? = some (obj r p)) ∧ Aside0 (Below w.heap.size w w'))
   case atStart => exact ⟨0, 0, rfl, ⟨rfl⟩, ⟨rfl⟩, HK, HB⟩
   case round =>
    clear HK HB
    obtain ⟨i, x, rfl, HX, HI, HK, HB⟩ := hrel
    cases gk with
    | zero =>
     obtain rfl : x = 150 := by have := HX.out; have := HI.out; omega
     go_wp2_with fail
     go_ret
     exact ⟨rfl, HB.out⟩
    | succ k1 =>
     have l1 : decide (x < 150) = true := decide_eq_true (by have := HX.out; have := HI.out; omega)
     have ib := FB.out.2
     obtain ⟨ib1, ib2⟩ := ib
     obtain ⟨s, hs⟩ : ∃ s, wrap64 (b + c) = s := ⟨_, rfl⟩
     have SS := Aside0.mk (show s = b + c by rw [← hs]; have := CB.out; unfold wrap64; omega)
     obtain ⟨y, hy⟩ : ∃ y, wrap64 (s + x) = y := ⟨_, rfl⟩
     have YY := Aside0.mk (show y = b + c + i by rw [← hy]; have := SS.out; have := CB.out; have := HX.out; have := HI.out; unfold wrap64; omega)
     have nx : wrap64 (x + 1) = x + 1 := by have := HX.out; have := HI.out; unfold wrap64; omega
     clear ib1 ib2
     by_cases g : y > 3652059
     ·have g1 : decide (y > 3652059) = true := decide_eq_true g
      clear g
      go_wp2_with fail
      go_ret
      exact ⟨rfl, HB.out⟩
     ·have g1 : decide (y > 3652059) = false := decide_eq_false g
      obtain ⟨v, hv1, hv2⟩ := T2.out FB.out.1 FB.out.2 y (by have := FB.out.2.1; have := YY.out; have := CB.out; exact ⟨by omega, by omega⟩)
      have V1 := Aside0.mk hv1
      have V2 := Aside0.mk hv2
      clear g hv1 hv2
      go_wp2_with ((with_reducible refine gate_ (.load 27 (.tmp 3)) rfl ?_); (try (refine gate_guard (by rfl) ?_; dsimp only)); refine Kd.event_run rfl (MatP.xR (.tmp 3) (w.heap.size) r p rfl rfl _ HK.out) ?_)
      refine (V1.out p wr (OK.out.below HB.out)).mono ?_
      rintro e w4 ⟨rfl, hb⟩
      replace HK := Aside0.mk (blk_below HK.out hb)
      replace HB := Aside0.mk (below_then HB.out HB.out.size hb)
      clear hb
      go_wp2_with ((with_reducible refine gate_ (.load 27 (.tmp 3)) rfl ?_); (try (refine gate_guard (by rfl) ?_; dsimp only)); refine Kd.event_run rfl (MatP.xR (.tmp 3) (w.heap.size) r p rfl rfl _ HK.out) ?_)
      refine (V2.out p w4 (OK.out.below HB.out)).mono ?_
      rintro e w5 ⟨rfl, hb⟩
      replace HK := Aside0.mk (blk_below HK.out hb)
      replace HB := Aside0.mk (below_then HB.out HB.out.size hb)
      clear hb V1 V2
      cases v
      all_goals
       go_wp2_with fail
       go_roundg k1
       case measure => omega
       case rel => exact ⟨i + 1, _, rfl, ⟨by first | (have := HX.out; push_cast; omega) | (rw [nx]; have := HX.out; push_cast; omega)⟩, ⟨by have := HI.out; omega⟩, HK, HB⟩
  ·have z1 : (e0 != 0) = true := bne_iff_ne.2 z
   clear z he
   go_wp2_with fail
   refine (awake w3).mono ?_
   rintro e w4 ⟨rfl, hb⟩
   replace HB := Aside0.mk (below_then HB.out HB.out.size hb)
   clear hb
   go_wp2_with fail
   go_ret
   exact ⟨rfl, HB.out⟩
end MatchManyW
theorem MatchMany_calls (cs : Array Value) (x : OpRule.V) (b a : Int) (w : World) (hK : OpRule.d.K w x cs.toList) (hP : OpRule.Ph x) (_ : (Lit.int .i64 b).wf = true) (ha : (Lit.int .u16 a).wf = true) : Calls Try.prog 4 #[.agg cs, .int .i64 b, .int .u16 a] w fun e w' => e = .returned (.bool true) ∧ Below w.heap.size w w' := by
 obtain ⟨p, hc, ok⟩ := OpRule.form hK
 obtain rfl := Array.toList_inj.1 hc
 have h16 : 0 ≤ a ∧ a ≤ 65535 := by simp [Lit.wf, IntKind.min, IntKind.max, IntKind.signed, IntKind.bits] at ha; omega
 exact MatchManyW.walk (OpRule.ru x) p b a w ok (by have h : x.2.2.2.1.2.2.size ≤ maxLen := hP; unfold maxLen at h; show x.2.2.2.1.2.2.size ≤ _; omega) h16.1 h16.2
end Go.Proofs.Ytfdcldjoncednaa.Pure
