/- Texts of this claim, merged: MatS, FunA, FunC, FunI, MrefL, FunB, MrefDate, FunD, Right, PureE. -/
import Derived.Test.YtfdcldjoncednaaMgExpandCounts14
import Derived.Test.YtfdcldjoncednaaMgExpandCounts16
import Derived.Test.YtfdcldjoncednaaMgExpandCounts12
import Derived.Test.YtfdcldjoncednaaMgExpandCounts1
import Derived.Test.YtfdcldjoncednaaMgExpandCounts2
import Derived.Test.YtfdcldjoncednaaMgExpandCounts3
import Derived.Test.YtfdcldjoncednaaMgExpandCounts8
import Derived.Test.YtfdcldjoncednaaMgExpandCounts9
import Derived.Test.YtfdcldjoncednaaMgExpandCounts10
/- match.span, match.Span. (Written by gen_mats.py.) -/
namespace Go.Proofs.Ytfdcldjoncednaa.MatS
open Go.RowKit Go.Proofs.YtfdcldjoncednaaW.PrintWords Go.Proofs.YtfdcldjoncednaaW.PrintLast Go.Proofs.YtfdcldjoncednaaW.PrintMore Go.Proofs.Ytfdcldjoncednaa.M Go.Proofs.Ytfdcldjoncednaa.Ru Go.Proofs.Ytfdcldjoncednaa.MatD Go.Proofs.Ytfdcldjoncednaa.MatP Go.Proofs.Ytfdcldjoncednaa.MatG
set_option linter.unusedVariables false
set_option linter.unusedSimpArgs false
attribute [local go_sem] max2_int min2_int max_two min_two
/-- A period's first and last day, ahead of the bounds. -/
inductive SpanOk (k : Nat) (r : Ru) (b n y m dd : Int) : Int → Int → Prop
 | day (h : r.a0 = 1) : SpanOk k r b n y m dd (b + n) (b + n)
 | week (w : Int) (h : r.a0 = 2) (hw : match_weekBegin.f b r.a7 = some w) (h0 : -1000 ≤ w) (h1 : w ≤ 4000000) : SpanOk k r b n y m dd (w + 7 * n) (w + 7 * n + 6)
 | month (r1 r2 : Int) (h : r.a0 = 3) (hm : match_month.f k y m dd n = some (r1, r2)) : SpanOk k r b n y m dd r1 r2
 | year (g1 g2 : Int) (h : r.a0 = 4) (h1 : 1 ≤ y + n) (h2 : y + n ≤ 9999) (hg : rata_Begins.f (y + n) = some g1) (hg2 : rata_Begins.f (y + n + 1) = some g2) (b0 : 0 ≤ g2) (b1 : g2 ≤ 4000000) : SpanOk k r b n y m dd g1 (g2 - 1)
 | none (h : r.a0 = 4) (h1 : ¬ (1 ≤ y + n ∧ y + n ≤ 9999)) : SpanOk k r b n y m dd 0 (-1)
set_option maxHeartbeats 4000000 in
set_option maxRecDepth 100000 in
theorem span (k : Nat) (r : Ru) (p : Rp) (b n y m dd e r1 r2 : Int) (w : World) (h : SpanOk k r b n y m dd r1 r2) (hd : rata_Date.f k b = some (y, m, dd, e)) (b1 : 1 ≤ b) (b2 : b ≤ 3652059) (n1 : -3652059 ≤ n) (n2 : n ≤ 3652059) (y1 : 1 ≤ y) (y2 : y ≤ 9999) :
  Calls Try.prog 94 #[.agg (agg r p), .int .i64 b, .int .i64 n] w fun q w' => q = .returned (.tuple #[.int .i64 r1, .int .i64 r2]) ∧ Below w.heap.size w w' := by
 have HD := Aside0.mk hd; have BB := Aside0.mk (And.intro b1 b2); have NB := Aside0.mk (And.intro n1 n2); have YB := Aside0.mk (And.intro y1 y2); clear hd b1 b2 n1 n2 y1 y2
 have HK := Aside0.mk (blk_new w (obj r p))
 have HB := Aside0.mk (below_alloc (Below.refl w.heap.size w) (obj r p))
 go_enter Try.func94, Try.ntmps94
 go_upto_region 1 with fail
 generalize w.alloc (obj r p) = w0 at HK HB ⊢
 go_wp2_with fail
 refine (rata_Date.calls k b y m dd e _ HD.out).mono ?_
 rintro q wa ⟨rfl, hb⟩
 replace HK := Aside0.mk (blk_below HK.out hb)
 replace HB := Aside0.mk (below_then HB.out HB.out.size hb)
 clear hb
 go_upto_region 2 with fail
 replace HK := Aside0.mk (blk_below HK.out (below_alloc (Below.refl _ _) (.cells #[.int .i64 y, .int .i64 m, .int .i64 dd] 50 (0, 0))))
 have HA := Aside0.mk (blk_new wa (.cells #[.int .i64 y, .int .i64 m, .int .i64 dd] 50 (0, 0)))
 replace HB := Aside0.mk (below_alloc HB.out (.cells #[.int .i64 y, .int .i64 m, .int .i64 dd] 50 (0, 0)))
 generalize wa.alloc (.cells #[.int .i64 y, .int .i64 m, .int .i64 dd] 50 (0, 0)) = wb at HK HA HB ⊢
 generalize wa.heap.size = g at HA ⊢
 have k0 : wb.cell? ⟨w.heap.size, 0, none⟩ = some (.int .i64 r.a0) := (blk_cell HK.out 0).trans rfl
 have k7 : wb.cell? ⟨w.heap.size, 7, none⟩ = some (.int .i64 r.a7) := (blk_cell HK.out 7).trans rfl
 have d0 : wb.cell? ⟨g, 0, none⟩ = some (.int .i64 y) := (blk_cell HA.out 0).trans rfl
 have d1 : wb.cell? ⟨g, 1, none⟩ = some (.int .i64 m) := (blk_cell HA.out 1).trans rfl
 have d2 : wb.cell? ⟨g, 2, none⟩ = some (.int .i64 dd) := (blk_cell HA.out 2).trans rfl
 cases h with
 | day h =>
  have x1 : (r.a0 == 1) = true := beq_iff_eq.2 (by omega)
  have x2 : (r.a0 == 2) = false := beq_eq_false_iff_ne.2 (by omega)
  have x3 : (r.a0 == 3) = false := beq_eq_false_iff_ne.2 (by omega)
  have s1 : wrap64 (b + n) = b + n := by have := BB.out; have := NB.out; unfold wrap64; omega
  clear h
  go_wp2_with fail
  go_ret2
  exact ⟨by simp [s1], HB.out⟩
 | week wk h hw h0 h1 =>
  have x1 : (r.a0 == 1) = false := beq_eq_false_iff_ne.2 (by omega)
  have x2 : (r.a0 == 2) = true := beq_iff_eq.2 (by omega)
  have x3 : (r.a0 == 3) = false := beq_eq_false_iff_ne.2 (by omega)
  obtain ⟨u, hu⟩ : ∃ u, wrap64 (7 * n) = u := ⟨_, rfl⟩
  have U := Aside0.mk (show u = 7 * n by rw [← hu]; have := NB.out; unfold wrap64; omega)
  obtain ⟨v, hv⟩ : ∃ v, wrap64 (wk + u) = v := ⟨_, rfl⟩
  have V := Aside0.mk (show v = wk + 7 * n by rw [← hv]; have := U.out; have := NB.out; unfold wrap64; omega)
  obtain ⟨z, hz⟩ : ∃ z, wrap64 (v + 7) = z := ⟨_, rfl⟩
  have Z := Aside0.mk (show z = wk + 7 * n + 7 by rw [← hz]; have := V.out; have := NB.out; unfold wrap64; omega)
  have s4 : wrap64 (z - 1) = wk + 7 * n + 6 := by have := Z.out; have := NB.out; unfold wrap64; omega
  have HW := Aside0.mk hw; have S4 := Aside0.mk s4; clear h hw h0 h1 s4
  go_wp2_with fail
  refine (match_weekBegin.calls b r.a7 wk _ HW.out).mono ?_
  rintro q wc ⟨rfl, ⟨nd, rfl⟩⟩
  replace HB := Aside0.mk (pw_below_drewN HB.out nd)
  go_wp2_with fail
  go_ret2
  exact ⟨by simp [hv, S4.out, V.out], HB.out⟩
 | month r1 r2 h hm =>
  have x1 : (r.a0 == 1) = false := beq_eq_false_iff_ne.2 (by omega)
  have x2 : (r.a0 == 2) = false := beq_eq_false_iff_ne.2 (by omega)
  have x3 : (r.a0 == 3) = true := beq_iff_eq.2 (by omega)
  have HM := Aside0.mk hm; clear h hm
  go_wp2_with fail
  refine (match_month.calls k y m dd n r1 r2 _ HM.out).mono ?_
  rintro q wc ⟨rfl, hb⟩
  replace HB := Aside0.mk (below_then HB.out HB.out.size hb)
  clear hb
  go_wp2_with fail
  go_ret2
  exact ⟨rfl, HB.out⟩
 | year r1 g2 h h1 h2 hg hg2 c0 c1 =>
  have x1 : (r.a0 == 1) = false := beq_eq_false_iff_ne.2 (by omega)
  have x2 : (r.a0 == 2) = false := beq_eq_false_iff_ne.2 (by omega)
  have x3 : (r.a0 == 3) = false := beq_eq_false_iff_ne.2 (by omega)
  obtain ⟨u, hu⟩ : ∃ u, wrap64 (y + n) = u := ⟨_, rfl⟩
  have U : u = y + n := by rw [← hu]; have := YB.out; have := NB.out; unfold wrap64; omega
  rw [← U] at hg hg2 h1 h2
  have e1 : decide (u ≥ 1) = true := decide_eq_true h1; have e2 : decide (u ≤ 9999) = true := decide_eq_true h2
  obtain ⟨v, hv⟩ : ∃ v, wrap64 (u + 1) = v := ⟨_, rfl⟩
  have V : v = u + 1 := by rw [← hv]; unfold wrap64; omega
  rw [← V] at hg2
  have s4 : wrap64 (g2 - 1) = g2 - 1 := by unfold wrap64; omega
  have HG := Aside0.mk hg; have HG2 := Aside0.mk hg2; have S4 := Aside0.mk s4; clear h h1 h2 hg hg2 c0 c1 U V s4
  go_wp2_with fail
  refine (rata_Begins.calls u r1 _ HG.out).mono ?_
  rintro q wc ⟨rfl, ⟨nd, rfl⟩⟩
  replace HB := Aside0.mk (pw_below_drewN HB.out nd)
  generalize wb.drewN nd = wc' at HB ⊢
  go_wp2_with fail
  refine (rata_Begins.calls v g2 _ HG2.out).mono ?_
  rintro q wd ⟨rfl, ⟨nd, rfl⟩⟩
  replace HB := Aside0.mk (pw_below_drewN HB.out nd)
  generalize wc'.drewN nd = wd' at HB ⊢
  go_wp2_with fail
  go_ret2
  exact ⟨by simp [S4.out], HB.out⟩
 | none h h1 =>
  have x1 : (r.a0 == 1) = false := beq_eq_false_iff_ne.2 (by omega)
  have x2 : (r.a0 == 2) = false := beq_eq_false_iff_ne.2 (by omega)
  have x3 : (r.a0 == 3) = false := beq_eq_false_iff_ne.2 (by omega)
  obtain ⟨u, hu⟩ : ∃ u, wrap64 (y + n) = u := ⟨_, rfl⟩
  have U : u = y + n := by rw [← hu]; have := YB.out; have := NB.out; unfold wrap64; omega
  rw [← U] at h1
  clear h U
  by_cases c : u ≥ 1
  ·have e1 : decide (u ≥ 1) = true := decide_eq_true c; have e2 : decide (u ≤ 9999) = false := decide_eq_false (by omega); clear c h1
   go_wp2_with fail
   go_ret2
   exact ⟨rfl, HB.out⟩
  ·have e1 : decide (u ≥ 1) = false := decide_eq_false c; clear c h1
   go_wp2_with fail
   go_ret2
   exact ⟨rfl, HB.out⟩
theorem one_C {w : World} {g : Nat} {x : Int} {t : TypeId} (h : w.heap[g]? = some (.cells #[.int .i64 x] t (0, 0))) : Kd.C (Kd.int .i64) w (some ⟨g, 0, none⟩) [x].length [x] := by
 refine Kd.C_of_reads (enc := Value.int .i64) (d := (0 : Int)) (h1 := fun _ => rfl) ⟨rfl, by simp, fun _ => ⟨_, rfl, fun j hj => ?_⟩⟩
 have hj' : j < 1 := hj
 match j, hj' with
 | 0, _ => exact (blk_cell h 0).trans rfl
/-- What Span tells: f, l, e. -/
inductive SpOk (k : Nat) (r : Ru) (fb : Bool) (b n : Int) : Int → Int → Int → Prop
 | ask (e : Int) (he : askF fb [b] = e) (ne : e ≠ 0) : SpOk k r fb b n 0 0 e
 | far (he : askF fb [b] = 0) (hn : n > 3652059 ∨ n < -3652059) : SpOk k r fb b n 0 0 2
 | ok (y m dd e r1 r2 f l : Int) (he : askF fb [b] = 0) (h : SpanOk k r b n y m dd r1 r2) (hd : rata_Date.f k b = some (y, m, dd, e)) (b1 : 1 ≤ b) (b2 : b ≤ 3652059) (n1 : -3652059 ≤ n) (n2 : n ≤ 3652059) (y1 : 1 ≤ y) (y2 : y ≤ 9999) (hfe : (if r1 < 1 then 1 else r1) = f) (hle_ : (if 3652059 < r2 then 3652059 else r2) = l) (hle : ¬ f > l) : SpOk k r fb b n f l 0
 | none (y m dd e r1 r2 f l : Int) (he : askF fb [b] = 0) (h : SpanOk k r b n y m dd r1 r2) (hd : rata_Date.f k b = some (y, m, dd, e)) (b1 : 1 ≤ b) (b2 : b ≤ 3652059) (n1 : -3652059 ≤ n) (n2 : n ≤ 3652059) (y1 : 1 ≤ y) (y2 : y ≤ 9999) (hfe : (if r1 < 1 then 1 else r1) = f) (hle_ : (if 3652059 < r2 then 3652059 else r2) = l) (hgt : f > l) : SpOk k r fb b n 0 0 2
set_option maxHeartbeats 4000000 in
set_option maxRecDepth 100000 in
theorem Span (k : Nat) (r : Ru) (p : Rp) (fb : Bool) (b n f l e : Int) (w : World) (ok : Ok r p w) (hf : FormOk k r fb) (h : SpOk k r fb b n f l e) :
  Calls Try.prog 69 #[.agg (agg r p), .int .i64 b, .int .i64 n] w fun q w' => q = .returned (.tuple #[.int .i64 f, .int .i64 l, .int .i64 e]) ∧ Below w.heap.size w w' := by
 have OK := Aside0.mk ok; have HF := Aside0.mk hf; clear ok hf
 have HK := Aside0.mk (blk_new w (obj r p))
 have HB := Aside0.mk (below_alloc (Below.refl w.heap.size w) (obj r p))
 go_enter Try.func69, Try.ntmps69
 go_upto_region 1 with fail
 generalize w.alloc (obj r p) = w0 at HK HB ⊢
 go_wp2_with ((with_reducible refine gate_ (.load 27 (.tmp 3)) rfl ?_); refine Kd.event_run rfl (xR (.tmp 3) (w.heap.size) r p rfl rfl _ HK.out) ?_)
 have HA := Aside0.mk (blk_new w0 (.cells #[.int .i64 b] 3 (0, 0)))
 replace HK := Aside0.mk (blk_below HK.out (below_alloc (Below.refl _ _) (.cells #[.int .i64 b] 3 (0, 0))))
 replace HB := Aside0.mk (below_alloc HB.out (.cells #[.int .i64 b] 3 (0, 0)))
 generalize w0.alloc (.cells #[.int .i64 b] 3 (0, 0)) = w1_ at HA HK HB ⊢
 refine (asked k r p fb _ 1 [b] w1_ (OK.out.below HB.out) HF.out (one_C HA.out)).mono ?_
 rintro q w2_ ⟨rfl, hb⟩
 replace HK := Aside0.mk (blk_below HK.out hb)
 replace HB := Aside0.mk (below_then HB.out HB.out.size hb)
 clear hb HA
 cases h with
 | ask e he ne => 
  rw [he]
  have n1 : (e != 0) = true := bne_iff_ne.2 ne; have n2 : (e == 0) = false := beq_eq_false_iff_ne.2 ne; clear ne he
  go_wp2_with fail
  go_ret3
  exact ⟨rfl, HB.out⟩
 | far he hn =>
  rw [he]
  clear he
  by_cases c : n > 3652059
  ·have c1 : decide (n > 3652059) = true := decide_eq_true c; clear c hn
   go_wp2_with fail
   go_ret3
   exact ⟨rfl, HB.out⟩
  ·have c1 : decide (n > 3652059) = false := decide_eq_false c; have c2 : decide (n < -3652059) = true := decide_eq_true (by omega); clear c hn
   go_wp2_with fail
   go_ret3
   exact ⟨rfl, HB.out⟩
 | ok y m dd ee r1 r2 f l he h hd b1 b2 n1 n2 y1 y2 hfe hle_ hle =>
  rw [he]
  have c1 : decide (n > 3652059) = false := decide_eq_false (by omega); have c2 : decide (n < -3652059) = false := decide_eq_false (by omega)
  have SP := Aside0.mk (fun w => span k r p b n y m dd ee r1 r2 w h hd b1 b2 n1 n2 y1 y2); clear he h hd b1 b2 n1 n2 y1 y2
  have g1 : decide (f > l) = false := decide_eq_false hle; clear hle
  have FE := Aside0.mk hfe; have LE := Aside0.mk hle_; clear hfe hle_
  go_wp2_with ((with_reducible refine gate_ (.load 27 (.tmp 3)) rfl ?_); refine Kd.event_run rfl (xR (.tmp 3) (w.heap.size) r p rfl rfl _ HK.out) ?_)
  refine (SP.out _).mono ?_
  rintro q w3_ ⟨rfl, hb⟩
  replace HB := Aside0.mk (below_then HB.out HB.out.size hb)
  clear hb
  have f1 : ∀ k k' : IntKind, Builtin.max2 (.int k r1) (.int k' 1) = pure (.int k f) := fun k k' => by rw [max2_int, FE.out]
  have f2 : ∀ k k' : IntKind, Builtin.min2 (.int k r2) (.int k' 3652059) = pure (.int k l) := fun k k' => by rw [min2_int, LE.out]
  go_wp2_with fail
  go_ret3
  exact ⟨rfl, HB.out⟩
 | none y m dd ee r1 r2 f l he h hd b1 b2 n1 n2 y1 y2 hfe hle_ hgt =>
  rw [he]
  have c1 : decide (n > 3652059) = false := decide_eq_false (by omega); have c2 : decide (n < -3652059) = false := decide_eq_false (by omega)
  have SP := Aside0.mk (fun w => span k r p b n y m dd ee r1 r2 w h hd b1 b2 n1 n2 y1 y2); clear he h hd b1 b2 n1 n2 y1 y2
  have g1 : decide (f > l) = true := decide_eq_true hgt; clear hgt
  have FE := Aside0.mk hfe; have LE := Aside0.mk hle_; clear hfe hle_
  go_wp2_with ((with_reducible refine gate_ (.load 27 (.tmp 3)) rfl ?_); refine Kd.event_run rfl (xR (.tmp 3) (w.heap.size) r p rfl rfl _ HK.out) ?_)
  refine (SP.out _).mono ?_
  rintro q w3_ ⟨rfl, hb⟩
  replace HB := Aside0.mk (below_then HB.out HB.out.size hb)
  clear hb
  have f1 : ∀ k k' : IntKind, Builtin.max2 (.int k r1) (.int k' 1) = pure (.int k f) := fun k k' => by rw [max2_int, FE.out]
  have f2 : ∀ k k' : IntKind, Builtin.min2 (.int k r2) (.int k' 3652059) = pure (.int k l) := fun k k' => by rw [min2_int, LE.out]
  go_wp2_with fail
  go_ret3
  exact ⟨rfl, HB.out⟩
end Go.Proofs.Ytfdcldjoncednaa.MatS
/- What the program's day arithmetic (package rata) reckons, in plain numbers. -/
namespace Go.Proofs.Ytfdcldjoncednaa.FunA
open Go.RowKit Go.Proofs.YtfdcldjoncednaaW.PrintWords Go.Proofs.YtfdcldjoncednaaW.PrintLast Go.Proofs.Ytfdcldjoncednaa.M Go.Proofs.Ytfdcldjoncednaa.Cal
def I64 (a : Int) : Prop := -9223372036854775808 ≤ a ∧ a ≤ 9223372036854775807
theorem quo (a b : Int) (hb : 0 < b) : Int.tdiv a b = if 0 ≤ a ∨ a % b = 0 then a / b else a / b + 1 := by
 rw [Int.tdiv_eq_ediv]
 have hd : b ∣ a ↔ a % b = 0 := Int.dvd_iff_emod_eq_zero
 by_cases h : 0 ≤ a ∨ a % b = 0
 ·rw [if_pos h, if_pos (h.imp id hd.2)]; omega
 ·rw [if_neg h, if_neg (fun k => h (k.imp id hd.1)), Int.sign_eq_one_of_pos hb]
theorem rem0 (a b : Int) : Int.tmod a b = 0 ↔ a % b = 0 := by
 rw [← Int.dvd_iff_tmod_eq_zero, Int.dvd_iff_emod_eq_zero]
theorem div_bd (a b : Int) (hb : 2 ≤ b) (ha : I64 a) : -4611686018427387905 ≤ a / b ∧ a / b ≤ 4611686018427387904 := by
 have h1 := Int.ediv_mul_le a (show b ≠ 0 by omega)
 have h2 := Int.lt_ediv_add_one_mul_self a (show 0 < b by omega)
 obtain ⟨ha, ha'⟩ := ha
 generalize a / b = q at *
 constructor
 ·by_cases h : 0 ≤ q + 1
  ·omega
  ·have := Int.mul_le_mul_of_nonpos_left (show q + 1 ≤ 0 by omega) hb
   omega
 ·by_cases h : q ≤ 0
  ·omega
  ·have := Int.mul_le_mul_of_nonneg_left hb (show 0 ≤ q by omega)
   omega
theorem rFloor (a b : Int) (hb : 2 ≤ b) (ha : I64 a) : rata_Floor.f a b = some (a / b) := by
 have hd := div_bd a b hb ha
 have hq := quo a b (by omega)
 unfold rata_Floor.f
 rw [if_neg (by omega)]
 by_cases h0 : a % b = 0
 ·rw [if_pos ((rem0 a b).2 h0), hq, if_pos (Or.inr h0), w64 (by omega) (by omega)]
 ·rw [if_neg (fun h => h0 ((rem0 a b).1 h)), hq]
  by_cases hn : a < 0
  ·rw [if_pos (by simp [hn]; omega), if_neg (by omega), w64 (x := a / b + 1) (by omega) (by omega), w64 (by omega) (by omega)]
   congr 1; omega
  ·rw [if_neg (by simp [hn]; omega), if_pos (by omega), w64 (by omega) (by omega)]
theorem wrap_sub (a x : Int) : wrap64 (a - wrap64 x) = wrap64 (a - x) := by unfold wrap64; omega
theorem rMod (a b : Int) (hb : 2 ≤ b) (hb' : b ≤ 4611686018427387904) (ha : I64 a) : rata_Mod.f a b = some (a % b) := by
 unfold rata_Mod.f
 have h1 := Int.emod_nonneg a (show b ≠ 0 by omega)
 have h2 := Int.emod_lt_of_pos a (show 0 < b by omega)
 rw [rFloor a b hb ha, Option.bind_some, wrap_sub, ← Int.emod_def, w64 (by omega) (by omega)]
theorem rWeekday (a : Int) (ha : I64 a) : rata_Weekday.f a = some (a % 7) := by
 unfold rata_Weekday.f; rw [rMod a 7 (by omega) (by omega) ha]; rfl
theorem rAhead (y : Int) (h : -40000 ≤ y) (h' : y ≤ 40000) : rata_ahead.f y = some (ah y) := by
 unfold rata_ahead.f
 have e : wrap64 (y - 1) = y - 1 := w64 (by omega) (by omega)
 rw [e, rFloor _ 4 (by omega) ⟨by omega, by omega⟩, rFloor _ 100 (by omega) ⟨by omega, by omega⟩, rFloor _ 400 (by omega) ⟨by omega, by omega⟩]
 simp only [Option.bind_some]
 congr 1
 unfold ah wrap64; omega
theorem ah_bd (y : Int) (h : -40000 ≤ y) (h' : y ≤ 40000) : -15000000 ≤ ah y ∧ ah y ≤ 15000000 := by unfold ah; omega
theorem rBegins (y : Int) (h : -40000 ≤ y) (h' : y ≤ 40000) : rata_Begins.f y = some (ah y + 1) := by
 have := ah_bd y h h'
 unfold rata_Begins.f
 rw [rAhead y h h', Option.bind_some, w64 (by omega) (by omega)]
/-- A day of layer 1. -/
def In (day : Int) : Prop := 1 ≤ day ∧ day ≤ 3652059
theorem rOf (day : Int) : rata_Of.f day = some (decide (1 ≤ day) && decide (day ≤ 3652059)) := by
 unfold rata_Of.f
 by_cases h : day ≥ 1
 ·rw [if_pos h, decide_eq_true (show 1 ≤ day from h)]; rfl
 ·rw [if_neg h, decide_eq_false (show ¬ 1 ≤ day from h)]; rfl
theorem rOf_yes {day : Int} (h : In day) : rata_Of.f day = some true := by
 rw [rOf, decide_eq_true h.1, decide_eq_true h.2]; rfl
end Go.Proofs.Ytfdcldjoncednaa.FunA
/- What the program's package rata reckons of dates, in plain numbers. -/
namespace Go.Proofs.Ytfdcldjoncednaa.FunC
open Go.RowKit Go.Proofs.YtfdcldjoncednaaW.PrintWords Go.Proofs.YtfdcldjoncednaaW.PrintLast Go.Proofs.Ytfdcldjoncednaa.M Go.Proofs.Ytfdcldjoncednaa.Cal Go.Proofs.Ytfdcldjoncednaa.FunA
theorem rLeap (y : Int) : rata_Leap.f y = some (decide (lp y = 1)) := by
 unfold rata_Leap.f lp
 by_cases a : y % 4 = 0
 ·rw [if_pos ((rem0 y 4).2 a), if_pos a]
  by_cases b : y % 100 = 0
  ·rw [if_pos ((rem0 y 100).2 b), if_pos b]
   by_cases c : y % 400 = 0
   ·rw [if_pos c, (rem0 y 400).2 c]; rfl
   ·rw [if_neg c]
    have : ¬ Int.tmod y 400 = 0 := fun h => c ((rem0 y 400).1 h)
    simp [this]
  ·rw [if_neg (fun h => b ((rem0 y 100).1 h)), if_neg b]; simp
 ·rw [if_neg (fun h => a ((rem0 y 4).1 h)), if_neg a]; simp
theorem rLength (k : Nat) (hk : 2 ≤ k) (y m : Int) : rata_Length.f k y m = some (dim (lp y) m) := by
 obtain ⟨k, rfl⟩ : ∃ j, k = j + 2 := ⟨k - 2, by omega⟩
 have hl := lp_01 y
 by_cases h : 1 ≤ m ∧ m ≤ 12
 ·rcases months h.1 h.2 with e | e | e | e | e | e | e | e | e | e | e | e <;> subst e <;> simp [rata_Length.f, rata_Length.j0, rata_Length.j1, dim, rLeap]
  rcases hl with e | e <;> simp [e]
 ·rw [dim_none _ _ (by omega)]
  unfold rata_Length.f
  rw [if_neg (by omega), if_neg (by omega), if_neg (by omega), if_neg (by omega), if_neg (by omega), if_neg (by omega)]
  have e12 : (m == 12) = false := beq_eq_false_iff_ne.2 (by omega)
  have e11 : (m == 11) = false := beq_eq_false_iff_ne.2 (by omega)
  rw [e12]
  simp only [rata_Length.j0]
  rw [if_neg (by simp), if_neg (by omega), if_neg (by omega), if_neg (by omega), e11]
  simp only [rata_Length.j1]
  rw [if_neg (by simp), if_neg (by omega)]
/-- A right Gregorian date. -/
def Right (y m d : Int) : Prop := 1 ≤ y ∧ y ≤ 9999 ∧ 1 ≤ d ∧ d ≤ dim (lp y) m
theorem rRight_yes (k : Nat) (hk : 2 ≤ k) (y m d : Int) (h : Right y m d) : rata_Right.f k y m d = some true := by
 unfold rata_Right.f
 rw [if_pos h.1, if_pos h.2.1, if_pos h.2.2.1, rLength k hk, Option.bind_some, decide_eq_true h.2.2.2]
theorem rGone0 (y m : Int) (hm : m ≤ 12) : ∀ (j k : Nat) (n i : Int), 1 ≤ i → i ≤ m → m - i = j → j + 2 < k → 0 ≤ n → n + 31 * j ≤ 100000 →
  rata_gone.l0 k y m n i = some (n + cum (lp y) m - cum (lp y) i) := by
 intro j
 induction j with
 | zero =>
  intro k n i h1 h2 h3 h4 h5 h6
  obtain ⟨k, rfl⟩ : ∃ j, k = j + 1 := ⟨k - 1, by omega⟩
  simp only [rata_gone.l0]
  have : i = m := by omega
  subst this
  rw [if_neg (by omega)]; congr 1; omega
 | succ j ih =>
  intro k n i h1 h2 h3 h4 h5 h6
  obtain ⟨k, rfl⟩ : ∃ j, k = j + 1 := ⟨k - 1, by omega⟩
  have hd := dim_lo (lp y) i (lp_01 y) h1 (by omega)
  have hc := cum_succ (lp y) i h1 (by omega)
  simp only [rata_gone.l0]
  rw [if_pos (by omega), rLength k (by omega), Option.bind_some, w64 (by omega) (by omega), w64 (by omega) (by omega), ih k _ (i + 1) (by omega) (by omega) (by omega) (by omega) (by omega) (by omega)]
  congr 1; omega
theorem rGone (k : Nat) (hk : 16 ≤ k) (y m : Int) (h1 : 1 ≤ m) (h2 : m ≤ 12) : rata_gone.f k y m = some (cum (lp y) m) := by
 unfold rata_gone.f
 rw [rGone0 y m h2 (m - 1).toNat k 0 1 (by omega) h1 (by omega) (by omega) (by omega) (by omega), cum_one]; congr 1; omega
theorem rDay_yes (k : Nat) (hk : 16 ≤ k) (y m d : Int) (h : Right y m d) : rata_Day.f k y m d = some (ah y + cum (lp y) m + d, 0) := by
 have hm := dim_pos (lp y) m (by have := h.2.2; omega)
 have hd := dim_lo (lp y) m (lp_01 y) hm.1 hm.2
 have hb := ah_bd y (by have := h.1; omega) (by have := h.2.1; omega)
 have hc := cum_bd (lp_01 y) hm.1 (show m ≤ 13 by omega)
 have := h.2.2
 unfold rata_Day.f
 rw [rRight_yes k (by omega) y m d h, Option.bind_some, if_pos rfl, rAhead y (by have := h.1; omega) (by have := h.2.1; omega), rGone k hk y m hm.1 hm.2]
 simp only [Option.bind_some]
 rw [w64 (x := ah y + cum (lp y) m) (by omega) (by omega), w64 (by omega) (by omega)]
theorem rYear (day : Int) (h : -10000000 ≤ day) (h' : day ≤ 10000000) : rata_Year.f day = some (yr day) := by
 unfold rata_Year.f
 rw [w64 (x := day - 1) (by omega) (by omega), rFloor _ 146097 (by omega) ⟨by omega, by omega⟩, rMod _ 146097 (by omega) (by omega) ⟨by omega, by omega⟩]
 simp only [Option.bind_some]
 have hn : 0 ≤ (day - 1) % 146097 ∧ (day - 1) % 146097 < 146097 := by omega
 have hq : -100 ≤ (day - 1) / 146097 ∧ (day - 1) / 146097 ≤ 100 := by omega
 unfold yr
 generalize (day - 1) % 146097 = n at *
 generalize (day - 1) / 146097 = q at *
 have e1 : mn (wrap64 (Int.tdiv n 36524)) 3 = yrC n := by
  rw [Int.tdiv_eq_ediv_of_nonneg (by omega), w64 (by omega) (by omega)]; unfold mn yrC; split <;> omega
 have c0 : 0 ≤ yrC n ∧ yrC n ≤ 3 ∧ 36524 * yrC n ≤ n := by unfold yrC; omega
 rw [e1, w64 (x := 36524 * yrC n) (by omega) (by omega), w64 (x := n - 36524 * yrC n) (by omega) (by omega)]
 have e2 : n - 36524 * yrC n = yrR n := rfl
 rw [e2]
 have r0 : 0 ≤ yrR n ∧ yrR n ≤ 146097 := by unfold yrR; omega
 generalize yrR n = r at *
 generalize yrC n = c at *
 rw [Int.tdiv_eq_ediv_of_nonneg (a := r) (by omega), Int.tmod_eq_emod_of_nonneg (a := r) (by omega), Int.tdiv_eq_ediv_of_nonneg (a := r % 1461) (by omega)]
 have e3 : mn (wrap64 (r % 1461 / 365)) 3 = min (r % 1461 / 365) 3 := by
  rw [w64 (by omega) (by omega)]; unfold mn; split <;> omega
 rw [e3, w64 (x := r / 1461) (by omega) (by omega)]
 congr 1
 have m0 : 0 ≤ min (r % 1461 / 365) 3 ∧ min (r % 1461 / 365) 3 ≤ 3 := by omega
 generalize min (r % 1461 / 365) 3 = z at *
 have f0 : 0 ≤ r / 1461 ∧ r / 1461 ≤ 100 := by omega
 generalize r / 1461 = f at *
 clear e1 e2 e3
 unfold wrap64; omega
theorem yr_In {day : Int} (h : In day) : 1 ≤ yr day ∧ yr day ≤ 9999 := by
 obtain ⟨h1, h2⟩ := yr_ok day
 obtain ⟨h3, h4⟩ := h
 constructor
 ·by_cases c : yr day ≤ 0
  ·have := ah_le (show yr day + 1 ≤ 1 by omega)
   have e : ah 1 = 0 := by decide
   omega
  ·omega
 ·by_cases c : 10000 ≤ yr day
  ·have := ah_le c
   have e : ah 10000 = 3652059 := by decide
   omega
  ·omega
theorem rDate0 (y : Int) : ∀ (j k : Nat) (n m : Int), 1 ≤ m → m ≤ 12 → 12 - m = j → j + 3 < k → 1 ≤ n → n + cum (lp y) m ≤ 365 + lp y →
  ∃ m' d, rata_Date.l0 k n y m 0 = some (y, m', d, 0) ∧ m ≤ m' ∧ m' ≤ 12 ∧ 1 ≤ d ∧ d ≤ dim (lp y) m' ∧ n + cum (lp y) m = cum (lp y) m' + d := by
 intro j
 induction j with
 | zero =>
  intro k n m h1 h2 h3 h4 h5 h6
  obtain ⟨k, rfl⟩ : ∃ j, k = j + 1 := ⟨k - 1, by omega⟩
  have : m = 12 := by omega
  subst this
  have e := cum_succ (lp y) 12 (by omega) (by omega)
  have e' := cum_end (lp y)
  have e2 : (12 : Int) + 1 = 13 := rfl
  rw [e2, e'] at e
  refine ⟨12, n, ?_, by omega, by omega, by omega, by omega, by omega⟩
  simp only [rata_Date.l0]
  rw [rLength k (by omega), Option.bind_some, if_neg (by omega)]
 | succ j ih =>
  intro k n m h1 h2 h3 h4 h5 h6
  obtain ⟨k, rfl⟩ : ∃ j, k = j + 1 := ⟨k - 1, by omega⟩
  have e := cum_succ (lp y) m h1 h2
  have hd := dim_lo (lp y) m (lp_01 y) h1 h2
  have hl := lp_01 y
  have hc := cum_bd (lp_01 y) h1 (show m ≤ 13 by omega)
  simp only [rata_Date.l0]
  rw [rLength k (by omega), Option.bind_some]
  by_cases c : n > dim (lp y) m
  ·rw [if_pos c, Option.bind_some, w64 (by omega) (by omega), w64 (by omega) (by omega)]
   obtain ⟨m', d, h7, h8, h9, h10, h11, h12⟩ := ih k (n - dim (lp y) m) (m + 1) (by omega) (by omega) (by omega) (by omega) (by omega) (by omega)
   exact ⟨m', d, h7, by omega, h9, h10, h11, by omega⟩
  ·rw [if_neg c]
   exact ⟨m, n, rfl, by omega, h2, h5, by omega, by omega⟩
theorem rDate_yes (k : Nat) (hk : 20 ≤ k) (day : Int) (h : In day) : ∃ m d, rata_Date.f k day = some (yr day, m, d, 0) ∧ Is ah lp (yr day) m d day := by
 have hy := yr_In h
 obtain ⟨h1, h2⟩ := yr_ok day
 have hs := ah_succ (yr day)
 have hb := ah_bd (yr day) (by omega) (by omega)
 obtain ⟨m, d, h3, h4, h5, h6, h7, h8⟩ := rDate0 (yr day) 11 k (day - ah (yr day)) 1 (by omega) (by omega) (by omega) (by omega) (by omega) (by rw [cum_one]; omega)
 rw [cum_one] at h8
 refine ⟨m, d, ?_, ⟨h4, h5, h6, h7, by omega⟩⟩
 unfold rata_Date.f
 rw [rOf_yes h, Option.bind_some, if_pos rfl, rYear day (by have := h.1; omega) (by have := h.2; omega), Option.bind_some, rAhead _ (by omega) (by omega), Option.bind_some, w64 (by have := h.1; omega) (by have := h.2; omega), h3]
theorem rInYear_yes (day : Int) (h : In day) : rata_InYear.f day = some (day - ah (yr day), 0) := by
 have hy := yr_In h
 have hb := ah_bd (yr day) (by omega) (by omega)
 unfold rata_InYear.f
 rw [rOf_yes h, Option.bind_some, if_pos rfl, rYear day (by have := h.1; omega) (by have := h.2; omega), Option.bind_some, rAhead _ (by omega) (by omega), Option.bind_some, w64 (by have := h.1; omega) (by have := h.2; omega)]
theorem Is.right {y m d day : Int} (h : Is ah lp y m d day) (hy : 1 ≤ y) (hy' : y ≤ 9999) : Right y m d := ⟨hy, hy', h.d1, h.d2⟩
end Go.Proofs.Ytfdcldjoncednaa.FunC
/- What the program's package iso reckons, in plain numbers. -/
namespace Go.Proofs.Ytfdcldjoncednaa.FunI
open Go.RowKit Go.Proofs.YtfdcldjoncednaaW.PrintWords Go.Proofs.YtfdcldjoncednaaW.PrintLast Go.Proofs.Ytfdcldjoncednaa.M Go.Proofs.Ytfdcldjoncednaa.Cal Go.Proofs.Ytfdcldjoncednaa.FunA Go.Proofs.Ytfdcldjoncednaa.FunC
theorem wk_rng (y s : Int) (h : -40000 ≤ y) (h' : y ≤ 40000) : -15000002 ≤ wk y s ∧ wk y s ≤ 15000004 := by
 have := ah_bd y h h'; have := wk_bd y s; omega
theorem iFirst (y s : Int) (h : -40000 ≤ y) (h' : y ≤ 40000) (hs : 0 ≤ s) (hs' : s ≤ 6) : iso_first.f y s = some (wk y s) := by
 have hb := ah_bd y h h'
 unfold iso_first.f
 rw [rBegins y h h', Option.bind_some, w64 (x := ah y + 1 + 3) (by omega) (by omega), rWeekday _ ⟨by omega, by omega⟩, Option.bind_some, w64 (x := (ah y + 1 + 3) % 7 - s) (by omega) (by omega), rMod _ 7 (by omega) (by omega) ⟨by omega, by omega⟩, Option.bind_some, w64 (by omega) (by omega)]
 congr 1
 unfold wk; omega
def Wday (s : Int) : Prop := 0 ≤ s ∧ s ≤ 6
theorem iRight_yes (s : Int) (h : Wday s) : iso_right.f s = some true := by
 unfold iso_right.f; rw [if_pos h.1, decide_eq_true (by have := h.2; omega)]
theorem iWeeks_yes (k : Nat) (hk : 1 ≤ k) (y s : Int) (h : 0 ≤ y) (h' : y ≤ 9999) (hs : Wday s) : iso_Weeks.f k y s = some ((wk (y + 1) s - wk y s) / 7, 0) := by
 obtain ⟨k, rfl⟩ : ∃ j, k = j + 1 := ⟨k - 1, by omega⟩
 have hw := wk_bd y s; have hw' := wk_bd (y + 1) s; have ha := ah_succ y; have hl := lp_01 y
 have hr := wk_rng y s (by omega) (by omega); have hr' := wk_rng (y + 1) s (by omega) (by omega)
 unfold iso_Weeks.f
 rw [if_neg (by omega), decide_eq_false (by omega)]
 simp only [iso_Weeks.j0]
 rw [if_neg (by simp), iRight_yes s hs, Option.bind_some, if_pos rfl, w64 (x := y + 1) (by omega) (by omega), iFirst (y + 1) s (by omega) (by omega) hs.1 hs.2, iFirst y s (by omega) (by omega) hs.1 hs.2]
 simp only [Option.bind_some]
 rw [w64 (x := wk (y + 1) s - wk y s) (by omega) (by omega), Int.tdiv_eq_ediv_of_nonneg (by omega), w64 (by omega) (by omega)]
theorem iWeek0 (day s : Int) (hd : In day) (hs : Wday s) : ∀ (j k : Nat) (y : Int), y - (yr day - 1) = j → j + 1 ≤ k → y ≤ yr day + 1 → day < wk (y + 1) s →
  ∃ z, yr day - 1 ≤ z ∧ z ≤ yr day + 1 ∧ wk z s ≤ day ∧ day < wk (z + 1) s ∧ iso_Week.l0 k day s y = some (z, (day - wk z s) / 7 + 1, 0) := by
 have hy := yr_In hd
 have ho := yr_ok day
 intro j
 induction j with
 | zero =>
  intro k y h1 h2 h3 h4
  obtain ⟨k, rfl⟩ : ∃ j, k = j + 1 := ⟨k - 1, by omega⟩
  have e : y = yr day - 1 := by omega
  subst e
  have hw := wk_bd (yr day - 1) s
  have ha := ah_le (show yr day - 1 ≤ yr day by omega)
  have hr := wk_rng (yr day - 1) s (by omega) (by omega)
  have hm := hd.1; have hm' := hd.2
  refine ⟨yr day - 1, by omega, by omega, by omega, h4, ?_⟩
  simp only [iso_Week.l0]
  rw [iFirst _ s (by omega) (by omega) hs.1 hs.2, Option.bind_some, if_neg (by omega), Option.bind_some, w64 (x := day - wk (yr day - 1) s) (by omega) (by omega), Int.tdiv_eq_ediv_of_nonneg (by omega), w64 (x := (day - wk (yr day - 1) s) / 7) (by omega) (by omega), w64 (by omega) (by omega)]
 | succ j ih =>
  intro k y h1 h2 h3 h4
  obtain ⟨k, rfl⟩ : ∃ j, k = j + 1 := ⟨k - 1, by omega⟩
  have hr := wk_rng y s (by omega) (by omega)
  have hm := hd.1; have hm' := hd.2
  simp only [iso_Week.l0]
  rw [iFirst _ s (by omega) (by omega) hs.1 hs.2, Option.bind_some]
  by_cases c : day < wk y s
  ·rw [if_pos c, w64 (by omega) (by omega)]
   exact ih k (y - 1) (by omega) (by omega) (by omega) (by rw [show y - 1 + 1 = y by omega]; exact c)
  ·refine ⟨y, by omega, h3, by omega, h4, ?_⟩
   rw [if_neg c, Option.bind_some, w64 (x := day - wk y s) (by omega) (by omega), Int.tdiv_eq_ediv_of_nonneg (by omega), w64 (x := (day - wk y s) / 7) (by omega) (by omega), w64 (by omega) (by omega)]
theorem iWeek_yes (k : Nat) (hk : 4 ≤ k) (day s : Int) (hd : In day) (hs : Wday s) : ∃ z, 0 ≤ z ∧ z ≤ 10000 ∧ wk z s ≤ day ∧ day < wk (z + 1) s ∧ iso_Week.f k day s = some (z, (day - wk z s) / 7 + 1, 0) := by
 have hy := yr_In hd
 have ho := yr_ok day
 have hw := wk_bd (yr day + 1 + 1) s
 have ha := ah_le (show yr day + 1 ≤ yr day + 1 + 1 by omega)
 obtain ⟨z, h1, h2, h3, h4, h5⟩ := iWeek0 day s hd hs 2 k (yr day + 1) (by omega) (by omega) (by omega) (by omega)
 refine ⟨z, by omega, by omega, h3, h4, ?_⟩
 unfold iso_Week.f
 rw [rOf_yes hd, Option.bind_some, if_pos rfl, iRight_yes s hs, Option.bind_some, if_pos rfl, rYear day (by have := hd.1; omega) (by have := hd.2; omega), Option.bind_some, w64 (by omega) (by omega), h5]
end Go.Proofs.Ytfdcldjoncednaa.FunI
namespace Go.Proofs.Ytfdcldjoncednaa.M
theorem kept_YtfdcldjoncednaaMrefL : True := trivial
open Go.RowKit Go.Proofs.YtfdcldjoncednaaW.PrintWords Go.Proofs.YtfdcldjoncednaaW.PrintLast Go.Proofs.YtfdcldjoncednaaW.PrintMore
attribute [local go_sem] max2_int min2_int max_two min_two
set_option linter.unusedVariables false
set_option linter.unusedSimpArgs false
/-! ### trystref01_Length: function 30 -/
end Go.Proofs.Ytfdcldjoncednaa.M
/- What the reference's day arithmetic reckons, in plain numbers: Gregorian (0), Julian (1), ISO (2) and Coptic (6) dates. -/
namespace Go.Proofs.Ytfdcldjoncednaa.FunB
open Go.RowKit Go.Proofs.YtfdcldjoncednaaW.PrintWords Go.Proofs.YtfdcldjoncednaaW.PrintLast Go.Proofs.Ytfdcldjoncednaa.M Go.Proofs.Ytfdcldjoncednaa.Cal Go.Proofs.Ytfdcldjoncednaa.FunA
def mths (c y : Int) : Int := if c = 2 then (wk (y + 1) 1 - wk y 1) / 7 else if c = 6 then 13 else 12
/-- Days of a month of the four calendars. -/
def len (c y m : Int) : Int := if c = 0 then dim (lp y) m else if c = 1 then dim (lj y) m else if m < 1 ∨ mths c y < m then 0 else if c = 2 then 7 else if m = 13 then lc y else 30
end Go.Proofs.Ytfdcldjoncednaa.FunB
namespace Go.Proofs.Ytfdcldjoncednaa.M
theorem kept_YtfdcldjoncednaaMrefDate : True := trivial
open Go.RowKit Go.Proofs.YtfdcldjoncednaaW.PrintWords Go.Proofs.YtfdcldjoncednaaW.PrintLast Go.Proofs.YtfdcldjoncednaaW.PrintMore
attribute [local go_sem] max2_int min2_int max_two min_two
set_option linter.unusedVariables false
set_option linter.unusedSimpArgs false
/-! ### trystref01_least: function 88 -/
/-! ### trystref01_hebrewDate: function 90 -/
/-! ### trystref01_Date: function 53 -/
end Go.Proofs.Ytfdcldjoncednaa.M
/- What the reference's Date tells: the date of a day in the Gregorian (0), Julian (1), ISO (2) and Coptic (6) calendar. -/
namespace Go.Proofs.Ytfdcldjoncednaa.FunD
theorem kept_YtfdcldjoncednaaFunD : True := trivial
open Go.RowKit Go.Proofs.YtfdcldjoncednaaW.PrintWords Go.Proofs.YtfdcldjoncednaaW.PrintLast Go.Proofs.Ytfdcldjoncednaa.M Go.Proofs.Ytfdcldjoncednaa.Cal Go.Proofs.Ytfdcldjoncednaa.FunA Go.Proofs.Ytfdcldjoncednaa.FunB
end Go.Proofs.Ytfdcldjoncednaa.FunD
/- A time is right by value when it is by the reference: one answer. -/
namespace Go.Proofs.Ytfdcldjoncednaa.Right
open Go.RowKit Go.Proofs.YtfdcldjoncednaaW.PrintWords Go.Proofs.YtfdcldjoncednaaW.PrintLast Go.Proofs.Ytfdcldjoncednaa.M Go.Proofs.Ytfdcldjoncednaa.Cal
set_option linter.unusedVariables false
set_option linter.unusedSimpArgs false
theorem cRight (a : Int) : clock_Right.f a = some (decide (86400 ≤ a) && decide (a < 315537984000)) := by
 unfold clock_Right.f
 by_cases h : a ≥ 86400
 ·rw [if_pos h, decide_eq_true (show 86400 ≤ a from h)]; rfl
 ·rw [if_neg h, decide_eq_false (show ¬ 86400 ≤ a from h)]; rfl
theorem fRight (a : Int) : trystref01_Right.f a = some (decide (86400 ≤ a) && decide (a < 315537984000)) := by
 unfold trystref01_Right.f
 by_cases h : a ≥ 86400
 ·rw [if_pos h, decide_eq_true (show 86400 ≤ a from h)]; rfl
 ·rw [if_neg h, decide_eq_false (show ¬ 86400 ≤ a from h)]; rfl
theorem cSplit {a : Int} (h : 0 ≤ a) (h' : a ≤ 9223372036854775807) : clock_split.f a = some (a / 86400, a % 86400) := by
 unfold clock_split.f
 rw [Int.tmod_eq_emod_of_nonneg h, Int.tdiv_eq_ediv_of_nonneg h, if_neg (by omega), w64 (by omega) (by omega)]
theorem right_ (kd at_ : Int) (s : ByteArray) (hs : s.size ≤ 9223372036854775807) : ∃ b, ∀ k, 2 ≤ k → value_RightTime.f kd at_ s = some b ∧ trystref12_RightTime.f k kd at_ s = some b := by
 have hz1 : value_ZoneName.f s = some (Zn.znB s) := if_pos hs
 have hz2 : trystref12_ZoneName.f s = some (Zn.znB s) := if_pos hs
 by_cases r : 86400 ≤ at_ ∧ at_ < 315537984000
 ·have e1 : clock_Right.f at_ = some true := by rw [cRight, decide_eq_true r.1, decide_eq_true r.2]; rfl
  have e2 : trystref01_Right.f at_ = some true := by rw [fRight, decide_eq_true r.1, decide_eq_true r.2]; rfl
  have e3 : clock_Second.f at_ = some (at_ % 86400) := by
   unfold clock_Second.f
   rw [e1, Option.bind_some, if_pos rfl, cSplit (by omega) (by omega)]; rfl
  by_cases a : kd = 0
  ·by_cases c : s.toList = ([] : List UInt8)
   ·refine ⟨at_ % 86400 == 0, fun k hk => ⟨?_, ?_⟩⟩
    ·unfold value_RightTime.f; rw [e1, Option.bind_some, if_pos rfl, if_pos a, if_pos c, e3]; rfl
    ·unfold trystref12_RightTime.f; rw [e2, Option.bind_some, if_pos rfl, if_pos a, if_pos c, Int.tmod_eq_emod_of_nonneg (by omega)]
   ·refine ⟨false, fun k hk => ⟨?_, ?_⟩⟩
    ·unfold value_RightTime.f; rw [e1, Option.bind_some, if_pos rfl, if_pos a, if_neg c]
    ·unfold trystref12_RightTime.f; rw [e2, Option.bind_some, if_pos rfl, if_pos a, if_neg c]
  ·by_cases b : kd = 3
   ·have b1 : ¬ kd = 1 := by omega
    have b2 : (kd == 2) = false := beq_eq_false_iff_ne.2 (by omega)
    refine ⟨Zn.znB s, fun k hk => ?_⟩
    obtain ⟨k, rfl⟩ : ∃ m, k = m + 1 := ⟨k - 1, by omega⟩
    refine ⟨?_, ?_⟩
    ·unfold value_RightTime.f; rw [e1, Option.bind_some, if_pos rfl, if_neg a, if_pos b, hz1]; rfl
    ·unfold trystref12_RightTime.f; rw [e2, Option.bind_some, if_pos rfl, if_neg a, if_neg b1, b2]
     simp only [trystref12_RightTime.j0]
     rw [if_neg (by simp), if_pos b, hz2]; rfl
   ·by_cases c : kd = 1
    ·refine ⟨s.toList == ([] : List UInt8), fun k hk => ?_⟩
     obtain ⟨k, rfl⟩ : ∃ m, k = m + 1 := ⟨k - 1, by omega⟩
     refine ⟨?_, ?_⟩
     ·unfold value_RightTime.f
      rw [e1, Option.bind_some, if_pos rfl, if_neg a, if_neg b]
      by_cases q : s.toList = ([] : List UInt8)
      ·rw [if_pos q, if_pos c, q]; rfl
      ·rw [if_neg q]; simp [q]
     ·unfold trystref12_RightTime.f
      rw [e2, Option.bind_some, if_pos rfl, if_neg a, if_pos c, show (kd == 1) = true from beq_iff_eq.2 c]
      simp only [trystref12_RightTime.j0]
      rw [if_pos trivial]
    ·refine ⟨(kd == 2) && (s.toList == ([] : List UInt8)), fun k hk => ?_⟩
     obtain ⟨k, rfl⟩ : ∃ m, k = m + 1 := ⟨k - 1, by omega⟩
     refine ⟨?_, ?_⟩
     ·unfold value_RightTime.f
      rw [e1, Option.bind_some, if_pos rfl, if_neg a, if_neg b]
      by_cases q : s.toList = ([] : List UInt8)
      ·rw [if_pos q, if_neg c, q]; simp
      ·rw [if_neg q]; simp [q]
     ·unfold trystref12_RightTime.f
      rw [e2, Option.bind_some, if_pos rfl, if_neg a, if_neg c]
      simp only [trystref12_RightTime.j0]
      by_cases d : kd = 2
      ·rw [show (kd == 2) = true from beq_iff_eq.2 d, if_pos rfl, Bool.true_and]
      ·rw [show (kd == 2) = false from beq_eq_false_iff_ne.2 d, if_neg (by simp), if_neg b, Bool.false_and]
 ·have e1 : clock_Right.f at_ = some false := by
   rw [cRight]
   by_cases c : 86400 ≤ at_
   ·rw [decide_eq_false (show ¬ at_ < 315537984000 from fun z => r ⟨c, z⟩)]; simp
   ·rw [decide_eq_false c]; rfl
  have e2 : trystref01_Right.f at_ = some false := by rw [fRight, ← cRight, e1]
  refine ⟨false, fun k hk => ⟨?_, ?_⟩⟩
  ·unfold value_RightTime.f; rw [e1, Option.bind_some, if_neg (by simp)]
  ·unfold trystref12_RightTime.f; rw [e2, Option.bind_some, if_neg (by simp)]
end Go.Proofs.Ytfdcldjoncednaa.Right
/- What the laws of expand need: plain. (Written by gen_puree.py.) -/
namespace Go.Proofs.Ytfdcldjoncednaa.PureE
open Go.RowKit Go.Proofs.YtfdcldjoncednaaW.PrintWords Go.Proofs.YtfdcldjoncednaaW.PrintLast Go.Proofs.Ytfdcldjoncednaa.M Go.Proofs.Ytfdcldjoncednaa.Cal Go.Proofs.Ytfdcldjoncednaa.FunA Go.Proofs.Ytfdcldjoncednaa.FunB Go.Proofs.Ytfdcldjoncednaa.FunC Go.Proofs.Ytfdcldjoncednaa.FunD Go.Proofs.Ytfdcldjoncednaa.FunI Go.Proofs.Ytfdcldjoncednaa.Ru Go.Proofs.Ytfdcldjoncednaa.MatD Go.Proofs.Ytfdcldjoncednaa.MatP Go.Proofs.Ytfdcldjoncednaa.MatF Go.Proofs.Ytfdcldjoncednaa.MatG Go.Proofs.Ytfdcldjoncednaa.MatS Go.Proofs.Ytfdcldjoncednaa.RefF Go.Proofs.Ytfdcldjoncednaa.RecG
set_option linter.unusedVariables false
set_option linter.unusedSimpArgs false
theorem i64 {a : Int} (h : -1000000000 ≤ a) (h' : a ≤ 1000000000) : I64 a := ⟨by omega, by omega⟩
/-- The day with which a day's week begins. -/
def wbg (d s : Int) : Int := d - (d - s) % 7
theorem wb_p (d s : Int) (hd : In d) (h0 : 0 ≤ s) (h6 : s ≤ 6) : match_weekBegin.f d s = some (wbg d s) := by
 obtain ⟨d1, d2⟩ := hd
 unfold match_weekBegin.f wbg
 rw [rWeekday d (i64 (by omega) (by omega)), Option.bind_some, w64 (by omega) (by omega), rMod _ 7 (by omega) (by omega) (i64 (by omega) (by omega)), Option.bind_some, show (d % 7 - s) % 7 = (d - s) % 7 by omega, w64 (by omega) (by omega)]
/-- What a formed rule is, as far as a day's fitting goes. -/
structure Frm (r : Ru) : Prop where
 f1 : 1 ≤ r.a0
 f4 : r.a0 ≤ 4
 i1 : 1 ≤ r.a1
 s0 : 0 ≤ r.a7
 s6 : r.a7 ≤ 6
 l11 : r.l11.length ≤ 40
 l12 : r.l12.length ≤ 40
 l13 : r.l13.length ≤ 40
 l14 : r.l14.length ≤ 40
 l15 : r.l15.length ≤ 40
 nw : r.a0 ≠ 4 → r.l14.length = 0
theorem dim_le (y m : Int) (h1 : 1 ≤ m) (h2 : m ≤ 12) : 28 ≤ dim (lp y) m ∧ dim (lp y) m ≤ 31 := dim_lo (lp y) m (lp_01 y) h1 h2
theorem both (r : Ru) (hs : r.a5.size ≤ 9223372036854775807) : ∃ rt : Bool, ∀ k, r.a5.size + 60 ≤ k → trystref12_RightTime.f k r.a3 r.a4 r.a5 = some rt ∧ FormOk k r (frmB r rt) := by
 obtain ⟨rt, h⟩ := Right.right_ r.a3 r.a4 r.a5 hs
 exact ⟨rt, fun k hk => ⟨(h k (by omega)).2, rt, by omega, (h k (by omega)).1, rfl⟩⟩
theorem frm_of {r : Ru} {rt : Bool} (h : frmB r rt = true) : Frm r := by
 unfold frmB at h
 simp only [Bool.and_eq_true] at h
 obtain ⟨h1, _, h3, _, h5⟩ := h
 unfold grd at h1
 simp only [Bool.and_eq_true, Bool.not_eq_true', decide_eq_false_iff_not] at h1
 have l40 : ∀ j, j < 8 → (LL r j).length ≤ 40 := fun j hj => ((RecM.formedF_iff _ _ _ _).1 (all8_at h3 j hj)).1
 have a3 := l40 3 (by omega); have a4 := l40 4 (by omega); have a5 := l40 5 (by omega); have a6 := l40 6 (by omega)
 unfold LL at a3 a4 a5 a6
 unfold last at h5
 simp only [Bool.and_eq_true, Bool.not_eq_true', Bool.or_eq_false_iff, Bool.and_eq_false_iff, decide_eq_false_iff_not] at h5
 refine ⟨by omega, by omega, by omega, by omega, by omega, by omega, a3, a4, a5, a6, fun n => ?_⟩
 rcases h5.1.1.1 with q | q
 ·exact absurd n (by simpa using q)
 ·omega
theorem wbg_bd (d s : Int) : d - 6 ≤ wbg d s ∧ wbg d s ≤ d ∧ (wbg d s - s) % 7 = 0 := by unfold wbg; omega
theorem nest {y m n q : Int} (y1 : 1 ≤ y) (y9 : y ≤ 9999) (m1 : 1 ≤ m) (m2 : m ≤ 12) (n1 : -4000000 ≤ n) (n2 : n ≤ 4000000) (hq : 12 * y + m - 1 + n = q) :
  wrap64 (12 * y) = 12 * y ∧ wrap64 (12 * y + m) = 12 * y + m ∧ wrap64 (12 * y + m - 1) = 12 * y + m - 1 ∧ wrap64 (12 * y + m - 1 + n) = q ∧ I64 q := by
 refine ⟨w64 (by omega) (by omega), w64 (by omega) (by omega), w64 (by omega) (by omega), ?_, ⟨by omega, by omega⟩⟩
 rw [w64 (by omega) (by omega)]; exact hq
theorem month_in (k : Nat) (hk : 20 ≤ k) (y m dd n q : Int) (y1 : 1 ≤ y) (y9 : y ≤ 9999) (m1 : 1 ≤ m) (m2 : m ≤ 12) (n1 : -4000000 ≤ n) (n2 : n ≤ 4000000) (hq : 12 * y + m - 1 + n = q) (h1 : 1 ≤ q / 12) (h2 : q / 12 ≤ 9999) :
  match_month.f k y m dd n = some (ah (q / 12) + cum (lp (q / 12)) (q % 12 + 1) + 1, ah (q / 12) + cum (lp (q / 12)) (q % 12 + 1) + 1 + dim (lp (q / 12)) (q % 12 + 1) - 1) := by
 obtain ⟨e1, e2, e3, e4, iq⟩ := nest y1 y9 m1 m2 n1 n2 hq
 have ab := ah_bd (q / 12) (by omega) (by omega)
 have cb := cum_bd (l := lp (q / 12)) (m := q % 12 + 1) (lp_01 _) (by omega) (by omega)
 have db := dim_le (q / 12) (q % 12 + 1) (by omega) (by omega)
 unfold match_month.f
 rw [e1, e2, e3, e4, rFloor q 12 (by omega) iq, Option.bind_some, rMod q 12 (by omega) (by omega) iq, Option.bind_some, if_neg (by omega), w64 (x := q % 12 + 1) (by omega) (by omega), decide_eq_false (by omega)]
 obtain ⟨k, rfl⟩ : ∃ j, k = j + 1 := ⟨k - 1, by omega⟩
 simp only [match_month.j0]
 rw [if_neg (by simp), rDay_yes k (by omega) (q / 12) (q % 12 + 1) 1 ⟨h1, h2, by omega, by omega⟩, Option.bind_some, rLength k (by omega), Option.bind_some]
 simp only []
 rw [w64 (x := ah (q / 12) + cum (lp (q / 12)) (q % 12 + 1) + 1 + dim (lp (q / 12)) (q % 12 + 1)) (by omega) (by omega), w64 (by omega) (by omega)]
theorem month_out (k : Nat) (hk : 20 ≤ k) (y m dd n q : Int) (y1 : 1 ≤ y) (y9 : y ≤ 9999) (m1 : 1 ≤ m) (m2 : m ≤ 12) (n1 : -4000000 ≤ n) (n2 : n ≤ 4000000) (hq : 12 * y + m - 1 + n = q) (h : ¬ (1 ≤ q / 12 ∧ q / 12 ≤ 9999)) :
  match_month.f k y m dd n = some (0, -1) := by
 obtain ⟨e1, e2, e3, e4, iq⟩ := nest y1 y9 m1 m2 n1 n2 hq
 unfold match_month.f
 rw [e1, e2, e3, e4, rFloor q 12 (by omega) iq, Option.bind_some, rMod q 12 (by omega) (by omega) iq, Option.bind_some, w64 (x := q % 12 + 1) (by omega) (by omega)]
 obtain ⟨k, rfl⟩ : ∃ j, k = j + 1 := ⟨k - 1, by omega⟩
 by_cases c : q / 12 < 1
 ·rw [if_pos c]; simp only [match_month.j0]; rw [if_pos trivial]
 ·rw [if_neg c, decide_eq_true (by omega)]; simp only [match_month.j0]; rw [if_pos trivial]
theorem cont0 (l : List Int) (a : Int) (hl : l.length ≤ 1000) : ∀ (j i : Nat), j + i = l.length → ∃ b : Int, ∀ k, j + 1 ≤ k → slices_Index_int_int.l0 k l a (l.length : Int) (i : Int) = some b := by
 intro j
 induction j with
 | zero =>
  intro i hj
  refine ⟨-1, fun k hk => ?_⟩
  obtain ⟨k, rfl⟩ : ∃ m, k = m + 1 := ⟨k - 1, by omega⟩
  simp only [slices_Index_int_int.l0]
  rw [if_neg (by omega)]
 | succ j ih =>
  intro i hj
  obtain ⟨b, hb⟩ := ih (i + 1) (by omega)
  by_cases e : a = rd l (i : Int)
  ·refine ⟨(i : Int), fun k hk => ?_⟩
   obtain ⟨k, rfl⟩ : ∃ m, k = m + 1 := ⟨k - 1, by omega⟩
   simp only [slices_Index_int_int.l0]
   rw [if_pos (by omega), if_pos (by omega), if_pos (by omega), if_pos e]
  ·refine ⟨b, fun k hk => ?_⟩
   obtain ⟨k, rfl⟩ : ∃ m, k = m + 1 := ⟨k - 1, by omega⟩
   simp only [slices_Index_int_int.l0]
   rw [if_pos (by omega), if_pos (by omega), if_pos (by omega), if_neg e, w64 (by omega) (by omega), show (i : Int) + 1 = ((i + 1 : Nat) : Int) by omega]
   exact hb k (by omega)
theorem cont_ (l : List Int) (a : Int) (hl : l.length ≤ 1000) : ∃ b, ∀ k, l.length + 1 ≤ k → slices_Contains_int_int.f k l a = some b := by
 obtain ⟨i, h⟩ := cont0 l a hl l.length 0 (by omega)
 refine ⟨decide (i ≥ 0), fun k hk => ?_⟩
 unfold slices_Contains_int_int.f slices_Index_int_int.f
 have := h k hk
 simp only [Int.natCast_zero] at this
 rw [this]; rfl
theorem place_ (l : List Int) (n o : Int) (hl : l.length ≤ 1000) : ∃ b, ∀ k, l.length + 1 ≤ k → match_place_in.f k n o l = some b := by
 obtain ⟨a, ha⟩ := cont_ l n hl
 obtain ⟨c, hc⟩ := cont_ l (wrap64 (wrap64 (n - o) - 1)) hl
 cases a with
 | true => exact ⟨true, fun k hk => by unfold match_place_in.f; rw [ha k hk]; rfl⟩
 | false => exact ⟨c, fun k hk => by unfold match_place_in.f; rw [ha k hk, Option.bind_some, if_neg (by simp), hc k hk]; rfl⟩
/-- A day's date by the program. -/
theorem dateP (k : Nat) (hk : 130 ≤ k) (d : Int) (hd : In d) : ∃ y m dd, 1 ≤ y ∧ y ≤ 9999 ∧ Is ah lp y m dd d ∧ rata_Date.f k d = some (y, m, dd, 0) ∧
  match_of.f k d = some (d, y, m, dd, d % 7, dd, dim (lp y) m, d - ah y, 365 + lp y) := by
 obtain ⟨m, dd, e1, i1⟩ := rDate_yes k (by omega) d hd
 have hy := yr_In hd
 refine ⟨yr d, m, dd, hy.1, hy.2, i1, e1, ?_⟩
 unfold match_of.f
 rw [e1, Option.bind_some, rInYear_yes d hd, Option.bind_some, rLeap, Option.bind_some, rWeekday d (i64 (by have := hd.1; omega) (by have := hd.2; omega)), rLength k (by omega)]
 rcases lp_01 (yr d) with h | h
 ·rw [h]; rfl
 ·rw [h]; rfl
/-- What a day is. -/
def fa_of (d y m dd : Int) : Fa := ⟨d, y, m, dd, d % 7, dd, dim (lp y) m, d - ah y, 365 + lp y⟩
/-- Of every day it is told whether it fits. -/
theorem fitsEx (r : Ru) (f : Frm r) (k : Nat) (hk : 130 ≤ k) (B : Fa) (hB : In B.day) (d : Int) (hd : In d) : ∃ X v, dayOf k d X ∧ FitsOk k r B X v := by
 obtain ⟨y, m, dd, y1, y9, iy, _, ey⟩ := dateP k hk d hd
 have m1 := iy.m1; have m2 := iy.m2; have d1 := iy.d1; have d2 := iy.d2; have he := iy.e
 have dl := dim_le y m m1 m2
 have cb := cum_bd (l := lp y) (m := m) (lp_01 y) m1 (by omega)
 have ce := cum_le (l := lp y) (a := m + 1) (b := 13) (lp_01 y) (by omega) (by omega) (by omega)
 rw [cum_end, cum_succ _ _ m1 m2] at ce
 have hl := lp_01 y
 have ab := ah_bd y (by omega) (by omega)
 have l12 := f.l12; have l13 := f.l13; have l14 := f.l14; have l15 := f.l15
 have hs : Wday r.a7 := ⟨f.s0, f.s6⟩
 obtain ⟨z, z0, z1, hz, hz', e⟩ := iWeek_yes k (by omega) d r.a7 hd hs
 obtain ⟨hm, e3⟩ := cont_ r.l15 m (by omega)
 obtain ⟨b13, e13⟩ := place_ r.l13 (d - ah y) (365 + lp y) (by omega)
 obtain ⟨b12, e12⟩ := place_ r.l12 dd (dim (lp y) m) (by omega)
 obtain ⟨b14, e14⟩ := place_ r.l14 ((d - wk z r.a7) / 7 + 1) ((wk (z + 1) r.a7 - wk z r.a7) / 7) (by omega)
 exact ⟨fa_of d y m dd, _, ey, wbg d r.a7, wbg B.day r.a7, z, _, 0, _, 0, hm, b14, b13, b12, f.i1, wb_p d r.a7 hd f.s0 f.s6, wb_p B.day r.a7 hB f.s0 f.s6, e3 k (by omega), e, fun q => iWeeks_yes k (by omega) z r.a7 (by omega) (by have h : z = y := q; omega) hs, e14 k (by omega), e13 k (by omega), e12 k (by omega), ⟨d1, d2, by show dim (lp y) m ≤ 400; omega⟩, ⟨by show 1 ≤ d - ah y; omega, by show d - ah y ≤ 365 + lp y; omega, by show 365 + lp y ≤ 400; omega⟩, ⟨f.l13, f.l12, f.l11⟩, rfl⟩
/-- A period's first and last day, ahead of the bounds. -/
theorem rawP (k : Nat) (hk : 130 ≤ k) (r : Ru) (f : Frm r) (b : Int) (hb : In b) (y m dd : Int) (y1 : 1 ≤ y) (y9 : y ≤ 9999) (ib : Is ah lp y m dd b) (n : Int) (n1 : -4000000 ≤ n) (n2 : n ≤ 4000000) :
  ∃ r1 r2, SpanOk k r b n y m dd r1 r2 := by
 have f1 := f.f1; have f4 := f.f4
 have hb1 := hb.1; have hb2 := hb.2
 have m1 := ib.m1; have m2 := ib.m2
 by_cases c1 : r.a0 = 1
 ·exact ⟨_, _, .day c1⟩
 by_cases c2 : r.a0 = 2
 ·have u := wbg_bd b r.a7
  exact ⟨_, _, .week (wbg b r.a7) c2 (wb_p b r.a7 hb f.s0 f.s6) (by omega) (by omega)⟩
 by_cases c3 : r.a0 = 3
 ·obtain ⟨q, hq⟩ : ∃ q, 12 * y + m - 1 + n = q := ⟨_, rfl⟩
  by_cases g : 1 ≤ q / 12 ∧ q / 12 ≤ 9999
  ·exact ⟨_, _, .month _ _ c3 (month_in k (by omega) y m dd n q y1 y9 m1 m2 n1 n2 hq g.1 g.2)⟩
  ·exact ⟨_, _, .month _ _ c3 (month_out k (by omega) y m dd n q y1 y9 m1 m2 n1 n2 hq g)⟩
 have c4 : r.a0 = 4 := by omega
 by_cases g : 1 ≤ y + n ∧ y + n ≤ 9999
 ·have am := ah_le (show (1 : Int) ≤ y + n + 1 by omega)
  have am2 := ah_le (show y + n + 1 ≤ 10000 by omega)
  have a0 : ah 1 = 0 := by decide
  have a1 : ah 10000 = 3652059 := by decide
  exact ⟨_, _, .year _ _ c4 g.1 g.2 (rBegins _ (by omega) (by omega)) (rBegins _ (by omega) (by omega)) (by omega) (by omega)⟩
 ·exact ⟨_, _, .none c4 g⟩
theorem ask_one {b : Int} (hb : In b) : askF true [b] = 0 := by
 unfold askF; rw [if_pos rfl]
 have : isDay b = true := by unfold isDay; rw [decide_eq_true hb.1, decide_eq_true hb.2]; rfl
 simp [this]
/-- What Span tells, of every number. -/
theorem spanEx (k : Nat) (hk : 130 ≤ k) (r : Ru) (f : Frm r) (b : Int) (hb : In b) (n : Int) : ∃ g l e, SpOk k r true b n g l e ∧ (e = 0 → 1 ≤ g ∧ g ≤ l ∧ l ≤ 3652059 ∧ n ≤ 3652059) := by
 by_cases c : n > 3652059 ∨ n < -3652059
 ·exact ⟨0, 0, 2, .far (ask_one hb) c, fun h => by omega⟩
 obtain ⟨y, m, dd, y1, y9, iy, e1, _⟩ := dateP k hk b hb
 obtain ⟨r1, r2, hS⟩ := rawP k hk r f b hb y m dd y1 y9 iy n (by omega) (by omega)
 obtain ⟨f0, hf0⟩ : ∃ f0, (if r1 < 1 then 1 else r1) = f0 := ⟨_, rfl⟩
 obtain ⟨l0, hl0⟩ : ∃ l0, (if 3652059 < r2 then 3652059 else r2) = l0 := ⟨_, rfl⟩
 by_cases g : f0 > l0
 ·exact ⟨0, 0, 2, .none y m dd 0 r1 r2 f0 l0 (ask_one hb) hS e1 hb.1 hb.2 (by omega) (by omega) y1 y9 hf0 hl0 g, fun h => by omega⟩
 ·exact ⟨f0, l0, 0, .ok y m dd 0 r1 r2 f0 l0 (ask_one hb) hS e1 hb.1 hb.2 (by omega) (by omega) y1 y9 hf0 hl0 g, fun _ => by split at hf0 <;> split at hl0 <;> omega⟩
end Go.Proofs.Ytfdcldjoncednaa.PureE
