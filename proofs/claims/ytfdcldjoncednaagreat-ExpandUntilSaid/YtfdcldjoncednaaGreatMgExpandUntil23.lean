/- Texts of this claim, merged: MatS, FunA, FunC, FunI, MrefL, FunB. -/
import Derived.Test.YtfdcldjoncednaaGreatMgExpandUntil20
import Derived.Test.YtfdcldjoncednaaGreatMgExpandUntil22
import Derived.Test.YtfdcldjoncednaaGreatMgExpandUntil18
import Derived.Test.YtfdcldjoncednaaGreatMgExpandUntil7
import Derived.Test.YtfdcldjoncednaaGreatMgExpandUntil8
import Derived.Test.YtfdcldjoncednaaGreatMgExpandUntil9
import Derived.Test.YtfdcldjoncednaaGreatMgExpandUntil14
/- match.span, match.Span. (Written by gen_mats.py.) -/
namespace Go.Proofs.YtfdcldjoncednaaGreat.MatS
open Go.RowKit Go.Proofs.YtfdcldjoncednaaGreatW.PrintWords Go.Proofs.YtfdcldjoncednaaGreatW.PrintLast Go.Proofs.YtfdcldjoncednaaGreatW.PrintMore Go.Proofs.YtfdcldjoncednaaGreat.M Go.Proofs.YtfdcldjoncednaaGreat.Ru Go.Proofs.YtfdcldjoncednaaGreat.MatD Go.Proofs.YtfdcldjoncednaaGreat.MatP Go.Proofs.YtfdcldjoncednaaGreat.MatG
set_option linter.unusedVariables false
set_option linter.unusedSimpArgs false
attribute [local go_sem] max2_int min2_int max_two min_two
/-- A period's first and last day, ahead of the bounds. -/
inductive SpanOk (k : Nat) (r : Ru) (b n y m dd : Int) : Int → Int → Prop
 | day (h : r.a0 = 1) : SpanOk k r b n y m dd (b + n) (b + n)
 | week (w : Int) (h : r.a0 = 2) (hw : match_weekBegin.f b r.a7 = some w) (h0 : -1000 ≤ w) (h1 : w ≤ 4000000) : SpanOk k r b n y m dd (w + 7 * n) (w + 7 * n + 6)
 | month (r1 r2 : Int) (h : r.a0 = 3) (hm : match_month.f k y m dd n = some (r1, r2)) : SpanOk k r b n y m dd r1 r2
 | year (g1 g2 : Int) (h : r.a0 = 4) (h1 : 1 ≤ y + n) (h2 : y + n ≤ 9999) (hg : rata_Begins.f (y + n) = some g1) (hg2 : rata_Begins.f (y + n + 1) = some g2) (b0 : 0 ≤ g2) (b1 : g2 ≤ 4000000) : SpanOk k r b n y m dd g1 (g2 - 1)
 | none (h : r.a0 = 4) (h1 : ¬ (1 ≤ y + n ∧ y + n ≤ 9999)) : SpanOk k r b n y m dd 0 (-1)
set_option maxHeartbeats 4000000 in
set_option maxRecDepth 100000 in
theorem span (k : Nat) (r : Ru) (p : Rp) (b n y m dd e r1 r2 : Int) (w : World) (h : SpanOk k r b n y m dd r1 r2) (hd : rata_Date.f k b = some (y, m, dd, e)) (b1 : 1 ≤ b) (b2 : b ≤ 3652059) (n1 : -3652059 ≤ n) (n2 : n ≤ 3652059) (y1 : 1 ≤ y) (y2 : y ≤ 9999) :
  Calls Tryz.prog 28 #[.agg (agg r p), .int .i64 b, .int .i64 n] w fun q w' => q = .returned (.tuple #[.int .i64 r1, .int .i64 r2]) ∧ Below w.heap.size w w' := by
 have HD := Aside0.mk hd; have BB := Aside0.mk (And.intro b1 b2); have NB := Aside0.mk (And.intro n1 n2); have YB := Aside0.mk (And.intro y1 y2); clear hd b1 b2 n1 n2 y1 y2
 have HK := Aside0.mk (blk_new w (obj r p))
 have HB := Aside0.mk (below_alloc (Below.refl w.heap.size w) (obj r p))
 go_enter Tryz.func28, Tryz.ntmps28
 go_upto_region 1 with fail
 generalize w.alloc (obj r p) = w0 at HK HB ⊢
 go_wp2_with fail
 refine (rata_Date.calls k b y m dd e _ HD.out).mono ?_
 rintro q wa ⟨rfl, hb⟩
 replace HK := Aside0.mk (blk_below HK.out hb)
 replace HB := Aside0.mk (below_then HB.out HB.out.size hb)
 clear hb
 go_upto_region 2 with fail
 replace HK := Aside0.mk (blk_below HK.out (below_alloc (Below.refl _ _) (.cells #[.int .i64 y, .int .i64 m, .int .i64 dd] 61 (0, 0))))
 have HA := Aside0.mk (blk_new wa (.cells #[.int .i64 y, .int .i64 m, .int .i64 dd] 61 (0, 0)))
 replace HB := Aside0.mk (below_alloc HB.out (.cells #[.int .i64 y, .int .i64 m, .int .i64 dd] 61 (0, 0)))
 generalize wa.alloc (.cells #[.int .i64 y, .int .i64 m, .int .i64 dd] 61 (0, 0)) = wb at HK HA HB ⊢
 generalize wa.heap.size = g at HA ⊢
 have k0 : wb.cell? ⟨w.heap.size, 0, none⟩ = some (.int .i64 r.a0) := (blk_cell HK.out 0).trans rfl
 have k7 : wb.cell? ⟨w.heap.size, 7, none⟩ = some (.int .i64 r.a7) := (blk_cell HK.out 7).trans rfl
 have d0 : wb.cell? ⟨g, 0, none⟩ = some (.int .i64 y) := (blk_cell HA.out 0).trans rfl
 have d1 : wb.cell? ⟨g, 1, none⟩ = some (.int .i64 m) := (blk_cell HA.out 1).trans rfl
 have d2 : wb.cell? ⟨g, 2, none⟩ = some (.int .i64 dd) := (blk_cell HA.out 2).trans rfl
 cases h with
 | day h =>
  have x1 : (r.a0 == 1) = true := beq_iff_eq.2 (by omega)
  have x2 : (r.a0 == 2) = false := beq_eq_false_iff_ne.2 (by omega)
  have x3 : (r.a0 == 3) = false := beq_eq_false_iff_ne.2 (by omega)
  have s1 : wrap64 (b + n) = b + n := by have := BB.out; have := NB.out; unfold wrap64; omega
  clear h
  go_wp2_with fail
  go_ret2
  exact ⟨by simp [s1], HB.out⟩
 | week wk h hw h0 h1 =>
  have x1 : (r.a0 == 1) = false := beq_eq_false_iff_ne.2 (by omega)
  have x2 : (r.a0 == 2) = true := beq_iff_eq.2 (by omega)
  have x3 : (r.a0 == 3) = false := beq_eq_false_iff_ne.2 (by omega)
  obtain ⟨u, hu⟩ : ∃ u, wrap64 (7 * n) = u := ⟨_, rfl⟩
  have U := Aside0.mk (show u = 7 * n by rw [← hu]; have := NB.out; unfold wrap64; omega)
  obtain ⟨v, hv⟩ : ∃ v, wrap64 (wk + u) = v := ⟨_, rfl⟩
  have V := Aside0.mk (show v = wk + 7 * n by rw [← hv]; have := U.out; have := NB.out; unfold wrap64; omega)
  obtain ⟨z, hz⟩ : ∃ z, wrap64 (v + 7) = z := ⟨_, rfl⟩
  have Z := Aside0.mk (show z = wk + 7 * n + 7 by rw [← hz]; have := V.out; have := NB.out; unfold wrap64; omega)
  have s4 : wrap64 (z - 1) = wk + 7 * n + 6 := by have := Z.out; have := NB.out; unfold wrap64; omega
  have HW := Aside0.mk hw; have S4 := Aside0.mk s4; clear h hw h0 h1 s4
  go_wp2_with fail
  refine (match_weekBegin.calls b r.a7 wk _ HW.out).mono ?_
  rintro q wc ⟨rfl, ⟨nd, rfl⟩⟩
  replace HB := Aside0.mk (pw_below_drewN HB.out nd)
  go_wp2_with fail
  go_ret2
  exact ⟨by simp [hv, S4.out, V.out], HB.out⟩
 | month r1 r2 h hm =>
  have x1 : (r.a0 == 1) = false := beq_eq_false_iff_ne.2 (by omega)
  have x2 : (r.a0 == 2) = false := beq_eq_false_iff_ne.2 (by omega)
  have x3 : (r.a0 == 3) = true := beq_iff_eq.2 (by omega)
  have HM := Aside0.mk hm; clear h hm
  go_wp2_with fail
  refine (match_month.calls k y m dd n r1 r2 _ HM.out).mono ?_
  rintro q wc ⟨rfl, hb⟩
  replace HB := Aside0.mk (below_then HB.out HB.out.size hb)
  clear hb
  go_wp2_with fail
  go_ret2
  exact ⟨rfl, HB.out⟩
 | year r1 g2 h h1 h2 hg hg2 c0 c1 =>
  have x1 : (r.a0 == 1) = false := beq_eq_false_iff_ne.2 (by omega)
  have x2 : (r.a0 == 2) = false := beq_eq_false_iff_ne.2 (by omega)
  have x3 : (r.a0 == 3) = false := beq_eq_false_iff_ne.2 (by omega)
  obtain ⟨u, hu⟩ : ∃ u, wrap64 (y + n) = u := ⟨_, rfl⟩
  have U : u = y + n := by rw [← hu]; have := YB.out; have := NB.out; unfold wrap64; omega
  rw [← U] at hg hg2 h1 h2
  have e1 : decide (u ≥ 1) = true := decide_eq_true h1; have e2 : decide (u ≤ 9999) = true := decide_eq_true h2
  obtain ⟨v, hv⟩ : ∃ v, wrap64 (u + 1) = v := ⟨_, rfl⟩
  have V : v = u + 1 := by rw [← hv]; unfold wrap64; omega
  rw [← V] at hg2
  have s4 : wrap64 (g2 - 1) = g2 - 1 := by unfold wrap64; omega
  have HG := Aside0.mk hg; have HG2 := Aside0.mk hg2; have S4 := Aside0.mk s4; clear h h1 h2 hg hg2 c0 c1 U V s4
  go_wp2_with fail
  refine (rata_Begins.calls u r1 _ HG.out).mono ?_
  rintro q wc ⟨rfl, ⟨nd, rfl⟩⟩
  replace HB := Aside0.mk (pw_below_drewN HB.out nd)
  generalize wb.drewN nd = wc' at HB ⊢
  go_wp2_with fail
  refine (rata_Begins.calls v g2 _ HG2.out).mono ?_
  rintro q wd ⟨rfl, ⟨nd, rfl⟩⟩
  replace HB := Aside0.mk (pw_below_drewN HB.out nd)
  generalize wc'.drewN nd = wd' at HB ⊢
  go_wp2_with fail
  go_ret2
  exact ⟨by simp [S4.out], HB.out⟩
 | none h h1 =>
  have x1 : (r.a0 == 1) = false := beq_eq_false_iff_ne.2 (by omega)
  have x2 : (r.a0 == 2) = false := beq_eq_false_iff_ne.2 (by omega)
  have x3 : (r.a0 == 3) = false := beq_eq_false_iff_ne.2 (by omega)
  obtain ⟨u, hu⟩ : ∃ u, wrap64 (y + n) = u := ⟨_, rfl⟩
  have U : u = y + n := by rw [← hu]; have := YB.out; have := NB.out; unfold wrap64; omega
  rw [← U] at h1
  clear h U
  by_cases c : u ≥ 1
  ·have e1 : decide (u ≥ 1) = true := decide_eq_true c; have e2 : decide (u ≤ 9999) = false := decide_eq_false (by omega); clear c h1
   go_wp2_with fail
   go_ret2
   exact ⟨rfl, HB.out⟩
  ·have e1 : decide (u ≥ 1) = false := decide_eq_false c; clear c h1
   go_wp2_with fail
   go_ret2
   exact ⟨rfl, HB.out⟩
theorem one_C {w : World} {g : Nat} {x : Int} {t : TypeId} (h : w.heap[g]? = some (.cells #[.int .i64 x] t (0, 0))) : Kd.C (Kd.int .i64) w (some ⟨g, 0, none⟩) [x].length [x] := by
 refine Kd.C_of_reads (enc := Value.int .i64) (d := (0 : Int)) (h1 := fun _ => rfl) ⟨rfl, by simp, fun _ => ⟨_, rfl, fun j hj => ?_⟩⟩
 have hj' : j < 1 := hj
 match j, hj' with
 | 0, _ => exact (blk_cell h 0).trans rfl
/-- What Span tells: f, l, e. -/
inductive SpOk (k : Nat) (r : Ru) (fb : Bool) (b n : Int) : Int → Int → Int → Prop
 | ask (e : Int) (he : askF fb [b] = e) (ne : e ≠ 0) : SpOk k r fb b n 0 0 e
 | far (he : askF fb [b] = 0) (hn : n > 3652059 ∨ n < -3652059) : SpOk k r fb b n 0 0 2
 | ok (y m dd e r1 r2 f l : Int) (he : askF fb [b] = 0) (h : SpanOk k r b n y m dd r1 r2) (hd : rata_Date.f k b = some (y, m, dd, e)) (b1 : 1 ≤ b) (b2 : b ≤ 3652059) (n1 : -3652059 ≤ n) (n2 : n ≤ 3652059) (y1 : 1 ≤ y) (y2 : y ≤ 9999) (hfe : (if r1 < 1 then 1 else r1) = f) (hle_ : (if 3652059 < r2 then 3652059 else r2) = l) (hle : ¬ f > l) : SpOk k r fb b n f l 0
 | none (y m dd e r1 r2 f l : Int) (he : askF fb [b] = 0) (h : SpanOk k r b n y m dd r1 r2) (hd : rata_Date.f k b = some (y, m, dd, e)) (b1 : 1 ≤ b) (b2 : b ≤ 3652059) (n1 : -3652059 ≤ n) (n2 : n ≤ 3652059) (y1 : 1 ≤ y) (y2 : y ≤ 9999) (hfe : (if r1 < 1 then 1 else r1) = f) (hle_ : (if 3652059 < r2 then 3652059 else r2) = l) (hgt : f > l) : SpOk k r fb b n 0 0 2
set_option maxHeartbeats 4000000 in
set_option maxRecDepth 100000 in
theorem Span (k : Nat) (r : Ru) (p : Rp) (fb : Bool) (b n f l e : Int) (w : World) (ok : Ok r p w) (hf : FormOk k r fb) (h : SpOk k r fb b n f l e) :
  Calls Tryz.prog 9 #[.agg (agg r p), .int .i64 b, .int .i64 n] w fun q w' => q = .returned (.tuple #[.int .i64 f, .int .i64 l, .int .i64 e]) ∧ Below w.heap.size w w' := by
 have OK := Aside0.mk ok; have HF := Aside0.mk hf; clear ok hf
 have HK := Aside0.mk (blk_new w (obj r p))
 have HB := Aside0.mk (below_alloc (Below.refl w.heap.size w) (obj r p))
 go_enter Tryz.func9, Tryz.ntmps9
 go_upto_region 1 with fail
 generalize w.alloc (obj r p) = w0 at HK HB ⊢
 go_wp2_with ((with_reducible refine gate_ (.load 27 (.tmp 3)) rfl ?_); refine Kd.event_run rfl (xR (.tmp 3) (w.heap.size) r p rfl rfl _ HK.out) ?_)
 have HA := Aside0.mk (blk_new w0 (.cells #[.int .i64 b] 3 (0, 0)))
 replace HK := Aside0.mk (blk_below HK.out (below_alloc (Below.refl _ _) (.cells #[.int .i64 b] 3 (0, 0))))
 replace HB := Aside0.mk (below_alloc HB.out (.cells #[.int .i64 b] 3 (0, 0)))
 generalize w0.alloc (.cells #[.int .i64 b] 3 (0, 0)) = w1_ at HA HK HB ⊢
 refine (asked k r p fb _ 1 [b] w1_ (OK.out.below HB.out) HF.out (one_C HA.out)).mono ?_
 rintro q w2_ ⟨rfl, hb⟩
 replace HK := Aside0.mk (blk_below HK.out hb)
 replace HB := Aside0.mk (below_then HB.out HB.out.size hb)
 clear hb HA
 cases h with
 | ask e he ne => 
  rw [he]
  have n1 : (e != 0) = true := bne_iff_ne.2 ne; have n2 : (e == 0) = false := beq_eq_false_iff_ne.2 ne; clear ne he
  go_wp2_with fail
  go_ret3
  exact ⟨rfl, HB.out⟩
 | far he hn =>
  rw [he]
  clear he
  by_cases c : n > 3652059
  ·have c1 : decide (n > 3652059) = true := decide_eq_true c; clear c hn
   go_wp2_with fail
   go_ret3
   exact ⟨rfl, HB.out⟩
  ·have c1 : decide (n > 3652059) = false := decide_eq_false c; have c2 : decide (n < -3652059) = true := decide_eq_true (by omega); clear c hn
   go_wp2_with fail
   go_ret3
   exact ⟨rfl, HB.out⟩
 | ok y m dd ee r1 r2 f l he h hd b1 b2 n1 n2 y1 y2 hfe hle_ hle =>
  rw [he]
  have c1 : decide (n > 3652059) = false := decide_eq_false (by omega); have c2 : decide (n < -3652059) = false := decide_eq_false (by omega)
  have SP := Aside0.mk (fun w => span k r p b n y m dd ee r1 r2 w h hd b1 b2 n1 n2 y1 y2); clear he h hd b1 b2 n1 n2 y1 y2
  have g1 : decide (f > l) = false := decide_eq_false hle; clear hle
  have FE := Aside0.mk hfe; have LE := Aside0.mk hle_; clear hfe hle_
  go_wp2_with ((with_reducible refine gate_ (.load 27 (.tmp 3)) rfl ?_); refine Kd.event_run rfl (xR (.tmp 3) (w.heap.size) r p rfl rfl _ HK.out) ?_)
  refine (SP.out _).mono ?_
  rintro q w3_ ⟨rfl, hb⟩
  replace HB := Aside0.mk (below_then HB.out HB.out.size hb)
  clear hb
  have f1 : ∀ k k' : IntKind, Builtin.max2 (.int k r1) (.int k' 1) = pure (.int k f) := fun k k' => by rw [max2_int, FE.out]
  have f2 : ∀ k k' : IntKind, Builtin.min2 (.int k r2) (.int k' 3652059) = pure (.int k l) := fun k k' => by rw [min2_int, LE.out]
  go_wp2_with fail
  go_ret3
  exact ⟨rfl, HB.out⟩
 | none y m dd ee r1 r2 f l he h hd b1 b2 n1 n2 y1 y2 hfe hle_ hgt =>
  rw [he]
  have c1 : decide (n > 3652059) = false := decide_eq_false (by omega); have c2 : decide (n < -3652059) = false := decide_eq_false (by omega)
  have SP := Aside0.mk (fun w => span k r p b n y m dd ee r1 r2 w h hd b1 b2 n1 n2 y1 y2); clear he h hd b1 b2 n1 n2 y1 y2
  have g1 : decide (f > l) = true := decide_eq_true hgt; clear hgt
  have FE := Aside0.mk hfe; have LE := Aside0.mk hle_; clear hfe hle_
  go_wp2_with ((with_reducible refine gate_ (.load 27 (.tmp 3)) rfl ?_); refine Kd.event_run rfl (xR (.tmp 3) (w.heap.size) r p rfl rfl _ HK.out) ?_)
  refine (SP.out _).mono ?_
  rintro q w3_ ⟨rfl, hb⟩
  replace HB := Aside0.mk (below_then HB.out HB.out.size hb)
  clear hb
  have f1 : ∀ k k' : IntKind, Builtin.max2 (.int k r1) (.int k' 1) = pure (.int k f) := fun k k' => by rw [max2_int, FE.out]
  have f2 : ∀ k k' : IntKind, Builtin.min2 (.int k r2) (.int k' 3652059) = pure (.int k l) := fun k k' => by rw [min2_int, LE.out]
  go_wp2_with fail
  go_ret3
  exact ⟨rfl, HB.out⟩
end Go.Proofs.YtfdcldjoncednaaGreat.MatS
/- What the program's day arithmetic (package rata) reckons, in plain numbers. -/
namespace Go.Proofs.YtfdcldjoncednaaGreat.FunA
open Go.RowKit Go.Proofs.YtfdcldjoncednaaGreatW.PrintWords Go.Proofs.YtfdcldjoncednaaGreatW.PrintLast Go.Proofs.YtfdcldjoncednaaGreat.M Go.Proofs.YtfdcldjoncednaaGreat.Cal
def I64 (a : Int) : Prop := -9223372036854775808 ≤ a ∧ a ≤ 9223372036854775807
theorem quo (a b : Int) (hb : 0 < b) : Int.tdiv a b = if 0 ≤ a ∨ a % b = 0 then a / b else a / b + 1 := by
 rw [Int.tdiv_eq_ediv]
 have hd : b ∣ a ↔ a % b = 0 := Int.dvd_iff_emod_eq_zero
 by_cases h : 0 ≤ a ∨ a % b = 0
 ·rw [if_pos h, if_pos (h.imp id hd.2)]; omega
 ·rw [if_neg h, if_neg (fun k => h (k.imp id hd.1)), Int.sign_eq_one_of_pos hb]
theorem rem0 (a b : Int) : Int.tmod a b = 0 ↔ a % b = 0 := by
 rw [← Int.dvd_iff_tmod_eq_zero, Int.dvd_iff_emod_eq_zero]
theorem div_bd (a b : Int) (hb : 2 ≤ b) (ha : I64 a) : -4611686018427387905 ≤ a / b ∧ a / b ≤ 4611686018427387904 := by
 have h1 := Int.ediv_mul_le a (show b ≠ 0 by omega)
 have h2 := Int.lt_ediv_add_one_mul_self a (show 0 < b by omega)
 obtain ⟨ha, ha'⟩ := ha
 generalize a / b = q at *
 constructor
 ·by_cases h : 0 ≤ q + 1
  ·omega
  ·have := Int.mul_le_mul_of_nonpos_left (show q + 1 ≤ 0 by omega) hb
   omega
 ·by_cases h : q ≤ 0
  ·omega
  ·have := Int.mul_le_mul_of_nonneg_left hb (show 0 ≤ q by omega)
   omega
theorem rFloor (a b : Int) (hb : 2 ≤ b) (ha : I64 a) : rata_Floor.f a b = some (a / b) := by
 have hd := div_bd a b hb ha
 have hq := quo a b (by omega)
 unfold rata_Floor.f
 rw [if_neg (by omega)]
 by_cases h0 : a % b = 0
 ·rw [if_pos ((rem0 a b).2 h0), hq, if_pos (Or.inr h0), w64 (by omega) (by omega)]
 ·rw [if_neg (fun h => h0 ((rem0 a b).1 h)), hq]
  by_cases hn : a < 0
  ·rw [if_pos (by simp [hn]; omega), if_neg (by omega), w64 (x := a / b + 1) (by omega) (by omega), w64 (by omega) (by omega)]
   congr 1; omega
  ·rw [if_neg (by simp [hn]; omega), if_pos (by omega), w64 (by omega) (by omega)]
theorem wrap_sub (a x : Int) : wrap64 (a - wrap64 x) = wrap64 (a - x) := by unfold wrap64; omega
theorem rMod (a b : Int) (hb : 2 ≤ b) (hb' : b ≤ 4611686018427387904) (ha : I64 a) : rata_Mod.f a b = some (a % b) := by
 unfold rata_Mod.f
 have h1 := Int.emod_nonneg a (show b ≠ 0 by omega)
 have h2 := Int.emod_lt_of_pos a (show 0 < b by omega)
 rw [rFloor a b hb ha, Option.bind_some, wrap_sub, ← Int.emod_def, w64 (by omega) (by omega)]
theorem rWeekday (a : Int) (ha : I64 a) : rata_Weekday.f a = some (a % 7) := by
 unfold rata_Weekday.f; rw [rMod a 7 (by omega) (by omega) ha]; rfl
theorem rAhead (y : Int) (h : -40000 ≤ y) (h' : y ≤ 40000) : rata_ahead.f y = some (ah y) := by
 unfold rata_ahead.f
 have e : wrap64 (y - 1) = y - 1 := w64 (by omega) (by omega)
 rw [e, rFloor _ 4 (by omega) ⟨by omega, by omega⟩, rFloor _ 100 (by omega) ⟨by omega, by omega⟩, rFloor _ 400 (by omega) ⟨by omega, by omega⟩]
 simp only [Option.bind_some]
 congr 1
 unfold ah wrap64; omega
theorem ah_bd (y : Int) (h : -40000 ≤ y) (h' : y ≤ 40000) : -15000000 ≤ ah y ∧ ah y ≤ 15000000 := by unfold ah; omega
theorem rBegins (y : Int) (h : -40000 ≤ y) (h' : y ≤ 40000) : rata_Begins.f y = some (ah y + 1) := by
 have := ah_bd y h h'
 unfold rata_Begins.f
 rw [rAhead y h h', Option.bind_some, w64 (by omega) (by omega)]
/-- A day of layer 1. -/
def In (day : Int) : Prop := 1 ≤ day ∧ day ≤ 3652059
theorem rOf (day : Int) : rata_Of.f day = some (decide (1 ≤ day) && decide (day ≤ 3652059)) := by
 unfold rata_Of.f
 by_cases h : day ≥ 1
 ·rw [if_pos h, decide_eq_true (show 1 ≤ day from h)]; rfl
 ·rw [if_neg h, decide_eq_false (show ¬ 1 ≤ day from h)]; rfl
theorem rOf_yes {day : Int} (h : In day) : rata_Of.f day = some true := by
 rw [rOf, decide_eq_true h.1, decide_eq_true h.2]; rfl
end Go.Proofs.YtfdcldjoncednaaGreat.FunA
/- What the program's package rata reckons of dates, in plain numbers. -/
namespace Go.Proofs.YtfdcldjoncednaaGreat.FunC
open Go.RowKit Go.Proofs.YtfdcldjoncednaaGreatW.PrintWords Go.Proofs.YtfdcldjoncednaaGreatW.PrintLast Go.Proofs.YtfdcldjoncednaaGreat.M Go.Proofs.YtfdcldjoncednaaGreat.Cal Go.Proofs.YtfdcldjoncednaaGreat.FunA
theorem rLeap (y : Int) : rata_Leap.f y = some (decide (lp y = 1)) := by
 unfold rata_Leap.f lp
 by_cases a : y % 4 = 0
 ·rw [if_pos ((rem0 y 4).2 a), if_pos a]
  by_cases b : y % 100 = 0
  ·rw [if_pos ((rem0 y 100).2 b), if_pos b]
   by_cases c : y % 400 = 0
   ·rw [if_pos c, (rem0 y 400).2 c]; rfl
   ·rw [if_neg c]
    have : ¬ Int.tmod y 400 = 0 := fun h => c ((rem0 y 400).1 h)
    simp [this]
  ·rw [if_neg (fun h => b ((rem0 y 100).1 h)), if_neg b]; simp
 ·rw [if_neg (fun h => a ((rem0 y 4).1 h)), if_neg a]; simp
theorem rLength (k : Nat) (hk : 2 ≤ k) (y m : Int) : rata_Length.f k y m = some (dim (lp y) m) := by
 obtain ⟨k, rfl⟩ : ∃ j, k = j + 2 := ⟨k - 2, by omega⟩
 have hl := lp_01 y
 by_cases h : 1 ≤ m ∧ m ≤ 12
 ·rcases months h.1 h.2 with e | e | e | e | e | e | e | e | e | e | e | e <;> subst e <;> simp [rata_Length.f, rata_Length.j0, rata_Length.j1, dim, rLeap]
  rcases hl with e | e <;> simp [e]
 ·rw [dim_none _ _ (by omega)]
  unfold rata_Length.f
  rw [if_neg (by omega), if_neg (by omega), if_neg (by omega), if_neg (by omega), if_neg (by omega), if_neg (by omega)]
  have e12 : (m == 12) = false := beq_eq_false_iff_ne.2 (by omega)
  have e11 : (m == 11) = false := beq_eq_false_iff_ne.2 (by omega)
  rw [e12]
  simp only [rata_Length.j0]
  rw [if_neg (by simp), if_neg (by omega), if_neg (by omega), if_neg (by omega), e11]
  simp only [rata_Length.j1]
  rw [if_neg (by simp), if_neg (by omega)]
/-- A right Gregorian date. -/
def Right (y m d : Int) : Prop := 1 ≤ y ∧ y ≤ 9999 ∧ 1 ≤ d ∧ d ≤ dim (lp y) m
theorem rRight_yes (k : Nat) (hk : 2 ≤ k) (y m d : Int) (h : Right y m d) : rata_Right.f k y m d = some true := by
 unfold rata_Right.f
 rw [if_pos h.1, if_pos h.2.1, if_pos h.2.2.1, rLength k hk, Option.bind_some, decide_eq_true h.2.2.2]
theorem rGone0 (y m : Int) (hm : m ≤ 12) : ∀ (j k : Nat) (n i : Int), 1 ≤ i → i ≤ m → m - i = j → j + 2 < k → 0 ≤ n → n + 31 * j ≤ 100000 →
  rata_gone.l0 k y m n i = some (n + cum (lp y) m - cum (lp y) i) := by
 intro j
 induction j with
 | zero =>
  intro k n i h1 h2 h3 h4 h5 h6
  obtain ⟨k, rfl⟩ : ∃ j, k = j + 1 := ⟨k - 1, by omega⟩
  simp only [rata_gone.l0]
  have : i = m := by omega
  subst this
  rw [if_neg (by omega)]; congr 1; omega
 | succ j ih =>
  intro k n i h1 h2 h3 h4 h5 h6
  obtain ⟨k, rfl⟩ : ∃ j, k = j + 1 := ⟨k - 1, by omega⟩
  have hd := dim_lo (lp y) i (lp_01 y) h1 (by omega)
  have hc := cum_succ (lp y) i h1 (by omega)
  simp only [rata_gone.l0]
  rw [if_pos (by omega), rLength k (by omega), Option.bind_some, w64 (by omega) (by omega), w64 (by omega) (by omega), ih k _ (i + 1) (by omega) (by omega) (by omega) (by omega) (by omega) (by omega)]
  congr 1; omega
theorem rGone (k : Nat) (hk : 16 ≤ k) (y m : Int) (h1 : 1 ≤ m) (h2 : m ≤ 12) : rata_gone.f k y m = some (cum (lp y) m) := by
 unfold rata_gone.f
 rw [rGone0 y m h2 (m - 1).toNat k 0 1 (by omega) h1 (by omega) (by omega) (by omega) (by omega), cum_one]; congr 1; omega
theorem rDay_yes (k : Nat) (hk : 16 ≤ k) (y m d : Int) (h : Right y m d) : rata_Day.f k y m d = some (ah y + cum (lp y) m + d, 0) := by
 have hm := dim_pos (lp y) m (by have := h.2.2; omega)
 have hd := dim_lo (lp y) m (lp_01 y) hm.1 hm.2
 have hb := ah_bd y (by have := h.1; omega) (by have := h.2.1; omega)
 have hc := cum_bd (lp_01 y) hm.1 (show m ≤ 13 by omega)
 have := h.2.2
 unfold rata_Day.f
 rw [rRight_yes k (by omega) y m d h, Option.bind_some, if_pos rfl, rAhead y (by have := h.1; omega) (by have := h.2.1; omega), rGone k hk y m hm.1 hm.2]
 simp only [Option.bind_some]
 rw [w64 (x := ah y + cum (lp y) m) (by omega) (by omega), w64 (by omega) (by omega)]
theorem rYear (day : Int) (h : -10000000 ≤ day) (h' : day ≤ 10000000) : rata_Year.f day = some (yr day) := by
 unfold rata_Year.f
 rw [w64 (x := day - 1) (by omega) (by omega), rFloor _ 146097 (by omega) ⟨by omega, by omega⟩, rMod _ 146097 (by omega) (by omega) ⟨by omega, by omega⟩]
 simp only [Option.bind_some]
 have hn : 0 ≤ (day - 1) % 146097 ∧ (day - 1) % 146097 < 146097 := by omega
 have hq : -100 ≤ (day - 1) / 146097 ∧ (day - 1) / 146097 ≤ 100 := by omega
 unfold yr
 generalize (day - 1) % 146097 = n at *
 generalize (day - 1) / 146097 = q at *
 have e1 : mn (wrap64 (Int.tdiv n 36524)) 3 = yrC n := by
  rw [Int.tdiv_eq_ediv_of_nonneg (by omega), w64 (by omega) (by omega)]; unfold mn yrC; split <;> omega
 have c0 : 0 ≤ yrC n ∧ yrC n ≤ 3 ∧ 36524 * yrC n ≤ n := by unfold yrC; omega
 rw [e1, w64 (x := 36524 * yrC n) (by omega) (by omega), w64 (x := n - 36524 * yrC n) (by omega) (by omega)]
 have e2 : n - 36524 * yrC n = yrR n := rfl
 rw [e2]
 have r0 : 0 ≤ yrR n ∧ yrR n ≤ 146097 := by unfold yrR; omega
 generalize yrR n = r at *
 generalize yrC n = c at *
 rw [Int.tdiv_eq_ediv_of_nonneg (a := r) (by omega), Int.tmod_eq_emod_of_nonneg (a := r) (by omega), Int.tdiv_eq_ediv_of_nonneg (a := r % 1461) (by omega)]
 have e3 : mn (wrap64 (r % 1461 / 365)) 3 = min (r % 1461 / 365) 3 := by
  rw [w64 (by omega) (by omega)]; unfold mn; split <;> omega
 rw [e3, w64 (x := r / 1461) (by omega) (by omega)]
 congr 1
 have m0 : 0 ≤ min (r % 1461 / 365) 3 ∧ min (r % 1461 / 365) 3 ≤ 3 := by omega
 generalize min (r % 1461 / 365) 3 = z at *
 have f0 : 0 ≤ r / 1461 ∧ r / 1461 ≤ 100 := by omega
 generalize r / 1461 = f at *
 clear e1 e2 e3
 unfold wrap64; omega
theorem yr_In {day : Int} (h : In day) : 1 ≤ yr day ∧ yr day ≤ 9999 := by
 obtain ⟨h1, h2⟩ := yr_ok day
 obtain ⟨h3, h4⟩ := h
 constructor
 ·by_cases c : yr day ≤ 0
  ·have := ah_le (show yr day + 1 ≤ 1 by omega)
   have e : ah 1 = 0 := by decide
   omega
  ·omega
 ·by_cases c : 10000 ≤ yr day
  ·have := ah_le c
   have e : ah 10000 = 3652059 := by decide
   omega
  ·omega
theorem rDate0 (y : Int) : ∀ (j k : Nat) (n m : Int), 1 ≤ m → m ≤ 12 → 12 - m = j → j + 3 < k → 1 ≤ n → n + cum (lp y) m ≤ 365 + lp y →
  ∃ m' d, rata_Date.l0 k n y m 0 = some (y, m', d, 0) ∧ m ≤ m' ∧ m' ≤ 12 ∧ 1 ≤ d ∧ d ≤ dim (lp y) m' ∧ n + cum (lp y) m = cum (lp y) m' + d := by
 intro j
 induction j with
 | zero =>
  intro k n m h1 h2 h3 h4 h5 h6
  obtain ⟨k, rfl⟩ : ∃ j, k = j + 1 := ⟨k - 1, by omega⟩
  have : m = 12 := by omega
  subst this
  have e := cum_succ (lp y) 12 (by omega) (by omega)
  have e' := cum_end (lp y)
  have e2 : (12 : Int) + 1 = 13 := rfl
  rw [e2, e'] at e
  refine ⟨12, n, ?_, by omega, by omega, by omega, by omega, by omega⟩
  simp only [rata_Date.l0]
  rw [rLength k (by omega), Option.bind_some, if_neg (by omega)]
 | succ j ih =>
  intro k n m h1 h2 h3 h4 h5 h6
  obtain ⟨k, rfl⟩ : ∃ j, k = j + 1 := ⟨k - 1, by omega⟩
  have e := cum_succ (lp y) m h1 h2
  have hd := dim_lo (lp y) m (lp_01 y) h1 h2
  have hl := lp_01 y
  have hc := cum_bd (lp_01 y) h1 (show m ≤ 13 by omega)
  simp only [rata_Date.l0]
  rw [rLength k (by omega), Option.bind_some]
  by_cases c : n > dim (lp y) m
  ·rw [if_pos c, Option.bind_some, w64 (by omega) (by omega), w64 (by omega) (by omega)]
   obtain ⟨m', d, h7, h8, h9, h10, h11, h12⟩ := ih k (n - dim (lp y) m) (m + 1) (by omega) (by omega) (by omega) (by omega) (by omega) (by omega)
   exact ⟨m', d, h7, by omega, h9, h10, h11, by omega⟩
  ·rw [if_neg c]
   exact ⟨m, n, rfl, by omega, h2, h5, by omega, by omega⟩
theorem rDate_yes (k : Nat) (hk : 20 ≤ k) (day : Int) (h : In day) : ∃ m d, rata_Date.f k day = some (yr day, m, d, 0) ∧ Is ah lp (yr day) m d day := by
 have hy := yr_In h
 obtain ⟨h1, h2⟩ := yr_ok day
 have hs := ah_succ (yr day)
 have hb := ah_bd (yr day) (by omega) (by omega)
 obtain ⟨m, d, h3, h4, h5, h6, h7, h8⟩ := rDate0 (yr day) 11 k (day - ah (yr day)) 1 (by omega) (by omega) (by omega) (by omega) (by omega) (by rw [cum_one]; omega)
 rw [cum_one] at h8
 refine ⟨m, d, ?_, ⟨h4, h5, h6, h7, by omega⟩⟩
 unfold rata_Date.f
 rw [rOf_yes h, Option.bind_some, if_pos rfl, rYear day (by have := h.1; omega) (by have := h.2; omega), Option.bind_some, rAhead _ (by omega) (by omega), Option.bind_some, w64 (by have := h.1; omega) (by have := h.2; omega), h3]
theorem rInYear_yes (day : Int) (h : In day) : rata_InYear.f day = some (day - ah (yr day), 0) := by
 have hy := yr_In h
 have hb := ah_bd (yr day) (by omega) (by omega)
 unfold rata_InYear.f
 rw [rOf_yes h, Option.bind_some, if_pos rfl, rYear day (by have := h.1; omega) (by have := h.2; omega), Option.bind_some, rAhead _ (by omega) (by omega), Option.bind_some, w64 (by have := h.1; omega) (by have := h.2; omega)]
theorem Is.right {y m d day : Int} (h : Is ah lp y m d day) (hy : 1 ≤ y) (hy' : y ≤ 9999) : Right y m d := ⟨hy, hy', h.d1, h.d2⟩
end Go.Proofs.YtfdcldjoncednaaGreat.FunC
/- What the program's package iso reckons, in plain numbers. -/
namespace Go.Proofs.YtfdcldjoncednaaGreat.FunI
open Go.RowKit Go.Proofs.YtfdcldjoncednaaGreatW.PrintWords Go.Proofs.YtfdcldjoncednaaGreatW.PrintLast Go.Proofs.YtfdcldjoncednaaGreat.M Go.Proofs.YtfdcldjoncednaaGreat.Cal Go.Proofs.YtfdcldjoncednaaGreat.FunA Go.Proofs.YtfdcldjoncednaaGreat.FunC
theorem wk_rng (y s : Int) (h : -40000 ≤ y) (h' : y ≤ 40000) : -15000002 ≤ wk y s ∧ wk y s ≤ 15000004 := by
 have := ah_bd y h h'; have := wk_bd y s; omega
theorem iFirst (y s : Int) (h : -40000 ≤ y) (h' : y ≤ 40000) (hs : 0 ≤ s) (hs' : s ≤ 6) : iso_first.f y s = some (wk y s) := by
 have hb := ah_bd y h h'
 unfold iso_first.f
 rw [rBegins y h h', Option.bind_some, w64 (x := ah y + 1 + 3) (by omega) (by omega), rWeekday _ ⟨by omega, by omega⟩, Option.bind_some, w64 (x := (ah y + 1 + 3) % 7 - s) (by omega) (by omega), rMod _ 7 (by omega) (by omega) ⟨by omega, by omega⟩, Option.bind_some, w64 (by omega) (by omega)]
 congr 1
 unfold wk; omega
def Wday (s : Int) : Prop := 0 ≤ s ∧ s ≤ 6
theorem iRight_yes (s : Int) (h : Wday s) : iso_right.f s = some true := by
 unfold iso_right.f; rw [if_pos h.1, decide_eq_true (by have := h.2; omega)]
theorem iWeeks_yes (k : Nat) (hk : 1 ≤ k) (y s : Int) (h : 0 ≤ y) (h' : y ≤ 9999) (hs : Wday s) : iso_Weeks.f k y s = some ((wk (y + 1) s - wk y s) / 7, 0) := by
 obtain ⟨k, rfl⟩ : ∃ j, k = j + 1 := ⟨k - 1, by omega⟩
 have hw := wk_bd y s; have hw' := wk_bd (y + 1) s; have ha := ah_succ y; have hl := lp_01 y
 have hr := wk_rng y s (by omega) (by omega); have hr' := wk_rng (y + 1) s (by omega) (by omega)
 unfold iso_Weeks.f
 rw [if_neg (by omega), decide_eq_false (by omega)]
 simp only [iso_Weeks.j0]
 rw [if_neg (by simp), iRight_yes s hs, Option.bind_some, if_pos rfl, w64 (x := y + 1) (by omega) (by omega), iFirst (y + 1) s (by omega) (by omega) hs.1 hs.2, iFirst y s (by omega) (by omega) hs.1 hs.2]
 simp only [Option.bind_some]
 rw [w64 (x := wk (y + 1) s - wk y s) (by omega) (by omega), Int.tdiv_eq_ediv_of_nonneg (by omega), w64 (by omega) (by omega)]
theorem iWeek0 (day s : Int) (hd : In day) (hs : Wday s) : ∀ (j k : Nat) (y : Int), y - (yr day - 1) = j → j + 1 ≤ k → y ≤ yr day + 1 → day < wk (y + 1) s →
  ∃ z, yr day - 1 ≤ z ∧ z ≤ yr day + 1 ∧ wk z s ≤ day ∧ day < wk (z + 1) s ∧ iso_Week.l0 k day s y = some (z, (day - wk z s) / 7 + 1, 0) := by
 have hy := yr_In hd
 have ho := yr_ok day
 intro j
 induction j with
 | zero =>
  intro k y h1 h2 h3 h4
  obtain ⟨k, rfl⟩ : ∃ j, k = j + 1 := ⟨k - 1, by omega⟩
  have e : y = yr day - 1 := by omega
  subst e
  have hw := wk_bd (yr day - 1) s
  have ha := ah_le (show yr day - 1 ≤ yr day by omega)
  have hr := wk_rng (yr day - 1) s (by omega) (by omega)
  have hm := hd.1; have hm' := hd.2
  refine ⟨yr day - 1, by omega, by omega, by omega, h4, ?_⟩
  simp only [iso_Week.l0]
  rw [iFirst _ s (by omega) (by omega) hs.1 hs.2, Option.bind_some, if_neg (by omega), Option.bind_some, w64 (x := day - wk (yr day - 1) s) (by omega) (by omega), Int.tdiv_eq_ediv_of_nonneg (by omega), w64 (x := (day - wk (yr day - 1) s) / 7) (by omega) (by omega), w64 (by omega) (by omega)]
 | succ j ih =>
  intro k y h1 h2 h3 h4
  obtain ⟨k, rfl⟩ : ∃ j, k = j + 1 := ⟨k - 1, by omega⟩
  have hr := wk_rng y s (by omega) (by omega)
  have hm := hd.1; have hm' := hd.2
  simp only [iso_Week.l0]
  rw [iFirst _ s (by omega) (by omega) hs.1 hs.2, Option.bind_some]
  by_cases c : day < wk y s
  ·rw [if_pos c, w64 (by omega) (by omega)]
   exact ih k (y - 1) (by omega) (by omega) (by omega) (by rw [show y - 1 + 1 = y by omega]; exact c)
  ·refine ⟨y, by omega, h3, by omega, h4, ?_⟩
   rw [if_neg c, Option.bind_some, w64 (x := day - wk y s) (by omega) (by omega), Int.tdiv_eq_ediv_of_nonneg (by omega), w64 (x := (day - wk y s) / 7) (by omega) (by omega), w64 (by omega) (by omega)]
theorem iWeek_yes (k : Nat) (hk : 4 ≤ k) (day s : Int) (hd : In day) (hs : Wday s) : ∃ z, 0 ≤ z ∧ z ≤ 10000 ∧ wk z s ≤ day ∧ day < wk (z + 1) s ∧ iso_Week.f k day s = some (z, (day - wk z s) / 7 + 1, 0) := by
 have hy := yr_In hd
 have ho := yr_ok day
 have hw := wk_bd (yr day + 1 + 1) s
 have ha := ah_le (show yr day + 1 ≤ yr day + 1 + 1 by omega)
 obtain ⟨z, h1, h2, h3, h4, h5⟩ := iWeek0 day s hd hs 2 k (yr day + 1) (by omega) (by omega) (by omega) (by omega)
 refine ⟨z, by omega, by omega, h3, h4, ?_⟩
 unfold iso_Week.f
 rw [rOf_yes hd, Option.bind_some, if_pos rfl, iRight_yes s hs, Option.bind_some, if_pos rfl, rYear day (by have := hd.1; omega) (by have := hd.2; omega), Option.bind_some, w64 (by omega) (by omega), h5]
theorem wk_le {x y : Int} (s : Int) (h : x ≤ y) : wk x s + 359 * (y - x) ≤ wk y s := by
 by_cases e : x = y
 ·subst e; omega
 ·have := ah_le h; have := wk_bd x s; have := wk_bd y s; omega
theorem wk_one {x y s day : Int} (hx : wk x s ≤ day) (hx' : day < wk (x + 1) s) (hy : wk y s ≤ day) (hy' : day < wk (y + 1) s) : x = y := by
 by_cases a : x < y
 ·have := wk_le s (show x + 1 ≤ y by omega); omega
 ·by_cases b : y < x
  ·have := wk_le s (show y + 1 ≤ x by omega); omega
  ·omega
end Go.Proofs.YtfdcldjoncednaaGreat.FunI
namespace Go.Proofs.YtfdcldjoncednaaGreat.M
open Go.RowKit Go.Proofs.YtfdcldjoncednaaGreatW.PrintWords Go.Proofs.YtfdcldjoncednaaGreatW.PrintLast Go.Proofs.YtfdcldjoncednaaGreatW.PrintMore
attribute [local go_sem] max2_int min2_int max_two min_two
set_option linter.unusedVariables false
set_option linter.unusedSimpArgs false
/-! ### trystref01_Length: function 35 -/
def trystref01_Length.j0 : Nat → Int → Int → Int → Bool → Option (Int)
 | 0, _, _, _, _ => none
 | k + 1, x0, x1, x2, x15 => if x15 = true then (some 0) else (if x0 = 2 then (some 7) else (if x0 = 3 then ((trystref01_hebrewMonth.f x1 x2).bind fun t328 => (some t328)) else ((trystref01_Months.f k x0 x1).bind fun t329 => (if x2 < t329 then ((trystref01_Fixed.f k x0 x1 (wrap64 (x2 + 1)) 1).bind fun t330 => ((trystref01_Fixed.f k x0 x1 x2 1).bind fun t331 => (some (wrap64 (t330 - t331))))) else ((trystref01_next.f x0 x1).bind fun t332 => ((trystref01_begins.f k x0 t332).bind fun t333 => ((trystref01_Fixed.f k x0 x1 x2 1).bind fun t334 => (some (wrap64 (t333 - t334))))))))))
def trystref01_Length.f (k : Nat) (a0 : Int) (a1 : Int) (a2 : Int) : Option (Int) := if a2 < 1 then (trystref01_Length.j0 k a0 a1 a2 true) else ((trystref01_Months.f k a0 a1).bind fun t327 => (trystref01_Length.j0 k a0 a1 a2 (decide (a2 > t327))))
set_option maxHeartbeats 8000000 in
set_option maxRecDepth 100000 in
theorem trystref01_Length.calls (k : Nat) (a0 : Int) (a1 : Int) (a2 : Int) (r : Int) (w : World) (h : trystref01_Length.f k a0 a1 a2 = some r) :
  Calls Tryz.prog 35 #[.int .i64 a0, .int .i64 a1, .int .i64 a2] w fun e w' => e = .returned (.int .i64 r) ∧ Drawn0 w w' := by
 have H : (if a2 < 1 then (trystref01_Length.j0 k a0 a1 a2 true) else ((trystref01_Months.f k a0 a1).bind fun t327 => (trystref01_Length.j0 k a0 a1 a2 (decide (a2 > t327))))) = some r := h
 clear h
 have HC4 := Aside0.mk H
 clear H
 go_enter Tryz.func35, Tryz.ntmps35
 go_upto_region 1 with (fail)
 go_cut [15] (fun v15 wc => ∃ (kq : Nat) (x15_3 : Bool), v15 = .bool x15_3 ∧ Aside0 (trystref01_Length.j0 kq a0 a1 a2 x15_3 = some r) ∧ Aside0 (kq ≤ k) ∧ Drawn0 w wc)
 case first =>
  have H := HC4.out
  clear HC4
  by_cases c5 : a2 < 1
  ·rw [if_pos c5] at H
   have c5b0 : decide (a2 < 1) = true := decide_eq_true c5
   clear c5
   (first | rw [c5b0] | (simp only [i64_w, i32_w]; rw [c5b0]) | skip)
   have H' := Aside0.mk H
   clear H
   go_wp2
   go_meet
   case rel => exact ⟨_, (true), (by first | rfl | (simp; done) | (simp [*]; done)), H', ⟨by first | omega | exact Nat.le_refl _⟩, by repeat (first | exact Drawn0.refl _ | apply Drawn0.step)⟩
  ·rw [if_neg c5] at H
   have c5b0 : decide (a2 < 1) = false := decide_eq_false c5
   clear c5
   (first | rw [c5b0] | (simp only [i64_w, i32_w]; rw [c5b0]) | skip)
   replace H := Option.bind_eq_some_iff.mp H
   obtain ⟨t327, A60, H⟩ := H
   replace H : (trystref01_Length.j0 k a0 a1 a2 (decide (a2 > t327))) = some r := H
   have A6 := Aside0.mk A60
   clear A60
   have H' := Aside0.mk H
   clear H
   go_wp2_with (first | (go_at_call 66; (with_reducible refine (trystref01_Months.calls k a0 a1 t327 _ A6.out).mono ?_); rintro e w' ⟨rfl, ⟨nd, rfl⟩⟩))
   go_meet
   case rel => exact ⟨_, (decide (a2 > t327)), (by first | rfl | (simp; done) | (simp [*]; done)), H', ⟨by first | omega | exact Nat.le_refl _⟩, by repeat (first | exact Drawn0.refl _ | apply Drawn0.step)⟩
 case rest =>
  clear HC4
  try clear p2
  try clear c3
  try clear c5
  try clear c5b0
  obtain ⟨kq, x15_3, rfl, HA, HJ3, ⟨mc3, rfl⟩⟩ := hcut
  cases kq with
  | zero => exact absurd HA.out (by simp [trystref01_Length.j0])
  | succ kj3 =>
   have H := HA.out
   clear HA
   simp only [trystref01_Length.j0] at H
   by_cases c7 : x15_3 = true
   ·subst c7
    have H1 : (some 0) = some r := by rw [if_pos rfl] at H; exact H
    clear H
    have H := H1
    clear H1
    obtain rfl := Option.some.inj H
    go_wp2
    go_ret
    exact ⟨by first | rfl | simp | simp [*] | simp [bne_nil_], by repeat (first | exact Drawn0.refl _ | apply Drawn0.step)⟩
   ·replace c7 := Bool.eq_false_iff.mpr c7
    subst c7
    have H1 : (if a0 = 2 then (some 7) else (if a0 = 3 then ((trystref01_hebrewMonth.f a1 a2).bind fun t328 => (some t328)) else ((trystref01_Months.f kj3 a0 a1).bind fun t329 => (if a2 < t329 then ((trystref01_Fixed.f kj3 a0 a1 (wrap64 (a2 + 1)) 1).bind fun t330 => ((trystref01_Fixed.f kj3 a0 a1 a2 1).bind fun t331 => (some (wrap64 (t330 - t331))))) else ((trystref01_next.f a0 a1).bind fun t332 => ((trystref01_begins.f kj3 a0 t332).bind fun t333 => ((trystref01_Fixed.f kj3 a0 a1 a2 1).bind fun t334 => (some (wrap64 (t333 - t334)))))))))) = some r := by rw [if_neg (show ¬ (false = true) by decide)] at H; exact H
    clear H
    have H := H1
    clear H1
    by_cases c8 : a0 = 2
    ·rw [if_pos c8] at H
     have c8b0 : (a0 == 2) = true := beq_iff_eq.mpr c8
     have c8b1 : (a0 != 2) = false := bne_eq_false_iff_eq.mpr c8
     clear c8
     obtain rfl := Option.some.inj H
     go_wp2
     go_ret
     exact ⟨by first | rfl | simp | simp [*] | simp [bne_nil_], by repeat (first | exact Drawn0.refl _ | apply Drawn0.step)⟩
    ·rw [if_neg c8] at H
     have c8b0 : (a0 == 2) = false := beq_eq_false_iff_ne.mpr c8
     have c8b1 : (a0 != 2) = true := bne_iff_ne.mpr c8
     by_cases c9 : a0 = 3
     ·rw [if_pos c9] at H
      have c9b0 : (a0 == 3) = true := beq_iff_eq.mpr c9
      have c9b1 : (a0 != 3) = false := bne_eq_false_iff_eq.mpr c9
      clear c9
      replace H := Option.bind_eq_some_iff.mp H
      obtain ⟨t328, A100, H⟩ := H
      replace H : (some t328) = some r := H
      have A10 := Aside0.mk A100
      clear A100
      obtain rfl := Option.some.inj H
      go_wp2_with (first | ((with_reducible refine gate_callee (f := 67) rfl ?_); refine gm_ (some 22) Tryz.func67 #[.int .i64 a1, .int .i64 a2] ?_; (with_reducible refine (trystref01_hebrewMonth.calls a1 a2 t328 _ A10.out).mono ?_); rintro e w' ⟨rfl, ⟨nd, rfl⟩⟩; refine ⟨_, rfl, ?_⟩))
      go_ret
      exact ⟨by first | rfl | simp | simp [*] | simp [bne_nil_], by repeat (first | exact Drawn0.refl _ | apply Drawn0.step)⟩
     ·rw [if_neg c9] at H
      have c9b0 : (a0 == 3) = false := beq_eq_false_iff_ne.mpr c9
      have c9b1 : (a0 != 3) = true := bne_iff_ne.mpr c9
      replace H := Option.bind_eq_some_iff.mp H
      obtain ⟨t329, A110, H⟩ := H
      replace H : (if a2 < t329 then ((trystref01_Fixed.f kj3 a0 a1 (wrap64 (a2 + 1)) 1).bind fun t330 => ((trystref01_Fixed.f kj3 a0 a1 a2 1).bind fun t331 => (some (wrap64 (t330 - t331))))) else ((trystref01_next.f a0 a1).bind fun t332 => ((trystref01_begins.f kj3 a0 t332).bind fun t333 => ((trystref01_Fixed.f kj3 a0 a1 a2 1).bind fun t334 => (some (wrap64 (t333 - t334))))))) = some r := H
      have A11 := Aside0.mk A110
      clear A110
      by_cases c12 : a2 < t329
      ·rw [if_pos c12] at H
       have c12b0 : decide (a2 < t329) = true := decide_eq_true c12
       clear c12
       replace H := Option.bind_eq_some_iff.mp H
       obtain ⟨t330, A130, H⟩ := H
       replace H : ((trystref01_Fixed.f kj3 a0 a1 a2 1).bind fun t331 => (some (wrap64 (t330 - t331)))) = some r := H
       have A13 := Aside0.mk A130
       clear A130
       replace H := Option.bind_eq_some_iff.mp H
       obtain ⟨t331, A140, H⟩ := H
       replace H : (some (wrap64 (t330 - t331))) = some r := H
       have A14 := Aside0.mk A140
       clear A140
       obtain rfl := Option.some.inj H
       go_wp2_with (first | ((with_reducible refine gate_callee (f := 66) rfl ?_); refine gm_ (some 26) Tryz.func66 #[.int .i64 a0, .int .i64 a1] ?_; (with_reducible refine (trystref01_Months.calls kj3 a0 a1 t329 _ A11.out).mono ?_); rintro e w' ⟨rfl, ⟨nd, rfl⟩⟩; refine ⟨_, rfl, ?_⟩) | ((with_reducible refine gate_callee (f := 34) rfl ?_); refine gm_ (some 32) Tryz.func34 #[.int .i64 a0, .int .i64 a1, .int .i64 (wrap64 (a2 + 1)), .int .i64 1] ?_; (with_reducible refine (trystref01_Fixed.calls kj3 a0 a1 (wrap64 (a2 + 1)) 1 t330 _ A13.out).mono ?_); rintro e w' ⟨rfl, ⟨nd, rfl⟩⟩; refine ⟨_, rfl, ?_⟩) | ((with_reducible refine gate_callee (f := 34) rfl ?_); refine gm_ (some 36) Tryz.func34 #[.int .i64 a0, .int .i64 a1, .int .i64 a2, .int .i64 1] ?_; (with_reducible refine (trystref01_Fixed.calls kj3 a0 a1 a2 1 t331 _ A14.out).mono ?_); rintro e w' ⟨rfl, ⟨nd, rfl⟩⟩; refine ⟨_, rfl, ?_⟩))
       go_ret
       exact ⟨by first | rfl | simp | simp [*] | simp [bne_nil_], by repeat (first | exact Drawn0.refl _ | apply Drawn0.step)⟩
      ·rw [if_neg c12] at H
       have c12b0 : decide (a2 < t329) = false := decide_eq_false c12
       clear c12
       replace H := Option.bind_eq_some_iff.mp H
       obtain ⟨t332, A150, H⟩ := H
       replace H : ((trystref01_begins.f kj3 a0 t332).bind fun t333 => ((trystref01_Fixed.f kj3 a0 a1 a2 1).bind fun t334 => (some (wrap64 (t333 - t334))))) = some r := H
       have A15 := Aside0.mk A150
       clear A150
       replace H := Option.bind_eq_some_iff.mp H
       obtain ⟨t333, A160, H⟩ := H
       replace H : ((trystref01_Fixed.f kj3 a0 a1 a2 1).bind fun t334 => (some (wrap64 (t333 - t334)))) = some r := H
       have A16 := Aside0.mk A160
       clear A160
       replace H := Option.bind_eq_some_iff.mp H
       obtain ⟨t334, A170, H⟩ := H
       replace H : (some (wrap64 (t333 - t334))) = some r := H
       have A17 := Aside0.mk A170
       clear A170
       obtain rfl := Option.some.inj H
       go_wp2_with (first | ((with_reducible refine gate_callee (f := 66) rfl ?_); refine gm_ (some 26) Tryz.func66 #[.int .i64 a0, .int .i64 a1] ?_; (with_reducible refine (trystref01_Months.calls kj3 a0 a1 t329 _ A11.out).mono ?_); rintro e w' ⟨rfl, ⟨nd, rfl⟩⟩; refine ⟨_, rfl, ?_⟩) | ((with_reducible refine gate_callee (f := 69) rfl ?_); refine gm_ (some 41) Tryz.func69 #[.int .i64 a0, .int .i64 a1] ?_; (with_reducible refine (trystref01_next.calls a0 a1 t332 _ A15.out).mono ?_); rintro e w' ⟨rfl, ⟨nd, rfl⟩⟩; refine ⟨_, rfl, ?_⟩) | ((with_reducible refine gate_callee (f := 68) rfl ?_); refine gm_ (some 42) Tryz.func68 #[.int .i64 a0, .int .i64 t332] ?_; (with_reducible refine (trystref01_begins.calls kj3 a0 t332 t333 _ A16.out).mono ?_); rintro e w' ⟨rfl, ⟨nd, rfl⟩⟩; refine ⟨_, rfl, ?_⟩) | ((with_reducible refine gate_callee (f := 34) rfl ?_); refine gm_ (some 46) Tryz.func34 #[.int .i64 a0, .int .i64 a1, .int .i64 a2, .int .i64 1] ?_; (with_reducible refine (trystref01_Fixed.calls kj3 a0 a1 a2 1 t334 _ A17.out).mono ?_); rintro e w' ⟨rfl, ⟨nd, rfl⟩⟩; refine ⟨_, rfl, ?_⟩))
       go_ret
       exact ⟨by first | rfl | simp | simp [*] | simp [bne_nil_], by repeat (first | exact Drawn0.refl _ | apply Drawn0.step)⟩

end Go.Proofs.YtfdcldjoncednaaGreat.M
/- What the reference's day arithmetic reckons, in plain numbers: Gregorian (0), Julian (1), ISO (2) and Coptic (6) dates. -/
namespace Go.Proofs.YtfdcldjoncednaaGreat.FunB
open Go.RowKit Go.Proofs.YtfdcldjoncednaaGreatW.PrintWords Go.Proofs.YtfdcldjoncednaaGreatW.PrintLast Go.Proofs.YtfdcldjoncednaaGreat.M Go.Proofs.YtfdcldjoncednaaGreat.Cal Go.Proofs.YtfdcldjoncednaaGreat.FunA
theorem fFloor (a b : Int) (hb : 2 ≤ b) (hb' : b ≤ 4611686018427387904) (ha : I64 a) : trystref01_Floor.f a b = some (a / b) := by
 have hd := div_bd a b hb ha
 have hq := quo a b (by omega)
 have h1 := Int.emod_nonneg a (show b ≠ 0 by omega)
 have h2 := Int.emod_lt_of_pos a (show 0 < b by omega)
 have h3 := Int.emod_def a b
 have h4 : (a / b + 1) * b = b * (a / b) + b := by rw [Int.add_mul, Int.one_mul, Int.mul_comm]
 have h5 : (a / b) * b = b * (a / b) := Int.mul_comm _ _
 obtain ⟨ha, ha'⟩ := ha
 unfold trystref01_Floor.f
 rw [if_neg (by omega), hq]
 by_cases h : 0 ≤ a ∨ a % b = 0
 ·rw [if_pos h, w64 (x := a / b) (by omega) (by omega), h5, w64 (by omega) (by omega), if_neg (by omega)]
 ·rw [if_neg h, w64 (x := a / b + 1) (by omega) (by omega), h4, w64 (x := b * (a / b) + b) (by omega) (by omega), if_pos (by omega), w64 (by omega) (by omega)]
  congr 1; omega
theorem fMod (a b : Int) (hb : 2 ≤ b) (hb' : b ≤ 4611686018427387904) (ha : I64 a) : trystref01_Mod.f a b = some (a % b) := by
 unfold trystref01_Mod.f
 have h1 := Int.emod_nonneg a (show b ≠ 0 by omega)
 have h2 := Int.emod_lt_of_pos a (show 0 < b by omega)
 rw [fFloor a b hb hb' ha, Option.bind_some, wrap_sub, ← Int.emod_def, w64 (by omega) (by omega)]
theorem fLeap (y : Int) (hy : I64 y) : trystref01_Leap.f y = some (decide (lp y = 1)) := by
 unfold trystref01_Leap.f
 rw [fMod y 4 (by omega) (by omega) hy, fMod y 400 (by omega) (by omega) hy]
 simp only [Option.bind_some]
 unfold lp
 by_cases a : y % 4 = 0
 ·rw [if_pos a, if_pos a]
  by_cases b : y % 100 = 0
  ·by_cases c : y % 400 = 0
   ·rw [if_neg (by omega), if_neg (by omega), if_pos b, if_pos c]; simp; omega
   ·rw [if_pos b, if_neg c]
    by_cases d : y % 400 = 100
    ·rw [if_pos d]; simp
    ·rw [if_neg d]
     by_cases e : y % 400 = 200
     ·rw [if_pos e]; simp
     ·rw [if_neg e]; simp; omega
  ·rw [if_neg (by omega), if_neg (by omega), if_neg b]; simp; omega
 ·rw [if_neg a, if_neg a]; simp
theorem fGreg (k : Nat) (hk : 1 ≤ k) (y m d : Int) (h : -40000 ≤ y) (h' : y ≤ 40000) (hm : 1 ≤ m) (hm' : m ≤ 100) (hd : -100000 ≤ d) (hd' : d ≤ 100000) :
  trystref01_gregorian.f k y m d = some (ah y + cum (lp y) m + d) := by
 obtain ⟨k, rfl⟩ : ∃ j, k = j + 1 := ⟨k - 1, by omega⟩
 have e : wrap64 (y - 1) = y - 1 := w64 (by omega) (by omega)
 have hl := lp_01 y
 unfold trystref01_gregorian.f
 rw [e, fFloor _ 4 (by omega) (by omega) ⟨by omega, by omega⟩, fFloor _ 100 (by omega) (by omega) ⟨by omega, by omega⟩, fFloor _ 400 (by omega) (by omega) ⟨by omega, by omega⟩]
 simp only [Option.bind_some]
 have e2 : wrap64 (Int.tdiv (wrap64 ((wrap64 (367 * m)) - 362)) 12) = (367 * m - 362) / 12 := by
  rw [w64 (x := 367 * m) (by omega) (by omega), w64 (x := 367 * m - 362) (by omega) (by omega), Int.tdiv_eq_ediv_of_nonneg (by omega), w64 (by omega) (by omega)]
 rw [e2]
 have e3 : wrap64 ((wrap64 ((wrap64 ((wrap64 ((wrap64 ((wrap64 (365 * (y - 1))) + (y - 1) / 4)) - (y - 1) / 100)) + (y - 1) / 400)) + (367 * m - 362) / 12)) + d) = ah y + (367 * m - 362) / 12 + d := by
  unfold ah wrap64; omega
 rw [e3]
 have hb := ah_bd y h h'
 by_cases c : m > 2
 ·rw [if_pos c, fLeap y ⟨by omega, by omega⟩, Option.bind_some]
  simp only [trystref01_gregorian.j0]
  unfold cum
  by_cases l : lp y = 1
  ·rw [decide_eq_true l, if_pos rfl, if_pos c, w64 (by omega) (by omega)]; congr 1; omega
  ·rw [decide_eq_false l, if_neg (by simp), if_pos c, if_pos c, w64 (by omega) (by omega)]; congr 1; omega
 ·rw [if_neg c]
  simp only [trystref01_gregorian.j0]
  unfold cum
  rw [if_neg (by simp), if_neg c, if_neg c]; congr 1; omega
theorem fWeek (s : Int) (hs : 0 ≤ s) (hs' : s ≤ 6) : ∀ (j k : Nat) (n : Int), -100000000 ≤ n → n + j ≤ 100000000 → (s - n) % 7 = j → j < k → trystref01_Week1.l0 k s n = some (n + j) := by
 intro j
 induction j with
 | zero =>
  intro k n h1 h2 h3 h4
  obtain ⟨k, rfl⟩ : ∃ m, k = m + 1 := ⟨k - 1, by omega⟩
  simp only [trystref01_Week1.l0]
  rw [fMod n 7 (by omega) (by omega) ⟨by omega, by omega⟩, Option.bind_some, if_pos (by omega)]; simp
 | succ j ih =>
  intro k n h1 h2 h3 h4
  obtain ⟨k, rfl⟩ : ∃ m, k = m + 1 := ⟨k - 1, by omega⟩
  simp only [trystref01_Week1.l0]
  rw [fMod n 7 (by omega) (by omega) ⟨by omega, by omega⟩, Option.bind_some, if_neg (by omega), w64 (by omega) (by omega), ih k (n + 1) (by omega) (by omega) (by omega) (by omega)]
  congr 1; omega
theorem fWeek1 (k : Nat) (hk : 8 ≤ k) (y s : Int) (h : -40000 ≤ y) (h' : y ≤ 40000) (hs : 0 ≤ s) (hs' : s ≤ 6) : trystref01_Week1.f k y s = some (wk y s) := by
 have hb := ah_bd y h h'
 unfold trystref01_Week1.f
 rw [fGreg k (by omega) y 1 1 h h' (by omega) (by omega) (by omega) (by omega), Option.bind_some, cum_one, w64 (by omega) (by omega)]
 have e : ah y + 0 + 1 - 3 = ah y - 2 := by omega
 rw [e, fWeek s hs hs' ((s - (ah y - 2)) % 7).toNat k (ah y - 2) (by omega) (by omega) (by omega) (by omega)]
 unfold wk; congr 1; omega
theorem jb_bd (y : Int) (h : -40000 ≤ y) (h' : y ≤ 40000) : -15000000 ≤ jb y ∧ jb y ≤ 15000000 := by unfold jb; omega
theorem cb_bd (y : Int) (h : -40000 ≤ y) (h' : y ≤ 40000) : -15000000 ≤ cb y ∧ cb y ≤ 15000000 := by unfold cb; omega
theorem fJul (k : Nat) (hk : 1 ≤ k) (y m d : Int) (h : -40000 ≤ y) (h' : y ≤ 40000) (hm : 1 ≤ m) (hm' : m ≤ 100) (hd : -100000 ≤ d) (hd' : d ≤ 100000) :
  trystref01_julian.f k y m d = some (jb y + cum (lj y) m + d) := by
 obtain ⟨k, rfl⟩ : ∃ j, k = j + 1 := ⟨k - 1, by omega⟩
 have e : wrap64 (y - 1) = y - 1 := w64 (by omega) (by omega)
 unfold trystref01_julian.f
 rw [e, fFloor _ 4 (by omega) (by omega) ⟨by omega, by omega⟩]
 simp only [Option.bind_some]
 have e2 : wrap64 (Int.tdiv (wrap64 ((wrap64 (367 * m)) - 362)) 12) = (367 * m - 362) / 12 := by
  rw [w64 (x := 367 * m) (by omega) (by omega), w64 (x := 367 * m - 362) (by omega) (by omega), Int.tdiv_eq_ediv_of_nonneg (by omega), w64 (by omega) (by omega)]
 rw [e2]
 have e3 : wrap64 ((wrap64 ((wrap64 ((wrap64 ((-2) + (wrap64 (365 * (y - 1))))) + (y - 1) / 4)) + (367 * m - 362) / 12)) + d) = jb y + (367 * m - 362) / 12 + d := by
  unfold jb wrap64; omega
 rw [e3]
 have hb := jb_bd y h h'
 by_cases c : m > 2
 ·rw [if_pos c, fMod y 4 (by omega) (by omega) ⟨by omega, by omega⟩, Option.bind_some]
  simp only [trystref01_julian.j0]
  unfold cum lj
  by_cases l : y % 4 = 0
  ·rw [if_pos (by simp [l]), if_pos c, if_pos l, w64 (by omega) (by omega)]; congr 1; omega
  ·rw [if_neg (by simp [l]), if_pos c, if_pos c, if_neg l, w64 (by omega) (by omega)]; congr 1; omega
 ·rw [if_neg c]
  simp only [trystref01_julian.j0]
  unfold cum
  rw [if_neg (by simp), if_neg c, if_neg c]; congr 1; omega
theorem fCop (y m d : Int) (h : -40000 ≤ y) (h' : y ≤ 40000) (hm : 1 ≤ m) (hm' : m ≤ 100) (hd : -100000 ≤ d) (hd' : d ≤ 100000) :
  trystref01_coptic.f y m d = some (cb y + 30 * (m - 1) + d) := by
 unfold trystref01_coptic.f
 rw [fFloor _ 4 (by omega) (by omega) ⟨by omega, by omega⟩, Option.bind_some]
 congr 1
 unfold cb wrap64; omega
/-- The day of the first of a month, less one, of the four calendars. -/
def fx (c y m : Int) : Int := if c = 0 then ah y + cum (lp y) m else if c = 1 then jb y + cum (lj y) m else if c = 2 then wk y 1 + 7 * (m - 1) - 1 else cb y + 30 * (m - 1)
def Four (c : Int) : Prop := c = 0 ∨ c = 1 ∨ c = 2 ∨ c = 6
theorem fFixed (k : Nat) (hk : 8 ≤ k) (c y m d : Int) (hc : Four c) (h : -40000 ≤ y) (h' : y ≤ 40000) (hm : 1 ≤ m) (hm' : m ≤ 100) (hd : -100000 ≤ d) (hd' : d ≤ 100000) :
  trystref01_Fixed.f k c y m d = some (fx c y m + d) := by
 unfold trystref01_Fixed.f fx
 rcases hc with rfl | rfl | rfl | rfl
 ·rw [if_pos rfl, fGreg k (by omega) y m d h h' hm hm' hd hd']; rfl
 ·rw [if_neg (by omega), if_pos rfl, fJul k (by omega) y m d h h' hm hm' hd hd']; rfl
 ·have hb := ah_bd y h h'
  have hw := wk_bd y 1
  rw [if_neg (by omega), if_neg (by omega), if_pos rfl, fWeek1 k hk y 1 h h' (by omega) (by omega), Option.bind_some, if_neg (by omega), if_neg (by omega), if_pos rfl]
  congr 1
  unfold wrap64; omega
 ·rw [if_neg (by omega), if_neg (by omega), if_neg (by omega), if_neg (by omega), if_neg (by omega), if_neg (by omega), fCop y m d h h' hm hm' hd hd']; rfl
def mths (c y : Int) : Int := if c = 2 then (wk (y + 1) 1 - wk y 1) / 7 else if c = 6 then 13 else 12
theorem wks (y s : Int) : ∃ n, (n = 52 ∨ n = 53) ∧ wk (y + 1) s - wk y s = 7 * n := by
 have h1 := wk_bd y s; have h2 := wk_bd (y + 1) s; have h3 := ah_succ y; have h4 := lp_01 y
 refine ⟨(wk (y + 1) s - wk y s) / 7, ?_, ?_⟩ <;> omega
theorem mths_bd (c y : Int) : 12 ≤ mths c y ∧ mths c y ≤ 53 := by
 obtain ⟨n, hn, h⟩ := wks y 1
 unfold mths; split
 ·omega
 ·split <;> omega
theorem fMonths (k : Nat) (hk : 8 ≤ k) (c y : Int) (hc : Four c) (h : -40000 ≤ y) (h' : y < 40000) : trystref01_Months.f k c y = some (mths c y) := by
 unfold trystref01_Months.f mths
 rcases hc with rfl | rfl | rfl | rfl
 ·rfl
 ·rfl
 ·have hb := ah_bd y h (by omega); have hb' := ah_bd (y + 1) (by omega) (by omega); have hw := wk_bd y 1; have hw' := wk_bd (y + 1) 1
  rw [if_pos rfl, if_pos rfl, w64 (x := y + 1) (by omega) (by omega), fWeek1 k hk (y + 1) 1 (by omega) (by omega) (by omega) (by omega), fWeek1 k hk y 1 h (by omega) (by omega) (by omega)]
  simp only [Option.bind_some]
  rw [w64 (by omega) (by omega), fFloor _ 7 (by omega) (by omega) ⟨by omega, by omega⟩]; rfl
 ·rfl
theorem fBegins (k : Nat) (hk : 8 ≤ k) (c y : Int) (hc : Four c) (h : -40000 ≤ y) (h' : y ≤ 40000) : trystref01_begins.f k c y = some (fx c y 1 + 1) := by
 unfold trystref01_begins.f
 rw [if_neg (by rcases hc with rfl | rfl | rfl | rfl <;> omega), fFixed k hk c y 1 1 hc h h' (by omega) (by omega) (by omega) (by omega)]; rfl
theorem fNext (c y : Int) (hc : Four c) (h : -40000 ≤ y) (h' : y ≤ 40000) : trystref01_next.f c y = some (y + 1) := by
 unfold trystref01_next.f
 rw [if_neg (by rcases hc with rfl | rfl | rfl | rfl <;> omega), w64 (by omega) (by omega)]
theorem fIn (day : Int) : trystref01_In.f day = some (decide (1 ≤ day) && decide (day ≤ 3652059)) := by
 unfold trystref01_In.f
 by_cases h : day ≥ 1
 ·rw [if_pos h, decide_eq_true (show 1 ≤ day from h)]; rfl
 ·rw [if_neg h, decide_eq_false (show ¬ 1 ≤ day from h)]; rfl
theorem fIn_yes {day : Int} (h : In day) : trystref01_In.f day = some true := by
 rw [fIn, decide_eq_true h.1, decide_eq_true h.2]; rfl
/-- Days of a month of the four calendars. -/
def len (c y m : Int) : Int := if c = 0 then dim (lp y) m else if c = 1 then dim (lj y) m else if m < 1 ∨ mths c y < m then 0 else if c = 2 then 7 else if m = 13 then lc y else 30
theorem fx_end (c y : Int) (hc : c = 0 ∨ c = 1) : fx c (y + 1) 1 = fx c y 13 := by
 unfold fx
 rcases hc with rfl | rfl
 ·rw [if_pos rfl, if_pos rfl, cum_one, cum_end, ah_succ]; omega
 ·have := jul.succ y
  rw [if_neg (by omega), if_pos rfl, if_neg (by omega), if_pos rfl, cum_one, cum_end, this]; omega
theorem fx_bd (c y m : Int) (hc : Four c) (h : -40000 ≤ y) (h' : y ≤ 40000) (hm : 1 ≤ m) (hm' : m ≤ 54) : -16000000 ≤ fx c y m ∧ fx c y m ≤ 16000000 := by
 have a := ah_bd y h h'; have b := jb_bd y h h'; have d := cb_bd y h h'; have e := wk_bd y 1
 have x : -2 ≤ cum (lp y) m ∧ cum (lp y) m ≤ 2000 := by have := lp_01 y; unfold cum; split <;> omega
 have z : -2 ≤ cum (lj y) m ∧ cum (lj y) m ≤ 2000 := by have := lj_01 y; unfold cum; split <;> omega
 unfold fx
 rcases hc with rfl | rfl | rfl | rfl
 ·rw [if_pos rfl]; omega
 ·rw [if_neg (by omega), if_pos rfl]; omega
 ·rw [if_neg (by omega), if_neg (by omega), if_pos rfl]; omega
 ·rw [if_neg (by omega), if_neg (by omega), if_neg (by omega)]; omega
theorem fLength (k : Nat) (hk : 9 ≤ k) (c y m : Int) (hc : Four c) (h : -40000 ≤ y) (h' : y < 40000) : trystref01_Length.f k c y m = some (len c y m) := by
 obtain ⟨k, rfl⟩ : ∃ j, k = j + 1 := ⟨k - 1, by omega⟩
 have hM := mths_bd c y
 have e01 : (m < 1 ∨ mths c y < m) → len c y m = 0 := by
  intro z
  unfold len
  unfold mths at z hM
  rcases hc with rfl | rfl | rfl | rfl
  ·rw [if_pos rfl]; exact dim_none _ _ (by simp at z; omega)
  ·rw [if_neg (by omega), if_pos rfl]; exact dim_none _ _ (by simp at z; omega)
  ·rw [if_neg (by omega), if_neg (by omega), if_pos (by unfold mths; exact z)]
  ·rw [if_neg (by omega), if_neg (by omega), if_pos (by unfold mths; exact z)]
 unfold trystref01_Length.f
 by_cases m1 : m < 1
 ·rw [if_pos m1, e01 (Or.inl m1)]; simp only [trystref01_Length.j0, if_true]
 rw [if_neg m1, fMonths (k + 1) (by omega) c y hc h h', Option.bind_some]
 by_cases m2 : mths c y < m
 ·rw [decide_eq_true m2, e01 (Or.inr m2)]; simp only [trystref01_Length.j0, if_true]
 rw [decide_eq_false m2]
 simp only [trystref01_Length.j0]
 rw [if_neg (by simp)]
 have n3 : ¬ c = 3 := by rcases hc with rfl | rfl | rfl | rfl <;> omega
 by_cases c2 : c = 2
 ·subst c2
  rw [if_pos rfl]; unfold len
  rw [if_neg (by omega), if_neg (by omega), if_neg (by omega), if_pos rfl]
 rw [if_neg c2, if_neg n3, fMonths k (by omega) c y hc h h', Option.bind_some]
 have b1 := fx_bd c y m hc h (by omega) (by omega) (by omega)
 have b2 := fx_bd c y (m + 1) hc h (by omega) (by omega) (by omega)
 have b3 := fx_bd c (y + 1) 1 hc (by omega) (by omega) (by omega) (by omega)
 have key : (m < mths c y → fx c y (m + 1) - fx c y m = len c y m) ∧ (m = mths c y → fx c (y + 1) 1 - fx c y m = len c y m) := by
  rcases hc with rfl | rfl | rfl | rfl
  ·have s := cum_succ (lp y) m (by omega) (by simp [mths] at m2; omega)
   have q := fx_end 0 y (Or.inl rfl)
   constructor
   ·intro _; simp only [fx, len, if_true]; omega
   ·intro hm; simp only [mths] at hm; simp at hm; subst hm; rw [q]; simp only [fx, len, if_true]; simp at s; omega
  ·have s := cum_succ (lj y) m (by omega) (by simp [mths] at m2; omega)
   have q := fx_end 1 y (Or.inr rfl)
   constructor
   ·intro _; simp [fx, len]; omega
   ·intro hm; simp only [mths] at hm; simp at hm; subst hm; rw [q]; simp [fx, len]; simp at s; omega
  ·omega
  ·have s := cb_succ y
   have eM : mths 6 y = 13 := by simp [mths]
   rw [eM] at m2
   constructor
   ·intro hm; rw [eM] at hm; simp [fx, len, eM]; rw [if_neg (by omega), if_neg (by omega)]; omega
   ·intro hm; rw [eM] at hm; subst hm; simp [fx, len, eM]; omega
 by_cases m3 : m < mths c y
 ·rw [if_pos m3, w64 (x := m + 1) (by omega) (by omega), fFixed k (by omega) c y (m + 1) 1 hc h (by omega) (by omega) (by omega) (by omega) (by omega), fFixed k (by omega) c y m 1 hc h (by omega) (by omega) (by omega) (by omega) (by omega)]
  simp only [Option.bind_some]
  rw [w64 (by omega) (by omega)]; congr 1; have := key.1 m3; omega
 ·rw [if_neg m3, fNext c y hc h (by omega), Option.bind_some, fBegins k (by omega) c (y + 1) hc (by omega) (by omega), fFixed k (by omega) c y m 1 hc h (by omega) (by omega) (by omega) (by omega) (by omega)]
  simp only [Option.bind_some]
  rw [w64 (by omega) (by omega)]; congr 1; have := key.2 (by omega); omega
end Go.Proofs.YtfdcldjoncednaaGreat.FunB
