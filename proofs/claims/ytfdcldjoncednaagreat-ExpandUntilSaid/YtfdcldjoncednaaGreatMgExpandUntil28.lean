/- Texts of this claim, merged: RefS, RefK. -/
import Derived.Test.YtfdcldjoncednaaGreatMgExpandUntil10
import Derived.Test.YtfdcldjoncednaaGreatMgExpandUntil26
import Derived.Test.YtfdcldjoncednaaGreatMgExpandUntil23
import Derived.Test.YtfdcldjoncednaaGreatMgExpandUntil7
import Derived.Test.YtfdcldjoncednaaGreatMgExpandUntil1
import Derived.Test.YtfdcldjoncednaaGreatMgExpandUntil2
/- trystref14.Span: a rule as one thing (Ru). (Written by gen_refs.py.) -/
namespace Go.Proofs.YtfdcldjoncednaaGreat.RefS
open Go.RowKit Go.Proofs.YtfdcldjoncednaaGreatW.PrintWords Go.Proofs.YtfdcldjoncednaaGreatW.PrintLast Go.Proofs.YtfdcldjoncednaaGreatW.PrintMore Go.Proofs.YtfdcldjoncednaaGreat.M Go.Proofs.YtfdcldjoncednaaGreat.Ru
set_option linter.unusedVariables false
set_option linter.unusedSimpArgs false
attribute [local go_sem] max2_int min2_int max_two min_two
/-- A period's first and last day by the document, ahead of the bounds. -/
inductive SpanR (k : Nat) (r : Ru) (b n y m : Int) : Int → Int → Prop
 | day (r1 : Int) (h : r.a0 = 1) (e1 : wrap64 (b + n) = r1) : SpanR k r b n y m r1 r1
 | week (wb u r1 r2 : Int) (h : r.a0 = 2) (hw : trystref14_Begin.f k b r.a7 = some wb) (e1 : wrap64 (7 * n) = u) (e2 : wrap64 (wb + u) = r1) (e3 : wrap64 (r1 + 6) = r2) : SpanR k r b n y m r1 r2
 | month (u1 u2 u3 q yy t kk ln v r1 r2 : Int) (h : r.a0 = 3) (e1 : wrap64 (12 * y) = u1) (e2 : wrap64 (u1 + m) = u2) (e3 : wrap64 (u2 - 1) = u3) (e4 : wrap64 (u3 + n) = q) (hf : trystref01_Floor.f q 12 = some yy) (ht : trystref01_Mod.f q 12 = some t) (e5 : wrap64 (t + 1) = kk) (h1 : 1 ≤ yy) (h2 : yy ≤ 9999) (hx : trystref01_Fixed.f k 0 yy kk 1 = some r1) (hl : trystref01_Length.f k 0 yy kk = some ln) (e6 : wrap64 (r1 + ln) = v) (e7 : wrap64 (v - 1) = r2) : SpanR k r b n y m r1 r2
 | mnone (u1 u2 u3 q yy t kk : Int) (h : r.a0 = 3) (e1 : wrap64 (12 * y) = u1) (e2 : wrap64 (u1 + m) = u2) (e3 : wrap64 (u2 - 1) = u3) (e4 : wrap64 (u3 + n) = q) (hf : trystref01_Floor.f q 12 = some yy) (ht : trystref01_Mod.f q 12 = some t) (e5 : wrap64 (t + 1) = kk) (h1 : ¬ (1 ≤ yy ∧ yy ≤ 9999)) : SpanR k r b n y m 0 (-1)
 | year (u v g2 r1 r2 : Int) (h : r.a0 = 4) (e1 : wrap64 (y + n) = u) (h1 : 1 ≤ u) (h2 : u ≤ 9999) (hx : trystref01_Fixed.f k 0 u 1 1 = some r1) (e2 : wrap64 (u + 1) = v) (hl : trystref01_Fixed.f k 0 v 1 1 = some g2) (e3 : wrap64 (g2 - 1) = r2) : SpanR k r b n y m r1 r2
 | ynone (u : Int) (h : r.a0 = 4) (e1 : wrap64 (y + n) = u) (h1 : ¬ (1 ≤ u ∧ u ≤ 9999)) : SpanR k r b n y m 0 (-1)
set_option maxHeartbeats 4000000 in
set_option maxRecDepth 100000 in
theorem Span (k : Nat) (r : Ru) (p : Rp) (b n y m dd r1 r2 f l F L : Int) (w : World) (h : SpanR k r b n y m r1 r2) (hd : trystref14_date.f k b = some (y, m, dd)) (hfe : (if r1 < 1 then 1 else r1) = f) (hle : (if 3652059 < r2 then 3652059 else r2) = l) (hF : (if f > l then 0 else f) = F) (hL : (if f > l then -1 else l) = L) :
  Calls Tryz.prog 12 #[.agg (agg r p), .int .i64 b, .int .i64 n] w fun q w' => q = .returned (.tuple #[.int .i64 F, .int .i64 L]) ∧ Below w.heap.size w w' := by
 have HD := Aside0.mk hd; have FE := Aside0.mk hfe; have LE := Aside0.mk hle; clear hd hfe hle
 have HK := Aside0.mk (blk_new w (obj r p))
 have HB := Aside0.mk (below_alloc (Below.refl w.heap.size w) (obj r p))
 go_enter Tryz.func12, Tryz.ntmps12
 go_upto_region 1 with fail
 generalize w.alloc (obj r p) = w0 at HK HB ⊢
 go_wp2_with fail
 refine (trystref14_date.calls k b y m dd _ HD.out).mono ?_
 rintro q wa ⟨rfl, hb⟩
 replace HK := Aside0.mk (blk_below HK.out hb)
 replace HB := Aside0.mk (below_then HB.out HB.out.size hb)
 clear hb
 go_upto_region 2 with fail
 replace HK := Aside0.mk (blk_below HK.out (below_alloc (Below.refl _ _) (.cells #[.int .i64 y, .int .i64 m, .int .i64 dd] 61 (0, 0))))
 have HA := Aside0.mk (blk_new wa (.cells #[.int .i64 y, .int .i64 m, .int .i64 dd] 61 (0, 0)))
 replace HB := Aside0.mk (below_alloc HB.out (.cells #[.int .i64 y, .int .i64 m, .int .i64 dd] 61 (0, 0)))
 generalize wa.alloc (.cells #[.int .i64 y, .int .i64 m, .int .i64 dd] 61 (0, 0)) = wb at HK HA HB ⊢
 generalize wa.heap.size = g at HA ⊢
 have k0 : wb.cell? ⟨w.heap.size, 0, none⟩ = some (.int .i64 r.a0) := (blk_cell HK.out 0).trans rfl
 have k7 : wb.cell? ⟨w.heap.size, 7, none⟩ = some (.int .i64 r.a7) := (blk_cell HK.out 7).trans rfl
 have d0 : wb.cell? ⟨g, 0, none⟩ = some (.int .i64 y) := (blk_cell HA.out 0).trans rfl
 have d1 : wb.cell? ⟨g, 1, none⟩ = some (.int .i64 m) := (blk_cell HA.out 1).trans rfl
 have d2 : wb.cell? ⟨g, 2, none⟩ = some (.int .i64 dd) := (blk_cell HA.out 2).trans rfl
 have f1 : ∀ k k' : IntKind, Builtin.max2 (.int k r1) (.int k' 1) = pure (.int k f) := fun k k' => by rw [max2_int, FE.out]
 have f2 : ∀ k k' : IntKind, Builtin.min2 (.int k r2) (.int k' 3652059) = pure (.int k l) := fun k k' => by rw [min2_int, LE.out]
 clear FE LE
 by_cases c : f > l
 ·have g1 : decide (f > l) = true := decide_eq_true c
  rw [if_pos c] at hF hL; subst hF hL; clear c
  cases h with
  | day r1 h e1 =>
   have x1 : (r.a0 == 1) = true := beq_iff_eq.2 (by omega)
   have x2 : (r.a0 == 2) = false := beq_eq_false_iff_ne.2 (by omega)
   have x3 : (r.a0 == 3) = false := beq_eq_false_iff_ne.2 (by omega)
   clear h
   go_wp2_with fail
   go_ret2
   exact ⟨rfl, HB.out⟩
  | week wk u r1 r2 h hw e1 e2 e3 =>
   have x1 : (r.a0 == 1) = false := beq_eq_false_iff_ne.2 (by omega)
   have x2 : (r.a0 == 2) = true := beq_iff_eq.2 (by omega)
   have x3 : (r.a0 == 3) = false := beq_eq_false_iff_ne.2 (by omega)
   clear h
   have HW := Aside0.mk hw; clear hw
   go_wp2_with fail
   refine (trystref14_Begin.calls k b r.a7 wk _ HW.out).mono ?_
   rintro q wq1 ⟨rfl, ⟨nd, rfl⟩⟩
   replace HB := Aside0.mk (pw_below_drewN HB.out nd)
   replace HK := Aside0.mk (blk_drewN HK.out nd); replace HA := Aside0.mk (blk_drewN HA.out nd)
   clear k0 k7 d0 d1 d2
   generalize wb.drewN nd = wc1 at HK HA HB ⊢
   have k0 : wc1.cell? ⟨w.heap.size, 0, none⟩ = some (.int .i64 r.a0) := (blk_cell HK.out 0).trans rfl
   have k7 : wc1.cell? ⟨w.heap.size, 7, none⟩ = some (.int .i64 r.a7) := (blk_cell HK.out 7).trans rfl
   have d0 : wc1.cell? ⟨g, 0, none⟩ = some (.int .i64 y) := (blk_cell HA.out 0).trans rfl
   have d1 : wc1.cell? ⟨g, 1, none⟩ = some (.int .i64 m) := (blk_cell HA.out 1).trans rfl
   have d2 : wc1.cell? ⟨g, 2, none⟩ = some (.int .i64 dd) := (blk_cell HA.out 2).trans rfl
   go_wp2_with fail
   go_ret2
   exact ⟨rfl, HB.out⟩
  | month u1 u2 u3 q_ yy t kk ln v r1 r2 h e1 e2 e3 e4 hf ht e5 h1 h2 hx hl e6 e7 =>
   have HX := Aside0.mk hx; have HL := Aside0.mk hl; clear hx hl
   have x1 : (r.a0 == 1) = false := beq_eq_false_iff_ne.2 (by omega)
   have x2 : (r.a0 == 2) = false := beq_eq_false_iff_ne.2 (by omega)
   have x3 : (r.a0 == 3) = true := beq_iff_eq.2 (by omega)
   clear h
   have HF := Aside0.mk hf; have HT := Aside0.mk ht; clear hf ht
   go_wp2_with fail
   refine (trystref01_Floor.calls q_ 12 yy _ HF.out).mono ?_
   rintro q wq2 ⟨rfl, ⟨nd, rfl⟩⟩
   replace HB := Aside0.mk (pw_below_drewN HB.out nd)
   replace HK := Aside0.mk (blk_drewN HK.out nd); replace HA := Aside0.mk (blk_drewN HA.out nd)
   clear k0 k7 d0 d1 d2
   generalize wb.drewN nd = wc2 at HK HA HB ⊢
   have k0 : wc2.cell? ⟨w.heap.size, 0, none⟩ = some (.int .i64 r.a0) := (blk_cell HK.out 0).trans rfl
   have k7 : wc2.cell? ⟨w.heap.size, 7, none⟩ = some (.int .i64 r.a7) := (blk_cell HK.out 7).trans rfl
   have d0 : wc2.cell? ⟨g, 0, none⟩ = some (.int .i64 y) := (blk_cell HA.out 0).trans rfl
   have d1 : wc2.cell? ⟨g, 1, none⟩ = some (.int .i64 m) := (blk_cell HA.out 1).trans rfl
   have d2 : wc2.cell? ⟨g, 2, none⟩ = some (.int .i64 dd) := (blk_cell HA.out 2).trans rfl
   go_wp2_with fail
   refine (trystref01_Mod.calls q_ 12 t _ HT.out).mono ?_
   rintro q wq3 ⟨rfl, ⟨nd, rfl⟩⟩
   replace HB := Aside0.mk (pw_below_drewN HB.out nd)
   replace HK := Aside0.mk (blk_drewN HK.out nd); replace HA := Aside0.mk (blk_drewN HA.out nd)
   clear k0 k7 d0 d1 d2
   generalize wc2.drewN nd = wc3 at HK HA HB ⊢
   have k0 : wc3.cell? ⟨w.heap.size, 0, none⟩ = some (.int .i64 r.a0) := (blk_cell HK.out 0).trans rfl
   have k7 : wc3.cell? ⟨w.heap.size, 7, none⟩ = some (.int .i64 r.a7) := (blk_cell HK.out 7).trans rfl
   have d0 : wc3.cell? ⟨g, 0, none⟩ = some (.int .i64 y) := (blk_cell HA.out 0).trans rfl
   have d1 : wc3.cell? ⟨g, 1, none⟩ = some (.int .i64 m) := (blk_cell HA.out 1).trans rfl
   have d2 : wc3.cell? ⟨g, 2, none⟩ = some (.int .i64 dd) := (blk_cell HA.out 2).trans rfl
   have y1 : decide (yy ≥ 1) = true := decide_eq_true h1; have y2 : decide (yy ≤ 9999) = true := decide_eq_true h2; clear h1 h2
   go_wp2_with fail
   refine (trystref01_Fixed.calls k 0 yy kk 1 r1 _ HX.out).mono ?_
   rintro q wq4 ⟨rfl, ⟨nd, rfl⟩⟩
   replace HB := Aside0.mk (pw_below_drewN HB.out nd)
   replace HK := Aside0.mk (blk_drewN HK.out nd); replace HA := Aside0.mk (blk_drewN HA.out nd)
   clear k0 k7 d0 d1 d2
   generalize wc3.drewN nd = wc4 at HK HA HB ⊢
   have k0 : wc4.cell? ⟨w.heap.size, 0, none⟩ = some (.int .i64 r.a0) := (blk_cell HK.out 0).trans rfl
   have k7 : wc4.cell? ⟨w.heap.size, 7, none⟩ = some (.int .i64 r.a7) := (blk_cell HK.out 7).trans rfl
   have d0 : wc4.cell? ⟨g, 0, none⟩ = some (.int .i64 y) := (blk_cell HA.out 0).trans rfl
   have d1 : wc4.cell? ⟨g, 1, none⟩ = some (.int .i64 m) := (blk_cell HA.out 1).trans rfl
   have d2 : wc4.cell? ⟨g, 2, none⟩ = some (.int .i64 dd) := (blk_cell HA.out 2).trans rfl
   go_wp2_with fail
   refine (trystref01_Length.calls k 0 yy kk ln _ HL.out).mono ?_
   rintro q wq5 ⟨rfl, ⟨nd, rfl⟩⟩
   replace HB := Aside0.mk (pw_below_drewN HB.out nd)
   replace HK := Aside0.mk (blk_drewN HK.out nd); replace HA := Aside0.mk (blk_drewN HA.out nd)
   clear k0 k7 d0 d1 d2
   generalize wc4.drewN nd = wc5 at HK HA HB ⊢
   have k0 : wc5.cell? ⟨w.heap.size, 0, none⟩ = some (.int .i64 r.a0) := (blk_cell HK.out 0).trans rfl
   have k7 : wc5.cell? ⟨w.heap.size, 7, none⟩ = some (.int .i64 r.a7) := (blk_cell HK.out 7).trans rfl
   have d0 : wc5.cell? ⟨g, 0, none⟩ = some (.int .i64 y) := (blk_cell HA.out 0).trans rfl
   have d1 : wc5.cell? ⟨g, 1, none⟩ = some (.int .i64 m) := (blk_cell HA.out 1).trans rfl
   have d2 : wc5.cell? ⟨g, 2, none⟩ = some (.int .i64 dd) := (blk_cell HA.out 2).trans rfl
   go_wp2_with fail
   go_ret2
   exact ⟨rfl, HB.out⟩
  | mnone u1 u2 u3 q_ yy t kk h e1 e2 e3 e4 hf ht e5 h1 =>
   have x1 : (r.a0 == 1) = false := beq_eq_false_iff_ne.2 (by omega)
   have x2 : (r.a0 == 2) = false := beq_eq_false_iff_ne.2 (by omega)
   have x3 : (r.a0 == 3) = true := beq_iff_eq.2 (by omega)
   clear h
   have HF := Aside0.mk hf; have HT := Aside0.mk ht; clear hf ht
   go_wp2_with fail
   refine (trystref01_Floor.calls q_ 12 yy _ HF.out).mono ?_
   rintro q wq6 ⟨rfl, ⟨nd, rfl⟩⟩
   replace HB := Aside0.mk (pw_below_drewN HB.out nd)
   replace HK := Aside0.mk (blk_drewN HK.out nd); replace HA := Aside0.mk (blk_drewN HA.out nd)
   clear k0 k7 d0 d1 d2
   generalize wb.drewN nd = wc6 at HK HA HB ⊢
   have k0 : wc6.cell? ⟨w.heap.size, 0, none⟩ = some (.int .i64 r.a0) := (blk_cell HK.out 0).trans rfl
   have k7 : wc6.cell? ⟨w.heap.size, 7, none⟩ = some (.int .i64 r.a7) := (blk_cell HK.out 7).trans rfl
   have d0 : wc6.cell? ⟨g, 0, none⟩ = some (.int .i64 y) := (blk_cell HA.out 0).trans rfl
   have d1 : wc6.cell? ⟨g, 1, none⟩ = some (.int .i64 m) := (blk_cell HA.out 1).trans rfl
   have d2 : wc6.cell? ⟨g, 2, none⟩ = some (.int .i64 dd) := (blk_cell HA.out 2).trans rfl
   go_wp2_with fail
   refine (trystref01_Mod.calls q_ 12 t _ HT.out).mono ?_
   rintro q wq7 ⟨rfl, ⟨nd, rfl⟩⟩
   replace HB := Aside0.mk (pw_below_drewN HB.out nd)
   replace HK := Aside0.mk (blk_drewN HK.out nd); replace HA := Aside0.mk (blk_drewN HA.out nd)
   clear k0 k7 d0 d1 d2
   generalize wc6.drewN nd = wc7 at HK HA HB ⊢
   have k0 : wc7.cell? ⟨w.heap.size, 0, none⟩ = some (.int .i64 r.a0) := (blk_cell HK.out 0).trans rfl
   have k7 : wc7.cell? ⟨w.heap.size, 7, none⟩ = some (.int .i64 r.a7) := (blk_cell HK.out 7).trans rfl
   have d0 : wc7.cell? ⟨g, 0, none⟩ = some (.int .i64 y) := (blk_cell HA.out 0).trans rfl
   have d1 : wc7.cell? ⟨g, 1, none⟩ = some (.int .i64 m) := (blk_cell HA.out 1).trans rfl
   have d2 : wc7.cell? ⟨g, 2, none⟩ = some (.int .i64 dd) := (blk_cell HA.out 2).trans rfl
   by_cases c : yy ≥ 1
   ·have y1 : decide (yy ≥ 1) = true := decide_eq_true c; have y2 : decide (yy ≤ 9999) = false := decide_eq_false (by omega); clear c h1
    go_wp2_with fail
    go_ret2
    exact ⟨rfl, HB.out⟩
   ·have y1 : decide (yy ≥ 1) = false := decide_eq_false c; clear c h1
    go_wp2_with fail
    go_ret2
    exact ⟨rfl, HB.out⟩
  | year u v g2 r1 r2 h e1 h1 h2 hx e2 hl e3 =>
   have x1 : (r.a0 == 1) = false := beq_eq_false_iff_ne.2 (by omega)
   have x2 : (r.a0 == 2) = false := beq_eq_false_iff_ne.2 (by omega)
   have x3 : (r.a0 == 3) = false := beq_eq_false_iff_ne.2 (by omega)
   clear h
   have HX := Aside0.mk hx; have HL := Aside0.mk hl; have y1 : decide (u ≥ 1) = true := decide_eq_true h1; have y2 : decide (u ≤ 9999) = true := decide_eq_true h2; clear hx hl h1 h2
   go_wp2_with fail
   refine (trystref01_Fixed.calls k 0 u 1 1 r1 _ HX.out).mono ?_
   rintro q wq8 ⟨rfl, ⟨nd, rfl⟩⟩
   replace HB := Aside0.mk (pw_below_drewN HB.out nd)
   replace HK := Aside0.mk (blk_drewN HK.out nd); replace HA := Aside0.mk (blk_drewN HA.out nd)
   clear k0 k7 d0 d1 d2
   generalize wb.drewN nd = wc8 at HK HA HB ⊢
   have k0 : wc8.cell? ⟨w.heap.size, 0, none⟩ = some (.int .i64 r.a0) := (blk_cell HK.out 0).trans rfl
   have k7 : wc8.cell? ⟨w.heap.size, 7, none⟩ = some (.int .i64 r.a7) := (blk_cell HK.out 7).trans rfl
   have d0 : wc8.cell? ⟨g, 0, none⟩ = some (.int .i64 y) := (blk_cell HA.out 0).trans rfl
   have d1 : wc8.cell? ⟨g, 1, none⟩ = some (.int .i64 m) := (blk_cell HA.out 1).trans rfl
   have d2 : wc8.cell? ⟨g, 2, none⟩ = some (.int .i64 dd) := (blk_cell HA.out 2).trans rfl
   go_wp2_with fail
   refine (trystref01_Fixed.calls k 0 v 1 1 g2 _ HL.out).mono ?_
   rintro q wq9 ⟨rfl, ⟨nd, rfl⟩⟩
   replace HB := Aside0.mk (pw_below_drewN HB.out nd)
   replace HK := Aside0.mk (blk_drewN HK.out nd); replace HA := Aside0.mk (blk_drewN HA.out nd)
   clear k0 k7 d0 d1 d2
   generalize wc8.drewN nd = wc9 at HK HA HB ⊢
   have k0 : wc9.cell? ⟨w.heap.size, 0, none⟩ = some (.int .i64 r.a0) := (blk_cell HK.out 0).trans rfl
   have k7 : wc9.cell? ⟨w.heap.size, 7, none⟩ = some (.int .i64 r.a7) := (blk_cell HK.out 7).trans rfl
   have d0 : wc9.cell? ⟨g, 0, none⟩ = some (.int .i64 y) := (blk_cell HA.out 0).trans rfl
   have d1 : wc9.cell? ⟨g, 1, none⟩ = some (.int .i64 m) := (blk_cell HA.out 1).trans rfl
   have d2 : wc9.cell? ⟨g, 2, none⟩ = some (.int .i64 dd) := (blk_cell HA.out 2).trans rfl
   go_wp2_with fail
   go_ret2
   exact ⟨rfl, HB.out⟩
  | ynone u h e1 h1 =>
   have x1 : (r.a0 == 1) = false := beq_eq_false_iff_ne.2 (by omega)
   have x2 : (r.a0 == 2) = false := beq_eq_false_iff_ne.2 (by omega)
   have x3 : (r.a0 == 3) = false := beq_eq_false_iff_ne.2 (by omega)
   clear h
   by_cases c : u ≥ 1
   ·have y1 : decide (u ≥ 1) = true := decide_eq_true c; have y2 : decide (u ≤ 9999) = false := decide_eq_false (by omega); clear c h1
    go_wp2_with fail
    go_ret2
    exact ⟨rfl, HB.out⟩
   ·have y1 : decide (u ≥ 1) = false := decide_eq_false c; clear c h1
    go_wp2_with fail
    go_ret2
    exact ⟨rfl, HB.out⟩
 ·have g1 : decide (f > l) = false := decide_eq_false c
  rw [if_neg c] at hF hL; subst hF hL; clear c
  cases h with
  | day r1 h e1 =>
   have x1 : (r.a0 == 1) = true := beq_iff_eq.2 (by omega)
   have x2 : (r.a0 == 2) = false := beq_eq_false_iff_ne.2 (by omega)
   have x3 : (r.a0 == 3) = false := beq_eq_false_iff_ne.2 (by omega)
   clear h
   go_wp2_with fail
   go_ret2
   exact ⟨rfl, HB.out⟩
  | week wk u r1 r2 h hw e1 e2 e3 =>
   have x1 : (r.a0 == 1) = false := beq_eq_false_iff_ne.2 (by omega)
   have x2 : (r.a0 == 2) = true := beq_iff_eq.2 (by omega)
   have x3 : (r.a0 == 3) = false := beq_eq_false_iff_ne.2 (by omega)
   clear h
   have HW := Aside0.mk hw; clear hw
   go_wp2_with fail
   refine (trystref14_Begin.calls k b r.a7 wk _ HW.out).mono ?_
   rintro q wq10 ⟨rfl, ⟨nd, rfl⟩⟩
   replace HB := Aside0.mk (pw_below_drewN HB.out nd)
   replace HK := Aside0.mk (blk_drewN HK.out nd); replace HA := Aside0.mk (blk_drewN HA.out nd)
   clear k0 k7 d0 d1 d2
   generalize wb.drewN nd = wc10 at HK HA HB ⊢
   have k0 : wc10.cell? ⟨w.heap.size, 0, none⟩ = some (.int .i64 r.a0) := (blk_cell HK.out 0).trans rfl
   have k7 : wc10.cell? ⟨w.heap.size, 7, none⟩ = some (.int .i64 r.a7) := (blk_cell HK.out 7).trans rfl
   have d0 : wc10.cell? ⟨g, 0, none⟩ = some (.int .i64 y) := (blk_cell HA.out 0).trans rfl
   have d1 : wc10.cell? ⟨g, 1, none⟩ = some (.int .i64 m) := (blk_cell HA.out 1).trans rfl
   have d2 : wc10.cell? ⟨g, 2, none⟩ = some (.int .i64 dd) := (blk_cell HA.out 2).trans rfl
   go_wp2_with fail
   go_ret2
   exact ⟨rfl, HB.out⟩
  | month u1 u2 u3 q_ yy t kk ln v r1 r2 h e1 e2 e3 e4 hf ht e5 h1 h2 hx hl e6 e7 =>
   have HX := Aside0.mk hx; have HL := Aside0.mk hl; clear hx hl
   have x1 : (r.a0 == 1) = false := beq_eq_false_iff_ne.2 (by omega)
   have x2 : (r.a0 == 2) = false := beq_eq_false_iff_ne.2 (by omega)
   have x3 : (r.a0 == 3) = true := beq_iff_eq.2 (by omega)
   clear h
   have HF := Aside0.mk hf; have HT := Aside0.mk ht; clear hf ht
   go_wp2_with fail
   refine (trystref01_Floor.calls q_ 12 yy _ HF.out).mono ?_
   rintro q wq11 ⟨rfl, ⟨nd, rfl⟩⟩
   replace HB := Aside0.mk (pw_below_drewN HB.out nd)
   replace HK := Aside0.mk (blk_drewN HK.out nd); replace HA := Aside0.mk (blk_drewN HA.out nd)
   clear k0 k7 d0 d1 d2
   generalize wb.drewN nd = wc11 at HK HA HB ⊢
   have k0 : wc11.cell? ⟨w.heap.size, 0, none⟩ = some (.int .i64 r.a0) := (blk_cell HK.out 0).trans rfl
   have k7 : wc11.cell? ⟨w.heap.size, 7, none⟩ = some (.int .i64 r.a7) := (blk_cell HK.out 7).trans rfl
   have d0 : wc11.cell? ⟨g, 0, none⟩ = some (.int .i64 y) := (blk_cell HA.out 0).trans rfl
   have d1 : wc11.cell? ⟨g, 1, none⟩ = some (.int .i64 m) := (blk_cell HA.out 1).trans rfl
   have d2 : wc11.cell? ⟨g, 2, none⟩ = some (.int .i64 dd) := (blk_cell HA.out 2).trans rfl
   go_wp2_with fail
   refine (trystref01_Mod.calls q_ 12 t _ HT.out).mono ?_
   rintro q wq12 ⟨rfl, ⟨nd, rfl⟩⟩
   replace HB := Aside0.mk (pw_below_drewN HB.out nd)
   replace HK := Aside0.mk (blk_drewN HK.out nd); replace HA := Aside0.mk (blk_drewN HA.out nd)
   clear k0 k7 d0 d1 d2
   generalize wc11.drewN nd = wc12 at HK HA HB ⊢
   have k0 : wc12.cell? ⟨w.heap.size, 0, none⟩ = some (.int .i64 r.a0) := (blk_cell HK.out 0).trans rfl
   have k7 : wc12.cell? ⟨w.heap.size, 7, none⟩ = some (.int .i64 r.a7) := (blk_cell HK.out 7).trans rfl
   have d0 : wc12.cell? ⟨g, 0, none⟩ = some (.int .i64 y) := (blk_cell HA.out 0).trans rfl
   have d1 : wc12.cell? ⟨g, 1, none⟩ = some (.int .i64 m) := (blk_cell HA.out 1).trans rfl
   have d2 : wc12.cell? ⟨g, 2, none⟩ = some (.int .i64 dd) := (blk_cell HA.out 2).trans rfl
   have y1 : decide (yy ≥ 1) = true := decide_eq_true h1; have y2 : decide (yy ≤ 9999) = true := decide_eq_true h2; clear h1 h2
   go_wp2_with fail
   refine (trystref01_Fixed.calls k 0 yy kk 1 r1 _ HX.out).mono ?_
   rintro q wq13 ⟨rfl, ⟨nd, rfl⟩⟩
   replace HB := Aside0.mk (pw_below_drewN HB.out nd)
   replace HK := Aside0.mk (blk_drewN HK.out nd); replace HA := Aside0.mk (blk_drewN HA.out nd)
   clear k0 k7 d0 d1 d2
   generalize wc12.drewN nd = wc13 at HK HA HB ⊢
   have k0 : wc13.cell? ⟨w.heap.size, 0, none⟩ = some (.int .i64 r.a0) := (blk_cell HK.out 0).trans rfl
   have k7 : wc13.cell? ⟨w.heap.size, 7, none⟩ = some (.int .i64 r.a7) := (blk_cell HK.out 7).trans rfl
   have d0 : wc13.cell? ⟨g, 0, none⟩ = some (.int .i64 y) := (blk_cell HA.out 0).trans rfl
   have d1 : wc13.cell? ⟨g, 1, none⟩ = some (.int .i64 m) := (blk_cell HA.out 1).trans rfl
   have d2 : wc13.cell? ⟨g, 2, none⟩ = some (.int .i64 dd) := (blk_cell HA.out 2).trans rfl
   go_wp2_with fail
   refine (trystref01_Length.calls k 0 yy kk ln _ HL.out).mono ?_
   rintro q wq14 ⟨rfl, ⟨nd, rfl⟩⟩
   replace HB := Aside0.mk (pw_below_drewN HB.out nd)
   replace HK := Aside0.mk (blk_drewN HK.out nd); replace HA := Aside0.mk (blk_drewN HA.out nd)
   clear k0 k7 d0 d1 d2
   generalize wc13.drewN nd = wc14 at HK HA HB ⊢
   have k0 : wc14.cell? ⟨w.heap.size, 0, none⟩ = some (.int .i64 r.a0) := (blk_cell HK.out 0).trans rfl
   have k7 : wc14.cell? ⟨w.heap.size, 7, none⟩ = some (.int .i64 r.a7) := (blk_cell HK.out 7).trans rfl
   have d0 : wc14.cell? ⟨g, 0, none⟩ = some (.int .i64 y) := (blk_cell HA.out 0).trans rfl
   have d1 : wc14.cell? ⟨g, 1, none⟩ = some (.int .i64 m) := (blk_cell HA.out 1).trans rfl
   have d2 : wc14.cell? ⟨g, 2, none⟩ = some (.int .i64 dd) := (blk_cell HA.out 2).trans rfl
   go_wp2_with fail
   go_ret2
   exact ⟨rfl, HB.out⟩
  | mnone u1 u2 u3 q_ yy t kk h e1 e2 e3 e4 hf ht e5 h1 =>
   have x1 : (r.a0 == 1) = false := beq_eq_false_iff_ne.2 (by omega)
   have x2 : (r.a0 == 2) = false := beq_eq_false_iff_ne.2 (by omega)
   have x3 : (r.a0 == 3) = true := beq_iff_eq.2 (by omega)
   clear h
   have HF := Aside0.mk hf; have HT := Aside0.mk ht; clear hf ht
   go_wp2_with fail
   refine (trystref01_Floor.calls q_ 12 yy _ HF.out).mono ?_
   rintro q wq15 ⟨rfl, ⟨nd, rfl⟩⟩
   replace HB := Aside0.mk (pw_below_drewN HB.out nd)
   replace HK := Aside0.mk (blk_drewN HK.out nd); replace HA := Aside0.mk (blk_drewN HA.out nd)
   clear k0 k7 d0 d1 d2
   generalize wb.drewN nd = wc15 at HK HA HB ⊢
   have k0 : wc15.cell? ⟨w.heap.size, 0, none⟩ = some (.int .i64 r.a0) := (blk_cell HK.out 0).trans rfl
   have k7 : wc15.cell? ⟨w.heap.size, 7, none⟩ = some (.int .i64 r.a7) := (blk_cell HK.out 7).trans rfl
   have d0 : wc15.cell? ⟨g, 0, none⟩ = some (.int .i64 y) := (blk_cell HA.out 0).trans rfl
   have d1 : wc15.cell? ⟨g, 1, none⟩ = some (.int .i64 m) := (blk_cell HA.out 1).trans rfl
   have d2 : wc15.cell? ⟨g, 2, none⟩ = some (.int .i64 dd) := (blk_cell HA.out 2).trans rfl
   go_wp2_with fail
   refine (trystref01_Mod.calls q_ 12 t _ HT.out).mono ?_
   rintro q wq16 ⟨rfl, ⟨nd, rfl⟩⟩
   replace HB := Aside0.mk (pw_below_drewN HB.out nd)
   replace HK := Aside0.mk (blk_drewN HK.out nd); replace HA := Aside0.mk (blk_drewN HA.out nd)
   clear k0 k7 d0 d1 d2
   generalize wc15.drewN nd = wc16 at HK HA HB ⊢
   have k0 : wc16.cell? ⟨w.heap.size, 0, none⟩ = some (.int .i64 r.a0) := (blk_cell HK.out 0).trans rfl
   have k7 : wc16.cell? ⟨w.heap.size, 7, none⟩ = some (.int .i64 r.a7) := (blk_cell HK.out 7).trans rfl
   have d0 : wc16.cell? ⟨g, 0, none⟩ = some (.int .i64 y) := (blk_cell HA.out 0).trans rfl
   have d1 : wc16.cell? ⟨g, 1, none⟩ = some (.int .i64 m) := (blk_cell HA.out 1).trans rfl
   have d2 : wc16.cell? ⟨g, 2, none⟩ = some (.int .i64 dd) := (blk_cell HA.out 2).trans rfl
   by_cases c : yy ≥ 1
   ·have y1 : decide (yy ≥ 1) = true := decide_eq_true c; have y2 : decide (yy ≤ 9999) = false := decide_eq_false (by omega); clear c h1
    go_wp2_with fail
    go_ret2
    exact ⟨rfl, HB.out⟩
   ·have y1 : decide (yy ≥ 1) = false := decide_eq_false c; clear c h1
    go_wp2_with fail
    go_ret2
    exact ⟨rfl, HB.out⟩
  | year u v g2 r1 r2 h e1 h1 h2 hx e2 hl e3 =>
   have x1 : (r.a0 == 1) = false := beq_eq_false_iff_ne.2 (by omega)
   have x2 : (r.a0 == 2) = false := beq_eq_false_iff_ne.2 (by omega)
   have x3 : (r.a0 == 3) = false := beq_eq_false_iff_ne.2 (by omega)
   clear h
   have HX := Aside0.mk hx; have HL := Aside0.mk hl; have y1 : decide (u ≥ 1) = true := decide_eq_true h1; have y2 : decide (u ≤ 9999) = true := decide_eq_true h2; clear hx hl h1 h2
   go_wp2_with fail
   refine (trystref01_Fixed.calls k 0 u 1 1 r1 _ HX.out).mono ?_
   rintro q wq17 ⟨rfl, ⟨nd, rfl⟩⟩
   replace HB := Aside0.mk (pw_below_drewN HB.out nd)
   replace HK := Aside0.mk (blk_drewN HK.out nd); replace HA := Aside0.mk (blk_drewN HA.out nd)
   clear k0 k7 d0 d1 d2
   generalize wb.drewN nd = wc17 at HK HA HB ⊢
   have k0 : wc17.cell? ⟨w.heap.size, 0, none⟩ = some (.int .i64 r.a0) := (blk_cell HK.out 0).trans rfl
   have k7 : wc17.cell? ⟨w.heap.size, 7, none⟩ = some (.int .i64 r.a7) := (blk_cell HK.out 7).trans rfl
   have d0 : wc17.cell? ⟨g, 0, none⟩ = some (.int .i64 y) := (blk_cell HA.out 0).trans rfl
   have d1 : wc17.cell? ⟨g, 1, none⟩ = some (.int .i64 m) := (blk_cell HA.out 1).trans rfl
   have d2 : wc17.cell? ⟨g, 2, none⟩ = some (.int .i64 dd) := (blk_cell HA.out 2).trans rfl
   go_wp2_with fail
   refine (trystref01_Fixed.calls k 0 v 1 1 g2 _ HL.out).mono ?_
   rintro q wq18 ⟨rfl, ⟨nd, rfl⟩⟩
   replace HB := Aside0.mk (pw_below_drewN HB.out nd)
   replace HK := Aside0.mk (blk_drewN HK.out nd); replace HA := Aside0.mk (blk_drewN HA.out nd)
   clear k0 k7 d0 d1 d2
   generalize wc17.drewN nd = wc18 at HK HA HB ⊢
   have k0 : wc18.cell? ⟨w.heap.size, 0, none⟩ = some (.int .i64 r.a0) := (blk_cell HK.out 0).trans rfl
   have k7 : wc18.cell? ⟨w.heap.size, 7, none⟩ = some (.int .i64 r.a7) := (blk_cell HK.out 7).trans rfl
   have d0 : wc18.cell? ⟨g, 0, none⟩ = some (.int .i64 y) := (blk_cell HA.out 0).trans rfl
   have d1 : wc18.cell? ⟨g, 1, none⟩ = some (.int .i64 m) := (blk_cell HA.out 1).trans rfl
   have d2 : wc18.cell? ⟨g, 2, none⟩ = some (.int .i64 dd) := (blk_cell HA.out 2).trans rfl
   go_wp2_with fail
   go_ret2
   exact ⟨rfl, HB.out⟩
  | ynone u h e1 h1 =>
   have x1 : (r.a0 == 1) = false := beq_eq_false_iff_ne.2 (by omega)
   have x2 : (r.a0 == 2) = false := beq_eq_false_iff_ne.2 (by omega)
   have x3 : (r.a0 == 3) = false := beq_eq_false_iff_ne.2 (by omega)
   clear h
   by_cases c : u ≥ 1
   ·have y1 : decide (u ≥ 1) = true := decide_eq_true c; have y2 : decide (u ≤ 9999) = false := decide_eq_false (by omega); clear c h1
    go_wp2_with fail
    go_ret2
    exact ⟨rfl, HB.out⟩
   ·have y1 : decide (u ≥ 1) = false := decide_eq_false c; clear c h1
    go_wp2_with fail
    go_ret2
    exact ⟨rfl, HB.out⟩
end Go.Proofs.YtfdcldjoncednaaGreat.RefS
/- trystref14.inWeek: is a day's week one of the rule's? -/
namespace Go.Proofs.YtfdcldjoncednaaGreat.RefK
open Go.RowKit Go.Proofs.YtfdcldjoncednaaGreatW.PrintWords Go.Proofs.YtfdcldjoncednaaGreatW.PrintLast Go.Proofs.YtfdcldjoncednaaGreatW.PrintMore Go.Proofs.YtfdcldjoncednaaGreat.M Go.Proofs.YtfdcldjoncednaaGreat.Ru
set_option linter.unusedVariables false
set_option linter.unusedSimpArgs false
theorem fld0 (x y z : Int) (w : World) : (Instr.field 61 (.agg #[.int .i64 x, .int .i64 y, .int .i64 z]) 0).run Tryz.prog w = .ok (.int .i64 x) w := by kernel_rfl
attribute [local go_sem] fld0
set_option maxHeartbeats 4000000 in
set_option maxRecDepth 100000 in
theorem inWeek (k : Nat) (r : Ru) (p : Rp) (day y m d y1 f1 f2 q1 q2 : Int) (b : Bool) (w : World) (ok : Ok r p w) (hd : trystref14_date.f k day = some (y, m, d)) (hy : wrap64 (y + 1) = y1)
  (h1 : trystref01_Week1.f k y r.a7 = some f1) (h2 : trystref01_Week1.f k y1 r.a7 = some f2) (hq1 : wrap64 (wrap64 (Int.tdiv (wrap64 (day - f1)) 7) + 1) = q1) (hq2 : wrap64 (Int.tdiv (wrap64 (f2 - f1)) 7) = q2) (hb : trystref14_counted.f k r.l14 q1 q2 = some b) :
  Calls Tryz.prog 79 #[.agg (agg r p), .int .i64 day] w fun e w' => e = .returned (.bool (decide (f1 ≤ day) && decide (day < f2) && b)) ∧ Below w.heap.size w w' := by
 have HO := Aside0.mk ok; clear ok
 have D := Aside0.mk hd; clear hd
 have W1 := Aside0.mk h1; clear h1
 have W2 := Aside0.mk h2; clear h2
 have CB := Aside0.mk hb; clear hb
 have Q1 := Aside0.mk hq1; clear hq1
 have Q2 := Aside0.mk hq2; clear hq2
 have HK := Aside0.mk (blk_new w (obj r p))
 have HB := Aside0.mk (below_alloc (Below.refl w.heap.size w) (obj r p))
 have hyw : IntKind.i64.wrap (y + 1) = y1 := (i64_w _).trans hy
 go_enter Tryz.func79, Tryz.ntmps79
 go_wp2_with fail
 generalize w.alloc (obj r p) = w0 at HK HB ⊢
 generalize hB : w.heap.size = B at HK ⊢
 refine (trystref14_date.calls k day y m d _ D.out).mono ?_
 rintro e w1 ⟨rfl, hb⟩
 replace HK := Aside0.mk (blk_below HK.out hb)
 replace HB := Aside0.mk (below_then HB.out HB.out.size hb)
 clear hb
 obtain ⟨b0, b1, b2, b3, b4, b5, b6, b7, b8, b9, b10, b11, b12, b13, b14, b15, b16⟩ := cells HK.out
 go_wp2_with fail
 go_quiet (first | (go_at_call 61; ((with_reducible refine (trystref01_Week1.calls k y r.a7 f1 _ W1.out).mono ?_); rintro e w' ⟨rfl, ⟨nd, rfl⟩⟩; (first | exact ⟨rfl, _, World.drewN_drewN _ _ _⟩ | exact ⟨rfl, _, Eq.trans (World.drewN_drewN _ _ _) (congrArg (World.drewN _) (Nat.add_assoc _ _ _))⟩))) | (go_at_call 61; ((with_reducible refine (trystref01_Week1.calls k y1 r.a7 f2 _ W2.out).mono ?_); rintro e w' ⟨rfl, ⟨nd, rfl⟩⟩; (first | exact ⟨rfl, _, World.drewN_drewN _ _ _⟩ | exact ⟨rfl, _, Eq.trans (World.drewN_drewN _ _ _) (congrArg (World.drewN _) (Nat.add_assoc _ _ _))⟩))))
 rename_i nq
 replace HK := Aside0.mk (blk_drewN HK.out nq)
 replace HB := Aside0.mk (pw_below_drewN HB.out nq)
 clear b0 b1 b2 b3 b4 b5 b6 b7 b8 b9 b10 b11 b12 b13 b14 b15 b16 hyw hy
 generalize w1.drewN nq = w2 at HK HB ⊢
 obtain ⟨b0, b1, b2, b3, b4, b5, b6, b7, b8, b9, b10, b11, b12, b13, b14, b15, b16⟩ := cells HK.out
 by_cases g1 : f1 ≤ day
 ·have e1 : decide (day ≥ f1) = true := decide_eq_true g1
  have G1 := Aside0.mk (show decide (f1 ≤ day) = true from decide_eq_true g1)
  clear g1
  by_cases g2 : day < f2
  ·have e2 : decide (day < f2) = true := decide_eq_true g2
   have G2 := Aside0.mk e2
   clear g2
   have q1 := Q1.out
   have q2 := Q2.out
   go_wp2_with fail
   refine (trystref14_counted.calls k p.A14 p.c14 r.l14 _ _ b _ (Kd.C_below HO.out.h14 HB.out) HO.out.d14 CB.out).mono ?_
   rintro e w3 ⟨rfl, ⟨nd, rfl⟩⟩
   go_wp2_with fail
   go_ret
   exact ⟨by rw [G1.out, G2.out] <;> rfl, hB ▸ pw_below_drewN HB.out nd⟩
  ·have e2 : decide (day < f2) = false := decide_eq_false g2
   have G2 := Aside0.mk e2
   clear g2
   go_wp2_with fail
   go_ret
   exact ⟨by rw [G1.out, G2.out] <;> rfl, hB ▸ HB.out⟩
 ·have e1 : decide (day ≥ f1) = false := decide_eq_false g1
  have G1 := Aside0.mk (show decide (f1 ≤ day) = false from decide_eq_false g1)
  clear g1
  go_wp2_with fail
  go_ret
  exact ⟨by rw [G1.out] <;> rfl, hB ▸ HB.out⟩
end Go.Proofs.YtfdcldjoncednaaGreat.RefK
