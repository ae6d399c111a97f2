/- Texts of this claim, merged: MatF, RecL, RecA, RecM. -/
import Derived.Test.YtfdcldjoncednaaGreatMgExpandUntil10
import Derived.Test.YtfdcldjoncednaaGreatMgExpandUntil11
import Derived.Test.YtfdcldjoncednaaGreatMgExpandUntil7
import Derived.Test.YtfdcldjoncednaaGreatMgExpandUntil3
import Derived.Test.YtfdcldjoncednaaGreatMgExpandUntil2
import Derived.Lib.Hide
import Derived.Laws.Append
import Derived.Deep.LoopGhost
/- match.fits: does a day fit? (Written by gen_matf.py.) -/
namespace Go.Proofs.YtfdcldjoncednaaGreat.MatF
open Go.RowKit Go.Proofs.YtfdcldjoncednaaGreatW.PrintWords Go.Proofs.YtfdcldjoncednaaGreatW.PrintLast Go.Proofs.YtfdcldjoncednaaGreatW.PrintMore Go.Proofs.YtfdcldjoncednaaGreat.M Go.Proofs.YtfdcldjoncednaaGreat.Ru Go.Proofs.YtfdcldjoncednaaGreat.MatD Go.Proofs.YtfdcldjoncednaaGreat.MatP
set_option linter.unusedVariables false
set_option linter.unusedSimpArgs false
/-- A list that says nothing, or says so. -/
def say (n : Nat) (b : Bool) : Bool := decide (n = 0) || b
theorem say0 {n : Nat} (b : Bool) (h : ¬ 0 < n) : say n b = true := by unfold say; rw [decide_eq_true (by omega)]; rfl
theorem say1 {n : Nat} (b : Bool) (h : 0 < n) : say n b = b := by unfold say; rw [decide_eq_false (by omega)]; rfl
/-- Is a period none of the rule's? -/
def off (pv i : Int) : Bool := decide (pv < 0) || (Int.tmod pv i != 0)
def fitsF (r : Ru) (pv : Int) (hm bw b13 b12 bd u : Bool) : Bool := !(off pv r.a1) && (say r.l15.length hm && (say r.l14.length bw && (say r.l13.length b13 && (say r.l12.length b12 && (say r.l11.length bd && u)))))
set_option maxHeartbeats 16000000 in
set_option maxRecDepth 100000 in
theorem fits (k : Nat) (r : Ru) (p : Rp) (b x : Fa) (w1 w2 y n e1 t e2 : Int) (hm b14 b13 b12 : Bool) (w : World) (ok : Ok r p w) (hi : 1 ≤ r.a1)
  (h1 : match_weekBegin.f x.day r.a7 = some w1) (h2 : match_weekBegin.f b.day r.a7 = some w2) (h3 : slices_Contains_int_int.f k r.l15 x.m = some hm) (h4 : iso_Week.f k x.day r.a7 = some (y, n, e1)) (h5 : y = x.y → iso_Weeks.f k y r.a7 = some (t, e2)) (h6 : match_place_in.f k n t r.l14 = some b14)
  (h7 : match_place_in.f k x.yn x.yo r.l13 = some b13) (h8 : match_place_in.f k x.mn x.mo r.l12 = some b12) (q1 : 1 ≤ x.mn) (q2 : x.mn ≤ x.mo) (q3 : x.mo ≤ 400) (q4 : 1 ≤ x.yn) (q5 : x.yn ≤ x.yo) (q6 : x.yo ≤ 400) (h13 : r.l13.length ≤ 40) (h12 : r.l12.length ≤ 40) (h11 : r.l11.length ≤ 40) :
  Calls Tryz.prog 46 #[.agg (agg r p), .agg (fa b), .agg (fa x)] w fun e w' => e = .returned (.bool (fitsF r (perF r b x w1 w2) hm (inWeekF x y b14) b13 b12 (onDayF r x) (usualF r b x))) ∧ Below w.heap.size w w' := by
 have OK := Aside0.mk ok; clear ok
 have H1 := Aside0.mk h1; clear h1
 have H2 := Aside0.mk h2; clear h2
 have H3 := Aside0.mk h3; clear h3
 have H4 := Aside0.mk h4; clear h4
 have H5 := Aside0.mk h5; clear h5
 have H6 := Aside0.mk h6; clear h6
 have H7 := Aside0.mk h7; clear h7
 have H8 := Aside0.mk h8; clear h8
 have HI := Aside0.mk hi; clear hi
 have QM := Aside0.mk (And.intro q1 (And.intro q2 q3)); have QY := Aside0.mk (And.intro q4 (And.intro q5 q6)); have QL := Aside0.mk (And.intro h13 (And.intro h12 h11)); clear q1 q2 q3 q4 q5 q6 h13 h12 h11
 obtain ⟨w0, hw0, HK, HG, HF, HB⟩ := three r p b x w
 have W0 := Aside0.mk hw0
 clear hw0
 go_enter Tryz.func46, Tryz.ntmps46
 go_upto_region 1 with fail
 rw [← W0.out]
 go_wp2_with (first | ((with_reducible refine gate_ (.load 27 (.tmp 3)) rfl ?_); (try (refine gate_guard (by rfl) ?_; dsimp only)); refine Kd.event_run rfl (xR (.tmp 3) (w.heap.size) r p rfl rfl _ HK.out) ?_) | ((with_reducible refine gate_ (.load 65 (.tmp 4)) rfl ?_); (try (refine gate_guard (by rfl) ?_; dsimp only)); refine Kd.event_run rfl (xF (.tmp 4) (w.heap.size + 1) b rfl rfl _ HG.out) ?_) | ((with_reducible refine gate_ (.load 65 (.tmp 5)) rfl ?_); (try (refine gate_guard (by rfl) ?_; dsimp only)); refine Kd.event_run rfl (xF (.tmp 5) (w.heap.size + 2) x rfl rfl _ HF.out) ?_))
 refine (period r p b x w1 w2 H1.out H2.out _).mono ?_
 rintro e wa ⟨rfl, hb⟩
 replace HK := Aside0.mk (blk_below HK.out hb)
 replace HG := Aside0.mk (blk_below HG.out hb)
 replace HF := Aside0.mk (blk_below HF.out hb)
 replace HB := Aside0.mk (below_then HB.out HB.out.size hb)
 clear hb
 generalize hpv : perF r b x w1 w2 = pv
 have PV := Aside0.mk hpv
 clear hpv
 go_upto_region 2 with fail
 go_cut [12] (fun v wc => v = .bool (off pv r.a1) ∧ Aside0 (wc.heap[w.heap.size]? = some (obj r p)) ∧ Aside0 (wc.heap[w.heap.size + 1]? = some (fobj b)) ∧ Aside0 (wc.heap[w.heap.size + 2]? = some (fobj x)) ∧ Aside0 (Below w.heap.size w wc))
 case first => as_aux_lemma =>
  have kb1 : wa.cell? ⟨w.heap.size, 1, none⟩ = some (.int .i64 r.a1) := (blk_cell HK.out 1).trans rfl
  have i0 : (r.a1 == 0) = false := beq_eq_false_iff_ne.2 (by have := HI.out; omega)
  have i1 : ¬ r.a1 = 0 := by have := HI.out; omega
  by_cases c : pv < 0
  ·have c1 : decide (pv < 0) = true := decide_eq_true c
   have C := Aside0.mk c1; clear c
   go_wp2_with fail
   go_meet
   case rel => exact ⟨by rw [show off pv r.a1 = true by unfold off; rw [C.out]; rfl] <;> rfl, HK, HG, HF, HB⟩
  ·have c1 : decide (pv < 0) = false := decide_eq_false c
   have C := Aside0.mk c1; clear c
   obtain ⟨z, hz⟩ : ∃ z, Int.tmod pv r.a1 = z := ⟨_, rfl⟩
   have Z := Aside0.mk hz
   go_wp2_with fail
   go_meet
   case rel => exact ⟨by rw [show off pv r.a1 = (z != 0) by unfold off; rw [C.out, Z.out]; rfl] <;> first | rfl | simp [Z.out], HK, HG, HF, HB⟩
 case rest =>
  obtain ⟨rfl, HK, HG, HF, HB⟩ := hcut
  cases ho : off pv r.a1 with
  | true =>
   have O := Aside0.mk ho; clear ho
   go_wp2_with fail
   go_ret
   exact ⟨by unfold fitsF; rw [PV.out, O.out] <;> rfl, HB.out⟩
  | false =>
   have O := Aside0.mk ho; clear ho
   go_upto_region 4 with fail
   go_cut [22] (fun v wc => v = .bool (!(say r.l15.length hm)) ∧ Aside0 (wc.heap[w.heap.size]? = some (obj r p)) ∧ Aside0 (wc.heap[w.heap.size + 1]? = some (fobj b)) ∧ Aside0 (wc.heap[w.heap.size + 2]? = some (fobj x)) ∧ Aside0 (Below w.heap.size w wc))
   case first => as_aux_lemma =>
    have kb15 : wc.cell? ⟨w.heap.size, 15, none⟩ = some (.slice p.A15 r.l15.length p.c15) := (blk_cell HK.out 15).trans rfl
    obtain ⟨f0, f1, f2, f3, f4, f5, f6, f7, f8⟩ := fcells HF.out
    obtain ⟨nn, hn⟩ : ∃ n : Nat, r.l15.length = n := ⟨_, rfl⟩
    rw [hn] at kb15
    have NN := Aside0.mk hn; clear hn
    by_cases z : 0 < nn
    ·have z1 : decide ((nn : Int) > 0) = true := decide_eq_true (by omega)
     have z2 : decide (0 < nn) = true := decide_eq_true z
     have Z := Aside0.mk (show 0 < r.l15.length by rw [NN.out]; exact z); clear z
     go_wp2_with fail
     rw [← NN.out]
     refine (slices_Contains_int_int.calls k p.A15 p.c15 r.l15 x.m hm _ (Kd.C_below OK.out.h15 HB.out) OK.out.d15 H3.out).mono ?_
     rintro e wb ⟨rfl, ⟨nd, rfl⟩⟩
     replace HK := Aside0.mk (blk_drewN HK.out nd)
     replace HG := Aside0.mk (blk_drewN HG.out nd)
     replace HF := Aside0.mk (blk_drewN HF.out nd)
     replace HB := Aside0.mk (pw_below_drewN HB.out nd)
     go_wp2_with fail
     go_meet
     case rel => exact ⟨by rw [say1 hm Z.out] <;> rfl, HK, HG, HF, HB⟩
    ·have z1 : decide ((nn : Int) > 0) = false := decide_eq_false (by omega)
     have z2 : decide (0 < nn) = false := decide_eq_false z
     have Z := Aside0.mk (show ¬ 0 < r.l15.length by rw [NN.out]; exact z); clear z
     go_wp2_with fail
     go_meet
     case rel => exact ⟨by rw [say0 hm Z.out] <;> rfl, HK, HG, HF, HB⟩
   case rest =>
    obtain ⟨rfl, HK, HG, HF, HB⟩ := hcut
    cases ho : say r.l15.length hm with
    | false =>
     have S := Aside0.mk ho; clear ho
     go_wp2_with fail
     go_ret
     exact ⟨by unfold fitsF; rw [PV.out, O.out, S.out] <;> rfl, HB.out⟩
    | true =>
     have S15 := Aside0.mk ho; clear ho
     go_upto_region 6 with fail
     go_cut [36] (fun v wc => v = .bool (!(say r.l14.length (inWeekF x y b14))) ∧ Aside0 (wc.heap[w.heap.size]? = some (obj r p)) ∧ Aside0 (wc.heap[w.heap.size + 1]? = some (fobj b)) ∧ Aside0 (wc.heap[w.heap.size + 2]? = some (fobj x)) ∧ Aside0 (Below w.heap.size w wc))
     case first => as_aux_lemma =>
      have kb14 : wc.cell? ⟨w.heap.size, 14, none⟩ = some (.slice p.A14 r.l14.length p.c14) := (blk_cell HK.out 14).trans rfl
      obtain ⟨nn, hn⟩ : ∃ n : Nat, r.l14.length = n := ⟨_, rfl⟩
      rw [hn] at kb14
      have NN := Aside0.mk hn; clear hn
      by_cases z : 0 < nn
      ·have z1 : decide ((nn : Int) > 0) = true := decide_eq_true (by omega)
       have z2 : decide (0 < nn) = true := decide_eq_true z
       have Z := Aside0.mk (show 0 < r.l14.length by rw [NN.out]; exact z); clear z
       go_wp2_with (first | ((with_reducible refine gate_ (.load 27 (.tmp 3)) rfl ?_); (try (refine gate_guard (by rfl) ?_; dsimp only)); refine Kd.event_run rfl (xR (.tmp 3) (w.heap.size) r p rfl rfl _ HK.out) ?_) | ((with_reducible refine gate_ (.load 65 (.tmp 4)) rfl ?_); (try (refine gate_guard (by rfl) ?_; dsimp only)); refine Kd.event_run rfl (xF (.tmp 4) (w.heap.size + 1) b rfl rfl _ HG.out) ?_) | ((with_reducible refine gate_ (.load 65 (.tmp 5)) rfl ?_); (try (refine gate_guard (by rfl) ?_; dsimp only)); refine Kd.event_run rfl (xF (.tmp 5) (w.heap.size + 2) x rfl rfl _ HF.out) ?_))
       refine (inWeek k r p x y n e1 t e2 b14 H4.out H5.out H6.out _ (OK.out.below HB.out)).mono ?_
       rintro e wb ⟨rfl, hb⟩
       replace HK := Aside0.mk (blk_below HK.out hb)
       replace HG := Aside0.mk (blk_below HG.out hb)
       replace HF := Aside0.mk (blk_below HF.out hb)
       replace HB := Aside0.mk (below_then HB.out HB.out.size hb)
       clear hb
       go_wp2_with fail
       go_meet
       case rel => exact ⟨by rw [say1 (inWeekF x y b14) Z.out] <;> rfl, HK, HG, HF, HB⟩
      ·have z1 : decide ((nn : Int) > 0) = false := decide_eq_false (by omega)
       have z2 : decide (0 < nn) = false := decide_eq_false z
       have Z := Aside0.mk (show ¬ 0 < r.l14.length by rw [NN.out]; exact z); clear z
       go_wp2_with fail
       go_meet
       case rel => exact ⟨by rw [say0 (inWeekF x y b14) Z.out] <;> rfl, HK, HG, HF, HB⟩
     case rest =>
      obtain ⟨rfl, HK, HG, HF, HB⟩ := hcut
      cases ho : say r.l14.length (inWeekF x y b14) with
      | false =>
       have S := Aside0.mk ho; clear ho
       go_wp2_with fail
       go_ret
       exact ⟨by unfold fitsF; rw [PV.out, O.out, S15.out, S.out] <;> rfl, HB.out⟩
      | true =>
       have S14 := Aside0.mk ho; clear ho
       go_upto_region 8 with fail
       go_cut [47] (fun v wc => v = .bool (!(say r.l13.length b13)) ∧ Aside0 (wc.heap[w.heap.size]? = some (obj r p)) ∧ Aside0 (wc.heap[w.heap.size + 1]? = some (fobj b)) ∧ Aside0 (wc.heap[w.heap.size + 2]? = some (fobj x)) ∧ Aside0 (Below w.heap.size w wc))
       case first => as_aux_lemma =>
        have kb13 : wc.cell? ⟨w.heap.size, 13, none⟩ = some (.slice p.A13 r.l13.length p.c13) := (blk_cell HK.out 13).trans rfl
        obtain ⟨f0, f1, f2, f3, f4, f5, f6, f7, f8⟩ := fcells HF.out
        obtain ⟨nn, hn⟩ : ∃ n : Nat, r.l13.length = n := ⟨_, rfl⟩
        rw [hn] at kb13
        have NN := Aside0.mk hn; clear hn
        by_cases z : 0 < nn
        ·have z1 : decide ((nn : Int) > 0) = true := decide_eq_true (by omega)
         have z2 : decide (0 < nn) = true := decide_eq_true z
         have Z := Aside0.mk (show 0 < r.l13.length by rw [NN.out]; exact z); clear z
         go_wp2_with fail
         rw [← NN.out]
         refine (match_place_in.calls k x.yn x.yo p.A13 p.c13 r.l13 b13 _ (Kd.C_below OK.out.h13 HB.out) OK.out.d13 H7.out).mono ?_
         rintro e wb ⟨rfl, hb⟩
         replace HK := Aside0.mk (blk_below HK.out hb)
         replace HG := Aside0.mk (blk_below HG.out hb)
         replace HF := Aside0.mk (blk_below HF.out hb)
         replace HB := Aside0.mk (below_then HB.out HB.out.size hb)
         clear hb
         go_wp2_with fail
         go_meet
         case rel => exact ⟨by rw [say1 b13 Z.out] <;> rfl, HK, HG, HF, HB⟩
        ·have z1 : decide ((nn : Int) > 0) = false := decide_eq_false (by omega)
         have z2 : decide (0 < nn) = false := decide_eq_false z
         have Z := Aside0.mk (show ¬ 0 < r.l13.length by rw [NN.out]; exact z); clear z
         go_wp2_with fail
         go_meet
         case rel => exact ⟨by rw [say0 b13 Z.out] <;> rfl, HK, HG, HF, HB⟩
       case rest =>
        obtain ⟨rfl, HK, HG, HF, HB⟩ := hcut
        cases ho : say r.l13.length b13 with
        | false =>
         have S := Aside0.mk ho; clear ho
         go_wp2_with fail
         go_ret
         exact ⟨by unfold fitsF; rw [PV.out, O.out, S15.out, S14.out, S.out] <;> rfl, HB.out⟩
        | true =>
         have S13 := Aside0.mk ho; clear ho
         go_upto_region 10 with fail
         go_cut [60] (fun v wc => v = .bool (!(say r.l12.length b12)) ∧ Aside0 (wc.heap[w.heap.size]? = some (obj r p)) ∧ Aside0 (wc.heap[w.heap.size + 1]? = some (fobj b)) ∧ Aside0 (wc.heap[w.heap.size + 2]? = some (fobj x)) ∧ Aside0 (Below w.heap.size w wc))
         case first => as_aux_lemma =>
          have kb12 : wc.cell? ⟨w.heap.size, 12, none⟩ = some (.slice p.A12 r.l12.length p.c12) := (blk_cell HK.out 12).trans rfl
          obtain ⟨f0, f1, f2, f3, f4, f5, f6, f7, f8⟩ := fcells HF.out
          obtain ⟨nn, hn⟩ : ∃ n : Nat, r.l12.length = n := ⟨_, rfl⟩
          rw [hn] at kb12
          have NN := Aside0.mk hn; clear hn
          by_cases z : 0 < nn
          ·have z1 : decide ((nn : Int) > 0) = true := decide_eq_true (by omega)
           have z2 : decide (0 < nn) = true := decide_eq_true z
           have Z := Aside0.mk (show 0 < r.l12.length by rw [NN.out]; exact z); clear z
           go_wp2_with fail
           rw [← NN.out]
           refine (match_place_in.calls k x.mn x.mo p.A12 p.c12 r.l12 b12 _ (Kd.C_below OK.out.h12 HB.out) OK.out.d12 H8.out).mono ?_
           rintro e wb ⟨rfl, hb⟩
           replace HK := Aside0.mk (blk_below HK.out hb)
           replace HG := Aside0.mk (blk_below HG.out hb)
           replace HF := Aside0.mk (blk_below HF.out hb)
           replace HB := Aside0.mk (below_then HB.out HB.out.size hb)
           clear hb
           go_wp2_with fail
           go_meet
           case rel => exact ⟨by rw [say1 b12 Z.out] <;> rfl, HK, HG, HF, HB⟩
          ·have z1 : decide ((nn : Int) > 0) = false := decide_eq_false (by omega)
           have z2 : decide (0 < nn) = false := decide_eq_false z
           have Z := Aside0.mk (show ¬ 0 < r.l12.length by rw [NN.out]; exact z); clear z
           go_wp2_with fail
           go_meet
           case rel => exact ⟨by rw [say0 b12 Z.out] <;> rfl, HK, HG, HF, HB⟩
         case rest =>
          obtain ⟨rfl, HK, HG, HF, HB⟩ := hcut
          cases ho : say r.l12.length b12 with
          | false =>
           have S := Aside0.mk ho; clear ho
           go_wp2_with fail
           go_ret
           exact ⟨by unfold fitsF; rw [PV.out, O.out, S15.out, S14.out, S13.out, S.out] <;> rfl, HB.out⟩
          | true =>
           have S12 := Aside0.mk ho; clear ho
           go_upto_region 12 with fail
           go_cut [73] (fun v wc => v = .bool (!(say r.l11.length (onDayF r x))) ∧ Aside0 (wc.heap[w.heap.size]? = some (obj r p)) ∧ Aside0 (wc.heap[w.heap.size + 1]? = some (fobj b)) ∧ Aside0 (wc.heap[w.heap.size + 2]? = some (fobj x)) ∧ Aside0 (Below w.heap.size w wc))
           case first => as_aux_lemma =>
            have kb11 : wc.cell? ⟨w.heap.size, 11, none⟩ = some (.slice p.A11 r.l11.length p.c11) := (blk_cell HK.out 11).trans rfl
            obtain ⟨nn, hn⟩ : ∃ n : Nat, r.l11.length = n := ⟨_, rfl⟩
            rw [hn] at kb11
            have NN := Aside0.mk hn; clear hn
            by_cases z : 0 < nn
            ·have z1 : decide ((nn : Int) > 0) = true := decide_eq_true (by omega)
             have z2 : decide (0 < nn) = true := decide_eq_true z
             have Z := Aside0.mk (show 0 < r.l11.length by rw [NN.out]; exact z); clear z
             go_wp2_with (first | ((with_reducible refine gate_ (.load 27 (.tmp 3)) rfl ?_); (try (refine gate_guard (by rfl) ?_; dsimp only)); refine Kd.event_run rfl (xR (.tmp 3) (w.heap.size) r p rfl rfl _ HK.out) ?_) | ((with_reducible refine gate_ (.load 65 (.tmp 4)) rfl ?_); (try (refine gate_guard (by rfl) ?_; dsimp only)); refine Kd.event_run rfl (xF (.tmp 4) (w.heap.size + 1) b rfl rfl _ HG.out) ?_) | ((with_reducible refine gate_ (.load 65 (.tmp 5)) rfl ?_); (try (refine gate_guard (by rfl) ?_; dsimp only)); refine Kd.event_run rfl (xF (.tmp 5) (w.heap.size + 2) x rfl rfl _ HF.out) ?_))
             refine (onDay r p x QM.out.1 QM.out.2.1 QM.out.2.2 QY.out.1 QY.out.2.1 QY.out.2.2 _ (OK.out.below HB.out)).mono ?_
             rintro e wb ⟨rfl, hb⟩
             replace HK := Aside0.mk (blk_below HK.out hb)
             replace HG := Aside0.mk (blk_below HG.out hb)
             replace HF := Aside0.mk (blk_below HF.out hb)
             replace HB := Aside0.mk (below_then HB.out HB.out.size hb)
             clear hb
             go_wp2_with fail
             go_meet
             case rel => exact ⟨by rw [say1 (onDayF r x) Z.out] <;> rfl, HK, HG, HF, HB⟩
            ·have z1 : decide ((nn : Int) > 0) = false := decide_eq_false (by omega)
             have z2 : decide (0 < nn) = false := decide_eq_false z
             have Z := Aside0.mk (show ¬ 0 < r.l11.length by rw [NN.out]; exact z); clear z
             go_wp2_with fail
             go_meet
             case rel => exact ⟨by rw [say0 (onDayF r x) Z.out] <;> rfl, HK, HG, HF, HB⟩
           case rest =>
            obtain ⟨rfl, HK, HG, HF, HB⟩ := hcut
            cases ho : say r.l11.length (onDayF r x) with
            | false =>
             have S := Aside0.mk ho; clear ho
             go_wp2_with fail
             go_ret
             exact ⟨by unfold fitsF; rw [PV.out, O.out, S15.out, S14.out, S13.out, S12.out, S.out] <;> rfl, HB.out⟩
            | true =>
             have S11 := Aside0.mk ho; clear ho
             go_wp2_with (first | ((with_reducible refine gate_ (.load 27 (.tmp 3)) rfl ?_); (try (refine gate_guard (by rfl) ?_; dsimp only)); refine Kd.event_run rfl (xR (.tmp 3) (w.heap.size) r p rfl rfl _ HK.out) ?_) | ((with_reducible refine gate_ (.load 65 (.tmp 4)) rfl ?_); (try (refine gate_guard (by rfl) ?_; dsimp only)); refine Kd.event_run rfl (xF (.tmp 4) (w.heap.size + 1) b rfl rfl _ HG.out) ?_) | ((with_reducible refine gate_ (.load 65 (.tmp 5)) rfl ?_); (try (refine gate_guard (by rfl) ?_; dsimp only)); refine Kd.event_run rfl (xF (.tmp 5) (w.heap.size + 2) x rfl rfl _ HF.out) ?_))
             refine (usual r p b x 0 QL.out.1 QL.out.2.1 QL.out.2.2 _).mono ?_
             rintro e wb ⟨rfl, hb⟩
             replace HB := Aside0.mk (below_then HB.out HB.out.size hb)
             clear hb
             go_wp2_with fail
             go_ret
             exact ⟨by unfold fitsF; rw [PV.out, O.out, S15.out, S14.out, S13.out, S12.out, S11.out] <;> rfl, HB.out⟩
end Go.Proofs.YtfdcldjoncednaaGreat.MatF
/- recur.lists: a rule's lists of numbers, in two rows. (Written by gen_reclists.py.) -/
namespace Go.Proofs.YtfdcldjoncednaaGreat.RecL
open Go.RowKit Go.Proofs.YtfdcldjoncednaaGreatW.PrintWords Go.Proofs.YtfdcldjoncednaaGreatW.PrintLast
set_option linter.unusedVariables false
set_option linter.unusedSimpArgs false
section
variable {P : Program} {ops : Array Oper} {o : Oper} {a : Act} {Q : Exit → Act → World → Prop} {Kc : Act → World → Prop}
/-- A row laid in a region that draws. -/
theorem lit_step {W : World} (hw : Region.wanted o (yielded ops a.tmps) = true) {N : Tmp} (_hd : o.dst = some N) {cs : Array Value} {t : TypeId} {n : Nat}
  (hrun : (execOp a.eval o).run P W = .ok (.value (.slice (some ⟨W.heap.size, 0, none⟩) n n)) (W.alloc (.cells cs t (0, 0))))
  (h : ∀ g, g = W.heap.size → ∀ w1, w1.heap[g]? = some (.cells cs t (0, 0)) → Below W.heap.size W w1 → Kc (a.put o.dst (.slice (some ⟨g, 0, none⟩) n n)) w1) : if Region.wanted o (yielded ops a.tmps) = true then Oper.wp P o a W Kc Q else Kc (a.put o.dst undef) W :=
 event_step hw hrun (h _ rfl _ (blk_new W _) (below_alloc (Below.refl _ _) _))
end
/-- The lists ahead of BYDAY. -/
def C1 (B : Nat) : Array Value := #[.string ⟨#[66, 89, 83, 69, 67, 79, 78, 68]⟩, .pointer (some ⟨B, 8, none⟩), .int .i64 0, .int .i64 59, .bool false, .string ⟨#[66, 89, 77, 73, 78, 85, 84, 69]⟩, .pointer (some ⟨B, 9, none⟩), .int .i64 0, .int .i64 59, .bool false, .string ⟨#[66, 89, 72, 79, 85, 82]⟩, .pointer (some ⟨B, 10, none⟩), .int .i64 0, .int .i64 23, .bool false]
/-- The lists behind it. -/
def C2 (B : Nat) : Array Value := #[.string ⟨#[66, 89, 77, 79, 78, 84, 72, 68, 65, 89]⟩, .pointer (some ⟨B, 12, none⟩), .int .i64 (-31), .int .i64 31, .bool true, .string ⟨#[66, 89, 89, 69, 65, 82, 68, 65, 89]⟩, .pointer (some ⟨B, 13, none⟩), .int .i64 (-366), .int .i64 366, .bool true, .string ⟨#[66, 89, 87, 69, 69, 75, 78, 79]⟩, .pointer (some ⟨B, 14, none⟩), .int .i64 (-53), .int .i64 53, .bool true, .string ⟨#[66, 89, 77, 79, 78, 84, 72]⟩, .pointer (some ⟨B, 15, none⟩), .int .i64 1, .int .i64 12, .bool false, .string ⟨#[66, 89, 83, 69, 84, 80, 79, 83]⟩, .pointer (some ⟨B, 16, none⟩), .int .i64 (-366), .int .i64 366, .bool true]
def T1 : Bool × List (List Nat × List Nat) := (true, [([], []), ([0], [0]), ([1], [1]), ([2], [2]), ([], []), ([4], [4]), ([5], [5]), ([6], [6]), ([], []), ([8], [8]), ([9], [9]), ([10], [10]), ([3, 7, 11], [3, 7, 11]), ([], []), ([13], [13]), ([14], [14]), ([15], [15]), ([], []), ([17], [17]), ([18], [18]), ([19], [19]), ([], []), ([21], [21]), ([22], [22]), ([23], [23]), ([], []), ([25], [25]), ([26], [26]), ([27], [27]), ([], []), ([29], [29]), ([30], [30]), ([31], [31]), ([16, 20, 24, 28, 32], [16, 20, 24, 28, 32]), ([12, 0, 1, 2, 3, 4, 5, 6, 7, 8, 9, 10, 11, 12], [12]), ([33, 34, 0, 1, 2, 3, 4, 5, 6, 7, 8, 9, 10, 11, 12, 13, 14, 15, 16, 17, 18, 19, 20, 21, 22, 23, 24, 25, 26, 27, 28, 29, 30, 31, 32, 33, 34], [33])])
def B1 : List Nat := [0, 1, 3, 7, 0, 16, 48, 112, 0, 256, 768, 1792, 4095, 0, 8192, 24576, 57344, 0, 131072, 393216, 917504, 0, 2097152, 6291456, 14680064, 0, 33554432, 100663296, 234881024, 0, 536870912, 1610612736, 3758096384, 8589926400, 8191, 34359738367]
theorem tab1 : rtab .any (opsOf Tryz.f114 1) = T1 := by kernel_rfl
theorem bits1 : waitsOk T1.2 B1 = true := by kernel_rfl

set_option maxHeartbeats 8000000 in
set_option maxRecDepth 100000 in
theorem lists (B : Nat) (w : World) : Calls Tryz.prog 114 #[.pointer (some ⟨B, 0, none⟩)] w fun e w' => ∃ g1 g2, e = .returned (.tuple #[.slice (some ⟨g1, 0, none⟩) 3 3, .slice (some ⟨g2, 0, none⟩) 5 5]) ∧
  w'.heap[g1]? = some (.cells (C1 B) 107 (0, 0)) ∧ w'.heap[g2]? = some (.cells (C2 B) 107 (0, 0)) ∧ g1 ≠ g2 ∧ w.heap.size ≤ g1 ∧ w.heap.size ≤ g2 ∧ Below w.heap.size w w' := by
 go_enter Tryz.func114, Tryz.ntmps114
 go_wp2_with fail
 refine start_ (n := 36) (S := fun _ => True) (ds := []) (fl 36 0) (by kernel_rfl) rfl rfl trivial (fun hHeld => ?_)
 refine with_tabW tab1 bits1 (fun HT_ HW_ => ?_)
 have B2 := Lib.hid (below_drew (Below.refl w.heap.size w))
 generalize w.drew = w2 at B2 hHeld ⊢
 refine pu 0 (some 4) (fl 36 1) HT_ ?_
 refine pu 1 (some 5) (fl 36 2) HT_ ?_
 refine pu 2 (some 6) (fl 36 3) HT_ ?_
 refine pu 3 (some 7) (fl 36 4) HT_ ?_
 refine pu 4 (some 8) (fl 36 5) HT_ ?_
 refine pu 5 (some 9) (fl 36 6) HT_ ?_
 refine pu 6 (some 10) (fl 36 7) HT_ ?_
 refine pu 7 (some 11) (fl 36 8) HT_ ?_
 refine pu 8 (some 12) (fl 36 9) HT_ ?_
 refine pu 9 (some 13) (fl 36 10) HT_ ?_
 refine pu 10 (some 14) (fl 36 11) HT_ ?_
 refine pu 11 (some 15) (fl 36 12) HT_ ?_
 refine pu 13 (some 17) #[true, true, true, true, true, true, true, true, true, true, true, true, false, true, false, false, false, false, false, false, false, false, false, false, false, false, false, false, false, false, false, false, false, false, false, false] HT_ ?_
 refine pu 14 (some 18) #[true, true, true, true, true, true, true, true, true, true, true, true, false, true, true, false, false, false, false, false, false, false, false, false, false, false, false, false, false, false, false, false, false, false, false, false] HT_ ?_
 refine pu 15 (some 19) #[true, true, true, true, true, true, true, true, true, true, true, true, false, true, true, true, false, false, false, false, false, false, false, false, false, false, false, false, false, false, false, false, false, false, false, false] HT_ ?_
 refine pu 16 (some 20) #[true, true, true, true, true, true, true, true, true, true, true, true, false, true, true, true, true, false, false, false, false, false, false, false, false, false, false, false, false, false, false, false, false, false, false, false] HT_ ?_
 refine pu 17 (some 21) #[true, true, true, true, true, true, true, true, true, true, true, true, false, true, true, true, true, true, false, false, false, false, false, false, false, false, false, false, false, false, false, false, false, false, false, false] HT_ ?_
 refine pu 18 (some 22) #[true, true, true, true, true, true, true, true, true, true, true, true, false, true, true, true, true, true, true, false, false, false, false, false, false, false, false, false, false, false, false, false, false, false, false, false] HT_ ?_
 refine pu 19 (some 23) #[true, true, true, true, true, true, true, true, true, true, true, true, false, true, true, true, true, true, true, true, false, false, false, false, false, false, false, false, false, false, false, false, false, false, false, false] HT_ ?_
 refine pu 20 (some 24) #[true, true, true, true, true, true, true, true, true, true, true, true, false, true, true, true, true, true, true, true, true, false, false, false, false, false, false, false, false, false, false, false, false, false, false, false] HT_ ?_
 refine pu 21 (some 25) #[true, true, true, true, true, true, true, true, true, true, true, true, false, true, true, true, true, true, true, true, true, true, false, false, false, false, false, false, false, false, false, false, false, false, false, false] HT_ ?_
 refine pu 22 (some 26) #[true, true, true, true, true, true, true, true, true, true, true, true, false, true, true, true, true, true, true, true, true, true, true, false, false, false, false, false, false, false, false, false, false, false, false, false] HT_ ?_
 refine pu 23 (some 27) #[true, true, true, true, true, true, true, true, true, true, true, true, false, true, true, true, true, true, true, true, true, true, true, true, false, false, false, false, false, false, false, false, false, false, false, false] HT_ ?_
 refine pu 24 (some 28) #[true, true, true, true, true, true, true, true, true, true, true, true, false, true, true, true, true, true, true, true, true, true, true, true, true, false, false, false, false, false, false, false, false, false, false, false] HT_ ?_
 refine pu 25 (some 29) #[true, true, true, true, true, true, true, true, true, true, true, true, false, true, true, true, true, true, true, true, true, true, true, true, true, true, false, false, false, false, false, false, false, false, false, false] HT_ ?_
 refine pu 26 (some 30) #[true, true, true, true, true, true, true, true, true, true, true, true, false, true, true, true, true, true, true, true, true, true, true, true, true, true, true, false, false, false, false, false, false, false, false, false] HT_ ?_
 refine pu 27 (some 31) #[true, true, true, true, true, true, true, true, true, true, true, true, false, true, true, true, true, true, true, true, true, true, true, true, true, true, true, true, false, false, false, false, false, false, false, false] HT_ ?_
 refine pu 28 (some 32) #[true, true, true, true, true, true, true, true, true, true, true, true, false, true, true, true, true, true, true, true, true, true, true, true, true, true, true, true, true, false, false, false, false, false, false, false] HT_ ?_
 refine pu 29 (some 33) #[true, true, true, true, true, true, true, true, true, true, true, true, false, true, true, true, true, true, true, true, true, true, true, true, true, true, true, true, true, true, false, false, false, false, false, false] HT_ ?_
 refine pu 30 (some 34) #[true, true, true, true, true, true, true, true, true, true, true, true, false, true, true, true, true, true, true, true, true, true, true, true, true, true, true, true, true, true, true, false, false, false, false, false] HT_ ?_
 refine pu 31 (some 35) #[true, true, true, true, true, true, true, true, true, true, true, true, false, true, true, true, true, true, true, true, true, true, true, true, true, true, true, true, true, true, true, true, false, false, false, false] HT_ ?_
 refine pu 32 (some 36) #[true, true, true, true, true, true, true, true, true, true, true, true, false, true, true, true, true, true, true, true, true, true, true, true, true, true, true, true, true, true, true, true, true, false, false, false] HT_ ?_
 refine join_ (σ := Nat × Nat) 1 (fl 36 35) (fun s => [(16, .slice (some ⟨s.1, 0, none⟩) 3 3), (37, .slice (some ⟨s.2, 0, none⟩) 5 5), (2, .slice (some ⟨s.1, 0, none⟩) 3 3)]) (fun s w' => w'.heap[s.1]? = some (.cells (C1 B) 107 (0, 0)) ∧ w'.heap[s.2]? = some (.cells (C2 B) 107 (0, 0)) ∧ s.1 ≠ s.2 ∧ w.heap.size ≤ s.1 ∧ w.heap.size ≤ s.2 ∧ Below w.heap.size w w') ?_ ?_
 ·rintro ⟨g1, g2⟩ w3 ⟨x1, x2, n1, m1, m2, hBw⟩
  dsimp only at x1 x2 n1 m1 m2
  refine norm_ (a' := ?_) ?_ ?_
  rotate_left
  ·simp only [putAll]
   simp only [Act.put, sA, sB, sC, i64_w, i32_w]
   rfl
  refine pu 35 (some 3) (fl 36 36) HT_ ?_
  refine done_ (done_of HT_.out (by kernel_rfl)) ?_
  clear HT_ HW_
  go_wp2_with fail
  go_ret2
  exact ⟨g1, g2, rfl, x1, x2, n1, m1, m2, hBw⟩
 ·intro hc
  have BB := B2
  clear B2
  simp only [putAll, Act.put, List.setIfInBounds_toArray, List.set_cons_zero, List.set_cons_succ, i64_w, i32_w] at hc
  refine two_ (i := 12) (j := 33) (Ni := some 16) (Nj := some 37) (fl 36 33) #[true, true, true, true, true, true, true, true, true, true, true, true, false, true, true, true, true, true, true, true, true, true, true, true, true, true, true, true, true, true, true, true, true, true, false, false] rfl rfl rfl rfl (two_of HT_.out (by kernel_rfl)) (by decide) (by decide) (fun K hK => ?_) (fun K hK => ?_)
  ·refine lit_step (by rfl) (N := 16) rfl (cs := C1 B) (t := 107) (n := 3) (by go_simp; rfl) ?_
   intro g1 e1 v1 y1 hb
   replace e1 := Nat.le_of_eq e1.symm
   have z1 := hb.size
   have q1 := blk_lt y1
   have s1 := BB.out.size
   replace BB := Lib.hid (below_then BB.out BB.out.size hb)
   refine hK.out _ _ trivial (fun hHeld => ?_)
   clear hK K hb
   refine norm_ (a' := ?_) ?_ ?_
   rotate_left
   ·show Act.put _ (some 16) _ = _
    simp only [Act.put, sA, sB, sC, i64_w, i32_w]
    rfl
   refine pu 34 (some 2) #[true, true, true, true, true, true, true, true, true, true, true, true, true, true, true, true, true, true, true, true, true, true, true, true, true, true, true, true, true, true, true, true, true, false, true, false] HT_ ?_
   refine one_ (i := 33) (N := some 37) (fl 36 35) rfl rfl (one_of HT_.out (by kernel_rfl)) (by decide) (fun K hK => ?_)
   refine lit_step (by rfl) (N := 37) rfl (cs := C2 B) (t := 107) (n := 5) (by go_simp; rfl) ?_
   intro g2 e2 v2 y2 hb
   replace e2 := Nat.le_of_eq e2.symm
   have z2 := hb.size
   have q2 := blk_lt y2
   have r1 := blk_lt y1
   replace y1 := blk_below y1 hb
   have s2 := BB.out.size
   replace BB := Lib.hid (below_then BB.out BB.out.size hb)
   refine hK.out _ _ trivial (fun hHeld => ?_)
   clear hK K hb
   refine norm_ (a' := ?_) ?_ ?_
   rotate_left
   ·show Act.put _ (some 37) _ = _
    simp only [Act.put, sA, sB, sC, i64_w, i32_w]
    rfl
   exact hc (g1, g2) _ ⟨y1, y2, by show g1 ≠ g2; omega, by show _ ≤ g1; omega, by show _ ≤ g2; omega, BB.out⟩
  ·refine lit_step (by rfl) (N := 37) rfl (cs := C2 B) (t := 107) (n := 5) (by go_simp; rfl) ?_
   intro g1 e1 v1 y1 hb
   replace e1 := Nat.le_of_eq e1.symm
   have z1 := hb.size
   have q1 := blk_lt y1
   have s1 := BB.out.size
   replace BB := Lib.hid (below_then BB.out BB.out.size hb)
   refine hK.out _ _ trivial (fun hHeld => ?_)
   clear hK K hb
   refine norm_ (a' := ?_) ?_ ?_
   rotate_left
   ·show Act.put _ (some 37) _ = _
    simp only [Act.put, sA, sB, sC, i64_w, i32_w]
    rfl
   refine one_ (i := 12) (N := some 16) (fl 36 34) rfl rfl (one_of HT_.out (by kernel_rfl)) (by decide) (fun K hK => ?_)
   refine lit_step (by rfl) (N := 16) rfl (cs := C1 B) (t := 107) (n := 3) (by go_simp; rfl) ?_
   intro g2 e2 v2 y2 hb
   replace e2 := Nat.le_of_eq e2.symm
   have z2 := hb.size
   have q2 := blk_lt y2
   have r1 := blk_lt y1
   replace y1 := blk_below y1 hb
   have s2 := BB.out.size
   replace BB := Lib.hid (below_then BB.out BB.out.size hb)
   refine hK.out _ _ trivial (fun hHeld => ?_)
   clear hK K hb
   refine norm_ (a' := ?_) ?_ ?_
   rotate_left
   ·show Act.put _ (some 16) _ = _
    simp only [Act.put, sA, sB, sC, i64_w, i32_w]
    rfl
   refine pu 34 (some 2) (fl 36 35) HT_ ?_
   exact hc (g2, g1) _ ⟨y2, y1, by show g2 ≠ g1; omega, by show _ ≤ g2; omega, by show _ ≤ g1; omega, BB.out⟩
end Go.Proofs.YtfdcldjoncednaaGreat.RecL
/- recur.all: a rule's lists of numbers, in one row. -/
namespace Go.Proofs.YtfdcldjoncednaaGreat.RecA
open Go.RowKit Go.Proofs.YtfdcldjoncednaaGreatW.PrintWords Go.Proofs.YtfdcldjoncednaaGreatW.PrintLast Go.Proofs.YtfdcldjoncednaaGreat.RecL
set_option linter.unusedVariables false
set_option linter.unusedSimpArgs false
def zl : Value := .agg #[.string ⟨#[]⟩, .pointer none, .int .i64 0, .int .i64 0, .bool false]
theorem info : (Tryz.prog.info? 107).map (fun i => (i.zero, i.size, i.bytes)) = some (some zl, 5, 48) := by kernel_rfl
theorem app (B g1 g2 : Nat) (w : World) (h1 : w.heap[g1]? = some (.cells (C1 B) 107 (0, 0))) (h2 : w.heap[g2]? = some (.cells (C2 B) 107 (0, 0))) :
  ∃ cap cs, (Builtin.append_ #[102, 102] 102 #[.slice (some ⟨g1, 0, none⟩) 3 3, .slice (some ⟨g2, 0, none⟩) 5 5]).run Tryz.prog w = .ok (.slice (some ⟨w.heap.size, 0, none⟩) 8 cap) (w.drew.alloc (.cells cs 107 (0, 0))) ∧
   ∀ w' : World, w'.heap[w.heap.size]? = some (.cells cs 107 (0, 0)) → ∀ j v, ((C1 B).toList ++ (C2 B).toList)[j]? = some v → w'.cell? ⟨w.heap.size, j, none⟩ = some v := by
 obtain ⟨i, hi, hzz⟩ := Option.map_eq_some_iff.1 info
 simp only [Prod.mk.injEq] at hzz
 obtain ⟨hz, hs, hb⟩ := hzz
 have hw := run_append_grow (P := Tryz.prog) w 102 102 107 i zl Tryz.underlying102 hi hz ⟨g1, 0, none⟩ 3 3 (C1 B).toList (by rw [hs]; rfl)
  (fun j v h => by rw [add_at, Nat.zero_add]; exact (blk_cell h1 j).trans (by simpa using h)) ⟨g2, 0, none⟩ 5 5 (C2 B).toList (by rw [hs]; rfl)
  (fun j v h => by rw [add_at, Nat.zero_add]; exact (blk_cell h2 j).trans (by simpa using h)) (by omega) (by omega) (by rw [hb]; decide)
 refine ⟨_, _, hw, fun w' hw' j v hj => ?_⟩
 refine (blk_cell hw' j).trans ?_
 have hlt : j < ((C1 B).toList ++ (C2 B).toList).length := (List.getElem?_eq_some_iff.1 hj).1
 rw [Array.getElem?_append_left (by simpa using hlt), ← hj]
 rw [← Array.toList_append, Array.getElem?_toList]
/-- An append, by what it comes to. -/
theorem exec_app {P : Program} {o : Oper} {a : Act} {w w1 : World} {r v1 v2 : Value} (s x : Operand) (t : TypeId) (ho : o.op = .call { callee := .builtin .append, args := #[s, x], argTypes := #[t, t] })
  (hs : a.eval s = v1) (hx : a.eval x = v2) (hrun : (Builtin.append_ #[t, t] o.type #[v1, v2]).run P w = .ok r w1) : (execOp a.eval o).run P w = .ok (.value r) w1 := by
 unfold execOp
 simp only [ho, resolve, invoke, builtin, Sem.run_bind, Sem.run_pure, Result.andThen_ok, List.map_toArray, List.map_cons, List.map_nil, hs, hx, hrun]
set_option maxHeartbeats 4000000 in
set_option maxRecDepth 100000 in
theorem all (B : Nat) (w : World) : Calls Tryz.prog 89 #[.pointer (some ⟨B, 0, none⟩)] w fun e w' => ∃ g cap, e = .returned (.slice (some ⟨g, 0, none⟩) 8 cap) ∧ w.heap.size ≤ g ∧
  (∀ j v, ((C1 B).toList ++ (C2 B).toList)[j]? = some v → w'.cell? ⟨g, j, none⟩ = some v) ∧ Below w.heap.size w w' := by
 go_enter Tryz.func89, Tryz.ntmps89
 go_wp2_with fail
 refine (lists B w).mono ?_
 rintro e w1 ⟨g1, g2, rfl, h1, h2, n, m1, m2, hB⟩
 obtain ⟨cap, o, happ, hat⟩ := app B g1 g2 w1 h1 h2
 have HA := Lib.hid hat
 have HP := Lib.hid happ
 have HB := Lib.hid hB
 have hs := hB.size
 clear h1 h2 n m1 m2 hat hB happ
 go_wp2_with (at_builtin; refine Kd.event_run rfl (exec_app (.tmp 10) (.tmp 11) 102 rfl rfl rfl HP.out) ?_)
 go_ret
 exact ⟨w1.heap.size, cap, rfl, hs, HA.out _ (blk_new w1.drew _), below_then HB.out hs (below_alloc (below_drew (Below.refl _ _)) _)⟩
end Go.Proofs.YtfdcldjoncednaaGreat.RecA
/- (list).may and (list).formed: which numbers may stand in a list, and in which order. -/
namespace Go.Proofs.YtfdcldjoncednaaGreat.RecM
open Go.RowKit Go.Proofs.YtfdcldjoncednaaGreatW.PrintWords Go.Proofs.YtfdcldjoncednaaGreatW.PrintLast
set_option linter.unusedVariables false
set_option linter.unusedSimpArgs false
/-- May a number be in a list? -/
def mayF (lo hi : Int) (z : Bool) (n : Int) : Bool := decide (lo ≤ n) && decide (n ≤ hi) && (decide (n ≠ 0) || !z)
/-- Is a list as it should be, as far as so many? -/
def upto (lo hi : Int) (z : Bool) (l : List Int) (i : Nat) : Prop := ∀ j, j < i → mayF lo hi z (rd l (j : Int)) = true ∧ (0 < j → rd l ((j - 1 : Nat) : Int) < rd l (j : Int))
def formedF (lo hi : Int) (z : Bool) (l : List Int) : Bool := decide (l.length ≤ 40) && (List.range l.length).all fun j => mayF lo hi z (rd l (j : Int)) && (decide (j = 0) || decide (rd l ((j - 1 : Nat) : Int) < rd l (j : Int)))
theorem formedF_iff (lo hi : Int) (z : Bool) (l : List Int) : formedF lo hi z l = true ↔ l.length ≤ 40 ∧ upto lo hi z l l.length := by
 unfold formedF upto
 simp only [Bool.and_eq_true, decide_eq_true_eq, List.all_eq_true, List.mem_range, Bool.or_eq_true]
 constructor
 ·rintro ⟨h1, h2⟩
  exact ⟨h1, fun j hj => ⟨(h2 j hj).1, fun q => by rcases (h2 j hj).2 with e | e; omega; exact e⟩⟩
 ·rintro ⟨h1, h2⟩
  exact ⟨h1, fun j hj => ⟨(h2 j hj).1, by by_cases q : j = 0; exact Or.inl q; exact Or.inr ((h2 j hj).2 (by omega))⟩⟩
abbrev lv (nm : ByteArray) (p : Option Addr) (lo hi : Int) (z : Bool) : Value := .agg #[.string nm, .pointer p, .int .i64 lo, .int .i64 hi, .bool z]
set_option maxHeartbeats 4000000 in
set_option maxRecDepth 100000 in
theorem may (nm : ByteArray) (p : Option Addr) (lo hi n : Int) (z : Bool) (w : World) :
  Calls Tryz.prog 115 #[lv nm p lo hi z, .int .i64 n] w fun e w' => e = .returned (.bool (mayF lo hi z n)) ∧ Below w.heap.size w w' := by
 unfold mayF
 by_cases a : lo ≤ n
 ·have a1 : decide (lo ≤ n) = true := decide_eq_true a
  by_cases b : n ≤ hi
  ·have b1 : decide (n ≤ hi) = true := decide_eq_true b
   by_cases c : n = 0
   ·have c1 : (n != 0) = false := bne_eq_false_iff_eq.2 c
    have c2 : decide (n ≠ 0) = false := decide_eq_false (by simpa using c)
    rw [a1, b1, c2]
    clear a b c c2
    cases z
    all_goals
     go_enter Tryz.func115, Tryz.ntmps115
     go_wp2_with fail
     go_ret
     exact ⟨by simp, by repeat (with_reducible first | exact Below.refl _ _ | apply below_drew | apply pw_below_drewN | apply below_alloc)⟩
   ·have c1 : (n != 0) = true := bne_iff_ne.2 c
    have c2 : decide (n ≠ 0) = true := decide_eq_true c
    rw [a1, b1, c2]
    clear a b c c2
    go_enter Tryz.func115, Tryz.ntmps115
    go_wp2_with fail
    go_ret
    exact ⟨by simp, by repeat (with_reducible first | exact Below.refl _ _ | apply below_drew | apply pw_below_drewN | apply below_alloc)⟩
  ·have b1 : decide (n ≤ hi) = false := decide_eq_false b
   rw [a1, b1]
   clear a b
   go_enter Tryz.func115, Tryz.ntmps115
   go_wp2_with fail
   go_ret
   exact ⟨by simp, by repeat (with_reducible first | exact Below.refl _ _ | apply below_drew | apply pw_below_drewN | apply below_alloc)⟩
 ·have a1 : decide (lo ≤ n) = false := decide_eq_false a
  rw [a1]
  clear a
  go_enter Tryz.func115, Tryz.ntmps115
  go_wp2_with fail
  go_ret
  exact ⟨by simp, by repeat (with_reducible first | exact Below.refl _ _ | apply below_drew | apply pw_below_drewN | apply below_alloc)⟩
theorem upto_succ {lo hi : Int} {z : Bool} {l : List Int} {i : Nat} (h : upto lo hi z l i) (h1 : mayF lo hi z (rd l (i : Int)) = true) (h2 : 0 < i → rd l ((i - 1 : Nat) : Int) < rd l (i : Int)) : upto lo hi z l (i + 1) := fun j hj => by
 by_cases e : j = i
 ·subst e; exact ⟨h1, h2⟩
 ·exact h j (by omega)
theorem formed_yes {lo hi : Int} {z : Bool} {l : List Int} (h : l.length ≤ 40) (hu : upto lo hi z l l.length) : formedF lo hi z l = true := (formedF_iff lo hi z l).2 ⟨h, hu⟩
theorem not_true {b : Bool} (h : ¬ b = true) : b = false := by simpa using h
theorem formed_long {lo hi : Int} {z : Bool} {l : List Int} (h : ¬ l.length ≤ 40) : formedF lo hi z l = false := not_true fun q => h ((formedF_iff lo hi z l).1 q).1
theorem formed_not {lo hi : Int} {z : Bool} {l : List Int} {i : Nat} (hi' : i < l.length) (h : ¬ (mayF lo hi z (rd l (i : Int)) = true ∧ (0 < i → rd l ((i - 1 : Nat) : Int) < rd l (i : Int)))) : formedF lo hi z l = false :=
 not_true fun q => h (((formedF_iff lo hi z l).1 q).2 i hi')
set_option maxHeartbeats 4000000 in
set_option maxRecDepth 100000 in
theorem formed (nm : ByteArray) (ad : Addr) (lo hi : Int) (z : Bool) (A : Option Addr) (c : Nat) (l : List Int) (w : World) (hp : w.cell? ad = some (.slice A l.length c)) (hC : Kd.C (Kd.int .i64) w A l.length l) :
  Calls Tryz.prog 90 #[lv nm (some ad) lo hi z] w fun e w' => e = .returned (.bool (formedF lo hi z l)) ∧ Below w.heap.size w w' := by
 have HR := Aside0.mk hC
 have kept : ∀ o, (w.alloc o).cell? ad = some (.slice A l.length c) := fun o => pw_cell_below (below_alloc (Below.refl _ _) o) hp
 have hB0 : ∀ o, Below w.heap.size w (w.alloc o) := fun o => below_alloc (Below.refl _ _) o
 have hK0 : (w.alloc (.cells #[.string nm, .pointer (some ad), .int .i64 lo, .int .i64 hi, .bool z] 107 (0, 0))).heap[w.heap.size]? = some (.cells #[.string nm, .pointer (some ad), .int .i64 lo, .int .i64 hi, .bool z] 107 (0, 0)) := blk_new w _
 have HB := Aside0.mk (hB0 (.cells #[.string nm, .pointer (some ad), .int .i64 lo, .int .i64 hi, .bool z] 107 (0, 0)))
 have HK := Aside0.mk hK0
 clear hp hC hB0 hK0
 go_enter Tryz.func90, Tryz.ntmps90
 by_cases big : l.length ≤ 40
 ·have b1 : decide ((l.length : Int) > 40) = false := decide_eq_false (by omega)
  have BG := Aside0.mk big
  clear big
  go_wp2_with fail
  clear kept
  generalize w.alloc (.cells #[.string nm, .pointer (some ad), .int .i64 lo, .int .i64 hi, .bool z] 107 (0, 0)) = w0 at HB HK ⊢
  generalize hg : w.heap.size = g at HK HB ⊢
  go_loopg [15] l.length (fun kq v w' => ∃ (i : Nat) (x : Int), v = .int .i64 x ∧ Aside0 (x = (i : Int)) ∧ Aside0 (i + kq = l.length) ∧ Aside0 (upto lo hi z l i) ∧ Aside0 (w'.heap[g]? = some (.cells #[.string nm, .pointer (some ad), .int .i64 lo, .int .i64 hi, .bool z] 107 (0, 0))) ∧ Aside0 (Below g w w'))
  case atStart => exact ⟨0, 0, rfl, ⟨rfl⟩, ⟨by omega⟩, ⟨fun j hj => by omega⟩, HK, HB⟩
  case round =>
   clear HK HB
   obtain ⟨i, x, rfl, HX, HI, HU, HK, HB⟩ := hrel
   cases gk with
   | zero =>
    have e := HI.out
    obtain rfl : i = l.length := by omega
    have l1 : decide (x < (l.length : Int)) = false := decide_eq_false (by have := HX.out; omega)
    go_wp2_with fail
    go_ret
    exact ⟨by rw [formed_yes BG.out HU.out] <;> rfl, hg ▸ HB.out⟩
   | succ k1 =>
    have l1 : decide (x < (l.length : Int)) = true := decide_eq_true (by have := HX.out; have := HI.out; omega)
    have p1 : (0 ≤ x) = True := eq_true (by have := HX.out; omega)
    have q1 : (x < (l.length : Int)) = True := eq_true (by have := HX.out; have := HI.out; omega)
    obtain ⟨ab, eA, hx⟩ := Kd.at_int HR.out x (by have := HX.out; omega) (by have := HX.out; have := HI.out; omega)
    have hxw : wr.cell? (ab.add x.toNat) = some (.int .i64 (rd l x)) := by have := HB.out; rw [← hg] at this; exact pw_cell_below this hx
    have k0 := (blk_cell HK.out 0).trans rfl
    have k1_ := (blk_cell HK.out 1).trans rfl
    have k2 := (blk_cell HK.out 2).trans rfl
    have k3 := (blk_cell HK.out 3).trans rfl
    have k4 := (blk_cell HK.out 4).trans rfl
    subst eA
    go_wp2_with fail
    refine (may nm (some ad) lo hi (rd l x) z _).mono ?_
    rintro e w2 ⟨rfl, hB⟩
    have B1 : Below w.heap.size w wr := hg ▸ HB.out
    have B2 := Aside0.mk (below_then B1 B1.size hB)
    have HK2 := Aside0.mk (blk_below HK.out hB)
    replace hxw := pw_cell_below hB hxw
    clear hB B1 HK HB k0 k1_ k2 k3 k4
    by_cases m : mayF lo hi z (rd l x) = true
    ·rw [m]
     have HM := Aside0.mk (show mayF lo hi z (rd l (i : Int)) = true by rw [← HX.out]; exact m)
     clear m
     by_cases i0 : x > 0
     ·have c0 : decide (x > 0) = true := decide_eq_true i0
      obtain ⟨y, hy⟩ : ∃ y, y = wrap64 (x - 1) := ⟨_, rfl⟩
      have e3 : y = ((i - 1 : Nat) : Int) := by have := HX.out; have := BG.out; have := HI.out; rw [hy]; unfold wrap64; omega
      have l3 : wrap64 (x - 1) = y := hy.symm
      have p2 : (0 ≤ y) = True := eq_true (by omega)
      have q2 : (y < (l.length : Int)) = True := eq_true (by have := HI.out; omega)
      obtain ⟨ab2, eA2, hx2⟩ := Kd.at_int HR.out y (by omega) (by have := HI.out; omega)
      obtain rfl : ab = ab2 := Option.some.inj eA2
      have hxw2 := pw_cell_below B2.out hx2
      have HJ := Aside0.mk e3
      have HZ := Aside0.mk i0
      clear i0 hx hx2 eA2 e3 hy
      by_cases c : rd l y ≥ rd l x
      ·have c1 : decide (rd l y ≥ rd l x) = true := decide_eq_true c
       have HC := Aside0.mk c
       clear c
       go_wp2_with fail
       go_ret
       exact ⟨by rw [formed_not (i := i) (by have := HI.out; omega) (fun q => by have h1 := HZ.out; have h2 := q.2 (by have := HX.out; omega); rw [← HJ.out, ← HX.out] at h2; have := HC.out; omega)] <;> rfl, B2.out⟩
      ·have c1 : decide (rd l y ≥ rd l x) = false := decide_eq_false c
       have HC := Aside0.mk c
       clear c
       go_wp2_with fail
       go_roundg k1
       case measure => omega
       case rel => exact ⟨i + 1, _, rfl, ⟨by have := HX.out; have := BG.out; have := HI.out; unfold wrap64; omega⟩, ⟨by have := HI.out; omega⟩, ⟨upto_succ HU.out HM.out (fun _ => by have := HC.out; rw [← HJ.out, ← HX.out]; omega)⟩, HK2, ⟨hg ▸ B2.out⟩⟩
     ·have c0 : decide (x > 0) = false := decide_eq_false i0
      have HZ := Aside0.mk i0
      clear i0
      go_wp2_with fail
      go_roundg k1
      case measure => omega
      case rel => exact ⟨i + 1, _, rfl, ⟨by have := HX.out; have := BG.out; have := HI.out; unfold wrap64; omega⟩, ⟨by have := HI.out; omega⟩, ⟨upto_succ HU.out HM.out (fun q => absurd HZ.out (by have := HX.out; omega))⟩, HK2, ⟨hg ▸ B2.out⟩⟩
    ·have m1 : mayF lo hi z (rd l x) = false := by simpa using m
     rw [m1]
     have HM := Aside0.mk (show ¬ mayF lo hi z (rd l (i : Int)) = true by rw [← HX.out]; exact m)
     clear m m1
     go_wp2_with fail
     go_ret
     exact ⟨by rw [formed_not (i := i) (by have := HI.out; omega) (fun q => HM.out q.1)] <;> rfl, B2.out⟩
 ·have b1 : decide ((l.length : Int) > 40) = true := decide_eq_true (by omega)
  rw [formed_long big]
  clear big
  go_wp2_with fail
  go_ret
  exact ⟨rfl, HB.out⟩
end Go.Proofs.YtfdcldjoncednaaGreat.RecM
