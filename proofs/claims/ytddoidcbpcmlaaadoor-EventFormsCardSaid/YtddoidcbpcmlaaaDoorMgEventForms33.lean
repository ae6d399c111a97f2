/- Texts of this claim, merged: RefF. -/
import Derived.Test.YtddoidcbpcmlaaaDoorMgEventForms21
/- trystref12.Formed walked. (Written by gen_refform.py.) -/
namespace Go.Proofs.YtddoidcbpcmlaaaDoor.RefF
open Go.RowKit Go.Proofs.YtddoidcbpcmlaaaDoorW.PrintWords Go.Proofs.YtddoidcbpcmlaaaDoorW.PrintLast Go.Proofs.YtddoidcbpcmlaaaDoorW.PrintMore Go.Proofs.YtddoidcbpcmlaaaDoor.M Go.Proofs.YtddoidcbpcmlaaaDoor.Ru
set_option linter.unusedVariables false
set_option linter.unusedSimpArgs false
def T25 : Bool × List (List Nat × List Nat) := (true, [([], []), ([0], [0]), ([], []), ([1, 2], [1, 2]), ([3], [3]), ([4], [4]), ([5], [5]), ([6, 5], [6]), ([7], [7]), ([8, 7], [7, 8]), ([9, 7, 7], [7, 9]), ([10], [10]), ([11, 10], [10, 11]), ([10], [10]), ([13, 10], [10, 13]), ([12, 14, 10], [10, 12, 14]), ([15, 10], [10, 15]), ([10], [10]), ([17, 10], [10, 17]), ([10], [10]), ([18, 19, 10], [10, 18, 19]), ([20, 10], [10, 20]), ([16, 21, 10, 10], [10, 16, 21]), ([22, 10], [10, 22]), ([10, 23, 7], [7, 10, 23]), ([7, 24], [7, 24])])
def B25 : List Nat := [0, 1, 0, 7, 15, 31, 63, 127, 255, 511, 1023, 2047, 4095, 2047, 10239, 32767, 65535, 2047, 133119, 2047, 919551, 1968127, 4194303, 8388607, 16777215, 33554431]
theorem tab25 : rtab .any (opsOf Tryd.f46 25) = T25 := by kernel_rfl
theorem bits25 : waitsOk T25.2 B25 = true := by kernel_rfl

attribute [local go_sem high] eqA23
set_option maxHeartbeats 16000000 in
set_option maxRecDepth 100000 in
theorem walk (r : Ru) (p : Rp) (kr : Nat) (rt : Bool) (f : Nat → Int) (w : World) (ok : Ok r p w) (hrt : trystref12_RightTime.f kr r.a3 r.a4 r.a5 = some rt) (hf0 : f 0 = (r.l11.length : Int)) (hfs : ∀ i, i < 8 → f (i + 1) = f i + (if i < 7 then ((LL r i).length : Int) else 0)) :
  Calls Tryd.prog 46 #[.agg (agg r p)] w fun e w' => e = .returned (.bool (grd r && (untl r rt && (all8 r && (daysB r.l11 && last r (f 8)))))) ∧ Below w.heap.size w w' := by
 have HO := Aside0.mk ok; clear ok
 have RT := Aside0.mk hrt; clear hrt
 have HF0 := Aside0.mk hf0; clear hf0
 have HFS := Aside0.mk hfs; clear hfs
 have HK := Aside0.mk (blk_new w (obj r p))
 have HB := Aside0.mk (below_alloc (Below.refl w.heap.size w) (obj r p))
 by_cases g0 : r.a0 < 1
 ·as_aux_lemma =>
   have G := Aside0.mk (show decide (r.a0 < 1) = true from decide_eq_true g0)
   have f0 : decide (r.a0 < 1) = true := decide_eq_true g0
   clear g0
   go_enter Tryd.func46, Tryd.ntmps46
   go_wp2_with fail
   go_ret
   exact ⟨by simp [grd, G.out], HB.out⟩
 have f0 : decide (r.a0 < 1) = false := decide_eq_false g0
 have G0 := Aside0.mk (show decide (r.a0 < 1) = false from decide_eq_false g0)
 clear g0
 by_cases g1 : r.a0 > 4
 ·as_aux_lemma =>
   have G := Aside0.mk (show decide (r.a0 > 4) = true from decide_eq_true g1)
   have f1 : decide (r.a0 > 4) = true := decide_eq_true g1
   clear g1
   go_enter Tryd.func46, Tryd.ntmps46
   go_wp2_with fail
   go_ret
   exact ⟨by simp [grd, G.out], HB.out⟩
 have f1 : decide (r.a0 > 4) = false := decide_eq_false g1
 have G1 := Aside0.mk (show decide (r.a0 > 4) = false from decide_eq_false g1)
 clear g1
 by_cases g2 : r.a1 < 1
 ·as_aux_lemma =>
   have G := Aside0.mk (show decide (r.a1 < 1) = true from decide_eq_true g2)
   have f2 : decide (r.a1 < 1) = true := decide_eq_true g2
   clear g2
   go_enter Tryd.func46, Tryd.ntmps46
   go_wp2_with fail
   go_ret
   exact ⟨by simp [grd, G.out], HB.out⟩
 have f2 : decide (r.a1 < 1) = false := decide_eq_false g2
 have G2 := Aside0.mk (show decide (r.a1 < 1) = false from decide_eq_false g2)
 clear g2
 by_cases g3 : r.a1 > 1000
 ·as_aux_lemma =>
   have G := Aside0.mk (show decide (r.a1 > 1000) = true from decide_eq_true g3)
   have f3 : decide (r.a1 > 1000) = true := decide_eq_true g3
   clear g3
   go_enter Tryd.func46, Tryd.ntmps46
   go_wp2_with fail
   go_ret
   exact ⟨by simp [grd, G.out], HB.out⟩
 have f3 : decide (r.a1 > 1000) = false := decide_eq_false g3
 have G3 := Aside0.mk (show decide (r.a1 > 1000) = false from decide_eq_false g3)
 clear g3
 by_cases g4 : r.a2 < 0
 ·as_aux_lemma =>
   have G := Aside0.mk (show decide (r.a2 < 0) = true from decide_eq_true g4)
   have f4 : decide (r.a2 < 0) = true := decide_eq_true g4
   clear g4
   go_enter Tryd.func46, Tryd.ntmps46
   go_wp2_with fail
   go_ret
   exact ⟨by simp [grd, G.out], HB.out⟩
 have f4 : decide (r.a2 < 0) = false := decide_eq_false g4
 have G4 := Aside0.mk (show decide (r.a2 < 0) = false from decide_eq_false g4)
 clear g4
 by_cases g5 : r.a2 > 1000
 ·as_aux_lemma =>
   have G := Aside0.mk (show decide (r.a2 > 1000) = true from decide_eq_true g5)
   have f5 : decide (r.a2 > 1000) = true := decide_eq_true g5
   clear g5
   go_enter Tryd.func46, Tryd.ntmps46
   go_wp2_with fail
   go_ret
   exact ⟨by simp [grd, G.out], HB.out⟩
 have f5 : decide (r.a2 > 1000) = false := decide_eq_false g5
 have G5 := Aside0.mk (show decide (r.a2 > 1000) = false from decide_eq_false g5)
 clear g5
 by_cases g6 : r.a7 < 0
 ·as_aux_lemma =>
   have G := Aside0.mk (show decide (r.a7 < 0) = true from decide_eq_true g6)
   have f6 : decide (r.a7 < 0) = true := decide_eq_true g6
   clear g6
   go_enter Tryd.func46, Tryd.ntmps46
   go_wp2_with fail
   go_ret
   exact ⟨by simp [grd, G.out], HB.out⟩
 have f6 : decide (r.a7 < 0) = false := decide_eq_false g6
 have G6 := Aside0.mk (show decide (r.a7 < 0) = false from decide_eq_false g6)
 clear g6
 by_cases g7 : r.a7 > 6
 ·as_aux_lemma =>
   have G := Aside0.mk (show decide (r.a7 > 6) = true from decide_eq_true g7)
   have f7 : decide (r.a7 > 6) = true := decide_eq_true g7
   clear g7
   go_enter Tryd.func46, Tryd.ntmps46
   go_wp2_with fail
   go_ret
   exact ⟨by simp [grd, G.out], HB.out⟩
 have f7 : decide (r.a7 > 6) = false := decide_eq_false g7
 have G7 := Aside0.mk (show decide (r.a7 > 6) = false from decide_eq_false g7)
 clear g7
 by_cases g8 : r.l11.length > 40
 ·as_aux_lemma =>
   have G := Aside0.mk (show decide (r.l11.length > 40) = true from decide_eq_true g8)
   have f8 : decide ((r.l11.length : Int) > 40) = true := decide_eq_true (by omega)
   have f8b : decide (40 < r.l11.length) = true := decide_eq_true (by omega)
   clear g8
   go_enter Tryd.func46, Tryd.ntmps46
   go_wp2_with fail
   go_ret
   exact ⟨by simp [grd, G.out], HB.out⟩
 have f8 : decide ((r.l11.length : Int) > 40) = false := decide_eq_false (by omega)
 have f8b : decide (40 < r.l11.length) = false := decide_eq_false (by omega)
 have G8 := Aside0.mk (show decide (r.l11.length > 40) = false from decide_eq_false g8)
 clear g8
 have GD := Aside0.mk (show grd r = true by simp [grd, G0.out, G1.out, G2.out, G3.out, G4.out, G5.out, G6.out, G7.out, G8.out])
 have G8n := Aside0.mk (show r.l11.length ≤ 40 by have := of_decide_eq_false G8.out; omega)
 clear G0 G1 G2 G3 G4 G5 G6 G7 G8
 go_enter Tryd.func46, Tryd.ntmps46
 go_upto_region 3 with fail
 generalize w.alloc (obj r p) = w0 at HK HB ⊢
 generalize hB : w.heap.size = B at HK ⊢
 go_cut [82] (fun v wc => v = .bool (!(untl r rt)) ∧ Aside0 (wc.heap[B]? = some (obj r p)) ∧ Aside0 (Below w.heap.size w wc))
 case first => as_aux_lemma =>
   obtain ⟨b0, b1, b2, b3, b4, b5, b6, b7, b8, b9, b10, b11, b12, b13, b14, b15, b16⟩ := cells HK.out
   cases h6 : r.a6 with
   | true =>
    by_cases u2 : r.a2 = 0
    ·have u2a : (r.a2 != 0) = false := bne_eq_false_iff_eq.2 u2
     have U := Aside0.mk (show untl r rt = (rt && decide (r.a3 ≠ 3)) by unfold untl; rw [if_pos h6, decide_eq_true u2, Bool.true_and])
     clear u2
     go_wp2_with fail
     refine (trystref12_RightTime.calls kr r.a3 r.a4 r.a5 rt _ RT.out).mono ?_
     rintro e w1 ⟨rfl, hb⟩
     replace HK := Aside0.mk (blk_below HK.out hb)
     replace HB := Aside0.mk (below_then HB.out HB.out.size hb)
     clear hb
     clear b0 b1 b2 b3 b4 b5 b6 b7 b8 b9 b10 b11 b12 b13 b14 b15 b16
     obtain ⟨b0, b1, b2, b3, b4, b5, b6, b7, b8, b9, b10, b11, b12, b13, b14, b15, b16⟩ := cells HK.out
     cases rt with
     | false =>
      go_wp2_with fail
      go_meet
      case rel => exact ⟨by rw [U.out] <;> rfl, HK, HB⟩
     | true =>
      by_cases u3 : r.a3 = 3
      ·have u3a : (r.a3 == 3) = true := beq_iff_eq.2 u3
       have U3 := Aside0.mk (show decide (r.a3 ≠ 3) = false from decide_eq_false (fun z => z u3))
       clear u3
       go_wp2_with fail
       go_meet
       case rel => exact ⟨by rw [U.out, U3.out] <;> rfl, HK, HB⟩
      ·have u3a : (r.a3 == 3) = false := beq_eq_false_iff_ne.2 u3
       have U3 := Aside0.mk (show decide (r.a3 ≠ 3) = true from decide_eq_true u3)
       clear u3
       go_wp2_with fail
       go_meet
       case rel => exact ⟨by rw [U.out, U3.out] <;> rfl, HK, HB⟩
    ·have u2a : (r.a2 != 0) = true := bne_iff_ne.2 u2
     have U := Aside0.mk (show untl r rt = false by unfold untl; rw [if_pos h6, decide_eq_false u2, Bool.false_and])
     clear u2
     go_wp2_with fail
     go_meet
     case rel => exact ⟨by rw [U.out] <;> rfl, HK, HB⟩
   | false =>
    have U := Aside0.mk (show untl r rt = (r.a3 == 0 && (r.a4 == 0 && (r.a5.toList == ([] : List UInt8)))) by unfold untl; rw [if_neg (by rw [h6]; simp)])
    go_wp2_with fail
    go_meet
    case rel => exact ⟨by rw [U.out]; cases (r.a3 == 0) <;> cases (r.a4 == 0) <;> cases r.a5.toList <;> rfl, HK, HB⟩
 case rest =>
  obtain ⟨rfl, HK, HB⟩ := hcut
  cases hu : untl r rt with
  | false => as_aux_lemma =>
    have U := Aside0.mk hu
    clear hu
    go_wp2_with fail
    go_ret
    exact ⟨by rw [GD.out, U.out] <;> rfl, hB ▸ HB.out⟩
  | true =>
   have U := Aside0.mk hu
   clear hu
   obtain ⟨b0, b1, b2, b3, b4, b5, b6, b7, b8, b9, b10, b11, b12, b13, b14, b15, b16⟩ := cells HK.out
   go_wp2_with fail
   refine (RefL.lists_ r.a0 r.a1 r.a2 r.a3 r.a4 r.a5 r.a6 r.a7 p.A8 p.c8 r.l8 p.A9 p.c9 r.l9 p.A10 p.c10 r.l10 p.A11 p.c11 r.l11 p.A12 p.c12 r.l12 p.A13 p.c13 r.l13 p.A14 p.c14 r.l14 p.A15 p.c15 r.l15 p.A16 p.c16 r.l16 wc).mono ?_
   rintro e w1 ⟨rfl, hb⟩
   replace HK := Aside0.mk (blk_below HK.out hb)
   replace HB := Aside0.mk (below_then HB.out HB.out.size hb)
   clear hb
   clear b0 b1 b2 b3 b4 b5 b6 b7 b8 b9 b10 b11 b12 b13 b14 b15 b16
   have k11 : ∀ ob, (w1.alloc ob).cell? ⟨B, 9, none⟩ = some (.slice p.A9 r.l9.length p.c9) := fun ob => pw_cell_below (below_alloc (Below.refl _ _) ob) ((blk_cell HK.out 9).trans rfl)
   have k12 : ∀ ob, (w1.alloc ob).cell? ⟨B, 11, none⟩ = some (.slice p.A11 r.l11.length p.c11) := fun ob => pw_cell_below (below_alloc (Below.refl _ _) ob) ((blk_cell HK.out 11).trans rfl)
   have HA := Aside0.mk (blk_new w1 (aobj r p))
   have HKa := Aside0.mk (blk_below HK.out (below_alloc (Below.refl _ _) (aobj r p)))
   replace HB := Aside0.mk (below_alloc HB.out (aobj r p))
   clear HK
   go_wp2_with fail
   clear k11 k12 f0 f1 f2 f3 f4 f5 f6 f7 f8 f8b
   generalize w1.alloc (aobj r p) = w2 at HA HKa HB ⊢
   generalize w1.heap.size = g at HA ⊢
   go_loopg [4, 88] 8 (fun kq vn vi w' => ∃ (i : Nat) (n x : Int), vn = .int .i64 n ∧ vi = .int .i64 x ∧ Aside0 (n = f i ∧ 0 ≤ n ∧ n ≤ 40 + 40 * (i : Int)) ∧ Aside0 (x = (i : Int)) ∧ Aside0 (i + kq = 8) ∧ Aside0 (∀ j, j < i → formL r j = true) ∧ Aside0 (w'.heap[g]? = some (aobj r p)) ∧ Aside0 (w'.heap[B]? = some (obj r p)) ∧ Aside0 (Below w.heap.size w w'))
   case atStart => exact ⟨0, _, 0, rfl, rfl, ⟨HF0.out.symm, by omega, by have := G8n.out; omega⟩, ⟨rfl⟩, ⟨rfl⟩, ⟨fun j hj => by omega⟩, HA, HKa, HB⟩
   case round =>
    clear HA HKa HB
    obtain ⟨i, n, x, rfl, rfl, HN, HX, HI, HL, HA, HK, HB⟩ := hrel
    cases gk with
    | zero =>
     obtain rfl : i = 8 := by have := HI.out; omega
     obtain rfl : x = 8 := HX.out
     have A8 := Aside0.mk (all8_yes HL.out)
     have HN8 := Aside0.mk HN.out.1
     clear HL
     obtain ⟨b0, b1, b2, b3, b4, b5, b6, b7, b8, b9, b10, b11, b12, b13, b14, b15, b16⟩ := cells HK.out
     go_wp2_with fail
     clear b0 b1 b2 b3 b4 b5 b6 b7 b8 b9 b10 b11 b12 b13 b14 b15 b16
     obtain ⟨wo, rfl⟩ : ∃ wo : World, wo = wr := ⟨_, rfl⟩
     go_loopg [7, 145] r.l11.length (fun kq vb v w' => ∃ (j : Nat) (y : Int) (nb : Bool), vb = .bool nb ∧ v = .int .i64 y ∧ Aside0 (nb = nthU r.l11 j) ∧ Aside0 (y = (j : Int)) ∧ Aside0 (j + kq = r.l11.length) ∧ Aside0 (dayU r.l11 j) ∧ Aside0 (w'.heap[B]? = some (obj r p)) ∧ Aside0 (Below w.heap.size w w'))
     case atStart => exact ⟨0, 0, false, rfl, rfl, ⟨rfl⟩, ⟨rfl⟩, ⟨by omega⟩, ⟨fun j hj => by omega⟩, HK, HB⟩
     case round =>
      clear HK HB HA
      obtain ⟨j, y, nb, rfl, rfl, HNB, HY, HJ, HU, HK, HB⟩ := hrel
      obtain ⟨b0, b1, b2, b3, b4, b5, b6, b7, b8, b9, b10, b11, b12, b13, b14, b15, b16⟩ := cells HK.out
      cases gk with
      | zero => as_aux_lemma =>
        obtain rfl : j = r.l11.length := by have := HJ.out; omega
        have DB := Aside0.mk ((daysB_iff r.l11).2 HU.out)
        have ly : decide (y < (r.l11.length : Int)) = false := decide_eq_false (by have := HY.out; omega)
        clear HU
        have L12 := Aside0.mk (show r.l12.length ≤ 40 from ((RecM.formedF_iff _ _ _ _).1 (show RecM.formedF (lo 3) (hi 3) (nz 3) r.l12 = true by have h := all8_at A8.out 3 (by omega); unfold formL at h; unfold LL at h; exact h)).1)
        obtain ⟨n12, hn12⟩ : ∃ n : Nat, r.l12.length = n := ⟨_, rfl⟩
        rw [hn12] at b12
        have N12 := Aside0.mk hn12
        rw [hn12] at L12
        clear hn12
        have L13 := Aside0.mk (show r.l13.length ≤ 40 from ((RecM.formedF_iff _ _ _ _).1 (show RecM.formedF (lo 4) (hi 4) (nz 4) r.l13 = true by have h := all8_at A8.out 4 (by omega); unfold formL at h; unfold LL at h; exact h)).1)
        obtain ⟨n13, hn13⟩ : ∃ n : Nat, r.l13.length = n := ⟨_, rfl⟩
        rw [hn13] at b13
        have N13 := Aside0.mk hn13
        rw [hn13] at L13
        clear hn13
        have L14 := Aside0.mk (show r.l14.length ≤ 40 from ((RecM.formedF_iff _ _ _ _).1 (show RecM.formedF (lo 5) (hi 5) (nz 5) r.l14 = true by have h := all8_at A8.out 5 (by omega); unfold formL at h; unfold LL at h; exact h)).1)
        obtain ⟨n14, hn14⟩ : ∃ n : Nat, r.l14.length = n := ⟨_, rfl⟩
        rw [hn14] at b14
        have N14 := Aside0.mk hn14
        rw [hn14] at L14
        clear hn14
        have L16 := Aside0.mk (show r.l16.length ≤ 40 from ((RecM.formedF_iff _ _ _ _).1 (show RecM.formedF (lo 7) (hi 7) (nz 7) r.l16 = true by have h := all8_at A8.out 7 (by omega); unfold formL at h; unfold LL at h; exact h)).1)
        obtain ⟨n16, hn16⟩ : ∃ n : Nat, r.l16.length = n := ⟨_, rfl⟩
        rw [hn16] at b16
        have N16 := Aside0.mk hn16
        rw [hn16] at L16
        clear hn16
        obtain ⟨s, hs⟩ : ∃ s : Int, wrap64 ((n13 : Int) + (n14 : Int)) = s := ⟨_, rfl⟩
        have S3 := Aside0.mk (show s = ((n13 + n14 : Nat) : Int) by have := L13.out; have := L14.out; rw [← hs]; unfold wrap64; push_cast; omega)
        by_cases h4 : r.a0 = 4
        ·have ha := Aside0.mk h4
         clear h4
         have x4a : (r.a0 == 4) = true := beq_iff_eq.2 (by have := ha.out; omega)
         have y4 := Aside0.mk (show decide (r.a0 = 4) = true from decide_eq_true (by have := ha.out; omega))
         have x2a : (r.a0 == 2) = false := beq_eq_false_iff_ne.2 (by have := ha.out; omega)
         have y2 := Aside0.mk (show decide (r.a0 = 2) = false from decide_eq_false (by have := ha.out; omega))
         have x3a : (r.a0 == 3) = false := beq_eq_false_iff_ne.2 (by have := ha.out; omega)
         have y3 := Aside0.mk (show decide (r.a0 = 3) = false from decide_eq_false (by have := ha.out; omega))
         have x4b : (r.a0 != 4) = false := bne_eq_false_iff_eq.2 (by have := ha.out; omega)
         have z4 := Aside0.mk (show decide (r.a0 ≠ 4) = false from decide_eq_false (by have := ha.out; omega))
         by_cases he : 0 < n16
         ·have VE := Aside0.mk he
          have he_a : decide ((n16 : Int) > 0) = true := decide_eq_true (by omega)
          have he_b : decide (0 < n16) = true := decide_eq_true (by omega)
          clear he
          by_cases hf : n = 0
          ·have VF := Aside0.mk hf; have hfa : (n == 0) = true := beq_iff_eq.2 hf; clear hf
           go_wp2_with fail
           go_ret
           exact ⟨by rw [GD.out, U.out, A8.out, DB.out, ← HN8.out]; simp [last, N12.out, N13.out, N14.out, N16.out, z4.out, y4.out, y2.out, y3.out, VE.out, VF.out], hB ▸ HB.out⟩
          ·have VF := Aside0.mk hf; have hfa : (n == 0) = false := beq_eq_false_iff_ne.2 hf; clear hf
           cases nb with
           | false =>
            go_wp2_with fail
            go_ret
            exact ⟨by rw [GD.out, U.out, A8.out, DB.out, ← HN8.out]; simp [last, N12.out, N13.out, N14.out, N16.out, z4.out, y4.out, y2.out, y3.out, VE.out, VF.out, HNB.out.symm], hB ▸ HB.out⟩
           | true =>
            by_cases hg : n14 = 0
            ·have VG := Aside0.mk hg; have hga : ((n14 : Int) == 0) = true := beq_iff_eq.2 (by omega); have hgb : (n14 == 0) = true := beq_iff_eq.2 hg; clear hg
             go_wp2_with fail
             go_ret
             exact ⟨by rw [GD.out, U.out, A8.out, DB.out, ← HN8.out]; simp [last, N12.out, N13.out, N14.out, N16.out, z4.out, y4.out, y2.out, y3.out, VE.out, VF.out, HNB.out.symm, VG.out], hB ▸ HB.out⟩
            ·have VG := Aside0.mk hg; have hga : ((n14 : Int) == 0) = false := beq_eq_false_iff_ne.2 (by omega); have hgb : (n14 == 0) = false := beq_eq_false_iff_ne.2 hg; clear hg
             go_wp2_with fail
             go_ret
             exact ⟨by rw [GD.out, U.out, A8.out, DB.out, ← HN8.out]; simp [last, N12.out, N13.out, N14.out, N16.out, z4.out, y4.out, y2.out, y3.out, VE.out, VF.out, HNB.out.symm, VG.out], hB ▸ HB.out⟩
         ·have VE := Aside0.mk he
          have he_a : decide ((n16 : Int) > 0) = false := decide_eq_false (by omega)
          have he_b : decide (0 < n16) = false := decide_eq_false (by omega)
          clear he
          cases nb with
          | false =>
           go_wp2_with fail
           go_ret
           exact ⟨by rw [GD.out, U.out, A8.out, DB.out, ← HN8.out]; simp [last, N12.out, N13.out, N14.out, N16.out, z4.out, y4.out, y2.out, y3.out, VE.out, HNB.out.symm], hB ▸ HB.out⟩
          | true =>
           by_cases hg : n14 = 0
           ·have VG := Aside0.mk hg; have hga : ((n14 : Int) == 0) = true := beq_iff_eq.2 (by omega); have hgb : (n14 == 0) = true := beq_iff_eq.2 hg; clear hg
            go_wp2_with fail
            go_ret
            exact ⟨by rw [GD.out, U.out, A8.out, DB.out, ← HN8.out]; simp [last, N12.out, N13.out, N14.out, N16.out, z4.out, y4.out, y2.out, y3.out, VE.out, HNB.out.symm, VG.out], hB ▸ HB.out⟩
           ·have VG := Aside0.mk hg; have hga : ((n14 : Int) == 0) = false := beq_eq_false_iff_ne.2 (by omega); have hgb : (n14 == 0) = false := beq_eq_false_iff_ne.2 hg; clear hg
            go_wp2_with fail
            go_ret
            exact ⟨by rw [GD.out, U.out, A8.out, DB.out, ← HN8.out]; simp [last, N12.out, N13.out, N14.out, N16.out, z4.out, y4.out, y2.out, y3.out, VE.out, HNB.out.symm, VG.out], hB ▸ HB.out⟩
        have ha4 := Aside0.mk h4
        clear h4
        by_cases h2 : r.a0 = 2
        ·have ha := Aside0.mk h2
         clear h2
         have x4a : (r.a0 == 4) = false := beq_eq_false_iff_ne.2 (by have := ha.out; omega)
         have y4 := Aside0.mk (show decide (r.a0 = 4) = false from decide_eq_false (by have := ha.out; omega))
         have x2a : (r.a0 == 2) = true := beq_iff_eq.2 (by have := ha.out; omega)
         have y2 := Aside0.mk (show decide (r.a0 = 2) = true from decide_eq_true (by have := ha.out; omega))
         have x3a : (r.a0 == 3) = false := beq_eq_false_iff_ne.2 (by have := ha.out; omega)
         have y3 := Aside0.mk (show decide (r.a0 = 3) = false from decide_eq_false (by have := ha.out; omega))
         have x4b : (r.a0 != 4) = true := bne_iff_ne.2 (by have := ha.out; omega)
         have z4 := Aside0.mk (show decide (r.a0 ≠ 4) = true from decide_eq_true (by have := ha.out; omega))
         by_cases hb : s > 0
         ·have ba : decide (s > 0) = true := decide_eq_true hb
          have VB := Aside0.mk (show (0 < (n13 : Int) + (n14 : Int)) = True from eq_true (by have := S3.out; omega)); have VB2 := Aside0.mk (show ((n13 : Int) + (n14 : Int) ≤ 0) = False from eq_false (by have := S3.out; omega))
          clear hb
          go_wp2_with fail
          go_ret
          exact ⟨by rw [GD.out, U.out, A8.out, DB.out, ← HN8.out]; simp [last, N12.out, N13.out, N14.out, N16.out, z4.out, y4.out, y2.out, y3.out, VB.out, VB2.out], hB ▸ HB.out⟩
         ·have ba : decide (s > 0) = false := decide_eq_false hb
          have VB := Aside0.mk (show (0 < (n13 : Int) + (n14 : Int)) = False from eq_false (by have := S3.out; omega)); have VB2 := Aside0.mk (show ((n13 : Int) + (n14 : Int) ≤ 0) = True from eq_true (by have := S3.out; omega))
          clear hb
          by_cases hd : 0 < n12
          ·have VD := Aside0.mk hd
           have hd_a : decide ((n12 : Int) > 0) = true := decide_eq_true (by omega)
           have hd_b : decide (0 < n12) = true := decide_eq_true (by omega)
           clear hd
           go_wp2_with fail
           go_ret
           exact ⟨by rw [GD.out, U.out, A8.out, DB.out, ← HN8.out]; simp [last, N12.out, N13.out, N14.out, N16.out, z4.out, y4.out, y2.out, y3.out, VB.out, VB2.out, VD.out], hB ▸ HB.out⟩
          ·have VD := Aside0.mk hd
           have hd_a : decide ((n12 : Int) > 0) = false := decide_eq_false (by omega)
           have hd_b : decide (0 < n12) = false := decide_eq_false (by omega)
           clear hd
           by_cases he : 0 < n16
           ·have VE := Aside0.mk he
            have he_a : decide ((n16 : Int) > 0) = true := decide_eq_true (by omega)
            have he_b : decide (0 < n16) = true := decide_eq_true (by omega)
            clear he
            by_cases hf : n = 0
            ·have VF := Aside0.mk hf; have hfa : (n == 0) = true := beq_iff_eq.2 hf; clear hf
             go_wp2_with fail
             go_ret
             exact ⟨by rw [GD.out, U.out, A8.out, DB.out, ← HN8.out]; simp [last, N12.out, N13.out, N14.out, N16.out, z4.out, y4.out, y2.out, y3.out, VB.out, VB2.out, VD.out, VE.out, VF.out], hB ▸ HB.out⟩
            ·have VF := Aside0.mk hf; have hfa : (n == 0) = false := beq_eq_false_iff_ne.2 hf; clear hf
             cases nb with
             | false =>
              go_wp2_with fail
              go_ret
              exact ⟨by rw [GD.out, U.out, A8.out, DB.out, ← HN8.out]; simp [last, N12.out, N13.out, N14.out, N16.out, z4.out, y4.out, y2.out, y3.out, VB.out, VB2.out, VD.out, VE.out, VF.out, HNB.out.symm], hB ▸ HB.out⟩
             | true =>
              go_wp2_with fail
              go_ret
              exact ⟨by rw [GD.out, U.out, A8.out, DB.out, ← HN8.out]; simp [last, N12.out, N13.out, N14.out, N16.out, z4.out, y4.out, y2.out, y3.out, VB.out, VB2.out, VD.out, VE.out, VF.out, HNB.out.symm], hB ▸ HB.out⟩
           ·have VE := Aside0.mk he
            have he_a : decide ((n16 : Int) > 0) = false := decide_eq_false (by omega)
            have he_b : decide (0 < n16) = false := decide_eq_false (by omega)
            clear he
            cases nb with
            | false =>
             go_wp2_with fail
             go_ret
             exact ⟨by rw [GD.out, U.out, A8.out, DB.out, ← HN8.out]; simp [last, N12.out, N13.out, N14.out, N16.out, z4.out, y4.out, y2.out, y3.out, VB.out, VB2.out, VD.out, VE.out, HNB.out.symm], hB ▸ HB.out⟩
            | true =>
             go_wp2_with fail
             go_ret
             exact ⟨by rw [GD.out, U.out, A8.out, DB.out, ← HN8.out]; simp [last, N12.out, N13.out, N14.out, N16.out, z4.out, y4.out, y2.out, y3.out, VB.out, VB2.out, VD.out, VE.out, HNB.out.symm], hB ▸ HB.out⟩
        have ha2 := Aside0.mk h2
        clear h2
        by_cases h3 : r.a0 = 3
        ·have ha := Aside0.mk h3
         clear h3
         have x4a : (r.a0 == 4) = false := beq_eq_false_iff_ne.2 (by have := ha.out; omega)
         have y4 := Aside0.mk (show decide (r.a0 = 4) = false from decide_eq_false (by have := ha.out; omega))
         have x2a : (r.a0 == 2) = false := beq_eq_false_iff_ne.2 (by have := ha.out; omega)
         have y2 := Aside0.mk (show decide (r.a0 = 2) = false from decide_eq_false (by have := ha.out; omega))
         have x3a : (r.a0 == 3) = true := beq_iff_eq.2 (by have := ha.out; omega)
         have y3 := Aside0.mk (show decide (r.a0 = 3) = true from decide_eq_true (by have := ha.out; omega))
         have x4b : (r.a0 != 4) = true := bne_iff_ne.2 (by have := ha.out; omega)
         have z4 := Aside0.mk (show decide (r.a0 ≠ 4) = true from decide_eq_true (by have := ha.out; omega))
         by_cases hb : s > 0
         ·have ba : decide (s > 0) = true := decide_eq_true hb
          have VB := Aside0.mk (show (0 < (n13 : Int) + (n14 : Int)) = True from eq_true (by have := S3.out; omega)); have VB2 := Aside0.mk (show ((n13 : Int) + (n14 : Int) ≤ 0) = False from eq_false (by have := S3.out; omega))
          clear hb
          go_wp2_with fail
          go_ret
          exact ⟨by rw [GD.out, U.out, A8.out, DB.out, ← HN8.out]; simp [last, N12.out, N13.out, N14.out, N16.out, z4.out, y4.out, y2.out, y3.out, VB.out, VB2.out], hB ▸ HB.out⟩
         ·have ba : decide (s > 0) = false := decide_eq_false hb
          have VB := Aside0.mk (show (0 < (n13 : Int) + (n14 : Int)) = False from eq_false (by have := S3.out; omega)); have VB2 := Aside0.mk (show ((n13 : Int) + (n14 : Int) ≤ 0) = True from eq_true (by have := S3.out; omega))
          clear hb
          by_cases he : 0 < n16
          ·have VE := Aside0.mk he
           have he_a : decide ((n16 : Int) > 0) = true := decide_eq_true (by omega)
           have he_b : decide (0 < n16) = true := decide_eq_true (by omega)
           clear he
           by_cases hf : n = 0
           ·have VF := Aside0.mk hf; have hfa : (n == 0) = true := beq_iff_eq.2 hf; clear hf
            go_wp2_with fail
            go_ret
            exact ⟨by rw [GD.out, U.out, A8.out, DB.out, ← HN8.out]; simp [last, N12.out, N13.out, N14.out, N16.out, z4.out, y4.out, y2.out, y3.out, VB.out, VB2.out, VE.out, VF.out], hB ▸ HB.out⟩
           ·have VF := Aside0.mk hf; have hfa : (n == 0) = false := beq_eq_false_iff_ne.2 hf; clear hf
            cases nb with
            | false =>
             go_wp2_with fail
             go_ret
             exact ⟨by rw [GD.out, U.out, A8.out, DB.out, ← HN8.out]; simp [last, N12.out, N13.out, N14.out, N16.out, z4.out, y4.out, y2.out, y3.out, VB.out, VB2.out, VE.out, VF.out, HNB.out.symm], hB ▸ HB.out⟩
            | true =>
             go_wp2_with fail
             go_ret
             exact ⟨by rw [GD.out, U.out, A8.out, DB.out, ← HN8.out]; simp [last, N12.out, N13.out, N14.out, N16.out, z4.out, y4.out, y2.out, y3.out, VB.out, VB2.out, VE.out, VF.out, HNB.out.symm], hB ▸ HB.out⟩
          ·have VE := Aside0.mk he
           have he_a : decide ((n16 : Int) > 0) = false := decide_eq_false (by omega)
           have he_b : decide (0 < n16) = false := decide_eq_false (by omega)
           clear he
           cases nb with
           | false =>
            go_wp2_with fail
            go_ret
            exact ⟨by rw [GD.out, U.out, A8.out, DB.out, ← HN8.out]; simp [last, N12.out, N13.out, N14.out, N16.out, z4.out, y4.out, y2.out, y3.out, VB.out, VB2.out, VE.out, HNB.out.symm], hB ▸ HB.out⟩
           | true =>
            go_wp2_with fail
            go_ret
            exact ⟨by rw [GD.out, U.out, A8.out, DB.out, ← HN8.out]; simp [last, N12.out, N13.out, N14.out, N16.out, z4.out, y4.out, y2.out, y3.out, VB.out, VB2.out, VE.out, HNB.out.symm], hB ▸ HB.out⟩
        have ha3 := Aside0.mk h3
        clear h3
        have x4a : (r.a0 == 4) = false := beq_eq_false_iff_ne.2 (by have := ha4.out; omega)
        have y4 := Aside0.mk (show decide (r.a0 = 4) = false from decide_eq_false (by have := ha4.out; omega))
        have x2a : (r.a0 == 2) = false := beq_eq_false_iff_ne.2 (by have := ha2.out; omega)
        have y2 := Aside0.mk (show decide (r.a0 = 2) = false from decide_eq_false (by have := ha2.out; omega))
        have x3a : (r.a0 == 3) = false := beq_eq_false_iff_ne.2 (by have := ha3.out; omega)
        have y3 := Aside0.mk (show decide (r.a0 = 3) = false from decide_eq_false (by have := ha3.out; omega))
        have x4b : (r.a0 != 4) = true := bne_iff_ne.2 (by have := ha4.out; omega)
        have z4 := Aside0.mk (show decide (r.a0 ≠ 4) = true from decide_eq_true (by have := ha4.out; omega))
        by_cases hb : s > 0
        ·have ba : decide (s > 0) = true := decide_eq_true hb
         have VB := Aside0.mk (show (0 < (n13 : Int) + (n14 : Int)) = True from eq_true (by have := S3.out; omega)); have VB2 := Aside0.mk (show ((n13 : Int) + (n14 : Int) ≤ 0) = False from eq_false (by have := S3.out; omega))
         clear hb
         go_wp2_with fail
         go_ret
         exact ⟨by rw [GD.out, U.out, A8.out, DB.out, ← HN8.out]; simp [last, N12.out, N13.out, N14.out, N16.out, z4.out, y4.out, y2.out, y3.out, VB.out, VB2.out], hB ▸ HB.out⟩
        ·have ba : decide (s > 0) = false := decide_eq_false hb
         have VB := Aside0.mk (show (0 < (n13 : Int) + (n14 : Int)) = False from eq_false (by have := S3.out; omega)); have VB2 := Aside0.mk (show ((n13 : Int) + (n14 : Int) ≤ 0) = True from eq_true (by have := S3.out; omega))
         clear hb
         by_cases he : 0 < n16
         ·have VE := Aside0.mk he
          have he_a : decide ((n16 : Int) > 0) = true := decide_eq_true (by omega)
          have he_b : decide (0 < n16) = true := decide_eq_true (by omega)
          clear he
          by_cases hf : n = 0
          ·have VF := Aside0.mk hf; have hfa : (n == 0) = true := beq_iff_eq.2 hf; clear hf
           go_wp2_with fail
           go_ret
           exact ⟨by rw [GD.out, U.out, A8.out, DB.out, ← HN8.out]; simp [last, N12.out, N13.out, N14.out, N16.out, z4.out, y4.out, y2.out, y3.out, VB.out, VB2.out, VE.out, VF.out], hB ▸ HB.out⟩
          ·have VF := Aside0.mk hf; have hfa : (n == 0) = false := beq_eq_false_iff_ne.2 hf; clear hf
           cases nb with
           | false =>
            go_wp2_with fail
            go_ret
            exact ⟨by rw [GD.out, U.out, A8.out, DB.out, ← HN8.out]; simp [last, N12.out, N13.out, N14.out, N16.out, z4.out, y4.out, y2.out, y3.out, VB.out, VB2.out, VE.out, VF.out, HNB.out.symm], hB ▸ HB.out⟩
           | true =>
            go_wp2_with fail
            go_ret
            exact ⟨by rw [GD.out, U.out, A8.out, DB.out, ← HN8.out]; simp [last, N12.out, N13.out, N14.out, N16.out, z4.out, y4.out, y2.out, y3.out, VB.out, VB2.out, VE.out, VF.out, HNB.out.symm], hB ▸ HB.out⟩
         ·have VE := Aside0.mk he
          have he_a : decide ((n16 : Int) > 0) = false := decide_eq_false (by omega)
          have he_b : decide (0 < n16) = false := decide_eq_false (by omega)
          clear he
          cases nb with
          | false =>
           go_wp2_with fail
           go_ret
           exact ⟨by rw [GD.out, U.out, A8.out, DB.out, ← HN8.out]; simp [last, N12.out, N13.out, N14.out, N16.out, z4.out, y4.out, y2.out, y3.out, VB.out, VB2.out, VE.out, HNB.out.symm], hB ▸ HB.out⟩
          | true =>
           go_wp2_with fail
           go_ret
           exact ⟨by rw [GD.out, U.out, A8.out, DB.out, ← HN8.out]; simp [last, N12.out, N13.out, N14.out, N16.out, z4.out, y4.out, y2.out, y3.out, VB.out, VB2.out, VE.out, HNB.out.symm], hB ▸ HB.out⟩
      | succ k2 =>
       clear b0 b1 b2 b3 b4 b5 b6 b7 b8 b9 b10 b11 b12 b13 b14 b15 b16
       have ly : decide (y < (r.l11.length : Int)) = true := decide_eq_true (by have := HY.out; have := HJ.out; omega)
       have py : (0 ≤ y) = True := eq_true (by have := HY.out; omega)
       have qy : (y < (r.l11.length : Int)) = True := eq_true (by have := HY.out; have := HJ.out; omega)
       obtain ⟨ad, eA, h0, h1⟩ := at_T101 HO.out.h11 y (by have := HY.out; omega) (by have := HY.out; have := HJ.out; omega)
       have EA := Aside0.mk eA
       have Y0c := Aside0.mk h0
       have Y1c := Aside0.mk h1
       clear eA h0 h1
       go_wp2_with fail
       replace HK := Aside0.mk (blk_drew HK.out)
       replace HB := Aside0.mk (below_drew1 HB.out)
       generalize hwd : wr.drew = wd0 at HK HB
       have MD := Aside0.mk (mayDay_ (rd_T101 r.l11 y).f0 (rd_T101 r.l11 y).f1)
       cases m : mayDayP (rd_T101 r.l11 y).f0 (rd_T101 r.l11 y).f1 with
       | false => as_aux_lemma =>
         rw [m] at MD
         have BAD := Aside0.mk (daysB_not (l := r.l11) (j := j) (by have := HJ.out; omega) (fun q => by have h := q.1; rw [← HY.out] at h; exact absurd h (by rw [show mayDayP (wd r.l11 y).f0 (wd r.l11 y).f1 = false from m]; simp)))
         clear m
         subst hwd
         refine start_ (n := 26) (S := fun w' => w'.cell? ⟨B, 11, none⟩ = some (.slice (some ad) r.l11.length p.c11) ∧ w'.cell? (ad.add (y.toNat * 2)) = some (.int .i64 ((rd_T101 r.l11 y).f0)) ∧ w'.cell? ⟨(ad.add (y.toNat * 2)).block, (ad.add (y.toNat * 2)).off + 1, none⟩ = some (.int .i64 ((rd_T101 r.l11 y).f1))) (ds := []) (tt 26 0) (by kernel_rfl) rfl rfl ⟨((blk_cell HK.out 11).trans (by show some (Value.slice p.A11 _ _) = _; rw [EA.out])), pw_cell_below HB.out Y0c.out, pw_cell_below HB.out Y1c.out⟩ (fun hHeld => ?_)
         refine with_tabW tab25 bits25 (fun HT_ HW_ => ?_)
         generalize wr.drew = wd1 at HK HB hHeld ⊢
         refine pu 0 (some 148) (tt 26 1) HT_ ?_
         refine take_ (i := 1) (N := some 149) (v := ?_) (a' := ?_) (tt 26 2) rfl rfl (take_ofW HT_.out HW_.out (by kernel_rfl)) (fun _ _ _ h => h) (Or.inl ⟨by rfl, ?_⟩) hHeld ?_ ?_
         rotate_left
         ·rintro w' ⟨s0, s1, s2⟩
          go_simp
          with_reducible rfl
         rotate_left
         ·simp only [Act.put, sA, sB, sC, i64_w, i32_w]
          rfl
         refine pu 2 (some 150) (tt 26 3) HT_ ?_
         refine pu 3 (some 151) (tt 26 4) HT_ ?_
         refine take_ (i := 4) (N := some 152) (v := ?_) (a' := ?_) (tt 26 5) rfl rfl (take_ofW HT_.out HW_.out (by kernel_rfl)) (fun _ _ _ h => h) (Or.inl ⟨by rfl, ?_⟩) hHeld ?_ ?_
         rotate_left
         ·rintro w' ⟨s0, s1, s2⟩
          go_simp
          with_reducible rfl
         rotate_left
         ·simp only [Act.put, sA, sB, sC, i64_w, i32_w]
          rfl
         refine one_ (i := 5) (N := some 153) (tt 26 6) rfl rfl (one_of HT_.out (by kernel_rfl)) (by decide) (fun K hK => ?_)
         refine goes_ Tryd.func68 (by kernel_rfl) rfl #[.agg #[.int .i64 ((rd_T101 r.l11 y).f0), .int .i64 ((rd_T101 r.l11 y).f1)]] (by rfl) rfl rfl (by (try simp only [List.map_toArray, List.map_cons, List.map_nil]); first | done | rfl) ?_
         refine (trystref12_mayDay.calls ((rd_T101 r.l11 y).f0) ((rd_T101 r.l11 y).f1) _ _ MD.out).mono ?_
         rintro e wq1 ⟨rfl, hb⟩
         refine ⟨_, rfl, ?_⟩
         replace HK := Aside0.mk (blk_below HK.out hb)
         replace HB := Aside0.mk (below_then HB.out HB.out.size hb)
         refine hK.out _ _ ⟨pw_cell_below hb hHeld.1, pw_cell_below hb hHeld.2.1, pw_cell_below hb hHeld.2.2⟩ (fun hHeld => ?_)
         clear hK K
         refine norm_ (a' := ?_) ?_ ?_
         rotate_left
         ·show Act.put _ (some 153) _ = _
          simp only [Act.put, sA, sB, sC, i64_w, i32_w]
          rfl
         refine pu 6 (some 154) (tt 26 7) HT_ ?_
         refine pu 7 (some 155) (tt 26 8) HT_ ?_
         refine puO 8 (some 156) (tt 26 9) HT_ ?_
         refine puO 9 (some 157) (tt 26 10) HT_ ?_
         refine puO 10 (some 158) (tt 26 11) HT_ ?_
         refine puO 11 (some 159) (tt 26 12) HT_ ?_
         refine puO 12 (some 160) (tt 26 13) HT_ ?_
         refine puO 13 (some 161) (tt 26 14) HT_ ?_
         refine puO 14 (some 162) (tt 26 15) HT_ ?_
         refine puO 15 (some 163) (tt 26 16) HT_ ?_
         refine puO 16 (some 164) (tt 26 17) HT_ ?_
         refine puO 17 (some 165) (tt 26 18) HT_ ?_
         refine puO 18 (some 166) (tt 26 19) HT_ ?_
         refine puO 19 (some 167) (tt 26 20) HT_ ?_
         refine puO 20 (some 168) (tt 26 21) HT_ ?_
         refine puO 21 (some 169) (tt 26 22) HT_ ?_
         refine puO 22 (some 170) (tt 26 23) HT_ ?_
         refine puO 23 (some 171) (tt 26 24) HT_ ?_
         refine puO 24 (some 172) (tt 26 25) HT_ ?_
         refine pu 25 (some 173) (tt 26 26) HT_ ?_
         refine done_ (done_of HT_.out (by kernel_rfl)) ?_
         clear HT_ HW_
         go_wp2_with fail
         go_ret
         exact ⟨by rw [GD.out, U.out, A8.out, BAD.out] <;> rfl, hB ▸ HB.out⟩
       | true =>
        rw [m] at MD
        have HM := Aside0.mk (show mayDayP (wd r.l11 (j : Int)).f0 (wd r.l11 (j : Int)).f1 = true by rw [← HY.out]; exact m)
        clear m
        by_cases y0 : y > 0
        ·have c0 : decide (y > 0) = true := decide_eq_true y0
         obtain ⟨z, hz⟩ : ∃ z, z = wrap64 (y - 1) := ⟨_, rfl⟩
         have e3 : z = ((j - 1 : Nat) : Int) := by have := HY.out; have := G8n.out; have := HJ.out; rw [hz]; unfold wrap64; omega
         have l3 : wrap64 (y - 1) = z := hz.symm
         have l3w : IntKind.i64.wrap (y - 1) = z := (i64_w _).trans hz.symm
         have pz : (0 ≤ z) = True := eq_true (by omega)
         have qz : (z < (r.l11.length : Int)) = True := eq_true (by have := HJ.out; omega)
         obtain ⟨ad2, eA2, h0, h1⟩ := at_T101 HO.out.h11 z (by omega) (by have := HJ.out; omega)
         obtain rfl : ad = ad2 := Option.some.inj (EA.out.symm.trans eA2)
         have Z0c := Aside0.mk h0
         have Z1c := Aside0.mk h1
         have HZ := Aside0.mk e3
         have Y0 := Aside0.mk y0
         clear y0 h0 h1 eA2 e3 hz
         have MB := Aside0.mk (before_ (rd_T101 r.l11 z).f0 (rd_T101 r.l11 z).f1 (rd_T101 r.l11 y).f0 (rd_T101 r.l11 y).f1)
         cases m2 : beforeP (rd_T101 r.l11 z).f0 (rd_T101 r.l11 z).f1 (rd_T101 r.l11 y).f0 (rd_T101 r.l11 y).f1 with
         | false => as_aux_lemma =>
           rw [m2] at MB
           have BAD := Aside0.mk (daysB_not (l := r.l11) (j := j) (by have := HJ.out; omega) (fun q => by have h := q.2 (by have := HY.out; have := Y0.out; omega); rw [← HZ.out, ← HY.out] at h; exact absurd h (by rw [show beforeP (wd r.l11 z).f0 (wd r.l11 z).f1 (wd r.l11 y).f0 (wd r.l11 y).f1 = false from m2]; simp)))
           clear m2
           subst hwd
           refine start_ (n := 26) (S := fun w' => w'.cell? ⟨B, 11, none⟩ = some (.slice (some ad) r.l11.length p.c11) ∧ w'.cell? (ad.add (y.toNat * 2)) = some (.int .i64 ((rd_T101 r.l11 y).f0)) ∧ w'.cell? ⟨(ad.add (y.toNat * 2)).block, (ad.add (y.toNat * 2)).off + 1, none⟩ = some (.int .i64 ((rd_T101 r.l11 y).f1)) ∧ w'.cell? (ad.add (z.toNat * 2)) = some (.int .i64 ((rd_T101 r.l11 z).f0)) ∧ w'.cell? ⟨(ad.add (z.toNat * 2)).block, (ad.add (z.toNat * 2)).off + 1, none⟩ = some (.int .i64 ((rd_T101 r.l11 z).f1))) (ds := []) (tt 26 0) (by kernel_rfl) rfl rfl ⟨((blk_cell HK.out 11).trans (by show some (Value.slice p.A11 _ _) = _; rw [EA.out])), pw_cell_below HB.out Y0c.out, pw_cell_below HB.out Y1c.out, pw_cell_below HB.out Z0c.out, pw_cell_below HB.out Z1c.out⟩ (fun hHeld => ?_)
           refine with_tabW tab25 bits25 (fun HT_ HW_ => ?_)
           generalize wr.drew = wd1 at HK HB hHeld ⊢
           refine pu 0 (some 148) (tt 26 1) HT_ ?_
           refine take_ (i := 1) (N := some 149) (v := ?_) (a' := ?_) (tt 26 2) rfl rfl (take_ofW HT_.out HW_.out (by kernel_rfl)) (fun _ _ _ h => h) (Or.inl ⟨by rfl, ?_⟩) hHeld ?_ ?_
           rotate_left
           ·rintro w' ⟨s0, s1, s2, s3, s4⟩
            go_simp
            with_reducible rfl
           rotate_left
           ·simp only [Act.put, sA, sB, sC, i64_w, i32_w]
            rfl
           refine pu 2 (some 150) (tt 26 3) HT_ ?_
           refine pu 3 (some 151) (tt 26 4) HT_ ?_
           refine take_ (i := 4) (N := some 152) (v := ?_) (a' := ?_) (tt 26 5) rfl rfl (take_ofW HT_.out HW_.out (by kernel_rfl)) (fun _ _ _ h => h) (Or.inl ⟨by rfl, ?_⟩) hHeld ?_ ?_
           rotate_left
           ·rintro w' ⟨s0, s1, s2, s3, s4⟩
            go_simp
            with_reducible rfl
           rotate_left
           ·simp only [Act.put, sA, sB, sC, i64_w, i32_w]
            rfl
           refine one_ (i := 5) (N := some 153) (tt 26 6) rfl rfl (one_of HT_.out (by kernel_rfl)) (by decide) (fun K hK => ?_)
           refine goes_ Tryd.func68 (by kernel_rfl) rfl #[.agg #[.int .i64 ((rd_T101 r.l11 y).f0), .int .i64 ((rd_T101 r.l11 y).f1)]] (by rfl) rfl rfl (by (try simp only [List.map_toArray, List.map_cons, List.map_nil]); first | done | rfl) ?_
           refine (trystref12_mayDay.calls ((rd_T101 r.l11 y).f0) ((rd_T101 r.l11 y).f1) _ _ MD.out).mono ?_
           rintro e wq1 ⟨rfl, hb⟩
           refine ⟨_, rfl, ?_⟩
           replace HK := Aside0.mk (blk_below HK.out hb)
           replace HB := Aside0.mk (below_then HB.out HB.out.size hb)
           refine hK.out _ _ ⟨pw_cell_below hb hHeld.1, pw_cell_below hb hHeld.2.1, pw_cell_below hb hHeld.2.2.1, pw_cell_below hb hHeld.2.2.2.1, pw_cell_below hb hHeld.2.2.2.2⟩ (fun hHeld => ?_)
           clear hK K
           refine norm_ (a' := ?_) ?_ ?_
           rotate_left
           ·show Act.put _ (some 153) _ = _
            simp only [Act.put, sA, sB, sC, i64_w, i32_w]
            rfl
           refine pu 6 (some 154) (tt 26 7) HT_ ?_
           refine pu 7 (some 155) (tt 26 8) HT_ ?_
           refine pu 8 (some 156) (tt 26 9) HT_ ?_
           refine pu 9 (some 157) (tt 26 10) HT_ ?_
           refine pu 10 (some 158) (tt 26 11) HT_ ?_
           refine pu 11 (some 159) (tt 26 12) HT_ ?_
           refine take_ (i := 12) (N := some 160) (v := ?_) (a' := ?_) (tt 26 13) rfl rfl (take_ofW HT_.out HW_.out (by kernel_rfl)) (fun _ _ _ h => h) (Or.inl ⟨by rfl, ?_⟩) hHeld ?_ ?_
           rotate_left
           ·rintro w' ⟨s0, s1, s2, s3, s4⟩
            go_simp
            with_reducible rfl
           rotate_left
           ·simp only [Act.put, sA, sB, sC, i64_w, i32_w]
            rfl
           refine pu 13 (some 161) (tt 26 14) HT_ ?_
           refine pu 14 (some 162) (tt 26 15) HT_ ?_
           refine pu 15 (some 163) (tt 26 16) HT_ ?_
           refine take_ (i := 16) (N := some 164) (v := ?_) (a' := ?_) (tt 26 17) rfl rfl (take_ofW HT_.out HW_.out (by kernel_rfl)) (fun _ _ _ h => h) (Or.inl ⟨by rfl, ?_⟩) hHeld ?_ ?_
           rotate_left
           ·rintro w' ⟨s0, s1, s2, s3, s4⟩
            go_simp
            with_reducible rfl
           rotate_left
           ·simp only [Act.put, sA, sB, sC, i64_w, i32_w]
            rfl
           refine pu 17 (some 165) (tt 26 18) HT_ ?_
           refine take_ (i := 18) (N := some 166) (v := ?_) (a' := ?_) (tt 26 19) rfl rfl (take_ofW HT_.out HW_.out (by kernel_rfl)) (fun _ _ _ h => h) (Or.inl ⟨by rfl, ?_⟩) hHeld ?_ ?_
           rotate_left
           ·rintro w' ⟨s0, s1, s2, s3, s4⟩
            go_simp
            with_reducible rfl
           rotate_left
           ·simp only [Act.put, sA, sB, sC, i64_w, i32_w]
            rfl
           refine pu 19 (some 167) (tt 26 20) HT_ ?_
           refine pu 20 (some 168) (tt 26 21) HT_ ?_
           refine take_ (i := 21) (N := some 169) (v := ?_) (a' := ?_) (tt 26 22) rfl rfl (take_ofW HT_.out HW_.out (by kernel_rfl)) (fun _ _ _ h => h) (Or.inl ⟨by rfl, ?_⟩) hHeld ?_ ?_
           rotate_left
           ·rintro w' ⟨s0, s1, s2, s3, s4⟩
            go_simp
            with_reducible rfl
           rotate_left
           ·simp only [Act.put, sA, sB, sC, i64_w, i32_w]
            rfl
           refine one_ (i := 22) (N := some 170) (tt 26 23) rfl rfl (one_of HT_.out (by kernel_rfl)) (by decide) (fun K hK => ?_)
           refine goes_ Tryd.func69 (by kernel_rfl) rfl #[.agg #[.int .i64 ((rd_T101 r.l11 z).f0), .int .i64 ((rd_T101 r.l11 z).f1)], .agg #[.int .i64 ((rd_T101 r.l11 y).f0), .int .i64 ((rd_T101 r.l11 y).f1)]] (by rfl) rfl rfl (by (try simp only [List.map_toArray, List.map_cons, List.map_nil]); first | done | rfl) ?_
           refine (trystref12_before.calls ((rd_T101 r.l11 z).f0) ((rd_T101 r.l11 z).f1) ((rd_T101 r.l11 y).f0) ((rd_T101 r.l11 y).f1) _ _ MB.out).mono ?_
           rintro e wq2 ⟨rfl, hb⟩
           refine ⟨_, rfl, ?_⟩
           replace HK := Aside0.mk (blk_below HK.out hb)
           replace HB := Aside0.mk (below_then HB.out HB.out.size hb)
           refine hK.out _ _ ⟨pw_cell_below hb hHeld.1, pw_cell_below hb hHeld.2.1, pw_cell_below hb hHeld.2.2.1, pw_cell_below hb hHeld.2.2.2.1, pw_cell_below hb hHeld.2.2.2.2⟩ (fun hHeld => ?_)
           clear hK K
           refine norm_ (a' := ?_) ?_ ?_
           rotate_left
           ·show Act.put _ (some 170) _ = _
            simp only [Act.put, sA, sB, sC, i64_w, i32_w]
            rfl
           refine pu 23 (some 171) (tt 26 24) HT_ ?_
           refine pu 24 (some 172) (tt 26 25) HT_ ?_
           refine pu 25 (some 173) (tt 26 26) HT_ ?_
           refine done_ (done_of HT_.out (by kernel_rfl)) ?_
           clear HT_ HW_
           go_wp2_with fail
           go_ret
           exact ⟨by rw [GD.out, U.out, A8.out, BAD.out] <;> rfl, hB ▸ HB.out⟩
         | true => as_aux_lemma =>
           rw [m2] at MB
           have OK1 := Aside0.mk (show dayAt r.l11 j from ⟨HM.out, fun _ => by rw [← HZ.out, ← HY.out]; exact m2⟩)
           clear m2
           subst hwd
           refine start_ (n := 26) (S := fun w' => w'.cell? ⟨B, 11, none⟩ = some (.slice (some ad) r.l11.length p.c11) ∧ w'.cell? (ad.add (y.toNat * 2)) = some (.int .i64 ((rd_T101 r.l11 y).f0)) ∧ w'.cell? ⟨(ad.add (y.toNat * 2)).block, (ad.add (y.toNat * 2)).off + 1, none⟩ = some (.int .i64 ((rd_T101 r.l11 y).f1)) ∧ w'.cell? (ad.add (z.toNat * 2)) = some (.int .i64 ((rd_T101 r.l11 z).f0)) ∧ w'.cell? ⟨(ad.add (z.toNat * 2)).block, (ad.add (z.toNat * 2)).off + 1, none⟩ = some (.int .i64 ((rd_T101 r.l11 z).f1))) (ds := []) (tt 26 0) (by kernel_rfl) rfl rfl ⟨((blk_cell HK.out 11).trans (by show some (Value.slice p.A11 _ _) = _; rw [EA.out])), pw_cell_below HB.out Y0c.out, pw_cell_below HB.out Y1c.out, pw_cell_below HB.out Z0c.out, pw_cell_below HB.out Z1c.out⟩ (fun hHeld => ?_)
           refine with_tabW tab25 bits25 (fun HT_ HW_ => ?_)
           generalize wr.drew = wd1 at HK HB hHeld ⊢
           refine pu 0 (some 148) (tt 26 1) HT_ ?_
           refine take_ (i := 1) (N := some 149) (v := ?_) (a' := ?_) (tt 26 2) rfl rfl (take_ofW HT_.out HW_.out (by kernel_rfl)) (fun _ _ _ h => h) (Or.inl ⟨by rfl, ?_⟩) hHeld ?_ ?_
           rotate_left
           ·rintro w' ⟨s0, s1, s2, s3, s4⟩
            go_simp
            with_reducible rfl
           rotate_left
           ·simp only [Act.put, sA, sB, sC, i64_w, i32_w]
            rfl
           refine pu 2 (some 150) (tt 26 3) HT_ ?_
           refine pu 3 (some 151) (tt 26 4) HT_ ?_
           refine take_ (i := 4) (N := some 152) (v := ?_) (a' := ?_) (tt 26 5) rfl rfl (take_ofW HT_.out HW_.out (by kernel_rfl)) (fun _ _ _ h => h) (Or.inl ⟨by rfl, ?_⟩) hHeld ?_ ?_
           rotate_left
           ·rintro w' ⟨s0, s1, s2, s3, s4⟩
            go_simp
            with_reducible rfl
           rotate_left
           ·simp only [Act.put, sA, sB, sC, i64_w, i32_w]
            rfl
           refine one_ (i := 5) (N := some 153) (tt 26 6) rfl rfl (one_of HT_.out (by kernel_rfl)) (by decide) (fun K hK => ?_)
           refine goes_ Tryd.func68 (by kernel_rfl) rfl #[.agg #[.int .i64 ((rd_T101 r.l11 y).f0), .int .i64 ((rd_T101 r.l11 y).f1)]] (by rfl) rfl rfl (by (try simp only [List.map_toArray, List.map_cons, List.map_nil]); first | done | rfl) ?_
           refine (trystref12_mayDay.calls ((rd_T101 r.l11 y).f0) ((rd_T101 r.l11 y).f1) _ _ MD.out).mono ?_
           rintro e wq1 ⟨rfl, hb⟩
           refine ⟨_, rfl, ?_⟩
           replace HK := Aside0.mk (blk_below HK.out hb)
           replace HB := Aside0.mk (below_then HB.out HB.out.size hb)
           refine hK.out _ _ ⟨pw_cell_below hb hHeld.1, pw_cell_below hb hHeld.2.1, pw_cell_below hb hHeld.2.2.1, pw_cell_below hb hHeld.2.2.2.1, pw_cell_below hb hHeld.2.2.2.2⟩ (fun hHeld => ?_)
           clear hK K
           refine norm_ (a' := ?_) ?_ ?_
           rotate_left
           ·show Act.put _ (some 153) _ = _
            simp only [Act.put, sA, sB, sC, i64_w, i32_w]
            rfl
           refine pu 6 (some 154) (tt 26 7) HT_ ?_
           refine pu 7 (some 155) (tt 26 8) HT_ ?_
           refine pu 8 (some 156) (tt 26 9) HT_ ?_
           refine pu 9 (some 157) (tt 26 10) HT_ ?_
           refine pu 10 (some 158) (tt 26 11) HT_ ?_
           refine pu 11 (some 159) (tt 26 12) HT_ ?_
           refine take_ (i := 12) (N := some 160) (v := ?_) (a' := ?_) (tt 26 13) rfl rfl (take_ofW HT_.out HW_.out (by kernel_rfl)) (fun _ _ _ h => h) (Or.inl ⟨by rfl, ?_⟩) hHeld ?_ ?_
           rotate_left
           ·rintro w' ⟨s0, s1, s2, s3, s4⟩
            go_simp
            with_reducible rfl
           rotate_left
           ·simp only [Act.put, sA, sB, sC, i64_w, i32_w]
            rfl
           refine pu 13 (some 161) (tt 26 14) HT_ ?_
           refine pu 14 (some 162) (tt 26 15) HT_ ?_
           refine pu 15 (some 163) (tt 26 16) HT_ ?_
           refine take_ (i := 16) (N := some 164) (v := ?_) (a' := ?_) (tt 26 17) rfl rfl (take_ofW HT_.out HW_.out (by kernel_rfl)) (fun _ _ _ h => h) (Or.inl ⟨by rfl, ?_⟩) hHeld ?_ ?_
           rotate_left
           ·rintro w' ⟨s0, s1, s2, s3, s4⟩
            go_simp
            with_reducible rfl
           rotate_left
           ·simp only [Act.put, sA, sB, sC, i64_w, i32_w]
            rfl
           refine pu 17 (some 165) (tt 26 18) HT_ ?_
           refine take_ (i := 18) (N := some 166) (v := ?_) (a' := ?_) (tt 26 19) rfl rfl (take_ofW HT_.out HW_.out (by kernel_rfl)) (fun _ _ _ h => h) (Or.inl ⟨by rfl, ?_⟩) hHeld ?_ ?_
           rotate_left
           ·rintro w' ⟨s0, s1, s2, s3, s4⟩
            go_simp
            with_reducible rfl
           rotate_left
           ·simp only [Act.put, sA, sB, sC, i64_w, i32_w]
            rfl
           refine pu 19 (some 167) (tt 26 20) HT_ ?_
           refine pu 20 (some 168) (tt 26 21) HT_ ?_
           refine take_ (i := 21) (N := some 169) (v := ?_) (a' := ?_) (tt 26 22) rfl rfl (take_ofW HT_.out HW_.out (by kernel_rfl)) (fun _ _ _ h => h) (Or.inl ⟨by rfl, ?_⟩) hHeld ?_ ?_
           rotate_left
           ·rintro w' ⟨s0, s1, s2, s3, s4⟩
            go_simp
            with_reducible rfl
           rotate_left
           ·simp only [Act.put, sA, sB, sC, i64_w, i32_w]
            rfl
           refine one_ (i := 22) (N := some 170) (tt 26 23) rfl rfl (one_of HT_.out (by kernel_rfl)) (by decide) (fun K hK => ?_)
           refine goes_ Tryd.func69 (by kernel_rfl) rfl #[.agg #[.int .i64 ((rd_T101 r.l11 z).f0), .int .i64 ((rd_T101 r.l11 z).f1)], .agg #[.int .i64 ((rd_T101 r.l11 y).f0), .int .i64 ((rd_T101 r.l11 y).f1)]] (by rfl) rfl rfl (by (try simp only [List.map_toArray, List.map_cons, List.map_nil]); first | done | rfl) ?_
           refine (trystref12_before.calls ((rd_T101 r.l11 z).f0) ((rd_T101 r.l11 z).f1) ((rd_T101 r.l11 y).f0) ((rd_T101 r.l11 y).f1) _ _ MB.out).mono ?_
           rintro e wq2 ⟨rfl, hb⟩
           refine ⟨_, rfl, ?_⟩
           replace HK := Aside0.mk (blk_below HK.out hb)
           replace HB := Aside0.mk (below_then HB.out HB.out.size hb)
           refine hK.out _ _ ⟨pw_cell_below hb hHeld.1, pw_cell_below hb hHeld.2.1, pw_cell_below hb hHeld.2.2.1, pw_cell_below hb hHeld.2.2.2.1, pw_cell_below hb hHeld.2.2.2.2⟩ (fun hHeld => ?_)
           clear hK K
           refine norm_ (a' := ?_) ?_ ?_
           rotate_left
           ·show Act.put _ (some 170) _ = _
            simp only [Act.put, sA, sB, sC, i64_w, i32_w]
            rfl
           refine pu 23 (some 171) (tt 26 24) HT_ ?_
           refine pu 24 (some 172) (tt 26 25) HT_ ?_
           refine pu 25 (some 173) (tt 26 26) HT_ ?_
           refine done_ (done_of HT_.out (by kernel_rfl)) ?_
           clear HT_ HW_
           cases nb with
           | true =>
            go_wp2_with fail
            go_roundg k2
            case measure => omega
            case rel => exact ⟨j + 1, _, _, rfl, rfl, ⟨by rw [nthU_succ, ← HNB.out, ← HY.out] <;> rfl⟩, ⟨by have := HY.out; have := G8n.out; have := HJ.out; unfold wrap64; omega⟩, ⟨by have := HJ.out; omega⟩, ⟨fun j' hj' => by by_cases e : j' = j; subst e; exact OK1.out; exact HU.out j' (by omega)⟩, HK, HB⟩
           | false =>
            have hq0 := pw_cell_below HB.out Y0c.out
            have hq9 : _ = some (Value.slice (some ad) r.l11.length p.c11) := ((blk_cell HK.out 11).trans (by show some (Value.slice p.A11 _ _) = _; rw [EA.out]))
            by_cases nz_ : (rd_T101 r.l11 y).f0 = 0
            ·have nza : ((rd_T101 r.l11 y).f0 != 0) = false := bne_eq_false_iff_eq.2 nz_
             have NZ := Aside0.mk nza
             clear nz_
             go_wp2_with fail
             go_roundg k2
             case measure => omega
             case rel => exact ⟨j + 1, _, _, rfl, rfl, ⟨by rw [nthU_succ, ← HNB.out, ← HY.out, NZ.out] <;> rfl⟩, ⟨by have := HY.out; have := G8n.out; have := HJ.out; unfold wrap64; omega⟩, ⟨by have := HJ.out; omega⟩, ⟨fun j' hj' => by by_cases e : j' = j; subst e; exact OK1.out; exact HU.out j' (by omega)⟩, HK, HB⟩
            ·have nza : ((rd_T101 r.l11 y).f0 != 0) = true := bne_iff_ne.2 nz_
             have NZ := Aside0.mk nza
             clear nz_
             go_wp2_with fail
             go_roundg k2
             case measure => omega
             case rel => exact ⟨j + 1, _, _, rfl, rfl, ⟨by rw [nthU_succ, ← HNB.out, ← HY.out, NZ.out] <;> rfl⟩, ⟨by have := HY.out; have := G8n.out; have := HJ.out; unfold wrap64; omega⟩, ⟨by have := HJ.out; omega⟩, ⟨fun j' hj' => by by_cases e : j' = j; subst e; exact OK1.out; exact HU.out j' (by omega)⟩, HK, HB⟩
        ·as_aux_lemma =>
          have c0 : decide (y > 0) = false := decide_eq_false y0
          have OK1 := Aside0.mk (show dayAt r.l11 j from ⟨HM.out, fun q => absurd y0 (by have := HY.out; omega)⟩)
          clear y0
          subst hwd
          refine start_ (n := 26) (S := fun w' => w'.cell? ⟨B, 11, none⟩ = some (.slice (some ad) r.l11.length p.c11) ∧ w'.cell? (ad.add (y.toNat * 2)) = some (.int .i64 ((rd_T101 r.l11 y).f0)) ∧ w'.cell? ⟨(ad.add (y.toNat * 2)).block, (ad.add (y.toNat * 2)).off + 1, none⟩ = some (.int .i64 ((rd_T101 r.l11 y).f1))) (ds := []) (tt 26 0) (by kernel_rfl) rfl rfl ⟨((blk_cell HK.out 11).trans (by show some (Value.slice p.A11 _ _) = _; rw [EA.out])), pw_cell_below HB.out Y0c.out, pw_cell_below HB.out Y1c.out⟩ (fun hHeld => ?_)
          refine with_tabW tab25 bits25 (fun HT_ HW_ => ?_)
          generalize wr.drew = wd1 at HK HB hHeld ⊢
          refine pu 0 (some 148) (tt 26 1) HT_ ?_
          refine take_ (i := 1) (N := some 149) (v := ?_) (a' := ?_) (tt 26 2) rfl rfl (take_ofW HT_.out HW_.out (by kernel_rfl)) (fun _ _ _ h => h) (Or.inl ⟨by rfl, ?_⟩) hHeld ?_ ?_
          rotate_left
          ·rintro w' ⟨s0, s1, s2⟩
           go_simp
           with_reducible rfl
          rotate_left
          ·simp only [Act.put, sA, sB, sC, i64_w, i32_w]
           rfl
          refine pu 2 (some 150) (tt 26 3) HT_ ?_
          refine pu 3 (some 151) (tt 26 4) HT_ ?_
          refine take_ (i := 4) (N := some 152) (v := ?_) (a' := ?_) (tt 26 5) rfl rfl (take_ofW HT_.out HW_.out (by kernel_rfl)) (fun _ _ _ h => h) (Or.inl ⟨by rfl, ?_⟩) hHeld ?_ ?_
          rotate_left
          ·rintro w' ⟨s0, s1, s2⟩
           go_simp
           with_reducible rfl
          rotate_left
          ·simp only [Act.put, sA, sB, sC, i64_w, i32_w]
           rfl
          refine one_ (i := 5) (N := some 153) (tt 26 6) rfl rfl (one_of HT_.out (by kernel_rfl)) (by decide) (fun K hK => ?_)
          refine goes_ Tryd.func68 (by kernel_rfl) rfl #[.agg #[.int .i64 ((rd_T101 r.l11 y).f0), .int .i64 ((rd_T101 r.l11 y).f1)]] (by rfl) rfl rfl (by (try simp only [List.map_toArray, List.map_cons, List.map_nil]); first | done | rfl) ?_
          refine (trystref12_mayDay.calls ((rd_T101 r.l11 y).f0) ((rd_T101 r.l11 y).f1) _ _ MD.out).mono ?_
          rintro e wq1 ⟨rfl, hb⟩
          refine ⟨_, rfl, ?_⟩
          replace HK := Aside0.mk (blk_below HK.out hb)
          replace HB := Aside0.mk (below_then HB.out HB.out.size hb)
          refine hK.out _ _ ⟨pw_cell_below hb hHeld.1, pw_cell_below hb hHeld.2.1, pw_cell_below hb hHeld.2.2⟩ (fun hHeld => ?_)
          clear hK K
          refine norm_ (a' := ?_) ?_ ?_
          rotate_left
          ·show Act.put _ (some 153) _ = _
           simp only [Act.put, sA, sB, sC, i64_w, i32_w]
           rfl
          refine pu 6 (some 154) (tt 26 7) HT_ ?_
          refine pu 7 (some 155) (tt 26 8) HT_ ?_
          refine pu 8 (some 156) (tt 26 9) HT_ ?_
          refine pu 9 (some 157) (tt 26 10) HT_ ?_
          refine pu 10 (some 158) (tt 26 11) HT_ ?_
          refine puO 11 (some 159) (tt 26 12) HT_ ?_
          refine puO 12 (some 160) (tt 26 13) HT_ ?_
          refine puO 13 (some 161) (tt 26 14) HT_ ?_
          refine puO 14 (some 162) (tt 26 15) HT_ ?_
          refine puO 15 (some 163) (tt 26 16) HT_ ?_
          refine puO 16 (some 164) (tt 26 17) HT_ ?_
          refine puO 17 (some 165) (tt 26 18) HT_ ?_
          refine puO 18 (some 166) (tt 26 19) HT_ ?_
          refine puO 19 (some 167) (tt 26 20) HT_ ?_
          refine puO 20 (some 168) (tt 26 21) HT_ ?_
          refine puO 21 (some 169) (tt 26 22) HT_ ?_
          refine puO 22 (some 170) (tt 26 23) HT_ ?_
          refine puO 23 (some 171) (tt 26 24) HT_ ?_
          refine pu 24 (some 172) (tt 26 25) HT_ ?_
          refine pu 25 (some 173) (tt 26 26) HT_ ?_
          refine done_ (done_of HT_.out (by kernel_rfl)) ?_
          clear HT_ HW_
          cases nb with
          | true =>
           go_wp2_with fail
           go_roundg k2
           case measure => omega
           case rel => exact ⟨j + 1, _, _, rfl, rfl, ⟨by rw [nthU_succ, ← HNB.out, ← HY.out] <;> rfl⟩, ⟨by have := HY.out; have := G8n.out; have := HJ.out; unfold wrap64; omega⟩, ⟨by have := HJ.out; omega⟩, ⟨fun j' hj' => by by_cases e : j' = j; subst e; exact OK1.out; exact HU.out j' (by omega)⟩, HK, HB⟩
          | false =>
           have hq0 := pw_cell_below HB.out Y0c.out
           have hq9 : _ = some (Value.slice (some ad) r.l11.length p.c11) := ((blk_cell HK.out 11).trans (by show some (Value.slice p.A11 _ _) = _; rw [EA.out]))
           by_cases nz_ : (rd_T101 r.l11 y).f0 = 0
           ·have nza : ((rd_T101 r.l11 y).f0 != 0) = false := bne_eq_false_iff_eq.2 nz_
            have NZ := Aside0.mk nza
            clear nz_
            go_wp2_with fail
            go_roundg k2
            case measure => omega
            case rel => exact ⟨j + 1, _, _, rfl, rfl, ⟨by rw [nthU_succ, ← HNB.out, ← HY.out, NZ.out] <;> rfl⟩, ⟨by have := HY.out; have := G8n.out; have := HJ.out; unfold wrap64; omega⟩, ⟨by have := HJ.out; omega⟩, ⟨fun j' hj' => by by_cases e : j' = j; subst e; exact OK1.out; exact HU.out j' (by omega)⟩, HK, HB⟩
           ·have nza : ((rd_T101 r.l11 y).f0 != 0) = true := bne_iff_ne.2 nz_
            have NZ := Aside0.mk nza
            clear nz_
            go_wp2_with fail
            go_roundg k2
            case measure => omega
            case rel => exact ⟨j + 1, _, _, rfl, rfl, ⟨by rw [nthU_succ, ← HNB.out, ← HY.out, NZ.out] <;> rfl⟩, ⟨by have := HY.out; have := G8n.out; have := HJ.out; unfold wrap64; omega⟩, ⟨by have := HJ.out; omega⟩, ⟨fun j' hj' => by by_cases e : j' = j; subst e; exact OK1.out; exact HU.out j' (by omega)⟩, HK, HB⟩
    | succ k1 =>
     have hi8 : i < 8 := by have := HI.out; omega
     have HI8 := Aside0.mk hi8
     have hc : ∀ w' : World, w'.heap[g]? = some (aobj r p) → w'.cell? ⟨g, x.toNat, none⟩ = some (.slice (LA p i) (LL r i).length (LC p i)) := fun w' h => by have h2 := arr_at h i hi8; have := HX.out; rw [show x.toNat = i by omega]; exact h2
     have HC := Aside0.mk hc
     have c0 := hc wr HA.out
     clear hc hi8
     have p1 : (0 ≤ x) = True := eq_true (by have := HX.out; omega)
     have q1 : (x < 8) = True := eq_true (by have := HX.out; have := HI.out; omega)
     have l1 : decide (x < 8) = true := decide_eq_true (by have := HX.out; have := HI.out; omega)
     by_cases big : (LL r i).length ≤ 40
     ·as_aux_lemma =>
       have e40 : decide (((LL r i).length : Int) > 40) = false := decide_eq_false (by omega)
       have e40b : decide (40 < (LL r i).length) = false := decide_eq_false (by omega)
       have BIG := Aside0.mk big
       clear big
       go_wp2_with fail
       obtain ⟨wo, rfl⟩ : ∃ wo : World, wo = wr := ⟨_, rfl⟩
       go_loopg [100] (LL r i).length (fun kq v w' => ∃ (j : Nat) (y : Int), v = .int .i64 y ∧ Aside0 (y = (j : Int)) ∧ Aside0 (j + kq = (LL r i).length) ∧ Aside0 (RecM.upto (lo i) (hi i) (nz i) (LL r i) j) ∧ Aside0 (w'.heap[g]? = some (aobj r p)) ∧ Aside0 (w'.heap[B]? = some (obj r p)) ∧ Aside0 (Below w.heap.size w w'))
       case atStart => exact ⟨0, 0, rfl, ⟨rfl⟩, ⟨by omega⟩, ⟨fun j hj => by omega⟩, HA, HK, HB⟩
       case round =>
        clear HA HK HB c0
        obtain ⟨j, y, rfl, HY, HJ, HU, HA, HK, HB⟩ := hrel
        have c1 := HC.out wr HA.out
        cases gk with
        | zero =>
         have FL := Aside0.mk (show formL r i = true from RecM.formed_yes BIG.out (by have h := HU.out; have := HJ.out; rw [show j = (LL r i).length by omega] at h; exact h))
         have HL2 := Aside0.mk (show ∀ j, j < i + 1 → formL r j = true from fun j hj => by by_cases e : j = i; subst e; exact FL.out; exact HL.out j (by omega))
         have ly : decide (y < ((LL r i).length : Int)) = false := decide_eq_false (by have := HY.out; have := HJ.out; omega)
         clear HL FL HU
         by_cases s7 : x < 7
         ·have l7 : decide (x < 7) = true := decide_eq_true s7
          have S7 := Aside0.mk s7
          clear s7
          go_wp2_with fail
          go_roundg k1
          case measure => omega
          case rel => exact ⟨i + 1, _, _, rfl, rfl, ⟨by rw [HFS.out i HI8.out, if_pos (by have := S7.out; have := HX.out; omega), ← HN.out.1]; have := HN.out.2; have := BIG.out; have := HI8.out; unfold wrap64; omega, by have := HN.out.2; have := BIG.out; have := HI8.out; unfold wrap64; omega, by have := HN.out.2; have := BIG.out; have := HI8.out; unfold wrap64; push_cast; omega⟩, ⟨by have := HX.out; have := HI8.out; unfold wrap64; omega⟩, ⟨by have := HI.out; omega⟩, HL2, HA, HK, HB⟩
         ·have l7 : decide (x < 7) = false := decide_eq_false s7
          have S7 := Aside0.mk s7
          clear s7
          go_wp2_with fail
          go_roundg k1
          case measure => omega
          case rel => exact ⟨i + 1, _, _, rfl, rfl, ⟨by rw [HFS.out i HI8.out, if_neg (by have := S7.out; have := HX.out; omega), ← HN.out.1]; omega, HN.out.2.1, by have := HN.out.2.2; push_cast; omega⟩, ⟨by have := HX.out; have := HI8.out; unfold wrap64; omega⟩, ⟨by have := HI.out; omega⟩, HL2, HA, HK, HB⟩
        | succ k2 =>
         have ly : decide (y < ((LL r i).length : Int)) = true := decide_eq_true (by have := HY.out; have := HJ.out; omega)
         have py : (0 ≤ y) = True := eq_true (by have := HY.out; omega)
         have qy : (y < ((LL r i).length : Int)) = True := eq_true (by have := HY.out; have := HJ.out; omega)
         obtain ⟨ab, eA, hx⟩ := Kd.at_int (ok_at HO.out i) y (by have := HY.out; omega) (by have := HY.out; have := HJ.out; omega)
         have EA := Aside0.mk eA
         rw [eA] at c1
         have hxw := pw_cell_below HB.out hx
         clear hx eA
         have MA := Aside0.mk (show trystref12_may.f 3 x (rd (LL r i) y) = some (mayP i (rd (LL r i) y)) by rw [HX.out]; exact may_ i HI8.out _)
         cases m : mayP i (rd (LL r i) y) with
         | false =>
          rw [m] at MA
          have BAD := Aside0.mk (all8_not HI8.out (show formL r i = false from RecM.formed_not (i := j) (by have := HJ.out; omega) (fun q => by have h := q.1; rw [← HY.out] at h; unfold mayP at m; rw [m] at h; cases h)))
          clear m
          go_wp2_with fail
          go_quiet ((go_at_call 67; ((with_reducible refine (trystref12_may.calls 3 x (rd (LL r i) y) _ _ MA.out).mono ?_); rintro e w' ⟨rfl, ⟨nd, rfl⟩⟩; (first | exact ⟨rfl, _, World.drewN_drewN _ _ _⟩ | exact ⟨rfl, _, Eq.trans (World.drewN_drewN _ _ _) (congrArg (World.drewN _) (Nat.add_assoc _ _ _))⟩))))
          rename_i nq
          replace HA := Aside0.mk (blk_drewN HA.out nq)
          replace HK := Aside0.mk (blk_drewN HK.out nq)
          replace HB := Aside0.mk (pw_below_drewN HB.out nq)
          go_wp2_with fail
          go_ret
          exact ⟨by rw [GD.out, U.out, BAD.out] <;> rfl, hB ▸ HB.out⟩
         | true =>
          rw [m] at MA
          have HM := Aside0.mk (show RecM.mayF (lo i) (hi i) (nz i) (rd (LL r i) (j : Int)) = true by rw [← HY.out]; unfold mayP at m; exact m)
          clear m
          by_cases y0 : y > 0
          ·have c0 : decide (y > 0) = true := decide_eq_true y0
           obtain ⟨z, hz⟩ : ∃ z, z = wrap64 (y - 1) := ⟨_, rfl⟩
           have e3 : z = ((j - 1 : Nat) : Int) := by have := HY.out; have := BIG.out; have := HJ.out; rw [hz]; unfold wrap64; omega
           have l3 : wrap64 (y - 1) = z := hz.symm
           have l3w : IntKind.i64.wrap (y - 1) = z := (i64_w _).trans hz.symm
           have pz : (0 ≤ z) = True := eq_true (by omega)
           have qz : (z < ((LL r i).length : Int)) = True := eq_true (by have := HJ.out; omega)
           obtain ⟨ab2, eA2, hx2⟩ := Kd.at_int (ok_at HO.out i) z (by omega) (by have := HJ.out; omega)
           obtain rfl : ab = ab2 := Option.some.inj (EA.out.symm.trans eA2)
           have hxw2 := pw_cell_below HB.out hx2
           have HZ := Aside0.mk e3
           have Y0 := Aside0.mk y0
           clear y0 hx2 eA2 e3 hz
           by_cases c : rd (LL r i) z ≥ rd (LL r i) y
           ·have cc : decide (rd (LL r i) z ≥ rd (LL r i) y) = true := decide_eq_true c
            have CC := Aside0.mk c
            clear c
            go_wp2_with fail
            go_quiet ((go_at_call 67; ((with_reducible refine (trystref12_may.calls 3 x (rd (LL r i) y) _ _ MA.out).mono ?_); rintro e w' ⟨rfl, ⟨nd, rfl⟩⟩; (first | exact ⟨rfl, _, World.drewN_drewN _ _ _⟩ | exact ⟨rfl, _, Eq.trans (World.drewN_drewN _ _ _) (congrArg (World.drewN _) (Nat.add_assoc _ _ _))⟩))))
            rename_i nq
            replace HA := Aside0.mk (blk_drewN HA.out nq)
            replace HK := Aside0.mk (blk_drewN HK.out nq)
            replace HB := Aside0.mk (pw_below_drewN HB.out nq)
            have BAD := Aside0.mk (all8_not HI8.out (show formL r i = false from RecM.formed_not (i := j) (by have := HJ.out; omega) (fun q => by have h2 := q.2 (by have := HY.out; have := Y0.out; omega); rw [← HZ.out, ← HY.out] at h2; have := CC.out; omega)))
            go_wp2_with fail
            go_ret
            exact ⟨by rw [GD.out, U.out, BAD.out] <;> rfl, hB ▸ HB.out⟩
           ·have cc : decide (rd (LL r i) z ≥ rd (LL r i) y) = false := decide_eq_false c
            have CC := Aside0.mk c
            clear c
            go_wp2_with fail
            go_quiet ((go_at_call 67; ((with_reducible refine (trystref12_may.calls 3 x (rd (LL r i) y) _ _ MA.out).mono ?_); rintro e w' ⟨rfl, ⟨nd, rfl⟩⟩; (first | exact ⟨rfl, _, World.drewN_drewN _ _ _⟩ | exact ⟨rfl, _, Eq.trans (World.drewN_drewN _ _ _) (congrArg (World.drewN _) (Nat.add_assoc _ _ _))⟩))))
            rename_i nq
            replace HA := Aside0.mk (blk_drewN HA.out nq)
            replace HK := Aside0.mk (blk_drewN HK.out nq)
            replace HB := Aside0.mk (pw_below_drewN HB.out nq)
            go_wp2_with fail
            go_roundg k2
            case measure => omega
            case rel => exact ⟨j + 1, _, rfl, ⟨by have := HY.out; have := BIG.out; have := HJ.out; unfold wrap64; omega⟩, ⟨by have := HJ.out; omega⟩, ⟨RecM.upto_succ HU.out HM.out (fun _ => by have := CC.out; rw [← HZ.out, ← HY.out]; omega)⟩, HA, HK, HB⟩
          ·have c0 : decide (y > 0) = false := decide_eq_false y0
           have Y0 := Aside0.mk y0
           clear y0
           go_wp2_with fail
           go_quiet ((go_at_call 67; ((with_reducible refine (trystref12_may.calls 3 x (rd (LL r i) y) _ _ MA.out).mono ?_); rintro e w' ⟨rfl, ⟨nd, rfl⟩⟩; (first | exact ⟨rfl, _, World.drewN_drewN _ _ _⟩ | exact ⟨rfl, _, Eq.trans (World.drewN_drewN _ _ _) (congrArg (World.drewN _) (Nat.add_assoc _ _ _))⟩))))
           rename_i nq
           replace HA := Aside0.mk (blk_drewN HA.out nq)
           replace HK := Aside0.mk (blk_drewN HK.out nq)
           replace HB := Aside0.mk (pw_below_drewN HB.out nq)
           go_wp2_with fail
           go_roundg k2
           case measure => omega
           case rel => exact ⟨j + 1, _, rfl, ⟨by have := HY.out; have := BIG.out; have := HJ.out; unfold wrap64; omega⟩, ⟨by have := HJ.out; omega⟩, ⟨RecM.upto_succ HU.out HM.out (fun q => absurd Y0.out (by have := HY.out; omega))⟩, HA, HK, HB⟩
     ·as_aux_lemma =>
       have e40 : decide (((LL r i).length : Int) > 40) = true := decide_eq_true (by omega)
       have e40b : decide (40 < (LL r i).length) = true := decide_eq_true (by omega)
       have BIG := Aside0.mk (all8_not HI8.out (show formL r i = false from RecM.formed_long big))
       clear big
       go_wp2_with fail
       go_ret
       exact ⟨by rw [GD.out, U.out, BIG.out] <;> rfl, hB ▸ HB.out⟩
end Go.Proofs.YtddoidcbpcmlaaaDoor.RefF
