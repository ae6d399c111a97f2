/- Texts of this claim, merged: ExS, Mmatchmonth, MatS, FunA, FunC, FunI. -/
import Derived.Test.YtfdcldjoncednaaGreatMgExpandTimes20
import Derived.Test.YtfdcldjoncednaaGreatMgExpandTimes18
import Derived.Test.YtfdcldjoncednaaGreatMgExpandTimes7
import Derived.Test.YtfdcldjoncednaaGreatMgExpandTimes8
import Derived.Test.YtfdcldjoncednaaGreatMgExpandTimes9
/- expand.seconds. (Written by gen_exs.py.) -/
namespace Go.Proofs.YtfdcldjoncednaaGreat.ExS
open Go.RowKit Go.Proofs.YtfdcldjoncednaaGreatW.PrintWords Go.Proofs.YtfdcldjoncednaaGreatW.PrintLast Go.Proofs.YtfdcldjoncednaaGreatW.PrintMore Go.Proofs.YtfdcldjoncednaaGreat.M Go.Proofs.YtfdcldjoncednaaGreat.Ru Go.Proofs.YtfdcldjoncednaaGreat.ExD Go.Proofs.YtfdcldjoncednaaGreat.ExO
set_option linter.unusedVariables false
set_option linter.unusedSimpArgs false
theorem lies_or {w0 w w' : World} {A A' : Option Addr} {l m xs : List Int} {e base : Nat} {ok : Nat → Prop} {v : Value} (hor : (l ≠ [] ∧ A' = A) ∨ ∃ g, A' = some ⟨g, 0, none⟩ ∧ w.heap.size ≤ g) (hC0 : (Kd.int .i64).C w0 A l.length l) (h0 : w0.heap.size ≤ base) (hR : (Kd.int .i64).R e w base ok v xs) (hC : (Kd.int .i64).C w' A' m.length m) : Lies w' v A' m := by
 refine ⟨hC, fun _ ad e1 e2 => ?_⟩
 rcases hor with ⟨hne, rfl⟩ | ⟨g, rfl, hg⟩
 ·have hp : 0 < l.length := List.length_pos_iff.2 hne
  obtain ⟨ad', e', hc⟩ := Kd.at_int hC0 0 (by omega) (by omega)
  obtain rfl : ad = ad' := Option.some.inj (e1.symm.trans e')
  have h1 := cell_lt hc
  rw [blk_add] at h1
  have h2 := Kd.R_base hR _ e2.symm
  omega
 ·cases e1
  have h2 := Kd.R_lt hR _ e2.symm
  simp at h2
  omega
/-- A second of the day. -/
def secV (h m x : Int) : Int := wrap64 (wrap64 (wrap64 (3600 * h) + wrap64 (60 * m)) + x)
set_option maxHeartbeats 8000000 in
set_option maxRecDepth 100000 in
theorem seconds (r : Ru) (p : Rp) (b s h0 q0 m0 s0 : Int) (H M S : List Int) (F1 : Nat → List Int) (F2 : Nat → Nat → List Int) (F3 : Nat → Nat → Nat → List Int) (w : World) (ok : Ok r p w) (hsec : clock_Second.f b = some s) (e1 : wrap64 (Int.tdiv s 3600) = h0) (e2 : wrap64 (Int.tdiv s 60) = q0) (e3 : Int.tmod q0 60 = m0) (e4 : Int.tmod s 60 = s0)
  (hH : orL r.l10 h0 = H) (hM : orL r.l9 m0 = M) (hS : orL r.l8 s0 = S) (hb : H.length ≤ 1000000000 ∧ M.length ≤ 1000000000 ∧ S.length ≤ 1000000000) (f0 : F1 0 = []) (f1 : ∀ i, F2 i 0 = F1 i) (f2 : ∀ i j, F3 i j 0 = F2 i j) (f3 : ∀ i j q, F3 i j (q + 1) = F3 i j q ++ [secV (rd H (i : Int)) (rd M (j : Int)) (rd S (q : Int))]) (f4 : ∀ i j, F2 i (j + 1) = F3 i j S.length) (f5 : ∀ i, F1 (i + 1) = F2 i M.length) (fl : ∀ i j q, i < H.length → j < M.length → q < S.length → (F3 i j q).length ≤ 17000000000000) :
  Calls Tryz.prog 75 #[.agg (agg r p), .int .i64 b] w fun q w' => Out w.heap.size w' (F1 H.length) q ∧ Below w.heap.size w w' := by
 have OK := Aside0.mk ok; have HSEC := Aside0.mk hsec; have HH := Aside0.mk hH; have HM := Aside0.mk hM; have HS := Aside0.mk hS; have HBD := Aside0.mk hb; have A0 := Aside0.mk f0; have A1 := Aside0.mk f1; have A2 := Aside0.mk f2; have A3 := Aside0.mk f3; have A4 := Aside0.mk f4; have A5 := Aside0.mk f5; have AL := Aside0.mk fl
 clear ok hsec hH hM hS hb f0 f1 f2 f3 f4 f5 fl
 have HK := Aside0.mk (blk_new w (obj r p))
 have HB := Aside0.mk (below_alloc (Below.refl w.heap.size w) (obj r p))
 go_enter Tryz.func75, Tryz.ntmps75
 go_upto_region 1 with fail
 generalize w.alloc (obj r p) = w0 at HK HB ⊢
 go_wp2_with fail
 refine (clock_Second.calls b s _ HSEC.out).mono ?_
 rintro q wa ⟨rfl, ⟨nd, rfl⟩⟩
 replace HK := Aside0.mk (blk_drewN HK.out nd)
 replace HB := Aside0.mk (pw_below_drewN HB.out nd)
 generalize w0.drewN nd = wa at HK HB ⊢
 have k10 : wa.cell? ⟨w.heap.size, 10, none⟩ = some (.slice p.A10 r.l10.length p.c10) := (blk_cell HK.out 10).trans rfl
 go_wp2_with fail
 refine (or_ p.A10 p.c10 r.l10 h0 wa (OK.out.below HB.out).h10 OK.out.d10).mono ?_
 rintro q wb ⟨⟨AH, cH, rfl, hCH, hcH, horH⟩, hb⟩
 clear k10 horH
 replace HK := Aside0.mk (blk_below HK.out hb)
 replace HB := Aside0.mk (below_then HB.out HB.out.size hb)
 clear hb
 rw [HH.out] at hCH hcH ⊢
 have CH := Aside0.mk hCH; have CCH := Aside0.mk hcH; clear hCH hcH HH
 go_wp2_with fail
 go_loopg [6, 21] H.length (fun kq v6 v21 w' => ∃ (i : Nat) (x : Int), v21 = .int .i64 x ∧ Aside0 (x = (i : Int)) ∧ Aside0 (i + kq = H.length) ∧ Aside0 ((Kd.int .i64).R 2 w' wb.heap.size (fun _ => True) v6 (F1 i)) ∧ Aside0 (Below wb.heap.size wb w'))
 case atStart => exact ⟨0, 0, rfl, ⟨rfl⟩, ⟨by omega⟩, ⟨by rw [A0.out]; exact Kd.R_nil _ _ _ _ _⟩, ⟨Below.refl _ _⟩⟩
 case round =>
  obtain ⟨i, x, rfl, HX, HI, HO, HL⟩ := hrel
  cases gk with
  | zero =>
   have l1 : decide (x < (H.length : Int)) = false := decide_eq_false (by have := HX.out; have := HI.out; omega)
   have e : i = H.length := by have := HI.out; omega
   have EI := Aside0.mk e; clear e
   go_wp2_with fail
   go_ret
   refine ⟨?_, below_then HB.out HB.out.size HL.out⟩
   rw [← EI.out]; exact out_of HO.out HB.out.size
  | succ k1 =>
   have p1 : 0 ≤ x := by have := HX.out; omega
   have q1 : x < (H.length : Int) := by have := HX.out; have := HI.out; omega
   have l1 : decide (x < (H.length : Int)) = true := decide_eq_true q1
   obtain ⟨ad, e, hx⟩ := Kd.at_int (Kd.C_below CH.out HL.out) x p1 q1
   cases e
   replace p1 := eq_true p1
   replace q1 := eq_true q1
   have nx : wrap64 (x + 1) = x + 1 := by have := HX.out; have := HI.out; have := HBD.out; unfold wrap64; omega
   obtain ⟨hv, hhv⟩ : ∃ hv, rd H x = hv := ⟨_, rfl⟩
   rw [hhv] at hx
   have HV := Aside0.mk hhv; rw [HX.out] at HV; clear hhv
   have k9 : wr.cell? ⟨w.heap.size, 9, none⟩ = some (.slice p.A9 r.l9.length p.c9) := (blk_cell (blk_below HK.out HL.out) 9).trans rfl
   go_wp2_with fail
   refine (or_ p.A9 p.c9 r.l9 m0 wr (OK.out.below (below_then HB.out HB.out.size HL.out)).h9 OK.out.d9).mono ?_
   rintro q wc ⟨⟨AM, cM, rfl, hCM, hcM, horM⟩, hb⟩
   rw [HM.out] at hCM hcM ⊢
   have LM := Aside0.mk (lies_or horM OK.out.h9 HB.out.size HO.out hCM)
   replace HO := Aside0.mk (Kd.R_below HO.out hb)
   replace HL := Aside0.mk (below_then HL.out HL.out.size hb)
   clear k9 hx hb hCM hcM horM
   go_wp2_with fail
   go_loopg [6, 32] M.length (fun kq v6 v32 w' => ∃ (j : Nat) (y : Int), v32 = .int .i64 y ∧ Aside0 (y = (j : Int)) ∧ Aside0 (j + kq = M.length) ∧ Aside0 ((Kd.int .i64).R 2 w' wb.heap.size (fun _ => True) v6 (F2 i j)) ∧ Aside0 (Below wb.heap.size wb w') ∧ Aside0 (Lies w' v6 AM M))
   case atStart => exact ⟨0, 0, rfl, ⟨rfl⟩, ⟨by omega⟩, ⟨by rw [A1.out]; exact HO.out⟩, HL, LM⟩
   case round =>
    clear HO HL LM
    obtain ⟨j, y, rfl, HY, HJ, HO, HL, LM⟩ := hrel
    cases gk with
    | zero =>
     have l1 : decide (y < (M.length : Int)) = false := decide_eq_false (by have := HY.out; have := HJ.out; omega)
     have e : j = M.length := by have := HJ.out; omega
     have EJ := Aside0.mk e; clear e
     go_wp2_with fail
     go_roundg k1
     case measure => omega
     case rel => exact ⟨i + 1, x + 1, by simp [nx], ⟨by have := HX.out; push_cast; omega⟩, ⟨by have := HI.out; omega⟩, ⟨by rw [A5.out, ← EJ.out]; exact HO.out⟩, HL⟩
    | succ k2 =>
     have p2 : 0 ≤ y := by have := HY.out; omega
     have q2 : y < (M.length : Int) := by have := HY.out; have := HJ.out; omega
     have l2 : decide (y < (M.length : Int)) = true := decide_eq_true q2
     obtain ⟨ad2, e, hy⟩ := Kd.at_int LM.out.1 y p2 q2
     cases e
     replace p2 := eq_true p2
     replace q2 := eq_true q2
     have ny : wrap64 (y + 1) = y + 1 := by have := HY.out; have := HJ.out; have := HBD.out; unfold wrap64; omega
     obtain ⟨mv, hmv⟩ : ∃ mv, rd M y = mv := ⟨_, rfl⟩
     rw [hmv] at hy
     have MV := Aside0.mk hmv; rw [HY.out] at MV; clear hmv
     have k8 : wr.cell? ⟨w.heap.size, 8, none⟩ = some (.slice p.A8 r.l8.length p.c8) := (blk_cell (blk_below HK.out HL.out) 8).trans rfl
     go_wp2_with fail
     refine (or_ p.A8 p.c8 r.l8 s0 wr (OK.out.below (below_then HB.out HB.out.size HL.out)).h8 OK.out.d8).mono ?_
     rintro q wd ⟨⟨AS, cS, rfl, hCS, hcS, horS⟩, hb⟩
     rw [HS.out] at hCS hcS ⊢
     have LS := Aside0.mk (lies_or horS OK.out.h8 HB.out.size HO.out hCS)
     replace HO := Aside0.mk (Kd.R_below HO.out hb)
     replace LM := Aside0.mk (LM.out.below hb)
     replace HL := Aside0.mk (below_then HL.out HL.out.size hb)
     clear k8 hy hb hCS hcS horS
     go_wp2_with fail
     go_loopg [6, 42] S.length (fun kq v6 v42 w' => ∃ (o : Nat) (z : Int), v42 = .int .i64 z ∧ Aside0 (z = (o : Int)) ∧ Aside0 (o + kq = S.length) ∧ Aside0 ((Kd.int .i64).R 2 w' wb.heap.size (fun _ => True) v6 (F3 i j o)) ∧ Aside0 (Below wb.heap.size wb w') ∧ Aside0 (Lies w' v6 (some ad2) M) ∧ Aside0 (Lies w' v6 AS S))
     case atStart => exact ⟨0, 0, rfl, ⟨rfl⟩, ⟨by omega⟩, ⟨by rw [A2.out]; exact HO.out⟩, HL, LM, LS⟩
     case round =>
      clear HO HL LM LS
      obtain ⟨o, z, rfl, HZ, HQ, HO, HL, LM, LS⟩ := hrel
      cases gk with
      | zero =>
       have l3 : decide (z < (S.length : Int)) = false := decide_eq_false (by have := HZ.out; have := HQ.out; omega)
       have e : o = S.length := by have := HQ.out; omega
       have EO := Aside0.mk e; clear e
       go_wp2_with fail
       go_roundg k2
       case measure => omega
       case rel => exact ⟨j + 1, y + 1, by simp [ny], ⟨by have := HY.out; push_cast; omega⟩, ⟨by have := HJ.out; omega⟩, ⟨by rw [A4.out, ← EO.out]; exact HO.out⟩, HL, LM⟩
      | succ k3 =>
       have p3 : 0 ≤ z := by have := HZ.out; omega
       have q3 : z < (S.length : Int) := by have := HZ.out; have := HQ.out; omega
       have l3 : decide (z < (S.length : Int)) = true := decide_eq_true q3
       obtain ⟨ad3, e, hz⟩ := Kd.at_int LS.out.1 z p3 q3
       cases e
       replace p3 := eq_true p3
       replace q3 := eq_true q3
       have nz : wrap64 (z + 1) = z + 1 := by have := HZ.out; have := HQ.out; have := HBD.out; unfold wrap64; omega
       obtain ⟨sv, hsv⟩ : ∃ sv, rd S z = sv := ⟨_, rfl⟩
       rw [hsv] at hz
       have SV := Aside0.mk hsv; rw [HZ.out] at SV; clear hsv
       have GN := Aside0.mk (A3.out i j o); rw [HV.out, MV.out, SV.out] at GN
       obtain ⟨y1, hy1⟩ : ∃ y1, secV hv mv sv = y1 := ⟨_, rfl⟩
       rw [hy1] at GN
       unfold secV at hy1
       obtain ⟨li, hli⟩ : ∃ li, F3 i j o = li := ⟨_, rfl⟩
       have LN := Aside0.mk (AL.out i j o (by have := HI.out; omega) (by have := HJ.out; omega) (by have := HQ.out; omega))
       rw [hli] at HO LN GN; clear hli
       go_wp2_with ((with_reducible refine gate_builtin (b := .append) (xs := #[.tmp 46, .tmp 54]) rfl ?_); (try (refine gate_guard (by rfl) ?_; dsimp only)); at_builtin; refine Kd.R_append (Kd.int .i64) (w0 := wb) wb.heap.size rfl (.tmp 46) (.tmp 54) 42 2 (.int .i64 0) 8 rfl Tryz.underlying42 (by kernel_rfl) rfl (by decide) (by omega) _ li (y1) [.int .i64 (y1)] (fun _ => True) (fun _ => False) rfl rfl ?aP (fun _ hk => hk.elim) ?aF ?aO ?aB ?aS ?aL ?_; (case aP => exact rfl); (case aB => exact (by repeat (first | (with_reducible first | exact HL.out | apply below_alloc | apply pw_below_drewN | apply below_drew1) | exact HL.out))); (case aF => exact (fun _ _ => trivial)); (case aO => exact (by (with_reducible repeat (first | apply Kd.R_alloc | apply Kd.R_drewN | apply Kd.R_drew)); exact HO.out)); (case aS => exact (below_size (by repeat (first | (with_reducible first | exact HL.out | apply below_alloc | apply pw_below_drewN | apply below_drew1) | exact HL.out)))); (case aL => have := LN.out; omega); intro v_ w_ ho hb hg hat; replace LM := Aside0.mk (LM.out.appended hg hat); replace LS := Aside0.mk (LS.out.appended hg hat); clear hg hat; replace HO := Aside0.mk ho; replace HL := Aside0.mk hb; clear ho hb)
       go_roundg k3
       case measure => omega
       case rel => exact ⟨o + 1, z + 1, by simp [nz], ⟨by have := HZ.out; push_cast; omega⟩, ⟨by have := HQ.out; omega⟩, ⟨by rw [GN.out]; exact HO.out⟩, HL, LM, LS⟩
end Go.Proofs.YtfdcldjoncednaaGreat.ExS
namespace Go.Proofs.YtfdcldjoncednaaGreat.M
open Go.RowKit Go.Proofs.YtfdcldjoncednaaGreatW.PrintWords Go.Proofs.YtfdcldjoncednaaGreatW.PrintLast Go.Proofs.YtfdcldjoncednaaGreatW.PrintMore
attribute [local go_sem] max2_int min2_int max_two min_two
set_option linter.unusedVariables false
set_option linter.unusedSimpArgs false
/-! ### match_month: function 55 -/
def match_month.j0 : Nat → Int → Int → Bool → Option (Int × Int)
 | 0, _, _, _ => none
 | k + 1, x7, x8, x30 => if x30 = true then (some (0, (-1))) else ((rata_Day.f k x7 x8 1).bind fun bt232 => ((rata_Length.f k x7 x8).bind fun t234 => (some (bt232.1, wrap64 ((wrap64 (bt232.1 + t234)) - 1)))))
def match_month.f (k : Nat) (a0_0 : Int) (a0_1 : Int) (a0_2 : Int) (a1 : Int) : Option (Int × Int) := (rata_Floor.f (wrap64 ((wrap64 ((wrap64 ((wrap64 (12 * a0_0)) + a0_1)) - 1)) + a1)) 12).bind fun t230 => ((rata_Mod.f (wrap64 ((wrap64 ((wrap64 ((wrap64 (12 * a0_0)) + a0_1)) - 1)) + a1)) 12).bind fun t231 => (if t230 < 1 then (match_month.j0 k t230 (wrap64 (t231 + 1)) true) else (match_month.j0 k t230 (wrap64 (t231 + 1)) (decide (t230 > 9999)))))
set_option maxHeartbeats 8000000 in
set_option maxRecDepth 100000 in
theorem match_month.calls (k : Nat) (a0_0 : Int) (a0_1 : Int) (a0_2 : Int) (a1 : Int) (r1 : Int) (r2 : Int) (w : World) (h : match_month.f k a0_0 a0_1 a0_2 a1 = some (r1, r2)) :
  Calls Tryz.prog 55 #[.agg #[.int .i64 a0_0, .int .i64 a0_1, .int .i64 a0_2], .int .i64 a1] w fun e w' => e = .returned (.tuple #[.int .i64 r1, .int .i64 r2]) ∧ Below w.heap.size w w' := by
 have hu61 := Tryz.underlying61
 have HB := Aside0.mk (Below.refl w.heap.size w)
 have H : ((rata_Floor.f (wrap64 ((wrap64 ((wrap64 ((wrap64 (12 * a0_0)) + a0_1)) - 1)) + a1)) 12).bind fun t230 => ((rata_Mod.f (wrap64 ((wrap64 ((wrap64 ((wrap64 (12 * a0_0)) + a0_1)) - 1)) + a1)) 12).bind fun t231 => (if t230 < 1 then (match_month.j0 k t230 (wrap64 (t231 + 1)) true) else (match_month.j0 k t230 (wrap64 (t231 + 1)) (decide (t230 > 9999)))))) = some (r1, r2) := h
 clear h
 replace H := Option.bind_eq_some_iff.mp H
 obtain ⟨t230, A30, H⟩ := H
 replace H : ((rata_Mod.f (wrap64 ((wrap64 ((wrap64 ((wrap64 (12 * a0_0)) + a0_1)) - 1)) + a1)) 12).bind fun t231 => (if t230 < 1 then (match_month.j0 k t230 (wrap64 (t231 + 1)) true) else (match_month.j0 k t230 (wrap64 (t231 + 1)) (decide (t230 > 9999))))) = some (r1, r2) := H
 have A3 := Aside0.mk A30
 clear A30
 replace H := Option.bind_eq_some_iff.mp H
 obtain ⟨t231, A40, H⟩ := H
 replace H : (if t230 < 1 then (match_month.j0 k t230 (wrap64 (t231 + 1)) true) else (match_month.j0 k t230 (wrap64 (t231 + 1)) (decide (t230 > 9999)))) = some (r1, r2) := H
 have A4 := Aside0.mk A40
 clear A40
 have HC5 := Aside0.mk H
 clear H
 go_enter Tryz.func55, Tryz.ntmps55
 go_upto_region 3 with (first | ((with_reducible refine gate_dst (N := 2) rfl ?_); refine box_event ?hg (N := 2) ?hd (cs := #[.int .i64 a0_0, .int .i64 a0_1, .int .i64 a0_2]) (t := 61) ?hr ?_; (case hd => rfl); (case hg => rfl); (case hr => first | (go_simp; done) | (go_simp; rfl)); intro gb229 hg w6 hbox hb; have n0_ := Aside0.mk (below_step (by repeat (first | (with_reducible first | exact HB.out | apply below_alloc | apply pw_below_drewN | apply below_drew1) | exact HB.out)) hb); have n1_ := Aside0.mk (hbox); have n2_ := Aside0.mk ((by rw [hg]; exact (below_size (by repeat (first | (with_reducible first | exact HB.out | apply below_alloc | apply pw_below_drewN | apply below_drew1) | exact HB.out))) : w.heap.size ≤ gb229)); have n3_ := Aside0.mk ((by rw [hg]; exact (below_size (by repeat (first | (with_reducible first | exact HB.out | apply below_alloc | apply pw_below_drewN | apply below_drew1) | exact HB.out))) : w.heap.size ≤ gb229)); clear HB; have HB := n0_; have BK229 := n1_; have GW229 := n2_; have GE229 := n3_; clear n0_ n1_ n2_ n3_; clear hb hbox hg; have hcz7_0 : w6.cell? ⟨gb229, 0, none⟩ = some (.int .i64 a0_0) := (blk_cell BK229.out 0).trans rfl; have hcz7_1 : w6.cell? ⟨gb229, 1, none⟩ = some (.int .i64 a0_1) := (blk_cell BK229.out 1).trans rfl; have hcz7_2 : w6.cell? ⟨gb229, 2, none⟩ = some (.int .i64 a0_2) := (blk_cell BK229.out 2).trans rfl; have hfz7_0 := blk_frozen BK229.out 0; have hfz7_1 := blk_frozen BK229.out 1; have hfz7_2 := blk_frozen BK229.out 2) | ((with_reducible refine gate_callee (f := 95) rfl ?_); refine gm_ (some 21) Tryz.func95 #[.int .i64 (wrap64 ((wrap64 ((wrap64 ((wrap64 (12 * a0_0)) + a0_1)) - 1)) + a1)), .int .i64 12] ?_; (with_reducible refine (rata_Floor.calls (wrap64 ((wrap64 ((wrap64 ((wrap64 (12 * a0_0)) + a0_1)) - 1)) + a1)) 12 t230 _ A3.out).mono ?_); rintro e w' ⟨rfl, ⟨nd, rfl⟩⟩; refine ⟨_, rfl, ?_⟩) | ((with_reducible refine gate_callee (f := 92) rfl ?_); refine gm_ (some 23) Tryz.func92 #[.int .i64 (wrap64 ((wrap64 ((wrap64 ((wrap64 (12 * a0_0)) + a0_1)) - 1)) + a1)), .int .i64 12] ?_; (with_reducible refine (rata_Mod.calls (wrap64 ((wrap64 ((wrap64 ((wrap64 (12 * a0_0)) + a0_1)) - 1)) + a1)) 12 t231 _ A4.out).mono ?_); rintro e w' ⟨rfl, ⟨nd, rfl⟩⟩; refine ⟨_, rfl, ?_⟩))
 (try simp only [Act.put, List.setIfInBounds_toArray, List.set_cons_zero, List.set_cons_succ])
 go_cut [30] (fun v30 wc => ∃ (kq : Nat) (x30_4 : Bool), v30 = .bool x30_4 ∧ Aside0 (match_month.j0 kq t230 (wrap64 (t231 + 1)) x30_4 = some (r1, r2)) ∧ Aside0 (kq ≤ k) ∧ Aside0 (wc.heap[gb229]? = some (.cells #[.int .i64 a0_0, .int .i64 a0_1, .int .i64 a0_2] 61 (0, 0))) ∧ Aside0 (Below w.heap.size w wc))
 case first =>
  have H := HC5.out
  clear HC5
  by_cases c8 : t230 < 1
  ·rw [if_pos c8] at H
   have c8b0 : decide (t230 < 1) = true := decide_eq_true c8
   clear c8
   (first | rw [c8b0] | (simp only [i64_w, i32_w]; rw [c8b0]) | skip)
   have H' := Aside0.mk H
   clear H
   go_wp2
   go_meet
   case rel => exact ⟨_, (true), (by first | rfl | (simp; done) | (simp [*]; done)), H', ⟨by first | omega | exact Nat.le_refl _⟩, ⟨by (with_reducible repeat (first | refine blk_drewN ?_ _ | refine blk_drew ?_ | refine blk_alloc ?_ _)); exact BK229.out⟩, ⟨by repeat (first | (with_reducible first | exact HB.out | apply below_alloc | apply pw_below_drewN | apply below_drew1 | refine below_set ?_ GE229.out) | exact HB.out)⟩⟩
  ·rw [if_neg c8] at H
   have c8b0 : decide (t230 < 1) = false := decide_eq_false c8
   clear c8
   (first | rw [c8b0] | (simp only [i64_w, i32_w]; rw [c8b0]) | skip)
   have H' := Aside0.mk H
   clear H
   go_wp2
   go_meet
   case rel => exact ⟨_, (decide (t230 > 9999)), (by first | rfl | (simp; done) | (simp [*]; done)), H', ⟨by first | omega | exact Nat.le_refl _⟩, ⟨by (with_reducible repeat (first | refine blk_drewN ?_ _ | refine blk_drew ?_ | refine blk_alloc ?_ _)); exact BK229.out⟩, ⟨by repeat (first | (with_reducible first | exact HB.out | apply below_alloc | apply pw_below_drewN | apply below_drew1 | refine below_set ?_ GE229.out) | exact HB.out)⟩⟩
 case rest =>
  clear HC5
  try clear p2
  try clear c5
  try clear p6
  try clear c8
  try clear c8b0
  try clear hcz7_0
  try clear hcz7_1
  try clear hcz7_2
  try clear hfz7_0
  try clear hfz7_1
  try clear hfz7_2
  obtain ⟨kq, x30_4, rfl, HA, HJ4, BK229, HB⟩ := hcut
  cases kq with
  | zero => exact absurd HA.out (by simp [match_month.j0])
  | succ kj4 =>
   have H := HA.out
   clear HA
   simp only [match_month.j0] at H
   by_cases c9 : x30_4 = true
   ·subst c9
    have H1 : (some (0, (-1))) = some (r1, r2) := by rw [if_pos rfl] at H; exact H
    clear H
    have H := H1
    clear H1
    simp only [Option.some.injEq, Prod.mk.injEq] at H
    obtain ⟨rfl, rfl⟩ := H
    go_wp2
    go_ret2
    exact ⟨by first | rfl | (simp [i64_w]; done) | (simp [errW_none, errW_some] <;> rfl) | (simp [*, errW_none, errW_some] <;> rfl), by repeat (first | (with_reducible first | exact HB.out | apply below_alloc | apply pw_below_drewN | apply below_drew1 | refine below_set ?_ GE229.out) | exact HB.out)⟩
   ·replace c9 := Bool.eq_false_iff.mpr c9
    subst c9
    have H1 : ((rata_Day.f kj4 t230 (wrap64 (t231 + 1)) 1).bind fun bt232 => ((rata_Length.f kj4 t230 (wrap64 (t231 + 1))).bind fun t234 => (some (bt232.1, wrap64 ((wrap64 (bt232.1 + t234)) - 1))))) = some (r1, r2) := by rw [if_neg (show ¬ (false = true) by decide)] at H; exact H
    clear H
    have H := H1
    clear H1
    replace H := Option.bind_eq_some_iff.mp H
    obtain ⟨⟨t232, t233⟩, A100, H⟩ := H
    replace H : ((rata_Length.f kj4 t230 (wrap64 (t231 + 1))).bind fun t234 => (some (t232, wrap64 ((wrap64 (t232 + t234)) - 1)))) = some (r1, r2) := H
    have A10 := Aside0.mk A100
    clear A100
    replace H := Option.bind_eq_some_iff.mp H
    obtain ⟨t234, A110, H⟩ := H
    replace H : (some (t232, wrap64 ((wrap64 (t232 + t234)) - 1))) = some (r1, r2) := H
    have A11 := Aside0.mk A110
    clear A110
    simp only [Option.some.injEq, Prod.mk.injEq] at H
    obtain ⟨rfl, rfl⟩ := H
    go_wp2_with (first | ((with_reducible refine gate_callee (f := 96) rfl ?_); refine gm_ (some 35) Tryz.func96 #[.agg #[.int .i64 t230, .int .i64 (wrap64 (t231 + 1)), .int .i64 1]] ?_; (with_reducible refine (rata_Day.calls kj4 t230 (wrap64 (t231 + 1)) 1 t232 t233 _ A10.out).mono ?_); rintro e w12 ⟨rfl, hb⟩; refine ⟨_, rfl, ?_⟩; have n0_ := Aside0.mk (blk_below (g := gb229) (o := .cells #[.int .i64 a0_0, .int .i64 a0_1, .int .i64 a0_2] 61 (0, 0)) (by (with_reducible repeat (first | refine blk_drewN ?_ _ | refine blk_drew ?_ | refine blk_alloc ?_ _)); exact BK229.out) hb); have n1_ := Aside0.mk (below_step (by repeat (first | (with_reducible first | exact HB.out | apply below_alloc | apply pw_below_drewN | apply below_drew1 | refine below_set ?_ GE229.out) | exact HB.out)) hb); clear BK229; clear HB; have BK229 := n0_; have HB := n1_; clear n0_ n1_; (try clear hb); (try clear hb2); (try clear hk); (try clear hi)) | ((with_reducible refine gate_callee (f := 54) rfl ?_); refine gm_ (some 42) Tryz.func54 #[.int .i64 t230, .int .i64 (wrap64 (t231 + 1))] ?_; (with_reducible refine (rata_Length.calls kj4 t230 (wrap64 (t231 + 1)) t234 _ A11.out).mono ?_); rintro e w' ⟨rfl, ⟨nd, rfl⟩⟩; refine ⟨_, rfl, ?_⟩))
    go_ret2
    exact ⟨by first | rfl | (simp [i64_w]; done) | (simp [errW_none, errW_some] <;> rfl) | (simp [*, errW_none, errW_some] <;> rfl), by repeat (first | (with_reducible first | exact HB.out | apply below_alloc | apply pw_below_drewN | apply below_drew1 | refine below_set ?_ GE229.out) | exact HB.out)⟩

end Go.Proofs.YtfdcldjoncednaaGreat.M
/- match.span, match.Span. (Written by gen_mats.py.) -/
namespace Go.Proofs.YtfdcldjoncednaaGreat.MatS
open Go.RowKit Go.Proofs.YtfdcldjoncednaaGreatW.PrintWords Go.Proofs.YtfdcldjoncednaaGreatW.PrintLast Go.Proofs.YtfdcldjoncednaaGreatW.PrintMore Go.Proofs.YtfdcldjoncednaaGreat.M Go.Proofs.YtfdcldjoncednaaGreat.Ru Go.Proofs.YtfdcldjoncednaaGreat.MatD Go.Proofs.YtfdcldjoncednaaGreat.MatP Go.Proofs.YtfdcldjoncednaaGreat.MatG
set_option linter.unusedVariables false
set_option linter.unusedSimpArgs false
attribute [local go_sem] max2_int min2_int max_two min_two
/-- A period's first and last day, ahead of the bounds. -/
inductive SpanOk (k : Nat) (r : Ru) (b n y m dd : Int) : Int → Int → Prop
 | day (h : r.a0 = 1) : SpanOk k r b n y m dd (b + n) (b + n)
 | week (w : Int) (h : r.a0 = 2) (hw : match_weekBegin.f b r.a7 = some w) (h0 : -1000 ≤ w) (h1 : w ≤ 4000000) : SpanOk k r b n y m dd (w + 7 * n) (w + 7 * n + 6)
 | month (r1 r2 : Int) (h : r.a0 = 3) (hm : match_month.f k y m dd n = some (r1, r2)) : SpanOk k r b n y m dd r1 r2
 | year (g1 g2 : Int) (h : r.a0 = 4) (h1 : 1 ≤ y + n) (h2 : y + n ≤ 9999) (hg : rata_Begins.f (y + n) = some g1) (hg2 : rata_Begins.f (y + n + 1) = some g2) (b0 : 0 ≤ g2) (b1 : g2 ≤ 4000000) : SpanOk k r b n y m dd g1 (g2 - 1)
 | none (h : r.a0 = 4) (h1 : ¬ (1 ≤ y + n ∧ y + n ≤ 9999)) : SpanOk k r b n y m dd 0 (-1)
set_option maxHeartbeats 4000000 in
set_option maxRecDepth 100000 in
theorem span (k : Nat) (r : Ru) (p : Rp) (b n y m dd e r1 r2 : Int) (w : World) (h : SpanOk k r b n y m dd r1 r2) (hd : rata_Date.f k b = some (y, m, dd, e)) (b1 : 1 ≤ b) (b2 : b ≤ 3652059) (n1 : -3652059 ≤ n) (n2 : n ≤ 3652059) (y1 : 1 ≤ y) (y2 : y ≤ 9999) :
  Calls Tryz.prog 28 #[.agg (agg r p), .int .i64 b, .int .i64 n] w fun q w' => q = .returned (.tuple #[.int .i64 r1, .int .i64 r2]) ∧ Below w.heap.size w w' := by
 have HD := Aside0.mk hd; have BB := Aside0.mk (And.intro b1 b2); have NB := Aside0.mk (And.intro n1 n2); have YB := Aside0.mk (And.intro y1 y2); clear hd b1 b2 n1 n2 y1 y2
 have HK := Aside0.mk (blk_new w (obj r p))
 have HB := Aside0.mk (below_alloc (Below.refl w.heap.size w) (obj r p))
 go_enter Tryz.func28, Tryz.ntmps28
 go_upto_region 1 with fail
 generalize w.alloc (obj r p) = w0 at HK HB ⊢
 go_wp2_with fail
 refine (rata_Date.calls k b y m dd e _ HD.out).mono ?_
 rintro q wa ⟨rfl, hb⟩
 replace HK := Aside0.mk (blk_below HK.out hb)
 replace HB := Aside0.mk (below_then HB.out HB.out.size hb)
 clear hb
 go_upto_region 2 with fail
 replace HK := Aside0.mk (blk_below HK.out (below_alloc (Below.refl _ _) (.cells #[.int .i64 y, .int .i64 m, .int .i64 dd] 61 (0, 0))))
 have HA := Aside0.mk (blk_new wa (.cells #[.int .i64 y, .int .i64 m, .int .i64 dd] 61 (0, 0)))
 replace HB := Aside0.mk (below_alloc HB.out (.cells #[.int .i64 y, .int .i64 m, .int .i64 dd] 61 (0, 0)))
 generalize wa.alloc (.cells #[.int .i64 y, .int .i64 m, .int .i64 dd] 61 (0, 0)) = wb at HK HA HB ⊢
 generalize wa.heap.size = g at HA ⊢
 have k0 : wb.cell? ⟨w.heap.size, 0, none⟩ = some (.int .i64 r.a0) := (blk_cell HK.out 0).trans rfl
 have k7 : wb.cell? ⟨w.heap.size, 7, none⟩ = some (.int .i64 r.a7) := (blk_cell HK.out 7).trans rfl
 have d0 : wb.cell? ⟨g, 0, none⟩ = some (.int .i64 y) := (blk_cell HA.out 0).trans rfl
 have d1 : wb.cell? ⟨g, 1, none⟩ = some (.int .i64 m) := (blk_cell HA.out 1).trans rfl
 have d2 : wb.cell? ⟨g, 2, none⟩ = some (.int .i64 dd) := (blk_cell HA.out 2).trans rfl
 cases h with
 | day h =>
  have x1 : (r.a0 == 1) = true := beq_iff_eq.2 (by omega)
  have x2 : (r.a0 == 2) = false := beq_eq_false_iff_ne.2 (by omega)
  have x3 : (r.a0 == 3) = false := beq_eq_false_iff_ne.2 (by omega)
  have s1 : wrap64 (b + n) = b + n := by have := BB.out; have := NB.out; unfold wrap64; omega
  clear h
  go_wp2_with fail
  go_ret2
  exact ⟨by simp [s1], HB.out⟩
 | week wk h hw h0 h1 =>
  have x1 : (r.a0 == 1) = false := beq_eq_false_iff_ne.2 (by omega)
  have x2 : (r.a0 == 2) = true := beq_iff_eq.2 (by omega)
  have x3 : (r.a0 == 3) = false := beq_eq_false_iff_ne.2 (by omega)
  obtain ⟨u, hu⟩ : ∃ u, wrap64 (7 * n) = u := ⟨_, rfl⟩
  have U := Aside0.mk (show u = 7 * n by rw [← hu]; have := NB.out; unfold wrap64; omega)
  obtain ⟨v, hv⟩ : ∃ v, wrap64 (wk + u) = v := ⟨_, rfl⟩
  have V := Aside0.mk (show v = wk + 7 * n by rw [← hv]; have := U.out; have := NB.out; unfold wrap64; omega)
  obtain ⟨z, hz⟩ : ∃ z, wrap64 (v + 7) = z := ⟨_, rfl⟩
  have Z := Aside0.mk (show z = wk + 7 * n + 7 by rw [← hz]; have := V.out; have := NB.out; unfold wrap64; omega)
  have s4 : wrap64 (z - 1) = wk + 7 * n + 6 := by have := Z.out; have := NB.out; unfold wrap64; omega
  have HW := Aside0.mk hw; have S4 := Aside0.mk s4; clear h hw h0 h1 s4
  go_wp2_with fail
  refine (match_weekBegin.calls b r.a7 wk _ HW.out).mono ?_
  rintro q wc ⟨rfl, ⟨nd, rfl⟩⟩
  replace HB := Aside0.mk (pw_below_drewN HB.out nd)
  go_wp2_with fail
  go_ret2
  exact ⟨by simp [hv, S4.out, V.out], HB.out⟩
 | month r1 r2 h hm =>
  have x1 : (r.a0 == 1) = false := beq_eq_false_iff_ne.2 (by omega)
  have x2 : (r.a0 == 2) = false := beq_eq_false_iff_ne.2 (by omega)
  have x3 : (r.a0 == 3) = true := beq_iff_eq.2 (by omega)
  have HM := Aside0.mk hm; clear h hm
  go_wp2_with fail
  refine (match_month.calls k y m dd n r1 r2 _ HM.out).mono ?_
  rintro q wc ⟨rfl, hb⟩
  replace HB := Aside0.mk (below_then HB.out HB.out.size hb)
  clear hb
  go_wp2_with fail
  go_ret2
  exact ⟨rfl, HB.out⟩
 | year r1 g2 h h1 h2 hg hg2 c0 c1 =>
  have x1 : (r.a0 == 1) = false := beq_eq_false_iff_ne.2 (by omega)
  have x2 : (r.a0 == 2) = false := beq_eq_false_iff_ne.2 (by omega)
  have x3 : (r.a0 == 3) = false := beq_eq_false_iff_ne.2 (by omega)
  obtain ⟨u, hu⟩ : ∃ u, wrap64 (y + n) = u := ⟨_, rfl⟩
  have U : u = y + n := by rw [← hu]; have := YB.out; have := NB.out; unfold wrap64; omega
  rw [← U] at hg hg2 h1 h2
  have e1 : decide (u ≥ 1) = true := decide_eq_true h1; have e2 : decide (u ≤ 9999) = true := decide_eq_true h2
  obtain ⟨v, hv⟩ : ∃ v, wrap64 (u + 1) = v := ⟨_, rfl⟩
  have V : v = u + 1 := by rw [← hv]; unfold wrap64; omega
  rw [← V] at hg2
  have s4 : wrap64 (g2 - 1) = g2 - 1 := by unfold wrap64; omega
  have HG := Aside0.mk hg; have HG2 := Aside0.mk hg2; have S4 := Aside0.mk s4; clear h h1 h2 hg hg2 c0 c1 U V s4
  go_wp2_with fail
  refine (rata_Begins.calls u r1 _ HG.out).mono ?_
  rintro q wc ⟨rfl, ⟨nd, rfl⟩⟩
  replace HB := Aside0.mk (pw_below_drewN HB.out nd)
  generalize wb.drewN nd = wc' at HB ⊢
  go_wp2_with fail
  refine (rata_Begins.calls v g2 _ HG2.out).mono ?_
  rintro q wd ⟨rfl, ⟨nd, rfl⟩⟩
  replace HB := Aside0.mk (pw_below_drewN HB.out nd)
  generalize wc'.drewN nd = wd' at HB ⊢
  go_wp2_with fail
  go_ret2
  exact ⟨by simp [S4.out], HB.out⟩
 | none h h1 =>
  have x1 : (r.a0 == 1) = false := beq_eq_false_iff_ne.2 (by omega)
  have x2 : (r.a0 == 2) = false := beq_eq_false_iff_ne.2 (by omega)
  have x3 : (r.a0 == 3) = false := beq_eq_false_iff_ne.2 (by omega)
  obtain ⟨u, hu⟩ : ∃ u, wrap64 (y + n) = u := ⟨_, rfl⟩
  have U : u = y + n := by rw [← hu]; have := YB.out; have := NB.out; unfold wrap64; omega
  rw [← U] at h1
  clear h U
  by_cases c : u ≥ 1
  ·have e1 : decide (u ≥ 1) = true := decide_eq_true c; have e2 : decide (u ≤ 9999) = false := decide_eq_false (by omega); clear c h1
   go_wp2_with fail
   go_ret2
   exact ⟨rfl, HB.out⟩
  ·have e1 : decide (u ≥ 1) = false := decide_eq_false c; clear c h1
   go_wp2_with fail
   go_ret2
   exact ⟨rfl, HB.out⟩
theorem one_C {w : World} {g : Nat} {x : Int} {t : TypeId} (h : w.heap[g]? = some (.cells #[.int .i64 x] t (0, 0))) : Kd.C (Kd.int .i64) w (some ⟨g, 0, none⟩) [x].length [x] := by
 refine Kd.C_of_reads (enc := Value.int .i64) (d := (0 : Int)) (h1 := fun _ => rfl) ⟨rfl, by simp, fun _ => ⟨_, rfl, fun j hj => ?_⟩⟩
 have hj' : j < 1 := hj
 match j, hj' with
 | 0, _ => exact (blk_cell h 0).trans rfl
/-- What Span tells: f, l, e. -/
inductive SpOk (k : Nat) (r : Ru) (fb : Bool) (b n : Int) : Int → Int → Int → Prop
 | ask (e : Int) (he : askF fb [b] = e) (ne : e ≠ 0) : SpOk k r fb b n 0 0 e
 | far (he : askF fb [b] = 0) (hn : n > 3652059 ∨ n < -3652059) : SpOk k r fb b n 0 0 2
 | ok (y m dd e r1 r2 f l : Int) (he : askF fb [b] = 0) (h : SpanOk k r b n y m dd r1 r2) (hd : rata_Date.f k b = some (y, m, dd, e)) (b1 : 1 ≤ b) (b2 : b ≤ 3652059) (n1 : -3652059 ≤ n) (n2 : n ≤ 3652059) (y1 : 1 ≤ y) (y2 : y ≤ 9999) (hfe : (if r1 < 1 then 1 else r1) = f) (hle_ : (if 3652059 < r2 then 3652059 else r2) = l) (hle : ¬ f > l) : SpOk k r fb b n f l 0
 | none (y m dd e r1 r2 f l : Int) (he : askF fb [b] = 0) (h : SpanOk k r b n y m dd r1 r2) (hd : rata_Date.f k b = some (y, m, dd, e)) (b1 : 1 ≤ b) (b2 : b ≤ 3652059) (n1 : -3652059 ≤ n) (n2 : n ≤ 3652059) (y1 : 1 ≤ y) (y2 : y ≤ 9999) (hfe : (if r1 < 1 then 1 else r1) = f) (hle_ : (if 3652059 < r2 then 3652059 else r2) = l) (hgt : f > l) : SpOk k r fb b n 0 0 2
set_option maxHeartbeats 4000000 in
set_option maxRecDepth 100000 in
theorem Span (k : Nat) (r : Ru) (p : Rp) (fb : Bool) (b n f l e : Int) (w : World) (ok : Ok r p w) (hf : FormOk k r fb) (h : SpOk k r fb b n f l e) :
  Calls Tryz.prog 9 #[.agg (agg r p), .int .i64 b, .int .i64 n] w fun q w' => q = .returned (.tuple #[.int .i64 f, .int .i64 l, .int .i64 e]) ∧ Below w.heap.size w w' := by
 have OK := Aside0.mk ok; have HF := Aside0.mk hf; clear ok hf
 have HK := Aside0.mk (blk_new w (obj r p))
 have HB := Aside0.mk (below_alloc (Below.refl w.heap.size w) (obj r p))
 go_enter Tryz.func9, Tryz.ntmps9
 go_upto_region 1 with fail
 generalize w.alloc (obj r p) = w0 at HK HB ⊢
 go_wp2_with ((with_reducible refine gate_ (.load 27 (.tmp 3)) rfl ?_); refine Kd.event_run rfl (xR (.tmp 3) (w.heap.size) r p rfl rfl _ HK.out) ?_)
 have HA := Aside0.mk (blk_new w0 (.cells #[.int .i64 b] 3 (0, 0)))
 replace HK := Aside0.mk (blk_below HK.out (below_alloc (Below.refl _ _) (.cells #[.int .i64 b] 3 (0, 0))))
 replace HB := Aside0.mk (below_alloc HB.out (.cells #[.int .i64 b] 3 (0, 0)))
 generalize w0.alloc (.cells #[.int .i64 b] 3 (0, 0)) = w1_ at HA HK HB ⊢
 refine (asked k r p fb _ 1 [b] w1_ (OK.out.below HB.out) HF.out (one_C HA.out)).mono ?_
 rintro q w2_ ⟨rfl, hb⟩
 replace HK := Aside0.mk (blk_below HK.out hb)
 replace HB := Aside0.mk (below_then HB.out HB.out.size hb)
 clear hb HA
 cases h with
 | ask e he ne => 
  rw [he]
  have n1 : (e != 0) = true := bne_iff_ne.2 ne; have n2 : (e == 0) = false := beq_eq_false_iff_ne.2 ne; clear ne he
  go_wp2_with fail
  go_ret3
  exact ⟨rfl, HB.out⟩
 | far he hn =>
  rw [he]
  clear he
  by_cases c : n > 3652059
  ·have c1 : decide (n > 3652059) = true := decide_eq_true c; clear c hn
   go_wp2_with fail
   go_ret3
   exact ⟨rfl, HB.out⟩
  ·have c1 : decide (n > 3652059) = false := decide_eq_false c; have c2 : decide (n < -3652059) = true := decide_eq_true (by omega); clear c hn
   go_wp2_with fail
   go_ret3
   exact ⟨rfl, HB.out⟩
 | ok y m dd ee r1 r2 f l he h hd b1 b2 n1 n2 y1 y2 hfe hle_ hle =>
  rw [he]
  have c1 : decide (n > 3652059) = false := decide_eq_false (by omega); have c2 : decide (n < -3652059) = false := decide_eq_false (by omega)
  have SP := Aside0.mk (fun w => span k r p b n y m dd ee r1 r2 w h hd b1 b2 n1 n2 y1 y2); clear he h hd b1 b2 n1 n2 y1 y2
  have g1 : decide (f > l) = false := decide_eq_false hle; clear hle
  have FE := Aside0.mk hfe; have LE := Aside0.mk hle_; clear hfe hle_
  go_wp2_with ((with_reducible refine gate_ (.load 27 (.tmp 3)) rfl ?_); refine Kd.event_run rfl (xR (.tmp 3) (w.heap.size) r p rfl rfl _ HK.out) ?_)
  refine (SP.out _).mono ?_
  rintro q w3_ ⟨rfl, hb⟩
  replace HB := Aside0.mk (below_then HB.out HB.out.size hb)
  clear hb
  have f1 : ∀ k k' : IntKind, Builtin.max2 (.int k r1) (.int k' 1) = pure (.int k f) := fun k k' => by rw [max2_int, FE.out]
  have f2 : ∀ k k' : IntKind, Builtin.min2 (.int k r2) (.int k' 3652059) = pure (.int k l) := fun k k' => by rw [min2_int, LE.out]
  go_wp2_with fail
  go_ret3
  exact ⟨rfl, HB.out⟩
 | none y m dd ee r1 r2 f l he h hd b1 b2 n1 n2 y1 y2 hfe hle_ hgt =>
  rw [he]
  have c1 : decide (n > 3652059) = false := decide_eq_false (by omega); have c2 : decide (n < -3652059) = false := decide_eq_false (by omega)
  have SP := Aside0.mk (fun w => span k r p b n y m dd ee r1 r2 w h hd b1 b2 n1 n2 y1 y2); clear he h hd b1 b2 n1 n2 y1 y2
  have g1 : decide (f > l) = true := decide_eq_true hgt; clear hgt
  have FE := Aside0.mk hfe; have LE := Aside0.mk hle_; clear hfe hle_
  go_wp2_with ((with_reducible refine gate_ (.load 27 (.tmp 3)) rfl ?_); refine Kd.event_run rfl (xR (.tmp 3) (w.heap.size) r p rfl rfl _ HK.out) ?_)
  refine (SP.out _).mono ?_
  rintro q w3_ ⟨rfl, hb⟩
  replace HB := Aside0.mk (below_then HB.out HB.out.size hb)
  clear hb
  have f1 : ∀ k k' : IntKind, Builtin.max2 (.int k r1) (.int k' 1) = pure (.int k f) := fun k k' => by rw [max2_int, FE.out]
  have f2 : ∀ k k' : IntKind, Builtin.min2 (.int k r2) (.int k' 3652059) = pure (.int k l) := fun k k' => by rw [min2_int, LE.out]
  go_wp2_with fail
  go_ret3
  exact ⟨rfl, HB.out⟩
end Go.Proofs.YtfdcldjoncednaaGreat.MatS
/- What the program's day arithmetic (package rata) reckons, in plain numbers. -/
namespace Go.Proofs.YtfdcldjoncednaaGreat.FunA
open Go.RowKit Go.Proofs.YtfdcldjoncednaaGreatW.PrintWords Go.Proofs.YtfdcldjoncednaaGreatW.PrintLast Go.Proofs.YtfdcldjoncednaaGreat.M Go.Proofs.YtfdcldjoncednaaGreat.Cal
def I64 (a : Int) : Prop := -9223372036854775808 ≤ a ∧ a ≤ 9223372036854775807
theorem quo (a b : Int) (hb : 0 < b) : Int.tdiv a b = if 0 ≤ a ∨ a % b = 0 then a / b else a / b + 1 := by
 rw [Int.tdiv_eq_ediv]
 have hd : b ∣ a ↔ a % b = 0 := Int.dvd_iff_emod_eq_zero
 by_cases h : 0 ≤ a ∨ a % b = 0
 ·rw [if_pos h, if_pos (h.imp id hd.2)]; omega
 ·rw [if_neg h, if_neg (fun k => h (k.imp id hd.1)), Int.sign_eq_one_of_pos hb]
theorem rem0 (a b : Int) : Int.tmod a b = 0 ↔ a % b = 0 := by
 rw [← Int.dvd_iff_tmod_eq_zero, Int.dvd_iff_emod_eq_zero]
theorem div_bd (a b : Int) (hb : 2 ≤ b) (ha : I64 a) : -4611686018427387905 ≤ a / b ∧ a / b ≤ 4611686018427387904 := by
 have h1 := Int.ediv_mul_le a (show b ≠ 0 by omega)
 have h2 := Int.lt_ediv_add_one_mul_self a (show 0 < b by omega)
 obtain ⟨ha, ha'⟩ := ha
 generalize a / b = q at *
 constructor
 ·by_cases h : 0 ≤ q + 1
  ·omega
  ·have := Int.mul_le_mul_of_nonpos_left (show q + 1 ≤ 0 by omega) hb
   omega
 ·by_cases h : q ≤ 0
  ·omega
  ·have := Int.mul_le_mul_of_nonneg_left hb (show 0 ≤ q by omega)
   omega
theorem rFloor (a b : Int) (hb : 2 ≤ b) (ha : I64 a) : rata_Floor.f a b = some (a / b) := by
 have hd := div_bd a b hb ha
 have hq := quo a b (by omega)
 unfold rata_Floor.f
 rw [if_neg (by omega)]
 by_cases h0 : a % b = 0
 ·rw [if_pos ((rem0 a b).2 h0), hq, if_pos (Or.inr h0), w64 (by omega) (by omega)]
 ·rw [if_neg (fun h => h0 ((rem0 a b).1 h)), hq]
  by_cases hn : a < 0
  ·rw [if_pos (by simp [hn]; omega), if_neg (by omega), w64 (x := a / b + 1) (by omega) (by omega), w64 (by omega) (by omega)]
   congr 1; omega
  ·rw [if_neg (by simp [hn]; omega), if_pos (by omega), w64 (by omega) (by omega)]
theorem wrap_sub (a x : Int) : wrap64 (a - wrap64 x) = wrap64 (a - x) := by unfold wrap64; omega
theorem rMod (a b : Int) (hb : 2 ≤ b) (hb' : b ≤ 4611686018427387904) (ha : I64 a) : rata_Mod.f a b = some (a % b) := by
 unfold rata_Mod.f
 have h1 := Int.emod_nonneg a (show b ≠ 0 by omega)
 have h2 := Int.emod_lt_of_pos a (show 0 < b by omega)
 rw [rFloor a b hb ha, Option.bind_some, wrap_sub, ← Int.emod_def, w64 (by omega) (by omega)]
theorem rWeekday (a : Int) (ha : I64 a) : rata_Weekday.f a = some (a % 7) := by
 unfold rata_Weekday.f; rw [rMod a 7 (by omega) (by omega) ha]; rfl
theorem rAhead (y : Int) (h : -40000 ≤ y) (h' : y ≤ 40000) : rata_ahead.f y = some (ah y) := by
 unfold rata_ahead.f
 have e : wrap64 (y - 1) = y - 1 := w64 (by omega) (by omega)
 rw [e, rFloor _ 4 (by omega) ⟨by omega, by omega⟩, rFloor _ 100 (by omega) ⟨by omega, by omega⟩, rFloor _ 400 (by omega) ⟨by omega, by omega⟩]
 simp only [Option.bind_some]
 congr 1
 unfold ah wrap64; omega
theorem ah_bd (y : Int) (h : -40000 ≤ y) (h' : y ≤ 40000) : -15000000 ≤ ah y ∧ ah y ≤ 15000000 := by unfold ah; omega
theorem rBegins (y : Int) (h : -40000 ≤ y) (h' : y ≤ 40000) : rata_Begins.f y = some (ah y + 1) := by
 have := ah_bd y h h'
 unfold rata_Begins.f
 rw [rAhead y h h', Option.bind_some, w64 (by omega) (by omega)]
/-- A day of layer 1. -/
def In (day : Int) : Prop := 1 ≤ day ∧ day ≤ 3652059
theorem rOf (day : Int) : rata_Of.f day = some (decide (1 ≤ day) && decide (day ≤ 3652059)) := by
 unfold rata_Of.f
 by_cases h : day ≥ 1
 ·rw [if_pos h, decide_eq_true (show 1 ≤ day from h)]; rfl
 ·rw [if_neg h, decide_eq_false (show ¬ 1 ≤ day from h)]; rfl
theorem rOf_yes {day : Int} (h : In day) : rata_Of.f day = some true := by
 rw [rOf, decide_eq_true h.1, decide_eq_true h.2]; rfl
end Go.Proofs.YtfdcldjoncednaaGreat.FunA
/- What the program's package rata reckons of dates, in plain numbers. -/
namespace Go.Proofs.YtfdcldjoncednaaGreat.FunC
open Go.RowKit Go.Proofs.YtfdcldjoncednaaGreatW.PrintWords Go.Proofs.YtfdcldjoncednaaGreatW.PrintLast Go.Proofs.YtfdcldjoncednaaGreat.M Go.Proofs.YtfdcldjoncednaaGreat.Cal Go.Proofs.YtfdcldjoncednaaGreat.FunA
theorem rLeap (y : Int) : rata_Leap.f y = some (decide (lp y = 1)) := by
 unfold rata_Leap.f lp
 by_cases a : y % 4 = 0
 ·rw [if_pos ((rem0 y 4).2 a), if_pos a]
  by_cases b : y % 100 = 0
  ·rw [if_pos ((rem0 y 100).2 b), if_pos b]
   by_cases c : y % 400 = 0
   ·rw [if_pos c, (rem0 y 400).2 c]; rfl
   ·rw [if_neg c]
    have : ¬ Int.tmod y 400 = 0 := fun h => c ((rem0 y 400).1 h)
    simp [this]
  ·rw [if_neg (fun h => b ((rem0 y 100).1 h)), if_neg b]; simp
 ·rw [if_neg (fun h => a ((rem0 y 4).1 h)), if_neg a]; simp
theorem rLength (k : Nat) (hk : 2 ≤ k) (y m : Int) : rata_Length.f k y m = some (dim (lp y) m) := by
 obtain ⟨k, rfl⟩ : ∃ j, k = j + 2 := ⟨k - 2, by omega⟩
 have hl := lp_01 y
 by_cases h : 1 ≤ m ∧ m ≤ 12
 ·rcases months h.1 h.2 with e | e | e | e | e | e | e | e | e | e | e | e <;> subst e <;> simp [rata_Length.f, rata_Length.j0, rata_Length.j1, dim, rLeap]
  rcases hl with e | e <;> simp [e]
 ·rw [dim_none _ _ (by omega)]
  unfold rata_Length.f
  rw [if_neg (by omega), if_neg (by omega), if_neg (by omega), if_neg (by omega), if_neg (by omega), if_neg (by omega)]
  have e12 : (m == 12) = false := beq_eq_false_iff_ne.2 (by omega)
  have e11 : (m == 11) = false := beq_eq_false_iff_ne.2 (by omega)
  rw [e12]
  simp only [rata_Length.j0]
  rw [if_neg (by simp), if_neg (by omega), if_neg (by omega), if_neg (by omega), e11]
  simp only [rata_Length.j1]
  rw [if_neg (by simp), if_neg (by omega)]
/-- A right Gregorian date. -/
def Right (y m d : Int) : Prop := 1 ≤ y ∧ y ≤ 9999 ∧ 1 ≤ d ∧ d ≤ dim (lp y) m
theorem rRight_yes (k : Nat) (hk : 2 ≤ k) (y m d : Int) (h : Right y m d) : rata_Right.f k y m d = some true := by
 unfold rata_Right.f
 rw [if_pos h.1, if_pos h.2.1, if_pos h.2.2.1, rLength k hk, Option.bind_some, decide_eq_true h.2.2.2]
theorem rGone0 (y m : Int) (hm : m ≤ 12) : ∀ (j k : Nat) (n i : Int), 1 ≤ i → i ≤ m → m - i = j → j + 2 < k → 0 ≤ n → n + 31 * j ≤ 100000 →
  rata_gone.l0 k y m n i = some (n + cum (lp y) m - cum (lp y) i) := by
 intro j
 induction j with
 | zero =>
  intro k n i h1 h2 h3 h4 h5 h6
  obtain ⟨k, rfl⟩ : ∃ j, k = j + 1 := ⟨k - 1, by omega⟩
  simp only [rata_gone.l0]
  have : i = m := by omega
  subst this
  rw [if_neg (by omega)]; congr 1; omega
 | succ j ih =>
  intro k n i h1 h2 h3 h4 h5 h6
  obtain ⟨k, rfl⟩ : ∃ j, k = j + 1 := ⟨k - 1, by omega⟩
  have hd := dim_lo (lp y) i (lp_01 y) h1 (by omega)
  have hc := cum_succ (lp y) i h1 (by omega)
  simp only [rata_gone.l0]
  rw [if_pos (by omega), rLength k (by omega), Option.bind_some, w64 (by omega) (by omega), w64 (by omega) (by omega), ih k _ (i + 1) (by omega) (by omega) (by omega) (by omega) (by omega) (by omega)]
  congr 1; omega
theorem rGone (k : Nat) (hk : 16 ≤ k) (y m : Int) (h1 : 1 ≤ m) (h2 : m ≤ 12) : rata_gone.f k y m = some (cum (lp y) m) := by
 unfold rata_gone.f
 rw [rGone0 y m h2 (m - 1).toNat k 0 1 (by omega) h1 (by omega) (by omega) (by omega) (by omega), cum_one]; congr 1; omega
theorem rDay_yes (k : Nat) (hk : 16 ≤ k) (y m d : Int) (h : Right y m d) : rata_Day.f k y m d = some (ah y + cum (lp y) m + d, 0) := by
 have hm := dim_pos (lp y) m (by have := h.2.2; omega)
 have hd := dim_lo (lp y) m (lp_01 y) hm.1 hm.2
 have hb := ah_bd y (by have := h.1; omega) (by have := h.2.1; omega)
 have hc := cum_bd (lp_01 y) hm.1 (show m ≤ 13 by omega)
 have := h.2.2
 unfold rata_Day.f
 rw [rRight_yes k (by omega) y m d h, Option.bind_some, if_pos rfl, rAhead y (by have := h.1; omega) (by have := h.2.1; omega), rGone k hk y m hm.1 hm.2]
 simp only [Option.bind_some]
 rw [w64 (x := ah y + cum (lp y) m) (by omega) (by omega), w64 (by omega) (by omega)]
theorem rYear (day : Int) (h : -10000000 ≤ day) (h' : day ≤ 10000000) : rata_Year.f day = some (yr day) := by
 unfold rata_Year.f
 rw [w64 (x := day - 1) (by omega) (by omega), rFloor _ 146097 (by omega) ⟨by omega, by omega⟩, rMod _ 146097 (by omega) (by omega) ⟨by omega, by omega⟩]
 simp only [Option.bind_some]
 have hn : 0 ≤ (day - 1) % 146097 ∧ (day - 1) % 146097 < 146097 := by omega
 have hq : -100 ≤ (day - 1) / 146097 ∧ (day - 1) / 146097 ≤ 100 := by omega
 unfold yr
 generalize (day - 1) % 146097 = n at *
 generalize (day - 1) / 146097 = q at *
 have e1 : mn (wrap64 (Int.tdiv n 36524)) 3 = yrC n := by
  rw [Int.tdiv_eq_ediv_of_nonneg (by omega), w64 (by omega) (by omega)]; unfold mn yrC; split <;> omega
 have c0 : 0 ≤ yrC n ∧ yrC n ≤ 3 ∧ 36524 * yrC n ≤ n := by unfold yrC; omega
 rw [e1, w64 (x := 36524 * yrC n) (by omega) (by omega), w64 (x := n - 36524 * yrC n) (by omega) (by omega)]
 have e2 : n - 36524 * yrC n = yrR n := rfl
 rw [e2]
 have r0 : 0 ≤ yrR n ∧ yrR n ≤ 146097 := by unfold yrR; omega
 generalize yrR n = r at *
 generalize yrC n = c at *
 rw [Int.tdiv_eq_ediv_of_nonneg (a := r) (by omega), Int.tmod_eq_emod_of_nonneg (a := r) (by omega), Int.tdiv_eq_ediv_of_nonneg (a := r % 1461) (by omega)]
 have e3 : mn (wrap64 (r % 1461 / 365)) 3 = min (r % 1461 / 365) 3 := by
  rw [w64 (by omega) (by omega)]; unfold mn; split <;> omega
 rw [e3, w64 (x := r / 1461) (by omega) (by omega)]
 congr 1
 have m0 : 0 ≤ min (r % 1461 / 365) 3 ∧ min (r % 1461 / 365) 3 ≤ 3 := by omega
 generalize min (r % 1461 / 365) 3 = z at *
 have f0 : 0 ≤ r / 1461 ∧ r / 1461 ≤ 100 := by omega
 generalize r / 1461 = f at *
 clear e1 e2 e3
 unfold wrap64; omega
theorem yr_In {day : Int} (h : In day) : 1 ≤ yr day ∧ yr day ≤ 9999 := by
 obtain ⟨h1, h2⟩ := yr_ok day
 obtain ⟨h3, h4⟩ := h
 constructor
 ·by_cases c : yr day ≤ 0
  ·have := ah_le (show yr day + 1 ≤ 1 by omega)
   have e : ah 1 = 0 := by decide
   omega
  ·omega
 ·by_cases c : 10000 ≤ yr day
  ·have := ah_le c
   have e : ah 10000 = 3652059 := by decide
   omega
  ·omega
theorem rDate0 (y : Int) : ∀ (j k : Nat) (n m : Int), 1 ≤ m → m ≤ 12 → 12 - m = j → j + 3 < k → 1 ≤ n → n + cum (lp y) m ≤ 365 + lp y →
  ∃ m' d, rata_Date.l0 k n y m 0 = some (y, m', d, 0) ∧ m ≤ m' ∧ m' ≤ 12 ∧ 1 ≤ d ∧ d ≤ dim (lp y) m' ∧ n + cum (lp y) m = cum (lp y) m' + d := by
 intro j
 induction j with
 | zero =>
  intro k n m h1 h2 h3 h4 h5 h6
  obtain ⟨k, rfl⟩ : ∃ j, k = j + 1 := ⟨k - 1, by omega⟩
  have : m = 12 := by omega
  subst this
  have e := cum_succ (lp y) 12 (by omega) (by omega)
  have e' := cum_end (lp y)
  have e2 : (12 : Int) + 1 = 13 := rfl
  rw [e2, e'] at e
  refine ⟨12, n, ?_, by omega, by omega, by omega, by omega, by omega⟩
  simp only [rata_Date.l0]
  rw [rLength k (by omega), Option.bind_some, if_neg (by omega)]
 | succ j ih =>
  intro k n m h1 h2 h3 h4 h5 h6
  obtain ⟨k, rfl⟩ : ∃ j, k = j + 1 := ⟨k - 1, by omega⟩
  have e := cum_succ (lp y) m h1 h2
  have hd := dim_lo (lp y) m (lp_01 y) h1 h2
  have hl := lp_01 y
  have hc := cum_bd (lp_01 y) h1 (show m ≤ 13 by omega)
  simp only [rata_Date.l0]
  rw [rLength k (by omega), Option.bind_some]
  by_cases c : n > dim (lp y) m
  ·rw [if_pos c, Option.bind_some, w64 (by omega) (by omega), w64 (by omega) (by omega)]
   obtain ⟨m', d, h7, h8, h9, h10, h11, h12⟩ := ih k (n - dim (lp y) m) (m + 1) (by omega) (by omega) (by omega) (by omega) (by omega) (by omega)
   exact ⟨m', d, h7, by omega, h9, h10, h11, by omega⟩
  ·rw [if_neg c]
   exact ⟨m, n, rfl, by omega, h2, h5, by omega, by omega⟩
theorem rDate_yes (k : Nat) (hk : 20 ≤ k) (day : Int) (h : In day) : ∃ m d, rata_Date.f k day = some (yr day, m, d, 0) ∧ Is ah lp (yr day) m d day := by
 have hy := yr_In h
 obtain ⟨h1, h2⟩ := yr_ok day
 have hs := ah_succ (yr day)
 have hb := ah_bd (yr day) (by omega) (by omega)
 obtain ⟨m, d, h3, h4, h5, h6, h7, h8⟩ := rDate0 (yr day) 11 k (day - ah (yr day)) 1 (by omega) (by omega) (by omega) (by omega) (by omega) (by rw [cum_one]; omega)
 rw [cum_one] at h8
 refine ⟨m, d, ?_, ⟨h4, h5, h6, h7, by omega⟩⟩
 unfold rata_Date.f
 rw [rOf_yes h, Option.bind_some, if_pos rfl, rYear day (by have := h.1; omega) (by have := h.2; omega), Option.bind_some, rAhead _ (by omega) (by omega), Option.bind_some, w64 (by have := h.1; omega) (by have := h.2; omega), h3]
theorem rInYear_yes (day : Int) (h : In day) : rata_InYear.f day = some (day - ah (yr day), 0) := by
 have hy := yr_In h
 have hb := ah_bd (yr day) (by omega) (by omega)
 unfold rata_InYear.f
 rw [rOf_yes h, Option.bind_some, if_pos rfl, rYear day (by have := h.1; omega) (by have := h.2; omega), Option.bind_some, rAhead _ (by omega) (by omega), Option.bind_some, w64 (by have := h.1; omega) (by have := h.2; omega)]
theorem Is.right {y m d day : Int} (h : Is ah lp y m d day) (hy : 1 ≤ y) (hy' : y ≤ 9999) : Right y m d := ⟨hy, hy', h.d1, h.d2⟩
end Go.Proofs.YtfdcldjoncednaaGreat.FunC
/- What the program's package iso reckons, in plain numbers. -/
namespace Go.Proofs.YtfdcldjoncednaaGreat.FunI
open Go.RowKit Go.Proofs.YtfdcldjoncednaaGreatW.PrintWords Go.Proofs.YtfdcldjoncednaaGreatW.PrintLast Go.Proofs.YtfdcldjoncednaaGreat.M Go.Proofs.YtfdcldjoncednaaGreat.Cal Go.Proofs.YtfdcldjoncednaaGreat.FunA Go.Proofs.YtfdcldjoncednaaGreat.FunC
theorem wk_rng (y s : Int) (h : -40000 ≤ y) (h' : y ≤ 40000) : -15000002 ≤ wk y s ∧ wk y s ≤ 15000004 := by
 have := ah_bd y h h'; have := wk_bd y s; omega
theorem iFirst (y s : Int) (h : -40000 ≤ y) (h' : y ≤ 40000) (hs : 0 ≤ s) (hs' : s ≤ 6) : iso_first.f y s = some (wk y s) := by
 have hb := ah_bd y h h'
 unfold iso_first.f
 rw [rBegins y h h', Option.bind_some, w64 (x := ah y + 1 + 3) (by omega) (by omega), rWeekday _ ⟨by omega, by omega⟩, Option.bind_some, w64 (x := (ah y + 1 + 3) % 7 - s) (by omega) (by omega), rMod _ 7 (by omega) (by omega) ⟨by omega, by omega⟩, Option.bind_some, w64 (by omega) (by omega)]
 congr 1
 unfold wk; omega
def Wday (s : Int) : Prop := 0 ≤ s ∧ s ≤ 6
theorem iRight_yes (s : Int) (h : Wday s) : iso_right.f s = some true := by
 unfold iso_right.f; rw [if_pos h.1, decide_eq_true (by have := h.2; omega)]
theorem iWeeks_yes (k : Nat) (hk : 1 ≤ k) (y s : Int) (h : 0 ≤ y) (h' : y ≤ 9999) (hs : Wday s) : iso_Weeks.f k y s = some ((wk (y + 1) s - wk y s) / 7, 0) := by
 obtain ⟨k, rfl⟩ : ∃ j, k = j + 1 := ⟨k - 1, by omega⟩
 have hw := wk_bd y s; have hw' := wk_bd (y + 1) s; have ha := ah_succ y; have hl := lp_01 y
 have hr := wk_rng y s (by omega) (by omega); have hr' := wk_rng (y + 1) s (by omega) (by omega)
 unfold iso_Weeks.f
 rw [if_neg (by omega), decide_eq_false (by omega)]
 simp only [iso_Weeks.j0]
 rw [if_neg (by simp), iRight_yes s hs, Option.bind_some, if_pos rfl, w64 (x := y + 1) (by omega) (by omega), iFirst (y + 1) s (by omega) (by omega) hs.1 hs.2, iFirst y s (by omega) (by omega) hs.1 hs.2]
 simp only [Option.bind_some]
 rw [w64 (x := wk (y + 1) s - wk y s) (by omega) (by omega), Int.tdiv_eq_ediv_of_nonneg (by omega), w64 (by omega) (by omega)]
theorem iWeek0 (day s : Int) (hd : In day) (hs : Wday s) : ∀ (j k : Nat) (y : Int), y - (yr day - 1) = j → j + 1 ≤ k → y ≤ yr day + 1 → day < wk (y + 1) s →
  ∃ z, yr day - 1 ≤ z ∧ z ≤ yr day + 1 ∧ wk z s ≤ day ∧ day < wk (z + 1) s ∧ iso_Week.l0 k day s y = some (z, (day - wk z s) / 7 + 1, 0) := by
 have hy := yr_In hd
 have ho := yr_ok day
 intro j
 induction j with
 | zero =>
  intro k y h1 h2 h3 h4
  obtain ⟨k, rfl⟩ : ∃ j, k = j + 1 := ⟨k - 1, by omega⟩
  have e : y = yr day - 1 := by omega
  subst e
  have hw := wk_bd (yr day - 1) s
  have ha := ah_le (show yr day - 1 ≤ yr day by omega)
  have hr := wk_rng (yr day - 1) s (by omega) (by omega)
  have hm := hd.1; have hm' := hd.2
  refine ⟨yr day - 1, by omega, by omega, by omega, h4, ?_⟩
  simp only [iso_Week.l0]
  rw [iFirst _ s (by omega) (by omega) hs.1 hs.2, Option.bind_some, if_neg (by omega), Option.bind_some, w64 (x := day - wk (yr day - 1) s) (by omega) (by omega), Int.tdiv_eq_ediv_of_nonneg (by omega), w64 (x := (day - wk (yr day - 1) s) / 7) (by omega) (by omega), w64 (by omega) (by omega)]
 | succ j ih =>
  intro k y h1 h2 h3 h4
  obtain ⟨k, rfl⟩ : ∃ j, k = j + 1 := ⟨k - 1, by omega⟩
  have hr := wk_rng y s (by omega) (by omega)
  have hm := hd.1; have hm' := hd.2
  simp only [iso_Week.l0]
  rw [iFirst _ s (by omega) (by omega) hs.1 hs.2, Option.bind_some]
  by_cases c : day < wk y s
  ·rw [if_pos c, w64 (by omega) (by omega)]
   exact ih k (y - 1) (by omega) (by omega) (by omega) (by rw [show y - 1 + 1 = y by omega]; exact c)
  ·refine ⟨y, by omega, h3, by omega, h4, ?_⟩
   rw [if_neg c, Option.bind_some, w64 (x := day - wk y s) (by omega) (by omega), Int.tdiv_eq_ediv_of_nonneg (by omega), w64 (x := (day - wk y s) / 7) (by omega) (by omega), w64 (by omega) (by omega)]
theorem iWeek_yes (k : Nat) (hk : 4 ≤ k) (day s : Int) (hd : In day) (hs : Wday s) : ∃ z, 0 ≤ z ∧ z ≤ 10000 ∧ wk z s ≤ day ∧ day < wk (z + 1) s ∧ iso_Week.f k day s = some (z, (day - wk z s) / 7 + 1, 0) := by
 have hy := yr_In hd
 have ho := yr_ok day
 have hw := wk_bd (yr day + 1 + 1) s
 have ha := ah_le (show yr day + 1 ≤ yr day + 1 + 1 by omega)
 obtain ⟨z, h1, h2, h3, h4, h5⟩ := iWeek0 day s hd hs 2 k (yr day + 1) (by omega) (by omega) (by omega) (by omega)
 refine ⟨z, by omega, by omega, h3, h4, ?_⟩
 unfold iso_Week.f
 rw [rOf_yes hd, Option.bind_some, if_pos rfl, iRight_yes s hs, Option.bind_some, if_pos rfl, rYear day (by have := hd.1; omega) (by have := hd.2; omega), Option.bind_some, w64 (by omega) (by omega), h5]
theorem wk_le {x y : Int} (s : Int) (h : x ≤ y) : wk x s + 359 * (y - x) ≤ wk y s := by
 by_cases e : x = y
 ·subst e; omega
 ·have := ah_le h; have := wk_bd x s; have := wk_bd y s; omega
theorem wk_one {x y s day : Int} (hx : wk x s ≤ day) (hx' : day < wk (x + 1) s) (hy : wk y s ≤ day) (hy' : day < wk (y + 1) s) : x = y := by
 by_cases a : x < y
 ·have := wk_le s (show x + 1 ≤ y by omega); omega
 ·by_cases b : y < x
  ·have := wk_le s (show y + 1 ≤ x by omega); omega
  ·omega
end Go.Proofs.YtfdcldjoncednaaGreat.FunI
