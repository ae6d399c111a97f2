/- Texts of this claim, merged: Mmatchmonth, MatS, PurePer, Op. -/
import Derived.Test.YtfdcldjoncednaaGreatMgMatchPeriods1
import Derived.Test.YtfdcldjoncednaaGreatMgMatchPeriods2
import Derived.Test.YtfdcldjoncednaaGreatMgMatchPeriods15
import Derived.Test.YtfdcldjoncednaaGreatMgMatchPeriods19
import Derived.Deep.Slices
import Derived.ChangeSame
namespace Go.Proofs.YtfdcldjoncednaaGreat.M
open Go.RowKit Go.Proofs.YtfdcldjoncednaaGreatW.PrintWords Go.Proofs.YtfdcldjoncednaaGreatW.PrintLast Go.Proofs.YtfdcldjoncednaaGreatW.PrintMore
attribute [local go_sem] max2_int min2_int max_two min_two
set_option linter.unusedVariables false
set_option linter.unusedSimpArgs false
/-! ### match_month: function 55 -/
def match_month.j0 : Nat → Int → Int → Bool → Option (Int × Int)
 | 0, _, _, _ => none
 | k + 1, x7, x8, x30 => if x30 = true then (some (0, (-1))) else ((rata_Day.f k x7 x8 1).bind fun bt232 => ((rata_Length.f k x7 x8).bind fun t234 => (some (bt232.1, wrap64 ((wrap64 (bt232.1 + t234)) - 1)))))
def match_month.f (k : Nat) (a0_0 : Int) (a0_1 : Int) (a0_2 : Int) (a1 : Int) : Option (Int × Int) := (rata_Floor.f (wrap64 ((wrap64 ((wrap64 ((wrap64 (12 * a0_0)) + a0_1)) - 1)) + a1)) 12).bind fun t230 => ((rata_Mod.f (wrap64 ((wrap64 ((wrap64 ((wrap64 (12 * a0_0)) + a0_1)) - 1)) + a1)) 12).bind fun t231 => (if t230 < 1 then (match_month.j0 k t230 (wrap64 (t231 + 1)) true) else (match_month.j0 k t230 (wrap64 (t231 + 1)) (decide (t230 > 9999)))))
set_option maxHeartbeats 8000000 in
set_option maxRecDepth 100000 in
theorem match_month.calls (k : Nat) (a0_0 : Int) (a0_1 : Int) (a0_2 : Int) (a1 : Int) (r1 : Int) (r2 : Int) (w : World) (h : match_month.f k a0_0 a0_1 a0_2 a1 = some (r1, r2)) :
  Calls Tryz.prog 55 #[.agg #[.int .i64 a0_0, .int .i64 a0_1, .int .i64 a0_2], .int .i64 a1] w fun e w' => e = .returned (.tuple #[.int .i64 r1, .int .i64 r2]) ∧ Below w.heap.size w w' := by
 have hu61 := Tryz.underlying61
 have HB := Aside0.mk (Below.refl w.heap.size w)
 have H : ((rata_Floor.f (wrap64 ((wrap64 ((wrap64 ((wrap64 (12 * a0_0)) + a0_1)) - 1)) + a1)) 12).bind fun t230 => ((rata_Mod.f (wrap64 ((wrap64 ((wrap64 ((wrap64 (12 * a0_0)) + a0_1)) - 1)) + a1)) 12).bind fun t231 => (if t230 < 1 then (match_month.j0 k t230 (wrap64 (t231 + 1)) true) else (match_month.j0 k t230 (wrap64 (t231 + 1)) (decide (t230 > 9999)))))) = some (r1, r2) := h
 clear h
 replace H := Option.bind_eq_some_iff.mp H
 obtain ⟨t230, A30, H⟩ := H
 replace H : ((rata_Mod.f (wrap64 ((wrap64 ((wrap64 ((wrap64 (12 * a0_0)) + a0_1)) - 1)) + a1)) 12).bind fun t231 => (if t230 < 1 then (match_month.j0 k t230 (wrap64 (t231 + 1)) true) else (match_month.j0 k t230 (wrap64 (t231 + 1)) (decide (t230 > 9999))))) = some (r1, r2) := H
 have A3 := Aside0.mk A30
 clear A30
 replace H := Option.bind_eq_some_iff.mp H
 obtain ⟨t231, A40, H⟩ := H
 replace H : (if t230 < 1 then (match_month.j0 k t230 (wrap64 (t231 + 1)) true) else (match_month.j0 k t230 (wrap64 (t231 + 1)) (decide (t230 > 9999)))) = some (r1, r2) := H
 have A4 := Aside0.mk A40
 clear A40
 have HC5 := Aside0.mk H
 clear H
 go_enter Tryz.func55, Tryz.ntmps55
 go_upto_region 3 with (first | ((with_reducible refine gate_dst (N := 2) rfl ?_); refine box_event ?hg (N := 2) ?hd (cs := #[.int .i64 a0_0, .int .i64 a0_1, .int .i64 a0_2]) (t := 61) ?hr ?_; (case hd => rfl); (case hg => rfl); (case hr => first | (go_simp; done) | (go_simp; rfl)); intro gb229 hg w6 hbox hb; have n0_ := Aside0.mk (below_step (by repeat (first | (with_reducible first | exact HB.out | apply below_alloc | apply pw_below_drewN | apply below_drew1) | exact HB.out)) hb); have n1_ := Aside0.mk (hbox); have n2_ := Aside0.mk ((by rw [hg]; exact (below_size (by repeat (first | (with_reducible first | exact HB.out | apply below_alloc | apply pw_below_drewN | apply below_drew1) | exact HB.out))) : w.heap.size ≤ gb229)); have n3_ := Aside0.mk ((by rw [hg]; exact (below_size (by repeat (first | (with_reducible first | exact HB.out | apply below_alloc | apply pw_below_drewN | apply below_drew1) | exact HB.out))) : w.heap.size ≤ gb229)); clear HB; have HB := n0_; have BK229 := n1_; have GW229 := n2_; have GE229 := n3_; clear n0_ n1_ n2_ n3_; clear hb hbox hg; have hcz7_0 : w6.cell? ⟨gb229, 0, none⟩ = some (.int .i64 a0_0) := (blk_cell BK229.out 0).trans rfl; have hcz7_1 : w6.cell? ⟨gb229, 1, none⟩ = some (.int .i64 a0_1) := (blk_cell BK229.out 1).trans rfl; have hcz7_2 : w6.cell? ⟨gb229, 2, none⟩ = some (.int .i64 a0_2) := (blk_cell BK229.out 2).trans rfl; have hfz7_0 := blk_frozen BK229.out 0; have hfz7_1 := blk_frozen BK229.out 1; have hfz7_2 := blk_frozen BK229.out 2) | ((with_reducible refine gate_callee (f := 95) rfl ?_); refine gm_ (some 21) Tryz.func95 #[.int .i64 (wrap64 ((wrap64 ((wrap64 ((wrap64 (12 * a0_0)) + a0_1)) - 1)) + a1)), .int .i64 12] ?_; (with_reducible refine (rata_Floor.calls (wrap64 ((wrap64 ((wrap64 ((wrap64 (12 * a0_0)) + a0_1)) - 1)) + a1)) 12 t230 _ A3.out).mono ?_); rintro e w' ⟨rfl, ⟨nd, rfl⟩⟩; refine ⟨_, rfl, ?_⟩) | ((with_reducible refine gate_callee (f := 92) rfl ?_); refine gm_ (some 23) Tryz.func92 #[.int .i64 (wrap64 ((wrap64 ((wrap64 ((wrap64 (12 * a0_0)) + a0_1)) - 1)) + a1)), .int .i64 12] ?_; (with_reducible refine (rata_Mod.calls (wrap64 ((wrap64 ((wrap64 ((wrap64 (12 * a0_0)) + a0_1)) - 1)) + a1)) 12 t231 _ A4.out).mono ?_); rintro e w' ⟨rfl, ⟨nd, rfl⟩⟩; refine ⟨_, rfl, ?_⟩))
 (try simp only [Act.put, List.setIfInBounds_toArray, List.set_cons_zero, List.set_cons_succ])
 go_cut [30] (fun v30 wc => ∃ (kq : Nat) (x30_4 : Bool), v30 = .bool x30_4 ∧ Aside0 (match_month.j0 kq t230 (wrap64 (t231 + 1)) x30_4 = some (r1, r2)) ∧ Aside0 (kq ≤ k) ∧ Aside0 (wc.heap[gb229]? = some (.cells #[.int .i64 a0_0, .int .i64 a0_1, .int .i64 a0_2] 61 (0, 0))) ∧ Aside0 (Below w.heap.size w wc))
 case first =>
  have H := HC5.out
  clear HC5
  by_cases c8 : t230 < 1
  ·rw [if_pos c8] at H
   have c8b0 : decide (t230 < 1) = true := decide_eq_true c8
   clear c8
   (first | rw [c8b0] | (simp only [i64_w, i32_w]; rw [c8b0]) | skip)
   have H' := Aside0.mk H
   clear H
   go_wp2
   go_meet
   case rel => exact ⟨_, (true), (by first | rfl | (simp; done) | (simp [*]; done)), H', ⟨by first | omega | exact Nat.le_refl _⟩, ⟨by (with_reducible repeat (first | refine blk_drewN ?_ _ | refine blk_drew ?_ | refine blk_alloc ?_ _)); exact BK229.out⟩, ⟨by repeat (first | (with_reducible first | exact HB.out | apply below_alloc | apply pw_below_drewN | apply below_drew1 | refine below_set ?_ GE229.out) | exact HB.out)⟩⟩
  ·rw [if_neg c8] at H
   have c8b0 : decide (t230 < 1) = false := decide_eq_false c8
   clear c8
   (first | rw [c8b0] | (simp only [i64_w, i32_w]; rw [c8b0]) | skip)
   have H' := Aside0.mk H
   clear H
   go_wp2
   go_meet
   case rel => exact ⟨_, (decide (t230 > 9999)), (by first | rfl | (simp; done) | (simp [*]; done)), H', ⟨by first | omega | exact Nat.le_refl _⟩, ⟨by (with_reducible repeat (first | refine blk_drewN ?_ _ | refine blk_drew ?_ | refine blk_alloc ?_ _)); exact BK229.out⟩, ⟨by repeat (first | (with_reducible first | exact HB.out | apply below_alloc | apply pw_below_drewN | apply below_drew1 | refine below_set ?_ GE229.out) | exact HB.out)⟩⟩
 case rest =>
  clear HC5
  try clear p2
  try clear c5
  try clear p6
  try clear c8
  try clear c8b0
  try clear hcz7_0
  try clear hcz7_1
  try clear hcz7_2
  try clear hfz7_0
  try clear hfz7_1
  try clear hfz7_2
  obtain ⟨kq, x30_4, rfl, HA, HJ4, BK229, HB⟩ := hcut
  cases kq with
  | zero => exact absurd HA.out (by simp [match_month.j0])
  | succ kj4 =>
   have H := HA.out
   clear HA
   simp only [match_month.j0] at H
   by_cases c9 : x30_4 = true
   ·subst c9
    have H1 : (some (0, (-1))) = some (r1, r2) := by rw [if_pos rfl] at H; exact H
    clear H
    have H := H1
    clear H1
    simp only [Option.some.injEq, Prod.mk.injEq] at H
    obtain ⟨rfl, rfl⟩ := H
    go_wp2
    go_ret2
    exact ⟨by first | rfl | (simp [i64_w]; done) | (simp [errW_none, errW_some] <;> rfl) | (simp [*, errW_none, errW_some] <;> rfl), by repeat (first | (with_reducible first | exact HB.out | apply below_alloc | apply pw_below_drewN | apply below_drew1 | refine below_set ?_ GE229.out) | exact HB.out)⟩
   ·replace c9 := Bool.eq_false_iff.mpr c9
    subst c9
    have H1 : ((rata_Day.f kj4 t230 (wrap64 (t231 + 1)) 1).bind fun bt232 => ((rata_Length.f kj4 t230 (wrap64 (t231 + 1))).bind fun t234 => (some (bt232.1, wrap64 ((wrap64 (bt232.1 + t234)) - 1))))) = some (r1, r2) := by rw [if_neg (show ¬ (false = true) by decide)] at H; exact H
    clear H
    have H := H1
    clear H1
    replace H := Option.bind_eq_some_iff.mp H
    obtain ⟨⟨t232, t233⟩, A100, H⟩ := H
    replace H : ((rata_Length.f kj4 t230 (wrap64 (t231 + 1))).bind fun t234 => (some (t232, wrap64 ((wrap64 (t232 + t234)) - 1)))) = some (r1, r2) := H
    have A10 := Aside0.mk A100
    clear A100
    replace H := Option.bind_eq_some_iff.mp H
    obtain ⟨t234, A110, H⟩ := H
    replace H : (some (t232, wrap64 ((wrap64 (t232 + t234)) - 1))) = some (r1, r2) := H
    have A11 := Aside0.mk A110
    clear A110
    simp only [Option.some.injEq, Prod.mk.injEq] at H
    obtain ⟨rfl, rfl⟩ := H
    go_wp2_with (first | ((with_reducible refine gate_callee (f := 96) rfl ?_); refine gm_ (some 35) Tryz.func96 #[.agg #[.int .i64 t230, .int .i64 (wrap64 (t231 + 1)), .int .i64 1]] ?_; (with_reducible refine (rata_Day.calls kj4 t230 (wrap64 (t231 + 1)) 1 t232 t233 _ A10.out).mono ?_); rintro e w12 ⟨rfl, hb⟩; refine ⟨_, rfl, ?_⟩; have n0_ := Aside0.mk (blk_below (g := gb229) (o := .cells #[.int .i64 a0_0, .int .i64 a0_1, .int .i64 a0_2] 61 (0, 0)) (by (with_reducible repeat (first | refine blk_drewN ?_ _ | refine blk_drew ?_ | refine blk_alloc ?_ _)); exact BK229.out) hb); have n1_ := Aside0.mk (below_step (by repeat (first | (with_reducible first | exact HB.out | apply below_alloc | apply pw_below_drewN | apply below_drew1 | refine below_set ?_ GE229.out) | exact HB.out)) hb); clear BK229; clear HB; have BK229 := n0_; have HB := n1_; clear n0_ n1_; (try clear hb); (try clear hb2); (try clear hk); (try clear hi)) | ((with_reducible refine gate_callee (f := 54) rfl ?_); refine gm_ (some 42) Tryz.func54 #[.int .i64 t230, .int .i64 (wrap64 (t231 + 1))] ?_; (with_reducible refine (rata_Length.calls kj4 t230 (wrap64 (t231 + 1)) t234 _ A11.out).mono ?_); rintro e w' ⟨rfl, ⟨nd, rfl⟩⟩; refine ⟨_, rfl, ?_⟩))
    go_ret2
    exact ⟨by first | rfl | (simp [i64_w]; done) | (simp [errW_none, errW_some] <;> rfl) | (simp [*, errW_none, errW_some] <;> rfl), by repeat (first | (with_reducible first | exact HB.out | apply below_alloc | apply pw_below_drewN | apply below_drew1 | refine below_set ?_ GE229.out) | exact HB.out)⟩

end Go.Proofs.YtfdcldjoncednaaGreat.M
/- match.Period, match.span, match.Span. (Written by gen_mats.py.) -/
namespace Go.Proofs.YtfdcldjoncednaaGreat.MatS
open Go.RowKit Go.Proofs.YtfdcldjoncednaaGreatW.PrintWords Go.Proofs.YtfdcldjoncednaaGreatW.PrintLast Go.Proofs.YtfdcldjoncednaaGreatW.PrintMore Go.Proofs.YtfdcldjoncednaaGreat.M Go.Proofs.YtfdcldjoncednaaGreat.Ru Go.Proofs.YtfdcldjoncednaaGreat.MatD Go.Proofs.YtfdcldjoncednaaGreat.MatP Go.Proofs.YtfdcldjoncednaaGreat.MatG
set_option linter.unusedVariables false
set_option linter.unusedSimpArgs false
attribute [local go_sem] max2_int min2_int max_two min_two
def Tp4 : Bool × List (List Nat × List Nat) := (true, [([], []), ([], []), ([1], [1]), ([], []), ([3, 2], [3]), ([0, 2, 4, 4], [0, 2, 4]), ([5, 5, 0, 1, 2, 3, 4, 5], [5]), ([6, 0, 1, 2, 3, 4, 5, 6], [])])
def Bp4 : List Nat := [0, 0, 2, 0, 14, 31, 63, 127]
theorem tabp4 : rtab .any (opsOf Tryz.f8 4) = Tp4 := by kernel_rfl
theorem bitsp4 : waitsOk Tp4.2 Bp4 = true := by kernel_rfl
set_option maxHeartbeats 4000000 in
set_option maxRecDepth 100000 in
theorem periodNo (k : Nat) (r : Ru) (p : Rp) (fb : Bool) (b d e : Int) (w : World) (ok : Ok r p w) (hf : FormOk k r fb) (he : askF fb [b, d] = e) (ne : e ≠ 0) :
  Calls Tryz.prog 8 #[.agg (agg r p), .int .i64 b, .int .i64 d] w fun q w' => q = .returned (.tuple #[.int .i64 0, .int .i64 e]) ∧ Below w.heap.size w w' := by
 have OK := Aside0.mk ok; have HF := Aside0.mk hf; have HE := Aside0.mk he; clear ok hf he
 have n1 : (e != 0) = true := bne_iff_ne.2 ne; have n2 : (e == 0) = false := beq_eq_false_iff_ne.2 ne; clear ne
 have HK := Aside0.mk (blk_new w (obj r p))
 have HB := Aside0.mk (below_alloc (Below.refl w.heap.size w) (obj r p))
 go_enter Tryz.func8, Tryz.ntmps8
 go_upto_region 1 with fail
 generalize w.alloc (obj r p) = w0 at HK HB ⊢
 go_wp2_with ((with_reducible refine gate_ (.load 27 (.tmp 3)) rfl ?_); refine Kd.event_run rfl (xR (.tmp 3) (w.heap.size) r p rfl rfl _ HK.out) ?_)
 have HA := Aside0.mk (blk_new w0 (.cells #[.int .i64 b, .int .i64 d] 3 (0, 0)))
 replace HK := Aside0.mk (blk_below HK.out (below_alloc (Below.refl _ _) (.cells #[.int .i64 b, .int .i64 d] 3 (0, 0))))
 replace HB := Aside0.mk (below_alloc HB.out (.cells #[.int .i64 b, .int .i64 d] 3 (0, 0)))
 generalize w0.alloc (.cells #[.int .i64 b, .int .i64 d] 3 (0, 0)) = w1_ at HA HK HB ⊢
 refine (asked k r p fb _ 2 [b, d] w1_ (OK.out.below HB.out) HF.out (pair_C HA.out)).mono ?_
 rintro q w2_ ⟨rfl, hb⟩
 rw [HE.out]
 replace HK := Aside0.mk (blk_below HK.out hb)
 replace HB := Aside0.mk (below_then HB.out HB.out.size hb)
 clear hb HA
 go_wp2_with fail
 go_ret2
 exact ⟨rfl, HB.out⟩
set_option maxHeartbeats 4000000 in
set_option maxRecDepth 100000 in
theorem periodYes (k : Nat) (r : Ru) (p : Rp) (fb : Bool) (b d w1 w2 : Int) (x y : Fa) (w : World) (ok : Ok r p w) (hf : FormOk k r fb) (he : askF fb [b, d] = 0) (h1 : dayOf k b x) (h2 : dayOf k d y) (h3 : match_weekBegin.f y.day r.a7 = some w1) (h4 : match_weekBegin.f x.day r.a7 = some w2) :
  Calls Tryz.prog 8 #[.agg (agg r p), .int .i64 b, .int .i64 d] w fun q w' => q = .returned (.tuple #[.int .i64 (perF r x y w1 w2), .int .i64 0]) ∧ Below w.heap.size w w' := by
 have OK := Aside0.mk ok; have HF := Aside0.mk hf; have HE := Aside0.mk he; clear ok hf he
 have H1 := Aside0.mk h1; have H2 := Aside0.mk h2; have H3 := Aside0.mk h3; have H4 := Aside0.mk h4; clear h1 h2 h3 h4
 have HK := Aside0.mk (blk_new w (obj r p))
 have HB := Aside0.mk (below_alloc (Below.refl w.heap.size w) (obj r p))
 go_enter Tryz.func8, Tryz.ntmps8
 go_upto_region 1 with fail
 generalize w.alloc (obj r p) = w0 at HK HB ⊢
 go_wp2_with ((with_reducible refine gate_ (.load 27 (.tmp 3)) rfl ?_); refine Kd.event_run rfl (xR (.tmp 3) (w.heap.size) r p rfl rfl _ HK.out) ?_)
 have HA := Aside0.mk (blk_new w0 (.cells #[.int .i64 b, .int .i64 d] 3 (0, 0)))
 replace HK := Aside0.mk (blk_below HK.out (below_alloc (Below.refl _ _) (.cells #[.int .i64 b, .int .i64 d] 3 (0, 0))))
 replace HB := Aside0.mk (below_alloc HB.out (.cells #[.int .i64 b, .int .i64 d] 3 (0, 0)))
 generalize w0.alloc (.cells #[.int .i64 b, .int .i64 d] 3 (0, 0)) = w1_ at HA HK HB ⊢
 refine (asked k r p fb _ 2 [b, d] w1_ (OK.out.below HB.out) HF.out (pair_C HA.out)).mono ?_
 rintro q w2_ ⟨rfl, hb⟩
 rw [HE.out]
 replace HK := Aside0.mk (blk_below HK.out hb)
 replace HB := Aside0.mk (below_then HB.out HB.out.size hb)
 clear hb HA
 go_wp2_with fail
 replace HK := Aside0.mk (blk_drew HK.out)
 replace HB := Aside0.mk (below_drew1 HB.out)
 refine start_ (n := 8) (S := fun w' => w'.heap[w.heap.size]? = some (obj r p)) (ds := []) (tt 8 0) (by kernel_rfl) rfl rfl HK.out (fun hHeld => ?_)
 refine with_tabW tabp4 bitsp4 (fun HT_ HW_ => ?_)
 clear HK
 generalize w2_.drew = w3_ at HB hHeld ⊢
 refine take_ (i := 0) (N := some 17) (v := .agg (agg r p)) (a' := ?_) (tt 8 1) rfl rfl (take_ofW HT_.out HW_.out (by kernel_rfl)) (fun _ _ _ h => h) (Or.inl ⟨by rfl, fun w' hs => xR (.tmp 3) (w.heap.size) r p rfl rfl w' hs⟩) hHeld ?_ ?_
 rotate_left
 ·simp only [Act.put, sA, sB, sC, i64_w, i32_w]
  rfl
 refine pure_ (i := 1) (N := some 18) (v := ?_) (a' := ?_) (tt 8 2) rfl rfl (any_of HT_.out (by kernel_rfl)) (fun _ _ _ h => h) (Or.inl ⟨by rfl, ?_⟩) ?_ ?_
 rotate_left
 ·intro w'
  go_simp
  with_reducible rfl
 rotate_left
 ·simp only [Act.put, sA, sB, sC, i64_w, i32_w]
  rfl
 refine pure_ (i := 3) (N := some 20) (v := ?_) (a' := ?_) #[true, true, false, true, false, false, false, false] rfl rfl (any_of HT_.out (by kernel_rfl)) (fun _ _ _ h => h) (Or.inl ⟨by rfl, ?_⟩) ?_ ?_
 rotate_left
 ·intro w'
  go_simp
  with_reducible rfl
 rotate_left
 ·simp only [Act.put, sA, sB, sC, i64_w, i32_w]
  rfl
 refine one_ (i := 2) (N := some 19) (tt 8 4) rfl rfl (one_of HT_.out (by kernel_rfl)) (by decide) (fun K hK => ?_)
 refine goes_ Tryz.func27 (by kernel_rfl) rfl #[.int .i64 b] (by rfl) rfl rfl (by (try simp only [List.map_toArray, List.map_cons, List.map_nil]); first | done | rfl) ?_
 refine (of_calls k b x _ H1.out).mono ?_
 rintro q wq0 ⟨rfl, hb⟩
 refine ⟨_, rfl, ?_⟩
 replace HB := Aside0.mk (below_then HB.out HB.out.size hb)
 refine hK.out _ _ (blk_below hHeld hb) (fun hHeld => ?_)
 clear hK K
 refine norm_ (a' := ?_) ?_ ?_
 rotate_left
 ·show Act.put _ (some 19) _ = _
  simp only [Act.put, sA, sB, sC, i64_w, i32_w]
  rfl
 refine one_ (i := 4) (N := some 21) (tt 8 5) rfl rfl (one_of HT_.out (by kernel_rfl)) (by decide) (fun K hK => ?_)
 refine goes_ Tryz.func27 (by kernel_rfl) rfl #[.int .i64 d] (by rfl) rfl rfl (by (try simp only [List.map_toArray, List.map_cons, List.map_nil]); first | done | rfl) ?_
 refine (of_calls k d y _ H2.out).mono ?_
 rintro q wq1 ⟨rfl, hb⟩
 refine ⟨_, rfl, ?_⟩
 replace HB := Aside0.mk (below_then HB.out HB.out.size hb)
 refine hK.out _ _ (blk_below hHeld hb) (fun hHeld => ?_)
 clear hK K
 refine norm_ (a' := ?_) ?_ ?_
 rotate_left
 ·show Act.put _ (some 21) _ = _
  simp only [Act.put, sA, sB, sC, i64_w, i32_w]
  rfl
 refine one_ (i := 5) (N := some 22) (tt 8 6) rfl rfl (one_of HT_.out (by kernel_rfl)) (by decide) (fun K hK => ?_)
 refine goes_ Tryz.func26 (by kernel_rfl) rfl #[.agg (agg r p), .agg (fa x), .agg (fa y)] (by rfl) rfl rfl (by (try simp only [List.map_toArray, List.map_cons, List.map_nil]); first | done | rfl) ?_
 refine (period r p x y w1 w2 H3.out H4.out _).mono ?_
 rintro q wq2 ⟨rfl, hb⟩
 refine ⟨_, rfl, ?_⟩
 replace HB := Aside0.mk (below_then HB.out HB.out.size hb)
 refine hK.out _ _ (blk_below hHeld hb) (fun hHeld => ?_)
 clear hK K
 refine norm_ (a' := ?_) ?_ ?_
 rotate_left
 ·show Act.put _ (some 22) _ = _
  simp only [Act.put, sA, sB, sC, i64_w, i32_w]
  rfl
 refine pure_ (i := 6) (N := some 6) (v := ?_) (a' := ?_) (tt 8 7) rfl rfl (any_of HT_.out (by kernel_rfl)) (fun _ _ _ h => h) (Or.inl ⟨by rfl, ?_⟩) ?_ ?_
 rotate_left
 ·intro w'
  go_simp
  with_reducible rfl
 rotate_left
 ·simp only [Act.put, sA, sB, sC, i64_w, i32_w]
  rfl
 refine pure_ (i := 7) (N := some 7) (v := ?_) (a' := ?_) (tt 8 8) rfl rfl (any_of HT_.out (by kernel_rfl)) (fun _ _ _ h => h) (Or.inl ⟨by rfl, ?_⟩) ?_ ?_
 rotate_left
 ·intro w'
  go_simp
  with_reducible rfl
 rotate_left
 ·simp only [Act.put, sA, sB, sC, i64_w, i32_w]
  rfl
 refine done_ (done_of HT_.out (by kernel_rfl)) ?_
 clear HT_ HW_
 go_wp2_with fail
 go_ret2
 exact ⟨rfl, HB.out⟩
/-- A period's first and last day, ahead of the bounds. -/
inductive SpanOk (k : Nat) (r : Ru) (b n y m dd : Int) : Int → Int → Prop
 | day (h : r.a0 = 1) : SpanOk k r b n y m dd (b + n) (b + n)
 | week (w : Int) (h : r.a0 = 2) (hw : match_weekBegin.f b r.a7 = some w) (h0 : -1000 ≤ w) (h1 : w ≤ 4000000) : SpanOk k r b n y m dd (w + 7 * n) (w + 7 * n + 6)
 | month (r1 r2 : Int) (h : r.a0 = 3) (hm : match_month.f k y m dd n = some (r1, r2)) : SpanOk k r b n y m dd r1 r2
 | year (g1 g2 : Int) (h : r.a0 = 4) (h1 : 1 ≤ y + n) (h2 : y + n ≤ 9999) (hg : rata_Begins.f (y + n) = some g1) (hg2 : rata_Begins.f (y + n + 1) = some g2) (b0 : 0 ≤ g2) (b1 : g2 ≤ 4000000) : SpanOk k r b n y m dd g1 (g2 - 1)
 | none (h : r.a0 = 4) (h1 : ¬ (1 ≤ y + n ∧ y + n ≤ 9999)) : SpanOk k r b n y m dd 0 (-1)
set_option maxHeartbeats 4000000 in
set_option maxRecDepth 100000 in
theorem span (k : Nat) (r : Ru) (p : Rp) (b n y m dd e r1 r2 : Int) (w : World) (h : SpanOk k r b n y m dd r1 r2) (hd : rata_Date.f k b = some (y, m, dd, e)) (b1 : 1 ≤ b) (b2 : b ≤ 3652059) (n1 : -3652059 ≤ n) (n2 : n ≤ 3652059) (y1 : 1 ≤ y) (y2 : y ≤ 9999) :
  Calls Tryz.prog 28 #[.agg (agg r p), .int .i64 b, .int .i64 n] w fun q w' => q = .returned (.tuple #[.int .i64 r1, .int .i64 r2]) ∧ Below w.heap.size w w' := by
 have HD := Aside0.mk hd; have BB := Aside0.mk (And.intro b1 b2); have NB := Aside0.mk (And.intro n1 n2); have YB := Aside0.mk (And.intro y1 y2); clear hd b1 b2 n1 n2 y1 y2
 have HK := Aside0.mk (blk_new w (obj r p))
 have HB := Aside0.mk (below_alloc (Below.refl w.heap.size w) (obj r p))
 go_enter Tryz.func28, Tryz.ntmps28
 go_upto_region 1 with fail
 generalize w.alloc (obj r p) = w0 at HK HB ⊢
 go_wp2_with fail
 refine (rata_Date.calls k b y m dd e _ HD.out).mono ?_
 rintro q wa ⟨rfl, hb⟩
 replace HK := Aside0.mk (blk_below HK.out hb)
 replace HB := Aside0.mk (below_then HB.out HB.out.size hb)
 clear hb
 go_upto_region 2 with fail
 replace HK := Aside0.mk (blk_below HK.out (below_alloc (Below.refl _ _) (.cells #[.int .i64 y, .int .i64 m, .int .i64 dd] 61 (0, 0))))
 have HA := Aside0.mk (blk_new wa (.cells #[.int .i64 y, .int .i64 m, .int .i64 dd] 61 (0, 0)))
 replace HB := Aside0.mk (below_alloc HB.out (.cells #[.int .i64 y, .int .i64 m, .int .i64 dd] 61 (0, 0)))
 generalize wa.alloc (.cells #[.int .i64 y, .int .i64 m, .int .i64 dd] 61 (0, 0)) = wb at HK HA HB ⊢
 generalize wa.heap.size = g at HA ⊢
 have k0 : wb.cell? ⟨w.heap.size, 0, none⟩ = some (.int .i64 r.a0) := (blk_cell HK.out 0).trans rfl
 have k7 : wb.cell? ⟨w.heap.size, 7, none⟩ = some (.int .i64 r.a7) := (blk_cell HK.out 7).trans rfl
 have d0 : wb.cell? ⟨g, 0, none⟩ = some (.int .i64 y) := (blk_cell HA.out 0).trans rfl
 have d1 : wb.cell? ⟨g, 1, none⟩ = some (.int .i64 m) := (blk_cell HA.out 1).trans rfl
 have d2 : wb.cell? ⟨g, 2, none⟩ = some (.int .i64 dd) := (blk_cell HA.out 2).trans rfl
 cases h with
 | day h =>
  have x1 : (r.a0 == 1) = true := beq_iff_eq.2 (by omega)
  have x2 : (r.a0 == 2) = false := beq_eq_false_iff_ne.2 (by omega)
  have x3 : (r.a0 == 3) = false := beq_eq_false_iff_ne.2 (by omega)
  have s1 : wrap64 (b + n) = b + n := by have := BB.out; have := NB.out; unfold wrap64; omega
  clear h
  go_wp2_with fail
  go_ret2
  exact ⟨by simp [s1], HB.out⟩
 | week wk h hw h0 h1 =>
  have x1 : (r.a0 == 1) = false := beq_eq_false_iff_ne.2 (by omega)
  have x2 : (r.a0 == 2) = true := beq_iff_eq.2 (by omega)
  have x3 : (r.a0 == 3) = false := beq_eq_false_iff_ne.2 (by omega)
  obtain ⟨u, hu⟩ : ∃ u, wrap64 (7 * n) = u := ⟨_, rfl⟩
  have U := Aside0.mk (show u = 7 * n by rw [← hu]; have := NB.out; unfold wrap64; omega)
  obtain ⟨v, hv⟩ : ∃ v, wrap64 (wk + u) = v := ⟨_, rfl⟩
  have V := Aside0.mk (show v = wk + 7 * n by rw [← hv]; have := U.out; have := NB.out; unfold wrap64; omega)
  obtain ⟨z, hz⟩ : ∃ z, wrap64 (v + 7) = z := ⟨_, rfl⟩
  have Z := Aside0.mk (show z = wk + 7 * n + 7 by rw [← hz]; have := V.out; have := NB.out; unfold wrap64; omega)
  have s4 : wrap64 (z - 1) = wk + 7 * n + 6 := by have := Z.out; have := NB.out; unfold wrap64; omega
  have HW := Aside0.mk hw; have S4 := Aside0.mk s4; clear h hw h0 h1 s4
  go_wp2_with fail
  refine (match_weekBegin.calls b r.a7 wk _ HW.out).mono ?_
  rintro q wc ⟨rfl, ⟨nd, rfl⟩⟩
  replace HB := Aside0.mk (pw_below_drewN HB.out nd)
  go_wp2_with fail
  go_ret2
  exact ⟨by simp [hv, S4.out, V.out], HB.out⟩
 | month r1 r2 h hm =>
  have x1 : (r.a0 == 1) = false := beq_eq_false_iff_ne.2 (by omega)
  have x2 : (r.a0 == 2) = false := beq_eq_false_iff_ne.2 (by omega)
  have x3 : (r.a0 == 3) = true := beq_iff_eq.2 (by omega)
  have HM := Aside0.mk hm; clear h hm
  go_wp2_with fail
  refine (match_month.calls k y m dd n r1 r2 _ HM.out).mono ?_
  rintro q wc ⟨rfl, hb⟩
  replace HB := Aside0.mk (below_then HB.out HB.out.size hb)
  clear hb
  go_wp2_with fail
  go_ret2
  exact ⟨rfl, HB.out⟩
 | year r1 g2 h h1 h2 hg hg2 c0 c1 =>
  have x1 : (r.a0 == 1) = false := beq_eq_false_iff_ne.2 (by omega)
  have x2 : (r.a0 == 2) = false := beq_eq_false_iff_ne.2 (by omega)
  have x3 : (r.a0 == 3) = false := beq_eq_false_iff_ne.2 (by omega)
  obtain ⟨u, hu⟩ : ∃ u, wrap64 (y + n) = u := ⟨_, rfl⟩
  have U : u = y + n := by rw [← hu]; have := YB.out; have := NB.out; unfold wrap64; omega
  rw [← U] at hg hg2 h1 h2
  have e1 : decide (u ≥ 1) = true := decide_eq_true h1; have e2 : decide (u ≤ 9999) = true := decide_eq_true h2
  obtain ⟨v, hv⟩ : ∃ v, wrap64 (u + 1) = v := ⟨_, rfl⟩
  have V : v = u + 1 := by rw [← hv]; unfold wrap64; omega
  rw [← V] at hg2
  have s4 : wrap64 (g2 - 1) = g2 - 1 := by unfold wrap64; omega
  have HG := Aside0.mk hg; have HG2 := Aside0.mk hg2; have S4 := Aside0.mk s4; clear h h1 h2 hg hg2 c0 c1 U V s4
  go_wp2_with fail
  refine (rata_Begins.calls u r1 _ HG.out).mono ?_
  rintro q wc ⟨rfl, ⟨nd, rfl⟩⟩
  replace HB := Aside0.mk (pw_below_drewN HB.out nd)
  generalize wb.drewN nd = wc' at HB ⊢
  go_wp2_with fail
  refine (rata_Begins.calls v g2 _ HG2.out).mono ?_
  rintro q wd ⟨rfl, ⟨nd, rfl⟩⟩
  replace HB := Aside0.mk (pw_below_drewN HB.out nd)
  generalize wc'.drewN nd = wd' at HB ⊢
  go_wp2_with fail
  go_ret2
  exact ⟨by simp [S4.out], HB.out⟩
 | none h h1 =>
  have x1 : (r.a0 == 1) = false := beq_eq_false_iff_ne.2 (by omega)
  have x2 : (r.a0 == 2) = false := beq_eq_false_iff_ne.2 (by omega)
  have x3 : (r.a0 == 3) = false := beq_eq_false_iff_ne.2 (by omega)
  obtain ⟨u, hu⟩ : ∃ u, wrap64 (y + n) = u := ⟨_, rfl⟩
  have U : u = y + n := by rw [← hu]; have := YB.out; have := NB.out; unfold wrap64; omega
  rw [← U] at h1
  clear h U
  by_cases c : u ≥ 1
  ·have e1 : decide (u ≥ 1) = true := decide_eq_true c; have e2 : decide (u ≤ 9999) = false := decide_eq_false (by omega); clear c h1
   go_wp2_with fail
   go_ret2
   exact ⟨rfl, HB.out⟩
  ·have e1 : decide (u ≥ 1) = false := decide_eq_false c; clear c h1
   go_wp2_with fail
   go_ret2
   exact ⟨rfl, HB.out⟩
theorem one_C {w : World} {g : Nat} {x : Int} {t : TypeId} (h : w.heap[g]? = some (.cells #[.int .i64 x] t (0, 0))) : Kd.C (Kd.int .i64) w (some ⟨g, 0, none⟩) [x].length [x] := by
 refine Kd.C_of_reads (enc := Value.int .i64) (d := (0 : Int)) (h1 := fun _ => rfl) ⟨rfl, by simp, fun _ => ⟨_, rfl, fun j hj => ?_⟩⟩
 have hj' : j < 1 := hj
 match j, hj' with
 | 0, _ => exact (blk_cell h 0).trans rfl
/-- What Span tells: f, l, e. -/
inductive SpOk (k : Nat) (r : Ru) (fb : Bool) (b n : Int) : Int → Int → Int → Prop
 | ask (e : Int) (he : askF fb [b] = e) (ne : e ≠ 0) : SpOk k r fb b n 0 0 e
 | far (he : askF fb [b] = 0) (hn : n > 3652059 ∨ n < -3652059) : SpOk k r fb b n 0 0 2
 | ok (y m dd e r1 r2 f l : Int) (he : askF fb [b] = 0) (h : SpanOk k r b n y m dd r1 r2) (hd : rata_Date.f k b = some (y, m, dd, e)) (b1 : 1 ≤ b) (b2 : b ≤ 3652059) (n1 : -3652059 ≤ n) (n2 : n ≤ 3652059) (y1 : 1 ≤ y) (y2 : y ≤ 9999) (hfe : (if r1 < 1 then 1 else r1) = f) (hle_ : (if 3652059 < r2 then 3652059 else r2) = l) (hle : ¬ f > l) : SpOk k r fb b n f l 0
 | none (y m dd e r1 r2 f l : Int) (he : askF fb [b] = 0) (h : SpanOk k r b n y m dd r1 r2) (hd : rata_Date.f k b = some (y, m, dd, e)) (b1 : 1 ≤ b) (b2 : b ≤ 3652059) (n1 : -3652059 ≤ n) (n2 : n ≤ 3652059) (y1 : 1 ≤ y) (y2 : y ≤ 9999) (hfe : (if r1 < 1 then 1 else r1) = f) (hle_ : (if 3652059 < r2 then 3652059 else r2) = l) (hgt : f > l) : SpOk k r fb b n 0 0 2
set_option maxHeartbeats 4000000 in
set_option maxRecDepth 100000 in
theorem Span (k : Nat) (r : Ru) (p : Rp) (fb : Bool) (b n f l e : Int) (w : World) (ok : Ok r p w) (hf : FormOk k r fb) (h : SpOk k r fb b n f l e) :
  Calls Tryz.prog 9 #[.agg (agg r p), .int .i64 b, .int .i64 n] w fun q w' => q = .returned (.tuple #[.int .i64 f, .int .i64 l, .int .i64 e]) ∧ Below w.heap.size w w' := by
 have OK := Aside0.mk ok; have HF := Aside0.mk hf; clear ok hf
 have HK := Aside0.mk (blk_new w (obj r p))
 have HB := Aside0.mk (below_alloc (Below.refl w.heap.size w) (obj r p))
 go_enter Tryz.func9, Tryz.ntmps9
 go_upto_region 1 with fail
 generalize w.alloc (obj r p) = w0 at HK HB ⊢
 go_wp2_with ((with_reducible refine gate_ (.load 27 (.tmp 3)) rfl ?_); refine Kd.event_run rfl (xR (.tmp 3) (w.heap.size) r p rfl rfl _ HK.out) ?_)
 have HA := Aside0.mk (blk_new w0 (.cells #[.int .i64 b] 3 (0, 0)))
 replace HK := Aside0.mk (blk_below HK.out (below_alloc (Below.refl _ _) (.cells #[.int .i64 b] 3 (0, 0))))
 replace HB := Aside0.mk (below_alloc HB.out (.cells #[.int .i64 b] 3 (0, 0)))
 generalize w0.alloc (.cells #[.int .i64 b] 3 (0, 0)) = w1_ at HA HK HB ⊢
 refine (asked k r p fb _ 1 [b] w1_ (OK.out.below HB.out) HF.out (one_C HA.out)).mono ?_
 rintro q w2_ ⟨rfl, hb⟩
 replace HK := Aside0.mk (blk_below HK.out hb)
 replace HB := Aside0.mk (below_then HB.out HB.out.size hb)
 clear hb HA
 cases h with
 | ask e he ne => 
  rw [he]
  have n1 : (e != 0) = true := bne_iff_ne.2 ne; have n2 : (e == 0) = false := beq_eq_false_iff_ne.2 ne; clear ne he
  go_wp2_with fail
  go_ret3
  exact ⟨rfl, HB.out⟩
 | far he hn =>
  rw [he]
  clear he
  by_cases c : n > 3652059
  ·have c1 : decide (n > 3652059) = true := decide_eq_true c; clear c hn
   go_wp2_with fail
   go_ret3
   exact ⟨rfl, HB.out⟩
  ·have c1 : decide (n > 3652059) = false := decide_eq_false c; have c2 : decide (n < -3652059) = true := decide_eq_true (by omega); clear c hn
   go_wp2_with fail
   go_ret3
   exact ⟨rfl, HB.out⟩
 | ok y m dd ee r1 r2 f l he h hd b1 b2 n1 n2 y1 y2 hfe hle_ hle =>
  rw [he]
  have c1 : decide (n > 3652059) = false := decide_eq_false (by omega); have c2 : decide (n < -3652059) = false := decide_eq_false (by omega)
  have SP := Aside0.mk (fun w => span k r p b n y m dd ee r1 r2 w h hd b1 b2 n1 n2 y1 y2); clear he h hd b1 b2 n1 n2 y1 y2
  have g1 : decide (f > l) = false := decide_eq_false hle; clear hle
  have FE := Aside0.mk hfe; have LE := Aside0.mk hle_; clear hfe hle_
  go_wp2_with ((with_reducible refine gate_ (.load 27 (.tmp 3)) rfl ?_); refine Kd.event_run rfl (xR (.tmp 3) (w.heap.size) r p rfl rfl _ HK.out) ?_)
  refine (SP.out _).mono ?_
  rintro q w3_ ⟨rfl, hb⟩
  replace HB := Aside0.mk (below_then HB.out HB.out.size hb)
  clear hb
  have f1 : ∀ k k' : IntKind, Builtin.max2 (.int k r1) (.int k' 1) = pure (.int k f) := fun k k' => by rw [max2_int, FE.out]
  have f2 : ∀ k k' : IntKind, Builtin.min2 (.int k r2) (.int k' 3652059) = pure (.int k l) := fun k k' => by rw [min2_int, LE.out]
  go_wp2_with fail
  go_ret3
  exact ⟨rfl, HB.out⟩
 | none y m dd ee r1 r2 f l he h hd b1 b2 n1 n2 y1 y2 hfe hle_ hgt =>
  rw [he]
  have c1 : decide (n > 3652059) = false := decide_eq_false (by omega); have c2 : decide (n < -3652059) = false := decide_eq_false (by omega)
  have SP := Aside0.mk (fun w => span k r p b n y m dd ee r1 r2 w h hd b1 b2 n1 n2 y1 y2); clear he h hd b1 b2 n1 n2 y1 y2
  have g1 : decide (f > l) = true := decide_eq_true hgt; clear hgt
  have FE := Aside0.mk hfe; have LE := Aside0.mk hle_; clear hfe hle_
  go_wp2_with ((with_reducible refine gate_ (.load 27 (.tmp 3)) rfl ?_); refine Kd.event_run rfl (xR (.tmp 3) (w.heap.size) r p rfl rfl _ HK.out) ?_)
  refine (SP.out _).mono ?_
  rintro q w3_ ⟨rfl, hb⟩
  replace HB := Aside0.mk (below_then HB.out HB.out.size hb)
  clear hb
  have f1 : ∀ k k' : IntKind, Builtin.max2 (.int k r1) (.int k' 1) = pure (.int k f) := fun k k' => by rw [max2_int, FE.out]
  have f2 : ∀ k k' : IntKind, Builtin.min2 (.int k r2) (.int k' 3652059) = pure (.int k l) := fun k k' => by rw [min2_int, LE.out]
  go_wp2_with fail
  go_ret3
  exact ⟨rfl, HB.out⟩
end Go.Proofs.YtfdcldjoncednaaGreat.MatS
/- A period's days by the program are those of the document, and a day lies in its period: plain. -/
namespace Go.Proofs.YtfdcldjoncednaaGreat.PurePer
open Go.RowKit Go.Proofs.YtfdcldjoncednaaGreatW.PrintWords Go.Proofs.YtfdcldjoncednaaGreatW.PrintLast Go.Proofs.YtfdcldjoncednaaGreat.M Go.Proofs.YtfdcldjoncednaaGreat.Cal Go.Proofs.YtfdcldjoncednaaGreat.FunA Go.Proofs.YtfdcldjoncednaaGreat.FunB Go.Proofs.YtfdcldjoncednaaGreat.FunC Go.Proofs.YtfdcldjoncednaaGreat.FunD Go.Proofs.YtfdcldjoncednaaGreat.FunI Go.Proofs.YtfdcldjoncednaaGreat.Ru Go.Proofs.YtfdcldjoncednaaGreat.MatD Go.Proofs.YtfdcldjoncednaaGreat.MatP Go.Proofs.YtfdcldjoncednaaGreat.MatG Go.Proofs.YtfdcldjoncednaaGreat.MatS Go.Proofs.YtfdcldjoncednaaGreat.RefS Go.Proofs.YtfdcldjoncednaaGreat.PureW Go.Proofs.YtfdcldjoncednaaGreat.RecG
set_option linter.unusedVariables false
set_option linter.unusedSimpArgs false
/-- The period of a day. -/
def perC (r : Ru) (b d ay am dy dm : Int) : Int := if r.a0 = 1 then d - b else if r.a0 = 2 then (wbg d r.a7 - wbg b r.a7) / 7 else if r.a0 = 3 then 12 * (dy - ay) + dm - am else dy - ay
theorem wbg_bd (d s : Int) : d - 6 ≤ wbg d s ∧ wbg d s ≤ d ∧ (wbg d s - s) % 7 = 0 := by unfold wbg; omega
theorem per_eq (r : Ru) (b d ay am dy dm : Int) (hb : In b) (hd : In d) (a1 : 1 ≤ ay) (a2 : ay ≤ 9999) (m1 : 1 ≤ am) (m2 : am ≤ 12) (d1 : 1 ≤ dy) (d2 : dy ≤ 9999) (n1 : 1 ≤ dm) (n2 : dm ≤ 12) : RefPp.perR r b d ay am dy dm (wbg d r.a7) (wbg b r.a7) = perC r b d ay am dy dm := by
 have hb1 := hb.1; have hb2 := hb.2; have hd1 := hd.1; have hd2 := hd.2
 have u := wbg_bd b r.a7
 have v := wbg_bd d r.a7
 unfold RefPp.perR perC
 rw [w64 (x := d - b) (by omega) (by omega), w64 (x := wbg d r.a7 - wbg b r.a7) (by omega) (by omega), quo _ 7 (by omega), if_pos (Or.inr (by omega)), w64 (x := (wbg d r.a7 - wbg b r.a7) / 7) (by omega) (by omega), w64 (x := dy - ay) (by omega) (by omega), w64 (x := 12 * (dy - ay)) (by omega) (by omega), w64 (x := 12 * (dy - ay) + dm) (by omega) (by omega), w64 (x := 12 * (dy - ay) + dm - am) (by omega) (by omega)]
theorem nest {y m n q : Int} (y1 : 1 ≤ y) (y9 : y ≤ 9999) (m1 : 1 ≤ m) (m2 : m ≤ 12) (n1 : -4000000 ≤ n) (n2 : n ≤ 4000000) (hq : 12 * y + m - 1 + n = q) :
  wrap64 (12 * y) = 12 * y ∧ wrap64 (12 * y + m) = 12 * y + m ∧ wrap64 (12 * y + m - 1) = 12 * y + m - 1 ∧ wrap64 (12 * y + m - 1 + n) = q ∧ I64 q := by
 refine ⟨w64 (by omega) (by omega), w64 (by omega) (by omega), w64 (by omega) (by omega), ?_, ⟨by omega, by omega⟩⟩
 rw [w64 (by omega) (by omega)]; exact hq
theorem month_in (k : Nat) (hk : 20 ≤ k) (y m dd n q : Int) (y1 : 1 ≤ y) (y9 : y ≤ 9999) (m1 : 1 ≤ m) (m2 : m ≤ 12) (n1 : -4000000 ≤ n) (n2 : n ≤ 4000000) (hq : 12 * y + m - 1 + n = q) (h1 : 1 ≤ q / 12) (h2 : q / 12 ≤ 9999) :
  match_month.f k y m dd n = some (ah (q / 12) + cum (lp (q / 12)) (q % 12 + 1) + 1, ah (q / 12) + cum (lp (q / 12)) (q % 12 + 1) + 1 + dim (lp (q / 12)) (q % 12 + 1) - 1) := by
 obtain ⟨e1, e2, e3, e4, iq⟩ := nest y1 y9 m1 m2 n1 n2 hq
 have ab := ah_bd (q / 12) (by omega) (by omega)
 have cb := cum_bd (l := lp (q / 12)) (m := q % 12 + 1) (lp_01 _) (by omega) (by omega)
 have db := dim_le (q / 12) (q % 12 + 1) (by omega) (by omega)
 unfold match_month.f
 rw [e1, e2, e3, e4, rFloor q 12 (by omega) iq, Option.bind_some, rMod q 12 (by omega) (by omega) iq, Option.bind_some, if_neg (by omega), w64 (x := q % 12 + 1) (by omega) (by omega), decide_eq_false (by omega)]
 obtain ⟨k, rfl⟩ : ∃ j, k = j + 1 := ⟨k - 1, by omega⟩
 simp only [match_month.j0]
 rw [if_neg (by simp), rDay_yes k (by omega) (q / 12) (q % 12 + 1) 1 ⟨h1, h2, by omega, by omega⟩, Option.bind_some, rLength k (by omega), Option.bind_some]
 simp only []
 rw [w64 (x := ah (q / 12) + cum (lp (q / 12)) (q % 12 + 1) + 1 + dim (lp (q / 12)) (q % 12 + 1)) (by omega) (by omega), w64 (by omega) (by omega)]
theorem month_out (k : Nat) (hk : 20 ≤ k) (y m dd n q : Int) (y1 : 1 ≤ y) (y9 : y ≤ 9999) (m1 : 1 ≤ m) (m2 : m ≤ 12) (n1 : -4000000 ≤ n) (n2 : n ≤ 4000000) (hq : 12 * y + m - 1 + n = q) (h : ¬ (1 ≤ q / 12 ∧ q / 12 ≤ 9999)) :
  match_month.f k y m dd n = some (0, -1) := by
 obtain ⟨e1, e2, e3, e4, iq⟩ := nest y1 y9 m1 m2 n1 n2 hq
 unfold match_month.f
 rw [e1, e2, e3, e4, rFloor q 12 (by omega) iq, Option.bind_some, rMod q 12 (by omega) (by omega) iq, Option.bind_some, w64 (x := q % 12 + 1) (by omega) (by omega)]
 obtain ⟨k, rfl⟩ : ∃ j, k = j + 1 := ⟨k - 1, by omega⟩
 by_cases c : q / 12 < 1
 ·rw [if_pos c]; simp only [match_month.j0]; rw [if_pos trivial]
 ·rw [if_neg c, decide_eq_true (by omega)]; simp only [match_month.j0]; rw [if_pos trivial]
/-- A period's first and last day, by both, ahead of the bounds. -/
theorem raw (k : Nat) (hk : 130 ≤ k) (r : Ru) (f : Frm r) (b : Int) (hb : In b) (y m dd : Int) (y1 : 1 ≤ y) (y9 : y ≤ 9999) (ib : Is ah lp y m dd b) (n : Int) (n1 : -4000000 ≤ n) (n2 : n ≤ 4000000) :
  ∃ r1 r2, SpanR k r b n y m r1 r2 ∧ (-3652059 ≤ n → n ≤ 3652059 → SpanOk k r b n y m dd r1 r2) ∧ (n < -3652059 ∨ 3652059 < n → r1 > 3652059 ∨ r2 < 1 ∨ r2 < r1) ∧ ∀ d y' m' d', In d → 1 ≤ y' → y' ≤ 9999 → Is ah lp y' m' d' d → perC r b d y m y' m' = n → r1 ≤ d ∧ d ≤ r2 := by
 have f1 := f.f1; have f4 := f.f4
 have hb1 := hb.1; have hb2 := hb.2
 have m1 := ib.m1; have m2 := ib.m2
 by_cases c1 : r.a0 = 1
 ·refine ⟨b + n, b + n, .day _ c1 (w64 (by omega) (by omega)), fun _ _ => .day c1, fun h => by omega, fun d y' m' d' hd _ _ _ hp => ?_⟩
  unfold perC at hp; rw [if_pos c1] at hp; omega
 by_cases c2 : r.a0 = 2
 ·have u := wbg_bd b r.a7
  refine ⟨wbg b r.a7 + 7 * n, wbg b r.a7 + 7 * n + 6, .week (wbg b r.a7) (7 * n) _ _ c2 (wb_r k (by omega) b r.a7 hb f.s0 f.s6) (w64 (by omega) (by omega)) (w64 (by omega) (by omega)) (w64 (by omega) (by omega)), fun _ _ => .week (wbg b r.a7) c2 (wb_p b r.a7 hb f.s0 f.s6) (by omega) (by omega), fun h => by omega, fun d y' m' d' hd _ _ _ hp => ?_⟩
  have v := wbg_bd d r.a7
  unfold perC at hp; rw [if_neg c1, if_pos c2] at hp; omega
 by_cases c3 : r.a0 = 3
 ·obtain ⟨q, hq⟩ : ∃ q, 12 * y + m - 1 + n = q := ⟨_, rfl⟩
  obtain ⟨e1, e2, e3, e4, iq⟩ := nest y1 y9 m1 m2 n1 n2 hq
  have e5 : wrap64 (q % 12 + 1) = q % 12 + 1 := w64 (by omega) (by omega)
  by_cases g : 1 ≤ q / 12 ∧ q / 12 ≤ 9999
  ·have ab := ah_bd (q / 12) (by omega) (by omega)
   have cb := cum_bd (l := lp (q / 12)) (m := q % 12 + 1) (lp_01 _) (by omega) (by omega)
   have db := dim_le (q / 12) (q % 12 + 1) (by omega) (by omega)
   refine ⟨_, _, .month (12 * y) (12 * y + m) (12 * y + m - 1) q (q / 12) (q % 12) (q % 12 + 1) _ _ (ah (q / 12) + cum (lp (q / 12)) (q % 12 + 1) + 1) (ah (q / 12) + cum (lp (q / 12)) (q % 12 + 1) + 1 + dim (lp (q / 12)) (q % 12 + 1) - 1) c3 e1 e2 e3 e4 (fFloor q 12 (by omega) (by omega) iq) (fMod q 12 (by omega) (by omega) iq) e5 g.1 g.2 (fixedM k (by omega) _ _ (by omega) (by omega) (by omega) (by omega)) (lengthM k (by omega) _ _ (by omega) (by omega)) (w64 (by omega) (by omega)) (w64 (by omega) (by omega)),
    fun _ _ => .month _ _ c3 (month_in k (by omega) y m dd n q y1 y9 m1 m2 n1 n2 hq g.1 g.2), fun h => by omega, fun d y' m' d' hd z1 z9 id_ hp => ?_⟩
   unfold perC at hp; rw [if_neg c1, if_neg c2, if_pos c3] at hp
   have p1 := id_.m1; have p2 := id_.m2; have p3 := id_.d1; have p4 := id_.d2; have p5 := id_.e
   have q1 : q / 12 = y' := by omega
   have q2 : q % 12 + 1 = m' := by omega
   rw [q1, q2]; omega
  ·refine ⟨0, -1, .mnone (12 * y) (12 * y + m) (12 * y + m - 1) q (q / 12) (q % 12) (q % 12 + 1) c3 e1 e2 e3 e4 (fFloor q 12 (by omega) (by omega) iq) (fMod q 12 (by omega) (by omega) iq) e5 g,
    fun _ _ => .month _ _ c3 (month_out k (by omega) y m dd n q y1 y9 m1 m2 n1 n2 hq g), fun h => by omega, fun d y' m' d' hd z1 z9 id_ hp => ?_⟩
   unfold perC at hp; rw [if_neg c1, if_neg c2, if_pos c3] at hp
   have p1 := id_.m1; have p2 := id_.m2
   omega
 have c4 : r.a0 = 4 := by omega
 by_cases g : 1 ≤ y + n ∧ y + n ≤ 9999
 ·have ab := ah_bd (y + n) (by omega) (by omega)
  have ab2 := ah_bd (y + n + 1) (by omega) (by omega)
  have am := ah_le (show (1 : Int) ≤ y + n + 1 by omega)
  have am2 := ah_le (show y + n + 1 ≤ 10000 by omega)
  have a0 : ah 1 = 0 := by decide
  have a1 : ah 10000 = 3652059 := by decide
  refine ⟨_, _, .year (y + n) (y + n + 1) (ah (y + n + 1) + 1) (ah (y + n) + 1) (ah (y + n + 1) + 1 - 1) c4 (w64 (by omega) (by omega)) g.1 g.2 (fixed1 k (by omega) _ (by omega) (by omega)) (w64 (by omega) (by omega)) (fixed1 k (by omega) _ (by omega) (by omega)) (w64 (by omega) (by omega)),
   fun _ _ => .year _ _ c4 g.1 g.2 (rBegins _ (by omega) (by omega)) (rBegins _ (by omega) (by omega)) (by omega) (by omega), fun h => by omega, fun d y' m' d' hd z1 z9 id_ hp => ?_⟩
  unfold perC at hp; rw [if_neg c1, if_neg c2, if_neg c3] at hp
  have yy := Is.year greg id_
  rw [show y + n = y' by omega]; omega
 ·refine ⟨0, -1, .ynone (y + n) c4 (w64 (by omega) (by omega)) g, fun _ _ => .none c4 g, fun h => by omega, fun d y' m' d' hd z1 z9 id_ hp => ?_⟩
  unfold perC at hp; rw [if_neg c1, if_neg c2, if_neg c3] at hp
  omega
/-- What the program's Period and Span, and the document's, answer. -/
abbrev PerP (r : Ru) (b d P e : Int) : Prop := ∀ (p : Rp) (w : World), Ok r p w → Calls Tryz.prog 8 #[.agg (agg r p), .int .i64 b, .int .i64 d] w fun q w' => q = .returned (.tuple #[.int .i64 P, .int .i64 e]) ∧ Below w.heap.size w w'
abbrev SpanP (r : Ru) (b n f l e : Int) : Prop := ∀ (p : Rp) (w : World), Ok r p w → Calls Tryz.prog 9 #[.agg (agg r p), .int .i64 b, .int .i64 n] w fun q w' => q = .returned (.tuple #[.int .i64 f, .int .i64 l, .int .i64 e]) ∧ Below w.heap.size w w'
abbrev PerD (r : Ru) (b d P : Int) : Prop := ∀ (p : Rp) (w : World), Calls Tryz.prog 11 #[.agg (agg r p), .int .i64 b, .int .i64 d] w fun q w' => q = .returned (.int .i64 P) ∧ Below w.heap.size w w'
abbrev SpanD (r : Ru) (b n F L : Int) : Prop := ∀ (p : Rp) (w : World), Calls Tryz.prog 12 #[.agg (agg r p), .int .i64 b, .int .i64 n] w fun q w' => q = .returned (.tuple #[.int .i64 F, .int .i64 L]) ∧ Below w.heap.size w w'
theorem isDay_in {b : Int} (h : isDay b = true) : In b := by unfold isDay at h; simp at h; exact h
theorem ask1 (fb : Bool) (b : Int) : askF fb [b] = askF fb [b, b] := by
 unfold askF; cases fb
 ·rfl
 ·rw [if_pos rfl, if_pos rfl]; cases h : isDay b <;> simp [h]
theorem zero_of {fb : Bool} {b d : Int} (h : askF fb [b, d] = 0) : fb = true ∧ In b ∧ In d := by
 rw [ask2] at h
 cases fb with
 | false => simp at h
 | true =>
  rw [if_pos rfl] at h
  cases q : isDay b with
  | false => rw [q] at h; simp at h
  | true =>
   rw [q, if_pos rfl] at h
   cases q2 : isDay d with
   | false => rw [q2] at h; simp at h
   | true => exact ⟨rfl, isDay_in q, isDay_in q2⟩
theorem spans (k : Nat) (hk : 130 ≤ k) (r : Ru) (f : Frm r) (fb : Bool) (hf : FormOk k r fb) (b : Int) (he : askF fb [b] = 0) (hb : In b) (n : Int) (n1 : -4000000 ≤ n) (n2 : n ≤ 4000000) :
  ∃ F L : Int, SpanD r b n F L ∧ (L < F → SpanP r b n 0 0 2) ∧ (¬ L < F → SpanP r b n F L 0) ∧ ∀ y m dd, Is ah lp y m dd b → ∀ d y' m' d', In d → 1 ≤ y' → y' ≤ 9999 → Is ah lp y' m' d' d → perC r b d y m y' m' = n → ¬ L < F ∧ F ≤ d ∧ d ≤ L := by
 obtain ⟨m, dd, e1, i1⟩ := rDate_yes k (by omega) b hb
 obtain ⟨y', m', d', e2, i2⟩ := fDate0 k (by omega) b hb
 obtain ⟨rfl, rfl, rfl⟩ := Is.one greg i1 i2
 have hy := yr_In hb
 have e3 : trystref14_date.f k b = some (yr b, m, dd) := by unfold trystref14_date.f; rw [e2]; rfl
 obtain ⟨r1, r2, hR, hS, hO, hI⟩ := raw k hk r f b hb (yr b) m dd hy.1 hy.2 i1 n n1 n2
 obtain ⟨f0, hf0⟩ : ∃ f0, (if r1 < 1 then 1 else r1) = f0 := ⟨_, rfl⟩
 obtain ⟨l0, hl0⟩ : ∃ l0, (if 3652059 < r2 then 3652059 else r2) = l0 := ⟨_, rfl⟩
 refine ⟨if f0 > l0 then 0 else f0, if f0 > l0 then -1 else l0, fun p w => RefS.Span k r p b n (yr b) m dd r1 r2 f0 l0 _ _ w hR e3 hf0 hl0 rfl rfl, ?_, ?_, ?_⟩
 ·intro h p w ok
  refine MatS.Span k r p fb b n 0 0 2 w ok hf ?_
  by_cases c : -3652059 ≤ n ∧ n ≤ 3652059
  ·have g : f0 > l0 := by
    by_cases g : f0 > l0
    ·exact g
    ·rw [if_neg g, if_neg g] at h; omega
   exact .none (yr b) m dd 0 r1 r2 f0 l0 he (hS c.1 c.2) e1 hb.1 hb.2 c.1 c.2 hy.1 hy.2 hf0 hl0 g
  ·exact .far he (by omega)
 ·intro h p w ok
  have g : ¬ f0 > l0 := by
   intro g
   rw [if_pos g, if_pos g] at h; omega
  rw [if_neg g, if_neg g]
  refine MatS.Span k r p fb b n f0 l0 0 w ok hf ?_
  have c : -3652059 ≤ n ∧ n ≤ 3652059 := by
   by_cases c : -3652059 ≤ n ∧ n ≤ 3652059
   ·exact c
   ·have := hO (by omega)
    split at hf0 <;> split at hl0 <;> omega
  exact .ok (yr b) m dd 0 r1 r2 f0 l0 he (hS c.1 c.2) e1 hb.1 hb.2 c.1 c.2 hy.1 hy.2 hf0 hl0 g
 ·intro y2 m2 dd2 ib d y' m' d' hd z1 z9 id_ hp
  obtain ⟨rfl, rfl, rfl⟩ := Is.one greg i1 ib
  have h := hI d y' m' d' hd z1 z9 id_ hp
  have h1 := hd.1; have h2 := hd.2
  have g : ¬ f0 > l0 := by split at hf0 <;> split at hl0 <;> omega
  rw [if_neg g, if_neg g]
  split at hf0 <;> split at hl0 <;> omega
/-- All that is told of a rule, a begin, a day and a number. -/
theorem told (r : Ru) (hs : r.a5.size ≤ 9223372036854775807) (b d n : Int) : ∃ (k : Nat) (rt : Bool) (e0 e1 P A B G F L F' L' : Int), trystref12_RightTime.f k r.a3 r.a4 r.a5 = some rt ∧ askF (frmB r rt) [b, d] = e0 ∧ askF (frmB r rt) [b, b] = e1 ∧ PerP r b d P e0 ∧ SpanP r b n A B G ∧
  (e0 ≠ 0 → P = 0) ∧ (e0 = 0 → PerD r b d P) ∧ (e1 ≠ 0 → G = e1 ∧ A = 0 ∧ B = 0) ∧ (e1 = 0 → n > 4000000 ∨ n < -4000000 → G = 2) ∧
  (e1 = 0 → ¬ (n > 4000000 ∨ n < -4000000) → SpanD r b n F L ∧ (L < F → G = 2 ∧ A = 0 ∧ B = 0) ∧ (¬ L < F → G = 0 ∧ A = F ∧ B = L)) ∧
  (e0 = 0 → F' ≤ d ∧ d ≤ L' ∧ SpanP r b P F' L' 0) := by
 obtain ⟨rt, hrt⟩ := both r hs
 obtain ⟨h1, h2⟩ := hrt (r.a5.size + 200) (by omega)
 obtain ⟨k, hk⟩ : ∃ k, r.a5.size + 200 = k := ⟨_, rfl⟩
 rw [hk] at h1 h2
 have hk : 130 ≤ k := by omega
 have HS : ∃ A B G F L : Int, SpanP r b n A B G ∧ (askF (frmB r rt) [b, b] ≠ 0 → G = askF (frmB r rt) [b, b] ∧ A = 0 ∧ B = 0) ∧ (askF (frmB r rt) [b, b] = 0 → n > 4000000 ∨ n < -4000000 → G = 2) ∧ (askF (frmB r rt) [b, b] = 0 → ¬ (n > 4000000 ∨ n < -4000000) → SpanD r b n F L ∧ (L < F → G = 2 ∧ A = 0 ∧ B = 0) ∧ (¬ L < F → G = 0 ∧ A = F ∧ B = L)) := by
  by_cases c : askF (frmB r rt) [b, b] = 0
  ·obtain ⟨hfb, hb, _⟩ := zero_of c
   by_cases g : n > 4000000 ∨ n < -4000000
   ·exact ⟨0, 0, 2, 0, 0, fun p w ok => MatS.Span k r p _ b n 0 0 2 w ok h2 (.far (by rw [ask1]; exact c) (by omega)), fun h => absurd c h, fun _ _ => rfl, fun _ h => absurd g h⟩
   ·obtain ⟨F, L, s1, s2, s3, _⟩ := spans k hk r (frm_of hfb) _ h2 b (by rw [ask1]; exact c) hb n (by omega) (by omega)
    by_cases u : L < F
    ·exact ⟨0, 0, 2, F, L, s2 u, fun h => absurd c h, fun _ h => absurd h g, fun _ _ => ⟨s1, fun _ => ⟨rfl, rfl, rfl⟩, fun h => absurd u h⟩⟩
    ·exact ⟨F, L, 0, F, L, s3 u, fun h => absurd c h, fun _ h => absurd h g, fun _ _ => ⟨s1, fun h => absurd h u, fun _ => ⟨rfl, rfl, rfl⟩⟩⟩
  ·exact ⟨0, 0, _, 0, 0, fun p w ok => MatS.Span k r p _ b n 0 0 _ w ok h2 (.ask _ (ask1 _ _) c), fun _ => ⟨rfl, rfl, rfl⟩, fun h => absurd h c, fun h => absurd h c⟩
 obtain ⟨A, B, G, F, L, g1, g2, g3, g4⟩ := HS
 by_cases c : askF (frmB r rt) [b, d] = 0
 ·obtain ⟨hfb, hb, hd⟩ := zero_of c
  have f := frm_of hfb
  have cb : askF (frmB r rt) [b] = 0 := by
   unfold askF; rw [hfb, if_pos rfl]
   have : isDay b = true := by unfold isDay; rw [decide_eq_true hb.1, decide_eq_true hb.2]; rfl
   simp [this]
  obtain ⟨ay, am, ad, a1, a9, ia, ea, fa_⟩ := date_ k hk b hb
  obtain ⟨y, m, dd, y1, y9, iy, ey, fy_⟩ := date_ k hk d hd
  have hper := per_eq r b d ay am y m hb hd a1 a9 ia.m1 ia.m2 y1 y9 iy.m1 iy.m2
  have m1 := ia.m1; have m2 := ia.m2; have m3 := iy.m1; have m4 := iy.m2
  have hP : -4000000 ≤ perC r b d ay am y m ∧ perC r b d ay am y m ≤ 4000000 := by
   have := hb.1; have := hb.2; have := hd.1; have := hd.2
   have u := wbg_bd b r.a7
   have v := wbg_bd d r.a7
   unfold perC
   split
   ·omega
   ·split
    ·omega
    ·split <;> omega
  obtain ⟨F', L', s1, s2, s3, s4⟩ := spans k hk r f _ h2 b cb hb (perC r b d ay am y m) hP.1 hP.2
  have s5 := s4 ay am ad ia d y m dd hd y1 y9 iy rfl
  refine ⟨k, rt, 0, _, perC r b d ay am y m, A, B, G, F, L, F', L', h1, c, rfl, fun p w ok => ?_, g1, fun h => absurd rfl h, fun _ p w => ?_, g2, g3, g4, fun _ => ⟨s5.2.1, s5.2.2, s3 s5.1⟩⟩
  ·have := MatS.periodYes k r p _ b d (wbg d r.a7) (wbg b r.a7) ⟨b, ay, am, ad, b % 7, ad, dim (lp ay) am, b - ah ay, 365 + lp ay⟩ ⟨d, y, m, dd, d % 7, dd, dim (lp y) m, d - ah y, 365 + lp y⟩ w ok h2 c fa_ fy_ (wb_p d r.a7 hd f.s0 f.s6) (wb_p b r.a7 hb f.s0 f.s6)
   rw [show perF r ⟨b, ay, am, ad, b % 7, ad, dim (lp ay) am, b - ah ay, 365 + lp ay⟩ ⟨d, y, m, dd, d % 7, dd, dim (lp y) m, d - ah y, 365 + lp y⟩ (wbg d r.a7) (wbg b r.a7) = RefPp.perR r b d ay am y m (wbg d r.a7) (wbg b r.a7) from rfl, hper] at this
   exact this
  ·have := RefPp.period k r p b d ay am ad y m dd (wbg d r.a7) (wbg b r.a7) w ea ey (wb_r k (by omega) d r.a7 hd f.s0 f.s6) (wb_r k (by omega) b r.a7 hb f.s0 f.s6)
   rw [hper] at this
   exact this
 ·exact ⟨k, rt, _, _, 0, A, B, G, F, L, 0, 0, h1, rfl, rfl, fun p w ok => MatS.periodNo k r p _ b d _ w ok h2 rfl c, g1, fun _ => rfl, fun h => absurd h c, g2, g3, g4, fun h => absurd h c⟩
end Go.Proofs.YtfdcldjoncednaaGreat.PurePer
/- What an argument's cells read as, kind by kind: numbers, bools, texts, structs, slices of whatever of these. -/
namespace Go.Proofs.YtfdcldjoncednaaGreat.Op
open Go.ChangeShapes Go.WideShapes Go.RowKit Go.Deep Go.Proofs.YtfdcldjoncednaaGreatW.PrintWords Go.Proofs.YtfdcldjoncednaaGreatW.PrintLast
set_option linter.unusedVariables false
set_option linter.unusedSimpArgs false
/-- Whatever reads as type t reads as kind d, and φ holds of what is read. -/
def Opk {α : Type} (P : Program) (t : TypeId) (d : Kd α) (φ : α → Prop) : Prop :=
 P.cellsOf t = d.sz ∧ ∀ {H : Type} {enc : TypeId × Value → H} {w : World} {base : Nat} {spare : Nat → Bool} {held : Bool} {fuel : Nat} {cs : List Value} {x : DataW H × List MemPlace}, DataW.trod enc P w base spare held fuel t cs = some x → ∃ z : α, d.K w z cs ∧ φ z
theorem Opk.int {P : Program} {t : TypeId} {k : IntKind} (ht : P.underlying t = some (.int k)) (hC : P.cellsOf t = 1) : Opk P t (Kd.int k) (fun n => (Lit.int k n).wf = true) :=
 ⟨hC, fun h => by obtain ⟨n, rfl, _, hw⟩ := DataW.trod_int ht h; exact ⟨n, rfl, hw⟩⟩
theorem Opk.bool {P : Program} {t : TypeId} (ht : P.underlying t = some .bool) (hC : P.cellsOf t = 1) : Opk P t Kd.bool (fun _ => True) :=
 ⟨hC, fun h => by obtain ⟨b, rfl, _⟩ := DataW.trod_bool ht h; exact ⟨b, rfl, trivial⟩⟩
theorem Opk.string {P : Program} {t : TypeId} (ht : P.underlying t = some .string) (hC : P.cellsOf t = 1) : Opk P t Kd.string (fun s => s.size ≤ maxLen) :=
 ⟨hC, fun h => by obtain ⟨s, rfl, _, hs⟩ := DataW.trod_string ht h; exact ⟨s, rfl, hs⟩⟩
theorem C_of {α : Type} (d : Kd α) (w : World) (a : Addr) (len : Nat) (hlen : len ≤ 9223372036854775807) (xs : Nat → α) (hc : ∀ i, i < len → ∃ cs, d.K w (xs i) cs ∧ ∀ j u, cs[j]? = some u → w.cell? (a.add (i * d.sz + j)) = some u) :
  Kd.C d w (some a) len ((List.range len).map xs) := by
 refine ⟨by simp, hlen, fun _ => ⟨a, rfl, fun j p hp => ?_⟩⟩
 rw [List.getElem?_map] at hp
 by_cases h : j < len
 ·rw [List.getElem?_range h] at hp
  obtain rfl := Option.some.inj hp
  obtain ⟨cs, hK, hcs⟩ := hc j h
  exact ⟨cs, d.K_len hK, hK, hcs⟩
 ·rw [List.getElem?_eq_none (by simp; omega)] at hp
  cases hp
theorem C_nil {α : Type} (d : Kd α) (w : World) (A : Option Addr) : Kd.C d w A 0 ([] : List α) := ⟨rfl, by omega, fun h => by omega⟩
theorem Opk.slice {α : Type} [Inhabited α] {P : Program} {t e : TypeId} {d : Kd α} {φ : α → Prop} (ht : P.underlying t = some (.slice e)) (hC : P.cellsOf t = 1) (he : Opk P e d φ) : Opk P t (Kd.slice e d) (fun l => l.length ≤ maxLen ∧ ∀ x ∈ l, φ x) :=
 ⟨hC, fun {H enc w base spare held fuel cs x} h => by
  rcases open_slice ht h with ⟨rfl, _⟩ | ⟨a, len, cap, m, n, D, Pl, rfl, _, hl, hm, hmm, _, hi⟩
  ·exact ⟨[], ⟨none, 0, rfl, Nat.le_refl _, C_nil _ _ _⟩, by simp, fun x hx => by cases hx⟩
  ·obtain ⟨hsz, hop⟩ := he
   have each : ∀ i, i < len → ∃ z : α, φ z ∧ ∃ cs', d.K w z cs' ∧ ∀ j u, cs'[j]? = some u → w.cell? (a.add (i * d.sz + j)) = some u := by
    intro i hil
    obtain ⟨cs', hc, ht'⟩ := hi i (by rw [hmm]; split <;> omega)
    obtain ⟨z, hz, hφ⟩ := hop ht'
    rw [hsz] at hc
    obtain ⟨_, hcl, hat⟩ := World.cells?_some hc
    refine ⟨z, hφ, cs', hz, fun j u hu => ?_⟩
    have hj : j < d.sz := by rw [← hcl]; exact (List.getElem?_eq_some_iff.1 hu).1
    rw [← Go.Deep.add_add, hat j hj, hu]
   obtain ⟨xs, hxs⟩ := choose_lt each
   have hlen : len ≤ 9223372036854775807 := by unfold maxLen at hm; omega
   have hC0 := C_of d w a len hlen xs (fun i hi' => (hxs i hi').2)
   have hl0 : ((List.range len).map xs).length = len := by simp
   refine ⟨(List.range len).map xs, ⟨some a, cap, by rw [hl0], by rw [hl0]; exact hl, by rw [hl0]; exact hC0⟩, by rw [hl0]; exact Nat.le_trans hl hm, fun x hx => ?_⟩
   obtain ⟨i, hi', rfl⟩ := List.mem_map.1 hx
   exact (hxs i (List.mem_range.1 hi')).1⟩
/-- A struct's fields from a place on. -/
structure Fl {α : Type} (P : Program) (fs : List Field) (o : Nat) (d : Kd α) (φ : α → Prop) : Prop where
 get : ∀ {H : Type} {enc : TypeId × Value → H} {w : World} {base : Nat} {spare : Nat → Bool} {held : Bool} {cs : List Value}, cs.length = o + d.sz → (∀ f ∈ fs, ∃ (n : Nat) (y : DataW H × List MemPlace), DataW.trod enc P w base spare held n f.type ((cs.drop f.offset).take (P.cellsOf f.type)) = some y) → ∃ z : α, d.K w z (cs.drop o) ∧ φ z
theorem Fl.last {α : Type} {P : Program} {f : Field} {o : Nat} {d : Kd α} {φ : α → Prop} (ho : f.offset = o) (hf : Opk P f.type d φ) : Fl P [f] o d φ := by
 constructor
 intro H enc w base spare held cs hl h
 obtain ⟨n, y, hy⟩ := h f (by simp)
 rw [ho, hf.1] at hy
 have e : (cs.drop o).take d.sz = cs.drop o := List.take_of_length_le (by rw [List.length_drop]; omega)
 rw [e] at hy
 exact hf.2 hy
theorem Fl.cons {α β : Type} {P : Program} {f : Field} {r : List Field} {o : Nat} {a : Kd α} {b : Kd β} {φ : α → Prop} {ψ : β → Prop} (ho : f.offset = o) (hf : Opk P f.type a φ) (hr : Fl P r (o + a.sz) b ψ) : Fl P (f :: r) o (Kd.pair a b) (fun x => φ x.1 ∧ ψ x.2) := by
 constructor
 intro H enc w base spare held cs hl h
 obtain ⟨n, y, hy⟩ := h f (by simp)
 rw [ho, hf.1] at hy
 obtain ⟨z0, k0, p0⟩ := hf.2 hy
 have hl' : cs.length = (o + a.sz) + b.sz := by rw [hl]; show o + (a.sz + b.sz) = _; omega
 obtain ⟨z1, k1, p1⟩ := hr.get hl' (fun g hg => h g (by simp [hg]))
 refine ⟨(z0, z1), ⟨(cs.drop o).take a.sz, cs.drop (o + a.sz), ?_, k0, k1⟩, p0, p1⟩
 rw [← List.drop_drop, List.take_append_drop]
theorem Opk.struct {α : Type} {P : Program} {t : TypeId} {fs : Array Field} {d : Kd α} {φ : α → Prop} (ht : P.underlying t = some (.struct fs)) (hC : P.cellsOf t = d.sz) (hf : Fl P fs.toList 0 d φ) : Opk P t d φ :=
 ⟨hC, fun {H enc w base spare held fuel cs x} h => by
  obtain ⟨xs, n, _, _, hlen, hxl, hg⟩ := DataW.trod_struct ht h
  obtain ⟨z, k, p⟩ := hf.get (w := w) (cs := cs) (by rw [hlen, hC]; omega) (fun f hm => by
   obtain ⟨i, hi, rfl⟩ := List.getElem_of_mem hm
   have e := hg i fs.toList[i] (by simp)
   have hx : i < xs.length := by rw [hxl]; simpa using hi
   rw [List.getElem?_eq_getElem hx] at e
   exact ⟨n, _, e⟩)
  exact ⟨z, by simpa using k, p⟩⟩
theorem Opk.iso {α β : Type} {P : Program} {t : TypeId} {d : Kd α} {φ : α → Prop} (f : β → α) (g : α → β) (hfg : ∀ x, f (g x) = x) (h : Opk P t d φ) : Opk P t (Kd.iso d f) (fun x => φ (f x)) :=
 ⟨h.1, fun hx => by
  obtain ⟨z, k, p⟩ := h.2 hx
  exact ⟨g z, by show d.K _ (f (g z)) _; rw [hfg]; exact k, by show φ (f (g z)); rw [hfg]; exact p⟩⟩
end Go.Proofs.YtfdcldjoncednaaGreat.Op
