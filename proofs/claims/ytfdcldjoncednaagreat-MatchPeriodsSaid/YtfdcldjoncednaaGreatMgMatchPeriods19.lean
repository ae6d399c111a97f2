/- Texts of this claim, merged: Mr14A, RefS, RefPp, PureW. -/
import Derived.Test.YtfdcldjoncednaaGreatMgMatchPeriods1
import Derived.Test.YtfdcldjoncednaaGreatMgMatchPeriods9
import Derived.Test.YtfdcldjoncednaaGreatMgMatchPeriods16
import Derived.Test.YtfdcldjoncednaaGreatMgMatchPeriods4
import Derived.Test.YtfdcldjoncednaaGreatMgMatchPeriods15
import Derived.Test.YtfdcldjoncednaaGreatMgMatchPeriods17
import Derived.Test.YtfdcldjoncednaaGreatMgMatchPeriods18
namespace Go.Proofs.YtfdcldjoncednaaGreat.M
open Go.RowKit Go.Proofs.YtfdcldjoncednaaGreatW.PrintWords Go.Proofs.YtfdcldjoncednaaGreatW.PrintLast Go.Proofs.YtfdcldjoncednaaGreatW.PrintMore
attribute [local go_sem] max2_int min2_int max_two min_two
set_option linter.unusedVariables false
set_option linter.unusedSimpArgs false
/-! ### trystref14_date: function 30 -/
def trystref14_date.f (k : Nat) (a0 : Int) : Option (Int × Int × Int) := (trystref01_Date.f k 0 a0).bind fun bt309 => (some (bt309.1, bt309.2.1, bt309.2.2.1))
set_option maxHeartbeats 8000000 in
set_option maxRecDepth 100000 in
theorem trystref14_date.calls (k : Nat) (a0 : Int) (r1 : Int) (r2 : Int) (r3 : Int) (w : World) (h : trystref14_date.f k a0 = some (r1, r2, r3)) :
  Calls Tryz.prog 30 #[.int .i64 a0] w fun e w' => e = .returned (.agg #[.int .i64 r1, .int .i64 r2, .int .i64 r3]) ∧ Below w.heap.size w w' := by
 have hu61 := Tryz.underlying61
 have HB := Aside0.mk (Below.refl w.heap.size w)
 have H : ((trystref01_Date.f k 0 a0).bind fun bt309 => (some (bt309.1, bt309.2.1, bt309.2.2.1))) = some (r1, r2, r3) := h
 clear h
 replace H := Option.bind_eq_some_iff.mp H
 obtain ⟨⟨t309, t310, t311, t312⟩, A20, H⟩ := H
 replace H : (some (t309, t310, t311)) = some (r1, r2, r3) := H
 have A2 := Aside0.mk A20
 clear A20
 simp only [Option.some.injEq, Prod.mk.injEq] at H
 obtain ⟨rfl, rfl, rfl⟩ := H
 go_enter Tryz.func30, Tryz.ntmps30
 go_wp2_with (first | ((with_reducible refine gate_dst (N := 2) rfl ?_); refine box_event ?hg (N := 2) ?hd (cs := #[.int .i64 0, .int .i64 0, .int .i64 0]) (t := 61) ?hr ?_; (case hd => rfl); (case hg => rfl); (case hr => first | (go_simp; done) | (go_simp; rfl)); intro gb308 hg w3 hbox hb; have n0_ := Aside0.mk (below_step (by repeat (first | (with_reducible first | exact HB.out | apply below_alloc | apply pw_below_drewN | apply below_drew1) | exact HB.out)) hb); have n1_ := Aside0.mk (hbox); have n2_ := Aside0.mk ((by rw [hg]; exact (below_size (by repeat (first | (with_reducible first | exact HB.out | apply below_alloc | apply pw_below_drewN | apply below_drew1) | exact HB.out))) : w.heap.size ≤ gb308)); have n3_ := Aside0.mk ((by rw [hg]; exact (below_size (by repeat (first | (with_reducible first | exact HB.out | apply below_alloc | apply pw_below_drewN | apply below_drew1) | exact HB.out))) : w.heap.size ≤ gb308)); clear HB; have HB := n0_; have BK308 := n1_; have GW308 := n2_; have GE308 := n3_; clear n0_ n1_ n2_ n3_; clear hb hbox hg) | ((with_reducible refine gate_callee (f := 57) rfl ?_); refine gm_ (some 7) Tryz.func57 #[.int .i64 0, .int .i64 a0] ?_; (with_reducible refine (trystref01_Date.calls k 0 a0 t309 t310 t311 t312 _ A2.out).mono ?_); rintro e w4 ⟨rfl, hb⟩; refine ⟨_, rfl, ?_⟩; have n0_ := Aside0.mk (blk_below (g := gb308) (o := .cells #[.int .i64 0, .int .i64 0, .int .i64 0] 61 (0, 0)) (by (with_reducible repeat (first | refine blk_drewN ?_ _ | refine blk_drew ?_ | refine blk_alloc ?_ _)); exact BK308.out) hb); have n1_ := Aside0.mk (below_step (by repeat (first | (with_reducible first | exact HB.out | apply below_alloc | apply pw_below_drewN | apply below_drew1 | refine below_set ?_ GE308.out) | exact HB.out)) hb); clear BK308; clear HB; have BK308 := n0_; have HB := n1_; clear n0_ n1_; (try clear hb); (try clear hb2); (try clear hk); (try clear hi)) | ((with_reducible refine gate_dst (N := 3) rfl ?_); refine box_event ?hg (N := 3) ?hd (cs := #[.int .i64 0, .int .i64 0, .int .i64 0]) (t := 61) ?hr ?_; (case hd => rfl); (case hg => rfl); (case hr => first | (go_simp; done) | (go_simp; rfl)); intro gb313 hg w5 hbox hb; have n0_ := Aside0.mk (blk_below (g := gb308) (o := .cells #[.int .i64 0, .int .i64 0, .int .i64 0] 61 (0, 0)) (by (with_reducible repeat (first | refine blk_drewN ?_ _ | refine blk_drew ?_ | refine blk_alloc ?_ _)); exact BK308.out) hb); have n1_ := Aside0.mk (below_step (by repeat (first | (with_reducible first | exact HB.out | apply below_alloc | apply pw_below_drewN | apply below_drew1 | refine below_set ?_ GE308.out) | exact HB.out)) hb); have n2_ := Aside0.mk (hbox); have n3_ := Aside0.mk ((by rw [hg]; exact (below_size (by repeat (first | (with_reducible first | exact HB.out | apply below_alloc | apply pw_below_drewN | apply below_drew1 | refine below_set ?_ GE308.out) | exact HB.out))) : w.heap.size ≤ gb313)); have n4_ := Aside0.mk ((by rw [hg]; exact (below_size (by repeat (first | (with_reducible first | exact HB.out | apply below_alloc | apply pw_below_drewN | apply below_drew1 | refine below_set ?_ GE308.out) | exact HB.out))) : w.heap.size ≤ gb313)); have n5_ := Aside0.mk ((by rw [hg]; exact Nat.ne_of_lt (blk_lt (g := gb308) (o := .cells #[.int .i64 0, .int .i64 0, .int .i64 0] 61 (0, 0)) (by (with_reducible repeat (first | refine blk_drewN ?_ _ | refine blk_drew ?_ | refine blk_alloc ?_ _)); exact BK308.out)) : gb308 ≠ gb313)); have n6_ := Aside0.mk ((by rw [hg]; exact Nat.ne_of_gt (blk_lt (g := gb308) (o := .cells #[.int .i64 0, .int .i64 0, .int .i64 0] 61 (0, 0)) (by (with_reducible repeat (first | refine blk_drewN ?_ _ | refine blk_drew ?_ | refine blk_alloc ?_ _)); exact BK308.out)) : gb313 ≠ gb308)); clear BK308; clear HB; have BK308 := n0_; have HB := n1_; have BK313 := n2_; have GW313 := n3_; have GE313 := n4_; have NB308_313 := n5_; have NB313_308 := n6_; clear n0_ n1_ n2_ n3_ n4_ n5_ n6_; clear hb hbox hg; have hnb6 := NB313_308.out; have hnc6 := NB308_313.out; have hcz7_0 : w5.cell? ⟨gb313, 0, none⟩ = some (.int .i64 0) := (blk_cell BK313.out 0).trans rfl; have hcz7_1 : w5.cell? ⟨gb313, 1, none⟩ = some (.int .i64 0) := (blk_cell BK313.out 1).trans rfl; have hcz7_2 : w5.cell? ⟨gb313, 2, none⟩ = some (.int .i64 0) := (blk_cell BK313.out 2).trans rfl; have hfz7_0 := blk_frozen BK313.out 0; have hfz7_1 := blk_frozen BK313.out 1; have hfz7_2 := blk_frozen BK313.out 2; have hcz8_0 : w5.cell? ⟨gb308, 0, none⟩ = some (.int .i64 0) := (blk_cell BK308.out 0).trans rfl; have hcz8_1 : w5.cell? ⟨gb308, 1, none⟩ = some (.int .i64 0) := (blk_cell BK308.out 1).trans rfl; have hcz8_2 : w5.cell? ⟨gb308, 2, none⟩ = some (.int .i64 0) := (blk_cell BK308.out 2).trans rfl; have hfz8_0 := blk_frozen BK308.out 0; have hfz8_1 := blk_frozen BK308.out 1; have hfz8_2 := blk_frozen BK308.out 2))
 refine bodyPost_ret (results_cell_row rfl _ _ gb308 61 #[.int .i64 t309, .int .i64 t310, .int .i64 t311] (0, 0) _ rfl (by (with_reducible repeat (first | refine blk_drewN ?_ _ | refine blk_drew ?_ | refine blk_alloc ?_ _)); refine blk_put (cs := #[.int .i64 t309, .int .i64 t310, .int .i64 0]) ?_ 2 _ rfl; (with_reducible repeat (first | refine blk_drewN ?_ _ | refine blk_drew ?_ | refine blk_alloc ?_ _)); refine blk_put (cs := #[.int .i64 t309, .int .i64 0, .int .i64 0]) ?_ 1 _ rfl; (with_reducible repeat (first | refine blk_drewN ?_ _ | refine blk_drew ?_ | refine blk_alloc ?_ _)); refine blk_put (cs := #[.int .i64 0, .int .i64 0, .int .i64 0]) ?_ 0 _ rfl; (with_reducible repeat (first | refine blk_drewN ?_ _ | refine blk_drew ?_ | refine blk_alloc ?_ _)); refine blk_far ?_ NB308_313.out _; (with_reducible repeat (first | refine blk_drewN ?_ _ | refine blk_drew ?_ | refine blk_alloc ?_ _)); refine blk_far ?_ NB308_313.out _; (with_reducible repeat (first | refine blk_drewN ?_ _ | refine blk_drew ?_ | refine blk_alloc ?_ _)); refine blk_far ?_ NB308_313.out _; (with_reducible repeat (first | refine blk_drewN ?_ _ | refine blk_drew ?_ | refine blk_alloc ?_ _)); exact BK308.out) Tryz.underlying61 rfl (by kernel_rfl)) rfl ?_
 exact ⟨by first | rfl | (simp [i64_w]; done) | (simp [errW_none, errW_some] <;> rfl) | (simp [*, errW_none, errW_some] <;> rfl), by repeat (first | (with_reducible first | exact HB.out | apply below_alloc | apply pw_below_drewN | apply below_drew1 | refine below_set ?_ GE308.out | refine below_set ?_ GE313.out) | exact HB.out)⟩

/-! ### trystref14_weekday: function 58 -/
def trystref14_weekday.f (a0 : Int) : Option (Int) := (trystref01_Mod.f a0 7).bind fun t314 => (some t314)
set_option maxHeartbeats 8000000 in
set_option maxRecDepth 100000 in
theorem trystref14_weekday.calls (a0 : Int) (r : Int) (w : World) (h : trystref14_weekday.f a0 = some r) :
  Calls Tryz.prog 58 #[.int .i64 a0] w fun e w' => e = .returned (.int .i64 r) ∧ Drawn0 w w' := by
 have H : ((trystref01_Mod.f a0 7).bind fun t314 => (some t314)) = some r := h
 clear h
 replace H := Option.bind_eq_some_iff.mp H
 obtain ⟨t314, A20, H⟩ := H
 replace H : (some t314) = some r := H
 have A2 := Aside0.mk A20
 clear A20
 obtain rfl := Option.some.inj H
 go_enter Tryz.func58, Tryz.ntmps58
 go_wp2_with (first | ((with_reducible refine gate_callee (f := 33) rfl ?_); refine gm_ (some 4) Tryz.func33 #[.int .i64 a0, .int .i64 7] ?_; (with_reducible refine (trystref01_Mod.calls a0 7 t314 _ A2.out).mono ?_); rintro e w' ⟨rfl, ⟨nd, rfl⟩⟩; refine ⟨_, rfl, ?_⟩))
 go_ret
 exact ⟨by first | rfl | simp | simp [*] | simp [bne_nil_], by repeat (first | exact Drawn0.refl _ | apply Drawn0.step)⟩

/-! ### trystref14_Begin: function 31 -/
def trystref14_Begin.l0 : Nat → Int → Int → Option (Int)
 | 0, _, _ => none
 | k + 1, x0, x1 => (trystref14_weekday.f x0).bind fun t315 => (if t315 = x1 then (some x0) else (trystref14_Begin.l0 k (wrap64 (x0 - 1)) x1))
def trystref14_Begin.f (k : Nat) (a0 : Int) (a1 : Int) : Option (Int) := trystref14_Begin.l0 k a0 a1
set_option maxHeartbeats 8000000 in
set_option maxRecDepth 100000 in
theorem trystref14_Begin.calls (k : Nat) (a0 : Int) (a1 : Int) (r : Int) (w : World) (h : trystref14_Begin.f k a0 a1 = some r) :
  Calls Tryz.prog 31 #[.int .i64 a0, .int .i64 a1] w fun e w' => e = .returned (.int .i64 r) ∧ Drawn0 w w' := by
 have H : (trystref14_Begin.l0 k a0 a1) = some r := h
 clear h
 have H' := Aside0.mk H
 clear H
 go_enter Tryz.func31, Tryz.ntmps31
 go_wp2
 go_loopg [0] k (fun kq v0 w' => ∃ (x0_1 : Int), v0 = .int .i64 x0_1 ∧ Aside0 (trystref14_Begin.l0 kq x0_1 a1 = some r) ∧ Aside0 (kq ≤ k) ∧ Drawn0 w w')
 case atStart => exact ⟨(a0), (by first | rfl | (simp; done) | (simp [*]; done)), H', ⟨Nat.le_refl _⟩, by repeat (first | exact Drawn0.refl _ | apply Drawn0.step)⟩
 case round =>
  clear H'
  try clear p2
  obtain ⟨x0_1, rfl, HA, HK1, ⟨m1, rfl⟩⟩ := hrel
  cases gk with
  | zero => exact absurd HA.out (by simp [trystref14_Begin.l0])
  | succ k1 =>
   have H := HA.out
   clear HA
   simp only [trystref14_Begin.l0] at H
   replace H := Option.bind_eq_some_iff.mp H
   obtain ⟨t315, A30, H⟩ := H
   replace H : (if t315 = a1 then (some x0_1) else (trystref14_Begin.l0 k1 (wrap64 (x0_1 - 1)) a1)) = some r := H
   have A3 := Aside0.mk A30
   clear A30
   by_cases c4 : t315 = a1
   ·rw [if_pos c4] at H
    have c4b0 : (t315 == a1) = true := beq_iff_eq.mpr c4
    have c4b1 : (t315 != a1) = false := bne_eq_false_iff_eq.mpr c4
    clear c4
    obtain rfl := Option.some.inj H
    go_wp2_with (first | ((with_reducible refine gate_callee (f := 58) rfl ?_); refine gm_ (some 6) Tryz.func58 #[.int .i64 x0_1] ?_; (with_reducible refine (trystref14_weekday.calls x0_1 t315 _ A3.out).mono ?_); rintro e w' ⟨rfl, ⟨nd, rfl⟩⟩; refine ⟨_, rfl, ?_⟩))
    go_ret
    exact ⟨by first | rfl | simp | simp [*] | simp [bne_nil_], by repeat (first | exact Drawn0.refl _ | apply Drawn0.step)⟩
   ·rw [if_neg c4] at H
    have c4b0 : (t315 == a1) = false := beq_eq_false_iff_ne.mpr c4
    have c4b1 : (t315 != a1) = true := bne_iff_ne.mpr c4
    have H' := Aside0.mk H
    clear H
    go_wp2_with (first | ((with_reducible refine gate_callee (f := 58) rfl ?_); refine gm_ (some 6) Tryz.func58 #[.int .i64 x0_1] ?_; (with_reducible refine (trystref14_weekday.calls x0_1 t315 _ A3.out).mono ?_); rintro e w' ⟨rfl, ⟨nd, rfl⟩⟩; refine ⟨_, rfl, ?_⟩))
    go_roundg k1
    case measure => have := HK1.out; omega
    case rel => exact ⟨(wrap64 (x0_1 - 1)), (by first | rfl | (simp; done) | (simp [*]; done)), H', ⟨by have := HK1.out; omega⟩, by repeat (first | exact Drawn0.refl _ | apply Drawn0.step)⟩

end Go.Proofs.YtfdcldjoncednaaGreat.M
/- trystref14.Span: a rule as one thing (Ru). (Written by gen_refs.py.) -/
namespace Go.Proofs.YtfdcldjoncednaaGreat.RefS
open Go.RowKit Go.Proofs.YtfdcldjoncednaaGreatW.PrintWords Go.Proofs.YtfdcldjoncednaaGreatW.PrintLast Go.Proofs.YtfdcldjoncednaaGreatW.PrintMore Go.Proofs.YtfdcldjoncednaaGreat.M Go.Proofs.YtfdcldjoncednaaGreat.Ru
set_option linter.unusedVariables false
set_option linter.unusedSimpArgs false
attribute [local go_sem] max2_int min2_int max_two min_two
/-- A period's first and last day by the document, ahead of the bounds. -/
inductive SpanR (k : Nat) (r : Ru) (b n y m : Int) : Int → Int → Prop
 | day (r1 : Int) (h : r.a0 = 1) (e1 : wrap64 (b + n) = r1) : SpanR k r b n y m r1 r1
 | week (wb u r1 r2 : Int) (h : r.a0 = 2) (hw : trystref14_Begin.f k b r.a7 = some wb) (e1 : wrap64 (7 * n) = u) (e2 : wrap64 (wb + u) = r1) (e3 : wrap64 (r1 + 6) = r2) : SpanR k r b n y m r1 r2
 | month (u1 u2 u3 q yy t kk ln v r1 r2 : Int) (h : r.a0 = 3) (e1 : wrap64 (12 * y) = u1) (e2 : wrap64 (u1 + m) = u2) (e3 : wrap64 (u2 - 1) = u3) (e4 : wrap64 (u3 + n) = q) (hf : trystref01_Floor.f q 12 = some yy) (ht : trystref01_Mod.f q 12 = some t) (e5 : wrap64 (t + 1) = kk) (h1 : 1 ≤ yy) (h2 : yy ≤ 9999) (hx : trystref01_Fixed.f k 0 yy kk 1 = some r1) (hl : trystref01_Length.f k 0 yy kk = some ln) (e6 : wrap64 (r1 + ln) = v) (e7 : wrap64 (v - 1) = r2) : SpanR k r b n y m r1 r2
 | mnone (u1 u2 u3 q yy t kk : Int) (h : r.a0 = 3) (e1 : wrap64 (12 * y) = u1) (e2 : wrap64 (u1 + m) = u2) (e3 : wrap64 (u2 - 1) = u3) (e4 : wrap64 (u3 + n) = q) (hf : trystref01_Floor.f q 12 = some yy) (ht : trystref01_Mod.f q 12 = some t) (e5 : wrap64 (t + 1) = kk) (h1 : ¬ (1 ≤ yy ∧ yy ≤ 9999)) : SpanR k r b n y m 0 (-1)
 | year (u v g2 r1 r2 : Int) (h : r.a0 = 4) (e1 : wrap64 (y + n) = u) (h1 : 1 ≤ u) (h2 : u ≤ 9999) (hx : trystref01_Fixed.f k 0 u 1 1 = some r1) (e2 : wrap64 (u + 1) = v) (hl : trystref01_Fixed.f k 0 v 1 1 = some g2) (e3 : wrap64 (g2 - 1) = r2) : SpanR k r b n y m r1 r2
 | ynone (u : Int) (h : r.a0 = 4) (e1 : wrap64 (y + n) = u) (h1 : ¬ (1 ≤ u ∧ u ≤ 9999)) : SpanR k r b n y m 0 (-1)
set_option maxHeartbeats 4000000 in
set_option maxRecDepth 100000 in
theorem Span (k : Nat) (r : Ru) (p : Rp) (b n y m dd r1 r2 f l F L : Int) (w : World) (h : SpanR k r b n y m r1 r2) (hd : trystref14_date.f k b = some (y, m, dd)) (hfe : (if r1 < 1 then 1 else r1) = f) (hle : (if 3652059 < r2 then 3652059 else r2) = l) (hF : (if f > l then 0 else f) = F) (hL : (if f > l then -1 else l) = L) :
  Calls Tryz.prog 12 #[.agg (agg r p), .int .i64 b, .int .i64 n] w fun q w' => q = .returned (.tuple #[.int .i64 F, .int .i64 L]) ∧ Below w.heap.size w w' := by
 have HD := Aside0.mk hd; have FE := Aside0.mk hfe; have LE := Aside0.mk hle; clear hd hfe hle
 have HK := Aside0.mk (blk_new w (obj r p))
 have HB := Aside0.mk (below_alloc (Below.refl w.heap.size w) (obj r p))
 go_enter Tryz.func12, Tryz.ntmps12
 go_upto_region 1 with fail
 generalize w.alloc (obj r p) = w0 at HK HB ⊢
 go_wp2_with fail
 refine (trystref14_date.calls k b y m dd _ HD.out).mono ?_
 rintro q wa ⟨rfl, hb⟩
 replace HK := Aside0.mk (blk_below HK.out hb)
 replace HB := Aside0.mk (below_then HB.out HB.out.size hb)
 clear hb
 go_upto_region 2 with fail
 replace HK := Aside0.mk (blk_below HK.out (below_alloc (Below.refl _ _) (.cells #[.int .i64 y, .int .i64 m, .int .i64 dd] 61 (0, 0))))
 have HA := Aside0.mk (blk_new wa (.cells #[.int .i64 y, .int .i64 m, .int .i64 dd] 61 (0, 0)))
 replace HB := Aside0.mk (below_alloc HB.out (.cells #[.int .i64 y, .int .i64 m, .int .i64 dd] 61 (0, 0)))
 generalize wa.alloc (.cells #[.int .i64 y, .int .i64 m, .int .i64 dd] 61 (0, 0)) = wb at HK HA HB ⊢
 generalize wa.heap.size = g at HA ⊢
 have k0 : wb.cell? ⟨w.heap.size, 0, none⟩ = some (.int .i64 r.a0) := (blk_cell HK.out 0).trans rfl
 have k7 : wb.cell? ⟨w.heap.size, 7, none⟩ = some (.int .i64 r.a7) := (blk_cell HK.out 7).trans rfl
 have d0 : wb.cell? ⟨g, 0, none⟩ = some (.int .i64 y) := (blk_cell HA.out 0).trans rfl
 have d1 : wb.cell? ⟨g, 1, none⟩ = some (.int .i64 m) := (blk_cell HA.out 1).trans rfl
 have d2 : wb.cell? ⟨g, 2, none⟩ = some (.int .i64 dd) := (blk_cell HA.out 2).trans rfl
 have f1 : ∀ k k' : IntKind, Builtin.max2 (.int k r1) (.int k' 1) = pure (.int k f) := fun k k' => by rw [max2_int, FE.out]
 have f2 : ∀ k k' : IntKind, Builtin.min2 (.int k r2) (.int k' 3652059) = pure (.int k l) := fun k k' => by rw [min2_int, LE.out]
 clear FE LE
 by_cases c : f > l
 ·have g1 : decide (f > l) = true := decide_eq_true c
  rw [if_pos c] at hF hL; subst hF hL; clear c
  cases h with
  | day r1 h e1 =>
   have x1 : (r.a0 == 1) = true := beq_iff_eq.2 (by omega)
   have x2 : (r.a0 == 2) = false := beq_eq_false_iff_ne.2 (by omega)
   have x3 : (r.a0 == 3) = false := beq_eq_false_iff_ne.2 (by omega)
   clear h
   go_wp2_with fail
   go_ret2
   exact ⟨rfl, HB.out⟩
  | week wk u r1 r2 h hw e1 e2 e3 =>
   have x1 : (r.a0 == 1) = false := beq_eq_false_iff_ne.2 (by omega)
   have x2 : (r.a0 == 2) = true := beq_iff_eq.2 (by omega)
   have x3 : (r.a0 == 3) = false := beq_eq_false_iff_ne.2 (by omega)
   clear h
   have HW := Aside0.mk hw; clear hw
   go_wp2_with fail
   refine (trystref14_Begin.calls k b r.a7 wk _ HW.out).mono ?_
   rintro q wq1 ⟨rfl, ⟨nd, rfl⟩⟩
   replace HB := Aside0.mk (pw_below_drewN HB.out nd)
   replace HK := Aside0.mk (blk_drewN HK.out nd); replace HA := Aside0.mk (blk_drewN HA.out nd)
   clear k0 k7 d0 d1 d2
   generalize wb.drewN nd = wc1 at HK HA HB ⊢
   have k0 : wc1.cell? ⟨w.heap.size, 0, none⟩ = some (.int .i64 r.a0) := (blk_cell HK.out 0).trans rfl
   have k7 : wc1.cell? ⟨w.heap.size, 7, none⟩ = some (.int .i64 r.a7) := (blk_cell HK.out 7).trans rfl
   have d0 : wc1.cell? ⟨g, 0, none⟩ = some (.int .i64 y) := (blk_cell HA.out 0).trans rfl
   have d1 : wc1.cell? ⟨g, 1, none⟩ = some (.int .i64 m) := (blk_cell HA.out 1).trans rfl
   have d2 : wc1.cell? ⟨g, 2, none⟩ = some (.int .i64 dd) := (blk_cell HA.out 2).trans rfl
   go_wp2_with fail
   go_ret2
   exact ⟨rfl, HB.out⟩
  | month u1 u2 u3 q_ yy t kk ln v r1 r2 h e1 e2 e3 e4 hf ht e5 h1 h2 hx hl e6 e7 =>
   have HX := Aside0.mk hx; have HL := Aside0.mk hl; clear hx hl
   have x1 : (r.a0 == 1) = false := beq_eq_false_iff_ne.2 (by omega)
   have x2 : (r.a0 == 2) = false := beq_eq_false_iff_ne.2 (by omega)
   have x3 : (r.a0 == 3) = true := beq_iff_eq.2 (by omega)
   clear h
   have HF := Aside0.mk hf; have HT := Aside0.mk ht; clear hf ht
   go_wp2_with fail
   refine (trystref01_Floor.calls q_ 12 yy _ HF.out).mono ?_
   rintro q wq2 ⟨rfl, ⟨nd, rfl⟩⟩
   replace HB := Aside0.mk (pw_below_drewN HB.out nd)
   replace HK := Aside0.mk (blk_drewN HK.out nd); replace HA := Aside0.mk (blk_drewN HA.out nd)
   clear k0 k7 d0 d1 d2
   generalize wb.drewN nd = wc2 at HK HA HB ⊢
   have k0 : wc2.cell? ⟨w.heap.size, 0, none⟩ = some (.int .i64 r.a0) := (blk_cell HK.out 0).trans rfl
   have k7 : wc2.cell? ⟨w.heap.size, 7, none⟩ = some (.int .i64 r.a7) := (blk_cell HK.out 7).trans rfl
   have d0 : wc2.cell? ⟨g, 0, none⟩ = some (.int .i64 y) := (blk_cell HA.out 0).trans rfl
   have d1 : wc2.cell? ⟨g, 1, none⟩ = some (.int .i64 m) := (blk_cell HA.out 1).trans rfl
   have d2 : wc2.cell? ⟨g, 2, none⟩ = some (.int .i64 dd) := (blk_cell HA.out 2).trans rfl
   go_wp2_with fail
   refine (trystref01_Mod.calls q_ 12 t _ HT.out).mono ?_
   rintro q wq3 ⟨rfl, ⟨nd, rfl⟩⟩
   replace HB := Aside0.mk (pw_below_drewN HB.out nd)
   replace HK := Aside0.mk (blk_drewN HK.out nd); replace HA := Aside0.mk (blk_drewN HA.out nd)
   clear k0 k7 d0 d1 d2
   generalize wc2.drewN nd = wc3 at HK HA HB ⊢
   have k0 : wc3.cell? ⟨w.heap.size, 0, none⟩ = some (.int .i64 r.a0) := (blk_cell HK.out 0).trans rfl
   have k7 : wc3.cell? ⟨w.heap.size, 7, none⟩ = some (.int .i64 r.a7) := (blk_cell HK.out 7).trans rfl
   have d0 : wc3.cell? ⟨g, 0, none⟩ = some (.int .i64 y) := (blk_cell HA.out 0).trans rfl
   have d1 : wc3.cell? ⟨g, 1, none⟩ = some (.int .i64 m) := (blk_cell HA.out 1).trans rfl
   have d2 : wc3.cell? ⟨g, 2, none⟩ = some (.int .i64 dd) := (blk_cell HA.out 2).trans rfl
   have y1 : decide (yy ≥ 1) = true := decide_eq_true h1; have y2 : decide (yy ≤ 9999) = true := decide_eq_true h2; clear h1 h2
   go_wp2_with fail
   refine (trystref01_Fixed.calls k 0 yy kk 1 r1 _ HX.out).mono ?_
   rintro q wq4 ⟨rfl, ⟨nd, rfl⟩⟩
   replace HB := Aside0.mk (pw_below_drewN HB.out nd)
   replace HK := Aside0.mk (blk_drewN HK.out nd); replace HA := Aside0.mk (blk_drewN HA.out nd)
   clear k0 k7 d0 d1 d2
   generalize wc3.drewN nd = wc4 at HK HA HB ⊢
   have k0 : wc4.cell? ⟨w.heap.size, 0, none⟩ = some (.int .i64 r.a0) := (blk_cell HK.out 0).trans rfl
   have k7 : wc4.cell? ⟨w.heap.size, 7, none⟩ = some (.int .i64 r.a7) := (blk_cell HK.out 7).trans rfl
   have d0 : wc4.cell? ⟨g, 0, none⟩ = some (.int .i64 y) := (blk_cell HA.out 0).trans rfl
   have d1 : wc4.cell? ⟨g, 1, none⟩ = some (.int .i64 m) := (blk_cell HA.out 1).trans rfl
   have d2 : wc4.cell? ⟨g, 2, none⟩ = some (.int .i64 dd) := (blk_cell HA.out 2).trans rfl
   go_wp2_with fail
   refine (trystref01_Length.calls k 0 yy kk ln _ HL.out).mono ?_
   rintro q wq5 ⟨rfl, ⟨nd, rfl⟩⟩
   replace HB := Aside0.mk (pw_below_drewN HB.out nd)
   replace HK := Aside0.mk (blk_drewN HK.out nd); replace HA := Aside0.mk (blk_drewN HA.out nd)
   clear k0 k7 d0 d1 d2
   generalize wc4.drewN nd = wc5 at HK HA HB ⊢
   have k0 : wc5.cell? ⟨w.heap.size, 0, none⟩ = some (.int .i64 r.a0) := (blk_cell HK.out 0).trans rfl
   have k7 : wc5.cell? ⟨w.heap.size, 7, none⟩ = some (.int .i64 r.a7) := (blk_cell HK.out 7).trans rfl
   have d0 : wc5.cell? ⟨g, 0, none⟩ = some (.int .i64 y) := (blk_cell HA.out 0).trans rfl
   have d1 : wc5.cell? ⟨g, 1, none⟩ = some (.int .i64 m) := (blk_cell HA.out 1).trans rfl
   have d2 : wc5.cell? ⟨g, 2, none⟩ = some (.int .i64 dd) := (blk_cell HA.out 2).trans rfl
   go_wp2_with fail
   go_ret2
   exact ⟨rfl, HB.out⟩
  | mnone u1 u2 u3 q_ yy t kk h e1 e2 e3 e4 hf ht e5 h1 =>
   have x1 : (r.a0 == 1) = false := beq_eq_false_iff_ne.2 (by omega)
   have x2 : (r.a0 == 2) = false := beq_eq_false_iff_ne.2 (by omega)
   have x3 : (r.a0 == 3) = true := beq_iff_eq.2 (by omega)
   clear h
   have HF := Aside0.mk hf; have HT := Aside0.mk ht; clear hf ht
   go_wp2_with fail
   refine (trystref01_Floor.calls q_ 12 yy _ HF.out).mono ?_
   rintro q wq6 ⟨rfl, ⟨nd, rfl⟩⟩
   replace HB := Aside0.mk (pw_below_drewN HB.out nd)
   replace HK := Aside0.mk (blk_drewN HK.out nd); replace HA := Aside0.mk (blk_drewN HA.out nd)
   clear k0 k7 d0 d1 d2
   generalize wb.drewN nd = wc6 at HK HA HB ⊢
   have k0 : wc6.cell? ⟨w.heap.size, 0, none⟩ = some (.int .i64 r.a0) := (blk_cell HK.out 0).trans rfl
   have k7 : wc6.cell? ⟨w.heap.size, 7, none⟩ = some (.int .i64 r.a7) := (blk_cell HK.out 7).trans rfl
   have d0 : wc6.cell? ⟨g, 0, none⟩ = some (.int .i64 y) := (blk_cell HA.out 0).trans rfl
   have d1 : wc6.cell? ⟨g, 1, none⟩ = some (.int .i64 m) := (blk_cell HA.out 1).trans rfl
   have d2 : wc6.cell? ⟨g, 2, none⟩ = some (.int .i64 dd) := (blk_cell HA.out 2).trans rfl
   go_wp2_with fail
   refine (trystref01_Mod.calls q_ 12 t _ HT.out).mono ?_
   rintro q wq7 ⟨rfl, ⟨nd, rfl⟩⟩
   replace HB := Aside0.mk (pw_below_drewN HB.out nd)
   replace HK := Aside0.mk (blk_drewN HK.out nd); replace HA := Aside0.mk (blk_drewN HA.out nd)
   clear k0 k7 d0 d1 d2
   generalize wc6.drewN nd = wc7 at HK HA HB ⊢
   have k0 : wc7.cell? ⟨w.heap.size, 0, none⟩ = some (.int .i64 r.a0) := (blk_cell HK.out 0).trans rfl
   have k7 : wc7.cell? ⟨w.heap.size, 7, none⟩ = some (.int .i64 r.a7) := (blk_cell HK.out 7).trans rfl
   have d0 : wc7.cell? ⟨g, 0, none⟩ = some (.int .i64 y) := (blk_cell HA.out 0).trans rfl
   have d1 : wc7.cell? ⟨g, 1, none⟩ = some (.int .i64 m) := (blk_cell HA.out 1).trans rfl
   have d2 : wc7.cell? ⟨g, 2, none⟩ = some (.int .i64 dd) := (blk_cell HA.out 2).trans rfl
   by_cases c : yy ≥ 1
   ·have y1 : decide (yy ≥ 1) = true := decide_eq_true c; have y2 : decide (yy ≤ 9999) = false := decide_eq_false (by omega); clear c h1
    go_wp2_with fail
    go_ret2
    exact ⟨rfl, HB.out⟩
   ·have y1 : decide (yy ≥ 1) = false := decide_eq_false c; clear c h1
    go_wp2_with fail
    go_ret2
    exact ⟨rfl, HB.out⟩
  | year u v g2 r1 r2 h e1 h1 h2 hx e2 hl e3 =>
   have x1 : (r.a0 == 1) = false := beq_eq_false_iff_ne.2 (by omega)
   have x2 : (r.a0 == 2) = false := beq_eq_false_iff_ne.2 (by omega)
   have x3 : (r.a0 == 3) = false := beq_eq_false_iff_ne.2 (by omega)
   clear h
   have HX := Aside0.mk hx; have HL := Aside0.mk hl; have y1 : decide (u ≥ 1) = true := decide_eq_true h1; have y2 : decide (u ≤ 9999) = true := decide_eq_true h2; clear hx hl h1 h2
   go_wp2_with fail
   refine (trystref01_Fixed.calls k 0 u 1 1 r1 _ HX.out).mono ?_
   rintro q wq8 ⟨rfl, ⟨nd, rfl⟩⟩
   replace HB := Aside0.mk (pw_below_drewN HB.out nd)
   replace HK := Aside0.mk (blk_drewN HK.out nd); replace HA := Aside0.mk (blk_drewN HA.out nd)
   clear k0 k7 d0 d1 d2
   generalize wb.drewN nd = wc8 at HK HA HB ⊢
   have k0 : wc8.cell? ⟨w.heap.size, 0, none⟩ = some (.int .i64 r.a0) := (blk_cell HK.out 0).trans rfl
   have k7 : wc8.cell? ⟨w.heap.size, 7, none⟩ = some (.int .i64 r.a7) := (blk_cell HK.out 7).trans rfl
   have d0 : wc8.cell? ⟨g, 0, none⟩ = some (.int .i64 y) := (blk_cell HA.out 0).trans rfl
   have d1 : wc8.cell? ⟨g, 1, none⟩ = some (.int .i64 m) := (blk_cell HA.out 1).trans rfl
   have d2 : wc8.cell? ⟨g, 2, none⟩ = some (.int .i64 dd) := (blk_cell HA.out 2).trans rfl
   go_wp2_with fail
   refine (trystref01_Fixed.calls k 0 v 1 1 g2 _ HL.out).mono ?_
   rintro q wq9 ⟨rfl, ⟨nd, rfl⟩⟩
   replace HB := Aside0.mk (pw_below_drewN HB.out nd)
   replace HK := Aside0.mk (blk_drewN HK.out nd); replace HA := Aside0.mk (blk_drewN HA.out nd)
   clear k0 k7 d0 d1 d2
   generalize wc8.drewN nd = wc9 at HK HA HB ⊢
   have k0 : wc9.cell? ⟨w.heap.size, 0, none⟩ = some (.int .i64 r.a0) := (blk_cell HK.out 0).trans rfl
   have k7 : wc9.cell? ⟨w.heap.size, 7, none⟩ = some (.int .i64 r.a7) := (blk_cell HK.out 7).trans rfl
   have d0 : wc9.cell? ⟨g, 0, none⟩ = some (.int .i64 y) := (blk_cell HA.out 0).trans rfl
   have d1 : wc9.cell? ⟨g, 1, none⟩ = some (.int .i64 m) := (blk_cell HA.out 1).trans rfl
   have d2 : wc9.cell? ⟨g, 2, none⟩ = some (.int .i64 dd) := (blk_cell HA.out 2).trans rfl
   go_wp2_with fail
   go_ret2
   exact ⟨rfl, HB.out⟩
  | ynone u h e1 h1 =>
   have x1 : (r.a0 == 1) = false := beq_eq_false_iff_ne.2 (by omega)
   have x2 : (r.a0 == 2) = false := beq_eq_false_iff_ne.2 (by omega)
   have x3 : (r.a0 == 3) = false := beq_eq_false_iff_ne.2 (by omega)
   clear h
   by_cases c : u ≥ 1
   ·have y1 : decide (u ≥ 1) = true := decide_eq_true c; have y2 : decide (u ≤ 9999) = false := decide_eq_false (by omega); clear c h1
    go_wp2_with fail
    go_ret2
    exact ⟨rfl, HB.out⟩
   ·have y1 : decide (u ≥ 1) = false := decide_eq_false c; clear c h1
    go_wp2_with fail
    go_ret2
    exact ⟨rfl, HB.out⟩
 ·have g1 : decide (f > l) = false := decide_eq_false c
  rw [if_neg c] at hF hL; subst hF hL; clear c
  cases h with
  | day r1 h e1 =>
   have x1 : (r.a0 == 1) = true := beq_iff_eq.2 (by omega)
   have x2 : (r.a0 == 2) = false := beq_eq_false_iff_ne.2 (by omega)
   have x3 : (r.a0 == 3) = false := beq_eq_false_iff_ne.2 (by omega)
   clear h
   go_wp2_with fail
   go_ret2
   exact ⟨rfl, HB.out⟩
  | week wk u r1 r2 h hw e1 e2 e3 =>
   have x1 : (r.a0 == 1) = false := beq_eq_false_iff_ne.2 (by omega)
   have x2 : (r.a0 == 2) = true := beq_iff_eq.2 (by omega)
   have x3 : (r.a0 == 3) = false := beq_eq_false_iff_ne.2 (by omega)
   clear h
   have HW := Aside0.mk hw; clear hw
   go_wp2_with fail
   refine (trystref14_Begin.calls k b r.a7 wk _ HW.out).mono ?_
   rintro q wq10 ⟨rfl, ⟨nd, rfl⟩⟩
   replace HB := Aside0.mk (pw_below_drewN HB.out nd)
   replace HK := Aside0.mk (blk_drewN HK.out nd); replace HA := Aside0.mk (blk_drewN HA.out nd)
   clear k0 k7 d0 d1 d2
   generalize wb.drewN nd = wc10 at HK HA HB ⊢
   have k0 : wc10.cell? ⟨w.heap.size, 0, none⟩ = some (.int .i64 r.a0) := (blk_cell HK.out 0).trans rfl
   have k7 : wc10.cell? ⟨w.heap.size, 7, none⟩ = some (.int .i64 r.a7) := (blk_cell HK.out 7).trans rfl
   have d0 : wc10.cell? ⟨g, 0, none⟩ = some (.int .i64 y) := (blk_cell HA.out 0).trans rfl
   have d1 : wc10.cell? ⟨g, 1, none⟩ = some (.int .i64 m) := (blk_cell HA.out 1).trans rfl
   have d2 : wc10.cell? ⟨g, 2, none⟩ = some (.int .i64 dd) := (blk_cell HA.out 2).trans rfl
   go_wp2_with fail
   go_ret2
   exact ⟨rfl, HB.out⟩
  | month u1 u2 u3 q_ yy t kk ln v r1 r2 h e1 e2 e3 e4 hf ht e5 h1 h2 hx hl e6 e7 =>
   have HX := Aside0.mk hx; have HL := Aside0.mk hl; clear hx hl
   have x1 : (r.a0 == 1) = false := beq_eq_false_iff_ne.2 (by omega)
   have x2 : (r.a0 == 2) = false := beq_eq_false_iff_ne.2 (by omega)
   have x3 : (r.a0 == 3) = true := beq_iff_eq.2 (by omega)
   clear h
   have HF := Aside0.mk hf; have HT := Aside0.mk ht; clear hf ht
   go_wp2_with fail
   refine (trystref01_Floor.calls q_ 12 yy _ HF.out).mono ?_
   rintro q wq11 ⟨rfl, ⟨nd, rfl⟩⟩
   replace HB := Aside0.mk (pw_below_drewN HB.out nd)
   replace HK := Aside0.mk (blk_drewN HK.out nd); replace HA := Aside0.mk (blk_drewN HA.out nd)
   clear k0 k7 d0 d1 d2
   generalize wb.drewN nd = wc11 at HK HA HB ⊢
   have k0 : wc11.cell? ⟨w.heap.size, 0, none⟩ = some (.int .i64 r.a0) := (blk_cell HK.out 0).trans rfl
   have k7 : wc11.cell? ⟨w.heap.size, 7, none⟩ = some (.int .i64 r.a7) := (blk_cell HK.out 7).trans rfl
   have d0 : wc11.cell? ⟨g, 0, none⟩ = some (.int .i64 y) := (blk_cell HA.out 0).trans rfl
   have d1 : wc11.cell? ⟨g, 1, none⟩ = some (.int .i64 m) := (blk_cell HA.out 1).trans rfl
   have d2 : wc11.cell? ⟨g, 2, none⟩ = some (.int .i64 dd) := (blk_cell HA.out 2).trans rfl
   go_wp2_with fail
   refine (trystref01_Mod.calls q_ 12 t _ HT.out).mono ?_
   rintro q wq12 ⟨rfl, ⟨nd, rfl⟩⟩
   replace HB := Aside0.mk (pw_below_drewN HB.out nd)
   replace HK := Aside0.mk (blk_drewN HK.out nd); replace HA := Aside0.mk (blk_drewN HA.out nd)
   clear k0 k7 d0 d1 d2
   generalize wc11.drewN nd = wc12 at HK HA HB ⊢
   have k0 : wc12.cell? ⟨w.heap.size, 0, none⟩ = some (.int .i64 r.a0) := (blk_cell HK.out 0).trans rfl
   have k7 : wc12.cell? ⟨w.heap.size, 7, none⟩ = some (.int .i64 r.a7) := (blk_cell HK.out 7).trans rfl
   have d0 : wc12.cell? ⟨g, 0, none⟩ = some (.int .i64 y) := (blk_cell HA.out 0).trans rfl
   have d1 : wc12.cell? ⟨g, 1, none⟩ = some (.int .i64 m) := (blk_cell HA.out 1).trans rfl
   have d2 : wc12.cell? ⟨g, 2, none⟩ = some (.int .i64 dd) := (blk_cell HA.out 2).trans rfl
   have y1 : decide (yy ≥ 1) = true := decide_eq_true h1; have y2 : decide (yy ≤ 9999) = true := decide_eq_true h2; clear h1 h2
   go_wp2_with fail
   refine (trystref01_Fixed.calls k 0 yy kk 1 r1 _ HX.out).mono ?_
   rintro q wq13 ⟨rfl, ⟨nd, rfl⟩⟩
   replace HB := Aside0.mk (pw_below_drewN HB.out nd)
   replace HK := Aside0.mk (blk_drewN HK.out nd); replace HA := Aside0.mk (blk_drewN HA.out nd)
   clear k0 k7 d0 d1 d2
   generalize wc12.drewN nd = wc13 at HK HA HB ⊢
   have k0 : wc13.cell? ⟨w.heap.size, 0, none⟩ = some (.int .i64 r.a0) := (blk_cell HK.out 0).trans rfl
   have k7 : wc13.cell? ⟨w.heap.size, 7, none⟩ = some (.int .i64 r.a7) := (blk_cell HK.out 7).trans rfl
   have d0 : wc13.cell? ⟨g, 0, none⟩ = some (.int .i64 y) := (blk_cell HA.out 0).trans rfl
   have d1 : wc13.cell? ⟨g, 1, none⟩ = some (.int .i64 m) := (blk_cell HA.out 1).trans rfl
   have d2 : wc13.cell? ⟨g, 2, none⟩ = some (.int .i64 dd) := (blk_cell HA.out 2).trans rfl
   go_wp2_with fail
   refine (trystref01_Length.calls k 0 yy kk ln _ HL.out).mono ?_
   rintro q wq14 ⟨rfl, ⟨nd, rfl⟩⟩
   replace HB := Aside0.mk (pw_below_drewN HB.out nd)
   replace HK := Aside0.mk (blk_drewN HK.out nd); replace HA := Aside0.mk (blk_drewN HA.out nd)
   clear k0 k7 d0 d1 d2
   generalize wc13.drewN nd = wc14 at HK HA HB ⊢
   have k0 : wc14.cell? ⟨w.heap.size, 0, none⟩ = some (.int .i64 r.a0) := (blk_cell HK.out 0).trans rfl
   have k7 : wc14.cell? ⟨w.heap.size, 7, none⟩ = some (.int .i64 r.a7) := (blk_cell HK.out 7).trans rfl
   have d0 : wc14.cell? ⟨g, 0, none⟩ = some (.int .i64 y) := (blk_cell HA.out 0).trans rfl
   have d1 : wc14.cell? ⟨g, 1, none⟩ = some (.int .i64 m) := (blk_cell HA.out 1).trans rfl
   have d2 : wc14.cell? ⟨g, 2, none⟩ = some (.int .i64 dd) := (blk_cell HA.out 2).trans rfl
   go_wp2_with fail
   go_ret2
   exact ⟨rfl, HB.out⟩
  | mnone u1 u2 u3 q_ yy t kk h e1 e2 e3 e4 hf ht e5 h1 =>
   have x1 : (r.a0 == 1) = false := beq_eq_false_iff_ne.2 (by omega)
   have x2 : (r.a0 == 2) = false := beq_eq_false_iff_ne.2 (by omega)
   have x3 : (r.a0 == 3) = true := beq_iff_eq.2 (by omega)
   clear h
   have HF := Aside0.mk hf; have HT := Aside0.mk ht; clear hf ht
   go_wp2_with fail
   refine (trystref01_Floor.calls q_ 12 yy _ HF.out).mono ?_
   rintro q wq15 ⟨rfl, ⟨nd, rfl⟩⟩
   replace HB := Aside0.mk (pw_below_drewN HB.out nd)
   replace HK := Aside0.mk (blk_drewN HK.out nd); replace HA := Aside0.mk (blk_drewN HA.out nd)
   clear k0 k7 d0 d1 d2
   generalize wb.drewN nd = wc15 at HK HA HB ⊢
   have k0 : wc15.cell? ⟨w.heap.size, 0, none⟩ = some (.int .i64 r.a0) := (blk_cell HK.out 0).trans rfl
   have k7 : wc15.cell? ⟨w.heap.size, 7, none⟩ = some (.int .i64 r.a7) := (blk_cell HK.out 7).trans rfl
   have d0 : wc15.cell? ⟨g, 0, none⟩ = some (.int .i64 y) := (blk_cell HA.out 0).trans rfl
   have d1 : wc15.cell? ⟨g, 1, none⟩ = some (.int .i64 m) := (blk_cell HA.out 1).trans rfl
   have d2 : wc15.cell? ⟨g, 2, none⟩ = some (.int .i64 dd) := (blk_cell HA.out 2).trans rfl
   go_wp2_with fail
   refine (trystref01_Mod.calls q_ 12 t _ HT.out).mono ?_
   rintro q wq16 ⟨rfl, ⟨nd, rfl⟩⟩
   replace HB := Aside0.mk (pw_below_drewN HB.out nd)
   replace HK := Aside0.mk (blk_drewN HK.out nd); replace HA := Aside0.mk (blk_drewN HA.out nd)
   clear k0 k7 d0 d1 d2
   generalize wc15.drewN nd = wc16 at HK HA HB ⊢
   have k0 : wc16.cell? ⟨w.heap.size, 0, none⟩ = some (.int .i64 r.a0) := (blk_cell HK.out 0).trans rfl
   have k7 : wc16.cell? ⟨w.heap.size, 7, none⟩ = some (.int .i64 r.a7) := (blk_cell HK.out 7).trans rfl
   have d0 : wc16.cell? ⟨g, 0, none⟩ = some (.int .i64 y) := (blk_cell HA.out 0).trans rfl
   have d1 : wc16.cell? ⟨g, 1, none⟩ = some (.int .i64 m) := (blk_cell HA.out 1).trans rfl
   have d2 : wc16.cell? ⟨g, 2, none⟩ = some (.int .i64 dd) := (blk_cell HA.out 2).trans rfl
   by_cases c : yy ≥ 1
   ·have y1 : decide (yy ≥ 1) = true := decide_eq_true c; have y2 : decide (yy ≤ 9999) = false := decide_eq_false (by omega); clear c h1
    go_wp2_with fail
    go_ret2
    exact ⟨rfl, HB.out⟩
   ·have y1 : decide (yy ≥ 1) = false := decide_eq_false c; clear c h1
    go_wp2_with fail
    go_ret2
    exact ⟨rfl, HB.out⟩
  | year u v g2 r1 r2 h e1 h1 h2 hx e2 hl e3 =>
   have x1 : (r.a0 == 1) = false := beq_eq_false_iff_ne.2 (by omega)
   have x2 : (r.a0 == 2) = false := beq_eq_false_iff_ne.2 (by omega)
   have x3 : (r.a0 == 3) = false := beq_eq_false_iff_ne.2 (by omega)
   clear h
   have HX := Aside0.mk hx; have HL := Aside0.mk hl; have y1 : decide (u ≥ 1) = true := decide_eq_true h1; have y2 : decide (u ≤ 9999) = true := decide_eq_true h2; clear hx hl h1 h2
   go_wp2_with fail
   refine (trystref01_Fixed.calls k 0 u 1 1 r1 _ HX.out).mono ?_
   rintro q wq17 ⟨rfl, ⟨nd, rfl⟩⟩
   replace HB := Aside0.mk (pw_below_drewN HB.out nd)
   replace HK := Aside0.mk (blk_drewN HK.out nd); replace HA := Aside0.mk (blk_drewN HA.out nd)
   clear k0 k7 d0 d1 d2
   generalize wb.drewN nd = wc17 at HK HA HB ⊢
   have k0 : wc17.cell? ⟨w.heap.size, 0, none⟩ = some (.int .i64 r.a0) := (blk_cell HK.out 0).trans rfl
   have k7 : wc17.cell? ⟨w.heap.size, 7, none⟩ = some (.int .i64 r.a7) := (blk_cell HK.out 7).trans rfl
   have d0 : wc17.cell? ⟨g, 0, none⟩ = some (.int .i64 y) := (blk_cell HA.out 0).trans rfl
   have d1 : wc17.cell? ⟨g, 1, none⟩ = some (.int .i64 m) := (blk_cell HA.out 1).trans rfl
   have d2 : wc17.cell? ⟨g, 2, none⟩ = some (.int .i64 dd) := (blk_cell HA.out 2).trans rfl
   go_wp2_with fail
   refine (trystref01_Fixed.calls k 0 v 1 1 g2 _ HL.out).mono ?_
   rintro q wq18 ⟨rfl, ⟨nd, rfl⟩⟩
   replace HB := Aside0.mk (pw_below_drewN HB.out nd)
   replace HK := Aside0.mk (blk_drewN HK.out nd); replace HA := Aside0.mk (blk_drewN HA.out nd)
   clear k0 k7 d0 d1 d2
   generalize wc17.drewN nd = wc18 at HK HA HB ⊢
   have k0 : wc18.cell? ⟨w.heap.size, 0, none⟩ = some (.int .i64 r.a0) := (blk_cell HK.out 0).trans rfl
   have k7 : wc18.cell? ⟨w.heap.size, 7, none⟩ = some (.int .i64 r.a7) := (blk_cell HK.out 7).trans rfl
   have d0 : wc18.cell? ⟨g, 0, none⟩ = some (.int .i64 y) := (blk_cell HA.out 0).trans rfl
   have d1 : wc18.cell? ⟨g, 1, none⟩ = some (.int .i64 m) := (blk_cell HA.out 1).trans rfl
   have d2 : wc18.cell? ⟨g, 2, none⟩ = some (.int .i64 dd) := (blk_cell HA.out 2).trans rfl
   go_wp2_with fail
   go_ret2
   exact ⟨rfl, HB.out⟩
  | ynone u h e1 h1 =>
   have x1 : (r.a0 == 1) = false := beq_eq_false_iff_ne.2 (by omega)
   have x2 : (r.a0 == 2) = false := beq_eq_false_iff_ne.2 (by omega)
   have x3 : (r.a0 == 3) = false := beq_eq_false_iff_ne.2 (by omega)
   clear h
   by_cases c : u ≥ 1
   ·have y1 : decide (u ≥ 1) = true := decide_eq_true c; have y2 : decide (u ≤ 9999) = false := decide_eq_false (by omega); clear c h1
    go_wp2_with fail
    go_ret2
    exact ⟨rfl, HB.out⟩
   ·have y1 : decide (u ≥ 1) = false := decide_eq_false c; clear c h1
    go_wp2_with fail
    go_ret2
    exact ⟨rfl, HB.out⟩
end Go.Proofs.YtfdcldjoncednaaGreat.RefS
/- trystref14.Period: a rule as one thing (Ru). -/
namespace Go.Proofs.YtfdcldjoncednaaGreat.RefPp
open Go.RowKit Go.Proofs.YtfdcldjoncednaaGreatW.PrintWords Go.Proofs.YtfdcldjoncednaaGreatW.PrintLast Go.Proofs.YtfdcldjoncednaaGreatW.PrintMore Go.Proofs.YtfdcldjoncednaaGreat.M Go.Proofs.YtfdcldjoncednaaGreat.Ru
set_option linter.unusedVariables false
set_option linter.unusedSimpArgs false
/-- The period of a day, by the document (w1, w2: with which days the weeks begin). -/
def perR (r : Ru) (b d ay am dy dm w1 w2 : Int) : Int := if r.a0 = 1 then wrap64 (d - b) else if r.a0 = 2 then wrap64 (Int.tdiv (wrap64 (w1 - w2)) 7) else if r.a0 = 3 then wrap64 (wrap64 (wrap64 (12 * wrap64 (dy - ay)) + dm) - am) else wrap64 (dy - ay)
set_option maxHeartbeats 4000000 in
set_option maxRecDepth 100000 in
theorem period (k : Nat) (r : Ru) (p : Rp) (b d ay am ad dy dm dd w1 w2 : Int) (w : World) (h1 : trystref14_date.f k b = some (ay, am, ad)) (h2 : trystref14_date.f k d = some (dy, dm, dd)) (h3 : trystref14_Begin.f k d r.a7 = some w1) (h4 : trystref14_Begin.f k b r.a7 = some w2) :
  Calls Tryz.prog 11 #[.agg (agg r p), .int .i64 b, .int .i64 d] w fun e w' => e = .returned (.int .i64 (perR r b d ay am dy dm w1 w2)) ∧ Below w.heap.size w w' := by
 have H1 := Aside0.mk h1; have H2 := Aside0.mk h2; have H3 := Aside0.mk h3; have H4 := Aside0.mk h4; clear h1 h2 h3 h4
 have HK := Aside0.mk (blk_new w (obj r p))
 have HB := Aside0.mk (below_alloc (Below.refl w.heap.size w) (obj r p))
 go_enter Tryz.func11, Tryz.ntmps11
 go_upto_region 1 with fail
 generalize w.alloc (obj r p) = w0 at HK HB ⊢
 go_wp2_with fail
 refine (trystref14_date.calls k b ay am ad _ H1.out).mono ?_
 rintro e wa ⟨rfl, hb⟩
 replace HK := Aside0.mk (blk_below HK.out hb)
 replace HB := Aside0.mk (below_then HB.out HB.out.size hb)
 clear hb
 go_wp2_with fail
 refine (trystref14_date.calls k d dy dm dd _ H2.out).mono ?_
 rintro e wb ⟨rfl, hb⟩
 replace HK := Aside0.mk (blk_below HK.out hb)
 replace HB := Aside0.mk (below_then HB.out HB.out.size hb)
 clear hb
 have kA : ∀ o o', ((wb.alloc o).alloc o').cell? ⟨w.heap.size, 0, none⟩ = some (.int .i64 r.a0) := fun o o' => pw_cell_below (below_alloc (below_alloc (Below.refl _ _) o) o') ((blk_cell HK.out 0).trans rfl)
 have kB : ∀ o o', ((wb.alloc o).alloc o').cell? ⟨w.heap.size, 7, none⟩ = some (.int .i64 r.a7) := fun o o' => pw_cell_below (below_alloc (below_alloc (Below.refl _ _) o) o') ((blk_cell HK.out 7).trans rfl)
 have HB2 := Aside0.mk (show ∀ o o', Below w.heap.size w ((wb.alloc o).alloc o') from fun o o' => below_alloc (below_alloc HB.out o) o')
 by_cases a : r.a0 = 1
 ·have a1 : (r.a0 == 1) = true := beq_iff_eq.2 a
  have A := Aside0.mk a; clear a
  go_wp2_with fail
  go_ret
  exact ⟨by simp [perR, A.out, i64_w], HB2.out _ _⟩
 have a1 : (r.a0 == 1) = false := beq_eq_false_iff_ne.2 a
 have A1 := Aside0.mk a; clear a
 by_cases a : r.a0 = 2
 ·have a1 : (r.a0 == 2) = true := beq_iff_eq.2 a
  have A := Aside0.mk a; clear a
  go_wp2_with fail
  go_quiet (first | (go_at_call 31; ((with_reducible refine (trystref14_Begin.calls k d r.a7 w1 _ H3.out).mono ?_); rintro e w' ⟨rfl, ⟨nd, rfl⟩⟩; (first | exact ⟨rfl, _, World.drewN_drewN _ _ _⟩ | exact ⟨rfl, _, Eq.trans (World.drewN_drewN _ _ _) (congrArg (World.drewN _) (Nat.add_assoc _ _ _))⟩))) | (go_at_call 31; ((with_reducible refine (trystref14_Begin.calls k b r.a7 w2 _ H4.out).mono ?_); rintro e w' ⟨rfl, ⟨nd, rfl⟩⟩; (first | exact ⟨rfl, _, World.drewN_drewN _ _ _⟩ | exact ⟨rfl, _, Eq.trans (World.drewN_drewN _ _ _) (congrArg (World.drewN _) (Nat.add_assoc _ _ _))⟩))))
  go_wp2_with fail
  go_ret
  exact ⟨by simp [perR, A.out, i64_w], pw_below_drewN (HB2.out _ _) _⟩
 have a2 : (r.a0 == 2) = false := beq_eq_false_iff_ne.2 a
 have A2 := Aside0.mk a; clear a
 by_cases a : r.a0 = 3
 ·have a1 : (r.a0 == 3) = true := beq_iff_eq.2 a
  have A := Aside0.mk a; clear a
  go_wp2_with fail
  go_ret
  exact ⟨by simp [perR, A.out, i64_w], HB2.out _ _⟩
 have a3 : (r.a0 == 3) = false := beq_eq_false_iff_ne.2 a
 have A3 := Aside0.mk a; clear a
 go_wp2_with fail
 go_ret
 exact ⟨by simp [perR, A1.out, A2.out, A3.out, i64_w], HB2.out _ _⟩
end Go.Proofs.YtfdcldjoncednaaGreat.RefPp
/- What the laws of periods need: plain, and what is asked wrongly. (Written by gen_purew.py out of PureFits and MatLaw.) -/
namespace Go.Proofs.YtfdcldjoncednaaGreat.PureW
open Go.RowKit Go.Proofs.YtfdcldjoncednaaGreatW.PrintWords Go.Proofs.YtfdcldjoncednaaGreatW.PrintLast Go.Proofs.YtfdcldjoncednaaGreat.M Go.Proofs.YtfdcldjoncednaaGreat.Cal Go.Proofs.YtfdcldjoncednaaGreat.FunA Go.Proofs.YtfdcldjoncednaaGreat.FunB Go.Proofs.YtfdcldjoncednaaGreat.FunC Go.Proofs.YtfdcldjoncednaaGreat.FunD Go.Proofs.YtfdcldjoncednaaGreat.FunI Go.Proofs.YtfdcldjoncednaaGreat.Ru Go.Proofs.YtfdcldjoncednaaGreat.MatD Go.Proofs.YtfdcldjoncednaaGreat.MatP Go.Proofs.YtfdcldjoncednaaGreat.MatF Go.Proofs.YtfdcldjoncednaaGreat.MatG Go.Proofs.YtfdcldjoncednaaGreat.RefF Go.Proofs.YtfdcldjoncednaaGreat.RecG
set_option linter.unusedVariables false
set_option linter.unusedSimpArgs false
theorem i64 {a : Int} (h : -1000000000 ≤ a) (h' : a ≤ 1000000000) : I64 a := ⟨by omega, by omega⟩
theorem weekday_ (x : Int) (h : -1000000000 ≤ x) (h' : x ≤ 1000000000) : trystref14_weekday.f x = some (x % 7) := by
 unfold trystref14_weekday.f
 rw [fMod x 7 (by omega) (by omega) (i64 h h')]; rfl
/-- The day with which a day's week begins. -/
def wbg (d s : Int) : Int := d - (d - s) % 7
theorem wb_p (d s : Int) (hd : In d) (h0 : 0 ≤ s) (h6 : s ≤ 6) : match_weekBegin.f d s = some (wbg d s) := by
 obtain ⟨d1, d2⟩ := hd
 unfold match_weekBegin.f wbg
 rw [rWeekday d (i64 (by omega) (by omega)), Option.bind_some, w64 (by omega) (by omega), rMod _ 7 (by omega) (by omega) (i64 (by omega) (by omega)), Option.bind_some, show (d % 7 - s) % 7 = (d - s) % 7 by omega, w64 (by omega) (by omega)]
theorem wb0 (s : Int) (h0 : 0 ≤ s) (h6 : s ≤ 6) : ∀ (j k : Nat) (d : Int), -100 + j ≤ d → d ≤ 4000000 → (d - s) % 7 = j → j + 1 ≤ k → trystref14_Begin.l0 k d s = some (d - j) := by
 intro j
 induction j with
 | zero =>
  intro k d h1 h2 h3 hk
  obtain ⟨k, rfl⟩ : ∃ m, k = m + 1 := ⟨k - 1, by omega⟩
  simp only [trystref14_Begin.l0]
  rw [weekday_ d (by omega) (by omega), Option.bind_some, if_pos (by omega)]; simp
 | succ j ih =>
  intro k d h1 h2 h3 hk
  obtain ⟨k, rfl⟩ : ∃ m, k = m + 1 := ⟨k - 1, by omega⟩
  simp only [trystref14_Begin.l0]
  rw [weekday_ d (by omega) (by omega), Option.bind_some, if_neg (by omega), w64 (by omega) (by omega), ih k (d - 1) (by omega) (by omega) (by omega) (by omega)]
  congr 1; omega
theorem wb_r (k : Nat) (hk : 8 ≤ k) (d s : Int) (hd : In d) (h0 : 0 ≤ s) (h6 : s ≤ 6) : trystref14_Begin.f k d s = some (wbg d s) := by
 obtain ⟨d1, d2⟩ := hd
 unfold trystref14_Begin.f wbg
 have := wb0 s h0 h6 ((d - s) % 7).toNat k d (by omega) (by omega) (by omega) (by omega)
 rw [this]; congr 1; omega
/-- A day's date, by both. -/
theorem date_ (k : Nat) (hk : 130 ≤ k) (d : Int) (hd : In d) : ∃ y m dd, 1 ≤ y ∧ y ≤ 9999 ∧ Is ah lp y m dd d ∧ trystref14_date.f k d = some (y, m, dd) ∧
  match_of.f k d = some (d, y, m, dd, d % 7, dd, dim (lp y) m, d - ah y, 365 + lp y) := by
 obtain ⟨m, dd, e1, i1⟩ := rDate_yes k (by omega) d hd
 obtain ⟨y', m', d', e2, i2⟩ := fDate0 k (by omega) d hd
 obtain ⟨rfl, rfl, rfl⟩ := Is.one greg i1 i2
 have hy := yr_In hd
 refine ⟨yr d, m, dd, hy.1, hy.2, i1, ?_, ?_⟩
 ·unfold trystref14_date.f
  rw [e2]; rfl
 ·unfold match_of.f
  rw [e1, Option.bind_some, rInYear_yes d hd, Option.bind_some, rLeap, Option.bind_some, rWeekday d (i64 (by have := hd.1; omega) (by have := hd.2; omega)), rLength k (by omega)]
  rcases lp_01 (yr d) with h | h
  ·rw [h]; rfl
  ·rw [h]; rfl
theorem fixed1 (k : Nat) (hk : 8 ≤ k) (y : Int) (h : -40000 ≤ y) (h' : y ≤ 40000) : trystref01_Fixed.f k 0 y 1 1 = some (ah y + 1) := by
 rw [fFixed k hk 0 y 1 1 (Or.inl rfl) h h' (by omega) (by omega) (by omega) (by omega)]
 unfold fx; rw [if_pos rfl, cum_one]; congr 1; omega
theorem fixedM (k : Nat) (hk : 8 ≤ k) (y m : Int) (h : -40000 ≤ y) (h' : y ≤ 40000) (hm : 1 ≤ m) (hm' : m ≤ 12) : trystref01_Fixed.f k 0 y m 1 = some (ah y + cum (lp y) m + 1) := by
 rw [fFixed k hk 0 y m 1 (Or.inl rfl) h h' hm (by omega) (by omega) (by omega)]
 unfold fx; rw [if_pos rfl]
theorem lengthM (k : Nat) (hk : 9 ≤ k) (y m : Int) (h : -40000 ≤ y) (h' : y < 40000) : trystref01_Length.f k 0 y m = some (dim (lp y) m) := by
 rw [fLength k hk 0 y m (Or.inl rfl) h h']; unfold len; rw [if_pos rfl]
/-- What a formed rule is, as far as a day's fitting goes. -/
structure Frm (r : Ru) : Prop where
 f1 : 1 ≤ r.a0
 f4 : r.a0 ≤ 4
 i1 : 1 ≤ r.a1
 s0 : 0 ≤ r.a7
 s6 : r.a7 ≤ 6
 l11 : r.l11.length ≤ 40
 l12 : r.l12.length ≤ 40
 l13 : r.l13.length ≤ 40
 l14 : r.l14.length ≤ 40
 l15 : r.l15.length ≤ 40
 nw : r.a0 ≠ 4 → r.l14.length = 0
theorem dim_le (y m : Int) (h1 : 1 ≤ m) (h2 : m ≤ 12) : 28 ≤ dim (lp y) m ∧ dim (lp y) m ≤ 31 := dim_lo (lp y) m (lp_01 y) h1 h2
theorem both (r : Ru) (hs : r.a5.size ≤ 9223372036854775807) : ∃ rt : Bool, ∀ k, r.a5.size + 60 ≤ k → trystref12_RightTime.f k r.a3 r.a4 r.a5 = some rt ∧ FormOk k r (frmB r rt) := by
 obtain ⟨rt, h⟩ := Right.right_ r.a3 r.a4 r.a5 hs
 exact ⟨rt, fun k hk => ⟨(h k (by omega)).2, rt, by omega, (h k (by omega)).1, rfl⟩⟩
theorem frm_of {r : Ru} {rt : Bool} (h : frmB r rt = true) : Frm r := by
 unfold frmB at h
 simp only [Bool.and_eq_true] at h
 obtain ⟨h1, _, h3, _, h5⟩ := h
 unfold grd at h1
 simp only [Bool.and_eq_true, Bool.not_eq_true', decide_eq_false_iff_not] at h1
 have l40 : ∀ j, j < 8 → (LL r j).length ≤ 40 := fun j hj => ((RecM.formedF_iff _ _ _ _).1 (all8_at h3 j hj)).1
 have a3 := l40 3 (by omega); have a4 := l40 4 (by omega); have a5 := l40 5 (by omega); have a6 := l40 6 (by omega)
 unfold LL at a3 a4 a5 a6
 unfold last at h5
 simp only [Bool.and_eq_true, Bool.not_eq_true', Bool.or_eq_false_iff, Bool.and_eq_false_iff, decide_eq_false_iff_not] at h5
 refine ⟨by omega, by omega, by omega, by omega, by omega, by omega, a3, a4, a5, a6, fun n => ?_⟩
 rcases h5.1.1.1 with q | q
 ·exact absurd n (by simpa using q)
 ·omega
theorem fin_ (d : Int) : trystref01_In.f d = some (isDay d) := fIn d
theorem ask2 (fb : Bool) (b d : Int) : askF fb [b, d] = if fb = true then (if isDay b = true then (if isDay d = true then 0 else 2) else 2) else 10 := by
 unfold askF
 cases fb
 ·rfl
 ·rw [if_pos rfl, if_pos rfl]
  cases hb : isDay b <;> cases hd : isDay d <;> simp [hb, hd]
theorem reform (r : Ru) (p : Rp) (k : Nat) (rt : Bool) (w : World) (ok : Ok r p w) (h : trystref12_RightTime.f k r.a3 r.a4 r.a5 = some rt) :
  Calls Tryz.prog 16 #[.agg (agg r p)] w fun e w' => e = .returned (.bool (frmB r rt)) ∧ Below w.heap.size w w' :=
 RefF.walk r p k rt (oth r) w ok h rfl (fun i hi => rfl)
set_option maxHeartbeats 4000000 in
set_option maxRecDepth 100000 in
theorem wrong (r : Ru) (p : Rp) (k : Nat) (rt : Bool) (b d : Int) (w : World) (ok : Ok r p w) (h : trystref12_RightTime.f k r.a3 r.a4 r.a5 = some rt) :
  Calls Tryz.prog 10 #[.agg (agg r p), .int .i64 b, .int .i64 d] w fun e w' => e = .returned (.int .i64 (askF (frmB r rt) [b, d])) ∧ Below w.heap.size w w' := by
 have OK := Aside0.mk ok; have H := Aside0.mk h; clear ok h
 have HK := Aside0.mk (blk_new w (obj r p))
 have HB := Aside0.mk (below_alloc (Below.refl w.heap.size w) (obj r p))
 have A2 := Aside0.mk (ask2 (frmB r rt) b d)
 go_enter Tryz.func10, Tryz.ntmps10
 go_upto_region 1 with fail
 generalize w.alloc (obj r p) = w0 at HK HB ⊢
 go_wp2_with ((with_reducible refine gate_ (.load 27 (.tmp 3)) rfl ?_); refine Kd.event_run rfl (MatP.xR (.tmp 3) (w.heap.size) r p rfl rfl _ HK.out) ?_)
 refine (reform r p k rt w0 (OK.out.below HB.out) H.out).mono ?_
 rintro e w1 ⟨rfl, hb⟩
 replace HB := Aside0.mk (below_then HB.out HB.out.size hb)
 clear hb HK
 generalize hf : frmB r rt = fb at A2 ⊢
 have HF := Aside0.mk hf; clear hf
 cases fb with
 | false =>
  go_wp2_with fail
  go_ret
  exact ⟨by rw [HF.out]; rfl, HB.out⟩
 | true =>
  go_wp2_with fail
  refine (trystref01_In.calls b _ _ (fin_ b)).mono ?_
  rintro e w2 ⟨rfl, ⟨nd, rfl⟩⟩
  replace HB := Aside0.mk (pw_below_drewN HB.out nd)
  generalize w1.drewN nd = w2 at HB ⊢
  cases hb : isDay b with
  | false =>
   have B := Aside0.mk hb; clear hb
   go_wp2_with fail
   go_ret
   exact ⟨by rw [HF.out, A2.out, B.out]; rfl, HB.out⟩
  | true =>
   have B := Aside0.mk hb; clear hb
   go_wp2_with fail
   refine (trystref01_In.calls d _ _ (fin_ d)).mono ?_
   rintro e w3 ⟨rfl, ⟨nd, rfl⟩⟩
   replace HB := Aside0.mk (pw_below_drewN HB.out nd)
   generalize w2.drewN nd = w3 at HB ⊢
   cases hd : isDay d with
   | false =>
    have D := Aside0.mk hd; clear hd
    go_wp2_with fail
    go_ret
    exact ⟨by rw [HF.out, A2.out, B.out, D.out]; rfl, HB.out⟩
   | true =>
    have D := Aside0.mk hd; clear hd
    go_wp2_with fail
    go_ret
    exact ⟨by rw [HF.out, A2.out, B.out, D.out]; rfl, HB.out⟩
/-- The rule of the first look. -/
abbrev r0 : Ru := ⟨1, 1, 0, 0, 0, ⟨#[]⟩, false, 0, [], [], [], [], [], [], [], [], []⟩
abbrev p0 : Rp := ⟨none, 0, none, 0, none, 0, none, 0, none, 0, none, 0, none, 0, none, 0, none, 0⟩
theorem ok0 (w : World) : Ok r0 p0 w := ⟨Kd.C_nil _ _, Nat.le_refl _, Kd.C_nil _ _, Nat.le_refl _, Kd.C_nil _ _, Nat.le_refl _, Kd.C_nil _ _, Nat.le_refl _, Kd.C_nil _ _, Nat.le_refl _, Kd.C_nil _ _, Nat.le_refl _, Kd.C_nil _ _, Nat.le_refl _, Kd.C_nil _ _, Nat.le_refl _, Kd.C_nil _ _, Nat.le_refl _⟩
theorem LL0 (i : Nat) : LL r0 i = [] := by unfold LL; split <;> rfl
theorem frm0 (rt : Bool) : frmB r0 rt = true := by
 unfold frmB
 have h1 : grd r0 = true := rfl
 have h2 : untl r0 rt = true := by
  unfold untl
  rw [if_neg (by simp)]
  show (_ && (_ && ((⟨#[]⟩ : ByteArray).toList == _))) = _
  rw [ByteArray.toList_eq]; rfl
 have h3 : all8 r0 = true := all8_yes fun j hj => by
  unfold formL
  rw [LL0]; rfl
 have h4 : daysB r0.l11 = true := rfl
 have h5 : last r0 (oth r0 8) = true := by
  rw [oth_eq]; rfl
 rw [h1, h2, h3, h4, h5]; rfl
theorem v0 {k : Nat} {X Y : MatD.Fa} {v : Bool} (h : FitsOk k r0 X Y v) (hx : X.day = 5) (hy : Y.day = 6) : v = true := by
 obtain ⟨w1, w2, y, n, e1, t, e2, hm, b14, b13, b12, _, _, _, _, _, _, _, _, _, _, _, _, rfl⟩ := h
 have hp : perF r0 X Y w1 w2 = 1 := by
  unfold perF
  rw [if_pos rfl, hx, hy, w64 (by omega) (by omega)]; rfl
 rw [hp]
 rfl
theorem cont0 (k : Nat) (a : Int) : slices_Contains_int_int.f (k + 1) [] a = some false := by
 unfold slices_Contains_int_int.f slices_Index_int_int.f
 simp only [slices_Index_int_int.l0]
 rw [if_neg (by simp)]; rfl
theorem in0 (k : Nat) (n t : Int) : match_place_in.f (k + 1) n t [] = some false := by
 unfold match_place_in.f
 rw [cont0, Option.bind_some, if_neg (by simp), cont0]; rfl
theorem first (k : Nat) (hk : 130 ≤ k) : ∃ X Y v, dayOf k 5 X ∧ dayOf k 6 Y ∧ FitsOk k r0 X Y v ∧ X.day = 5 ∧ Y.day = 6 := by
 obtain ⟨ay, am, ad, a1, a9, ia, ea, fa_⟩ := date_ k hk 5 ⟨by omega, by omega⟩
 obtain ⟨y, m, dd, y1, y9, iy, ey, fy_⟩ := date_ k hk 6 ⟨by omega, by omega⟩
 have m1 := iy.m1; have m2 := iy.m2; have d1 := iy.d1; have d2 := iy.d2; have he := iy.e
 have dl := dim_le y m m1 m2
 have cb := cum_bd (l := lp y) (m := m) (lp_01 y) m1 (by omega)
 have ce := cum_le (l := lp y) (a := m + 1) (b := 13) (lp_01 y) (by omega) (by omega) (by omega)
 rw [cum_end, cum_succ _ _ m1 m2] at ce
 have hl := lp_01 y
 have ab := ah_bd y (by omega) (by omega)
 have s0 : Wday 0 := ⟨by omega, by omega⟩
 obtain ⟨z, z0, z1, hz, hz', e⟩ := iWeek_yes k (by omega) 6 0 ⟨by omega, by omega⟩ s0
 have bz := wk_rng z 0 (by omega) (by omega)
 obtain ⟨k1, rfl⟩ : ∃ j, k = j + 1 := ⟨k - 1, by omega⟩
 exact ⟨⟨5, ay, am, ad, 5 % 7, ad, dim (lp ay) am, 5 - ah ay, 365 + lp ay⟩, ⟨6, y, m, dd, 6 % 7, dd, dim (lp y) m, 6 - ah y, 365 + lp y⟩, _, fa_, fy_, ⟨wbg 6 0, wbg 5 0, z, _, 0, _, 0, false, false, false, false, by decide, wb_p 6 0 ⟨by omega, by omega⟩ (by omega) (by omega), wb_p 5 0 ⟨by omega, by omega⟩ (by omega) (by omega), cont0 k1 _, e, fun q => iWeeks_yes (k1 + 1) (by omega) z 0 (by omega) (by have := q.trans rfl; show z ≤ 9999; have h : z = y := q; omega) s0, in0 k1 _ _, in0 k1 _ _, in0 k1 _ _, ⟨d1, d2, by show dim (lp y) m ≤ 400; omega⟩, ⟨by show 1 ≤ 6 - ah y; omega, by show 6 - ah y ≤ 365 + lp y; omega, by show 365 + lp y ≤ 400; omega⟩, ⟨Nat.zero_le _, Nat.zero_le _, Nat.zero_le _⟩, rfl⟩, rfl, rfl⟩
set_option maxHeartbeats 4000000 in
set_option maxRecDepth 100000 in
theorem awake (w : World) : Calls Tryz.prog 6 #[] w fun e w' => e = .returned (.bool true) ∧ Below w.heap.size w w' := by
 obtain ⟨rt, hrt⟩ := both r0 (by decide)
 have hf := (hrt 300 (by decide)).2
 rw [frm0] at hf
 obtain ⟨X, Y, v, h1, h2, h3, h5, h6⟩ := first 300 (by omega)
 obtain rfl := v0 h3 h5 h6
 have HH := Aside0.mk (And.intro hf (And.intro h1 (And.intro h2 h3)))
 clear hrt hf h1 h2 h3 h5 h6
 go_enter Tryz.func6, Tryz.ntmps6
 go_wp2_with fail
 refine (fitsYes 300 r0 p0 true 5 6 X Y true w (ok0 w) HH.out.1 rfl HH.out.2.1 HH.out.2.2.1 HH.out.2.2.2).mono ?_
 rintro e w1 ⟨rfl, hb⟩
 have HB := Aside0.mk hb
 clear hb
 go_wp2_with fail
 go_ret
 exact ⟨rfl, HB.out⟩
theorem fewX (r : Ru) (p : Rp) (w : World) : Calls Tryz.prog 7 #[.agg (agg r p)] w fun e w' => e = .returned (.bool (RefW.few r.l11.length r.l8.length r.l9.length r.l10.length r.l12.length r.l13.length r.l14.length r.l15.length r.l16.length)) ∧ Below w.heap.size w w' :=
 RefW.few_ r.a0 r.a1 r.a2 r.a3 r.a4 r.a5 r.a6 r.a7 p.A8 p.c8 r.l8 p.A9 p.c9 r.l9 p.A10 p.c10 r.l10 p.A11 p.c11 r.l11 p.A12 p.c12 r.l12 p.A13 p.c13 r.l13 p.A14 p.c14 r.l14 p.A15 p.c15 r.l15 p.A16 p.c16 r.l16 w
end Go.Proofs.YtfdcldjoncednaaGreat.PureW
