/- Texts of this claim, merged: Mtrystref16alike, Fset, Zero. -/
import Derived.Test.YtddoidcbpcmlaaaDoorMgEventForms13
import Derived.Test.YtddoidcbpcmlaaaDoorMgEventForms25
import Derived.Test.YtddoidcbpcmlaaaDoorMgEventForms33
import Derived.Test.YtddoidcbpcmlaaaDoorMgEventForms3
import Derived.Test.YtddoidcbpcmlaaaDoorMgEventForms21
namespace Go.Proofs.YtddoidcbpcmlaaaDoor.M
open Go.RowKit Go.Proofs.YtddoidcbpcmlaaaDoorW.PrintWords Go.Proofs.YtddoidcbpcmlaaaDoorW.PrintLast Go.Proofs.YtddoidcbpcmlaaaDoorW.PrintMore
attribute [local go_sem] max2_int min2_int max_two min_two
set_option linter.unusedVariables false
set_option linter.unusedSimpArgs false
/-! ### trystref16_alike: function 45 -/
def trystref16_alike.f (a0_0 : Int) (a0_1 : Int) (a0_2 : ByteArray) (a1_0 : Int) (a1_1 : Int) (a1_2 : ByteArray) : Option (Bool) := if a0_0 = a1_0 then (some (a0_2.toList == a1_2.toList)) else (some false)
set_option maxHeartbeats 8000000 in
set_option maxRecDepth 100000 in
theorem trystref16_alike.calls (a0_0 : Int) (a0_1 : Int) (a0_2 : ByteArray) (a1_0 : Int) (a1_1 : Int) (a1_2 : ByteArray) (r : Bool) (w : World) (h : trystref16_alike.f a0_0 a0_1 a0_2 a1_0 a1_1 a1_2 = some r) :
  Calls Tryd.prog 45 #[.agg #[.int .i64 a0_0, .int .i64 a0_1, .string a0_2], .agg #[.int .i64 a1_0, .int .i64 a1_1, .string a1_2]] w fun e w' => e = .returned (.bool r) ∧ Below w.heap.size w w' := by
 have hu23 := Tryd.underlying23
 have HB := Aside0.mk (Below.refl w.heap.size w)
 have H : (if a0_0 = a1_0 then (some (a0_2.toList == a1_2.toList)) else (some false)) = some r := h
 clear h
 by_cases c3 : a0_0 = a1_0
 ·rw [if_pos c3] at H
  have c3b0 : (a0_0 == a1_0) = true := beq_iff_eq.mpr c3
  have c3b1 : (a0_0 != a1_0) = false := bne_eq_false_iff_eq.mpr c3
  clear c3
  obtain rfl := Option.some.inj H
  go_enter Tryd.func45, Tryd.ntmps45
  go_wp2_with (first | ((with_reducible refine gate_dst (N := 2) rfl ?_); refine box_event ?hg (N := 2) ?hd (cs := #[.int .i64 a0_0, .int .i64 a0_1, .string a0_2]) (t := 23) ?hr ?_; (case hd => rfl); (case hg => rfl); (case hr => first | (go_simp; done) | (go_simp; rfl)); intro gb239 hg w4 hbox hb; have n0_ := Aside0.mk (below_step (by repeat (first | (with_reducible first | exact HB.out | apply below_alloc | apply pw_below_drewN | apply below_drew1) | exact HB.out)) hb); have n1_ := Aside0.mk (hbox); have n2_ := Aside0.mk ((by rw [hg]; exact (below_size (by repeat (first | (with_reducible first | exact HB.out | apply below_alloc | apply pw_below_drewN | apply below_drew1) | exact HB.out))) : w.heap.size ≤ gb239)); have n3_ := Aside0.mk ((by rw [hg]; exact (below_size (by repeat (first | (with_reducible first | exact HB.out | apply below_alloc | apply pw_below_drewN | apply below_drew1) | exact HB.out))) : w.heap.size ≤ gb239)); clear HB; have HB := n0_; have BK239 := n1_; have GW239 := n2_; have GE239 := n3_; clear n0_ n1_ n2_ n3_; clear hb hbox hg) | ((with_reducible refine gate_dst (N := 3) rfl ?_); refine box_event ?hg (N := 3) ?hd (cs := #[.int .i64 a1_0, .int .i64 a1_1, .string a1_2]) (t := 23) ?hr ?_; (case hd => rfl); (case hg => rfl); (case hr => first | (go_simp; done) | (go_simp; rfl)); intro gb240 hg w5 hbox hb; have n0_ := Aside0.mk (blk_below (g := gb239) (o := .cells #[.int .i64 a0_0, .int .i64 a0_1, .string a0_2] 23 (0, 0)) (by (with_reducible repeat (first | refine blk_drewN ?_ _ | refine blk_drew ?_ | refine blk_alloc ?_ _)); exact BK239.out) hb); have n1_ := Aside0.mk (below_step (by repeat (first | (with_reducible first | exact HB.out | apply below_alloc | apply pw_below_drewN | apply below_drew1 | refine below_set ?_ GE239.out) | exact HB.out)) hb); have n2_ := Aside0.mk (hbox); have n3_ := Aside0.mk ((by rw [hg]; exact (below_size (by repeat (first | (with_reducible first | exact HB.out | apply below_alloc | apply pw_below_drewN | apply below_drew1 | refine below_set ?_ GE239.out) | exact HB.out))) : w.heap.size ≤ gb240)); have n4_ := Aside0.mk ((by rw [hg]; exact (below_size (by repeat (first | (with_reducible first | exact HB.out | apply below_alloc | apply pw_below_drewN | apply below_drew1 | refine below_set ?_ GE239.out) | exact HB.out))) : w.heap.size ≤ gb240)); have n5_ := Aside0.mk ((by rw [hg]; exact Nat.ne_of_lt (blk_lt (g := gb239) (o := .cells #[.int .i64 a0_0, .int .i64 a0_1, .string a0_2] 23 (0, 0)) (by (with_reducible repeat (first | refine blk_drewN ?_ _ | refine blk_drew ?_ | refine blk_alloc ?_ _)); exact BK239.out)) : gb239 ≠ gb240)); have n6_ := Aside0.mk ((by rw [hg]; exact Nat.ne_of_gt (blk_lt (g := gb239) (o := .cells #[.int .i64 a0_0, .int .i64 a0_1, .string a0_2] 23 (0, 0)) (by (with_reducible repeat (first | refine blk_drewN ?_ _ | refine blk_drew ?_ | refine blk_alloc ?_ _)); exact BK239.out)) : gb240 ≠ gb239)); clear BK239; clear HB; have BK239 := n0_; have HB := n1_; have BK240 := n2_; have GW240 := n3_; have GE240 := n4_; have NB239_240 := n5_; have NB240_239 := n6_; clear n0_ n1_ n2_ n3_ n4_ n5_ n6_; clear hb hbox hg; have hnb6 := NB239_240.out; have hnc6 := NB240_239.out; have hcz7_0 : w5.cell? ⟨gb239, 0, none⟩ = some (.int .i64 a0_0) := (blk_cell BK239.out 0).trans rfl; have hcz7_1 : w5.cell? ⟨gb239, 1, none⟩ = some (.int .i64 a0_1) := (blk_cell BK239.out 1).trans rfl; have hcz7_2 : w5.cell? ⟨gb239, 2, none⟩ = some (.string a0_2) := (blk_cell BK239.out 2).trans rfl; have hfz7_0 := blk_frozen BK239.out 0; have hfz7_1 := blk_frozen BK239.out 1; have hfz7_2 := blk_frozen BK239.out 2; have hcz8_0 : w5.cell? ⟨gb240, 0, none⟩ = some (.int .i64 a1_0) := (blk_cell BK240.out 0).trans rfl; have hcz8_1 : w5.cell? ⟨gb240, 1, none⟩ = some (.int .i64 a1_1) := (blk_cell BK240.out 1).trans rfl; have hcz8_2 : w5.cell? ⟨gb240, 2, none⟩ = some (.string a1_2) := (blk_cell BK240.out 2).trans rfl; have hfz8_0 := blk_frozen BK240.out 0; have hfz8_1 := blk_frozen BK240.out 1; have hfz8_2 := blk_frozen BK240.out 2))
  go_ret
  exact ⟨by first | rfl | (simp [i64_w]; done) | (simp [errW_none, errW_some] <;> rfl) | (simp [*, errW_none, errW_some] <;> rfl), by repeat (first | (with_reducible first | exact HB.out | apply below_alloc | apply pw_below_drewN | apply below_drew1 | refine below_set ?_ GE239.out | refine below_set ?_ GE240.out) | exact HB.out)⟩
 ·rw [if_neg c3] at H
  have c3b0 : (a0_0 == a1_0) = false := beq_eq_false_iff_ne.mpr c3
  have c3b1 : (a0_0 != a1_0) = true := bne_iff_ne.mpr c3
  obtain rfl := Option.some.inj H
  go_enter Tryd.func45, Tryd.ntmps45
  go_wp2_with (first | ((with_reducible refine gate_dst (N := 2) rfl ?_); refine box_event ?hg (N := 2) ?hd (cs := #[.int .i64 a0_0, .int .i64 a0_1, .string a0_2]) (t := 23) ?hr ?_; (case hd => rfl); (case hg => rfl); (case hr => first | (go_simp; done) | (go_simp; rfl)); intro gb239 hg w9 hbox hb; have n0_ := Aside0.mk (below_step (by repeat (first | (with_reducible first | exact HB.out | apply below_alloc | apply pw_below_drewN | apply below_drew1) | exact HB.out)) hb); have n1_ := Aside0.mk (hbox); have n2_ := Aside0.mk ((by rw [hg]; exact (below_size (by repeat (first | (with_reducible first | exact HB.out | apply below_alloc | apply pw_below_drewN | apply below_drew1) | exact HB.out))) : w.heap.size ≤ gb239)); have n3_ := Aside0.mk ((by rw [hg]; exact (below_size (by repeat (first | (with_reducible first | exact HB.out | apply below_alloc | apply pw_below_drewN | apply below_drew1) | exact HB.out))) : w.heap.size ≤ gb239)); clear HB; have HB := n0_; have BK239 := n1_; have GW239 := n2_; have GE239 := n3_; clear n0_ n1_ n2_ n3_; clear hb hbox hg) | ((with_reducible refine gate_dst (N := 3) rfl ?_); refine box_event ?hg (N := 3) ?hd (cs := #[.int .i64 a1_0, .int .i64 a1_1, .string a1_2]) (t := 23) ?hr ?_; (case hd => rfl); (case hg => rfl); (case hr => first | (go_simp; done) | (go_simp; rfl)); intro gb240 hg w10 hbox hb; have n0_ := Aside0.mk (blk_below (g := gb239) (o := .cells #[.int .i64 a0_0, .int .i64 a0_1, .string a0_2] 23 (0, 0)) (by (with_reducible repeat (first | refine blk_drewN ?_ _ | refine blk_drew ?_ | refine blk_alloc ?_ _)); exact BK239.out) hb); have n1_ := Aside0.mk (below_step (by repeat (first | (with_reducible first | exact HB.out | apply below_alloc | apply pw_below_drewN | apply below_drew1 | refine below_set ?_ GE239.out) | exact HB.out)) hb); have n2_ := Aside0.mk (hbox); have n3_ := Aside0.mk ((by rw [hg]; exact (below_size (by repeat (first | (with_reducible first | exact HB.out | apply below_alloc | apply pw_below_drewN | apply below_drew1 | refine below_set ?_ GE239.out) | exact HB.out))) : w.heap.size ≤ gb240)); have n4_ := Aside0.mk ((by rw [hg]; exact (below_size (by repeat (first | (with_reducible first | exact HB.out | apply below_alloc | apply pw_below_drewN | apply below_drew1 | refine below_set ?_ GE239.out) | exact HB.out))) : w.heap.size ≤ gb240)); have n5_ := Aside0.mk ((by rw [hg]; exact Nat.ne_of_lt (blk_lt (g := gb239) (o := .cells #[.int .i64 a0_0, .int .i64 a0_1, .string a0_2] 23 (0, 0)) (by (with_reducible repeat (first | refine blk_drewN ?_ _ | refine blk_drew ?_ | refine blk_alloc ?_ _)); exact BK239.out)) : gb239 ≠ gb240)); have n6_ := Aside0.mk ((by rw [hg]; exact Nat.ne_of_gt (blk_lt (g := gb239) (o := .cells #[.int .i64 a0_0, .int .i64 a0_1, .string a0_2] 23 (0, 0)) (by (with_reducible repeat (first | refine blk_drewN ?_ _ | refine blk_drew ?_ | refine blk_alloc ?_ _)); exact BK239.out)) : gb240 ≠ gb239)); clear BK239; clear HB; have BK239 := n0_; have HB := n1_; have BK240 := n2_; have GW240 := n3_; have GE240 := n4_; have NB239_240 := n5_; have NB240_239 := n6_; clear n0_ n1_ n2_ n3_ n4_ n5_ n6_; clear hb hbox hg; have hnb11 := NB239_240.out; have hnc11 := NB240_239.out; have hcz12_0 : w10.cell? ⟨gb239, 0, none⟩ = some (.int .i64 a0_0) := (blk_cell BK239.out 0).trans rfl; have hcz12_1 : w10.cell? ⟨gb239, 1, none⟩ = some (.int .i64 a0_1) := (blk_cell BK239.out 1).trans rfl; have hcz12_2 : w10.cell? ⟨gb239, 2, none⟩ = some (.string a0_2) := (blk_cell BK239.out 2).trans rfl; have hfz12_0 := blk_frozen BK239.out 0; have hfz12_1 := blk_frozen BK239.out 1; have hfz12_2 := blk_frozen BK239.out 2; have hcz13_0 : w10.cell? ⟨gb240, 0, none⟩ = some (.int .i64 a1_0) := (blk_cell BK240.out 0).trans rfl; have hcz13_1 : w10.cell? ⟨gb240, 1, none⟩ = some (.int .i64 a1_1) := (blk_cell BK240.out 1).trans rfl; have hcz13_2 : w10.cell? ⟨gb240, 2, none⟩ = some (.string a1_2) := (blk_cell BK240.out 2).trans rfl; have hfz13_0 := blk_frozen BK240.out 0; have hfz13_1 := blk_frozen BK240.out 1; have hfz13_2 := blk_frozen BK240.out 2))
  go_ret
  exact ⟨by first | rfl | (simp [i64_w]; done) | (simp [errW_none, errW_some] <;> rfl) | (simp [*, errW_none, errW_some] <;> rfl), by repeat (first | (with_reducible first | exact HB.out | apply below_alloc | apply pw_below_drewN | apply below_drew1 | refine below_set ?_ GE239.out | refine below_set ?_ GE240.out) | exact HB.out)⟩

end Go.Proofs.YtddoidcbpcmlaaaDoor.M
/- trystref16.FormedSet walked. (Written by gen_fset.py.) -/
namespace Go.Proofs.YtddoidcbpcmlaaaDoor.Fset
open Go.RowKit Go.Proofs.YtddoidcbpcmlaaaDoorW.PrintWords Go.Proofs.YtddoidcbpcmlaaaDoorW.PrintLast Go.Proofs.YtddoidcbpcmlaaaDoor.M Go.Proofs.YtddoidcbpcmlaaaDoor.Fr Go.Proofs.YtddoidcbpcmlaaaDoor.Ru
open Go.Proofs.YtddoidcbpcmlaaaDoor.SetC (range_of Sv Sp sagg OkS oneR)
open Go.Proofs.YtddoidcbpcmlaaaDoor.SetF (TT rtB rtE alB one likeB like_no setB ruB knd untB tm tm_w)
open Go.Proofs.YtddoidcbpcmlaaaDoor.RecG (frmB)
open Go.Proofs.YtddoidcbpcmlaaaDoor.RefF (oth)
open Go.Proofs.YtddoidcbpcmlaaaDoor.UnF (zr)
set_option linter.unusedVariables false
set_option linter.unusedSimpArgs false
theorem al_comm (a b : TT) : alB a b = alB b a := by
 unfold alB
 have h1 : decide (a.f0 = b.f0) = decide (b.f0 = a.f0) := decide_eq_decide.2 ⟨Eq.symm, Eq.symm⟩
 have h2 : (a.f2.toList == b.f2.toList) = (b.f2.toList == a.f2.toList) := by
  by_cases c : a.f2.toList = b.f2.toList
  ·rw [c]
  ·rw [beq_eq_false_iff_ne.2 c, beq_eq_false_iff_ne.2 (fun h => c h.symm)]
 rw [h1, h2]
theorem alE (a b : TT) : trystref16_alike.f a.f0 a.f1 a.f2 b.f0 b.f1 b.f2 = some (alB b a) := by
 rw [al_comm]
 unfold trystref16_alike.f alB
 by_cases h : a.f0 = b.f0
 ·rw [if_pos h, decide_eq_true h]; rfl
 ·rw [if_neg h, decide_eq_false h]; rfl
theorem rtC (k a : Int) (s : ByteArray) (hs : s.size ≤ 9223372036854775807) (w : World) : Calls Tryd.prog 31 #[.agg #[.int .i64 k, .int .i64 a, .string s]] w fun e w' => e = .returned (.bool (rtB k a s)) ∧ Below w.heap.size w w' := trystref12_RightTime.calls 2 k a s (rtB k a s) w ((rtE k a s hs).2 2 (by omega))
theorem frmR (r : Ru) (p : Rp) (hz : r.a5.size ≤ 9223372036854775807) (w : World) (ok : Ok r p w) : Calls Tryd.prog 46 #[.agg (agg r p)] w fun e w' => e = .returned (.bool (frmB r (rtB r.a3 r.a4 r.a5))) ∧ Below w.heap.size w w' :=
 RefF.walk r p 2 _ (oth r) w ok ((rtE r.a3 r.a4 r.a5 hz).2 2 (by omega)) rfl (fun i hi => rfl)
theorem like_yes {st : TT} {ts : List TT} (hl : ts.length ≤ 60) (h : ∀ j : Nat, ∀ h : j < ts.length, one st ts[j] = true) : likeB st ts = true := by
 unfold likeB
 rw [decide_eq_true hl, List.all_eq_true.2 (fun x hx => by
  obtain ⟨j, hj, rfl⟩ := List.getElem_of_mem hx
  exact h j hj)]
 rfl
theorem like_long {st : TT} {ts : List TT} (hl : ¬ ts.length ≤ 60) : likeB st ts = false := by unfold likeB; rw [decide_eq_false hl]; rfl
/-- The first k of n operations are done. -/
def tt (n k : Nat) : Array Bool := (List.replicate k true ++ List.replicate (n - k) false).toArray
theorem xrule {ρ : Operand → Value} {o : Oper} (q : Operand) (g : Nat) (r : Ru) (p : Rp) (hop : o.op = .load 27 q) (hp : ρ q = .pointer (some ⟨g, 0, none⟩)) (w : World) (hg : w.heap[g]? = some (obj r p)) : (execOp ρ o).run Tryd.prog w = .ok (.value (.agg (agg r p))) w := RecG.xR q g r p hop hp w hg
def Tf6 : Bool × List (List Nat × List Nat) := (true, [([], []), ([0], [0]), ([], []), ([1, 2], [1, 2]), ([3], [3]), ([4], [4]), ([5], [5]), ([6, 5], [6]), ([7], [7]), ([8, 7], [7, 8]), ([7], [7]), ([9, 10, 7], [7, 9, 10]), ([11, 7], [7, 11]), ([7], [7]), ([13, 7], [7, 13]), ([12, 14, 7, 7], [7, 12, 14]), ([15, 7], [7, 15]), ([7, 16], [7, 16])])
def Bf6 : List Nat := [0, 1, 0, 7, 15, 31, 63, 127, 255, 511, 255, 2047, 4095, 255, 8447, 32767, 65535, 131071]
theorem tabf6 : rtab .any (opsOf Tryd.f25 6) = Tf6 := by kernel_rfl
theorem bitsf6 : waitsOk Tf6.2 Bf6 = true := by kernel_rfl
def Tf12 : Bool × List (List Nat × List Nat) := (true, [([], []), ([0], [0]), ([], []), ([1, 2], [1, 2]), ([3], [3]), ([4], [4]), ([5], [5]), ([6, 5], [6]), ([7], [7]), ([8, 7], [7, 8]), ([7], [7]), ([9, 10, 7], [7, 9, 10]), ([11, 7], [7, 11]), ([7], [7]), ([13, 7], [7, 13]), ([12, 14, 7, 7], [7, 12, 14]), ([15, 7], [7, 15]), ([7, 16], [7, 16])])
def Bf12 : List Nat := [0, 1, 0, 7, 15, 31, 63, 127, 255, 511, 255, 2047, 4095, 255, 8447, 32767, 65535, 131071]
theorem tabf12 : rtab .any (opsOf Tryd.f25 12) = Tf12 := by kernel_rfl
theorem bitsf12 : waitsOk Tf12.2 Bf12 = true := by kernel_rfl
set_option maxHeartbeats 8000000 in
set_option maxRecDepth 100000 in
theorem formed (v : Sv) (p : Sp) (w : World) (ok : OkS v p w) (hz : SetF.Sz v) :
  Calls Tryd.prog 25 #[.agg (sagg v p)] w fun e w' => e = .returned (.bool (setB v)) ∧ Below w.heap.size w w' := by
 have OK := Aside0.mk ok; have HZ := Aside0.mk hz
 clear ok hz
 go_enter Tryd.func25, Tryd.ntmps25
 go_upto_region 1 with fail
 obtain ⟨w0, hw0, z0⟩ : ∃ w0, w0 = w.alloc (.cells (sagg v p) 30 (0, 0)) ∧ w0.heap[w.heap.size]? = some (.cells (sagg v p) 30 (0, 0)) ∧ Below w.heap.size w w0 := ⟨_, rfl, blk_new _ _, below_alloc (Below.refl _ _) _⟩
 have K1 := Aside0.mk z0.1; have HB := Aside0.mk z0.2
 rw [← hw0]
 clear hw0 z0
 have x0 : w0.cell? ⟨w.heap.size, 0, none⟩ = some (.int .i64 v.s.f0) := (blk_cell K1.out 0).trans rfl
 have x1 : w0.cell? ⟨w.heap.size, 1, none⟩ = some (.int .i64 v.s.f1) := (blk_cell K1.out 1).trans rfl
 have x2 : w0.cell? ⟨w.heap.size, 2, none⟩ = some (.string v.s.f2) := (blk_cell K1.out 2).trans rfl
 have x21 : w0.cell? ⟨w.heap.size, 21, none⟩ = some (.slice p.Ad v.ds.length p.cd) := (blk_cell K1.out 21).trans rfl
 have x22 : w0.cell? ⟨w.heap.size, 22, none⟩ = some (.slice p.Ab v.bs.length p.cb) := (blk_cell K1.out 22).trans rfl
 go_wp2_with fail
 refine (rtC v.s.f0 v.s.f1 v.s.f2 HZ.out.1 w0).mono ?_
 rintro q w1 ⟨rfl, hb⟩
 replace K1 := Aside0.mk (blk_below K1.out hb); replace HB := Aside0.mk (below_then HB.out HB.out.size hb)
 replace x21 := pw_cell_below hb x21; replace x22 := pw_cell_below hb x22
 clear hb x0 x1 x2
 rcases h1 : rtB v.s.f0 v.s.f1 v.s.f2 with _ | _
 ·have H1 := Aside0.mk h1
  clear h1
  go_wp2_with fail
  go_ret
  exact ⟨by unfold setB; rw [H1.out] <;> rfl, HB.out⟩
 have H1 := Aside0.mk h1
 clear h1
 by_cases c1 : (v.ds.length : Int) > 60
 ·have l1 := decide_eq_true c1
  have C1 := Aside0.mk c1
  clear c1
  go_wp2_with fail
  go_ret
  exact ⟨by unfold setB; rw [like_long (show ¬ v.ds.length ≤ 60 by have := C1.out; omega)]; simp, HB.out⟩
 have l1 := decide_eq_false c1
 have C1 := Aside0.mk c1
 clear c1
 by_cases c2 : (v.bs.length : Int) > 60
 ·have l2 := decide_eq_true c2
  have C2 := Aside0.mk c2
  clear c2
  go_wp2_with fail
  go_ret
  exact ⟨by unfold setB; rw [like_long (show ¬ v.bs.length ≤ 60 by have := C2.out; omega)]; simp, HB.out⟩
 have l2 := decide_eq_false c2
 have C2 := Aside0.mk c2
 clear c2
 go_wp2_with fail
 clear l1 l2 x21 x22
 go_loopg [26] v.ds.length (fun kq v_ w' => ∃ (i : Nat) (X : Int), v_ = .int .i64 X ∧ Aside0 (X = (i : Int)) ∧ Aside0 (i + kq = v.ds.length) ∧ Aside0 (∀ j : Nat, j < i → ∀ h : j < v.ds.length, one v.s v.ds[j] = true) ∧ Aside0 (w'.heap[w.heap.size]? = some (.cells (sagg v p) 30 (0, 0))) ∧ Aside0 (Below w.heap.size w w'))
 case atStart => exact ⟨0, 0, rfl, ⟨rfl⟩, ⟨by omega⟩, ⟨fun j hj => by omega⟩, K1, HB⟩
 case round =>
  clear K1 HB
  obtain ⟨i, X, rfl, HX, HI, HU, K1, HB⟩ := hrel
  cases gk with
  | succ k1 =>
   have hi : i < v.ds.length := by have := HI.out; omega
   have l1 : decide (X < (v.ds.length : Int)) = true := decide_eq_true (by have := HX.out; have := HI.out; omega)
   have nx : wrap64 (X + 1) = X + 1 := by have := HX.out; have := HI.out; have := C1.out; unfold wrap64; omega
   have p1 : 0 ≤ X := by have := HX.out; omega
   have q1 : X < (v.ds.length : Int) := by have := HX.out; omega
   obtain ⟨ad, hA, y0, y1, y2⟩ := at_T23 (OK.out.below HB.out).hd X p1 q1
   have hxi : rd_T23 v.ds X = v.ds[i] := by simp [rd_T23, HX.out, hi]
   have hsz := HZ.out.2.1 _ (List.getElem_mem hi)
   rw [hxi] at y0 y1 y2
   obtain ⟨x, hx⟩ : ∃ x, v.ds[i] = x := ⟨_, rfl⟩
   have SE := Aside0.mk (show ∀ h : i < v.ds.length, v.ds[i] = x from fun _ => hx)
   rw [hx] at y0 y1 y2 hsz
   have SZ := Aside0.mk hsz; have HIL := Aside0.mk hi
   have xl : wr.cell? ⟨w.heap.size, 21, none⟩ = some (.slice (some ad) v.ds.length p.cd) := by rw [← hA]; exact (blk_cell K1.out 21).trans rfl
   replace p1 := eq_true p1; replace q1 := eq_true q1
   clear hsz hxi hx hi hA
   go_upto_region 6 with fail
   have H0 := Aside0.mk (below_drew1 (Below.refl wr.heap.size wr))
   refine start_ (n := 18) (S := fun w' => w'.heap[w.heap.size]? = some (.cells (sagg v p) 30 (0, 0)) ∧ w'.cell? ⟨w.heap.size, 21, none⟩ = some (.slice (some ad) v.ds.length p.cd) ∧ w'.cell? (ad.add (X.toNat * 3)) = some (.int .i64 x.f0) ∧ w'.cell? ⟨(ad.add (X.toNat * 3)).block, (ad.add (X.toNat * 3)).off + 1, none⟩ = some (.int .i64 x.f1) ∧ w'.cell? ⟨(ad.add (X.toNat * 3)).block, (ad.add (X.toNat * 3)).off + 2, none⟩ = some (.string x.f2)) (ds := []) (tt 18 0) (by kernel_rfl) rfl rfl ⟨blk_drew K1.out, pw_cell_below H0.out xl, pw_cell_below H0.out y0, pw_cell_below H0.out y1, pw_cell_below H0.out y2⟩ (fun hHeld => ?_)
   refine with_tabW tabf6 bitsf6 (fun HT_ HW_ => ?_)
   clear xl y0 y1 y2
   have HN := H0
   generalize wr.drew = wd_ at HN hHeld ⊢
   clear H0
   refine pu 0 (some 29) (tt 18 1) HT_ ?_
   refine take_ (i := 1) (N := some 30) (v := ?_) (a' := ?_) (tt 18 2) rfl rfl (take_ofW HT_.out HW_.out (by kernel_rfl)) (fun _ _ _ h => h) (Or.inl ⟨by rfl, ?_⟩) hHeld ?_ ?_
   rotate_left
   ·rintro w' ⟨s0, s1, s2, s3, s4⟩
    go_simp
    with_reducible rfl
   rotate_left
   ·simp only [Act.put, sA, sB, sC, i64_w, i32_w]
    rfl
   refine pu 2 (some 31) (tt 18 3) HT_ ?_
   refine pu 3 (some 32) (tt 18 4) HT_ ?_
   refine take_ (i := 4) (N := some 33) (v := ?_) (a' := ?_) (tt 18 5) rfl rfl (take_ofW HT_.out HW_.out (by kernel_rfl)) (fun _ _ _ h => h) (Or.inl ⟨by rfl, ?_⟩) hHeld ?_ ?_
   rotate_left
   ·rintro w' ⟨s0, s1, s2, s3, s4⟩
    go_simp
    with_reducible rfl
   rotate_left
   ·simp only [Act.put, sA, sB, sC, i64_w, i32_w]
    rfl
   refine one_ (i := 5) (N := some 34) (tt 18 6) rfl rfl (one_of HT_.out (by kernel_rfl)) (by decide) (fun K hK => ?_)
   refine goes_ Tryd.func31 (by kernel_rfl) rfl #[.agg #[.int .i64 x.f0, .int .i64 x.f1, .string x.f2]] (by rfl) rfl rfl (by (try simp only [List.map_toArray, List.map_cons, List.map_nil]); first | done | rfl) ?_
   refine (rtC x.f0 x.f1 x.f2 SZ.out wd_).mono ?_
   rintro q wq1 ⟨rfl, hb⟩
   refine ⟨_, rfl, ?_⟩
   replace HN := Aside0.mk (below_then HN.out HN.out.size hb)
   refine hK.out _ _ ⟨blk_below hHeld.1 hb, pw_cell_below hb hHeld.2.1, pw_cell_below hb hHeld.2.2.1, pw_cell_below hb hHeld.2.2.2.1, pw_cell_below hb hHeld.2.2.2.2⟩ (fun hHeld => ?_)
   clear hK K
   refine norm_ (a' := ?_) ?_ ?_
   rotate_left
   ·show Act.put _ (some 34) _ = _
    simp only [Act.put, sA, sB, sC, i64_w, i32_w]
    rfl
   rcases h_ : rtB x.f0 x.f1 x.f2 with _ | _
   ·have B1 := Aside0.mk h_
    clear h_
    refine pu 6 (some 35) (tt 18 7) HT_ ?_
    refine pu 7 (some 36) (tt 18 8) HT_ ?_
    refine puO 8 (some 37) (tt 18 9) HT_ ?_
    refine puO 9 (some 38) (tt 18 10) HT_ ?_
    refine puO 10 (some 39) (tt 18 11) HT_ ?_
    refine puO 11 (some 40) (tt 18 12) HT_ ?_
    refine puO 12 (some 41) (tt 18 13) HT_ ?_
    refine puO 13 (some 42) (tt 18 14) HT_ ?_
    refine puO 14 (some 43) (tt 18 15) HT_ ?_
    refine puO 15 (some 44) (tt 18 16) HT_ ?_
    refine puO 16 (some 45) (tt 18 17) HT_ ?_
    refine pu 17 (some 46) (tt 18 18) HT_ ?_
    refine done_ (done_of HT_.out (by kernel_rfl)) ?_
    clear HT_ HW_
    go_wp2_with fail
    go_ret
    exact ⟨by unfold setB; rw [like_no HIL.out (by rw [SE.out]; unfold one; rw [B1.out]; rfl)]; simp, below_then HB.out HB.out.size HN.out⟩
   ·have B1 := Aside0.mk h_
    clear h_
    refine pu 6 (some 35) (tt 18 7) HT_ ?_
    refine pu 7 (some 36) (tt 18 8) HT_ ?_
    refine pu 8 (some 37) (tt 18 9) HT_ ?_
    refine take_ (i := 9) (N := some 38) (v := ?_) (a' := ?_) (tt 18 10) rfl rfl (take_ofW HT_.out HW_.out (by kernel_rfl)) (fun _ _ _ h => h) (Or.inl ⟨by rfl, ?_⟩) hHeld ?_ ?_
    rotate_left
    ·rintro w' ⟨s0, s1, s2, s3, s4⟩
     go_simp
     with_reducible rfl
    rotate_left
    ·simp only [Act.put, sA, sB, sC, i64_w, i32_w]
     rfl
    refine pu 10 (some 39) (tt 18 11) HT_ ?_
    refine pu 11 (some 40) (tt 18 12) HT_ ?_
    refine take_ (i := 12) (N := some 41) (v := ?_) (a' := ?_) (tt 18 13) rfl rfl (take_ofW HT_.out HW_.out (by kernel_rfl)) (fun _ _ _ h => h) (Or.inl ⟨by rfl, ?_⟩) hHeld ?_ ?_
    rotate_left
    ·rintro w' ⟨s0, s1, s2, s3, s4⟩
     go_simp
     with_reducible rfl
    rotate_left
    ·simp only [Act.put, sA, sB, sC, i64_w, i32_w]
     rfl
    refine pu 13 (some 42) (tt 18 14) HT_ ?_
    refine take_ (i := 14) (N := some 43) (v := ?_) (a' := ?_) (tt 18 15) rfl rfl (take_ofW HT_.out HW_.out (by kernel_rfl)) (fun _ _ _ h => h) (Or.inl ⟨by rfl, ?_⟩) hHeld ?_ ?_
    rotate_left
    ·rintro w' ⟨s0, s1, s2, s3, s4⟩
     have q0_ : w'.cell? ⟨w.heap.size, 0, none⟩ = some (.int .i64 v.s.f0) := (blk_cell s0 0).trans rfl
     have q1_ : w'.cell? ⟨w.heap.size, 1, none⟩ = some (.int .i64 v.s.f1) := (blk_cell s0 1).trans rfl
     have q2_ : w'.cell? ⟨w.heap.size, 2, none⟩ = some (.string v.s.f2) := (blk_cell s0 2).trans rfl
     go_simp
     with_reducible rfl
    rotate_left
    ·simp only [Act.put, sA, sB, sC, i64_w, i32_w]
     rfl
    refine one_ (i := 15) (N := some 44) (tt 18 16) rfl rfl (one_of HT_.out (by kernel_rfl)) (by decide) (fun K hK => ?_)
    refine goes_ Tryd.func45 (by kernel_rfl) rfl #[.agg #[.int .i64 x.f0, .int .i64 x.f1, .string x.f2], .agg #[.int .i64 v.s.f0, .int .i64 v.s.f1, .string v.s.f2]] (by rfl) rfl rfl (by (try simp only [List.map_toArray, List.map_cons, List.map_nil]); first | done | rfl) ?_
    refine (trystref16_alike.calls x.f0 x.f1 x.f2 v.s.f0 v.s.f1 v.s.f2 (alB v.s x) wq1 (alE x v.s)).mono ?_
    rintro q wq2 ⟨rfl, hb⟩
    refine ⟨_, rfl, ?_⟩
    replace HN := Aside0.mk (below_then HN.out HN.out.size hb)
    refine hK.out _ _ ⟨blk_below hHeld.1 hb, pw_cell_below hb hHeld.2.1, pw_cell_below hb hHeld.2.2.1, pw_cell_below hb hHeld.2.2.2.1, pw_cell_below hb hHeld.2.2.2.2⟩ (fun hHeld => ?_)
    clear hK K
    refine norm_ (a' := ?_) ?_ ?_
    rotate_left
    ·show Act.put _ (some 44) _ = _
     simp only [Act.put, sA, sB, sC, i64_w, i32_w]
     rfl
    rcases h_ : alB v.s x with _ | _
    ·have B2 := Aside0.mk h_
     clear h_
     refine pu 16 (some 45) (tt 18 17) HT_ ?_
     refine pu 17 (some 46) (tt 18 18) HT_ ?_
     refine done_ (done_of HT_.out (by kernel_rfl)) ?_
     clear HT_ HW_
     go_wp2_with fail
     go_ret
     exact ⟨by unfold setB; rw [like_no HIL.out (by rw [SE.out]; unfold one; rw [B1.out, B2.out]; rfl)]; simp, below_then HB.out HB.out.size HN.out⟩
    ·have B2 := Aside0.mk h_
     clear h_
     refine pu 16 (some 45) (tt 18 17) HT_ ?_
     refine pu 17 (some 46) (tt 18 18) HT_ ?_
     refine done_ (done_of HT_.out (by kernel_rfl)) ?_
     clear HT_ HW_
     go_wp2_with fail
     go_roundg k1
     case measure => omega
     case rel =>
      refine ⟨i + 1, X + 1, by simp [nx], ⟨by have := HX.out; push_cast; omega⟩, ⟨by have := HI.out; omega⟩, ⟨fun j hj h => ?_⟩, ⟨blk_below K1.out HN.out⟩, ⟨below_then HB.out HB.out.size HN.out⟩⟩
      by_cases e : j = i
      ·subst e
       rw [SE.out h]
       unfold one
       rw [B1.out, B2.out]
       rfl
      ·exact HU.out j (by omega) h
  | zero =>
   have l1 : decide (X < (v.ds.length : Int)) = false := decide_eq_false (by have := HX.out; have := HI.out; omega)
   have L1 := Aside0.mk (like_yes (st := v.s) (ts := v.ds) (by have := C1.out; omega) (fun j h => HU.out j (by have := HI.out; omega) h))
   have x22 : wr.cell? ⟨w.heap.size, 22, none⟩ = some (.slice p.Ab v.bs.length p.cb) := (blk_cell K1.out 22).trans rfl
   go_wp2_with fail
   clear x22 l1 HX HI HU
   go_loopg [51] v.bs.length (fun kq v_ w' => ∃ (i : Nat) (X : Int), v_ = .int .i64 X ∧ Aside0 (X = (i : Int)) ∧ Aside0 (i + kq = v.bs.length) ∧ Aside0 (∀ j : Nat, j < i → ∀ h : j < v.bs.length, one v.s v.bs[j] = true) ∧ Aside0 (w'.heap[w.heap.size]? = some (.cells (sagg v p) 30 (0, 0))) ∧ Aside0 (Below w.heap.size w w'))
   case atStart => exact ⟨0, 0, rfl, ⟨rfl⟩, ⟨by omega⟩, ⟨fun j hj => by omega⟩, K1, HB⟩
   case round =>
    clear K1 HB
    obtain ⟨i, X, rfl, HX, HI, HU, K1, HB⟩ := hrel
    cases gk with
    | succ k1 =>
     have hi : i < v.bs.length := by have := HI.out; omega
     have l1 : decide (X < (v.bs.length : Int)) = true := decide_eq_true (by have := HX.out; have := HI.out; omega)
     have nx : wrap64 (X + 1) = X + 1 := by have := HX.out; have := HI.out; have := C2.out; unfold wrap64; omega
     have p1 : 0 ≤ X := by have := HX.out; omega
     have q1 : X < (v.bs.length : Int) := by have := HX.out; omega
     obtain ⟨ad, hA, y0, y1, y2⟩ := at_T23 (OK.out.below HB.out).hb X p1 q1
     have hxi : rd_T23 v.bs X = v.bs[i] := by simp [rd_T23, HX.out, hi]
     have hsz := HZ.out.2.2.1 _ (List.getElem_mem hi)
     rw [hxi] at y0 y1 y2
     obtain ⟨x, hx⟩ : ∃ x, v.bs[i] = x := ⟨_, rfl⟩
     have SE := Aside0.mk (show ∀ h : i < v.bs.length, v.bs[i] = x from fun _ => hx)
     rw [hx] at y0 y1 y2 hsz
     have SZ := Aside0.mk hsz; have HIL := Aside0.mk hi
     have xl : wr.cell? ⟨w.heap.size, 22, none⟩ = some (.slice (some ad) v.bs.length p.cb) := by rw [← hA]; exact (blk_cell K1.out 22).trans rfl
     replace p1 := eq_true p1; replace q1 := eq_true q1
     clear hsz hxi hx hi hA
     go_upto_region 12 with fail
     have H0 := Aside0.mk (below_drew1 (Below.refl wr.heap.size wr))
     refine start_ (n := 18) (S := fun w' => w'.heap[w.heap.size]? = some (.cells (sagg v p) 30 (0, 0)) ∧ w'.cell? ⟨w.heap.size, 22, none⟩ = some (.slice (some ad) v.bs.length p.cb) ∧ w'.cell? (ad.add (X.toNat * 3)) = some (.int .i64 x.f0) ∧ w'.cell? ⟨(ad.add (X.toNat * 3)).block, (ad.add (X.toNat * 3)).off + 1, none⟩ = some (.int .i64 x.f1) ∧ w'.cell? ⟨(ad.add (X.toNat * 3)).block, (ad.add (X.toNat * 3)).off + 2, none⟩ = some (.string x.f2)) (ds := []) (tt 18 0) (by kernel_rfl) rfl rfl ⟨blk_drew K1.out, pw_cell_below H0.out xl, pw_cell_below H0.out y0, pw_cell_below H0.out y1, pw_cell_below H0.out y2⟩ (fun hHeld => ?_)
     refine with_tabW tabf12 bitsf12 (fun HT_ HW_ => ?_)
     clear xl y0 y1 y2
     have HN := H0
     generalize wr.drew = wd_ at HN hHeld ⊢
     clear H0
     refine pu 0 (some 54) (tt 18 1) HT_ ?_
     refine take_ (i := 1) (N := some 55) (v := ?_) (a' := ?_) (tt 18 2) rfl rfl (take_ofW HT_.out HW_.out (by kernel_rfl)) (fun _ _ _ h => h) (Or.inl ⟨by rfl, ?_⟩) hHeld ?_ ?_
     rotate_left
     ·rintro w' ⟨s0, s1, s2, s3, s4⟩
      go_simp
      with_reducible rfl
     rotate_left
     ·simp only [Act.put, sA, sB, sC, i64_w, i32_w]
      rfl
     refine pu 2 (some 56) (tt 18 3) HT_ ?_
     refine pu 3 (some 57) (tt 18 4) HT_ ?_
     refine take_ (i := 4) (N := some 58) (v := ?_) (a' := ?_) (tt 18 5) rfl rfl (take_ofW HT_.out HW_.out (by kernel_rfl)) (fun _ _ _ h => h) (Or.inl ⟨by rfl, ?_⟩) hHeld ?_ ?_
     rotate_left
     ·rintro w' ⟨s0, s1, s2, s3, s4⟩
      go_simp
      with_reducible rfl
     rotate_left
     ·simp only [Act.put, sA, sB, sC, i64_w, i32_w]
      rfl
     refine one_ (i := 5) (N := some 59) (tt 18 6) rfl rfl (one_of HT_.out (by kernel_rfl)) (by decide) (fun K hK => ?_)
     refine goes_ Tryd.func31 (by kernel_rfl) rfl #[.agg #[.int .i64 x.f0, .int .i64 x.f1, .string x.f2]] (by rfl) rfl rfl (by (try simp only [List.map_toArray, List.map_cons, List.map_nil]); first | done | rfl) ?_
     refine (rtC x.f0 x.f1 x.f2 SZ.out wd_).mono ?_
     rintro q wq1 ⟨rfl, hb⟩
     refine ⟨_, rfl, ?_⟩
     replace HN := Aside0.mk (below_then HN.out HN.out.size hb)
     refine hK.out _ _ ⟨blk_below hHeld.1 hb, pw_cell_below hb hHeld.2.1, pw_cell_below hb hHeld.2.2.1, pw_cell_below hb hHeld.2.2.2.1, pw_cell_below hb hHeld.2.2.2.2⟩ (fun hHeld => ?_)
     clear hK K
     refine norm_ (a' := ?_) ?_ ?_
     rotate_left
     ·show Act.put _ (some 59) _ = _
      simp only [Act.put, sA, sB, sC, i64_w, i32_w]
      rfl
     rcases h_ : rtB x.f0 x.f1 x.f2 with _ | _
     ·have B1 := Aside0.mk h_
      clear h_
      refine pu 6 (some 60) (tt 18 7) HT_ ?_
      refine pu 7 (some 61) (tt 18 8) HT_ ?_
      refine puO 8 (some 62) (tt 18 9) HT_ ?_
      refine puO 9 (some 63) (tt 18 10) HT_ ?_
      refine puO 10 (some 64) (tt 18 11) HT_ ?_
      refine puO 11 (some 65) (tt 18 12) HT_ ?_
      refine puO 12 (some 66) (tt 18 13) HT_ ?_
      refine puO 13 (some 67) (tt 18 14) HT_ ?_
      refine puO 14 (some 68) (tt 18 15) HT_ ?_
      refine puO 15 (some 69) (tt 18 16) HT_ ?_
      refine puO 16 (some 70) (tt 18 17) HT_ ?_
      refine pu 17 (some 71) (tt 18 18) HT_ ?_
      refine done_ (done_of HT_.out (by kernel_rfl)) ?_
      clear HT_ HW_
      go_wp2_with fail
      go_ret
      exact ⟨by unfold setB; rw [like_no HIL.out (by rw [SE.out]; unfold one; rw [B1.out]; rfl)]; simp, below_then HB.out HB.out.size HN.out⟩
     ·have B1 := Aside0.mk h_
      clear h_
      refine pu 6 (some 60) (tt 18 7) HT_ ?_
      refine pu 7 (some 61) (tt 18 8) HT_ ?_
      refine pu 8 (some 62) (tt 18 9) HT_ ?_
      refine take_ (i := 9) (N := some 63) (v := ?_) (a' := ?_) (tt 18 10) rfl rfl (take_ofW HT_.out HW_.out (by kernel_rfl)) (fun _ _ _ h => h) (Or.inl ⟨by rfl, ?_⟩) hHeld ?_ ?_
      rotate_left
      ·rintro w' ⟨s0, s1, s2, s3, s4⟩
       go_simp
       with_reducible rfl
      rotate_left
      ·simp only [Act.put, sA, sB, sC, i64_w, i32_w]
       rfl
      refine pu 10 (some 64) (tt 18 11) HT_ ?_
      refine pu 11 (some 65) (tt 18 12) HT_ ?_
      refine take_ (i := 12) (N := some 66) (v := ?_) (a' := ?_) (tt 18 13) rfl rfl (take_ofW HT_.out HW_.out (by kernel_rfl)) (fun _ _ _ h => h) (Or.inl ⟨by rfl, ?_⟩) hHeld ?_ ?_
      rotate_left
      ·rintro w' ⟨s0, s1, s2, s3, s4⟩
       go_simp
       with_reducible rfl
      rotate_left
      ·simp only [Act.put, sA, sB, sC, i64_w, i32_w]
       rfl
      refine pu 13 (some 67) (tt 18 14) HT_ ?_
      refine take_ (i := 14) (N := some 68) (v := ?_) (a' := ?_) (tt 18 15) rfl rfl (take_ofW HT_.out HW_.out (by kernel_rfl)) (fun _ _ _ h => h) (Or.inl ⟨by rfl, ?_⟩) hHeld ?_ ?_
      rotate_left
      ·rintro w' ⟨s0, s1, s2, s3, s4⟩
       have q0_ : w'.cell? ⟨w.heap.size, 0, none⟩ = some (.int .i64 v.s.f0) := (blk_cell s0 0).trans rfl
       have q1_ : w'.cell? ⟨w.heap.size, 1, none⟩ = some (.int .i64 v.s.f1) := (blk_cell s0 1).trans rfl
       have q2_ : w'.cell? ⟨w.heap.size, 2, none⟩ = some (.string v.s.f2) := (blk_cell s0 2).trans rfl
       go_simp
       with_reducible rfl
      rotate_left
      ·simp only [Act.put, sA, sB, sC, i64_w, i32_w]
       rfl
      refine one_ (i := 15) (N := some 69) (tt 18 16) rfl rfl (one_of HT_.out (by kernel_rfl)) (by decide) (fun K hK => ?_)
      refine goes_ Tryd.func45 (by kernel_rfl) rfl #[.agg #[.int .i64 x.f0, .int .i64 x.f1, .string x.f2], .agg #[.int .i64 v.s.f0, .int .i64 v.s.f1, .string v.s.f2]] (by rfl) rfl rfl (by (try simp only [List.map_toArray, List.map_cons, List.map_nil]); first | done | rfl) ?_
      refine (trystref16_alike.calls x.f0 x.f1 x.f2 v.s.f0 v.s.f1 v.s.f2 (alB v.s x) wq1 (alE x v.s)).mono ?_
      rintro q wq2 ⟨rfl, hb⟩
      refine ⟨_, rfl, ?_⟩
      replace HN := Aside0.mk (below_then HN.out HN.out.size hb)
      refine hK.out _ _ ⟨blk_below hHeld.1 hb, pw_cell_below hb hHeld.2.1, pw_cell_below hb hHeld.2.2.1, pw_cell_below hb hHeld.2.2.2.1, pw_cell_below hb hHeld.2.2.2.2⟩ (fun hHeld => ?_)
      clear hK K
      refine norm_ (a' := ?_) ?_ ?_
      rotate_left
      ·show Act.put _ (some 69) _ = _
       simp only [Act.put, sA, sB, sC, i64_w, i32_w]
       rfl
      rcases h_ : alB v.s x with _ | _
      ·have B2 := Aside0.mk h_
       clear h_
       refine pu 16 (some 70) (tt 18 17) HT_ ?_
       refine pu 17 (some 71) (tt 18 18) HT_ ?_
       refine done_ (done_of HT_.out (by kernel_rfl)) ?_
       clear HT_ HW_
       go_wp2_with fail
       go_ret
       exact ⟨by unfold setB; rw [like_no HIL.out (by rw [SE.out]; unfold one; rw [B1.out, B2.out]; rfl)]; simp, below_then HB.out HB.out.size HN.out⟩
      ·have B2 := Aside0.mk h_
       clear h_
       refine pu 16 (some 70) (tt 18 17) HT_ ?_
       refine pu 17 (some 71) (tt 18 18) HT_ ?_
       refine done_ (done_of HT_.out (by kernel_rfl)) ?_
       clear HT_ HW_
       go_wp2_with fail
       go_roundg k1
       case measure => omega
       case rel =>
        refine ⟨i + 1, X + 1, by simp [nx], ⟨by have := HX.out; push_cast; omega⟩, ⟨by have := HI.out; omega⟩, ⟨fun j hj h => ?_⟩, ⟨blk_below K1.out HN.out⟩, ⟨below_then HB.out HB.out.size HN.out⟩⟩
        by_cases e : j = i
        ·subst e
         rw [SE.out h]
         unfold one
         rw [B1.out, B2.out]
         rfl
        ·exact HU.out j (by omega) h
    | zero =>
     have l1 : decide (X < (v.bs.length : Int)) = false := decide_eq_false (by have := HX.out; have := HI.out; omega)
     have L2 := Aside0.mk (like_yes (st := v.s) (ts := v.bs) (by have := C2.out; omega) (fun j h => HU.out j (by have := HI.out; omega) h))
     have x0 : wr.cell? ⟨w.heap.size, 0, none⟩ = some (.int .i64 v.s.f0) := (blk_cell K1.out 0).trans rfl
     have x3 : wr.cell? ⟨w.heap.size, 3, none⟩ = some (.bool v.again) := (blk_cell K1.out 3).trans rfl
     rcases h_ : v.again with _ | _
     ·rw [h_] at x3
      have H4 := Aside0.mk h_
      clear h_
      go_wp2_with fail
      go_ret
      exact ⟨by unfold setB; rw [H1.out, L1.out, L2.out, H4.out] <;> rfl, HB.out⟩
     rw [h_] at x3
     have H4 := Aside0.mk h_
     clear h_
     obtain ⟨z, hz⟩ : ∃ z, knd v.s.f0 = z := ⟨_, rfl⟩
     have KZ := Aside0.mk hz
     by_cases c3 : v.s.f0 = 3
     ·have c0 : (v.s.f0 == 3) = true := by simp [c3]
      have KN := Aside0.mk (show knd v.s.f0 = 2 from if_pos c3)
      clear KZ hz c3
      go_upto_region 21 with (first | ((with_reducible refine gate_ (.load 27 (.tmp 81)) rfl ?_); (try (refine gate_guard (by rfl) ?_; dsimp only)); refine wpList_load_mid rfl 27 (.tmp 81) rfl w.heap.size 4 rfl (agg v.r p.p).toList _ (range_of K1.out 4 _ _ rfl) Tryd.underlying27 rfl RecC.sz17 ?_) | ((with_reducible refine gate_ (.store 27 (.tmp 6) (.tmp 82)) rfl ?_); (try (refine gate_guard (by rfl) ?_; dsimp only)); refine wpList_store_row rfl 27 (.tmp 6) (.tmp 82) rfl wr.heap.size (agg v.r p.p) rfl rfl 27 zr (blk_new _ _) RecC.sz17 rfl (oneR _ _) ?_))
      have Q1 := Aside0.mk (setRow_heap (wr.alloc (.cells zr 27 (0, 0))) wr.heap.size _ (agg v.r p.p) _ _ (blk_new _ _))
      have LK := Aside0.mk (blk_lt K1.out)
      have x0b : ((wr.alloc (.cells zr 27 (0, 0))).setRow wr.heap.size (agg v.r p.p)).cell? ⟨w.heap.size, 0, none⟩ = some (.int .i64 v.s.f0) := (blk_cell ((setRow_other (wr.alloc (.cells zr 27 (0, 0))) wr.heap.size _ (agg v.r p.p) (show w.heap.size ≠ wr.heap.size by have := LK.out; omega)).trans (blk_alloc K1.out _)) 0).trans rfl
      have HB2 : Below w.heap.size w ((wr.alloc (.cells zr 27 (0, 0))).setRow wr.heap.size (agg v.r p.p)) := by
       have h := below_alloc HB.out (.cells zr 27 (0, 0))
       have l := HB.out.size
       exact ⟨h.os, h.tape, h.output, by rw [setRow_size]; exact h.size, fun k hk => (setRow_other _ _ _ _ (by omega)).trans (h.block k hk)⟩
      have HB3 := Aside0.mk HB2
      clear HB2 LK x0 x3 HB K1
      obtain ⟨g, hg⟩ : ∃ g, wr.heap.size = g := ⟨_, rfl⟩
      generalize (wr.alloc (.cells zr 27 (0, 0))).setRow wr.heap.size (agg v.r p.p) = wb at Q1 x0b HB3 ⊢
      rw [hg] at Q1 ⊢
      clear hg
      obtain ⟨y0, y1, y2, y3, y4, y5, y6, y7, y8, y9, y10, y11, y12, y13, y14, y15, y16⟩ := Ru.cells Q1.out
      clear y0 y1 y2 y4 y5 y7 y11 y12 y13 y14 y15 y16
      go_wp2_with ((with_reducible refine gate_ (.load 27 (.tmp 6)) rfl ?_); (try (refine gate_guard (by rfl) ?_; dsimp only)); refine Kd.event_run rfl (xrule (.tmp 6) g v.r p.p rfl rfl _ Q1.out) ?_)
      refine (frmR v.r p.p HZ.out.2.2.2.1 wb (OK.out.below HB3.out).o).mono ?_
      rintro q wc ⟨rfl, hb⟩
      replace HB3 := Aside0.mk (below_then HB3.out HB3.out.size hb)
      replace x0b := pw_cell_below hb x0b; replace y3 := pw_cell_below hb y3; replace y6 := pw_cell_below hb y6; replace y8 := pw_cell_below hb y8; replace y9 := pw_cell_below hb y9; replace y10 := pw_cell_below hb y10
      clear hb Q1
      have TM := Aside0.mk (tm_w HZ.out.2.2.2.2)
      obtain ⟨T, hT⟩ : ∃ T, wrap64 (wrap64 ((v.r.l10.length : Int) + (v.r.l9.length : Int)) + (v.r.l8.length : Int)) = T := ⟨_, rfl⟩
      have TM2 := Aside0.mk (show T = (tm v.r : Int) from hT.symm.trans TM.out)
      clear TM
      rcases h_ : frmB v.r (rtB v.r.a3 v.r.a4 v.r.a5) with _ | _
      ·have H5 := Aside0.mk h_
       clear h_
       go_wp2_with fail
       go_ret
       exact ⟨by unfold setB ruB untB; rw [H1.out, L1.out, L2.out, H4.out, H5.out] <;> rfl, HB3.out⟩
      have H5 := Aside0.mk h_
      clear h_
      rcases h6 : v.r.a6 with _ | _
      ·rw [h6] at y6
       have H6 := Aside0.mk h6
       clear h6
       rcases h_ : (v.s.f0 != 0) with _ | _
       rotate_left
       ·have H7 := Aside0.mk (show decide (v.s.f0 ≠ 0) = true from decide_eq_true (by simpa using h_))
        go_wp2_with fail
        go_ret
        exact ⟨by unfold setB ruB untB; rw [H1.out, L1.out, L2.out, H4.out, H5.out, H6.out, H7.out] <;> rfl, HB3.out⟩
       have H7 := Aside0.mk (show decide (v.s.f0 ≠ 0) = false from decide_eq_false (by simpa using h_))
       by_cases c : T = 0
       ·have c2 : (T == 0) = true := by simp [c]
        have H8 := Aside0.mk (show decide (tm v.r = 0) = true from decide_eq_true (by have := TM2.out; omega))
        clear c
        go_wp2_with fail
        go_ret
        exact ⟨by unfold setB ruB untB; rw [H1.out, L1.out, L2.out, H4.out, H5.out, H6.out, H7.out, H8.out] <;> rfl, HB3.out⟩
       ·have c2 : (T == 0) = false := by simpa using c
        have H8 := Aside0.mk (show decide (tm v.r = 0) = false from decide_eq_false (by have := TM2.out; omega))
        clear c
        go_wp2_with fail
        go_ret
        exact ⟨by unfold setB ruB untB; rw [H1.out, L1.out, L2.out, H4.out, H5.out, H6.out, H7.out, H8.out] <;> rfl, HB3.out⟩
      rw [h6] at y6
      have H6 := Aside0.mk h6
      clear h6
      rcases h9 : (v.r.a3 == 2) with _ | _
      ·have H9 := Aside0.mk h9
       go_wp2_with fail
       go_ret
       exact ⟨by unfold setB ruB untB; rw [H1.out, L1.out, L2.out, H4.out, H5.out, H6.out, KN.out, H9.out] <;> rfl, HB3.out⟩
      have H9 := Aside0.mk h9
      rcases h_ : (v.s.f0 != 0) with _ | _
      rotate_left
      ·have H7 := Aside0.mk (show decide (v.s.f0 ≠ 0) = true from decide_eq_true (by simpa using h_))
       go_wp2_with fail
       go_ret
       exact ⟨by unfold setB ruB untB; rw [H1.out, L1.out, L2.out, H4.out, H5.out, H6.out, KN.out, H9.out, H7.out] <;> rfl, HB3.out⟩
      have H7 := Aside0.mk (show decide (v.s.f0 ≠ 0) = false from decide_eq_false (by simpa using h_))
      by_cases c : T = 0
      ·have c2 : (T == 0) = true := by simp [c]
       have H8 := Aside0.mk (show decide (tm v.r = 0) = true from decide_eq_true (by have := TM2.out; omega))
       clear c
       go_wp2_with fail
       go_ret
       exact ⟨by unfold setB ruB untB; rw [H1.out, L1.out, L2.out, H4.out, H5.out, H6.out, KN.out, H9.out, H7.out, H8.out] <;> rfl, HB3.out⟩
      ·have c2 : (T == 0) = false := by simpa using c
       have H8 := Aside0.mk (show decide (tm v.r = 0) = false from decide_eq_false (by have := TM2.out; omega))
       clear c
       go_wp2_with fail
       go_ret
       exact ⟨by unfold setB ruB untB; rw [H1.out, L1.out, L2.out, H4.out, H5.out, H6.out, KN.out, H9.out, H7.out, H8.out] <;> rfl, HB3.out⟩
     ·have c0 : (v.s.f0 == 3) = false := by simpa using c3
      have KN := Aside0.mk (show knd v.s.f0 = v.s.f0 from if_neg c3)
      clear KZ hz c3
      go_upto_region 21 with (first | ((with_reducible refine gate_ (.load 27 (.tmp 81)) rfl ?_); (try (refine gate_guard (by rfl) ?_; dsimp only)); refine wpList_load_mid rfl 27 (.tmp 81) rfl w.heap.size 4 rfl (agg v.r p.p).toList _ (range_of K1.out 4 _ _ rfl) Tryd.underlying27 rfl RecC.sz17 ?_) | ((with_reducible refine gate_ (.store 27 (.tmp 6) (.tmp 82)) rfl ?_); (try (refine gate_guard (by rfl) ?_; dsimp only)); refine wpList_store_row rfl 27 (.tmp 6) (.tmp 82) rfl wr.heap.size (agg v.r p.p) rfl rfl 27 zr (blk_new _ _) RecC.sz17 rfl (oneR _ _) ?_))
      have Q1 := Aside0.mk (setRow_heap (wr.alloc (.cells zr 27 (0, 0))) wr.heap.size _ (agg v.r p.p) _ _ (blk_new _ _))
      have LK := Aside0.mk (blk_lt K1.out)
      have x0b : ((wr.alloc (.cells zr 27 (0, 0))).setRow wr.heap.size (agg v.r p.p)).cell? ⟨w.heap.size, 0, none⟩ = some (.int .i64 v.s.f0) := (blk_cell ((setRow_other (wr.alloc (.cells zr 27 (0, 0))) wr.heap.size _ (agg v.r p.p) (show w.heap.size ≠ wr.heap.size by have := LK.out; omega)).trans (blk_alloc K1.out _)) 0).trans rfl
      have HB2 : Below w.heap.size w ((wr.alloc (.cells zr 27 (0, 0))).setRow wr.heap.size (agg v.r p.p)) := by
       have h := below_alloc HB.out (.cells zr 27 (0, 0))
       have l := HB.out.size
       exact ⟨h.os, h.tape, h.output, by rw [setRow_size]; exact h.size, fun k hk => (setRow_other _ _ _ _ (by omega)).trans (h.block k hk)⟩
      have HB3 := Aside0.mk HB2
      clear HB2 LK x0 x3 HB K1
      obtain ⟨g, hg⟩ : ∃ g, wr.heap.size = g := ⟨_, rfl⟩
      generalize (wr.alloc (.cells zr 27 (0, 0))).setRow wr.heap.size (agg v.r p.p) = wb at Q1 x0b HB3 ⊢
      rw [hg] at Q1 ⊢
      clear hg
      obtain ⟨y0, y1, y2, y3, y4, y5, y6, y7, y8, y9, y10, y11, y12, y13, y14, y15, y16⟩ := Ru.cells Q1.out
      clear y0 y1 y2 y4 y5 y7 y11 y12 y13 y14 y15 y16
      go_wp2_with ((with_reducible refine gate_ (.load 27 (.tmp 6)) rfl ?_); (try (refine gate_guard (by rfl) ?_; dsimp only)); refine Kd.event_run rfl (xrule (.tmp 6) g v.r p.p rfl rfl _ Q1.out) ?_)
      refine (frmR v.r p.p HZ.out.2.2.2.1 wb (OK.out.below HB3.out).o).mono ?_
      rintro q wc ⟨rfl, hb⟩
      replace HB3 := Aside0.mk (below_then HB3.out HB3.out.size hb)
      replace x0b := pw_cell_below hb x0b; replace y3 := pw_cell_below hb y3; replace y6 := pw_cell_below hb y6; replace y8 := pw_cell_below hb y8; replace y9 := pw_cell_below hb y9; replace y10 := pw_cell_below hb y10
      clear hb Q1
      have TM := Aside0.mk (tm_w HZ.out.2.2.2.2)
      obtain ⟨T, hT⟩ : ∃ T, wrap64 (wrap64 ((v.r.l10.length : Int) + (v.r.l9.length : Int)) + (v.r.l8.length : Int)) = T := ⟨_, rfl⟩
      have TM2 := Aside0.mk (show T = (tm v.r : Int) from hT.symm.trans TM.out)
      clear TM
      rcases h_ : frmB v.r (rtB v.r.a3 v.r.a4 v.r.a5) with _ | _
      ·have H5 := Aside0.mk h_
       clear h_
       go_wp2_with fail
       go_ret
       exact ⟨by unfold setB ruB untB; rw [H1.out, L1.out, L2.out, H4.out, H5.out] <;> rfl, HB3.out⟩
      have H5 := Aside0.mk h_
      clear h_
      rcases h6 : v.r.a6 with _ | _
      ·rw [h6] at y6
       have H6 := Aside0.mk h6
       clear h6
       rcases h_ : (v.s.f0 != 0) with _ | _
       rotate_left
       ·have H7 := Aside0.mk (show decide (v.s.f0 ≠ 0) = true from decide_eq_true (by simpa using h_))
        go_wp2_with fail
        go_ret
        exact ⟨by unfold setB ruB untB; rw [H1.out, L1.out, L2.out, H4.out, H5.out, H6.out, H7.out] <;> rfl, HB3.out⟩
       have H7 := Aside0.mk (show decide (v.s.f0 ≠ 0) = false from decide_eq_false (by simpa using h_))
       by_cases c : T = 0
       ·have c2 : (T == 0) = true := by simp [c]
        have H8 := Aside0.mk (show decide (tm v.r = 0) = true from decide_eq_true (by have := TM2.out; omega))
        clear c
        go_wp2_with fail
        go_ret
        exact ⟨by unfold setB ruB untB; rw [H1.out, L1.out, L2.out, H4.out, H5.out, H6.out, H7.out, H8.out] <;> rfl, HB3.out⟩
       ·have c2 : (T == 0) = false := by simpa using c
        have H8 := Aside0.mk (show decide (tm v.r = 0) = false from decide_eq_false (by have := TM2.out; omega))
        clear c
        go_wp2_with fail
        go_ret
        exact ⟨by unfold setB ruB untB; rw [H1.out, L1.out, L2.out, H4.out, H5.out, H6.out, H7.out, H8.out] <;> rfl, HB3.out⟩
      rw [h6] at y6
      have H6 := Aside0.mk h6
      clear h6
      rcases h9 : (v.r.a3 == v.s.f0) with _ | _
      ·have H9 := Aside0.mk h9
       go_wp2_with fail
       go_ret
       exact ⟨by unfold setB ruB untB; rw [H1.out, L1.out, L2.out, H4.out, H5.out, H6.out, KN.out, H9.out] <;> rfl, HB3.out⟩
      have H9 := Aside0.mk h9
      rcases h_ : (v.s.f0 != 0) with _ | _
      rotate_left
      ·have H7 := Aside0.mk (show decide (v.s.f0 ≠ 0) = true from decide_eq_true (by simpa using h_))
       go_wp2_with fail
       go_ret
       exact ⟨by unfold setB ruB untB; rw [H1.out, L1.out, L2.out, H4.out, H5.out, H6.out, KN.out, H9.out, H7.out] <;> rfl, HB3.out⟩
      have H7 := Aside0.mk (show decide (v.s.f0 ≠ 0) = false from decide_eq_false (by simpa using h_))
      by_cases c : T = 0
      ·have c2 : (T == 0) = true := by simp [c]
       have H8 := Aside0.mk (show decide (tm v.r = 0) = true from decide_eq_true (by have := TM2.out; omega))
       clear c
       go_wp2_with fail
       go_ret
       exact ⟨by unfold setB ruB untB; rw [H1.out, L1.out, L2.out, H4.out, H5.out, H6.out, KN.out, H9.out, H7.out, H8.out] <;> rfl, HB3.out⟩
      ·have c2 : (T == 0) = false := by simpa using c
       have H8 := Aside0.mk (show decide (tm v.r = 0) = false from decide_eq_false (by have := TM2.out; omega))
       clear c
       go_wp2_with fail
       go_ret
       exact ⟨by unfold setB ruB untB; rw [H1.out, L1.out, L2.out, H4.out, H5.out, H6.out, KN.out, H9.out, H7.out, H8.out] <;> rfl, HB3.out⟩
end Go.Proofs.YtddoidcbpcmlaaaDoor.Fset
/- trystlaw18.zero walked. (Written by gen_zero.py.) -/
namespace Go.Proofs.YtddoidcbpcmlaaaDoor.Zero
open Go.RowKit Go.Proofs.YtddoidcbpcmlaaaDoorW.PrintWords Go.Proofs.YtddoidcbpcmlaaaDoorW.PrintLast Go.Proofs.YtddoidcbpcmlaaaDoor.M Go.Proofs.YtddoidcbpcmlaaaDoor.Fr Go.Proofs.YtddoidcbpcmlaaaDoor.Ru
open Go.Proofs.YtddoidcbpcmlaaaDoor.RefF (LL LA LC arr_at aobj)
open Go.Proofs.YtddoidcbpcmlaaaDoor.UnF (ls ruleZ zT)
open Go.Proofs.YtddoidcbpcmlaaaDoor.SetC (oneR)
set_option linter.unusedVariables false
set_option linter.unusedSimpArgs false
theorem ls_none {r : Ru} (h : ∀ i, i < 8 → (LL r i).length = 0) : ls r = r.l11.length := by
 have h0 := h 0 (by omega); have h1 := h 1 (by omega); have h2 := h 2 (by omega); have h3 := h 3 (by omega); have h4 := h 4 (by omega); have h5 := h 5 (by omega); have h6 := h 6 (by omega); have h7 := h 7 (by omega)
 simp only [LL] at h0 h1 h2 h3 h4 h5 h6 h7
 unfold ls
 omega
theorem ls_some {r : Ru} {i : Nat} (hi : i < 8) (h : (LL r i).length > 0) : ¬ ls r = 0 := by
 unfold ls
 match i, hi with
 | 0, _ => simp only [LL] at h; omega
 | 1, _ => simp only [LL] at h; omega
 | 2, _ => simp only [LL] at h; omega
 | 3, _ => simp only [LL] at h; omega
 | 4, _ => simp only [LL] at h; omega
 | 5, _ => simp only [LL] at h; omega
 | 6, _ => simp only [LL] at h; omega
 | 7, _ => simp only [LL] at h; omega
set_option maxHeartbeats 8000000 in
set_option maxRecDepth 100000 in
theorem zero (r : Ru) (p : Rp) (w : World) :
  Calls Tryd.prog 26 #[.agg (agg r p)] w fun e w' => e = .returned (.bool (ruleZ r)) ∧ Below w.heap.size w w' := by
 go_enter Tryd.func26, Tryd.ntmps26
 go_upto_region 1 with fail
 obtain ⟨w0, hw0, z0⟩ : ∃ w0, w0 = w.alloc (obj r p) ∧ w0.heap[w.heap.size]? = some (obj r p) ∧ Below w.heap.size w w0 := ⟨_, rfl, blk_new _ _, below_alloc (Below.refl _ _) _⟩
 have K1 := Aside0.mk z0.1; have HB := Aside0.mk z0.2
 rw [← hw0]
 clear hw0 z0
 go_wp2_with ((with_reducible refine gate_ (.load 27 (.tmp 1)) rfl ?_); (try (refine gate_guard (by rfl) ?_; dsimp only)); refine Kd.event_run rfl (RecG.xR (.tmp 1) w.heap.size r p rfl rfl _ K1.out) ?_)
 refine (RefL.lists_ r.a0 r.a1 r.a2 r.a3 r.a4 r.a5 r.a6 r.a7 p.A8 p.c8 r.l8 p.A9 p.c9 r.l9 p.A10 p.c10 r.l10 p.A11 p.c11 r.l11 p.A12 p.c12 r.l12 p.A13 p.c13 r.l13 p.A14 p.c14 r.l14 p.A15 p.c15 r.l15 p.A16 p.c16 r.l16 w0).mono ?_
 rintro q w1 ⟨rfl, hb⟩
 replace K1 := Aside0.mk (blk_below K1.out hb); replace HB := Aside0.mk (below_then HB.out HB.out.size hb)
 clear hb
 have HA0 : (w1.alloc (.cells #[.slice p.A8 r.l8.length p.c8, .slice p.A9 r.l9.length p.c9, .slice p.A10 r.l10.length p.c10, .slice p.A12 r.l12.length p.c12, .slice p.A13 r.l13.length p.c13, .slice p.A14 r.l14.length p.c14, .slice p.A15 r.l15.length p.c15, .slice p.A16 r.l16.length p.c16] 81 (0, 0))).heap[w1.heap.size]? = some (.cells #[.slice p.A8 r.l8.length p.c8, .slice p.A9 r.l9.length p.c9, .slice p.A10 r.l10.length p.c10, .slice p.A12 r.l12.length p.c12, .slice p.A13 r.l13.length p.c13, .slice p.A14 r.l14.length p.c14, .slice p.A15 r.l15.length p.c15, .slice p.A16 r.l16.length p.c16] 81 (0, 0)) := blk_new _ _
 have HA := Aside0.mk (show (w1.alloc (.cells #[.slice p.A8 r.l8.length p.c8, .slice p.A9 r.l9.length p.c9, .slice p.A10 r.l10.length p.c10, .slice p.A12 r.l12.length p.c12, .slice p.A13 r.l13.length p.c13, .slice p.A14 r.l14.length p.c14, .slice p.A15 r.l15.length p.c15, .slice p.A16 r.l16.length p.c16] 81 (0, 0))).heap[w1.heap.size]? = some (aobj r p) from HA0)
 have KL := Aside0.mk (blk_lt K1.out)
 have K2 := Aside0.mk (blk_alloc K1.out (.cells #[.slice p.A8 r.l8.length p.c8, .slice p.A9 r.l9.length p.c9, .slice p.A10 r.l10.length p.c10, .slice p.A12 r.l12.length p.c12, .slice p.A13 r.l13.length p.c13, .slice p.A14 r.l14.length p.c14, .slice p.A15 r.l15.length p.c15, .slice p.A16 r.l16.length p.c16] 81 (0, 0)))
 have HB2 := Aside0.mk (below_alloc HB.out (.cells #[.slice p.A8 r.l8.length p.c8, .slice p.A9 r.l9.length p.c9, .slice p.A10 r.l10.length p.c10, .slice p.A12 r.l12.length p.c12, .slice p.A13 r.l13.length p.c13, .slice p.A14 r.l14.length p.c14, .slice p.A15 r.l15.length p.c15, .slice p.A16 r.l16.length p.c16] 81 (0, 0)))
 clear HA0 K1 HB
 go_wp2_with fail
 generalize w1.alloc (.cells #[.slice p.A8 r.l8.length p.c8, .slice p.A9 r.l9.length p.c9, .slice p.A10 r.l10.length p.c10, .slice p.A12 r.l12.length p.c12, .slice p.A13 r.l13.length p.c13, .slice p.A14 r.l14.length p.c14, .slice p.A15 r.l15.length p.c15, .slice p.A16 r.l16.length p.c16] 81 (0, 0)) = w2 at HA K2 HB2 ⊢
 generalize w1.heap.size = g at HA KL ⊢
 go_loopg [7] 8 (fun kq v_ w' => ∃ (i : Nat) (X : Int), v_ = .int .i64 X ∧ Aside0 (X = (i : Int)) ∧ Aside0 (i + kq = 8) ∧ Aside0 (∀ j, j < i → (LL r j).length = 0) ∧ w' = w2)
 case atStart => exact ⟨0, 0, rfl, ⟨rfl⟩, ⟨rfl⟩, ⟨fun j hj => by omega⟩, rfl⟩
 case round =>
  obtain ⟨i, X, rfl, HX, HI, HU, rfl⟩ := hrel
  cases gk with
  | succ k1 =>
   have hi : i < 8 := by have := HI.out; omega
   have l1 : decide (X < 8) = true := decide_eq_true (by have := HX.out; omega)
   have p1 : (0 ≤ X) = True := eq_true (by have := HX.out; omega)
   have p2 : (X < 8) = True := eq_true (by have := HX.out; omega)
   have nx : wrap64 (X + 1) = X + 1 := by have := HX.out; unfold wrap64; omega
   have xi : wr.cell? ⟨g, X.toNat, none⟩ = some (.slice (LA p i) (LL r i).length (LC p i)) := by rw [HX.out, Int.toNat_natCast]; exact arr_at HA.out i hi
   have HII := Aside0.mk hi
   obtain ⟨n, hn⟩ : ∃ n, (LL r i).length = n := ⟨_, rfl⟩
   rw [hn] at xi
   have HN := Aside0.mk hn
   clear hn hi
   by_cases c : 0 < n
   ·have c1 := decide_eq_true c
    have C := Aside0.mk c
    clear c
    go_wp2_with fail
    go_ret
    exact ⟨by unfold ruleZ; rw [decide_eq_false (ls_some HII.out (by rw [HN.out]; have := C.out; omega))]; simp, HB2.out⟩
   ·have c1 := decide_eq_false c
    have C := Aside0.mk c
    clear c
    go_wp2_with fail
    go_roundg k1
    case measure => omega
    case rel =>
     refine ⟨i + 1, X + 1, by simp [nx], ⟨by have := HX.out; push_cast; omega⟩, ⟨by have := HI.out; omega⟩, ⟨fun j hj => ?_⟩, rfl⟩
     by_cases e : j = i
     ·subst e
      rw [HN.out]
      have := C.out
      omega
     ·exact HU.out j (by omega)
  | zero =>
   have l1 : decide (X < 8) = false := decide_eq_false (by have := HX.out; have := HI.out; omega)
   have LS := Aside0.mk (ls_none (r := r) (fun j hj => HU.out j (by have := HI.out; omega)))
   clear HU
   obtain ⟨y0, y1, y2, y3, y4, y5, y6, y7, y8, y9, y10, y11, y12, y13, y14, y15, y16⟩ := Ru.cells K2.out
   clear y8 y9 y10 y12 y13 y14 y15 y16
   rcases e0 : (r.a0 == 0) with _ | _
   ·have E0 := Aside0.mk e0
    go_wp2_with fail
    go_ret
    exact ⟨by unfold ruleZ zT; rw [E0.out] <;> rfl, HB2.out⟩
   have E0 := Aside0.mk e0
   rcases e1 : (r.a1 == 0) with _ | _
   ·have E1 := Aside0.mk e1
    go_wp2_with fail
    go_ret
    exact ⟨by unfold ruleZ zT; rw [E0.out, E1.out] <;> rfl, HB2.out⟩
   have E1 := Aside0.mk e1
   rcases e2 : (r.a2 == 0) with _ | _
   ·have E2 := Aside0.mk e2
    go_wp2_with fail
    go_ret
    exact ⟨by unfold ruleZ zT; rw [E0.out, E1.out, E2.out] <;> rfl, HB2.out⟩
   have E2 := Aside0.mk e2
   rcases e3 : (r.a3 == 0) with _ | _
   ·have E3 := Aside0.mk e3
    go_wp2_with fail
    go_ret
    exact ⟨by unfold ruleZ zT; rw [E0.out, E1.out, E2.out, E3.out] <;> rfl, HB2.out⟩
   have E3 := Aside0.mk e3
   rcases e4 : (r.a4 == 0) with _ | _
   ·have E4 := Aside0.mk e4
    go_wp2_with fail
    go_ret
    exact ⟨by unfold ruleZ zT; rw [E0.out, E1.out, E2.out, E3.out, E4.out] <;> rfl, HB2.out⟩
   have E4 := Aside0.mk e4
   rcases e5 : (r.a5.toList == ([] : List UInt8)) with _ | _
   ·have E5 := Aside0.mk e5
    go_wp2_with fail
    go_ret
    exact ⟨by unfold ruleZ zT; rw [E0.out, E1.out, E2.out, E3.out, E4.out, E5.out] <;> rfl, HB2.out⟩
   have E5 := Aside0.mk e5
   rcases e6 : r.a6 with _ | _
   rotate_left
   ·rw [e6] at y6
    have E6 := Aside0.mk e6
    clear e6
    go_wp2_with fail
    go_ret
    exact ⟨by unfold ruleZ zT; rw [E0.out, E1.out, E2.out, E3.out, E4.out, E5.out, E6.out] <;> rfl, HB2.out⟩
   rw [e6] at y6
   have E6 := Aside0.mk e6
   clear e6
   rcases e7 : (r.a7 == 0) with _ | _
   ·have E7 := Aside0.mk e7
    go_wp2_with fail
    go_ret
    exact ⟨by unfold ruleZ zT; rw [E0.out, E1.out, E2.out, E3.out, E4.out, E5.out, E6.out, E7.out] <;> rfl, HB2.out⟩
   have E7 := Aside0.mk e7
   by_cases c : (r.l11.length : Int) = 0
   ·have c2 : ((r.l11.length : Int) == 0) = true := by exact beq_iff_eq.2 c
    have E8 := Aside0.mk (show decide (ls r = 0) = true from decide_eq_true (by have := LS.out; omega))
    clear c
    go_wp2_with fail
    go_ret
    exact ⟨by unfold ruleZ zT; rw [E0.out, E1.out, E2.out, E3.out, E4.out, E5.out, E6.out, E7.out, E8.out] <;> rfl, HB2.out⟩
   ·have c2 : ((r.l11.length : Int) == 0) = false := by simpa using c
    have E8 := Aside0.mk (show decide (ls r = 0) = false from decide_eq_false (by have := LS.out; omega))
    clear c
    go_wp2_with fail
    go_ret
    exact ⟨by unfold ruleZ zT; rw [E0.out, E1.out, E2.out, E3.out, E4.out, E5.out, E6.out, E7.out, E8.out] <;> rfl, HB2.out⟩
end Go.Proofs.YtddoidcbpcmlaaaDoor.Zero
