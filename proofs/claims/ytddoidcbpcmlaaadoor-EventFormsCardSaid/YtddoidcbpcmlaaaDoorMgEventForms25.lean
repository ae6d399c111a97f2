/- Texts of this claim, merged: Right, MsetAlike, SetF, UnF, ShelfAny, Mgiven. -/
import Derived.Test.YtddoidcbpcmlaaaDoorMgEventForms23
import Derived.Test.YtddoidcbpcmlaaaDoorMgEventForms20
import Derived.Test.YtddoidcbpcmlaaaDoorMgEventForms19
import Derived.Test.YtddoidcbpcmlaaaDoorMgEventForms13
import Derived.Test.YtddoidcbpcmlaaaDoorMgEventForms14
import Derived.Test.YtddoidcbpcmlaaaDoorMgEventForms24
import Derived.Test.YtddoidcbpcmlaaaDoorMgEventForms9
import Derived.Shelf.Small.Utf8
import Derived.Shelf.Small.Strs
import Derived.Shelf.Strings.Search1
import Derived.Shelf.Strings.Prefix
import Derived.Shelf.Strings.Runes
import Derived.Shelf.Strings.IndexAny
import Derived.Shelf.Strings.AsciiSet
import Derived.Shelf.Strings.IndexAnyAll
import Derived.Ground.Names2Prog
import Derived.Shelf.Slices.SearchI
import Derived.Test.YtddoidcbpcmlaaaDoorProg
/- A time is right by value when it is by the reference: one answer. -/
namespace Go.Proofs.YtddoidcbpcmlaaaDoor.Right
open Go.RowKit Go.Proofs.YtddoidcbpcmlaaaDoorW.PrintWords Go.Proofs.YtddoidcbpcmlaaaDoorW.PrintLast Go.Proofs.YtddoidcbpcmlaaaDoor.M Go.Proofs.YtddoidcbpcmlaaaDoor.Cal
set_option linter.unusedVariables false
set_option linter.unusedSimpArgs false
theorem cRight (a : Int) : clock_Right.f a = some (decide (86400 ≤ a) && decide (a < 315537984000)) := by
 unfold clock_Right.f
 by_cases h : a ≥ 86400
 ·rw [if_pos h, decide_eq_true (show 86400 ≤ a from h)]; rfl
 ·rw [if_neg h, decide_eq_false (show ¬ 86400 ≤ a from h)]; rfl
theorem fRight (a : Int) : trystref01_Right.f a = some (decide (86400 ≤ a) && decide (a < 315537984000)) := by
 unfold trystref01_Right.f
 by_cases h : a ≥ 86400
 ·rw [if_pos h, decide_eq_true (show 86400 ≤ a from h)]; rfl
 ·rw [if_neg h, decide_eq_false (show ¬ 86400 ≤ a from h)]; rfl
theorem cSplit {a : Int} (h : 0 ≤ a) (h' : a ≤ 9223372036854775807) : clock_split.f a = some (a / 86400, a % 86400) := by
 unfold clock_split.f
 rw [Int.tmod_eq_emod_of_nonneg h, Int.tdiv_eq_ediv_of_nonneg h, if_neg (by omega), w64 (by omega) (by omega)]
theorem right_ (kd at_ : Int) (s : ByteArray) (hs : s.size ≤ 9223372036854775807) : ∃ b, ∀ k, 2 ≤ k → value_RightTime.f kd at_ s = some b ∧ trystref12_RightTime.f k kd at_ s = some b := by
 have hz1 : value_ZoneName.f s = some (Zn.znB s) := if_pos hs
 have hz2 : trystref12_ZoneName.f s = some (Zn.znB s) := if_pos hs
 by_cases r : 86400 ≤ at_ ∧ at_ < 315537984000
 ·have e1 : clock_Right.f at_ = some true := by rw [cRight, decide_eq_true r.1, decide_eq_true r.2]; rfl
  have e2 : trystref01_Right.f at_ = some true := by rw [fRight, decide_eq_true r.1, decide_eq_true r.2]; rfl
  have e3 : clock_Second.f at_ = some (at_ % 86400) := by
   unfold clock_Second.f
   rw [e1, Option.bind_some, if_pos rfl, cSplit (by omega) (by omega)]; rfl
  by_cases a : kd = 0
  ·by_cases c : s.toList = ([] : List UInt8)
   ·refine ⟨at_ % 86400 == 0, fun k hk => ⟨?_, ?_⟩⟩
    ·unfold value_RightTime.f; rw [e1, Option.bind_some, if_pos rfl, if_pos a, if_pos c, e3]; rfl
    ·unfold trystref12_RightTime.f; rw [e2, Option.bind_some, if_pos rfl, if_pos a, if_pos c, Int.tmod_eq_emod_of_nonneg (by omega)]
   ·refine ⟨false, fun k hk => ⟨?_, ?_⟩⟩
    ·unfold value_RightTime.f; rw [e1, Option.bind_some, if_pos rfl, if_pos a, if_neg c]
    ·unfold trystref12_RightTime.f; rw [e2, Option.bind_some, if_pos rfl, if_pos a, if_neg c]
  ·by_cases b : kd = 3
   ·have b1 : ¬ kd = 1 := by omega
    have b2 : (kd == 2) = false := beq_eq_false_iff_ne.2 (by omega)
    refine ⟨Zn.znB s, fun k hk => ?_⟩
    obtain ⟨k, rfl⟩ : ∃ m, k = m + 1 := ⟨k - 1, by omega⟩
    refine ⟨?_, ?_⟩
    ·unfold value_RightTime.f; rw [e1, Option.bind_some, if_pos rfl, if_neg a, if_pos b, hz1]; rfl
    ·unfold trystref12_RightTime.f; rw [e2, Option.bind_some, if_pos rfl, if_neg a, if_neg b1, b2]
     simp only [trystref12_RightTime.j0]
     rw [if_neg (by simp), if_pos b, hz2]; rfl
   ·by_cases c : kd = 1
    ·refine ⟨s.toList == ([] : List UInt8), fun k hk => ?_⟩
     obtain ⟨k, rfl⟩ : ∃ m, k = m + 1 := ⟨k - 1, by omega⟩
     refine ⟨?_, ?_⟩
     ·unfold value_RightTime.f
      rw [e1, Option.bind_some, if_pos rfl, if_neg a, if_neg b]
      by_cases q : s.toList = ([] : List UInt8)
      ·rw [if_pos q, if_pos c, q]; rfl
      ·rw [if_neg q]; simp [q]
     ·unfold trystref12_RightTime.f
      rw [e2, Option.bind_some, if_pos rfl, if_neg a, if_pos c, show (kd == 1) = true from beq_iff_eq.2 c]
      simp only [trystref12_RightTime.j0]
      rw [if_pos trivial]
    ·refine ⟨(kd == 2) && (s.toList == ([] : List UInt8)), fun k hk => ?_⟩
     obtain ⟨k, rfl⟩ : ∃ m, k = m + 1 := ⟨k - 1, by omega⟩
     refine ⟨?_, ?_⟩
     ·unfold value_RightTime.f
      rw [e1, Option.bind_some, if_pos rfl, if_neg a, if_neg b]
      by_cases q : s.toList = ([] : List UInt8)
      ·rw [if_pos q, if_neg c, q]; simp
      ·rw [if_neg q]; simp [q]
     ·unfold trystref12_RightTime.f
      rw [e2, Option.bind_some, if_pos rfl, if_neg a, if_neg c]
      simp only [trystref12_RightTime.j0]
      by_cases d : kd = 2
      ·rw [show (kd == 2) = true from beq_iff_eq.2 d, if_pos rfl, Bool.true_and]
      ·rw [show (kd == 2) = false from beq_eq_false_iff_ne.2 d, if_neg (by simp), if_neg b, Bool.false_and]
 ·have e1 : clock_Right.f at_ = some false := by
   rw [cRight]
   by_cases c : 86400 ≤ at_
   ·rw [decide_eq_false (show ¬ at_ < 315537984000 from fun z => r ⟨c, z⟩)]; simp
   ·rw [decide_eq_false c]; rfl
  have e2 : trystref01_Right.f at_ = some false := by rw [fRight, ← cRight, e1]
  refine ⟨false, fun k hk => ⟨?_, ?_⟩⟩
  ·unfold value_RightTime.f; rw [e1, Option.bind_some, if_neg (by simp)]
  ·unfold trystref12_RightTime.f; rw [e2, Option.bind_some, if_neg (by simp)]
end Go.Proofs.YtddoidcbpcmlaaaDoor.Right
namespace Go.Proofs.YtddoidcbpcmlaaaDoor.M
open Go.RowKit Go.Proofs.YtddoidcbpcmlaaaDoorW.PrintWords Go.Proofs.YtddoidcbpcmlaaaDoorW.PrintLast Go.Proofs.YtddoidcbpcmlaaaDoorW.PrintMore
attribute [local go_sem] max2_int min2_int max_two min_two
set_option linter.unusedVariables false
set_option linter.unusedSimpArgs false
/-! ### set_Alike: function 54 -/
def set_Alike.f (a0_0 : Int) (a0_1 : Int) (a0_2 : ByteArray) (a1_0 : Int) (a1_1 : Int) (a1_2 : ByteArray) : Option (Bool) := if a0_0 = a1_0 then (some (a0_2.toList == a1_2.toList)) else (some false)
set_option maxHeartbeats 8000000 in
set_option maxRecDepth 100000 in
theorem set_Alike.calls (a0_0 : Int) (a0_1 : Int) (a0_2 : ByteArray) (a1_0 : Int) (a1_1 : Int) (a1_2 : ByteArray) (r : Bool) (w : World) (h : set_Alike.f a0_0 a0_1 a0_2 a1_0 a1_1 a1_2 = some r) :
  Calls Tryd.prog 54 #[.agg #[.int .i64 a0_0, .int .i64 a0_1, .string a0_2], .agg #[.int .i64 a1_0, .int .i64 a1_1, .string a1_2]] w fun e w' => e = .returned (.bool r) ∧ Below w.heap.size w w' := by
 have hu23 := Tryd.underlying23
 have HB := Aside0.mk (Below.refl w.heap.size w)
 have H : (if a0_0 = a1_0 then (some (a0_2.toList == a1_2.toList)) else (some false)) = some r := h
 clear h
 by_cases c3 : a0_0 = a1_0
 ·rw [if_pos c3] at H
  have c3b0 : (a0_0 == a1_0) = true := beq_iff_eq.mpr c3
  have c3b1 : (a0_0 != a1_0) = false := bne_eq_false_iff_eq.mpr c3
  clear c3
  obtain rfl := Option.some.inj H
  go_enter Tryd.func54, Tryd.ntmps54
  go_wp2_with (first | ((with_reducible refine gate_dst (N := 2) rfl ?_); refine box_event ?hg (N := 2) ?hd (cs := #[.int .i64 a0_0, .int .i64 a0_1, .string a0_2]) (t := 23) ?hr ?_; (case hd => rfl); (case hg => rfl); (case hr => first | (go_simp; done) | (go_simp; rfl)); intro gb133 hg w4 hbox hb; have n0_ := Aside0.mk (below_step (by repeat (first | (with_reducible first | exact HB.out | apply below_alloc | apply pw_below_drewN | apply below_drew1) | exact HB.out)) hb); have n1_ := Aside0.mk (hbox); have n2_ := Aside0.mk ((by rw [hg]; exact (below_size (by repeat (first | (with_reducible first | exact HB.out | apply below_alloc | apply pw_below_drewN | apply below_drew1) | exact HB.out))) : w.heap.size ≤ gb133)); have n3_ := Aside0.mk ((by rw [hg]; exact (below_size (by repeat (first | (with_reducible first | exact HB.out | apply below_alloc | apply pw_below_drewN | apply below_drew1) | exact HB.out))) : w.heap.size ≤ gb133)); clear HB; have HB := n0_; have BK133 := n1_; have GW133 := n2_; have GE133 := n3_; clear n0_ n1_ n2_ n3_; clear hb hbox hg) | ((with_reducible refine gate_dst (N := 3) rfl ?_); refine box_event ?hg (N := 3) ?hd (cs := #[.int .i64 a1_0, .int .i64 a1_1, .string a1_2]) (t := 23) ?hr ?_; (case hd => rfl); (case hg => rfl); (case hr => first | (go_simp; done) | (go_simp; rfl)); intro gb134 hg w5 hbox hb; have n0_ := Aside0.mk (blk_below (g := gb133) (o := .cells #[.int .i64 a0_0, .int .i64 a0_1, .string a0_2] 23 (0, 0)) (by (with_reducible repeat (first | refine blk_drewN ?_ _ | refine blk_drew ?_ | refine blk_alloc ?_ _)); exact BK133.out) hb); have n1_ := Aside0.mk (below_step (by repeat (first | (with_reducible first | exact HB.out | apply below_alloc | apply pw_below_drewN | apply below_drew1 | refine below_set ?_ GE133.out) | exact HB.out)) hb); have n2_ := Aside0.mk (hbox); have n3_ := Aside0.mk ((by rw [hg]; exact (below_size (by repeat (first | (with_reducible first | exact HB.out | apply below_alloc | apply pw_below_drewN | apply below_drew1 | refine below_set ?_ GE133.out) | exact HB.out))) : w.heap.size ≤ gb134)); have n4_ := Aside0.mk ((by rw [hg]; exact (below_size (by repeat (first | (with_reducible first | exact HB.out | apply below_alloc | apply pw_below_drewN | apply below_drew1 | refine below_set ?_ GE133.out) | exact HB.out))) : w.heap.size ≤ gb134)); have n5_ := Aside0.mk ((by rw [hg]; exact Nat.ne_of_lt (blk_lt (g := gb133) (o := .cells #[.int .i64 a0_0, .int .i64 a0_1, .string a0_2] 23 (0, 0)) (by (with_reducible repeat (first | refine blk_drewN ?_ _ | refine blk_drew ?_ | refine blk_alloc ?_ _)); exact BK133.out)) : gb133 ≠ gb134)); have n6_ := Aside0.mk ((by rw [hg]; exact Nat.ne_of_gt (blk_lt (g := gb133) (o := .cells #[.int .i64 a0_0, .int .i64 a0_1, .string a0_2] 23 (0, 0)) (by (with_reducible repeat (first | refine blk_drewN ?_ _ | refine blk_drew ?_ | refine blk_alloc ?_ _)); exact BK133.out)) : gb134 ≠ gb133)); clear BK133; clear HB; have BK133 := n0_; have HB := n1_; have BK134 := n2_; have GW134 := n3_; have GE134 := n4_; have NB133_134 := n5_; have NB134_133 := n6_; clear n0_ n1_ n2_ n3_ n4_ n5_ n6_; clear hb hbox hg; have hnb6 := NB133_134.out; have hnc6 := NB134_133.out; have hcz7_0 : w5.cell? ⟨gb133, 0, none⟩ = some (.int .i64 a0_0) := (blk_cell BK133.out 0).trans rfl; have hcz7_1 : w5.cell? ⟨gb133, 1, none⟩ = some (.int .i64 a0_1) := (blk_cell BK133.out 1).trans rfl; have hcz7_2 : w5.cell? ⟨gb133, 2, none⟩ = some (.string a0_2) := (blk_cell BK133.out 2).trans rfl; have hfz7_0 := blk_frozen BK133.out 0; have hfz7_1 := blk_frozen BK133.out 1; have hfz7_2 := blk_frozen BK133.out 2; have hcz8_0 : w5.cell? ⟨gb134, 0, none⟩ = some (.int .i64 a1_0) := (blk_cell BK134.out 0).trans rfl; have hcz8_1 : w5.cell? ⟨gb134, 1, none⟩ = some (.int .i64 a1_1) := (blk_cell BK134.out 1).trans rfl; have hcz8_2 : w5.cell? ⟨gb134, 2, none⟩ = some (.string a1_2) := (blk_cell BK134.out 2).trans rfl; have hfz8_0 := blk_frozen BK134.out 0; have hfz8_1 := blk_frozen BK134.out 1; have hfz8_2 := blk_frozen BK134.out 2))
  go_ret
  exact ⟨by first | rfl | (simp [i64_w]; done) | (simp [errW_none, errW_some] <;> rfl) | (simp [*, errW_none, errW_some] <;> rfl), by repeat (first | (with_reducible first | exact HB.out | apply below_alloc | apply pw_below_drewN | apply below_drew1 | refine below_set ?_ GE133.out | refine below_set ?_ GE134.out) | exact HB.out)⟩
 ·rw [if_neg c3] at H
  have c3b0 : (a0_0 == a1_0) = false := beq_eq_false_iff_ne.mpr c3
  have c3b1 : (a0_0 != a1_0) = true := bne_iff_ne.mpr c3
  obtain rfl := Option.some.inj H
  go_enter Tryd.func54, Tryd.ntmps54
  go_wp2_with (first | ((with_reducible refine gate_dst (N := 2) rfl ?_); refine box_event ?hg (N := 2) ?hd (cs := #[.int .i64 a0_0, .int .i64 a0_1, .string a0_2]) (t := 23) ?hr ?_; (case hd => rfl); (case hg => rfl); (case hr => first | (go_simp; done) | (go_simp; rfl)); intro gb133 hg w9 hbox hb; have n0_ := Aside0.mk (below_step (by repeat (first | (with_reducible first | exact HB.out | apply below_alloc | apply pw_below_drewN | apply below_drew1) | exact HB.out)) hb); have n1_ := Aside0.mk (hbox); have n2_ := Aside0.mk ((by rw [hg]; exact (below_size (by repeat (first | (with_reducible first | exact HB.out | apply below_alloc | apply pw_below_drewN | apply below_drew1) | exact HB.out))) : w.heap.size ≤ gb133)); have n3_ := Aside0.mk ((by rw [hg]; exact (below_size (by repeat (first | (with_reducible first | exact HB.out | apply below_alloc | apply pw_below_drewN | apply below_drew1) | exact HB.out))) : w.heap.size ≤ gb133)); clear HB; have HB := n0_; have BK133 := n1_; have GW133 := n2_; have GE133 := n3_; clear n0_ n1_ n2_ n3_; clear hb hbox hg) | ((with_reducible refine gate_dst (N := 3) rfl ?_); refine box_event ?hg (N := 3) ?hd (cs := #[.int .i64 a1_0, .int .i64 a1_1, .string a1_2]) (t := 23) ?hr ?_; (case hd => rfl); (case hg => rfl); (case hr => first | (go_simp; done) | (go_simp; rfl)); intro gb134 hg w10 hbox hb; have n0_ := Aside0.mk (blk_below (g := gb133) (o := .cells #[.int .i64 a0_0, .int .i64 a0_1, .string a0_2] 23 (0, 0)) (by (with_reducible repeat (first | refine blk_drewN ?_ _ | refine blk_drew ?_ | refine blk_alloc ?_ _)); exact BK133.out) hb); have n1_ := Aside0.mk (below_step (by repeat (first | (with_reducible first | exact HB.out | apply below_alloc | apply pw_below_drewN | apply below_drew1 | refine below_set ?_ GE133.out) | exact HB.out)) hb); have n2_ := Aside0.mk (hbox); have n3_ := Aside0.mk ((by rw [hg]; exact (below_size (by repeat (first | (with_reducible first | exact HB.out | apply below_alloc | apply pw_below_drewN | apply below_drew1 | refine below_set ?_ GE133.out) | exact HB.out))) : w.heap.size ≤ gb134)); have n4_ := Aside0.mk ((by rw [hg]; exact (below_size (by repeat (first | (with_reducible first | exact HB.out | apply below_alloc | apply pw_below_drewN | apply below_drew1 | refine below_set ?_ GE133.out) | exact HB.out))) : w.heap.size ≤ gb134)); have n5_ := Aside0.mk ((by rw [hg]; exact Nat.ne_of_lt (blk_lt (g := gb133) (o := .cells #[.int .i64 a0_0, .int .i64 a0_1, .string a0_2] 23 (0, 0)) (by (with_reducible repeat (first | refine blk_drewN ?_ _ | refine blk_drew ?_ | refine blk_alloc ?_ _)); exact BK133.out)) : gb133 ≠ gb134)); have n6_ := Aside0.mk ((by rw [hg]; exact Nat.ne_of_gt (blk_lt (g := gb133) (o := .cells #[.int .i64 a0_0, .int .i64 a0_1, .string a0_2] 23 (0, 0)) (by (with_reducible repeat (first | refine blk_drewN ?_ _ | refine blk_drew ?_ | refine blk_alloc ?_ _)); exact BK133.out)) : gb134 ≠ gb133)); clear BK133; clear HB; have BK133 := n0_; have HB := n1_; have BK134 := n2_; have GW134 := n3_; have GE134 := n4_; have NB133_134 := n5_; have NB134_133 := n6_; clear n0_ n1_ n2_ n3_ n4_ n5_ n6_; clear hb hbox hg; have hnb11 := NB133_134.out; have hnc11 := NB134_133.out; have hcz12_0 : w10.cell? ⟨gb133, 0, none⟩ = some (.int .i64 a0_0) := (blk_cell BK133.out 0).trans rfl; have hcz12_1 : w10.cell? ⟨gb133, 1, none⟩ = some (.int .i64 a0_1) := (blk_cell BK133.out 1).trans rfl; have hcz12_2 : w10.cell? ⟨gb133, 2, none⟩ = some (.string a0_2) := (blk_cell BK133.out 2).trans rfl; have hfz12_0 := blk_frozen BK133.out 0; have hfz12_1 := blk_frozen BK133.out 1; have hfz12_2 := blk_frozen BK133.out 2; have hcz13_0 : w10.cell? ⟨gb134, 0, none⟩ = some (.int .i64 a1_0) := (blk_cell BK134.out 0).trans rfl; have hcz13_1 : w10.cell? ⟨gb134, 1, none⟩ = some (.int .i64 a1_1) := (blk_cell BK134.out 1).trans rfl; have hcz13_2 : w10.cell? ⟨gb134, 2, none⟩ = some (.string a1_2) := (blk_cell BK134.out 2).trans rfl; have hfz13_0 := blk_frozen BK134.out 0; have hfz13_1 := blk_frozen BK134.out 1; have hfz13_2 := blk_frozen BK134.out 2))
  go_ret
  exact ⟨by first | rfl | (simp [i64_w]; done) | (simp [errW_none, errW_some] <;> rfl) | (simp [*, errW_none, errW_some] <;> rfl), by repeat (first | (with_reducible first | exact HB.out | apply below_alloc | apply pw_below_drewN | apply below_drew1 | refine below_set ?_ GE133.out | refine below_set ?_ GE134.out) | exact HB.out)⟩

end Go.Proofs.YtddoidcbpcmlaaaDoor.M
/- set.Formed: the program's, walked. (By hand.) -/
namespace Go.Proofs.YtddoidcbpcmlaaaDoor.SetF
open Go.RowKit Go.Proofs.YtddoidcbpcmlaaaDoorW.PrintWords Go.Proofs.YtddoidcbpcmlaaaDoorW.PrintLast Go.Proofs.YtddoidcbpcmlaaaDoor.M Go.Proofs.YtddoidcbpcmlaaaDoor.Fr Go.Proofs.YtddoidcbpcmlaaaDoor.Ru
open Go.Proofs.YtddoidcbpcmlaaaDoor.LinC (twoB)
open Go.Proofs.YtddoidcbpcmlaaaDoor.SetC (range_of Sv Sp sagg OkS)
open Go.Proofs.YtddoidcbpcmlaaaDoor.RecG (frmB)
set_option linter.unusedVariables false
set_option linter.unusedSimpArgs false
abbrev TT := S23
/-- Is a time right? -/
def rtB (k a : Int) (s : ByteArray) : Bool := (value_RightTime.f k a s).getD false
theorem rtE (k a : Int) (s : ByteArray) (hs : s.size ≤ 9223372036854775807) : value_RightTime.f k a s = some (rtB k a s) ∧ ∀ q, 2 ≤ q → trystref12_RightTime.f q k a s = some (rtB k a s) := by
 obtain ⟨b, hb⟩ := Right.right_ k a s hs
 have e : rtB k a s = b := by unfold rtB; rw [(hb 2 (by omega)).1]; rfl
 rw [e]
 exact ⟨(hb 2 (by omega)).1, fun q hq => (hb q hq).2⟩
def alB (a b : TT) : Bool := decide (a.f0 = b.f0) && (a.f2.toList == b.f2.toList)
theorem alE (a b : TT) : set_Alike.f a.f0 a.f1 a.f2 b.f0 b.f1 b.f2 = some (alB a b) := by
 unfold set_Alike.f alB
 by_cases h : a.f0 = b.f0
 ·rw [if_pos h, decide_eq_true h]; rfl
 ·rw [if_neg h, decide_eq_false h]; rfl
def one (st t : TT) : Bool := rtB t.f0 t.f1 t.f2 && alB st t
def likeB (st : TT) (ts : List TT) : Bool := decide (ts.length ≤ 60) && ts.all (one st)
theorem like_no {st : TT} {ts : List TT} {i : Nat} (hi : i < ts.length) (h : one st ts[i] = false) : likeB st ts = false := by
 unfold likeB
 have : ts.all (one st) = false := by
  cases q : ts.all (one st) with
  | false => rfl
  | true => have := List.all_eq_true.1 q _ (List.getElem_mem hi); rw [h] at this; cases this
 rw [this, Bool.and_false]
set_option maxHeartbeats 4000000 in
set_option maxRecDepth 100000 in
theorem like (st : TT) (ts : List TT) (A : Option Addr) (c : Nat) (w : World) (hC : Kd.C k23 w A ts.length ts) (hz : ∀ t ∈ ts, t.f2.size ≤ 9223372036854775807) :
  Calls Tryd.prog 37 #[.agg #[.int .i64 st.f0, .int .i64 st.f1, .string st.f2], .slice A ts.length c] w fun e w' => e = .returned (.bool (likeB st ts)) ∧ Below w.heap.size w w' := by
 have HC := Aside0.mk hC; have HZ := Aside0.mk hz
 clear hC hz
 go_enter Tryd.func37, Tryd.ntmps37
 go_upto_region 1 with fail
 obtain ⟨w0, hw0, z0⟩ : ∃ w0, w0 = w.alloc (.cells #[.int .i64 st.f0, .int .i64 st.f1, .string st.f2] 23 (0, 0)) ∧ w0.heap[w.heap.size]? = some (.cells #[.int .i64 st.f0, .int .i64 st.f1, .string st.f2] 23 (0, 0)) ∧ Below w.heap.size w w0 := ⟨_, rfl, blk_new _ _, below_alloc (Below.refl _ _) _⟩
 have K1 := Aside0.mk z0.1; have HB := Aside0.mk z0.2
 rw [← hw0]
 clear hw0 z0
 by_cases c2 : (ts.length : Int) > 60
 ·have l2 := decide_eq_true c2
  have C2 := Aside0.mk c2
  clear c2
  go_wp2_with fail
  go_ret
  exact ⟨by unfold likeB; rw [decide_eq_false (show ¬ ts.length ≤ 60 by have := C2.out; omega)] <;> rfl, HB.out⟩
 have l2 := decide_eq_false c2
 have C2 := Aside0.mk c2
 clear c2
 go_wp2_with fail
 clear l2
 go_loopg [12] ts.length (fun kq v w' => ∃ (i : Nat) (X : Int), v = .int .i64 X ∧ Aside0 (X = (i : Int)) ∧ Aside0 (i + kq = ts.length) ∧ Aside0 (∀ j : Nat, j < i → ∀ h : j < ts.length, one st ts[j] = true) ∧ Aside0 (w'.heap[w.heap.size]? = some (.cells #[.int .i64 st.f0, .int .i64 st.f1, .string st.f2] 23 (0, 0))) ∧ Aside0 (Below w.heap.size w w'))
 case atStart => exact ⟨0, 0, rfl, ⟨rfl⟩, ⟨by omega⟩, ⟨fun j hj => by omega⟩, K1, HB⟩
 case round =>
  clear K1 HB
  obtain ⟨i, X, rfl, HX, HI, HU, K1, HB⟩ := hrel
  cases gk with
  | zero =>
   have l1 : decide (X < (ts.length : Int)) = false := decide_eq_false (by have := HX.out; have := HI.out; omega)
   go_wp2_with fail
   go_ret
   refine ⟨?_, HB.out⟩
   unfold likeB
   rw [decide_eq_true (show ts.length ≤ 60 by have := C2.out; omega), List.all_eq_true.2 (fun x hx => by
    obtain ⟨j, hj, rfl⟩ := List.getElem_of_mem hx
    exact HU.out j (by have := HI.out; omega) hj)] <;> rfl
  | succ k1 =>
   have hi : i < ts.length := by have := HI.out; omega
   have l1 : decide (X < (ts.length : Int)) = true := decide_eq_true (by have := HX.out; have := HI.out; omega)
   have nx : wrap64 (X + 1) = X + 1 := by have := HX.out; have := HI.out; have := C2.out; unfold wrap64; omega
   have p1 : 0 ≤ X := by have := HX.out; omega
   have q1 : X < (ts.length : Int) := by have := HX.out; omega
   obtain ⟨ad, rfl, y0, y1, y2⟩ := at_T23 (Kd.C_below HC.out HB.out) X p1 q1
   have hxi : rd_T23 ts X = ts[i] := by simp [rd_T23, HX.out, hi]
   have hsz := HZ.out _ (List.getElem_mem hi)
   rw [hxi] at y0 y1 y2
   obtain ⟨x, hx⟩ : ∃ x, ts[i] = x := ⟨_, rfl⟩
   have SE := Aside0.mk (show ∀ h : i < ts.length, ts[i] = x from fun _ => hx)
   rw [hx] at y0 y1 y2 hsz
   have SZ := Aside0.mk hsz; have HIL := Aside0.mk hi
   have x0 : wr.cell? ⟨w.heap.size, 0, none⟩ = some (.int .i64 st.f0) := (blk_cell K1.out 0).trans rfl
   have x1 : wr.cell? ⟨w.heap.size, 1, none⟩ = some (.int .i64 st.f1) := (blk_cell K1.out 1).trans rfl
   have x2 : wr.cell? ⟨w.heap.size, 2, none⟩ = some (.string st.f2) := (blk_cell K1.out 2).trans rfl
   replace p1 := eq_true p1; replace q1 := eq_true q1
   clear hsz hxi hx hi
   go_upto_region 6 with fail
   have hbq : Below wr.heap.size wr (wr.alloc (.cells #[.int .i64 x.f0, .int .i64 x.f1, .string x.f2] 23 (0, 0))) := below_alloc (Below.refl _ _) _
   have PB := Aside0.mk (blk_new wr (.cells #[.int .i64 x.f0, .int .i64 x.f1, .string x.f2] 23 (0, 0)))
   replace x0 := pw_cell_below hbq x0; replace x1 := pw_cell_below hbq x1; replace x2 := pw_cell_below hbq x2
   have HN := Aside0.mk hbq
   clear y0 y1 y2 hbq
   generalize wr.alloc (.cells #[.int .i64 x.f0, .int .i64 x.f1, .string x.f2] 23 (0, 0)) = wa at PB HN x0 x1 x2 ⊢
   have z0 : wa.cell? ⟨wr.heap.size, 0, none⟩ = some (.int .i64 x.f0) := (blk_cell PB.out 0).trans rfl
   have z1 : wa.cell? ⟨wr.heap.size, 1, none⟩ = some (.int .i64 x.f1) := (blk_cell PB.out 1).trans rfl
   have z2 : wa.cell? ⟨wr.heap.size, 2, none⟩ = some (.string x.f2) := (blk_cell PB.out 2).trans rfl
   go_wp2_with fail
   refine (value_RightTime.calls x.f0 x.f1 x.f2 _ wa (rtE x.f0 x.f1 x.f2 SZ.out).1).mono ?_
   rintro q w1 ⟨rfl, hb⟩
   replace z0 := pw_cell_below hb z0; replace z1 := pw_cell_below hb z1; replace z2 := pw_cell_below hb z2; replace x0 := pw_cell_below hb x0; replace x1 := pw_cell_below hb x1; replace x2 := pw_cell_below hb x2
   replace K1 := Aside0.mk (blk_below K1.out (show Below wr.heap.size wr w1 from below_then HN.out HN.out.size hb))
   replace HN := Aside0.mk (below_then HN.out HN.out.size hb)
   clear hb PB
   rcases hlb : rtB x.f0 x.f1 x.f2 with _ | _
   ·have PB := Aside0.mk hlb
    clear hlb
    go_wp2_with fail
    go_ret
    exact ⟨by rw [like_no HIL.out (by rw [SE.out]; unfold one; rw [PB.out]; rfl)] <;> rfl, below_then HB.out HB.out.size HN.out⟩
   have PB := Aside0.mk hlb
   clear hlb
   go_wp2_with fail
   refine (set_Alike.calls st.f0 st.f1 st.f2 x.f0 x.f1 x.f2 (alB st x) w1 (alE st x)).mono ?_
   rintro q w2 ⟨rfl, hb⟩
   replace K1 := Aside0.mk (blk_below K1.out hb)
   replace HN := Aside0.mk (below_then HN.out HN.out.size hb)
   clear hb z0 z1 z2 x0 x1 x2
   rcases hpr : alB st x with _ | _
   ·have DV := Aside0.mk hpr
    clear hpr
    go_wp2_with fail
    go_ret
    exact ⟨by rw [like_no HIL.out (by rw [SE.out]; unfold one; rw [PB.out, DV.out]; rfl)] <;> rfl, below_then HB.out HB.out.size HN.out⟩
   ·have DV := Aside0.mk hpr
    clear hpr
    go_wp2_with fail
    go_roundg k1
    case measure => omega
    case rel =>
     refine ⟨i + 1, X + 1, by simp [nx], ⟨by have := HX.out; push_cast; omega⟩, ⟨by have := HI.out; omega⟩, ⟨fun j hj h => ?_⟩, K1, ⟨below_then HB.out HB.out.size HN.out⟩⟩
     by_cases e : j = i
     ·subst e
      rw [SE.out h]
      unfold one
      rw [PB.out, DV.out]
      rfl
     ·exact HU.out j (by omega) h
/-- Does a rule's end fit a start? -/
def knd (z : Int) : Int := if z = 3 then 2 else z
def untB (s : TT) (r : Ru) : Bool := !r.a6 || r.a3 == knd s.f0
set_option maxHeartbeats 4000000 in
set_option maxRecDepth 100000 in
theorem until_ (s : TT) (r : Ru) (p : Rp) (w : World) :
  Calls Tryd.prog 39 #[.agg #[.int .i64 s.f0, .int .i64 s.f1, .string s.f2], .agg (agg r p)] w fun e w' => e = .returned (.bool (untB s r)) ∧ Below w.heap.size w w' := by
 go_enter Tryd.func39, Tryd.ntmps39
 go_upto_region 1 with fail
 obtain ⟨w0, hw0, z0, q1, q2, qb⟩ := twoB w (.cells #[.int .i64 s.f0, .int .i64 s.f1, .string s.f2] 23 (0, 0)) (obj r p)
 rw [← hw0]
 clear hw0
 have HB := Aside0.mk qb
 have x0 : w0.cell? ⟨w.heap.size, 0, none⟩ = some (.int .i64 s.f0) := (blk_cell q1 0).trans rfl
 have y3 : w0.cell? ⟨w.heap.size + 1, 3, none⟩ = some (.int .i64 r.a3) := (blk_cell q2 3).trans rfl
 have y6 : w0.cell? ⟨w.heap.size + 1, 6, none⟩ = some (.bool r.a6) := (blk_cell q2 6).trans rfl
 clear z0 q1 q2 qb
 by_cases c : s.f0 = 3
 ·have c0 : (s.f0 == 3) = true := by simp [c]
  have KN := Aside0.mk (show knd s.f0 = 2 from if_pos c)
  clear c
  rcases h6 : r.a6 with _ | _
  ·rw [h6] at y6
   have H6 := Aside0.mk h6
   clear h6
   go_wp2_with fail
   go_ret
   exact ⟨by unfold untB; rw [H6.out] <;> rfl, HB.out⟩
  ·rw [h6] at y6
   have H6 := Aside0.mk h6
   clear h6
   go_wp2_with fail
   go_ret
   exact ⟨by unfold untB; rw [H6.out, KN.out] <;> rfl, HB.out⟩
 ·have c0 : (s.f0 == 3) = false := by simpa using c
  have KN := Aside0.mk (show knd s.f0 = s.f0 from if_neg c)
  clear c
  rcases h6 : r.a6 with _ | _
  ·rw [h6] at y6
   have H6 := Aside0.mk h6
   clear h6
   go_wp2_with fail
   go_ret
   exact ⟨by unfold untB; rw [H6.out] <;> rfl, HB.out⟩
  ·rw [h6] at y6
   have H6 := Aside0.mk h6
   clear h6
   go_wp2_with fail
   go_ret
   exact ⟨by unfold untB; rw [H6.out, KN.out] <;> rfl, HB.out⟩
/-! set.Formed -/
def tm (r : Ru) : Nat := r.l10.length + r.l9.length + r.l8.length
def ruB (v : Sv) : Bool := frmB v.r (rtB v.r.a3 v.r.a4 v.r.a5) && (untB v.s v.r && (decide (v.s.f0 ≠ 0) || decide (tm v.r = 0)))
def setB (v : Sv) : Bool := rtB v.s.f0 v.s.f1 v.s.f2 && (likeB v.s v.ds && (likeB v.s v.bs && (!v.again || ruB v)))
/-- The sizes of a set's texts. -/
def Sz (v : Sv) : Prop := v.s.f2.size ≤ 9223372036854775807 ∧ (∀ t ∈ v.ds, t.f2.size ≤ 9223372036854775807) ∧ (∀ t ∈ v.bs, t.f2.size ≤ 9223372036854775807) ∧ v.r.a5.size ≤ 9223372036854775807 ∧ tm v.r ≤ 3000000
theorem tm_w {r : Ru} (h : tm r ≤ 3000000) : wrap64 (wrap64 ((r.l10.length : Int) + (r.l9.length : Int)) + (r.l8.length : Int)) = (tm r : Int) := by
 unfold tm at h ⊢
 have e : wrap64 ((r.l10.length : Int) + (r.l9.length : Int)) = (r.l10.length : Int) + (r.l9.length : Int) := by unfold wrap64; omega
 rw [e]
 unfold wrap64
 omega
set_option maxHeartbeats 4000000 in
set_option maxRecDepth 100000 in
theorem formed (v : Sv) (p : Sp) (w : World) (ok : OkS v p w) (hz : Sz v) :
  Calls Tryd.prog 15 #[.agg (sagg v p)] w fun e w' => e = .returned (.bool (setB v)) ∧ Below w.heap.size w w' := by
 have OK := Aside0.mk ok; have HZ := Aside0.mk hz
 clear ok hz
 go_enter Tryd.func15, Tryd.ntmps15
 go_upto_region 1 with fail
 obtain ⟨w0, hw0, z0⟩ : ∃ w0, w0 = w.alloc (.cells (sagg v p) 38 (0, 0)) ∧ w0.heap[w.heap.size]? = some (.cells (sagg v p) 38 (0, 0)) ∧ Below w.heap.size w w0 := ⟨_, rfl, blk_new _ _, below_alloc (Below.refl _ _) _⟩
 have K1 := Aside0.mk z0.1; have HB := Aside0.mk z0.2
 rw [← hw0]
 clear hw0 z0
 have x0 : w0.cell? ⟨w.heap.size, 0, none⟩ = some (.int .i64 v.s.f0) := (blk_cell K1.out 0).trans rfl
 have x1 : w0.cell? ⟨w.heap.size, 1, none⟩ = some (.int .i64 v.s.f1) := (blk_cell K1.out 1).trans rfl
 have x2 : w0.cell? ⟨w.heap.size, 2, none⟩ = some (.string v.s.f2) := (blk_cell K1.out 2).trans rfl
 have x3 : w0.cell? ⟨w.heap.size, 3, none⟩ = some (.bool v.again) := (blk_cell K1.out 3).trans rfl
 have x21 : w0.cell? ⟨w.heap.size, 21, none⟩ = some (.slice p.Ad v.ds.length p.cd) := (blk_cell K1.out 21).trans rfl
 have x22 : w0.cell? ⟨w.heap.size, 22, none⟩ = some (.slice p.Ab v.bs.length p.cb) := (blk_cell K1.out 22).trans rfl
 go_wp2_with fail
 refine (value_RightTime.calls v.s.f0 v.s.f1 v.s.f2 _ w0 (rtE _ _ _ HZ.out.1).1).mono ?_
 rintro q w1 ⟨rfl, hb⟩
 replace K1 := Aside0.mk (blk_below K1.out hb); replace HB := Aside0.mk (below_then HB.out HB.out.size hb)
 replace x0 := pw_cell_below hb x0; replace x1 := pw_cell_below hb x1; replace x2 := pw_cell_below hb x2; replace x3 := pw_cell_below hb x3; replace x21 := pw_cell_below hb x21; replace x22 := pw_cell_below hb x22
 clear hb
 rcases h1 : rtB v.s.f0 v.s.f1 v.s.f2 with _ | _
 ·have H1 := Aside0.mk h1
  clear h1
  go_wp2_with fail
  go_ret
  exact ⟨by unfold setB; rw [H1.out] <;> rfl, HB.out⟩
 have H1 := Aside0.mk h1
 clear h1
 go_wp2_with fail
 refine (like v.s v.ds p.Ad p.cd w1 (OK.out.below HB.out).hd HZ.out.2.1).mono ?_
 rintro q w2 ⟨rfl, hb⟩
 replace K1 := Aside0.mk (blk_below K1.out hb); replace HB := Aside0.mk (below_then HB.out HB.out.size hb)
 replace x0 := pw_cell_below hb x0; replace x1 := pw_cell_below hb x1; replace x2 := pw_cell_below hb x2; replace x3 := pw_cell_below hb x3; replace x22 := pw_cell_below hb x22
 clear hb x21
 rcases h1 : likeB v.s v.ds with _ | _
 ·have H2 := Aside0.mk h1
  clear h1
  go_wp2_with fail
  go_ret
  exact ⟨by unfold setB; rw [H1.out, H2.out] <;> rfl, HB.out⟩
 have H2 := Aside0.mk h1
 clear h1
 go_wp2_with fail
 refine (like v.s v.bs p.Ab p.cb w2 (OK.out.below HB.out).hb HZ.out.2.2.1).mono ?_
 rintro q w3 ⟨rfl, hb⟩
 replace K1 := Aside0.mk (blk_below K1.out hb); replace HB := Aside0.mk (below_then HB.out HB.out.size hb)
 replace x0 := pw_cell_below hb x0; replace x1 := pw_cell_below hb x1; replace x2 := pw_cell_below hb x2; replace x3 := pw_cell_below hb x3
 clear hb x22
 rcases h1 : likeB v.s v.bs with _ | _
 ·have H3 := Aside0.mk h1
  clear h1
  go_wp2_with fail
  go_ret
  exact ⟨by unfold setB; rw [H1.out, H2.out, H3.out] <;> rfl, HB.out⟩
 have H3 := Aside0.mk h1
 clear h1
 rcases h1 : v.again with _ | _
 ·rw [h1] at x3
  have H4 := Aside0.mk h1
  clear h1
  go_wp2_with fail
  go_ret
  exact ⟨by unfold setB; rw [H1.out, H2.out, H3.out, H4.out] <;> rfl, HB.out⟩
 rw [h1] at x3
 have H4 := Aside0.mk h1
 clear h1
 have x12 : w3.cell? ⟨w.heap.size, 12, none⟩ = some (.slice p.p.A8 v.r.l8.length p.p.c8) := (blk_cell K1.out 12).trans rfl
 have x13 : w3.cell? ⟨w.heap.size, 13, none⟩ = some (.slice p.p.A9 v.r.l9.length p.p.c9) := (blk_cell K1.out 13).trans rfl
 have x14 : w3.cell? ⟨w.heap.size, 14, none⟩ = some (.slice p.p.A10 v.r.l10.length p.p.c10) := (blk_cell K1.out 14).trans rfl
 go_wp2_with ((with_reducible refine gate_ (.load 27 (.tmp 41)) rfl ?_); (try (refine gate_guard (by rfl) ?_; dsimp only)); refine wpList_load_mid rfl 27 (.tmp 41) rfl w.heap.size 4 rfl (agg v.r p.p).toList _ (range_of K1.out 4 _ _ rfl) Tryd.underlying27 rfl RecC.sz17 ?_)
 refine (RecG.formed v.r p.p 50 (Nat.le_refl _) _ (rtE _ _ _ HZ.out.2.2.2.1).1 w3 (OK.out.below HB.out).o).mono ?_
 rintro q w4 ⟨rfl, hb⟩
 replace K1 := Aside0.mk (blk_below K1.out hb); replace HB := Aside0.mk (below_then HB.out HB.out.size hb)
 replace x0 := pw_cell_below hb x0; replace x1 := pw_cell_below hb x1; replace x2 := pw_cell_below hb x2
 clear hb x12 x13 x14 x3
 have TM := Aside0.mk (tm_w HZ.out.2.2.2.2)
 generalize wrap64 (wrap64 ((v.r.l10.length : Int) + (v.r.l9.length : Int)) + (v.r.l8.length : Int)) = T at TM ⊢
 rcases h1 : frmB v.r (rtB v.r.a3 v.r.a4 v.r.a5) with _ | _
 ·have H5 := Aside0.mk h1
  clear h1
  go_wp2_with fail
  go_ret
  exact ⟨by unfold setB ruB; rw [H1.out, H2.out, H3.out, H4.out, H5.out] <;> rfl, HB.out⟩
 have H5 := Aside0.mk h1
 clear h1
 go_wp2_with ((with_reducible refine gate_ (.load 27 (.tmp 47)) rfl ?_); (try (refine gate_guard (by rfl) ?_; dsimp only)); refine wpList_load_mid rfl 27 (.tmp 47) rfl w.heap.size 4 rfl (agg v.r p.p).toList _ (range_of K1.out 4 _ _ rfl) Tryd.underlying27 rfl RecC.sz17 ?_)
 refine (until_ v.s v.r p.p w4).mono ?_
 rintro q w5 ⟨rfl, hb⟩
 replace HB := Aside0.mk (below_then HB.out HB.out.size hb)
 replace x0 := pw_cell_below hb x0
 clear hb x1 x2
 rcases h1 : untB v.s v.r with _ | _
 ·have H6 := Aside0.mk h1
  clear h1
  go_wp2_with fail
  go_ret
  exact ⟨by unfold setB ruB; rw [H1.out, H2.out, H3.out, H4.out, H5.out, H6.out] <;> rfl, HB.out⟩
 have H6 := Aside0.mk h1
 clear h1
 by_cases c : v.s.f0 = 0
 ·have c0 : (v.s.f0 != 0) = false := by simp [c]
  have C := Aside0.mk (show decide (v.s.f0 ≠ 0) = false from decide_eq_false (by simpa using c))
  clear c
  by_cases c1 : T = 0
  ·have c2 : (T == 0) = true := by simp [c1]
   have C1 := Aside0.mk (show decide (tm v.r = 0) = true from decide_eq_true (by have := TM.out; omega))
   clear c1
   go_wp2_with fail
   go_ret
   exact ⟨by unfold setB ruB; rw [H1.out, H2.out, H3.out, H4.out, H5.out, H6.out, C.out, C1.out] <;> rfl, HB.out⟩
  ·have c2 : (T == 0) = false := by simpa using c1
   have C1 := Aside0.mk (show decide (tm v.r = 0) = false from decide_eq_false (by have := TM.out; omega))
   clear c1
   go_wp2_with fail
   go_ret
   exact ⟨by unfold setB ruB; rw [H1.out, H2.out, H3.out, H4.out, H5.out, H6.out, C.out, C1.out] <;> rfl, HB.out⟩
 ·have c0 : (v.s.f0 != 0) = true := by simpa using c
  have C := Aside0.mk (show decide (v.s.f0 ≠ 0) = true from decide_eq_true c)
  clear c
  go_wp2_with fail
  go_ret
  exact ⟨by unfold setB ruB; rw [H1.out, H2.out, H3.out, H4.out, H5.out, H6.out, C.out] <;> rfl, HB.out⟩
end Go.Proofs.YtddoidcbpcmlaaaDoor.SetF
/- event.unused, event.length, event.part walked. (Written by gen_unf.py.) -/
namespace Go.Proofs.YtddoidcbpcmlaaaDoor.UnF
open Go.RowKit Go.Proofs.YtddoidcbpcmlaaaDoorW.PrintWords Go.Proofs.YtddoidcbpcmlaaaDoorW.PrintLast Go.Proofs.YtddoidcbpcmlaaaDoor.M Go.Proofs.YtddoidcbpcmlaaaDoor.Fr Go.Proofs.YtddoidcbpcmlaaaDoor.Ru
open Go.Proofs.YtddoidcbpcmlaaaDoor.SetC (range_of Sv Sp sagg OkS oneR)
open Go.Proofs.YtddoidcbpcmlaaaDoor.EvC (Ev Ep eagg)
open Go.Proofs.YtddoidcbpcmlaaaDoor.SetF (rtB rtE)
set_option linter.unusedVariables false
set_option linter.unusedSimpArgs false
/-- Is a time zero? -/
def zT (a b : Int) (c : ByteArray) : Bool := a == 0 && (b == 0 && (c.toList == ([] : List UInt8)))
def ls (r : Ru) : Nat := r.l8.length + r.l9.length + r.l10.length + r.l11.length + r.l12.length + r.l13.length + r.l14.length + r.l15.length + r.l16.length
def ruleZ (r : Ru) : Bool := r.a0 == 0 && (r.a1 == 0 && (r.a2 == 0 && (zT r.a3 r.a4 r.a5 && (!r.a6 && (r.a7 == 0 && decide (ls r = 0))))))
def unB (v : Sv) : Bool := v.again || ruleZ v.r
theorem w2 (a b : Nat) (h : a + b ≤ 10000000) : wrap64 ((a : Int) + (b : Int)) = ((a + b : Nat) : Int) := by unfold wrap64; omega
theorem ls_w {r : Ru} (h : ls r ≤ 10000000) : wrap64 (wrap64 (wrap64 (wrap64 (wrap64 (wrap64 (wrap64 (wrap64 ((r.l8.length : Int) + (r.l9.length : Int)) + (r.l10.length : Int)) + (r.l11.length : Int)) + (r.l12.length : Int)) + (r.l13.length : Int)) + (r.l14.length : Int)) + (r.l15.length : Int)) + (r.l16.length : Int)) = (ls r : Int) := by
 unfold ls at h ⊢
 rw [w2 r.l8.length r.l9.length (by omega), w2 (r.l8.length + r.l9.length) r.l10.length (by omega), w2 (r.l8.length + r.l9.length + r.l10.length) r.l11.length (by omega), w2 (r.l8.length + r.l9.length + r.l10.length + r.l11.length) r.l12.length (by omega), w2 (r.l8.length + r.l9.length + r.l10.length + r.l11.length + r.l12.length) r.l13.length (by omega), w2 (r.l8.length + r.l9.length + r.l10.length + r.l11.length + r.l12.length + r.l13.length) r.l14.length (by omega), w2 (r.l8.length + r.l9.length + r.l10.length + r.l11.length + r.l12.length + r.l13.length + r.l14.length) r.l15.length (by omega), w2 (r.l8.length + r.l9.length + r.l10.length + r.l11.length + r.l12.length + r.l13.length + r.l14.length + r.l15.length) r.l16.length (by omega)]
abbrev zr : Array Value := #[.int .i64 0, .int .i64 0, .int .i64 0, .int .i64 0, .int .i64 0, .string ⟨#[]⟩, .bool false, .int .i64 0, .slice none 0 0, .slice none 0 0, .slice none 0 0, .slice none 0 0, .slice none 0 0, .slice none 0 0, .slice none 0 0, .slice none 0 0, .slice none 0 0]
set_option maxHeartbeats 4000000 in
set_option maxRecDepth 100000 in
theorem unused (v : Sv) (p : Sp) (w : World) (hz : ls v.r ≤ 10000000) :
  Calls Tryd.prog 16 #[.agg (sagg v p)] w fun e w' => e = .returned (.bool (unB v)) ∧ Below w.heap.size w w' := by
 have HZ := Aside0.mk hz
 clear hz
 go_enter Tryd.func16, Tryd.ntmps16
 go_upto_region 1 with fail
 obtain ⟨w0, hw0, z0⟩ : ∃ w0, w0 = w.alloc (.cells (sagg v p) 38 (0, 0)) ∧ w0.heap[w.heap.size]? = some (.cells (sagg v p) 38 (0, 0)) ∧ Below w.heap.size w w0 := ⟨_, rfl, blk_new _ _, below_alloc (Below.refl _ _) _⟩
 have K1 := Aside0.mk z0.1; have HB := Aside0.mk z0.2
 rw [← hw0]
 clear hw0 z0
 go_upto_region 2 with (first | ((with_reducible refine gate_ (.load 27 (.tmp 5)) rfl ?_); (try (refine gate_guard (by rfl) ?_; dsimp only)); refine wpList_load_mid rfl 27 (.tmp 5) rfl w.heap.size 4 rfl (agg v.r p.p).toList _ (range_of K1.out 4 _ _ rfl) Tryd.underlying27 rfl RecC.sz17 ?_) | ((with_reducible refine gate_ (.store 27 (.tmp 3) (.tmp 6)) rfl ?_); (try (refine gate_guard (by rfl) ?_; dsimp only)); refine wpList_store_row rfl 27 (.tmp 3) (.tmp 6) rfl w0.heap.size (agg v.r p.p) rfl rfl 27 zr (blk_new _ _) RecC.sz17 rfl (oneR _ _) ?_))
 have Q1 := Aside0.mk (setRow_heap (w0.alloc (.cells zr 27 (0, 0))) w0.heap.size _ (agg v.r p.p) _ _ (blk_new _ _))
 have LK := Aside0.mk (blk_lt K1.out)
 have x3 : ((w0.alloc (.cells zr 27 (0, 0))).setRow w0.heap.size (agg v.r p.p)).cell? ⟨w.heap.size, 3, none⟩ = some (.bool v.again) := (blk_cell ((setRow_other (w0.alloc (.cells zr 27 (0, 0))) w0.heap.size _ (agg v.r p.p) (show w.heap.size ≠ w0.heap.size by have := LK.out; omega)).trans (blk_alloc K1.out _)) 3).trans rfl
 have HB2 : Below w.heap.size w ((w0.alloc (.cells zr 27 (0, 0))).setRow w0.heap.size (agg v.r p.p)) := by
  have h := below_alloc HB.out (.cells zr 27 (0, 0))
  have l := HB.out.size
  exact ⟨h.os, h.tape, h.output, by rw [setRow_size]; exact h.size, fun k hk => (setRow_other _ _ _ _ (by omega)).trans (h.block k hk)⟩
 replace HB := Aside0.mk HB2
 clear HB2 LK
 obtain ⟨g, hg⟩ : ∃ g, w0.heap.size = g := ⟨_, rfl⟩
 generalize (w0.alloc (.cells zr 27 (0, 0))).setRow w0.heap.size (agg v.r p.p) = w1 at Q1 x3 HB ⊢
 rw [hg] at Q1 ⊢
 clear hg K1
 clear w0
 obtain ⟨y0, y1, y2, y3, y4, y5, y6, y7, y8, y9, y10, y11, y12, y13, y14, y15, y16⟩ := Ru.cells Q1.out
 have TM := Aside0.mk (ls_w HZ.out)
 go_upto_region 3 with fail
 obtain ⟨T, hT⟩ : ∃ T, wrap64 (wrap64 (wrap64 (wrap64 (wrap64 (wrap64 (wrap64 (wrap64 ((v.r.l8.length : Int) + (v.r.l9.length : Int)) + (v.r.l10.length : Int)) + (v.r.l11.length : Int)) + (v.r.l12.length : Int)) + (v.r.l13.length : Int)) + (v.r.l14.length : Int)) + (v.r.l15.length : Int)) + (v.r.l16.length : Int)) = T := ⟨_, rfl⟩
 have TM2 := Aside0.mk (show T = (ls v.r : Int) from hT.symm.trans TM.out)
 rw [hT]
 clear hT TM y8 y9 y10 y11 y12 y13 y14 y15 y16
 rcases h1 : v.again with _ | _
 rotate_left
 ·rw [h1] at x3
  have H1 := Aside0.mk h1
  clear h1
  go_wp2_with fail
  go_ret
  exact ⟨by unfold unB; rw [H1.out] <;> rfl, HB.out⟩
 rw [h1] at x3
 have H1 := Aside0.mk h1
 clear h1
 rcases e0 : (v.r.a0 == 0) with _ | _
 ·have E0 := Aside0.mk e0
  go_wp2_with fail
  go_ret
  exact ⟨by unfold unB ruleZ zT; rw [H1.out, E0.out] <;> rfl, HB.out⟩
 have E0 := Aside0.mk e0
 rcases e1 : (v.r.a1 == 0) with _ | _
 ·have E1 := Aside0.mk e1
  go_wp2_with fail
  go_ret
  exact ⟨by unfold unB ruleZ zT; rw [H1.out, E0.out, E1.out] <;> rfl, HB.out⟩
 have E1 := Aside0.mk e1
 rcases e2 : (v.r.a2 == 0) with _ | _
 ·have E2 := Aside0.mk e2
  go_wp2_with fail
  go_ret
  exact ⟨by unfold unB ruleZ zT; rw [H1.out, E0.out, E1.out, E2.out] <;> rfl, HB.out⟩
 have E2 := Aside0.mk e2
 rcases e3 : (v.r.a3 == 0) with _ | _
 ·have E3 := Aside0.mk e3
  go_wp2_with fail
  go_ret
  exact ⟨by unfold unB ruleZ zT; rw [H1.out, E0.out, E1.out, E2.out, E3.out] <;> rfl, HB.out⟩
 have E3 := Aside0.mk e3
 rcases e4 : (v.r.a4 == 0) with _ | _
 ·have E4 := Aside0.mk e4
  go_wp2_with fail
  go_ret
  exact ⟨by unfold unB ruleZ zT; rw [H1.out, E0.out, E1.out, E2.out, E3.out, E4.out] <;> rfl, HB.out⟩
 have E4 := Aside0.mk e4
 rcases e5 : (v.r.a5.toList == ([] : List UInt8)) with _ | _
 ·have E5 := Aside0.mk e5
  go_wp2_with fail
  go_ret
  exact ⟨by unfold unB ruleZ zT; rw [H1.out, E0.out, E1.out, E2.out, E3.out, E4.out, E5.out] <;> rfl, HB.out⟩
 have E5 := Aside0.mk e5
 rcases e6 : v.r.a6 with _ | _
 rotate_left
 ·rw [e6] at y6
  have E6 := Aside0.mk e6
  clear e6
  go_wp2_with fail
  go_ret
  exact ⟨by unfold unB ruleZ zT; rw [H1.out, E0.out, E1.out, E2.out, E3.out, E4.out, E5.out, E6.out] <;> rfl, HB.out⟩
 rw [e6] at y6
 have E6 := Aside0.mk e6
 clear e6
 rcases e7 : (v.r.a7 == 0) with _ | _
 ·have E7 := Aside0.mk e7
  go_wp2_with fail
  go_ret
  exact ⟨by unfold unB ruleZ zT; rw [H1.out, E0.out, E1.out, E2.out, E3.out, E4.out, E5.out, E6.out, E7.out] <;> rfl, HB.out⟩
 have E7 := Aside0.mk e7
 by_cases c : T = 0
 ·have c2 : (T == 0) = true := by simp [c]
  have E8 := Aside0.mk (show decide (ls v.r = 0) = true from decide_eq_true (by have := TM2.out; omega))
  clear c
  go_wp2_with fail
  go_ret
  exact ⟨by unfold unB ruleZ zT; rw [H1.out, E0.out, E1.out, E2.out, E3.out, E4.out, E5.out, E6.out, E7.out, E8.out] <;> rfl, HB.out⟩
 ·have c2 : (T == 0) = false := by simpa using c
  have E8 := Aside0.mk (show decide (ls v.r = 0) = false from decide_eq_false (by have := TM2.out; omega))
  clear c
  go_wp2_with fail
  go_ret
  exact ⟨by unfold unB ruleZ zT; rw [H1.out, E0.out, E1.out, E2.out, E3.out, E4.out, E5.out, E6.out, E7.out, E8.out] <;> rfl, HB.out⟩
def lenB (v : Ev) : Bool := decide (v.len ≥ 0) && (decide (v.len ≤ 10000000000) && ((v.set.s.f0 != 0) || (Int.tmod v.len 86400 == 0)))
set_option maxHeartbeats 4000000 in
set_option maxRecDepth 100000 in
theorem length_ (v : Ev) (p : Ep) (w : World) :
  Calls Tryd.prog 17 #[.agg (eagg v p)] w fun e w' => e = .returned (.bool (lenB v)) ∧ Below w.heap.size w w' := by
 go_enter Tryd.func17, Tryd.ntmps17
 go_upto_region 1 with fail
 obtain ⟨w0, hw0, z0⟩ : ∃ w0, w0 = w.alloc (.cells (eagg v p) 41 (0, 0)) ∧ w0.heap[w.heap.size]? = some (.cells (eagg v p) 41 (0, 0)) ∧ Below w.heap.size w w0 := ⟨_, rfl, blk_new _ _, below_alloc (Below.refl _ _) _⟩
 have K1 := Aside0.mk z0.1; have HB := Aside0.mk z0.2
 rw [← hw0]
 clear hw0 z0
 have x3 : w0.cell? ⟨w.heap.size, 3, none⟩ = some (.int .i64 v.set.s.f0) := (blk_cell K1.out 3).trans rfl
 have x26 : w0.cell? ⟨w.heap.size, 26, none⟩ = some (.int .i64 v.len) := (blk_cell K1.out 26).trans rfl
 rcases e0 : decide (v.len ≥ 0) with _ | _
 ·have E0 := Aside0.mk e0
  go_wp2_with fail
  go_ret
  exact ⟨by unfold lenB; rw [E0.out] <;> rfl, HB.out⟩
 have E0 := Aside0.mk e0
 rcases e1 : decide (v.len ≤ 10000000000) with _ | _
 ·have E1 := Aside0.mk e1
  go_wp2_with fail
  go_ret
  exact ⟨by unfold lenB; rw [E0.out, E1.out] <;> rfl, HB.out⟩
 have E1 := Aside0.mk e1
 rcases e2 : (v.set.s.f0 != 0) with _ | _
 rotate_left
 ·have E2 := Aside0.mk e2
  go_wp2_with fail
  go_ret
  exact ⟨by unfold lenB; rw [E0.out, E1.out, E2.out] <;> rfl, HB.out⟩
 have E2 := Aside0.mk e2
 rcases e3 : (Int.tmod v.len 86400 == 0) with _ | _
 ·have E3 := Aside0.mk e3
  go_wp2_with fail
  go_ret
  exact ⟨by unfold lenB; rw [E0.out, E1.out, E2.out, E3.out] <;> rfl, HB.out⟩
 ·have E3 := Aside0.mk e3
  go_wp2_with fail
  go_ret
  exact ⟨by unfold lenB; rw [E0.out, E1.out, E2.out, E3.out] <;> rfl, HB.out⟩
def partB (v : Ev) : Bool := if v.is = true then rtB v.part.f0 v.part.f1 v.part.f2 && (!v.set.again && (((v.set.ds.length : Int) == 0) && ((v.set.bs.length : Int) == 0))) else !v.fut && zT v.part.f0 v.part.f1 v.part.f2
set_option maxHeartbeats 4000000 in
set_option maxRecDepth 100000 in
theorem part_ (v : Ev) (p : Ep) (w : World) (hz : v.part.f2.size ≤ 9223372036854775807) :
  Calls Tryd.prog 20 #[.agg (eagg v p)] w fun e w' => e = .returned (.bool (partB v)) ∧ Below w.heap.size w w' := by
 have HZ := Aside0.mk hz
 clear hz
 go_enter Tryd.func20, Tryd.ntmps20
 go_upto_region 1 with fail
 obtain ⟨w0, hw0, z0⟩ : ∃ w0, w0 = w.alloc (.cells (eagg v p) 41 (0, 0)) ∧ w0.heap[w.heap.size]? = some (.cells (eagg v p) 41 (0, 0)) ∧ Below w.heap.size w w0 := ⟨_, rfl, blk_new _ _, below_alloc (Below.refl _ _) _⟩
 have K1 := Aside0.mk z0.1; have HB := Aside0.mk z0.2
 rw [← hw0]
 clear hw0 z0
 have x6 : w0.cell? ⟨w.heap.size, 6, none⟩ = some (.bool v.set.again) := (blk_cell K1.out 6).trans rfl
 have x24 : w0.cell? ⟨w.heap.size, 24, none⟩ = some (.slice p.sp.Ad v.set.ds.length p.sp.cd) := (blk_cell K1.out 24).trans rfl
 have x25 : w0.cell? ⟨w.heap.size, 25, none⟩ = some (.slice p.sp.Ab v.set.bs.length p.sp.cb) := (blk_cell K1.out 25).trans rfl
 have x32 : w0.cell? ⟨w.heap.size, 32, none⟩ = some (.bool v.is) := (blk_cell K1.out 32).trans rfl
 have x33 : w0.cell? ⟨w.heap.size, 33, none⟩ = some (.int .i64 v.part.f0) := (blk_cell K1.out 33).trans rfl
 have x34 : w0.cell? ⟨w.heap.size, 34, none⟩ = some (.int .i64 v.part.f1) := (blk_cell K1.out 34).trans rfl
 have x35 : w0.cell? ⟨w.heap.size, 35, none⟩ = some (.string v.part.f2) := (blk_cell K1.out 35).trans rfl
 have x36 : w0.cell? ⟨w.heap.size, 36, none⟩ = some (.bool v.fut) := (blk_cell K1.out 36).trans rfl
 rcases h1 : v.is with _ | _
 ·rw [h1] at x32
  have H1 := Aside0.mk h1
  clear h1
  rcases h2 : v.fut with _ | _
  rotate_left
  ·rw [h2] at x36
   have H2 := Aside0.mk h2
   clear h2
   go_wp2_with fail
   go_ret
   exact ⟨by unfold partB; rw [H1.out, H2.out] <;> rfl, HB.out⟩
  rw [h2] at x36
  have H2 := Aside0.mk h2
  clear h2
  rcases e3 : (v.part.f0 == 0) with _ | _
  ·have E3 := Aside0.mk e3
   go_wp2_with fail
   go_ret
   exact ⟨by unfold partB zT; rw [H1.out, H2.out, E3.out] <;> rfl, HB.out⟩
  have E3 := Aside0.mk e3
  rcases e4 : (v.part.f1 == 0) with _ | _
  ·have E4 := Aside0.mk e4
   go_wp2_with fail
   go_ret
   exact ⟨by unfold partB zT; rw [H1.out, H2.out, E3.out, E4.out] <;> rfl, HB.out⟩
  have E4 := Aside0.mk e4
  rcases e5 : (v.part.f2.toList == ([] : List UInt8)) with _ | _
  ·have E5 := Aside0.mk e5
   go_wp2_with fail
   go_ret
   exact ⟨by unfold partB zT; rw [H1.out, H2.out, E3.out, E4.out, E5.out] <;> rfl, HB.out⟩
  ·have E5 := Aside0.mk e5
   go_wp2_with fail
   go_ret
   exact ⟨by unfold partB zT; rw [H1.out, H2.out, E3.out, E4.out, E5.out] <;> rfl, HB.out⟩
 ·rw [h1] at x32
  have H1 := Aside0.mk h1
  clear h1
  go_wp2_with fail
  refine (value_RightTime.calls v.part.f0 v.part.f1 v.part.f2 _ w0 (rtE _ _ _ HZ.out).1).mono ?_
  rintro q w1 ⟨rfl, hb⟩
  replace HB := Aside0.mk (below_then HB.out HB.out.size hb)
  replace x6 := pw_cell_below hb x6; replace x24 := pw_cell_below hb x24; replace x25 := pw_cell_below hb x25
  clear hb x32 x33 x34 x35 x36
  rcases h2 : rtB v.part.f0 v.part.f1 v.part.f2 with _ | _
  ·have H2 := Aside0.mk h2
   clear h2
   go_wp2_with fail
   go_ret
   exact ⟨by unfold partB; rw [H1.out, H2.out] <;> rfl, HB.out⟩
  have H2 := Aside0.mk h2
  clear h2
  rcases h3 : v.set.again with _ | _
  rotate_left
  ·rw [h3] at x6
   have H3 := Aside0.mk h3
   clear h3
   go_wp2_with fail
   go_ret
   exact ⟨by unfold partB; rw [H1.out, H2.out, H3.out] <;> rfl, HB.out⟩
  rw [h3] at x6
  have H3 := Aside0.mk h3
  clear h3
  rcases e3 : ((v.set.ds.length : Int) == 0) with _ | _
  ·have E3 := Aside0.mk e3
   go_wp2_with fail
   go_ret
   exact ⟨by unfold partB; rw [H1.out, H2.out, H3.out, E3.out] <;> rfl, HB.out⟩
  have E3 := Aside0.mk e3
  rcases e4 : ((v.set.bs.length : Int) == 0) with _ | _
  ·have E4 := Aside0.mk e4
   go_wp2_with fail
   go_ret
   exact ⟨by unfold partB; rw [H1.out, H2.out, H3.out, E3.out, E4.out] <;> rfl, HB.out⟩
  ·have E4 := Aside0.mk e4
   go_wp2_with fail
   go_ret
   exact ⟨by unfold partB; rw [H1.out, H2.out, H3.out, E3.out, E4.out] <;> rfl, HB.out⟩
end Go.Proofs.YtddoidcbpcmlaaaDoor.UnF
/- Contracts of Go's library at this seat: written by the kit's lay-shelf.mjs and lay-plain.mjs, picked by shelf_pick.py. -/
namespace Go.Proofs.YtddoidcbpcmlaaaDoor.Shelf
open Go.Shelf Go.Proofs
set_option linter.unusedVariables false
def lays150_ren : Go.Shelf.Ren := ⟨fun | 150 => 32 | 153 => 51 | 152 => 72 | 226 => 73 | 227 => 74 | 228 => 75 | 137 => 77 | 119 => 89 | 224 => 90 | 225 => 91 | 217 => 92 | 266 => 97 | n => n, fun | 9 => 9 | 4 => 4 | 3 => 3 | 5 => 5 | 21 => 21 | 117 => 107 | 116 => 106 | 0 => 0 | 46 => 121 | 124 => 127 | n => n, fun | n => n⟩
theorem lays150 : Go.Proofs.Lays.n150 Tryd.prog lays150_ren := {
 mixed := by kernel_rfl
 f119 := Tryd.func89.trans (congrArg some (by kernel_rfl))
 f137 := Tryd.func77.trans (congrArg some (by kernel_rfl))
 f150 := Tryd.func32.trans (congrArg some (by kernel_rfl))
 f152 := Tryd.func72.trans (congrArg some (by kernel_rfl))
 f153 := Tryd.func51.trans (congrArg some (by kernel_rfl))
 f217 := Tryd.func92.trans (congrArg some (by kernel_rfl))
 f224 := Tryd.func90.trans (congrArg some (by kernel_rfl))
 f225 := Tryd.func91.trans (congrArg some (by kernel_rfl))
 f226 := Tryd.func73.trans (congrArg some (by kernel_rfl))
 f227 := Tryd.func74.trans (congrArg some (by kernel_rfl))
 f228 := Tryd.func75.trans (congrArg some (by kernel_rfl))
 f266 := Tryd.func97.trans (congrArg some (by kernel_rfl))
 t0 := Tryd.underlying0
 a0 := Tryd.isAgg0
 z0 := Tryd.sizeOf0
 v0 := Tryd.zeroValue0
 t3 := Tryd.underlying3
 a3 := Tryd.isAgg3
 z3 := Tryd.sizeOf3
 v3 := Tryd.zeroValue3
 t4 := Tryd.underlying4
 a4 := Tryd.isAgg4
 z4 := Tryd.sizeOf4
 v4 := Tryd.zeroValue4
 t5 := Tryd.underlying5
 a5 := Tryd.isAgg5
 z5 := Tryd.sizeOf5
 v5 := Tryd.zeroValue5
 t9 := Tryd.underlying9
 a9 := Tryd.isAgg9
 z9 := Tryd.sizeOf9
 v9 := Tryd.zeroValue9
 t21 := Tryd.underlying21
 a21 := Tryd.isAgg21
 z21 := Tryd.sizeOf21
 v21 := Tryd.zeroValue21
 t46 := Tryd.underlying121
 a46 := Tryd.isAgg121
 z46 := Tryd.sizeOf121
 v46 := Tryd.zeroValue121
 t116 := Tryd.underlying106
 a116 := Tryd.isAgg106
 z116 := Tryd.sizeOf106
 t117 := Tryd.underlying107
 a117 := Tryd.isAgg107
 z117 := Tryd.sizeOf107
 v117 := Tryd.zeroValue107
 t124 := Tryd.underlying127
 a124 := Tryd.isAgg127
 z124 := Tryd.sizeOf127
 v124 := Tryd.zeroValue127 }
open Go.RowKit Go.Lib in
theorem strings_ContainsAny_laid (s chars : ByteArray) (w : World) (hs : s.size < 4294967281) (hcs : chars.size < 4294967281) (has : ∀ (j : Nat) b, s.data.toList[j]? = some b → b.toNat < 128) (hac : ∀ (j : Nat) b, chars.data.toList[j]? = some b → b.toNat < 128) :
  Calls Tryd.prog 32 #[.string s, .string chars] w fun e w' => e = .returned (.bool (Lib.containsAny s.data.toList chars.data.toList)) ∧ Below w.heap.size w w' := Any.strings_ContainsAny_laid lays150 (by kernel_rfl) s chars w hs hcs has hac
end Go.Proofs.YtddoidcbpcmlaaaDoor.Shelf
namespace Go.Proofs.YtddoidcbpcmlaaaDoor.M
open Go.RowKit Go.Proofs.YtddoidcbpcmlaaaDoorW.PrintWords Go.Proofs.YtddoidcbpcmlaaaDoorW.PrintLast Go.Proofs.YtddoidcbpcmlaaaDoorW.PrintMore
attribute [local go_sem] max2_int min2_int max_two min_two
set_option linter.unusedVariables false
set_option linter.unusedSimpArgs false
/-! ### strings_ContainsAny: function 32 -/
def strings_ContainsAny.f (a0 a1 : ByteArray) : Option Bool := if a0.size < 4294967281 ∧ a1.size < 4294967281 ∧ a0.data.toList.all (fun b => decide (b.toNat < 128)) = true ∧ a1.data.toList.all (fun b => decide (b.toNat < 128)) = true then some (Lib.containsAny a0.data.toList a1.data.toList) else none
theorem strings_ContainsAny.calls (a0 a1 : ByteArray) (r : Bool) (w : World) (h : strings_ContainsAny.f a0 a1 = some r) :
  Calls Tryd.prog 32 #[.string a0, .string a1] w fun e w' => e = .returned (.bool r) ∧ Below w.heap.size w w' := by
 unfold strings_ContainsAny.f at h
 split at h
 ·rename_i c
  obtain ⟨c1, c2, c3, c4⟩ := c
  have hr := Option.some.inj h
  subst hr
  refine Shelf.strings_ContainsAny_laid a0 a1 w c1 c2 ?_ ?_
  ·intro j b hb
   exact of_decide_eq_true (List.all_eq_true.mp c3 b (List.mem_of_getElem? hb))
  ·intro j b hb
   exact of_decide_eq_true (List.all_eq_true.mp c4 b (List.mem_of_getElem? hb))
 ·cases h

end Go.Proofs.YtddoidcbpcmlaaaDoor.M
