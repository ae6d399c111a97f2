/- Texts of this claim, merged: Qtrystlaw12ValueReads, Build, Digits, QrataC, Fmt, Cal, FunA, FunC, Awake7, FunQ. -/
import Derived.Test.YthppkdbelmolbaaDoorMgValueReads1
import Derived.Test.YthppkdbelmolbaaDoorMgValueReads6
import Derived.Test.YthppkdbelmolbaaDoorMgValueReads10
import Derived.Shelf.Strings.Builder1
import Derived.Test.YthppkdbelmolbaaDoorProg
import Derived.LoopTactic
import Derived.Lib.Hide
import Derived.Test.YthppkdbelmolbaaDoorMgValueReads2
import Derived.Test.YthppkdbelmolbaaDoorMgValueReads3
import Derived.Test.YthppkdbelmolbaaDoorMgValueReads4
import Derived.RowKit
import Derived.Test.YthppkdbelmolbaaDoorMgValueReads5
-- written by a program of this session (wip/own_print.sh)
namespace Go.Proofs.YthppkdbelmolbaaDoor.Q
open Go.RowKit Go.Proofs.YthppkdbelmolbaaDoorW.PrintWords Go.Proofs.YthppkdbelmolbaaDoorW.PrintLast Go.Proofs.YthppkdbelmolbaaDoorW.PrintMore
attribute [local go_sem] max2_int min2_int max_two min_two max_three min_three max_four min_four   -- for this text's walks alone
set_option linter.unusedVariables false
set_option linter.unusedSimpArgs false
attribute [local go_sem high] eqA31
/-! ### trystlaw12_ValueReads: function 5 -/
def trystlaw12_ValueReads.f (k : Nat) (a0 : ByteArray) (a1 : ByteArray) (a2 : Bool) : Option (Bool) := (trystlaw12_awake.f).bind fun t314 => (if t314 = true then ((value_ParseTime.f k a0 a1 a2).bind fun bt315 => ((trystref12_ParseTime.f k a0 a1 a2).bind fun bt320 => (if (bt315.1 == bt320.1 && (bt315.2.1 == bt320.2.1 && (bt315.2.2.1.toList == bt320.2.2.1.toList))) = true then (some (bt315.2.2.2 == bt320.2.2.2)) else (some false)))) else (some false))
set_option maxHeartbeats 8000000 in
set_option maxRecDepth 100000 in
theorem trystlaw12_ValueReads.calls (k : Nat) (a0 : ByteArray) (a1 : ByteArray) (a2 : Bool) (r : Bool) (w : World) (h : trystlaw12_ValueReads.f k a0 a1 a2 = some r) :
    Calls Tryd.prog 5 #[.string a0, .string a1, .bool a2] w fun e w' => e = .returned (.bool r) ∧ Below w.heap.size w w' := by
  have hu31 := Tryd.underlying31
  have HB := Aside0.mk (Below.refl w.heap.size w)
  have H : ((trystlaw12_awake.f).bind fun t314 => (if t314 = true then ((value_ParseTime.f k a0 a1 a2).bind fun bt315 => ((trystref12_ParseTime.f k a0 a1 a2).bind fun bt320 => (if (bt315.1 == bt320.1 && (bt315.2.1 == bt320.2.1 && (bt315.2.2.1.toList == bt320.2.2.1.toList))) = true then (some (bt315.2.2.2 == bt320.2.2.2)) else (some false)))) else (some false))) = some r := h
  clear h
  replace H := Option.bind_eq_some_iff.mp H
  obtain ⟨t314, A40, H⟩ := H
  replace H : (if t314 = true then ((value_ParseTime.f k a0 a1 a2).bind fun bt315 => ((trystref12_ParseTime.f k a0 a1 a2).bind fun bt320 => (if (bt315.1 == bt320.1 && (bt315.2.1 == bt320.2.1 && (bt315.2.2.1.toList == bt320.2.2.1.toList))) = true then (some (bt315.2.2.2 == bt320.2.2.2)) else (some false)))) else (some false)) = some r := H
  have A4 := Aside0.mk A40
  clear A40
  by_cases c5 : t314 = true
  · subst c5
    have H1 : ((value_ParseTime.f k a0 a1 a2).bind fun bt315 => ((trystref12_ParseTime.f k a0 a1 a2).bind fun bt320 => (if (bt315.1 == bt320.1 && (bt315.2.1 == bt320.2.1 && (bt315.2.2.1.toList == bt320.2.2.1.toList))) = true then (some (bt315.2.2.2 == bt320.2.2.2)) else (some false)))) = some r := by rw [if_pos rfl] at H; exact H
    clear H
    have H := H1
    clear H1
    replace H := Option.bind_eq_some_iff.mp H
    obtain ⟨⟨t315, t316, t317, t318⟩, A60, H⟩ := H
    replace H : ((trystref12_ParseTime.f k a0 a1 a2).bind fun bt320 => (if (t315 == bt320.1 && (t316 == bt320.2.1 && (t317.toList == bt320.2.2.1.toList))) = true then (some (t318 == bt320.2.2.2)) else (some false))) = some r := H
    have A6 := Aside0.mk A60
    clear A60
    replace H := Option.bind_eq_some_iff.mp H
    obtain ⟨⟨t320, t321, t322, t323⟩, A70, H⟩ := H
    replace H : (if (t315 == t320 && (t316 == t321 && (t317.toList == t322.toList))) = true then (some (t318 == t323)) else (some false)) = some r := H
    have A7 := Aside0.mk A70
    clear A70
    by_cases c8 : (t315 == t320 && (t316 == t321 && (t317.toList == t322.toList))) = true
    · rw [if_pos c8] at H
      have c8b0 : (t315 == t320 && (t316 == t321 && (t317.toList == t322.toList))) = true := c8
      (try (have c8b1 : decide (t315 = t320 && (t316 == t321 && (t317.toList == t322.toList))) = true := by simpa using c8))
      (try (have c8b2 : (t315 == t320 && (t316 == t321 && (t317.toList == t322.toList))) = true := by simpa using c8))
      clear c8
      obtain rfl := Option.some.inj H
      go_enter Tryd.func5, Tryd.ntmps5
      go_wp2_with (first | ((with_reducible refine gate_callee (f := 9) rfl ?_); refine goesL_ (some 11) rfl rfl Tryd.func9 (by kernel_rfl) rfl #[] rfl (by (try simp only [List.map_toArray, List.map_cons, List.map_nil]); first | done | rfl | (simp only [List.length_drop, List.length_take]; rfl)) ?_; (with_reducible refine (trystlaw12_awake.calls  true _ A4.out).mono ?_); rintro e w9 ⟨rfl, hb⟩; refine ⟨_, rfl, ?_⟩; have n0_ := Aside0.mk (below_step (by repeat (first | (with_reducible first | exact HB.out | apply below_alloc | apply pw_below_drewN | apply below_drew1) | exact HB.out)) hb); clear HB; have HB := n0_; clear n0_; (try clear hb); (try clear hb2); (try clear hk); (try clear hi)) | ((with_reducible refine gate_callee (f := 16) rfl ?_); refine goesL_ (some 17) rfl rfl Tryd.func16 (by kernel_rfl) rfl #[.string a0, .string a1, .bool a2] rfl (by (try simp only [List.map_toArray, List.map_cons, List.map_nil]); first | done | rfl | (simp only [List.length_drop, List.length_take]; rfl)) ?_; (with_reducible refine (value_ParseTime.calls k a0 a1 a2 t315 t316 t317 t318 _ A6.out).mono ?_); rintro e w10 ⟨rfl, hb⟩; refine ⟨_, rfl, ?_⟩; have n0_ := Aside0.mk (below_step (by repeat (first | (with_reducible first | exact HB.out | apply below_alloc | apply pw_below_drewN | apply below_drew1) | exact HB.out)) hb); clear HB; have HB := n0_; clear n0_; (try clear hb); (try clear hb2); (try clear hk); (try clear hi)) | ((with_reducible refine gate_dst (N := 7) rfl ?_); refine box_event ?hg (N := 7) ?hd (cs := #[.int .i64 0, .int .i64 0, .string (⟨#[]⟩ : ByteArray)]) (t := 31) ?hr ?_; (case hd => rfl); (case hg => rfl); (case hr => first | (go_simp; done) | (go_simp; rfl)); intro gb319 hg w11 hbox hb; have n0_ := Aside0.mk (below_step (by repeat (first | (with_reducible first | exact HB.out | apply below_alloc | apply pw_below_drewN | apply below_drew1) | exact HB.out)) hb); have n1_ := Aside0.mk (hbox); have n2_ := Aside0.mk ((by rw [hg]; exact (below_size (by repeat (first | (with_reducible first | exact HB.out | apply below_alloc | apply pw_below_drewN | apply below_drew1) | exact HB.out))) : w.heap.size ≤ gb319)); have n3_ := Aside0.mk ((by rw [hg]; exact (below_size (by repeat (first | (with_reducible first | exact HB.out | apply below_alloc | apply pw_below_drewN | apply below_drew1) | exact HB.out))) : w.heap.size ≤ gb319)); clear HB; have HB := n0_; have BK319 := n1_; have GW319 := n2_; have GE319 := n3_; clear n0_ n1_ n2_ n3_; clear hb hbox hg; have hcz12_0 : w11.cell? ⟨gb319, 0, none⟩ = some (.int .i64 0) := (blk_cell BK319.out 0).trans rfl; have hcz12_1 : w11.cell? ⟨gb319, 1, none⟩ = some (.int .i64 0) := (blk_cell BK319.out 1).trans rfl; have hcz12_2 : w11.cell? ⟨gb319, 2, none⟩ = some (.string (⟨#[]⟩ : ByteArray)) := (blk_cell BK319.out 2).trans rfl; have hfz12_0 := blk_frozen BK319.out 0; have hfz12_1 := blk_frozen BK319.out 1; have hfz12_2 := blk_frozen BK319.out 2) | ((with_reducible refine gate_callee (f := 17) rfl ?_); refine goesL_ (some 24) rfl rfl Tryd.func17 (by kernel_rfl) rfl #[.string a0, .string a1, .bool a2] rfl (by (try simp only [List.map_toArray, List.map_cons, List.map_nil]); first | done | rfl | (simp only [List.length_drop, List.length_take]; rfl)) ?_; (with_reducible refine (trystref12_ParseTime.calls k a0 a1 a2 t320 t321 t322 t323 _ A7.out).mono ?_); rintro e w13 ⟨rfl, hb⟩; refine ⟨_, rfl, ?_⟩; have n0_ := Aside0.mk (blk_below (g := gb319) (o := .cells #[.int .i64 t315, .int .i64 t316, .string t317] 31 (0, 0)) (by (with_reducible repeat (first | refine blk_drewN ?_ _ | refine blk_drew ?_ | refine blk_alloc ?_ _)); refine blk_put (cs := #[.int .i64 t315, .int .i64 t316, .string (⟨#[]⟩ : ByteArray)]) ?_ 2 _ rfl; (with_reducible repeat (first | refine blk_drewN ?_ _ | refine blk_drew ?_ | refine blk_alloc ?_ _)); refine blk_put (cs := #[.int .i64 t315, .int .i64 0, .string (⟨#[]⟩ : ByteArray)]) ?_ 1 _ rfl; (with_reducible repeat (first | refine blk_drewN ?_ _ | refine blk_drew ?_ | refine blk_alloc ?_ _)); refine blk_put (cs := #[.int .i64 0, .int .i64 0, .string (⟨#[]⟩ : ByteArray)]) ?_ 0 _ rfl; (with_reducible repeat (first | refine blk_drewN ?_ _ | refine blk_drew ?_ | refine blk_alloc ?_ _)); exact BK319.out) hb); have n1_ := Aside0.mk (below_step (by repeat (first | (with_reducible first | exact HB.out | apply below_alloc | apply pw_below_drewN | apply below_drew1 | refine below_set ?_ GE319.out) | exact HB.out)) hb); clear BK319; clear HB; have BK319 := n0_; have HB := n1_; clear n0_ n1_; (try clear hb); (try clear hb2); (try clear hk); (try clear hi)) | ((with_reducible refine gate_dst (N := 9) rfl ?_); refine box_event ?hg (N := 9) ?hd (cs := #[.int .i64 0, .int .i64 0, .string (⟨#[]⟩ : ByteArray)]) (t := 31) ?hr ?_; (case hd => rfl); (case hg => rfl); (case hr => first | (go_simp; done) | (go_simp; rfl)); intro gb324 hg w14 hbox hb; have n0_ := Aside0.mk (blk_below (g := gb319) (o := .cells #[.int .i64 t315, .int .i64 t316, .string t317] 31 (0, 0)) (by (with_reducible repeat (first | refine blk_drewN ?_ _ | refine blk_drew ?_ | refine blk_alloc ?_ _)); exact BK319.out) hb); have n1_ := Aside0.mk (below_step (by repeat (first | (with_reducible first | exact HB.out | apply below_alloc | apply pw_below_drewN | apply below_drew1 | refine below_set ?_ GE319.out) | exact HB.out)) hb); have n2_ := Aside0.mk (hbox); have n3_ := Aside0.mk ((by rw [hg]; exact (below_size (by repeat (first | (with_reducible first | exact HB.out | apply below_alloc | apply pw_below_drewN | apply below_drew1 | refine below_set ?_ GE319.out) | exact HB.out))) : w.heap.size ≤ gb324)); have n4_ := Aside0.mk ((by rw [hg]; exact (below_size (by repeat (first | (with_reducible first | exact HB.out | apply below_alloc | apply pw_below_drewN | apply below_drew1 | refine below_set ?_ GE319.out) | exact HB.out))) : w.heap.size ≤ gb324)); have n5_ := Aside0.mk ((by rw [hg]; exact Nat.ne_of_lt (blk_lt (g := gb319) (o := .cells #[.int .i64 t315, .int .i64 t316, .string t317] 31 (0, 0)) (by (with_reducible repeat (first | refine blk_drewN ?_ _ | refine blk_drew ?_ | refine blk_alloc ?_ _)); exact BK319.out)) : gb319 ≠ gb324)); have n6_ := Aside0.mk ((by rw [hg]; exact Nat.ne_of_gt (blk_lt (g := gb319) (o := .cells #[.int .i64 t315, .int .i64 t316, .string t317] 31 (0, 0)) (by (with_reducible repeat (first | refine blk_drewN ?_ _ | refine blk_drew ?_ | refine blk_alloc ?_ _)); exact BK319.out)) : gb324 ≠ gb319)); clear BK319; clear HB; have BK319 := n0_; have HB := n1_; have BK324 := n2_; have GW324 := n3_; have GE324 := n4_; have NB319_324 := n5_; have NB324_319 := n6_; clear n0_ n1_ n2_ n3_ n4_ n5_ n6_; clear hb hbox hg; have hnb15 := NB324_319.out; have hnc15 := NB319_324.out; have hcz16_0 : w14.cell? ⟨gb324, 0, none⟩ = some (.int .i64 0) := (blk_cell BK324.out 0).trans rfl; have hcz16_1 : w14.cell? ⟨gb324, 1, none⟩ = some (.int .i64 0) := (blk_cell BK324.out 1).trans rfl; have hcz16_2 : w14.cell? ⟨gb324, 2, none⟩ = some (.string (⟨#[]⟩ : ByteArray)) := (blk_cell BK324.out 2).trans rfl; have hfz16_0 := blk_frozen BK324.out 0; have hfz16_1 := blk_frozen BK324.out 1; have hfz16_2 := blk_frozen BK324.out 2; have hcz17_0 : w14.cell? ⟨gb319, 0, none⟩ = some (.int .i64 t315) := (blk_cell BK319.out 0).trans rfl; have hcz17_1 : w14.cell? ⟨gb319, 1, none⟩ = some (.int .i64 t316) := (blk_cell BK319.out 1).trans rfl; have hcz17_2 : w14.cell? ⟨gb319, 2, none⟩ = some (.string t317) := (blk_cell BK319.out 2).trans rfl; have hfz17_0 := blk_frozen BK319.out 0; have hfz17_1 := blk_frozen BK319.out 1; have hfz17_2 := blk_frozen BK319.out 2))
      go_ret
      exact ⟨by first | rfl | (simp [errW_none, errW_some] <;> rfl) | (simp [*, errW_none, errW_some] <;> rfl), by repeat (first | (with_reducible first | exact HB.out | apply below_alloc | apply pw_below_drewN | apply below_drew1 | refine below_set ?_ GE319.out | refine below_set ?_ GE324.out) | exact HB.out)⟩
    · rw [if_neg c8] at H
      have c8b0 : (t315 == t320 && (t316 == t321 && (t317.toList == t322.toList))) = false := by simpa using c8
      (try (have c8b1 : decide (t315 = t320 && (t316 == t321 && (t317.toList == t322.toList))) = false := by simpa using c8))
      (try (have c8b2 : (t315 == t320 && (t316 == t321 && (t317.toList == t322.toList))) = false := by simpa using c8))
      (try (have c8b3 : ¬ (t315 = t320 && (t316 == t321 && (t317.toList == t322.toList))) := by simpa using c8))
      clear c8
      obtain rfl := Option.some.inj H
      go_enter Tryd.func5, Tryd.ntmps5
      go_wp2_with (first | ((with_reducible refine gate_callee (f := 9) rfl ?_); refine goesL_ (some 11) rfl rfl Tryd.func9 (by kernel_rfl) rfl #[] rfl (by (try simp only [List.map_toArray, List.map_cons, List.map_nil]); first | done | rfl | (simp only [List.length_drop, List.length_take]; rfl)) ?_; (with_reducible refine (trystlaw12_awake.calls  true _ A4.out).mono ?_); rintro e w18 ⟨rfl, hb⟩; refine ⟨_, rfl, ?_⟩; have n0_ := Aside0.mk (below_step (by repeat (first | (with_reducible first | exact HB.out | apply below_alloc | apply pw_below_drewN | apply below_drew1) | exact HB.out)) hb); clear HB; have HB := n0_; clear n0_; (try clear hb); (try clear hb2); (try clear hk); (try clear hi)) | ((with_reducible refine gate_callee (f := 16) rfl ?_); refine goesL_ (some 17) rfl rfl Tryd.func16 (by kernel_rfl) rfl #[.string a0, .string a1, .bool a2] rfl (by (try simp only [List.map_toArray, List.map_cons, List.map_nil]); first | done | rfl | (simp only [List.length_drop, List.length_take]; rfl)) ?_; (with_reducible refine (value_ParseTime.calls k a0 a1 a2 t315 t316 t317 t318 _ A6.out).mono ?_); rintro e w19 ⟨rfl, hb⟩; refine ⟨_, rfl, ?_⟩; have n0_ := Aside0.mk (below_step (by repeat (first | (with_reducible first | exact HB.out | apply below_alloc | apply pw_below_drewN | apply below_drew1) | exact HB.out)) hb); clear HB; have HB := n0_; clear n0_; (try clear hb); (try clear hb2); (try clear hk); (try clear hi)) | ((with_reducible refine gate_dst (N := 7) rfl ?_); refine box_event ?hg (N := 7) ?hd (cs := #[.int .i64 0, .int .i64 0, .string (⟨#[]⟩ : ByteArray)]) (t := 31) ?hr ?_; (case hd => rfl); (case hg => rfl); (case hr => first | (go_simp; done) | (go_simp; rfl)); intro gb319 hg w20 hbox hb; have n0_ := Aside0.mk (below_step (by repeat (first | (with_reducible first | exact HB.out | apply below_alloc | apply pw_below_drewN | apply below_drew1) | exact HB.out)) hb); have n1_ := Aside0.mk (hbox); have n2_ := Aside0.mk ((by rw [hg]; exact (below_size (by repeat (first | (with_reducible first | exact HB.out | apply below_alloc | apply pw_below_drewN | apply below_drew1) | exact HB.out))) : w.heap.size ≤ gb319)); have n3_ := Aside0.mk ((by rw [hg]; exact (below_size (by repeat (first | (with_reducible first | exact HB.out | apply below_alloc | apply pw_below_drewN | apply below_drew1) | exact HB.out))) : w.heap.size ≤ gb319)); clear HB; have HB := n0_; have BK319 := n1_; have GW319 := n2_; have GE319 := n3_; clear n0_ n1_ n2_ n3_; clear hb hbox hg; have hcz21_0 : w20.cell? ⟨gb319, 0, none⟩ = some (.int .i64 0) := (blk_cell BK319.out 0).trans rfl; have hcz21_1 : w20.cell? ⟨gb319, 1, none⟩ = some (.int .i64 0) := (blk_cell BK319.out 1).trans rfl; have hcz21_2 : w20.cell? ⟨gb319, 2, none⟩ = some (.string (⟨#[]⟩ : ByteArray)) := (blk_cell BK319.out 2).trans rfl; have hfz21_0 := blk_frozen BK319.out 0; have hfz21_1 := blk_frozen BK319.out 1; have hfz21_2 := blk_frozen BK319.out 2) | ((with_reducible refine gate_callee (f := 17) rfl ?_); refine goesL_ (some 24) rfl rfl Tryd.func17 (by kernel_rfl) rfl #[.string a0, .string a1, .bool a2] rfl (by (try simp only [List.map_toArray, List.map_cons, List.map_nil]); first | done | rfl | (simp only [List.length_drop, List.length_take]; rfl)) ?_; (with_reducible refine (trystref12_ParseTime.calls k a0 a1 a2 t320 t321 t322 t323 _ A7.out).mono ?_); rintro e w22 ⟨rfl, hb⟩; refine ⟨_, rfl, ?_⟩; have n0_ := Aside0.mk (blk_below (g := gb319) (o := .cells #[.int .i64 t315, .int .i64 t316, .string t317] 31 (0, 0)) (by (with_reducible repeat (first | refine blk_drewN ?_ _ | refine blk_drew ?_ | refine blk_alloc ?_ _)); refine blk_put (cs := #[.int .i64 t315, .int .i64 t316, .string (⟨#[]⟩ : ByteArray)]) ?_ 2 _ rfl; (with_reducible repeat (first | refine blk_drewN ?_ _ | refine blk_drew ?_ | refine blk_alloc ?_ _)); refine blk_put (cs := #[.int .i64 t315, .int .i64 0, .string (⟨#[]⟩ : ByteArray)]) ?_ 1 _ rfl; (with_reducible repeat (first | refine blk_drewN ?_ _ | refine blk_drew ?_ | refine blk_alloc ?_ _)); refine blk_put (cs := #[.int .i64 0, .int .i64 0, .string (⟨#[]⟩ : ByteArray)]) ?_ 0 _ rfl; (with_reducible repeat (first | refine blk_drewN ?_ _ | refine blk_drew ?_ | refine blk_alloc ?_ _)); exact BK319.out) hb); have n1_ := Aside0.mk (below_step (by repeat (first | (with_reducible first | exact HB.out | apply below_alloc | apply pw_below_drewN | apply below_drew1 | refine below_set ?_ GE319.out) | exact HB.out)) hb); clear BK319; clear HB; have BK319 := n0_; have HB := n1_; clear n0_ n1_; (try clear hb); (try clear hb2); (try clear hk); (try clear hi)) | ((with_reducible refine gate_dst (N := 9) rfl ?_); refine box_event ?hg (N := 9) ?hd (cs := #[.int .i64 0, .int .i64 0, .string (⟨#[]⟩ : ByteArray)]) (t := 31) ?hr ?_; (case hd => rfl); (case hg => rfl); (case hr => first | (go_simp; done) | (go_simp; rfl)); intro gb324 hg w23 hbox hb; have n0_ := Aside0.mk (blk_below (g := gb319) (o := .cells #[.int .i64 t315, .int .i64 t316, .string t317] 31 (0, 0)) (by (with_reducible repeat (first | refine blk_drewN ?_ _ | refine blk_drew ?_ | refine blk_alloc ?_ _)); exact BK319.out) hb); have n1_ := Aside0.mk (below_step (by repeat (first | (with_reducible first | exact HB.out | apply below_alloc | apply pw_below_drewN | apply below_drew1 | refine below_set ?_ GE319.out) | exact HB.out)) hb); have n2_ := Aside0.mk (hbox); have n3_ := Aside0.mk ((by rw [hg]; exact (below_size (by repeat (first | (with_reducible first | exact HB.out | apply below_alloc | apply pw_below_drewN | apply below_drew1 | refine below_set ?_ GE319.out) | exact HB.out))) : w.heap.size ≤ gb324)); have n4_ := Aside0.mk ((by rw [hg]; exact (below_size (by repeat (first | (with_reducible first | exact HB.out | apply below_alloc | apply pw_below_drewN | apply below_drew1 | refine below_set ?_ GE319.out) | exact HB.out))) : w.heap.size ≤ gb324)); have n5_ := Aside0.mk ((by rw [hg]; exact Nat.ne_of_lt (blk_lt (g := gb319) (o := .cells #[.int .i64 t315, .int .i64 t316, .string t317] 31 (0, 0)) (by (with_reducible repeat (first | refine blk_drewN ?_ _ | refine blk_drew ?_ | refine blk_alloc ?_ _)); exact BK319.out)) : gb319 ≠ gb324)); have n6_ := Aside0.mk ((by rw [hg]; exact Nat.ne_of_gt (blk_lt (g := gb319) (o := .cells #[.int .i64 t315, .int .i64 t316, .string t317] 31 (0, 0)) (by (with_reducible repeat (first | refine blk_drewN ?_ _ | refine blk_drew ?_ | refine blk_alloc ?_ _)); exact BK319.out)) : gb324 ≠ gb319)); clear BK319; clear HB; have BK319 := n0_; have HB := n1_; have BK324 := n2_; have GW324 := n3_; have GE324 := n4_; have NB319_324 := n5_; have NB324_319 := n6_; clear n0_ n1_ n2_ n3_ n4_ n5_ n6_; clear hb hbox hg; have hnb24 := NB324_319.out; have hnc24 := NB319_324.out; have hcz25_0 : w23.cell? ⟨gb324, 0, none⟩ = some (.int .i64 0) := (blk_cell BK324.out 0).trans rfl; have hcz25_1 : w23.cell? ⟨gb324, 1, none⟩ = some (.int .i64 0) := (blk_cell BK324.out 1).trans rfl; have hcz25_2 : w23.cell? ⟨gb324, 2, none⟩ = some (.string (⟨#[]⟩ : ByteArray)) := (blk_cell BK324.out 2).trans rfl; have hfz25_0 := blk_frozen BK324.out 0; have hfz25_1 := blk_frozen BK324.out 1; have hfz25_2 := blk_frozen BK324.out 2; have hcz26_0 : w23.cell? ⟨gb319, 0, none⟩ = some (.int .i64 t315) := (blk_cell BK319.out 0).trans rfl; have hcz26_1 : w23.cell? ⟨gb319, 1, none⟩ = some (.int .i64 t316) := (blk_cell BK319.out 1).trans rfl; have hcz26_2 : w23.cell? ⟨gb319, 2, none⟩ = some (.string t317) := (blk_cell BK319.out 2).trans rfl; have hfz26_0 := blk_frozen BK319.out 0; have hfz26_1 := blk_frozen BK319.out 1; have hfz26_2 := blk_frozen BK319.out 2))
      go_ret
      exact ⟨by first | rfl | (simp [errW_none, errW_some] <;> rfl) | (simp [*, errW_none, errW_some] <;> rfl), by repeat (first | (with_reducible first | exact HB.out | apply below_alloc | apply pw_below_drewN | apply below_drew1 | refine below_set ?_ GE319.out | refine below_set ?_ GE324.out) | exact HB.out)⟩
  · replace c5 := Bool.eq_false_iff.mpr c5
    subst c5
    have H1 : (some false) = some r := by rw [if_neg (show ¬ (false = true) by decide)] at H; exact H
    clear H
    have H := H1
    clear H1
    obtain rfl := Option.some.inj H
    go_enter Tryd.func5, Tryd.ntmps5
    go_wp2_with (first | ((with_reducible refine gate_callee (f := 9) rfl ?_); refine goesL_ (some 11) rfl rfl Tryd.func9 (by kernel_rfl) rfl #[] rfl (by (try simp only [List.map_toArray, List.map_cons, List.map_nil]); first | done | rfl | (simp only [List.length_drop, List.length_take]; rfl)) ?_; (with_reducible refine (trystlaw12_awake.calls  false _ A4.out).mono ?_); rintro e w27 ⟨rfl, hb⟩; refine ⟨_, rfl, ?_⟩; have n0_ := Aside0.mk (below_step (by repeat (first | (with_reducible first | exact HB.out | apply below_alloc | apply pw_below_drewN | apply below_drew1) | exact HB.out)) hb); clear HB; have HB := n0_; clear n0_; (try clear hb); (try clear hb2); (try clear hk); (try clear hi)))
    go_ret
    exact ⟨by first | rfl | (simp [errW_none, errW_some] <;> rfl) | (simp [*, errW_none, errW_some] <;> rfl), by repeat (first | (with_reducible first | exact HB.out | apply below_alloc | apply pw_below_drewN | apply below_drew1) | exact HB.out)⟩

end Go.Proofs.YthppkdbelmolbaaDoor.Q
/- The library's contracts of strings.Builder (WriteByte, WriteString, String), as theorems of this program. -/
namespace Go.Proofs.YthppkdbelmolbaaDoor.Build
open Go.Shelf Go.RowKit
def ren : Go.Shelf.Ren := ⟨fun | 166 => 63 | 167 => 80 | 169 => 60 | 240 => 81 | 276 => 107 | n => n, fun | 0 => 0 | 3 => 3 | 4 => 4 | 5 => 5 | 9 => 9 | 20 => 20 | 37 => 62 | 70 => 71 | 72 => 73 | 75 => 82 | 80 => 75 | 127 => 97 | 164 => 108 | n => n, fun | n => n⟩
theorem lays167 : Go.Proofs.Lays.n167 Tryd.prog ren := {
  mixed := by kernel_rfl
  f167 := Tryd.func80.trans (congrArg some (by kernel_rfl))
  f240 := Tryd.func81.trans (congrArg some (by kernel_rfl))
  f276 := Tryd.func107.trans (congrArg some (by kernel_rfl))
  t0 := Tryd.underlying0
  a0 := Tryd.isAgg0
  z0 := Tryd.sizeOf0
  v0 := Tryd.zeroValue0
  t4 := Tryd.underlying4
  a4 := Tryd.isAgg4
  z4 := Tryd.sizeOf4
  v4 := Tryd.zeroValue4
  t5 := Tryd.underlying5
  a5 := Tryd.isAgg5
  z5 := Tryd.sizeOf5
  v5 := Tryd.zeroValue5
  t9 := Tryd.underlying9
  a9 := Tryd.isAgg9
  z9 := Tryd.sizeOf9
  v9 := Tryd.zeroValue9
  t20 := Tryd.underlying20
  a20 := Tryd.isAgg20
  z20 := Tryd.sizeOf20
  v20 := Tryd.zeroValue20
  t37 := Tryd.underlying62
  a37 := Tryd.isAgg62
  z37 := Tryd.sizeOf62
  v37 := Tryd.zeroValue62
  t70 := Tryd.underlying71
  a70 := Tryd.isAgg71
  z70 := Tryd.sizeOf71
  v70 := Tryd.zeroValue71
  t72 := Tryd.underlying73
  a72 := Tryd.isAgg73
  z72 := Tryd.sizeOf73
  v72 := Tryd.zeroValue73
  t75 := Tryd.underlying82
  a75 := Tryd.isAgg82
  z75 := Tryd.sizeOf82
  v75 := Tryd.zeroValue82
  t164 := Tryd.underlying108
  a164 := Tryd.isAgg108
  z164 := Tryd.sizeOf108
  v164 := Tryd.zeroValue108 }
theorem extra : Go.Proofs.Builder.Extra Tryd.prog ren := {
  sizeBuilder := by kernel_rfl
  liesBuilder := by kernel_rfl
  t5 := Tryd.underlying5
  a5 := Tryd.isAgg5
  z5 := Tryd.sizeOf5
  v5 := Tryd.zeroValue5
  infoByte := by kernel_rfl
  cellsByte := by kernel_rfl
  sizeByte := by kernel_rfl
  neB5 := by decide }
theorem writeByte (B b : Nat) (bs : List Value) (c : Int) (w : World) (h : Lib.IsBuilder 73 5 B b bs w) (hlen : bs.length + 1 ≤ 140737488355328) (hBw : B ≤ w.heap.size) :
    Calls Tryd.prog 80 #[.pointer (some ⟨b, 0, none⟩), .int .u8 c] w fun e w' => e = .returned .nilIface ∧ (Lib.BuilderAt 73 5 B b (.pointer (some ⟨b, 0, none⟩)) (bs ++ [.int .u8 c]) w' ∧ Below B w w') :=
  Go.Proofs.Any.Builder_WriteByte lays167 extra B b bs c w h hlen hBw
end Go.Proofs.YthppkdbelmolbaaDoor.Build
/- What clock.digits writes: two or four digits of a number, behind what a builder holds. -/
namespace Go.Proofs.YthppkdbelmolbaaDoor.Digits
open Go.RowKit Go.Proofs.YthppkdbelmolbaaDoorW.PrintWords Go.Proofs.YthppkdbelmolbaaDoorW.PrintLast Go.Proofs.YthppkdbelmolbaaDoor.Build
set_option linter.unusedVariables false
set_option linter.unusedSimpArgs false
/-- A digit's byte. -/
def dg (n b : Int) : Value := .int .u8 (48 + n / b % 10)
def IsB (B b : Nat) (bs : List Value) (w : World) : Prop := Lib.IsBuilder 73 5 B b bs w
theorem isB_of {B b : Nat} {bs : List Value} {w : World} (h : Lib.BuilderAt 73 5 B b (.pointer (some ⟨b, 0, none⟩)) bs w) : IsB B b bs w := Or.inr h
set_option maxHeartbeats 4000000 in
set_option maxRecDepth 100000 in
theorem four (B b : Nat) (bs : List Value) (n : Int) (w : World) (hn : 0 ≤ n) (hn' : n ≤ 99999) (h : IsB B b bs w) (hl : bs.length ≤ 100000) (hBw : B ≤ w.heap.size) :
    Calls Tryd.prog 59 #[.pointer (some ⟨b, 0, none⟩), .int .i64 n, .int .i64 4] w fun e w' => e = .returned (.tuple #[]) ∧ IsB B b (bs ++ [dg n 1000, dg n 100, dg n 10, dg n 1]) w' ∧ Below B w w' := by
  go_enter Tryd.func59, Tryd.ntmps59
  go_wp2
  go_loop [6, 9] (fun y i => (y = .int .i64 1 ∧ i = .int .i64 0) ∨ (y = .int .i64 10 ∧ i = .int .i64 1) ∨ (y = .int .i64 100 ∧ i = .int .i64 2) ∨ (y = .int .i64 1000 ∧ i = .int .i64 3)) (fun _ i => (3 - intOf i).toNat)
  case atStart => exact Or.inl ⟨rfl, rfl⟩
  case round =>
    rcases hrel with ⟨rfl, rfl⟩ | ⟨rfl, rfl⟩ | ⟨rfl, rfl⟩ | ⟨rfl, rfl⟩
    · go_wp2
      go_round
      case rel => exact Or.inr (Or.inl ⟨rfl, rfl⟩)
      case measure => simp [intOf]
    · go_wp2
      go_round
      case rel => exact Or.inr (Or.inr (Or.inl ⟨rfl, rfl⟩))
      case measure => simp [intOf]
    · go_wp2
      go_round
      case rel => exact Or.inr (Or.inr (Or.inr (⟨rfl, rfl⟩)))
      case measure => simp [intOf]
    · go_wp2
      go_loopw [6] (fun y wr => (y = .int .i64 1000 ∧ IsB B b bs wr ∧ Below B w wr) ∨ (y = .int .i64 100 ∧ IsB B b (bs ++ [dg n 1000]) wr ∧ Below B w wr) ∨ (y = .int .i64 10 ∧ IsB B b (bs ++ [dg n 1000, dg n 100]) wr ∧ Below B w wr) ∨ (y = .int .i64 1 ∧ IsB B b (bs ++ [dg n 1000, dg n 100, dg n 10]) wr ∧ Below B w wr) ∨ (y = .int .i64 0 ∧ IsB B b (bs ++ [dg n 1000, dg n 100, dg n 10, dg n 1]) wr ∧ Below B w wr)) (fun y _ => (intOf y).toNat)
      case atStart => exact Or.inl ⟨rfl, h, Below.refl _ _⟩
      case round =>
        rcases hrel with ⟨rfl, hI, hB⟩ | ⟨rfl, hI, hB⟩ | ⟨rfl, hI, hB⟩ | ⟨rfl, hI, hB⟩ | ⟨rfl, hI, hB⟩
        · have hz := Nat.le_trans hBw hB.size
          go_wp2_with fail
          refine (writeByte B b _ _ wr hI (by simp; omega) hz).mono ?_
          rintro e w1 ⟨rfl, hI1, hB1⟩
          go_wp2
          go_roundw
          case rel => exact Or.inr (Or.inl ⟨rfl, by simpa [dg] using isB_of hI1, hB.trans hB1⟩)
          case measure => simp [intOf]
        · have hz := Nat.le_trans hBw hB.size
          go_wp2_with fail
          refine (writeByte B b _ _ wr hI (by simp; omega) hz).mono ?_
          rintro e w1 ⟨rfl, hI1, hB1⟩
          go_wp2
          go_roundw
          case rel => exact Or.inr (Or.inr (Or.inl ⟨rfl, by simpa [dg] using isB_of hI1, hB.trans hB1⟩))
          case measure => simp [intOf]
        · have hz := Nat.le_trans hBw hB.size
          go_wp2_with fail
          refine (writeByte B b _ _ wr hI (by simp; omega) hz).mono ?_
          rintro e w1 ⟨rfl, hI1, hB1⟩
          go_wp2
          go_roundw
          case rel => exact Or.inr (Or.inr (Or.inr (Or.inl ⟨rfl, by simpa [dg] using isB_of hI1, hB.trans hB1⟩)))
          case measure => simp [intOf]
        · have hz := Nat.le_trans hBw hB.size
          go_wp2_with fail
          refine (writeByte B b _ _ wr hI (by simp; omega) hz).mono ?_
          rintro e w1 ⟨rfl, hI1, hB1⟩
          go_wp2
          go_roundw
          case rel => exact Or.inr (Or.inr (Or.inr (Or.inr (⟨rfl, by simpa [dg] using isB_of hI1, hB.trans hB1⟩))))
          case measure => simp [intOf]
        · go_wp2
          go_end0
          exact ⟨rfl, hI, hB⟩
end Go.Proofs.YthppkdbelmolbaaDoor.Digits
-- written by a program of this session (wip/own_print.sh)
namespace Go.Proofs.YthppkdbelmolbaaDoor.Q
open Go.RowKit Go.Proofs.YthppkdbelmolbaaDoorW.PrintWords Go.Proofs.YthppkdbelmolbaaDoorW.PrintLast Go.Proofs.YthppkdbelmolbaaDoorW.PrintMore
attribute [local go_sem] max2_int min2_int max_two min_two max_three min_three max_four min_four   -- for this text's walks alone
set_option linter.unusedVariables false
set_option linter.unusedSimpArgs false
/-! ### rata_Year: function 77 -/
/-! ### rata_Date: function 58 -/
-- NOT PRINTED: function 107 (abi_NoEscape)
-- NOT PRINTED: function 81 (strings_Builder_copyCheck)
-- NOT PRINTED: function 80 (strings_Builder_WriteByte)
-- NOT PRINTED: function 59 (clock_digits)
-- NOT PRINTED: function 60 (strings_Builder_String)
-- NOT PRINTED: function 37 (clock_FormatDate)
end Go.Proofs.YthppkdbelmolbaaDoor.Q
/- clock.FormatDate, clock.Parts and clock.Format, walked. -/
namespace Go.Proofs.YthppkdbelmolbaaDoor.Fmt
open Go.RowKit Go.Proofs.YthppkdbelmolbaaDoorW.PrintWords Go.Proofs.YthppkdbelmolbaaDoorW.PrintLast Go.Proofs.YthppkdbelmolbaaDoor.Q Go.Proofs.YthppkdbelmolbaaDoor.Digits Go.Proofs.YthppkdbelmolbaaDoor.Build
set_option linter.unusedVariables false
set_option linter.unusedSimpArgs false
theorem at0 (x y z : Int) (w : World) : (Instr.index 78 (.agg #[.int .i64 x, .int .i64 y, .int .i64 z]) (.int .i64 0)).run Tryd.prog w = .ok (.int .i64 x) w := by
  simp [Instr.index, run_underlying Tryd.underlying78, asIntOf, go_sem]
theorem at1 (x y z : Int) (w : World) : (Instr.index 78 (.agg #[.int .i64 x, .int .i64 y, .int .i64 z]) (.int .i64 1)).run Tryd.prog w = .ok (.int .i64 y) w := by
  simp [Instr.index, run_underlying Tryd.underlying78, asIntOf, go_sem]
theorem at2 (x y z : Int) (w : World) : (Instr.index 78 (.agg #[.int .i64 x, .int .i64 y, .int .i64 z]) (.int .i64 2)).run Tryd.prog w = .ok (.int .i64 z) w := by
  simp [Instr.index, run_underlying Tryd.underlying78, asIntOf, go_sem]
attribute [local go_sem] at0 at1 at2
end Go.Proofs.YthppkdbelmolbaaDoor.Fmt
/- Plain laws of the Gregorian, Julian, Coptic and ISO calendars over whole numbers: no program in sight. -/
namespace Go.Proofs.YthppkdbelmolbaaDoor.Cal
open Go.RowKit
theorem w64 {x : Int} (h : -9223372036854775808 ≤ x) (h' : x ≤ 9223372036854775807) : wrap64 x = x := by
  unfold wrap64; omega

/-- Days ahead of a Gregorian year. -/
def ah (y : Int) : Int := 365 * (y - 1) + (y - 1) / 4 - (y - 1) / 100 + (y - 1) / 400
/-- 1 in a leap year, else 0. -/
def lp (y : Int) : Int := if y % 4 = 0 then (if y % 100 = 0 then (if y % 400 = 0 then 1 else 0) else 1) else 0
theorem lp_01 (y : Int) : lp y = 0 ∨ lp y = 1 := by
  unfold lp; repeat' split
  all_goals first | exact Or.inl rfl | exact Or.inr rfl
theorem ah_succ (y : Int) : ah (y + 1) = ah y + 365 + lp y := by
  unfold ah lp
  split
  · split
    · split <;> omega
    · omega
  · omega
theorem ah_mono (a : Int) : ∀ n : Nat, ah a + 365 * n ≤ ah (a + n)
  | 0 => by simp
  | n + 1 => by
    have h := ah_mono a n
    have h1 := ah_succ (a + n)
    have h2 := lp_01 (a + n)
    have e : a + ((n + 1 : Nat) : Int) = a + n + 1 := by omega
    rw [e]; omega
theorem ah_le {a b : Int} (h : a ≤ b) : ah a + 365 * (b - a) ≤ ah b := by
  have := ah_mono a (b - a).toNat
  have e : a + ((b - a).toNat : Int) = b := by omega
  rw [e] at this; omega

/-- Days of a year ahead of a month; l: 1 in a leap year. -/
def cum (l m : Int) : Int := (367 * m - 362) / 12 - (if m > 2 then 2 - l else 0)
/-- Days of a month. -/
def dim (l m : Int) : Int :=
  if m = 2 then 28 + l else if m = 4 ∨ m = 6 ∨ m = 9 ∨ m = 11 then 30 else if 1 ≤ m ∧ m ≤ 12 then 31 else 0
theorem months {m : Int} (h1 : 1 ≤ m) (h2 : m ≤ 12) : m = 1 ∨ m = 2 ∨ m = 3 ∨ m = 4 ∨ m = 5 ∨ m = 6 ∨ m = 7 ∨ m = 8 ∨ m = 9 ∨ m = 10 ∨ m = 11 ∨ m = 12 := by omega
theorem cum_one (l : Int) : cum l 1 = 0 := by unfold cum; simp
theorem cum_end (l : Int) : cum l 13 = 365 + l := by unfold cum; simp; omega
theorem cum_succ (l m : Int) (h1 : 1 ≤ m) (h2 : m ≤ 12) : cum l (m + 1) = cum l m + dim l m := by
  rcases months h1 h2 with h | h | h | h | h | h | h | h | h | h | h | h <;> subst h <;> simp [cum, dim] <;> omega
theorem dim_lo (l m : Int) (hl : l = 0 ∨ l = 1) (h1 : 1 ≤ m) (h2 : m ≤ 12) : 28 ≤ dim l m ∧ dim l m ≤ 31 := by
  rcases months h1 h2 with h | h | h | h | h | h | h | h | h | h | h | h <;> subst h <;> simp [dim] <;> omega
theorem dim_pos (l m : Int) (h : 0 < dim l m) : 1 ≤ m ∧ m ≤ 12 := by
  unfold dim at h
  split at h
  · omega
  · split at h
    · omega
    · split at h
      · omega
      · omega
theorem dim_none (l m : Int) (h : m < 1 ∨ 12 < m) : dim l m = 0 := by
  unfold dim
  rw [if_neg (by omega), if_neg (by omega), if_neg (by omega)]
theorem cum_mono (l m : Int) (hl : l = 0 ∨ l = 1) (h1 : 1 ≤ m) : ∀ n : Nat, m + n ≤ 13 → cum l m + 28 * n ≤ cum l (m + n)
  | 0, _ => by simp
  | n + 1, h => by
    have h3 := cum_mono l m hl h1 n (by omega)
    have h4 := cum_succ l (m + n) (by omega) (by omega)
    have h5 := dim_lo l (m + n) hl (by omega) (by omega)
    have e : m + ((n + 1 : Nat) : Int) = m + n + 1 := by omega
    rw [e]; omega
theorem cum_le {l a b : Int} (hl : l = 0 ∨ l = 1) (h1 : 1 ≤ a) (h : a ≤ b) (h2 : b ≤ 13) : cum l a + 28 * (b - a) ≤ cum l b := by
  have := cum_mono l a hl h1 (b - a).toNat (by omega)
  have e : a + ((b - a).toNat : Int) = b := by omega
  rw [e] at this; omega
theorem cum_bd {l m : Int} (hl : l = 0 ∨ l = 1) (h1 : 1 ≤ m) (h2 : m ≤ 13) : 0 ≤ cum l m ∧ cum l m ≤ 366 := by
  have a := cum_le hl (by omega) h1 h2
  have b := cum_le hl h1 h2 (by omega)
  rw [cum_one] at a; rw [cum_end] at b; omega

/-- A date of a calendar with months as the Gregorian one has; b: days ahead of its years, l: leap years. -/
structure Is (b l : Int → Int) (y m d day : Int) : Prop where
  m1 : 1 ≤ m
  m2 : m ≤ 12
  d1 : 1 ≤ d
  d2 : d ≤ dim (l y) m
  e : day = b y + cum (l y) m + d
structure Cal (b l : Int → Int) : Prop where
  l01 : ∀ y, l y = 0 ∨ l y = 1
  succ : ∀ y, b (y + 1) = b y + 365 + l y
theorem Cal.le {b l : Int → Int} (c : Cal b l) {x y : Int} (h : x ≤ y) : b x + 365 * (y - x) ≤ b y := by
  have key : ∀ n : Nat, b x + 365 * n ≤ b (x + n) := by
    intro n
    induction n with
    | zero => simp
    | succ n ih =>
      have h1 := c.succ (x + n)
      have h2 := c.l01 (x + n)
      have e : x + ((n + 1 : Nat) : Int) = x + n + 1 := by omega
      rw [e]; omega
  have := key (y - x).toNat
  have e : x + ((y - x).toNat : Int) = y := by omega
  rw [e] at this; omega
theorem Is.year {b l : Int → Int} (c : Cal b l) {y m d day : Int} (h : Is b l y m d day) : b y < day ∧ day ≤ b (y + 1) := by
  have h1 := cum_bd (c.l01 y) h.m1 (by have := h.m2; omega)
  have h2 := cum_succ (l y) m h.m1 h.m2
  have h3 := cum_le (c.l01 y) (show 1 ≤ m + 1 by have := h.m1; omega) (show m + 1 ≤ 13 by have := h.m2; omega) (by omega)
  rw [cum_end] at h3
  have h4 := c.succ y
  have := h.d1; have := h.d2; have := h.e; have := h.m2
  omega
theorem year_one {b l : Int → Int} (c : Cal b l) {x y day : Int} (hx : b x < day) (hx' : day ≤ b (x + 1)) (hy : b y < day) (hy' : day ≤ b (y + 1)) : x = y := by
  by_cases h : x < y
  · have := c.le (show x + 1 ≤ y by omega); omega
  · by_cases h' : y < x
    · have := c.le (show y + 1 ≤ x by omega); omega
    · omega
theorem Is.one {b l : Int → Int} (c : Cal b l) {y m d y' m' d' day : Int} (h : Is b l y m d day) (h' : Is b l y' m' d' day) : y = y' ∧ m = m' ∧ d = d' := by
  have ey : y = y' := year_one c (h.year c).1 (h.year c).2 (h'.year c).1 (h'.year c).2
  subst ey
  have em : m = m' := by
    have := h.e; have := h'.e; have := h.d1; have := h'.d1; have := h.d2; have := h'.d2; have := h.m1; have := h.m2; have := h'.m1; have := h'.m2
    have s := cum_succ (l y) m h.m1 h.m2
    have s' := cum_succ (l y) m' h'.m1 h'.m2
    by_cases a : m < m'
    · have := cum_le (c.l01 y) (show 1 ≤ m + 1 by omega) (show m + 1 ≤ m' by omega) (by omega); omega
    · by_cases a' : m' < m
      · have := cum_le (c.l01 y) (show 1 ≤ m' + 1 by omega) (show m' + 1 ≤ m by omega) (by omega); omega
      · omega
  subst em
  have := h.e; have := h'.e
  exact ⟨rfl, rfl, by omega⟩
theorem greg : Cal ah lp := ⟨lp_01, ah_succ⟩

/-- The day with which week 1 of a year begins. -/
def wk (y s : Int) : Int := ah y - 2 + (s - (ah y - 2)) % 7

theorem wk_bd (y s : Int) : ah y - 2 ≤ wk y s ∧ wk y s ≤ ah y + 4 ∧ (wk y s - s) % 7 = 0 := by
  unfold wk
  generalize hj : ah y - 2 = j
  omega
/-- Days ahead of a Julian year. -/
def jb (y : Int) : Int := 365 * (y - 1) + (y - 1) / 4 - 2
def lj (y : Int) : Int := if y % 4 = 0 then 1 else 0
theorem lj_01 (y : Int) : lj y = 0 ∨ lj y = 1 := by unfold lj; split <;> simp
theorem jul : Cal jb lj := ⟨lj_01, fun y => by unfold jb lj; split <;> omega⟩
/-- Days ahead of a Coptic year. -/
def cb (y : Int) : Int := 103604 + 365 * (y - 1) + y / 4
/-- Days of a Coptic year's last month. -/
def lc (y : Int) : Int := if y % 4 = 3 then 6 else 5
theorem cb_succ (y : Int) : cb (y + 1) = cb y + 360 + lc y := by unfold cb lc; split <;> omega
theorem lc_56 (y : Int) : lc y = 5 ∨ lc y = 6 := by unfold lc; split <;> simp
structure IsC (y m d day : Int) : Prop where
  m1 : 1 ≤ m
  m2 : m ≤ 13
  d1 : 1 ≤ d
  d2 : d ≤ 30
  d3 : m = 13 → d ≤ lc y
  e : day = cb y + 30 * (m - 1) + d
theorem cb_le {x y : Int} (h : x ≤ y) : cb x + 365 * (y - x) ≤ cb y := by unfold cb; omega
theorem IsC.year {y m d day : Int} (h : IsC y m d day) : cb y < day ∧ day ≤ cb (y + 1) := by
  have := h.m1; have := h.m2; have := h.d1; have := h.d2; have := h.d3; have := h.e; have := cb_succ y; have := lc_56 y
  omega
theorem IsC.one {y m d y' m' d' day : Int} (h : IsC y m d day) (h' : IsC y' m' d' day) : y = y' ∧ m = m' ∧ d = d' := by
  have a := h.year; have a' := h'.year
  have ey : y = y' := by
    by_cases b : y < y'
    · have := cb_le (show y + 1 ≤ y' by omega); omega
    · by_cases b' : y' < y
      · have := cb_le (show y' + 1 ≤ y by omega); omega
      · omega
  subst ey
  have := h.e; have := h'.e; have := h.d1; have := h'.d1; have := h.d2; have := h'.d2
  exact ⟨rfl, by omega, by omega⟩
end Go.Proofs.YthppkdbelmolbaaDoor.Cal
/- What the program's day arithmetic (package rata) reckons, in plain numbers. -/
namespace Go.Proofs.YthppkdbelmolbaaDoor.FunA
open Go.RowKit Go.Proofs.YthppkdbelmolbaaDoorW.PrintWords Go.Proofs.YthppkdbelmolbaaDoorW.PrintLast Go.Proofs.YthppkdbelmolbaaDoor.Q Go.Proofs.YthppkdbelmolbaaDoor.Cal
def I64 (a : Int) : Prop := -9223372036854775808 ≤ a ∧ a ≤ 9223372036854775807
theorem quo (a b : Int) (hb : 0 < b) : Int.tdiv a b = if 0 ≤ a ∨ a % b = 0 then a / b else a / b + 1 := by
  rw [Int.tdiv_eq_ediv]
  have hd : b ∣ a ↔ a % b = 0 := Int.dvd_iff_emod_eq_zero
  by_cases h : 0 ≤ a ∨ a % b = 0
  · rw [if_pos h, if_pos (h.imp id hd.2)]; omega
  · rw [if_neg h, if_neg (fun k => h (k.imp id hd.1)), Int.sign_eq_one_of_pos hb]
theorem rem0 (a b : Int) : Int.tmod a b = 0 ↔ a % b = 0 := by
  rw [← Int.dvd_iff_tmod_eq_zero, Int.dvd_iff_emod_eq_zero]
theorem div_bd (a b : Int) (hb : 2 ≤ b) (ha : I64 a) : -4611686018427387905 ≤ a / b ∧ a / b ≤ 4611686018427387904 := by
  have h1 := Int.ediv_mul_le a (show b ≠ 0 by omega)
  have h2 := Int.lt_ediv_add_one_mul_self a (show 0 < b by omega)
  obtain ⟨ha, ha'⟩ := ha
  generalize a / b = q at *
  constructor
  · by_cases h : 0 ≤ q + 1
    · omega
    · have := Int.mul_le_mul_of_nonpos_left (show q + 1 ≤ 0 by omega) hb
      omega
  · by_cases h : q ≤ 0
    · omega
    · have := Int.mul_le_mul_of_nonneg_left hb (show 0 ≤ q by omega)
      omega
theorem rFloor (a b : Int) (hb : 2 ≤ b) (ha : I64 a) : rata_Floor.f a b = some (a / b) := by
  have hd := div_bd a b hb ha
  have hq := quo a b (by omega)
  unfold rata_Floor.f
  rw [if_neg (by omega)]
  by_cases h0 : a % b = 0
  · rw [if_pos ((rem0 a b).2 h0), hq, if_pos (Or.inr h0), w64 (by omega) (by omega)]
  · rw [if_neg (fun h => h0 ((rem0 a b).1 h)), hq]
    by_cases hn : a < 0
    · rw [if_pos (by simp [hn]; omega), if_neg (by omega), w64 (x := a / b + 1) (by omega) (by omega), w64 (by omega) (by omega)]
      congr 1; omega
    · rw [if_neg (by simp [hn]; omega), if_pos (by omega), w64 (by omega) (by omega)]
theorem wrap_sub (a x : Int) : wrap64 (a - wrap64 x) = wrap64 (a - x) := by unfold wrap64; omega
theorem rAhead (y : Int) (h : -40000 ≤ y) (h' : y ≤ 40000) : rata_ahead.f y = some (ah y) := by
  unfold rata_ahead.f
  have e : wrap64 (y - 1) = y - 1 := w64 (by omega) (by omega)
  rw [e, rFloor _ 4 (by omega) ⟨by omega, by omega⟩, rFloor _ 100 (by omega) ⟨by omega, by omega⟩, rFloor _ 400 (by omega) ⟨by omega, by omega⟩]
  simp only [Option.bind_some]
  congr 1
  unfold ah wrap64; omega
theorem ah_bd (y : Int) (h : -40000 ≤ y) (h' : y ≤ 40000) : -15000000 ≤ ah y ∧ ah y ≤ 15000000 := by unfold ah; omega
/-- A day of layer 1. -/
def In (day : Int) : Prop := 1 ≤ day ∧ day ≤ 3652059
theorem rOf (day : Int) : rata_Of.f day = some (decide (1 ≤ day) && decide (day ≤ 3652059)) := by
  unfold rata_Of.f
  by_cases h : day ≥ 1
  · rw [if_pos h, decide_eq_true (show 1 ≤ day from h)]; rfl
  · rw [if_neg h, decide_eq_false (show ¬ 1 ≤ day from h)]; rfl
theorem rOf_yes {day : Int} (h : In day) : rata_Of.f day = some true := by
  rw [rOf, decide_eq_true h.1, decide_eq_true h.2]; rfl
end Go.Proofs.YthppkdbelmolbaaDoor.FunA
/- What the program's package rata reckons of dates, in plain numbers. -/
namespace Go.Proofs.YthppkdbelmolbaaDoor.FunC
open Go.RowKit Go.Proofs.YthppkdbelmolbaaDoorW.PrintWords Go.Proofs.YthppkdbelmolbaaDoorW.PrintLast Go.Proofs.YthppkdbelmolbaaDoor.Q Go.Proofs.YthppkdbelmolbaaDoor.Cal Go.Proofs.YthppkdbelmolbaaDoor.FunA
theorem rLeap (y : Int) : rata_Leap.f y = some (decide (lp y = 1)) := by
  unfold rata_Leap.f lp
  by_cases a : y % 4 = 0
  · rw [if_pos ((rem0 y 4).2 a), if_pos a]
    by_cases b : y % 100 = 0
    · rw [if_pos ((rem0 y 100).2 b), if_pos b]
      by_cases c : y % 400 = 0
      · rw [if_pos c, (rem0 y 400).2 c]; rfl
      · rw [if_neg c]
        have : ¬ Int.tmod y 400 = 0 := fun h => c ((rem0 y 400).1 h)
        simp [this]
    · rw [if_neg (fun h => b ((rem0 y 100).1 h)), if_neg b]; simp
  · rw [if_neg (fun h => a ((rem0 y 4).1 h)), if_neg a]; simp
theorem rLength (k : Nat) (hk : 2 ≤ k) (y m : Int) : rata_Length.f k y m = some (dim (lp y) m) := by
  obtain ⟨k, rfl⟩ : ∃ j, k = j + 2 := ⟨k - 2, by omega⟩
  have hl := lp_01 y
  by_cases h : 1 ≤ m ∧ m ≤ 12
  · rcases months h.1 h.2 with e | e | e | e | e | e | e | e | e | e | e | e <;> subst e <;> simp [rata_Length.f, rata_Length.j0, rata_Length.j1, dim, rLeap]
    rcases hl with e | e <;> simp [e]
  · rw [dim_none _ _ (by omega)]
    unfold rata_Length.f
    rw [if_neg (by omega), if_neg (by omega), if_neg (by omega), if_neg (by omega), if_neg (by omega), if_neg (by omega)]
    have e12 : (m == 12) = false := beq_eq_false_iff_ne.2 (by omega)
    have e11 : (m == 11) = false := beq_eq_false_iff_ne.2 (by omega)
    rw [e12]
    simp only [rata_Length.j0]
    rw [if_neg (by simp), if_neg (by omega), if_neg (by omega), if_neg (by omega), e11]
    simp only [rata_Length.j1]
    rw [if_neg (by simp), if_neg (by omega)]
/-- A right Gregorian date. -/
def Right (y m d : Int) : Prop := 1 ≤ y ∧ y ≤ 9999 ∧ 1 ≤ d ∧ d ≤ dim (lp y) m
theorem rRight_yes (k : Nat) (hk : 2 ≤ k) (y m d : Int) (h : Right y m d) : rata_Right.f k y m d = some true := by
  unfold rata_Right.f
  rw [if_pos h.1, if_pos h.2.1, if_pos h.2.2.1, rLength k hk, Option.bind_some, decide_eq_true h.2.2.2]
theorem rRight_no (k : Nat) (hk : 2 ≤ k) (y m d : Int) (h : ¬ Right y m d) : rata_Right.f k y m d = some false := by
  unfold rata_Right.f
  by_cases a : y ≥ 1
  · by_cases b : y ≤ 9999
    · by_cases c : d ≥ 1
      · rw [if_pos a, if_pos b, if_pos c, rLength k hk, Option.bind_some, decide_eq_false (fun e => h ⟨a, b, c, e⟩)]
      · rw [if_pos a, if_pos b, if_neg c]
    · rw [if_pos a, if_neg b]
  · rw [if_neg a]
theorem rGone0 (y m : Int) (hm : m ≤ 12) : ∀ (j k : Nat) (n i : Int), 1 ≤ i → i ≤ m → m - i = j → j + 2 < k → 0 ≤ n → n + 31 * j ≤ 100000 →
    rata_gone.l0 k y m n i = some (n + cum (lp y) m - cum (lp y) i) := by
  intro j
  induction j with
  | zero =>
    intro k n i h1 h2 h3 h4 h5 h6
    obtain ⟨k, rfl⟩ : ∃ j, k = j + 1 := ⟨k - 1, by omega⟩
    simp only [rata_gone.l0]
    have : i = m := by omega
    subst this
    rw [if_neg (by omega)]; congr 1; omega
  | succ j ih =>
    intro k n i h1 h2 h3 h4 h5 h6
    obtain ⟨k, rfl⟩ : ∃ j, k = j + 1 := ⟨k - 1, by omega⟩
    have hd := dim_lo (lp y) i (lp_01 y) h1 (by omega)
    have hc := cum_succ (lp y) i h1 (by omega)
    simp only [rata_gone.l0]
    rw [if_pos (by omega), rLength k (by omega), Option.bind_some, w64 (by omega) (by omega), w64 (by omega) (by omega), ih k _ (i + 1) (by omega) (by omega) (by omega) (by omega) (by omega) (by omega)]
    congr 1; omega
theorem rGone (k : Nat) (hk : 16 ≤ k) (y m : Int) (h1 : 1 ≤ m) (h2 : m ≤ 12) : rata_gone.f k y m = some (cum (lp y) m) := by
  unfold rata_gone.f
  rw [rGone0 y m h2 (m - 1).toNat k 0 1 (by omega) h1 (by omega) (by omega) (by omega) (by omega), cum_one]; congr 1; omega
theorem rDay_yes (k : Nat) (hk : 16 ≤ k) (y m d : Int) (h : Right y m d) : rata_Day.f k y m d = some (ah y + cum (lp y) m + d, 0) := by
  have hm := dim_pos (lp y) m (by have := h.2.2; omega)
  have hd := dim_lo (lp y) m (lp_01 y) hm.1 hm.2
  have hb := ah_bd y (by have := h.1; omega) (by have := h.2.1; omega)
  have hc := cum_bd (lp_01 y) hm.1 (show m ≤ 13 by omega)
  have := h.2.2
  unfold rata_Day.f
  rw [rRight_yes k (by omega) y m d h, Option.bind_some, if_pos rfl, rAhead y (by have := h.1; omega) (by have := h.2.1; omega), rGone k hk y m hm.1 hm.2]
  simp only [Option.bind_some]
  rw [w64 (x := ah y + cum (lp y) m) (by omega) (by omega), w64 (by omega) (by omega)]
theorem rDay_no (k : Nat) (hk : 2 ≤ k) (y m d : Int) (h : ¬ Right y m d) : rata_Day.f k y m d = some (0, 2) := by
  unfold rata_Day.f
  rw [rRight_no k hk y m d h, Option.bind_some, if_neg (by simp)]
theorem Is.right {y m d day : Int} (h : Is ah lp y m d day) (hy : 1 ≤ y) (hy' : y ≤ 9999) : Right y m d := ⟨hy, hy', h.d1, h.d2⟩
end Go.Proofs.YthppkdbelmolbaaDoor.FunC
/- The clock laws' first look (awake) tells true. -/
namespace Go.Proofs.YthppkdbelmolbaaDoor.Awake7
open Go.RowKit Go.Proofs.YthppkdbelmolbaaDoorW.PrintWords Go.Proofs.YthppkdbelmolbaaDoorW.PrintLast Go.Proofs.YthppkdbelmolbaaDoor.Q Go.Proofs.YthppkdbelmolbaaDoor.Cal Go.Proofs.YthppkdbelmolbaaDoor.FunA Go.Proofs.YthppkdbelmolbaaDoor.FunC Go.Proofs.YthppkdbelmolbaaDoor.Fmt
set_option linter.unusedVariables false
set_option linter.unusedSimpArgs false
end Go.Proofs.YthppkdbelmolbaaDoor.Awake7
/- What clock.At and clock.Of reckon, in plain numbers. -/
namespace Go.Proofs.YthppkdbelmolbaaDoor.FunQ
open Go.RowKit Go.Proofs.YthppkdbelmolbaaDoorW.PrintWords Go.Proofs.YthppkdbelmolbaaDoorW.PrintLast Go.Proofs.YthppkdbelmolbaaDoor.Q Go.Proofs.YthppkdbelmolbaaDoor.Cal Go.Proofs.YthppkdbelmolbaaDoor.FunA Go.Proofs.YthppkdbelmolbaaDoor.FunC Go.Proofs.YthppkdbelmolbaaDoor.Awake7
theorem cAt_yes {day s : Int} (h : In day) (hs : 0 ≤ s) (hs' : s < 86400) : clock_At.f day s = some (86400 * day + s, 0) := by
  obtain ⟨h1, h2⟩ := h
  unfold clock_At.f
  rw [rOf_yes ⟨h1, h2⟩, Option.bind_some, if_pos rfl, if_neg (by omega), if_neg (by omega), w64 (x := day * 86400) (by omega) (by omega), w64 (by omega) (by omega)]
  have e : day * 86400 + s = 86400 * day + s := by omega
  rw [e]
theorem right_in {y m d : Int} (h : Right y m d) : In (ah y + cum (lp y) m + d) := by
  obtain ⟨h1, h2, h3, h4⟩ := h
  have hm := dim_pos (lp y) m (by omega)
  have hi : Is ah lp y m d (ah y + cum (lp y) m + d) := ⟨hm.1, hm.2, h3, h4, rfl⟩
  have hyy := hi.year greg
  have hs := ah_le h1
  have hs' := ah_le (show y + 1 ≤ 10000 by omega)
  have e1 : ah 1 = 0 := by decide
  have e2 : ah 10000 = 3652059 := by decide
  exact ⟨by omega, by omega⟩
end Go.Proofs.YthppkdbelmolbaaDoor.FunQ
