/- Texts of this claim, merged: Mtrystref08Formed. -/
import Derived.Test.YtddoidcbpcmlaaaDoorMgEventForms13
import Derived.Test.YtddoidcbpcmlaaaDoorMgEventForms31
import Derived.Test.YtddoidcbpcmlaaaDoorMgEventForms29
namespace Go.Proofs.YtddoidcbpcmlaaaDoor.M
open Go.RowKit Go.Proofs.YtddoidcbpcmlaaaDoorW.PrintWords Go.Proofs.YtddoidcbpcmlaaaDoorW.PrintLast Go.Proofs.YtddoidcbpcmlaaaDoorW.PrintMore
attribute [local go_sem] max2_int min2_int max_two min_two
set_option linter.unusedVariables false
set_option linter.unusedSimpArgs false
/-! ### trystref08_Formed: function 30 -/
mutual
def trystref08_Formed.j0 : Nat → Bool → ByteArray → List (S72) → ByteArray → Option (Bool)
 | 0, _, _, _, _ => none
 | k + 1, x22, x269000, x269001, x269002 => if x22 = true then (some false) else (trystref08_Formed.l0 k (x269001.length : Int) 0 x269000 x269001 x269002)
def trystref08_Formed.l0 : Nat → Int → Int → ByteArray → List (S72) → ByteArray → Option (Bool)
 | 0, _, _, _, _, _ => none
 | k + 1, x25, x26, x269000, x269001, x269002 => if x26 < x25 then (if 0 ≤ x26 then (if x26 < (x269001.length : Int) then ((trystref08_Name.f k ((rd_T72 x269001 x26).f0)).bind fun t273 => (if t273 = true then (if (((rd_T72 x269001 x26).f1).length : Int) < 1 then (trystref08_Formed.j2 k x26 x25 x26 true x269000 x269001 x269002 ((rd_T72 x269001 x26).f0) ((rd_T72 x269001 x26).f1)) else (trystref08_Formed.j2 k x26 x25 x26 (decide ((((rd_T72 x269001 x26).f1).length : Int) > 60)) x269000 x269001 x269002 ((rd_T72 x269001 x26).f0) ((rd_T72 x269001 x26).f1))) else (trystref08_Formed.j2 k x26 x25 x26 true x269000 x269001 x269002 ((rd_T72 x269001 x26).f0) ((rd_T72 x269001 x26).f1)))) else (none)) else (none)) else (some true)
def trystref08_Formed.j2 : Nat → Int → Int → Int → Bool → ByteArray → List (S72) → ByteArray → ByteArray → List ByteArray → Option (Bool)
 | 0, _, _, _, _, _, _, _, _, _ => none
 | k + 1, x3, x25, x26, x49, x269000, x269001, x269002, x273000, x273001 => if x49 = true then (some false) else (trystref08_Formed.l1 k x25 x26 x3 0 x269000 x269001 x269002 x273000 x273001)
def trystref08_Formed.l1 : Nat → Int → Int → Int → Int → ByteArray → List (S72) → ByteArray → ByteArray → List ByteArray → Option (Bool)
 | 0, _, _, _, _, _, _, _, _, _ => none
 | k + 1, x25, x26, x50, x51, x269000, x269001, x269002, x273000, x273001 => if x51 < x50 then (if 0 ≤ x51 then (if x51 < (x269001.length : Int) then (if ((rd_T72 x269001 x51).f0).toList = x273000.toList then (some false) else (trystref08_Formed.l1 k x25 x26 x50 (wrap64 (x51 + 1)) x269000 x269001 x269002 x273000 x273001)) else (none)) else (none)) else (trystref08_Formed.l2 k x25 x26 (x273001.length : Int) 0 x269000 x269001 x269002 x273000 x273001)
def trystref08_Formed.l2 : Nat → Int → Int → Int → Int → ByteArray → List (S72) → ByteArray → ByteArray → List ByteArray → Option (Bool)
 | 0, _, _, _, _, _, _, _, _, _ => none
 | k + 1, x25, x26, x66, x67, x269000, x269001, x269002, x273000, x273001 => if x67 < x66 then (if 0 ≤ x67 then (if x67 < (x273001.length : Int) then ((trystref08_Clean.f k (rdOf ByteArray.empty x273001 x67) true).bind fun t276 => (if t276 = 0 then (trystref08_Formed.l2 k x25 x26 x66 (wrap64 (x67 + 1)) x269000 x269001 x269002 x273000 x273001) else (some false))) else (none)) else (none)) else (trystref08_Formed.l0 k x25 (wrap64 (x26 + 1)) x269000 x269001 x269002)
end
def trystref08_Formed.f (k : Nat) (a0_0 : ByteArray) (l0_1 : List (S72)) (a0_2 : ByteArray) : Option (Bool) := (trystref08_Name.f k a0_0).bind fun t269 => (if t269 = true then (if (l0_1.length : Int) > 60 then (trystref08_Formed.j0 k true a0_0 l0_1 a0_2) else ((trystref08_Clean.f k a0_2 false).bind fun t270 => (trystref08_Formed.j0 k (t270 != 0) a0_0 l0_1 a0_2))) else (trystref08_Formed.j0 k true a0_0 l0_1 a0_2))
set_option maxHeartbeats 8000000 in
set_option maxRecDepth 100000 in
theorem trystref08_Formed.calls (k : Nat) (a0_0 : ByteArray) (A0_1 : Option Addr) (c0_1 : Nat) (l0_1 : List (S72)) (a0_2 : ByteArray) (r : Bool) (w : World) (hr0_1 : Kd.C k72 w A0_1 l0_1.length l0_1) (hc0_1 : l0_1.length ≤ c0_1) (h : trystref08_Formed.f k a0_0 l0_1 a0_2 = some r) :
  Calls Tryd.prog 30 #[.agg #[.string a0_0, .slice A0_1 l0_1.length c0_1, .string a0_2]] w fun e w' => e = .returned (.bool r) ∧ Below w.heap.size w w' := by
 have hu51 := Tryd.underlying51
 have hu72 := Tryd.underlying72
 have HR0_1 := Aside0.mk hr0_1
 have HC0_1 := Aside0.mk hc0_1
 clear hr0_1 hc0_1
 have HB := Aside0.mk (Below.refl w.heap.size w)
 have H : ((trystref08_Name.f k a0_0).bind fun t269 => (if t269 = true then (if (l0_1.length : Int) > 60 then (trystref08_Formed.j0 k true a0_0 l0_1 a0_2) else ((trystref08_Clean.f k a0_2 false).bind fun t270 => (trystref08_Formed.j0 k (t270 != 0) a0_0 l0_1 a0_2))) else (trystref08_Formed.j0 k true a0_0 l0_1 a0_2))) = some r := h
 clear h
 have HC2 := Aside0.mk H
 clear H
 go_enter Tryd.func30, Tryd.ntmps30
 go_upto_region 1 with (first | ((with_reducible refine gate_dst (N := 1) rfl ?_); (try (refine gate_guard (by rfl) ?_; dsimp only)); refine box_event ?hg (N := 1) ?hd (cs := #[.string a0_0, .slice A0_1 l0_1.length c0_1, .string a0_2]) (t := 51) ?hr ?_; (case hd => rfl); (case hg => rfl); (case hr => first | (go_simp; done) | (go_simp; rfl)); intro gb268 hg w3 hbox hb; have n0_ := Aside0.mk (below_step (by repeat (first | (with_reducible first | exact HB.out | apply below_alloc | apply pw_below_drewN | apply below_drew1) | exact HB.out)) hb); have n1_ := Aside0.mk (hbox); have n2_ := Aside0.mk ((by rw [hg]; exact (below_size (by repeat (first | (with_reducible first | exact HB.out | apply below_alloc | apply pw_below_drewN | apply below_drew1) | exact HB.out))) : w.heap.size ≤ gb268)); have n3_ := Aside0.mk ((by rw [hg]; exact (below_size (by repeat (first | (with_reducible first | exact HB.out | apply below_alloc | apply pw_below_drewN | apply below_drew1) | exact HB.out))) : w.heap.size ≤ gb268)); clear HB; have HB := n0_; have BK268 := n1_; have GW268 := n2_; have GE268 := n3_; clear n0_ n1_ n2_ n3_; clear hb hbox hg))
 repeat (go_quiet (first | ((with_reducible refine gate_dst (N := 1) rfl ?_); (try (refine gate_guard (by rfl) ?_; dsimp only)); refine box_event ?hg (N := 1) ?hd (cs := #[.string a0_0, .slice A0_1 l0_1.length c0_1, .string a0_2]) (t := 51) ?hr ?_; (case hd => rfl); (case hg => rfl); (case hr => first | (go_simp; done) | (go_simp; rfl)); intro gb268 hg w3 hbox hb; have n0_ := Aside0.mk (below_step (by repeat (first | (with_reducible first | exact HB.out | apply below_alloc | apply pw_below_drewN | apply below_drew1) | exact HB.out)) hb); have n1_ := Aside0.mk (hbox); have n2_ := Aside0.mk ((by rw [hg]; exact (below_size (by repeat (first | (with_reducible first | exact HB.out | apply below_alloc | apply pw_below_drewN | apply below_drew1) | exact HB.out))) : w.heap.size ≤ gb268)); have n3_ := Aside0.mk ((by rw [hg]; exact (below_size (by repeat (first | (with_reducible first | exact HB.out | apply below_alloc | apply pw_below_drewN | apply below_drew1) | exact HB.out))) : w.heap.size ≤ gb268)); clear HB; have HB := n0_; have BK268 := n1_; have GW268 := n2_; have GE268 := n3_; clear n0_ n1_ n2_ n3_; clear hb hbox hg)); go_upto_region 1 with (first | ((with_reducible refine gate_dst (N := 1) rfl ?_); (try (refine gate_guard (by rfl) ?_; dsimp only)); refine box_event ?hg (N := 1) ?hd (cs := #[.string a0_0, .slice A0_1 l0_1.length c0_1, .string a0_2]) (t := 51) ?hr ?_; (case hd => rfl); (case hg => rfl); (case hr => first | (go_simp; done) | (go_simp; rfl)); intro gb268 hg w3 hbox hb; have n0_ := Aside0.mk (below_step (by repeat (first | (with_reducible first | exact HB.out | apply below_alloc | apply pw_below_drewN | apply below_drew1) | exact HB.out)) hb); have n1_ := Aside0.mk (hbox); have n2_ := Aside0.mk ((by rw [hg]; exact (below_size (by repeat (first | (with_reducible first | exact HB.out | apply below_alloc | apply pw_below_drewN | apply below_drew1) | exact HB.out))) : w.heap.size ≤ gb268)); have n3_ := Aside0.mk ((by rw [hg]; exact (below_size (by repeat (first | (with_reducible first | exact HB.out | apply below_alloc | apply pw_below_drewN | apply below_drew1) | exact HB.out))) : w.heap.size ≤ gb268)); clear HB; have HB := n0_; have BK268 := n1_; have GW268 := n2_; have GE268 := n3_; clear n0_ n1_ n2_ n3_; clear hb hbox hg)))
 (try simp only [Act.put, List.setIfInBounds_toArray, List.set_cons_zero, List.set_cons_succ])
 go_cut [22] (fun v22 wc => ∃ (kq : Nat) (x22_1 : Bool), v22 = .bool x22_1 ∧ Aside0 (trystref08_Formed.j0 kq x22_1 a0_0 l0_1 a0_2 = some r) ∧ Aside0 (kq ≤ k) ∧ Aside0 (wc.heap[gb268]? = some (.cells #[.string a0_0, (.slice A0_1 l0_1.length c0_1), .string a0_2] 51 (0, 0))) ∧ Aside0 (Below w.heap.size w wc))
 case first =>
  have H := HC2.out
  clear HC2
  replace H := Option.bind_eq_some_iff.mp H
  obtain ⟨t269, A40, H⟩ := H
  replace H : (if t269 = true then (if (l0_1.length : Int) > 60 then (trystref08_Formed.j0 k true a0_0 l0_1 a0_2) else ((trystref08_Clean.f k a0_2 false).bind fun t270 => (trystref08_Formed.j0 k (t270 != 0) a0_0 l0_1 a0_2))) else (trystref08_Formed.j0 k true a0_0 l0_1 a0_2)) = some r := H
  have A4 := Aside0.mk A40
  clear A40
  by_cases c5 : t269 = true
  ·subst c5
   have H1 : (if (l0_1.length : Int) > 60 then (trystref08_Formed.j0 k true a0_0 l0_1 a0_2) else ((trystref08_Clean.f k a0_2 false).bind fun t270 => (trystref08_Formed.j0 k (t270 != 0) a0_0 l0_1 a0_2))) = some r := by rw [if_pos rfl] at H; exact H
   clear H
   have H := H1
   clear H1
   by_cases c6 : (l0_1.length : Int) > 60
   ·rw [if_pos c6] at H
    have c6b0 : decide (60 < (l0_1.length : Int)) = true := decide_eq_true c6
    have c6b1 : decide (60 < l0_1.length) = true := decide_eq_true (by omega)
    clear c6
    (first | rw [c6b0] | (simp only [i64_w, i32_w]; rw [c6b0]) | skip)
    have H' := Aside0.mk H
    clear H
    have hcz7_0 : w3.cell? ⟨gb268, 0, none⟩ = some (.string a0_0) := (blk_cell BK268.out 0).trans rfl
    have hcz7_1 : w3.cell? ⟨gb268, 1, none⟩ = some (.slice A0_1 l0_1.length c0_1) := (blk_cell BK268.out 1).trans rfl
    have hcz7_2 : w3.cell? ⟨gb268, 2, none⟩ = some (.string a0_2) := (blk_cell BK268.out 2).trans rfl
    have hfz7_0 := blk_frozen BK268.out 0
    have hfz7_1 := blk_frozen BK268.out 1
    have hfz7_2 := blk_frozen BK268.out 2
    go_wp2_with (first | (go_at_call 49; (with_reducible refine (trystref08_Name.calls k a0_0 true _ A4.out).mono ?_); rintro e w' ⟨rfl, ⟨nd, rfl⟩⟩; (try first | exact ⟨rfl, _, World.drewN_drewN _ _ _⟩ | exact ⟨rfl, _, Eq.trans (World.drewN_drewN _ _ _) (congrArg (World.drewN _) (Nat.add_assoc _ _ _))⟩)))
    repeat (go_quiet (first | (go_at_call 49; (with_reducible refine (trystref08_Name.calls k a0_0 true _ A4.out).mono ?_); rintro e w' ⟨rfl, ⟨nd, rfl⟩⟩; (try first | exact ⟨rfl, _, World.drewN_drewN _ _ _⟩ | exact ⟨rfl, _, Eq.trans (World.drewN_drewN _ _ _) (congrArg (World.drewN _) (Nat.add_assoc _ _ _))⟩))); try go_wp2_with (first | (go_at_call 49; (with_reducible refine (trystref08_Name.calls k a0_0 true _ A4.out).mono ?_); rintro e w' ⟨rfl, ⟨nd, rfl⟩⟩; (try first | exact ⟨rfl, _, World.drewN_drewN _ _ _⟩ | exact ⟨rfl, _, Eq.trans (World.drewN_drewN _ _ _) (congrArg (World.drewN _) (Nat.add_assoc _ _ _))⟩))))
    go_meet
    case rel => exact ⟨_, (true), (by first | rfl | (simp; done) | (simp [*]; done)), H', ⟨by first | omega | exact Nat.le_refl _⟩, ⟨by (with_reducible repeat (first | refine blk_drewN ?_ _ | refine blk_drew ?_ | refine blk_alloc ?_ _)); exact BK268.out⟩, ⟨by repeat (first | (with_reducible first | exact HB.out | apply below_alloc | apply pw_below_drewN | apply below_drew1 | refine below_set ?_ GE268.out) | exact HB.out)⟩⟩
   ·rw [if_neg c6] at H
    have c6b0 : decide (60 < (l0_1.length : Int)) = false := decide_eq_false c6
    have c6b1 : decide (60 < l0_1.length) = false := decide_eq_false (by omega)
    clear c6
    (first | rw [c6b0] | (simp only [i64_w, i32_w]; rw [c6b0]) | skip)
    replace H := Option.bind_eq_some_iff.mp H
    obtain ⟨t270, A80, H⟩ := H
    replace H : (trystref08_Formed.j0 k (t270 != 0) a0_0 l0_1 a0_2) = some r := H
    have A8 := Aside0.mk A80
    clear A80
    have H' := Aside0.mk H
    clear H
    have hcz9_0 : w3.cell? ⟨gb268, 0, none⟩ = some (.string a0_0) := (blk_cell BK268.out 0).trans rfl
    have hcz9_1 : w3.cell? ⟨gb268, 1, none⟩ = some (.slice A0_1 l0_1.length c0_1) := (blk_cell BK268.out 1).trans rfl
    have hcz9_2 : w3.cell? ⟨gb268, 2, none⟩ = some (.string a0_2) := (blk_cell BK268.out 2).trans rfl
    have hfz9_0 := blk_frozen BK268.out 0
    have hfz9_1 := blk_frozen BK268.out 1
    have hfz9_2 := blk_frozen BK268.out 2
    go_wp2_with (first | (go_at_call 49; (with_reducible refine (trystref08_Name.calls k a0_0 true _ A4.out).mono ?_); rintro e w' ⟨rfl, ⟨nd, rfl⟩⟩; (try first | exact ⟨rfl, _, World.drewN_drewN _ _ _⟩ | exact ⟨rfl, _, Eq.trans (World.drewN_drewN _ _ _) (congrArg (World.drewN _) (Nat.add_assoc _ _ _))⟩)) | (go_at_call 48; (with_reducible refine (trystref08_Clean.calls k a0_2 false t270 _ A8.out).mono ?_); rintro e w' ⟨rfl, ⟨nd, rfl⟩⟩; (try first | exact ⟨rfl, _, World.drewN_drewN _ _ _⟩ | exact ⟨rfl, _, Eq.trans (World.drewN_drewN _ _ _) (congrArg (World.drewN _) (Nat.add_assoc _ _ _))⟩)))
    repeat (go_quiet (first | (go_at_call 49; (with_reducible refine (trystref08_Name.calls k a0_0 true _ A4.out).mono ?_); rintro e w' ⟨rfl, ⟨nd, rfl⟩⟩; (try first | exact ⟨rfl, _, World.drewN_drewN _ _ _⟩ | exact ⟨rfl, _, Eq.trans (World.drewN_drewN _ _ _) (congrArg (World.drewN _) (Nat.add_assoc _ _ _))⟩)) | (go_at_call 48; (with_reducible refine (trystref08_Clean.calls k a0_2 false t270 _ A8.out).mono ?_); rintro e w' ⟨rfl, ⟨nd, rfl⟩⟩; (try first | exact ⟨rfl, _, World.drewN_drewN _ _ _⟩ | exact ⟨rfl, _, Eq.trans (World.drewN_drewN _ _ _) (congrArg (World.drewN _) (Nat.add_assoc _ _ _))⟩))); try go_wp2_with (first | (go_at_call 49; (with_reducible refine (trystref08_Name.calls k a0_0 true _ A4.out).mono ?_); rintro e w' ⟨rfl, ⟨nd, rfl⟩⟩; (try first | exact ⟨rfl, _, World.drewN_drewN _ _ _⟩ | exact ⟨rfl, _, Eq.trans (World.drewN_drewN _ _ _) (congrArg (World.drewN _) (Nat.add_assoc _ _ _))⟩)) | (go_at_call 48; (with_reducible refine (trystref08_Clean.calls k a0_2 false t270 _ A8.out).mono ?_); rintro e w' ⟨rfl, ⟨nd, rfl⟩⟩; (try first | exact ⟨rfl, _, World.drewN_drewN _ _ _⟩ | exact ⟨rfl, _, Eq.trans (World.drewN_drewN _ _ _) (congrArg (World.drewN _) (Nat.add_assoc _ _ _))⟩))))
    go_meet
    case rel => exact ⟨_, ((t270 != 0)), (by first | rfl | (simp; done) | (simp [*]; done)), H', ⟨by first | omega | exact Nat.le_refl _⟩, ⟨by (with_reducible repeat (first | refine blk_drewN ?_ _ | refine blk_drew ?_ | refine blk_alloc ?_ _)); exact BK268.out⟩, ⟨by repeat (first | (with_reducible first | exact HB.out | apply below_alloc | apply pw_below_drewN | apply below_drew1 | refine below_set ?_ GE268.out) | exact HB.out)⟩⟩
  ·replace c5 := Bool.eq_false_iff.mpr c5
   subst c5
   have H1 : (trystref08_Formed.j0 k true a0_0 l0_1 a0_2) = some r := by rw [if_neg (show ¬ (false = true) by decide)] at H; exact H
   clear H
   have H := H1
   clear H1
   have H' := Aside0.mk H
   clear H
   have hcz10_0 : w3.cell? ⟨gb268, 0, none⟩ = some (.string a0_0) := (blk_cell BK268.out 0).trans rfl
   have hcz10_1 : w3.cell? ⟨gb268, 1, none⟩ = some (.slice A0_1 l0_1.length c0_1) := (blk_cell BK268.out 1).trans rfl
   have hcz10_2 : w3.cell? ⟨gb268, 2, none⟩ = some (.string a0_2) := (blk_cell BK268.out 2).trans rfl
   have hfz10_0 := blk_frozen BK268.out 0
   have hfz10_1 := blk_frozen BK268.out 1
   have hfz10_2 := blk_frozen BK268.out 2
   go_wp2_with (first | (go_at_call 49; (with_reducible refine (trystref08_Name.calls k a0_0 false _ A4.out).mono ?_); rintro e w' ⟨rfl, ⟨nd, rfl⟩⟩; (try first | exact ⟨rfl, _, World.drewN_drewN _ _ _⟩ | exact ⟨rfl, _, Eq.trans (World.drewN_drewN _ _ _) (congrArg (World.drewN _) (Nat.add_assoc _ _ _))⟩)))
   repeat (go_quiet (first | (go_at_call 49; (with_reducible refine (trystref08_Name.calls k a0_0 false _ A4.out).mono ?_); rintro e w' ⟨rfl, ⟨nd, rfl⟩⟩; (try first | exact ⟨rfl, _, World.drewN_drewN _ _ _⟩ | exact ⟨rfl, _, Eq.trans (World.drewN_drewN _ _ _) (congrArg (World.drewN _) (Nat.add_assoc _ _ _))⟩))); try go_wp2_with (first | (go_at_call 49; (with_reducible refine (trystref08_Name.calls k a0_0 false _ A4.out).mono ?_); rintro e w' ⟨rfl, ⟨nd, rfl⟩⟩; (try first | exact ⟨rfl, _, World.drewN_drewN _ _ _⟩ | exact ⟨rfl, _, Eq.trans (World.drewN_drewN _ _ _) (congrArg (World.drewN _) (Nat.add_assoc _ _ _))⟩))))
   go_meet
   case rel => exact ⟨_, (true), (by first | rfl | (simp; done) | (simp [*]; done)), H', ⟨by first | omega | exact Nat.le_refl _⟩, ⟨by (with_reducible repeat (first | refine blk_drewN ?_ _ | refine blk_drew ?_ | refine blk_alloc ?_ _)); exact BK268.out⟩, ⟨by repeat (first | (with_reducible first | exact HB.out | apply below_alloc | apply pw_below_drewN | apply below_drew1 | refine below_set ?_ GE268.out) | exact HB.out)⟩⟩
 case rest =>
  clear HC2
  try clear p2
  try clear c3
  try clear c5
  try clear c6
  try clear c6b0
  try clear c6b1
  try clear hcz10_0
  try clear hcz10_1
  try clear hcz10_2
  try clear hcz7_0
  try clear hcz7_1
  try clear hcz7_2
  try clear hcz9_0
  try clear hcz9_1
  try clear hcz9_2
  try clear hfz10_0
  try clear hfz10_1
  try clear hfz10_2
  try clear hfz7_0
  try clear hfz7_1
  try clear hfz7_2
  try clear hfz9_0
  try clear hfz9_1
  try clear hfz9_2
  obtain ⟨kq, x22_1, rfl, HA, HJ1, BK268, HB⟩ := hcut
  cases kq with
  | zero => exact absurd HA.out (by simp [trystref08_Formed.j0])
  | succ kj1 =>
   have H := HA.out
   clear HA
   simp only [trystref08_Formed.j0] at H
   by_cases c11 : x22_1 = true
   ·subst c11
    have H1 : (some false) = some r := by rw [if_pos rfl] at H; exact H
    clear H
    have H := H1
    clear H1
    obtain rfl := Option.some.inj H
    go_wp2
    repeat (go_quiet (fail); try go_wp2)
    go_ret
    exact ⟨by first | rfl | (simp [i64_w]; done) | (simp [errW_none, errW_some] <;> rfl) | (simp [*, errW_none, errW_some] <;> rfl), by repeat (first | (with_reducible first | exact HB.out | apply below_alloc | apply pw_below_drewN | apply below_drew1 | refine below_set ?_ GE268.out) | exact HB.out)⟩
   ·replace c11 := Bool.eq_false_iff.mpr c11
    subst c11
    have H1 : (trystref08_Formed.l0 kj1 (l0_1.length : Int) 0 a0_0 l0_1 a0_2) = some r := by rw [if_neg (show ¬ (false = true) by decide)] at H; exact H
    clear H
    have H := H1
    clear H1
    have H' := Aside0.mk H
    clear H
    have hcz12_0 : wc.cell? ⟨gb268, 0, none⟩ = some (.string a0_0) := (blk_cell BK268.out 0).trans rfl
    have hcz12_1 : wc.cell? ⟨gb268, 1, none⟩ = some (.slice A0_1 l0_1.length c0_1) := (blk_cell BK268.out 1).trans rfl
    have hcz12_2 : wc.cell? ⟨gb268, 2, none⟩ = some (.string a0_2) := (blk_cell BK268.out 2).trans rfl
    have hfz12_0 := blk_frozen BK268.out 0
    have hfz12_1 := blk_frozen BK268.out 1
    have hfz12_2 := blk_frozen BK268.out 2
    go_wp2
    repeat (go_quiet (fail); try go_wp2)
    go_loopg [26] kj1 (fun kq v26 w' => ∃ (x26_2 : Int), v26 = .int .i64 x26_2 ∧ Aside0 (trystref08_Formed.l0 kq (l0_1.length : Int) x26_2 a0_0 l0_1 a0_2 = some r) ∧ Aside0 (kq ≤ kj1) ∧ Aside0 (w'.heap[gb268]? = some (.cells #[.string a0_0, (.slice A0_1 l0_1.length c0_1), .string a0_2] 51 (0, 0))) ∧ Aside0 (Below w.heap.size w w'))
    case atStart => exact ⟨(0), (by first | rfl | (simp; done) | (simp [*]; done)), H', ⟨Nat.le_refl _⟩, ⟨by (with_reducible repeat (first | refine blk_drewN ?_ _ | refine blk_drew ?_ | refine blk_alloc ?_ _)); exact BK268.out⟩, ⟨by repeat (first | (with_reducible first | exact HB.out | apply below_alloc | apply pw_below_drewN | apply below_drew1 | refine below_set ?_ GE268.out) | exact HB.out)⟩⟩
    case round =>
     clear H'
     try clear c1
     try clear p2
     try clear c3
     try clear c5
     try clear c6
     try clear c6b0
     try clear c6b1
     try clear c11
     try clear hcz10_0
     try clear hcz10_1
     try clear hcz10_2
     try clear hcz12_0
     try clear hcz12_1
     try clear hcz12_2
     try clear hcz7_0
     try clear hcz7_1
     try clear hcz7_2
     try clear hcz9_0
     try clear hcz9_1
     try clear hcz9_2
     try clear hfz10_0
     try clear hfz10_1
     try clear hfz10_2
     try clear hfz12_0
     try clear hfz12_1
     try clear hfz12_2
     try clear hfz7_0
     try clear hfz7_1
     try clear hfz7_2
     try clear hfz9_0
     try clear hfz9_1
     try clear hfz9_2
     try clear p2
     obtain ⟨x26_2, rfl, HA, HK2, BK268, HB⟩ := hrel
     cases gk with
     | zero => exact absurd HA.out (by simp [trystref08_Formed.l0])
     | succ k2 =>
      have H := HA.out
      clear HA
      simp only [trystref08_Formed.l0] at H
      by_cases c13 : x26_2 < (l0_1.length : Int)
      ·rw [if_pos c13] at H
       have c13b0 : decide (x26_2 < (l0_1.length : Int)) = true := decide_eq_true c13
       clear c13
       by_cases c14 : 0 ≤ x26_2
       ·rw [if_pos c14] at H
        have c14b0 : decide (0 ≤ x26_2) = true := decide_eq_true c14
        clear c14
        by_cases c15 : x26_2 < (l0_1.length : Int)
        ·rw [if_pos c15] at H
         have c15b0 : decide (x26_2 < (l0_1.length : Int)) = true := decide_eq_true c15
         clear c15
         have HC16 := Aside0.mk H
         clear H
         have hcz17_0 : wr.cell? ⟨gb268, 0, none⟩ = some (.string a0_0) := (blk_cell BK268.out 0).trans rfl
         have hcz17_1 : wr.cell? ⟨gb268, 1, none⟩ = some (.slice A0_1 l0_1.length c0_1) := (blk_cell BK268.out 1).trans rfl
         have hcz17_2 : wr.cell? ⟨gb268, 2, none⟩ = some (.string a0_2) := (blk_cell BK268.out 2).trans rfl
         have hfz17_0 := blk_frozen BK268.out 0
         have hfz17_1 := blk_frozen BK268.out 1
         have hfz17_2 := blk_frozen BK268.out 2
         have p271 : 0 ≤ (x26_2 : Int) := of_decide_eq_true (by first | (with_reducible assumption) | assumption)
         have q271 : x26_2 < (l0_1.length : Int) := of_decide_eq_true (by first | (with_reducible assumption) | assumption)
         obtain ⟨ad271, A271_1, c271_1, e271, hx271_0, hx271_1, hl271_1, hi271_1⟩ := at_T72 HR0_1.out x26_2 p271 q271
         cases e271
         replace hx271_0 := (HB.out.cell (World.block_lt_of_cell? w _ hx271_0)).trans hx271_0
         replace hx271_1 := (HB.out.cell (World.block_lt_of_cell? w _ hx271_1)).trans hx271_1
         have HR271_1 := Aside0.mk hi271_1
         have HC271_1 := Aside0.mk hl271_1
         clear hi271_1 hl271_1
         replace p271 := eq_true p271
         replace q271 := eq_true q271
         go_upto_region 7 with (first | ((with_reducible refine gate_dst (N := 4) rfl ?_); (try (refine gate_guard (by rfl) ?_; dsimp only)); refine box_event ?hg (N := 4) ?hd (cs := #[.string (⟨#[]⟩ : ByteArray), .slice none 0 0]) (t := 72) ?hr ?_; (case hd => rfl); (case hg => rfl); (case hr => first | (go_simp; done) | (go_simp; rfl)); intro gb272 hg w18 hbox hb; have n0_ := Aside0.mk (blk_below (g := gb268) (o := .cells #[.string a0_0, .slice (some ad271) l0_1.length c0_1, .string a0_2] 51 (0, 0)) (by (with_reducible repeat (first | refine blk_drewN ?_ _ | refine blk_drew ?_ | refine blk_alloc ?_ _)); exact BK268.out) hb); have n1_ := Aside0.mk (below_step (by repeat (first | (with_reducible first | exact HB.out | apply below_alloc | apply pw_below_drewN | apply below_drew1 | refine below_set ?_ GE268.out) | exact HB.out)) hb); have n2_ := Aside0.mk (hbox); have n3_ := Aside0.mk ((by rw [hg]; exact (below_size (by repeat (first | (with_reducible first | exact HB.out | apply below_alloc | apply pw_below_drewN | apply below_drew1 | refine below_set ?_ GE268.out) | exact HB.out))) : w.heap.size ≤ gb272)); have n4_ := Aside0.mk ((by rw [hg]; exact (below_size (by repeat (first | (with_reducible first | exact HB.out | apply below_alloc | apply pw_below_drewN | apply below_drew1 | refine below_set ?_ GE268.out) | exact HB.out))) : w.heap.size ≤ gb272)); have n5_ := Aside0.mk ((by rw [hg]; exact Nat.ne_of_lt (blk_lt (g := gb268) (o := .cells #[.string a0_0, .slice (some ad271) l0_1.length c0_1, .string a0_2] 51 (0, 0)) (by (with_reducible repeat (first | refine blk_drewN ?_ _ | refine blk_drew ?_ | refine blk_alloc ?_ _)); exact BK268.out)) : gb268 ≠ gb272)); have n6_ := Aside0.mk ((by rw [hg]; exact Nat.ne_of_gt (blk_lt (g := gb268) (o := .cells #[.string a0_0, .slice (some ad271) l0_1.length c0_1, .string a0_2] 51 (0, 0)) (by (with_reducible repeat (first | refine blk_drewN ?_ _ | refine blk_drew ?_ | refine blk_alloc ?_ _)); exact BK268.out)) : gb272 ≠ gb268)); clear BK268; clear HB; have BK268 := n0_; have HB := n1_; have BK272 := n2_; have GW272 := n3_; have GE272 := n4_; have NB268_272 := n5_; have NB272_268 := n6_; clear n0_ n1_ n2_ n3_ n4_ n5_ n6_; clear hb hbox hg; have hnb19 := NB272_268.out; have hnc19 := NB268_272.out; have hcz20_0 : w18.cell? ⟨gb272, 0, none⟩ = some (.string (⟨#[]⟩ : ByteArray)) := (blk_cell BK272.out 0).trans rfl; have hcz20_1 : w18.cell? ⟨gb272, 1, none⟩ = some (.slice none 0 0) := (blk_cell BK272.out 1).trans rfl; have hfz20_0 := blk_frozen BK272.out 0; have hfz20_1 := blk_frozen BK272.out 1))
         repeat (go_quiet (first | ((with_reducible refine gate_dst (N := 4) rfl ?_); (try (refine gate_guard (by rfl) ?_; dsimp only)); refine box_event ?hg (N := 4) ?hd (cs := #[.string (⟨#[]⟩ : ByteArray), .slice none 0 0]) (t := 72) ?hr ?_; (case hd => rfl); (case hg => rfl); (case hr => first | (go_simp; done) | (go_simp; rfl)); intro gb272 hg w18 hbox hb; have n0_ := Aside0.mk (blk_below (g := gb268) (o := .cells #[.string a0_0, .slice (some ad271) l0_1.length c0_1, .string a0_2] 51 (0, 0)) (by (with_reducible repeat (first | refine blk_drewN ?_ _ | refine blk_drew ?_ | refine blk_alloc ?_ _)); exact BK268.out) hb); have n1_ := Aside0.mk (below_step (by repeat (first | (with_reducible first | exact HB.out | apply below_alloc | apply pw_below_drewN | apply below_drew1 | refine below_set ?_ GE268.out) | exact HB.out)) hb); have n2_ := Aside0.mk (hbox); have n3_ := Aside0.mk ((by rw [hg]; exact (below_size (by repeat (first | (with_reducible first | exact HB.out | apply below_alloc | apply pw_below_drewN | apply below_drew1 | refine below_set ?_ GE268.out) | exact HB.out))) : w.heap.size ≤ gb272)); have n4_ := Aside0.mk ((by rw [hg]; exact (below_size (by repeat (first | (with_reducible first | exact HB.out | apply below_alloc | apply pw_below_drewN | apply below_drew1 | refine below_set ?_ GE268.out) | exact HB.out))) : w.heap.size ≤ gb272)); have n5_ := Aside0.mk ((by rw [hg]; exact Nat.ne_of_lt (blk_lt (g := gb268) (o := .cells #[.string a0_0, .slice (some ad271) l0_1.length c0_1, .string a0_2] 51 (0, 0)) (by (with_reducible repeat (first | refine blk_drewN ?_ _ | refine blk_drew ?_ | refine blk_alloc ?_ _)); exact BK268.out)) : gb268 ≠ gb272)); have n6_ := Aside0.mk ((by rw [hg]; exact Nat.ne_of_gt (blk_lt (g := gb268) (o := .cells #[.string a0_0, .slice (some ad271) l0_1.length c0_1, .string a0_2] 51 (0, 0)) (by (with_reducible repeat (first | refine blk_drewN ?_ _ | refine blk_drew ?_ | refine blk_alloc ?_ _)); exact BK268.out)) : gb272 ≠ gb268)); clear BK268; clear HB; have BK268 := n0_; have HB := n1_; have BK272 := n2_; have GW272 := n3_; have GE272 := n4_; have NB268_272 := n5_; have NB272_268 := n6_; clear n0_ n1_ n2_ n3_ n4_ n5_ n6_; clear hb hbox hg; have hnb19 := NB272_268.out; have hnc19 := NB268_272.out; have hcz20_0 : w18.cell? ⟨gb272, 0, none⟩ = some (.string (⟨#[]⟩ : ByteArray)) := (blk_cell BK272.out 0).trans rfl; have hcz20_1 : w18.cell? ⟨gb272, 1, none⟩ = some (.slice none 0 0) := (blk_cell BK272.out 1).trans rfl; have hfz20_0 := blk_frozen BK272.out 0; have hfz20_1 := blk_frozen BK272.out 1)); go_upto_region 7 with (first | ((with_reducible refine gate_dst (N := 4) rfl ?_); (try (refine gate_guard (by rfl) ?_; dsimp only)); refine box_event ?hg (N := 4) ?hd (cs := #[.string (⟨#[]⟩ : ByteArray), .slice none 0 0]) (t := 72) ?hr ?_; (case hd => rfl); (case hg => rfl); (case hr => first | (go_simp; done) | (go_simp; rfl)); intro gb272 hg w18 hbox hb; have n0_ := Aside0.mk (blk_below (g := gb268) (o := .cells #[.string a0_0, .slice (some ad271) l0_1.length c0_1, .string a0_2] 51 (0, 0)) (by (with_reducible repeat (first | refine blk_drewN ?_ _ | refine blk_drew ?_ | refine blk_alloc ?_ _)); exact BK268.out) hb); have n1_ := Aside0.mk (below_step (by repeat (first | (with_reducible first | exact HB.out | apply below_alloc | apply pw_below_drewN | apply below_drew1 | refine below_set ?_ GE268.out) | exact HB.out)) hb); have n2_ := Aside0.mk (hbox); have n3_ := Aside0.mk ((by rw [hg]; exact (below_size (by repeat (first | (with_reducible first | exact HB.out | apply below_alloc | apply pw_below_drewN | apply below_drew1 | refine below_set ?_ GE268.out) | exact HB.out))) : w.heap.size ≤ gb272)); have n4_ := Aside0.mk ((by rw [hg]; exact (below_size (by repeat (first | (with_reducible first | exact HB.out | apply below_alloc | apply pw_below_drewN | apply below_drew1 | refine below_set ?_ GE268.out) | exact HB.out))) : w.heap.size ≤ gb272)); have n5_ := Aside0.mk ((by rw [hg]; exact Nat.ne_of_lt (blk_lt (g := gb268) (o := .cells #[.string a0_0, .slice (some ad271) l0_1.length c0_1, .string a0_2] 51 (0, 0)) (by (with_reducible repeat (first | refine blk_drewN ?_ _ | refine blk_drew ?_ | refine blk_alloc ?_ _)); exact BK268.out)) : gb268 ≠ gb272)); have n6_ := Aside0.mk ((by rw [hg]; exact Nat.ne_of_gt (blk_lt (g := gb268) (o := .cells #[.string a0_0, .slice (some ad271) l0_1.length c0_1, .string a0_2] 51 (0, 0)) (by (with_reducible repeat (first | refine blk_drewN ?_ _ | refine blk_drew ?_ | refine blk_alloc ?_ _)); exact BK268.out)) : gb272 ≠ gb268)); clear BK268; clear HB; have BK268 := n0_; have HB := n1_; have BK272 := n2_; have GW272 := n3_; have GE272 := n4_; have NB268_272 := n5_; have NB272_268 := n6_; clear n0_ n1_ n2_ n3_ n4_ n5_ n6_; clear hb hbox hg; have hnb19 := NB272_268.out; have hnc19 := NB268_272.out; have hcz20_0 : w18.cell? ⟨gb272, 0, none⟩ = some (.string (⟨#[]⟩ : ByteArray)) := (blk_cell BK272.out 0).trans rfl; have hcz20_1 : w18.cell? ⟨gb272, 1, none⟩ = some (.slice none 0 0) := (blk_cell BK272.out 1).trans rfl; have hfz20_0 := blk_frozen BK272.out 0; have hfz20_1 := blk_frozen BK272.out 1)))
         (try simp only [Act.put, List.setIfInBounds_toArray, List.set_cons_zero, List.set_cons_succ])
         go_cut [49] (fun v49 wc => ∃ (kq : Nat) (x49_15 : Bool), v49 = .bool x49_15 ∧ Aside0 (trystref08_Formed.j2 kq x26_2 (l0_1.length : Int) x26_2 x49_15 a0_0 l0_1 a0_2 ((rd_T72 l0_1 x26_2).f0) ((rd_T72 l0_1 x26_2).f1) = some r) ∧ Aside0 (kq ≤ k2) ∧ Aside0 (wc.heap[gb268]? = some (.cells #[.string a0_0, (.slice (some ad271) l0_1.length c0_1), .string a0_2] 51 (0, 0))) ∧ Aside0 (wc.heap[gb272]? = some (.cells #[.string ((rd_T72 l0_1 x26_2).f0), (.slice A271_1 ((rd_T72 l0_1 x26_2).f1).length c271_1)] 72 (0, 0))) ∧ Aside0 (Below w.heap.size w wc))
         case first =>
          have H := HC16.out
          clear HC16
          replace H := Option.bind_eq_some_iff.mp H
          obtain ⟨t273, A210, H⟩ := H
          replace H : (if t273 = true then (if (((rd_T72 l0_1 x26_2).f1).length : Int) < 1 then (trystref08_Formed.j2 k2 x26_2 (l0_1.length : Int) x26_2 true a0_0 l0_1 a0_2 ((rd_T72 l0_1 x26_2).f0) ((rd_T72 l0_1 x26_2).f1)) else (trystref08_Formed.j2 k2 x26_2 (l0_1.length : Int) x26_2 (decide ((((rd_T72 l0_1 x26_2).f1).length : Int) > 60)) a0_0 l0_1 a0_2 ((rd_T72 l0_1 x26_2).f0) ((rd_T72 l0_1 x26_2).f1))) else (trystref08_Formed.j2 k2 x26_2 (l0_1.length : Int) x26_2 true a0_0 l0_1 a0_2 ((rd_T72 l0_1 x26_2).f0) ((rd_T72 l0_1 x26_2).f1))) = some r := H
          have A21 := Aside0.mk A210
          clear A210
          by_cases c22 : t273 = true
          ·subst c22
           have H1 : (if (((rd_T72 l0_1 x26_2).f1).length : Int) < 1 then (trystref08_Formed.j2 k2 x26_2 (l0_1.length : Int) x26_2 true a0_0 l0_1 a0_2 ((rd_T72 l0_1 x26_2).f0) ((rd_T72 l0_1 x26_2).f1)) else (trystref08_Formed.j2 k2 x26_2 (l0_1.length : Int) x26_2 (decide ((((rd_T72 l0_1 x26_2).f1).length : Int) > 60)) a0_0 l0_1 a0_2 ((rd_T72 l0_1 x26_2).f0) ((rd_T72 l0_1 x26_2).f1))) = some r := by rw [if_pos rfl] at H; exact H
           clear H
           have H := H1
           clear H1
           by_cases c23 : (((rd_T72 l0_1 x26_2).f1).length : Int) < 1
           ·rw [if_pos c23] at H
            have c23b0 : decide ((((rd_T72 l0_1 x26_2).f1).length : Int) < 1) = true := decide_eq_true c23
            have c23b1 : decide (((rd_T72 l0_1 x26_2).f1).length < 1) = true := decide_eq_true (by omega)
            clear c23
            (first | rw [c23b0] | (simp only [i64_w, i32_w]; rw [c23b0]) | skip)
            have H' := Aside0.mk H
            clear H
            have hnb24 := NB272_268.out
            have hnc24 := NB268_272.out
            have hcz25_0 : w18.cell? ⟨gb272, 0, none⟩ = some (.string (⟨#[]⟩ : ByteArray)) := (blk_cell BK272.out 0).trans rfl
            have hcz25_1 : w18.cell? ⟨gb272, 1, none⟩ = some (.slice none 0 0) := (blk_cell BK272.out 1).trans rfl
            have hfz25_0 := blk_frozen BK272.out 0
            have hfz25_1 := blk_frozen BK272.out 1
            go_wp2_with (first | (go_at_call 49; (with_reducible refine (trystref08_Name.calls k2 ((rd_T72 l0_1 x26_2).f0) true _ A21.out).mono ?_); rintro e w' ⟨rfl, ⟨nd, rfl⟩⟩; (try first | exact ⟨rfl, _, World.drewN_drewN _ _ _⟩ | exact ⟨rfl, _, Eq.trans (World.drewN_drewN _ _ _) (congrArg (World.drewN _) (Nat.add_assoc _ _ _))⟩)))
            repeat (go_quiet (first | (go_at_call 49; (with_reducible refine (trystref08_Name.calls k2 ((rd_T72 l0_1 x26_2).f0) true _ A21.out).mono ?_); rintro e w' ⟨rfl, ⟨nd, rfl⟩⟩; (try first | exact ⟨rfl, _, World.drewN_drewN _ _ _⟩ | exact ⟨rfl, _, Eq.trans (World.drewN_drewN _ _ _) (congrArg (World.drewN _) (Nat.add_assoc _ _ _))⟩))); try go_wp2_with (first | (go_at_call 49; (with_reducible refine (trystref08_Name.calls k2 ((rd_T72 l0_1 x26_2).f0) true _ A21.out).mono ?_); rintro e w' ⟨rfl, ⟨nd, rfl⟩⟩; (try first | exact ⟨rfl, _, World.drewN_drewN _ _ _⟩ | exact ⟨rfl, _, Eq.trans (World.drewN_drewN _ _ _) (congrArg (World.drewN _) (Nat.add_assoc _ _ _))⟩))))
            go_meet
            case rel => exact ⟨_, (true), (by first | rfl | (simp; done) | (simp [*]; done)), H', ⟨by have := HJ1.out; have := HK2.out; first | omega | exact Nat.le_refl _⟩, ⟨by (with_reducible repeat (first | refine blk_drewN ?_ _ | refine blk_drew ?_ | refine blk_alloc ?_ _)); refine blk_far ?_ NB268_272.out _; (with_reducible repeat (first | refine blk_drewN ?_ _ | refine blk_drew ?_ | refine blk_alloc ?_ _)); refine blk_far ?_ NB268_272.out _; (with_reducible repeat (first | refine blk_drewN ?_ _ | refine blk_drew ?_ | refine blk_alloc ?_ _)); exact BK268.out⟩, ⟨by (with_reducible repeat (first | refine blk_drewN ?_ _ | refine blk_drew ?_ | refine blk_alloc ?_ _)); refine blk_put (cs := #[.string ((rd_T72 l0_1 x26_2).f0), .slice none 0 0]) ?_ 1 _ rfl; (with_reducible repeat (first | refine blk_drewN ?_ _ | refine blk_drew ?_ | refine blk_alloc ?_ _)); refine blk_put (cs := #[.string (⟨#[]⟩ : ByteArray), .slice none 0 0]) ?_ 0 _ rfl; (with_reducible repeat (first | refine blk_drewN ?_ _ | refine blk_drew ?_ | refine blk_alloc ?_ _)); exact BK272.out⟩, ⟨by repeat (first | (with_reducible first | exact HB.out | apply below_alloc | apply pw_below_drewN | apply below_drew1 | refine below_set ?_ GE268.out | refine below_set ?_ GE272.out) | exact HB.out)⟩⟩
           ·rw [if_neg c23] at H
            have c23b0 : decide ((((rd_T72 l0_1 x26_2).f1).length : Int) < 1) = false := decide_eq_false c23
            have c23b1 : decide (((rd_T72 l0_1 x26_2).f1).length < 1) = false := decide_eq_false (by omega)
            clear c23
            (first | rw [c23b0] | (simp only [i64_w, i32_w]; rw [c23b0]) | skip)
            have H' := Aside0.mk H
            clear H
            have hnb26 := NB272_268.out
            have hnc26 := NB268_272.out
            have hcz27_0 : w18.cell? ⟨gb272, 0, none⟩ = some (.string (⟨#[]⟩ : ByteArray)) := (blk_cell BK272.out 0).trans rfl
            have hcz27_1 : w18.cell? ⟨gb272, 1, none⟩ = some (.slice none 0 0) := (blk_cell BK272.out 1).trans rfl
            have hfz27_0 := blk_frozen BK272.out 0
            have hfz27_1 := blk_frozen BK272.out 1
            go_wp2_with (first | (go_at_call 49; (with_reducible refine (trystref08_Name.calls k2 ((rd_T72 l0_1 x26_2).f0) true _ A21.out).mono ?_); rintro e w' ⟨rfl, ⟨nd, rfl⟩⟩; (try first | exact ⟨rfl, _, World.drewN_drewN _ _ _⟩ | exact ⟨rfl, _, Eq.trans (World.drewN_drewN _ _ _) (congrArg (World.drewN _) (Nat.add_assoc _ _ _))⟩)))
            repeat (go_quiet (first | (go_at_call 49; (with_reducible refine (trystref08_Name.calls k2 ((rd_T72 l0_1 x26_2).f0) true _ A21.out).mono ?_); rintro e w' ⟨rfl, ⟨nd, rfl⟩⟩; (try first | exact ⟨rfl, _, World.drewN_drewN _ _ _⟩ | exact ⟨rfl, _, Eq.trans (World.drewN_drewN _ _ _) (congrArg (World.drewN _) (Nat.add_assoc _ _ _))⟩))); try go_wp2_with (first | (go_at_call 49; (with_reducible refine (trystref08_Name.calls k2 ((rd_T72 l0_1 x26_2).f0) true _ A21.out).mono ?_); rintro e w' ⟨rfl, ⟨nd, rfl⟩⟩; (try first | exact ⟨rfl, _, World.drewN_drewN _ _ _⟩ | exact ⟨rfl, _, Eq.trans (World.drewN_drewN _ _ _) (congrArg (World.drewN _) (Nat.add_assoc _ _ _))⟩))))
            go_meet
            case rel => exact ⟨_, (decide ((((rd_T72 l0_1 x26_2).f1).length : Int) > 60)), (by first | rfl | (simp; done) | (simp [*]; done)), H', ⟨by have := HJ1.out; have := HK2.out; first | omega | exact Nat.le_refl _⟩, ⟨by (with_reducible repeat (first | refine blk_drewN ?_ _ | refine blk_drew ?_ | refine blk_alloc ?_ _)); refine blk_far ?_ NB268_272.out _; (with_reducible repeat (first | refine blk_drewN ?_ _ | refine blk_drew ?_ | refine blk_alloc ?_ _)); refine blk_far ?_ NB268_272.out _; (with_reducible repeat (first | refine blk_drewN ?_ _ | refine blk_drew ?_ | refine blk_alloc ?_ _)); exact BK268.out⟩, ⟨by (with_reducible repeat (first | refine blk_drewN ?_ _ | refine blk_drew ?_ | refine blk_alloc ?_ _)); refine blk_put (cs := #[.string ((rd_T72 l0_1 x26_2).f0), .slice none 0 0]) ?_ 1 _ rfl; (with_reducible repeat (first | refine blk_drewN ?_ _ | refine blk_drew ?_ | refine blk_alloc ?_ _)); refine blk_put (cs := #[.string (⟨#[]⟩ : ByteArray), .slice none 0 0]) ?_ 0 _ rfl; (with_reducible repeat (first | refine blk_drewN ?_ _ | refine blk_drew ?_ | refine blk_alloc ?_ _)); exact BK272.out⟩, ⟨by repeat (first | (with_reducible first | exact HB.out | apply below_alloc | apply pw_below_drewN | apply below_drew1 | refine below_set ?_ GE268.out | refine below_set ?_ GE272.out) | exact HB.out)⟩⟩
          ·replace c22 := Bool.eq_false_iff.mpr c22
           subst c22
           have H1 : (trystref08_Formed.j2 k2 x26_2 (l0_1.length : Int) x26_2 true a0_0 l0_1 a0_2 ((rd_T72 l0_1 x26_2).f0) ((rd_T72 l0_1 x26_2).f1)) = some r := by rw [if_neg (show ¬ (false = true) by decide)] at H; exact H
           clear H
           have H := H1
           clear H1
           have H' := Aside0.mk H
           clear H
           have hnb28 := NB272_268.out
           have hnc28 := NB268_272.out
           have hcz29_0 : w18.cell? ⟨gb272, 0, none⟩ = some (.string (⟨#[]⟩ : ByteArray)) := (blk_cell BK272.out 0).trans rfl
           have hcz29_1 : w18.cell? ⟨gb272, 1, none⟩ = some (.slice none 0 0) := (blk_cell BK272.out 1).trans rfl
           have hfz29_0 := blk_frozen BK272.out 0
           have hfz29_1 := blk_frozen BK272.out 1
           go_wp2_with (first | (go_at_call 49; (with_reducible refine (trystref08_Name.calls k2 ((rd_T72 l0_1 x26_2).f0) false _ A21.out).mono ?_); rintro e w' ⟨rfl, ⟨nd, rfl⟩⟩; (try first | exact ⟨rfl, _, World.drewN_drewN _ _ _⟩ | exact ⟨rfl, _, Eq.trans (World.drewN_drewN _ _ _) (congrArg (World.drewN _) (Nat.add_assoc _ _ _))⟩)))
           repeat (go_quiet (first | (go_at_call 49; (with_reducible refine (trystref08_Name.calls k2 ((rd_T72 l0_1 x26_2).f0) false _ A21.out).mono ?_); rintro e w' ⟨rfl, ⟨nd, rfl⟩⟩; (try first | exact ⟨rfl, _, World.drewN_drewN _ _ _⟩ | exact ⟨rfl, _, Eq.trans (World.drewN_drewN _ _ _) (congrArg (World.drewN _) (Nat.add_assoc _ _ _))⟩))); try go_wp2_with (first | (go_at_call 49; (with_reducible refine (trystref08_Name.calls k2 ((rd_T72 l0_1 x26_2).f0) false _ A21.out).mono ?_); rintro e w' ⟨rfl, ⟨nd, rfl⟩⟩; (try first | exact ⟨rfl, _, World.drewN_drewN _ _ _⟩ | exact ⟨rfl, _, Eq.trans (World.drewN_drewN _ _ _) (congrArg (World.drewN _) (Nat.add_assoc _ _ _))⟩))))
           go_meet
           case rel => exact ⟨_, (true), (by first | rfl | (simp; done) | (simp [*]; done)), H', ⟨by have := HJ1.out; have := HK2.out; first | omega | exact Nat.le_refl _⟩, ⟨by (with_reducible repeat (first | refine blk_drewN ?_ _ | refine blk_drew ?_ | refine blk_alloc ?_ _)); refine blk_far ?_ NB268_272.out _; (with_reducible repeat (first | refine blk_drewN ?_ _ | refine blk_drew ?_ | refine blk_alloc ?_ _)); refine blk_far ?_ NB268_272.out _; (with_reducible repeat (first | refine blk_drewN ?_ _ | refine blk_drew ?_ | refine blk_alloc ?_ _)); exact BK268.out⟩, ⟨by (with_reducible repeat (first | refine blk_drewN ?_ _ | refine blk_drew ?_ | refine blk_alloc ?_ _)); refine blk_put (cs := #[.string ((rd_T72 l0_1 x26_2).f0), .slice none 0 0]) ?_ 1 _ rfl; (with_reducible repeat (first | refine blk_drewN ?_ _ | refine blk_drew ?_ | refine blk_alloc ?_ _)); refine blk_put (cs := #[.string (⟨#[]⟩ : ByteArray), .slice none 0 0]) ?_ 0 _ rfl; (with_reducible repeat (first | refine blk_drewN ?_ _ | refine blk_drew ?_ | refine blk_alloc ?_ _)); exact BK272.out⟩, ⟨by repeat (first | (with_reducible first | exact HB.out | apply below_alloc | apply pw_below_drewN | apply below_drew1 | refine below_set ?_ GE268.out | refine below_set ?_ GE272.out) | exact HB.out)⟩⟩
         case rest =>
          clear HC16
          try clear c1
          try clear c2
          try clear p2
          try clear q2
          try clear hx2
          try clear c3
          try clear c5
          try clear c6
          try clear c6b0
          try clear c6b1
          try clear c11
          try clear c13
          try clear c13b0
          try clear c14
          try clear c14b0
          try clear c15
          try clear c15b0
          try clear c19
          try clear c22
          try clear c23
          try clear c23b0
          try clear c23b1
          try clear c24
          try clear c26
          try clear c27
          try clear p27
          try clear q27
          try clear hx27
          try clear c28
          try clear hcz10_0
          try clear hcz10_1
          try clear hcz10_2
          try clear hcz12_0
          try clear hcz12_1
          try clear hcz12_2
          try clear hcz17_0
          try clear hcz17_1
          try clear hcz17_2
          try clear hcz20_0
          try clear hcz20_1
          try clear hcz25_0
          try clear hcz25_1
          try clear hcz27_0
          try clear hcz27_1
          try clear hcz29_0
          try clear hcz29_1
          try clear hcz7_0
          try clear hcz7_1
          try clear hcz7_2
          try clear hcz9_0
          try clear hcz9_1
          try clear hcz9_2
          try clear hfz10_0
          try clear hfz10_1
          try clear hfz10_2
          try clear hfz12_0
          try clear hfz12_1
          try clear hfz12_2
          try clear hfz17_0
          try clear hfz17_1
          try clear hfz17_2
          try clear hfz20_0
          try clear hfz20_1
          try clear hfz25_0
          try clear hfz25_1
          try clear hfz27_0
          try clear hfz27_1
          try clear hfz29_0
          try clear hfz29_1
          try clear hfz7_0
          try clear hfz7_1
          try clear hfz7_2
          try clear hfz9_0
          try clear hfz9_1
          try clear hfz9_2
          try clear hx271_0
          try clear hx271_1
          try clear p2
          try clear p271
          try clear q271
          obtain ⟨kq, x49_15, rfl, HA, HJ15, BK268, BK272, HB⟩ := hcut
          cases kq with
          | zero => exact absurd HA.out (by simp [trystref08_Formed.j2])
          | succ kj15 =>
           have H := HA.out
           clear HA
           simp only [trystref08_Formed.j2] at H
           by_cases c30 : x49_15 = true
           ·subst c30
            have H1 : (some false) = some r := by rw [if_pos rfl] at H; exact H
            clear H
            have H := H1
            clear H1
            obtain rfl := Option.some.inj H
            go_wp2
            repeat (go_quiet (fail); try go_wp2)
            go_ret
            exact ⟨by first | rfl | (simp [i64_w]; done) | (simp [errW_none, errW_some] <;> rfl) | (simp [*, errW_none, errW_some] <;> rfl), by repeat (first | (with_reducible first | exact HB.out | apply below_alloc | apply pw_below_drewN | apply below_drew1 | refine below_set ?_ GE268.out | refine below_set ?_ GE272.out) | exact HB.out)⟩
           ·replace c30 := Bool.eq_false_iff.mpr c30
            subst c30
            have H1 : (trystref08_Formed.l1 kj15 (l0_1.length : Int) x26_2 x26_2 0 a0_0 l0_1 a0_2 ((rd_T72 l0_1 x26_2).f0) ((rd_T72 l0_1 x26_2).f1)) = some r := by rw [if_neg (show ¬ (false = true) by decide)] at H; exact H
            clear H
            have H := H1
            clear H1
            have H' := Aside0.mk H
            clear H
            go_wp2
            repeat (go_quiet (fail); try go_wp2)
            go_loopg [51] kj15 (fun kq v51 w' => ∃ (x51_4 : Int), v51 = .int .i64 x51_4 ∧ Aside0 (trystref08_Formed.l1 kq (l0_1.length : Int) x26_2 x26_2 x51_4 a0_0 l0_1 a0_2 ((rd_T72 l0_1 x26_2).f0) ((rd_T72 l0_1 x26_2).f1) = some r) ∧ Aside0 (kq ≤ kj15) ∧ Aside0 (w'.heap[gb268]? = some (.cells #[.string a0_0, (.slice (some ad271) l0_1.length c0_1), .string a0_2] 51 (0, 0))) ∧ Aside0 (w'.heap[gb272]? = some (.cells #[.string ((rd_T72 l0_1 x26_2).f0), (.slice A271_1 ((rd_T72 l0_1 x26_2).f1).length c271_1)] 72 (0, 0))) ∧ Aside0 (Below w.heap.size w w'))
            case atStart => exact ⟨(0), (by first | rfl | (simp; done) | (simp [*]; done)), H', ⟨Nat.le_refl _⟩, ⟨by (with_reducible repeat (first | refine blk_drewN ?_ _ | refine blk_drew ?_ | refine blk_alloc ?_ _)); exact BK268.out⟩, ⟨by (with_reducible repeat (first | refine blk_drewN ?_ _ | refine blk_drew ?_ | refine blk_alloc ?_ _)); exact BK272.out⟩, ⟨by repeat (first | (with_reducible first | exact HB.out | apply below_alloc | apply pw_below_drewN | apply below_drew1 | refine below_set ?_ GE268.out | refine below_set ?_ GE272.out) | exact HB.out)⟩⟩
            case round =>
             clear H'
             try clear c1
             try clear c2
             try clear p2
             try clear q2
             try clear hx2
             try clear c3
             try clear c5
             try clear c6
             try clear c6b0
             try clear c6b1
             try clear c11
             try clear c13
             try clear c13b0
             try clear c14
             try clear c14b0
             try clear c15
             try clear c15b0
             try clear c19
             try clear c22
             try clear c23
             try clear c23b0
             try clear c23b1
             try clear c24
             try clear c26
             try clear c27
             try clear p27
             try clear q27
             try clear hx27
             try clear c28
             try clear c30
             try clear hcz10_0
             try clear hcz10_1
             try clear hcz10_2
             try clear hcz12_0
             try clear hcz12_1
             try clear hcz12_2
             try clear hcz17_0
             try clear hcz17_1
             try clear hcz17_2
             try clear hcz20_0
             try clear hcz20_1
             try clear hcz25_0
             try clear hcz25_1
             try clear hcz27_0
             try clear hcz27_1
             try clear hcz29_0
             try clear hcz29_1
             try clear hcz7_0
             try clear hcz7_1
             try clear hcz7_2
             try clear hcz9_0
             try clear hcz9_1
             try clear hcz9_2
             try clear hfz10_0
             try clear hfz10_1
             try clear hfz10_2
             try clear hfz12_0
             try clear hfz12_1
             try clear hfz12_2
             try clear hfz17_0
             try clear hfz17_1
             try clear hfz17_2
             try clear hfz20_0
             try clear hfz20_1
             try clear hfz25_0
             try clear hfz25_1
             try clear hfz27_0
             try clear hfz27_1
             try clear hfz29_0
             try clear hfz29_1
             try clear hfz7_0
             try clear hfz7_1
             try clear hfz7_2
             try clear hfz9_0
             try clear hfz9_1
             try clear hfz9_2
             try clear hx271_0
             try clear hx271_1
             try clear p2
             try clear p27
             try clear p271
             try clear q2
             try clear q27
             try clear q271
             obtain ⟨x51_4, rfl, HA, HK4, BK268, BK272, HB⟩ := hrel
             cases gk with
             | zero => exact absurd HA.out (by simp [trystref08_Formed.l1])
             | succ k4 =>
              have H := HA.out
              clear HA
              simp only [trystref08_Formed.l1] at H
              by_cases c31 : x51_4 < x26_2
              ·rw [if_pos c31] at H
               have c31b0 : decide (x51_4 < x26_2) = true := decide_eq_true c31
               clear c31
               by_cases c32 : 0 ≤ x51_4
               ·rw [if_pos c32] at H
                have c32b0 : decide (0 ≤ x51_4) = true := decide_eq_true c32
                clear c32
                by_cases c33 : x51_4 < (l0_1.length : Int)
                ·rw [if_pos c33] at H
                 have c33b0 : decide (x51_4 < (l0_1.length : Int)) = true := decide_eq_true c33
                 clear c33
                 by_cases c34 : ((rd_T72 l0_1 x51_4).f0).toList = ((rd_T72 l0_1 x26_2).f0).toList
                 ·rw [if_pos c34] at H
                  have c34b0 : (((rd_T72 l0_1 x51_4).f0).toList == ((rd_T72 l0_1 x26_2).f0).toList) = true := beq_iff_eq.mpr c34
                  have c34b1 : (((rd_T72 l0_1 x51_4).f0).toList != ((rd_T72 l0_1 x26_2).f0).toList) = false := bne_eq_false_iff_eq.mpr c34
                  clear c34
                  obtain rfl := Option.some.inj H
                  have hnb35 := NB268_272.out
                  have hnc35 := NB272_268.out
                  have hcz36_0 : wr.cell? ⟨gb268, 0, none⟩ = some (.string a0_0) := (blk_cell BK268.out 0).trans rfl
                  have hcz36_1 : wr.cell? ⟨gb268, 1, none⟩ = some (.slice (some ad271) l0_1.length c0_1) := (blk_cell BK268.out 1).trans rfl
                  have hcz36_2 : wr.cell? ⟨gb268, 2, none⟩ = some (.string a0_2) := (blk_cell BK268.out 2).trans rfl
                  have hfz36_0 := blk_frozen BK268.out 0
                  have hfz36_1 := blk_frozen BK268.out 1
                  have hfz36_2 := blk_frozen BK268.out 2
                  have p274 : 0 ≤ (x51_4 : Int) := of_decide_eq_true (by first | (with_reducible assumption) | assumption)
                  have q274 : x51_4 < (l0_1.length : Int) := of_decide_eq_true (by first | (with_reducible assumption) | assumption)
                  obtain ⟨ad274, A274_1, c274_1, e274, hx274_0, hx274_1, hl274_1, hi274_1⟩ := at_T72 HR0_1.out x51_4 p274 q274
                  obtain rfl : ad271 = ad274 := (by injection e274)
                  replace hx274_0 := (HB.out.cell (World.block_lt_of_cell? w _ hx274_0)).trans hx274_0
                  replace hx274_1 := (HB.out.cell (World.block_lt_of_cell? w _ hx274_1)).trans hx274_1
                  have HR274_1 := Aside0.mk hi274_1
                  have HC274_1 := Aside0.mk hl274_1
                  clear hi274_1 hl274_1
                  replace p274 := eq_true p274
                  replace q274 := eq_true q274
                  have hcz37_0 : wr.cell? ⟨gb272, 0, none⟩ = some (.string ((rd_T72 l0_1 x26_2).f0)) := (blk_cell BK272.out 0).trans rfl
                  have hcz37_1 : wr.cell? ⟨gb272, 1, none⟩ = some (.slice A271_1 ((rd_T72 l0_1 x26_2).f1).length c271_1) := (blk_cell BK272.out 1).trans rfl
                  have hfz37_0 := blk_frozen BK272.out 0
                  have hfz37_1 := blk_frozen BK272.out 1
                  go_wp2
                  repeat (go_quiet (fail); try go_wp2)
                  go_ret
                  exact ⟨by first | rfl | (simp [i64_w]; done) | (simp [errW_none, errW_some] <;> rfl) | (simp [*, errW_none, errW_some] <;> rfl), by repeat (first | (with_reducible first | exact HB.out | apply below_alloc | apply pw_below_drewN | apply below_drew1 | refine below_set ?_ GE268.out | refine below_set ?_ GE272.out) | exact HB.out)⟩
                 ·rw [if_neg c34] at H
                  have c34b0 : (((rd_T72 l0_1 x51_4).f0).toList == ((rd_T72 l0_1 x26_2).f0).toList) = false := beq_eq_false_iff_ne.mpr c34
                  have c34b1 : (((rd_T72 l0_1 x51_4).f0).toList != ((rd_T72 l0_1 x26_2).f0).toList) = true := bne_iff_ne.mpr c34
                  have H' := Aside0.mk H
                  clear H
                  have hnb38 := NB268_272.out
                  have hnc38 := NB272_268.out
                  have hcz39_0 : wr.cell? ⟨gb268, 0, none⟩ = some (.string a0_0) := (blk_cell BK268.out 0).trans rfl
                  have hcz39_1 : wr.cell? ⟨gb268, 1, none⟩ = some (.slice (some ad271) l0_1.length c0_1) := (blk_cell BK268.out 1).trans rfl
                  have hcz39_2 : wr.cell? ⟨gb268, 2, none⟩ = some (.string a0_2) := (blk_cell BK268.out 2).trans rfl
                  have hfz39_0 := blk_frozen BK268.out 0
                  have hfz39_1 := blk_frozen BK268.out 1
                  have hfz39_2 := blk_frozen BK268.out 2
                  have p274 : 0 ≤ (x51_4 : Int) := of_decide_eq_true (by first | (with_reducible assumption) | assumption)
                  have q274 : x51_4 < (l0_1.length : Int) := of_decide_eq_true (by first | (with_reducible assumption) | assumption)
                  obtain ⟨ad274, A274_1, c274_1, e274, hx274_0, hx274_1, hl274_1, hi274_1⟩ := at_T72 HR0_1.out x51_4 p274 q274
                  obtain rfl : ad271 = ad274 := (by injection e274)
                  replace hx274_0 := (HB.out.cell (World.block_lt_of_cell? w _ hx274_0)).trans hx274_0
                  replace hx274_1 := (HB.out.cell (World.block_lt_of_cell? w _ hx274_1)).trans hx274_1
                  have HR274_1 := Aside0.mk hi274_1
                  have HC274_1 := Aside0.mk hl274_1
                  clear hi274_1 hl274_1
                  replace p274 := eq_true p274
                  replace q274 := eq_true q274
                  have hcz40_0 : wr.cell? ⟨gb272, 0, none⟩ = some (.string ((rd_T72 l0_1 x26_2).f0)) := (blk_cell BK272.out 0).trans rfl
                  have hcz40_1 : wr.cell? ⟨gb272, 1, none⟩ = some (.slice A271_1 ((rd_T72 l0_1 x26_2).f1).length c271_1) := (blk_cell BK272.out 1).trans rfl
                  have hfz40_0 := blk_frozen BK272.out 0
                  have hfz40_1 := blk_frozen BK272.out 1
                  go_wp2
                  repeat (go_quiet (fail); try go_wp2)
                  go_roundg k4
                  case measure => have := HJ1.out; have := HK2.out; have := HJ15.out; have := HK4.out; omega
                  case rel => exact ⟨(wrap64 (x51_4 + 1)), (by first | rfl | (simp; done) | (simp [*]; done)), H', ⟨by have := HJ1.out; have := HK2.out; have := HJ15.out; have := HK4.out; omega⟩, ⟨by (with_reducible repeat (first | refine blk_drewN ?_ _ | refine blk_drew ?_ | refine blk_alloc ?_ _)); exact BK268.out⟩, ⟨by (with_reducible repeat (first | refine blk_drewN ?_ _ | refine blk_drew ?_ | refine blk_alloc ?_ _)); exact BK272.out⟩, ⟨by repeat (first | (with_reducible first | exact HB.out | apply below_alloc | apply pw_below_drewN | apply below_drew1 | refine below_set ?_ GE268.out | refine below_set ?_ GE272.out) | exact HB.out)⟩⟩
                ·rw [if_neg c33] at H
                 exact absurd H (by simp)
               ·rw [if_neg c32] at H
                exact absurd H (by simp)
              ·rw [if_neg c31] at H
               have c31b0 : decide (x51_4 < x26_2) = false := decide_eq_false c31
               clear c31
               have H' := Aside0.mk H
               clear H
               have hnb41 := NB272_268.out
               have hnc41 := NB268_272.out
               have hcz42_0 : wr.cell? ⟨gb272, 0, none⟩ = some (.string ((rd_T72 l0_1 x26_2).f0)) := (blk_cell BK272.out 0).trans rfl
               have hcz42_1 : wr.cell? ⟨gb272, 1, none⟩ = some (.slice A271_1 ((rd_T72 l0_1 x26_2).f1).length c271_1) := (blk_cell BK272.out 1).trans rfl
               have hfz42_0 := blk_frozen BK272.out 0
               have hfz42_1 := blk_frozen BK272.out 1
               go_wp2
               repeat (go_quiet (fail); try go_wp2)
               go_loopg [67] k4 (fun kq v67 w' => ∃ (x67_5 : Int), v67 = .int .i64 x67_5 ∧ Aside0 (trystref08_Formed.l2 kq (l0_1.length : Int) x26_2 (((rd_T72 l0_1 x26_2).f1).length : Int) x67_5 a0_0 l0_1 a0_2 ((rd_T72 l0_1 x26_2).f0) ((rd_T72 l0_1 x26_2).f1) = some r) ∧ Aside0 (kq ≤ k4) ∧ Aside0 (w'.heap[gb268]? = some (.cells #[.string a0_0, (.slice (some ad271) l0_1.length c0_1), .string a0_2] 51 (0, 0))) ∧ Aside0 (w'.heap[gb272]? = some (.cells #[.string ((rd_T72 l0_1 x26_2).f0), (.slice A271_1 ((rd_T72 l0_1 x26_2).f1).length c271_1)] 72 (0, 0))) ∧ Aside0 (Below w.heap.size w w'))
               case atStart => exact ⟨(0), (by first | rfl | (simp; done) | (simp [*]; done)), H', ⟨Nat.le_refl _⟩, ⟨by (with_reducible repeat (first | refine blk_drewN ?_ _ | refine blk_drew ?_ | refine blk_alloc ?_ _)); exact BK268.out⟩, ⟨by (with_reducible repeat (first | refine blk_drewN ?_ _ | refine blk_drew ?_ | refine blk_alloc ?_ _)); exact BK272.out⟩, ⟨by repeat (first | (with_reducible first | exact HB.out | apply below_alloc | apply pw_below_drewN | apply below_drew1 | refine below_set ?_ GE268.out | refine below_set ?_ GE272.out) | exact HB.out)⟩⟩
               case round =>
                clear H'
                try clear c1
                try clear c2
                try clear p2
                try clear q2
                try clear hx2
                try clear c3
                try clear c4
                try clear c5
                try clear c6
                try clear c6b0
                try clear c6b1
                try clear p6
                try clear c11
                try clear c13
                try clear c13b0
                try clear c14
                try clear c14b0
                try clear c15
                try clear c15b0
                try clear c19
                try clear c22
                try clear c23
                try clear c23b0
                try clear c23b1
                try clear c24
                try clear c26
                try clear c27
                try clear p27
                try clear q27
                try clear hx27
                try clear c28
                try clear c30
                try clear c31
                try clear c31b0
                try clear c32
                try clear c32b0
                try clear c33
                try clear c33b0
                try clear c34
                try clear c34b0
                try clear c34b1
                try clear c35
                try clear c38
                try clear c41
                try clear hcz10_0
                try clear hcz10_1
                try clear hcz10_2
                try clear hcz12_0
                try clear hcz12_1
                try clear hcz12_2
                try clear hcz17_0
                try clear hcz17_1
                try clear hcz17_2
                try clear hcz20_0
                try clear hcz20_1
                try clear hcz25_0
                try clear hcz25_1
                try clear hcz27_0
                try clear hcz27_1
                try clear hcz29_0
                try clear hcz29_1
                try clear hcz36_0
                try clear hcz36_1
                try clear hcz36_2
                try clear hcz37_0
                try clear hcz37_1
                try clear hcz39_0
                try clear hcz39_1
                try clear hcz39_2
                try clear hcz40_0
                try clear hcz40_1
                try clear hcz42_0
                try clear hcz42_1
                try clear hcz7_0
                try clear hcz7_1
                try clear hcz7_2
                try clear hcz9_0
                try clear hcz9_1
                try clear hcz9_2
                try clear hfz10_0
                try clear hfz10_1
                try clear hfz10_2
                try clear hfz12_0
                try clear hfz12_1
                try clear hfz12_2
                try clear hfz17_0
                try clear hfz17_1
                try clear hfz17_2
                try clear hfz20_0
                try clear hfz20_1
                try clear hfz25_0
                try clear hfz25_1
                try clear hfz27_0
                try clear hfz27_1
                try clear hfz29_0
                try clear hfz29_1
                try clear hfz36_0
                try clear hfz36_1
                try clear hfz36_2
                try clear hfz37_0
                try clear hfz37_1
                try clear hfz39_0
                try clear hfz39_1
                try clear hfz39_2
                try clear hfz40_0
                try clear hfz40_1
                try clear hfz42_0
                try clear hfz42_1
                try clear hfz7_0
                try clear hfz7_1
                try clear hfz7_2
                try clear hfz9_0
                try clear hfz9_1
                try clear hfz9_2
                try clear hx271_0
                try clear hx271_1
                try clear hx274_0
                try clear hx274_1
                try clear p2
                try clear p27
                try clear p271
                try clear p274
                try clear q2
                try clear q27
                try clear q271
                try clear q274
                obtain ⟨x67_5, rfl, HA, HK5, BK268, BK272, HB⟩ := hrel
                cases gk with
                | zero => exact absurd HA.out (by simp [trystref08_Formed.l2])
                | succ k5 =>
                 have H := HA.out
                 clear HA
                 simp only [trystref08_Formed.l2] at H
                 by_cases c43 : x67_5 < (((rd_T72 l0_1 x26_2).f1).length : Int)
                 ·rw [if_pos c43] at H
                  have c43b0 : decide (x67_5 < (((rd_T72 l0_1 x26_2).f1).length : Int)) = true := decide_eq_true c43
                  clear c43
                  by_cases c44 : 0 ≤ x67_5
                  ·rw [if_pos c44] at H
                   have c44b0 : decide (0 ≤ x67_5) = true := decide_eq_true c44
                   clear c44
                   by_cases c45 : x67_5 < (((rd_T72 l0_1 x26_2).f1).length : Int)
                   ·rw [if_pos c45] at H
                    have c45b0 : decide (x67_5 < (((rd_T72 l0_1 x26_2).f1).length : Int)) = true := decide_eq_true c45
                    clear c45
                    replace H := Option.bind_eq_some_iff.mp H
                    obtain ⟨t276, A460, H⟩ := H
                    replace H : (if t276 = 0 then (trystref08_Formed.l2 k5 (l0_1.length : Int) x26_2 (((rd_T72 l0_1 x26_2).f1).length : Int) (wrap64 (x67_5 + 1)) a0_0 l0_1 a0_2 ((rd_T72 l0_1 x26_2).f0) ((rd_T72 l0_1 x26_2).f1)) else (some false)) = some r := H
                    have A46 := Aside0.mk A460
                    clear A460
                    by_cases c47 : t276 = 0
                    ·rw [if_pos c47] at H
                     have c47b0 : (t276 == 0) = true := beq_iff_eq.mpr c47
                     have c47b1 : (t276 != 0) = false := bne_eq_false_iff_eq.mpr c47
                     clear c47
                     have H' := Aside0.mk H
                     clear H
                     have hnb48 := NB272_268.out
                     have hnc48 := NB268_272.out
                     have hcz49_0 : wr.cell? ⟨gb272, 0, none⟩ = some (.string ((rd_T72 l0_1 x26_2).f0)) := (blk_cell BK272.out 0).trans rfl
                     have hcz49_1 : wr.cell? ⟨gb272, 1, none⟩ = some (.slice A271_1 ((rd_T72 l0_1 x26_2).f1).length c271_1) := (blk_cell BK272.out 1).trans rfl
                     have hfz49_0 := blk_frozen BK272.out 0
                     have hfz49_1 := blk_frozen BK272.out 1
                     have p275 : 0 ≤ (x67_5 : Int) := of_decide_eq_true (by first | (with_reducible assumption) | assumption)
                     have q275 : x67_5 < (((rd_T72 l0_1 x26_2).f1).length : Int) := of_decide_eq_true (by first | (with_reducible assumption) | assumption)
                     obtain ⟨ad275, e275, hx275_0⟩ := Kd.at_string HR271_1.out x67_5 p275 q275
                     cases e275
                     replace hx275_0 := (HB.out.cell (World.block_lt_of_cell? w _ hx275_0)).trans hx275_0
                     replace p275 := eq_true p275
                     replace q275 := eq_true q275
                     go_wp2_with (first | (go_at_call 48; (with_reducible refine (trystref08_Clean.calls k5 (rdOf ByteArray.empty ((rd_T72 l0_1 x26_2).f1) x67_5) true t276 _ A46.out).mono ?_); rintro e w' ⟨rfl, ⟨nd, rfl⟩⟩; (try first | exact ⟨rfl, _, World.drewN_drewN _ _ _⟩ | exact ⟨rfl, _, Eq.trans (World.drewN_drewN _ _ _) (congrArg (World.drewN _) (Nat.add_assoc _ _ _))⟩)))
                     repeat (go_quiet (first | (go_at_call 48; (with_reducible refine (trystref08_Clean.calls k5 (rdOf ByteArray.empty ((rd_T72 l0_1 x26_2).f1) x67_5) true t276 _ A46.out).mono ?_); rintro e w' ⟨rfl, ⟨nd, rfl⟩⟩; (try first | exact ⟨rfl, _, World.drewN_drewN _ _ _⟩ | exact ⟨rfl, _, Eq.trans (World.drewN_drewN _ _ _) (congrArg (World.drewN _) (Nat.add_assoc _ _ _))⟩))); try go_wp2_with (first | (go_at_call 48; (with_reducible refine (trystref08_Clean.calls k5 (rdOf ByteArray.empty ((rd_T72 l0_1 x26_2).f1) x67_5) true t276 _ A46.out).mono ?_); rintro e w' ⟨rfl, ⟨nd, rfl⟩⟩; (try first | exact ⟨rfl, _, World.drewN_drewN _ _ _⟩ | exact ⟨rfl, _, Eq.trans (World.drewN_drewN _ _ _) (congrArg (World.drewN _) (Nat.add_assoc _ _ _))⟩))))
                     go_roundg k5
                     case measure => have := HJ1.out; have := HK2.out; have := HJ15.out; have := HK4.out; have := HK5.out; omega
                     case rel => exact ⟨(wrap64 (x67_5 + 1)), (by first | rfl | (simp; done) | (simp [*]; done)), H', ⟨by have := HJ1.out; have := HK2.out; have := HJ15.out; have := HK4.out; have := HK5.out; omega⟩, ⟨by (with_reducible repeat (first | refine blk_drewN ?_ _ | refine blk_drew ?_ | refine blk_alloc ?_ _)); exact BK268.out⟩, ⟨by (with_reducible repeat (first | refine blk_drewN ?_ _ | refine blk_drew ?_ | refine blk_alloc ?_ _)); exact BK272.out⟩, ⟨by repeat (first | (with_reducible first | exact HB.out | apply below_alloc | apply pw_below_drewN | apply below_drew1 | refine below_set ?_ GE268.out | refine below_set ?_ GE272.out) | exact HB.out)⟩⟩
                    ·rw [if_neg c47] at H
                     have c47b0 : (t276 == 0) = false := beq_eq_false_iff_ne.mpr c47
                     have c47b1 : (t276 != 0) = true := bne_iff_ne.mpr c47
                     obtain rfl := Option.some.inj H
                     have hnb50 := NB272_268.out
                     have hnc50 := NB268_272.out
                     have hcz51_0 : wr.cell? ⟨gb272, 0, none⟩ = some (.string ((rd_T72 l0_1 x26_2).f0)) := (blk_cell BK272.out 0).trans rfl
                     have hcz51_1 : wr.cell? ⟨gb272, 1, none⟩ = some (.slice A271_1 ((rd_T72 l0_1 x26_2).f1).length c271_1) := (blk_cell BK272.out 1).trans rfl
                     have hfz51_0 := blk_frozen BK272.out 0
                     have hfz51_1 := blk_frozen BK272.out 1
                     have p275 : 0 ≤ (x67_5 : Int) := of_decide_eq_true (by first | (with_reducible assumption) | assumption)
                     have q275 : x67_5 < (((rd_T72 l0_1 x26_2).f1).length : Int) := of_decide_eq_true (by first | (with_reducible assumption) | assumption)
                     obtain ⟨ad275, e275, hx275_0⟩ := Kd.at_string HR271_1.out x67_5 p275 q275
                     cases e275
                     replace hx275_0 := (HB.out.cell (World.block_lt_of_cell? w _ hx275_0)).trans hx275_0
                     replace p275 := eq_true p275
                     replace q275 := eq_true q275
                     go_wp2_with (first | (go_at_call 48; (with_reducible refine (trystref08_Clean.calls k5 (rdOf ByteArray.empty ((rd_T72 l0_1 x26_2).f1) x67_5) true t276 _ A46.out).mono ?_); rintro e w' ⟨rfl, ⟨nd, rfl⟩⟩; (try first | exact ⟨rfl, _, World.drewN_drewN _ _ _⟩ | exact ⟨rfl, _, Eq.trans (World.drewN_drewN _ _ _) (congrArg (World.drewN _) (Nat.add_assoc _ _ _))⟩)))
                     repeat (go_quiet (first | (go_at_call 48; (with_reducible refine (trystref08_Clean.calls k5 (rdOf ByteArray.empty ((rd_T72 l0_1 x26_2).f1) x67_5) true t276 _ A46.out).mono ?_); rintro e w' ⟨rfl, ⟨nd, rfl⟩⟩; (try first | exact ⟨rfl, _, World.drewN_drewN _ _ _⟩ | exact ⟨rfl, _, Eq.trans (World.drewN_drewN _ _ _) (congrArg (World.drewN _) (Nat.add_assoc _ _ _))⟩))); try go_wp2_with (first | (go_at_call 48; (with_reducible refine (trystref08_Clean.calls k5 (rdOf ByteArray.empty ((rd_T72 l0_1 x26_2).f1) x67_5) true t276 _ A46.out).mono ?_); rintro e w' ⟨rfl, ⟨nd, rfl⟩⟩; (try first | exact ⟨rfl, _, World.drewN_drewN _ _ _⟩ | exact ⟨rfl, _, Eq.trans (World.drewN_drewN _ _ _) (congrArg (World.drewN _) (Nat.add_assoc _ _ _))⟩))))
                     go_ret
                     exact ⟨by first | rfl | (simp [i64_w]; done) | (simp [errW_none, errW_some] <;> rfl) | (simp [*, errW_none, errW_some] <;> rfl), by repeat (first | (with_reducible first | exact HB.out | apply below_alloc | apply pw_below_drewN | apply below_drew1 | refine below_set ?_ GE268.out | refine below_set ?_ GE272.out) | exact HB.out)⟩
                   ·rw [if_neg c45] at H
                    exact absurd H (by simp)
                  ·rw [if_neg c44] at H
                   exact absurd H (by simp)
                 ·rw [if_neg c43] at H
                  have c43b0 : decide (x67_5 < (((rd_T72 l0_1 x26_2).f1).length : Int)) = false := decide_eq_false c43
                  clear c43
                  have H' := Aside0.mk H
                  clear H
                  go_wp2
                  repeat (go_quiet (fail); try go_wp2)
                  go_roundg k5
                  case measure => have := HJ1.out; have := HK2.out; have := HJ15.out; have := HK4.out; have := HK5.out; omega
                  case rel => exact ⟨(wrap64 (x26_2 + 1)), (by first | rfl | (simp; done) | (simp [*]; done)), H', ⟨by have := HJ1.out; have := HK2.out; have := HJ15.out; have := HK4.out; have := HK5.out; omega⟩, ⟨by (with_reducible repeat (first | refine blk_drewN ?_ _ | refine blk_drew ?_ | refine blk_alloc ?_ _)); exact BK268.out⟩, ⟨by repeat (first | (with_reducible first | exact HB.out | apply below_alloc | apply pw_below_drewN | apply below_drew1 | refine below_set ?_ GE268.out | refine below_set ?_ GE272.out) | exact HB.out)⟩⟩
        ·rw [if_neg c15] at H
         exact absurd H (by simp)
       ·rw [if_neg c14] at H
        exact absurd H (by simp)
      ·rw [if_neg c13] at H
       have c13b0 : decide (x26_2 < (l0_1.length : Int)) = false := decide_eq_false c13
       clear c13
       obtain rfl := Option.some.inj H
       go_wp2
       repeat (go_quiet (fail); try go_wp2)
       go_ret
       exact ⟨by first | rfl | (simp [i64_w]; done) | (simp [errW_none, errW_some] <;> rfl) | (simp [*, errW_none, errW_some] <;> rfl), by repeat (first | (with_reducible first | exact HB.out | apply below_alloc | apply pw_below_drewN | apply below_drew1 | refine below_set ?_ GE268.out) | exact HB.out)⟩

end Go.Proofs.YtddoidcbpcmlaaaDoor.M
