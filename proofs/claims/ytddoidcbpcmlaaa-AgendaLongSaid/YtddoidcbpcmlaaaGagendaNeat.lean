-- written by a program of this session (wip/own_print.sh)
import Derived.Test.YtddoidcbpcmlaaaG0
import Derived.Test.YtddoidcbpcmlaaaSortS
import Derived.Test.YtddoidcbpcmlaaaGsmall
namespace Go.Proofs.Ytddoidcbpcmlaaa.G
open Go.RowKit Go.Proofs.YtddoidcbpcmlaaaW.PrintWords Go.Proofs.YtddoidcbpcmlaaaW.PrintLast Go.Proofs.YtddoidcbpcmlaaaW.PrintMore
attribute [local go_sem] max2_int min2_int max_two min_two max_three min_three max_four min_four   -- for this text's walks alone
set_option linter.unusedVariables false
set_option linter.unusedSimpArgs false

/-! ### agenda_Neat: function 21 -/
mutual
def agenda_Neat.l0 : Nat → List (S67) → List (S67) → Int → Int → Option ((List (S67)))
  | 0, _, _, _, _ => none
  | k + 1, x3, x10, x11, x12 => if x12 < x11 then (if 0 ≤ x12 then (if x12 < (x10.length : Int) then ((agenda_within.f ((rd_T67 x10 x12).f0)).bind fun t105 => ((agenda_within.f ((rd_T67 x10 x12).f1)).bind fun t106 => (if t105 < t106 then (if x3.length < 8796093022208 then (agenda_Neat.l0 k (x3 ++ [(⟨t105, t106⟩ : S67)]) x10 x11 (wrap64 (x12 + 1))) else (none)) else (agenda_Neat.l0 k x3 x10 x11 (wrap64 (x12 + 1)))))) else (none)) else (none)) else (if x3.length < 4611686018427387904 then (agenda_Neat.l1 k ([] : List (S67)) (SortS.srt x3) (x3.length : Int) 0) else none)
def agenda_Neat.l1 : Nat → List (S67) → List (S67) → Int → Int → Option ((List (S67)))
  | 0, _, _, _, _ => none
  | k + 1, x6, x35, x36, x37 => if x37 < x36 then (if 0 ≤ x37 then (if x37 < (x35.length : Int) then (if (x6.length : Int) > 0 then (if 0 ≤ (wrap64 ((x6.length : Int) - 1)) then (if (wrap64 ((x6.length : Int) - 1)) < (x6.length : Int) then (if ((rd_T67 x35 x37).f0) ≤ ((rd_T67 x6 (wrap64 ((x6.length : Int) - 1))).f1) then (agenda_Neat.l1 k (x6.set ((wrap64 ((x6.length : Int) - 1)) : Int).toNat (⟨(rd_T67 x6 (wrap64 ((x6.length : Int) - 1))).f0, mx ((rd_T67 x6 (wrap64 ((x6.length : Int) - 1))).f1) ((rd_T67 x35 x37).f1)⟩ : S67)) x35 x36 (wrap64 (x37 + 1))) else (if x6.length < 8796093022208 then (agenda_Neat.l1 k (x6 ++ [(⟨(rd_T67 x35 x37).f0, (rd_T67 x35 x37).f1⟩ : S67)]) x35 x36 (wrap64 (x37 + 1))) else (none))) else (none)) else (none)) else (if x6.length < 8796093022208 then (agenda_Neat.l1 k (x6 ++ [(⟨(rd_T67 x35 x37).f0, (rd_T67 x35 x37).f1⟩ : S67)]) x35 x36 (wrap64 (x37 + 1))) else (none))) else (none)) else (none)) else (some x6)
end
def agenda_Neat.f (k : Nat) (l0 : List (S67)) : Option ((List (S67))) := agenda_Neat.l0 k ([] : List (S67)) l0 (l0.length : Int) 0
theorem agenda_Neat.mono_l : ∀ k, (∀ y0 y1 y2 y3, LeO (agenda_Neat.l0 k y0 y1 y2 y3) (agenda_Neat.l0 (k + 1) y0 y1 y2 y3)) ∧ (∀ y0 y1 y2 y3, LeO (agenda_Neat.l1 k y0 y1 y2 y3) (agenda_Neat.l1 (k + 1) y0 y1 y2 y3))
  | 0 => ⟨fun _ _ _ _ r h => by simp [agenda_Neat.l0] at h, fun _ _ _ _ r h => by simp [agenda_Neat.l1] at h⟩
  | k + 1 => by
    obtain ⟨ih0, ih1⟩ := agenda_Neat.mono_l k
    refine ⟨?_, ?_⟩
    · intro y0 y1 y2 y3
      unfold agenda_Neat.l0
      repeat' first
      | (with_reducible exact ih0 _ _ _ _)
      | (with_reducible exact ih1 _ _ _ _)
      | (with_reducible exact LeO.refl _)
      | (with_reducible exact LeO.none _)
      | (with_reducible refine LeO.ite ?_ ?_)
      | (with_reducible refine LeO.bind ?_ (fun _ => ?_))
      | exact ih0 _ _ _ _
      | exact ih1 _ _ _ _
      | exact LeO.none _
      | refine LeO.ite ?_ ?_
      | refine LeO.bind ?_ (fun _ => ?_)
    · intro y0 y1 y2 y3
      unfold agenda_Neat.l1
      repeat' first
      | (with_reducible exact ih0 _ _ _ _)
      | (with_reducible exact ih1 _ _ _ _)
      | (with_reducible exact LeO.refl _)
      | (with_reducible exact LeO.none _)
      | (with_reducible refine LeO.ite ?_ ?_)
      | (with_reducible refine LeO.bind ?_ (fun _ => ?_))
      | exact ih0 _ _ _ _
      | exact ih1 _ _ _ _
      | exact LeO.none _
      | refine LeO.ite ?_ ?_
      | refine LeO.bind ?_ (fun _ => ?_)
theorem agenda_Neat.mono : ∀ a0 k, LeO (agenda_Neat.f k a0) (agenda_Neat.f (k + 1) a0) := by
  intro a0 k
  obtain ⟨ih0, ih1⟩ := agenda_Neat.mono_l k
  unfold agenda_Neat.f
  repeat' first
      | (with_reducible exact ih0 _ _ _ _)
      | (with_reducible exact ih1 _ _ _ _)
      | (with_reducible exact LeO.refl _)
      | (with_reducible exact LeO.none _)
      | (with_reducible refine LeO.ite ?_ ?_)
      | (with_reducible refine LeO.bind ?_ (fun _ => ?_))
      | exact ih0 _ _ _ _
      | exact ih1 _ _ _ _
      | exact LeO.none _
      | refine LeO.ite ?_ ?_
      | refine LeO.bind ?_ (fun _ => ?_)
def agenda_Neat.T5 : Bool × List (List Nat × List Nat) := (true, [([], []), ([0], [0]), ([1], [1]), ([], []), ([3], [3]), ([4, 2], [4]), ([2, 5], [2, 5]), ([6, 5, 0, 1, 2, 3, 4, 5, 6], [6])])
def agenda_Neat.B5 : List Nat := [0, 1, 3, 0, 8, 31, 63, 127]
theorem agenda_Neat.tab5 : rtab .any (opsOf Try.f21 5) = agenda_Neat.T5 := by kernel_rfl
theorem agenda_Neat.bits5 : waitsOk agenda_Neat.T5.2 agenda_Neat.B5 = true := by kernel_rfl
def agenda_Neat.T15 : Bool × List (List Nat × List Nat) := (true, [([], []), ([0], [0]), ([1], [1]), ([2], [2]), ([3, 2], [2, 3]), ([2], [2]), ([2], [2]), ([6, 2], [2, 6]), ([5, 7, 2], [2, 5, 7]), ([8, 2], [2, 8]), ([9, 2], [2, 9]), ([4, 10, 2], [2, 4, 10]), ([2, 11], [2, 11])])
def agenda_Neat.B15 : List Nat := [0, 1, 3, 7, 15, 7, 7, 71, 231, 487, 999, 2047, 4095]
theorem agenda_Neat.tab15 : rtab .any (opsOf Try.f21 15) = agenda_Neat.T15 := by kernel_rfl
theorem agenda_Neat.bits15 : waitsOk agenda_Neat.T15.2 agenda_Neat.B15 = true := by kernel_rfl
def agenda_Neat.T16 : Bool × List (List Nat × List Nat) := (true, [([], []), ([], []), ([1], [1]), ([], []), ([], []), ([4], [4]), ([3, 5], [3, 5]), ([6], [6]), ([7], [7]), ([], []), ([9], [9]), ([8, 10], [8, 10]), ([0, 2, 0, 1, 2, 3, 4, 5, 6, 7, 8, 9, 10, 11], [0, 2]), ([12, 0, 1, 2, 3, 4, 5, 6, 7, 8, 9, 10, 11], [12]), ([13, 11, 0, 1, 2, 3, 4, 5, 6, 7, 8, 9, 10, 11], [11, 13])])
def agenda_Neat.B16 : List Nat := [0, 0, 2, 0, 0, 16, 56, 120, 248, 0, 512, 2040, 4095, 8191, 16383]
theorem agenda_Neat.tab16 : rtab .any (opsOf Try.f21 16) = agenda_Neat.T16 := by kernel_rfl
theorem agenda_Neat.bits16 : waitsOk agenda_Neat.T16.2 agenda_Neat.B16 = true := by kernel_rfl
set_option maxHeartbeats 8000000 in
set_option maxRecDepth 100000 in
theorem agenda_Neat.calls (k : Nat) (A0 : Option Addr) (c0 : Nat) (l0 : List (S67)) (r : List (S67)) (w : World) (hr0 : Kd.C k67 w A0 l0.length l0) (hc0 : l0.length ≤ c0) (h : agenda_Neat.f k l0 = some r) :
    Calls Try.prog 21 #[.slice A0 l0.length c0] w fun e w' => ∃ v0_ : Value, e = .returned (v0_) ∧ Kd.R k67 67 w' w.heap.size (fun _ => True) v0_ r ∧ Below w.heap.size w w' := by
  have hu67 := Try.underlying67
  have HR0 := Aside0.mk hr0
  have HC0 := Aside0.mk hc0
  clear hr0 hc0
  have HB := Aside0.mk (Below.refl w.heap.size w)
  have H : (agenda_Neat.l0 k ([] : List (S67)) l0 (l0.length : Int) 0) = some r := h
  clear h
  have H' := Aside0.mk H
  clear H
  go_enter Try.func21, Try.ntmps21
  go_wp2
  go_loopg [3, 12] k (fun kq v3 v12 w' => ∃ (x3_1 : List (S67)) (x12_1 : Int), v12 = .int .i64 x12_1 ∧ Aside0 (agenda_Neat.l0 kq x3_1 l0 (l0.length : Int) x12_1 = some r) ∧ Aside0 (kq ≤ k) ∧ Aside0 (Kd.R k67 67 w' w.heap.size (fun _ => True) v3 x3_1) ∧ Aside0 (Below w.heap.size w w'))
  case atStart => exact ⟨(([] : List (S67))), (0), (by first | rfl | (simp; done) | (simp [*]; done)), H', ⟨Nat.le_refl _⟩, ⟨by first | exact Kd.R_nil _ _ _ _ _ | exact Kd.N_nil _ _ _ _ _ | exact Kd.V_nil _ _ _ _ _ | exact Kd.Q_nil _ _ _ _ _ | exact Kd.S_nil _ _ _ _ _⟩, ⟨by repeat (first | (with_reducible first | exact HB.out | apply below_alloc | apply pw_below_drewN | apply below_drew1) | exact HB.out)⟩⟩
  case round =>
    clear H'
    obtain ⟨x3_1, x12_1, rfl, HA, HK1, HO_3, HB⟩ := hrel
    cases gk with
    | zero => exact absurd HA.out (by simp [agenda_Neat.l0])
    | succ k1 =>
      have H := HA.out
      clear HA
      simp only [agenda_Neat.l0] at H
      by_cases c2 : x12_1 < (l0.length : Int)
      · rw [if_pos c2] at H
        have c2b0 : decide (x12_1 < (l0.length : Int)) = true := decide_eq_true c2
        clear c2
        by_cases c3 : 0 ≤ x12_1
        · rw [if_pos c3] at H
          have c3b0 : decide (0 ≤ x12_1) = true := decide_eq_true c3
          clear c3
          by_cases c4 : x12_1 < (l0.length : Int)
          · rw [if_pos c4] at H
            have c4b0 : decide (x12_1 < (l0.length : Int)) = true := decide_eq_true c4
            clear c4
            replace H := Option.bind_eq_some_iff.mp H
            obtain ⟨t105, A50, H⟩ := H
            replace H : ((agenda_within.f ((rd_T67 l0 x12_1).f1)).bind fun t106 => (if t105 < t106 then (if x3_1.length < 8796093022208 then (agenda_Neat.l0 k1 (x3_1 ++ [(⟨t105, t106⟩ : S67)]) l0 (l0.length : Int) (wrap64 (x12_1 + 1))) else (none)) else (agenda_Neat.l0 k1 x3_1 l0 (l0.length : Int) (wrap64 (x12_1 + 1))))) = some r := H
            have A5 := Aside0.mk A50
            clear A50
            replace H := Option.bind_eq_some_iff.mp H
            obtain ⟨t106, A60, H⟩ := H
            replace H : (if t105 < t106 then (if x3_1.length < 8796093022208 then (agenda_Neat.l0 k1 (x3_1 ++ [(⟨t105, t106⟩ : S67)]) l0 (l0.length : Int) (wrap64 (x12_1 + 1))) else (none)) else (agenda_Neat.l0 k1 x3_1 l0 (l0.length : Int) (wrap64 (x12_1 + 1)))) = some r := H
            have A6 := Aside0.mk A60
            clear A60
            by_cases c7 : t105 < t106
            · rw [if_pos c7] at H
              have c7b0 : decide (t105 < t106) = true := decide_eq_true c7
              clear c7
              by_cases c8 : x3_1.length < 8796093022208
              · rw [if_pos c8] at H
                have LMc8 := Aside0.mk c8
                clear c8
                obtain ⟨y107, hy107⟩ : ∃ y_ : List (S67), y_ = (x3_1 ++ [(⟨t105, t106⟩ : S67)]) := ⟨_, rfl⟩
                replace H : (agenda_Neat.l0 k1 y107 l0 (l0.length : Int) (wrap64 (x12_1 + 1))) = some r := by first | (rw [hy107]; with_reducible exact H) | (have H2_ := (Option.bind_some _ _).symm.trans H; rw [hy107]; with_reducible exact H2_) | (have H2_ := (Option.bind_some _ _).symm.trans H; with_reducible exact H2_) | with_reducible exact H | (rw [hy107]; exact H) | exact H
                have Ny107 := Aside0.mk hy107
                clear hy107
                have H' := Aside0.mk H
                clear H
                have p103 : 0 ≤ (x12_1 : Int) := of_decide_eq_true (by first | (with_reducible assumption) | assumption)
                have q103 : x12_1 < (l0.length : Int) := of_decide_eq_true (by first | (with_reducible assumption) | assumption)
                obtain ⟨ad103, e103, hx103_0, hx103_1⟩ := at_T67 HR0.out x12_1 p103 q103
                cases e103
                replace hx103_0 := (HB.out.cell (World.block_lt_of_cell? w _ hx103_0)).trans hx103_0
                replace hx103_1 := (HB.out.cell (World.block_lt_of_cell? w _ hx103_1)).trans hx103_1
                replace p103 := eq_true p103
                replace q103 := eq_true q103
                try go_wp2_with (first | ((with_reducible refine gate_dst (N := 5) rfl ?_); refine box_event ?hg (N := 5) ?hd (cs := #[.int .i64 0, .int .i64 0]) (t := 67) ?hr ?_; (case hd => rfl); (case hg => rfl); (case hr => first | (go_simp; done) | (go_simp; rfl)); intro gb104 hg w9 hbox hb; have n0_ := Aside0.mk (Kd.R_below (Kd.R_elderB (by (with_reducible repeat (first | apply Kd.R_alloc | apply Kd.R_drewN | apply Kd.R_drew)); exact HO_3.out) gb104 (Nat.le_of_eq hg.symm)) hb); have n1_ := Aside0.mk (below_step (by repeat (first | (with_reducible first | exact HB.out | apply below_alloc | apply pw_below_drewN | apply below_drew1) | exact HB.out)) hb); have n2_ := Aside0.mk (hbox); have n3_ := Aside0.mk ((by rw [hg]; exact (below_size (by repeat (first | (with_reducible first | exact HB.out | apply below_alloc | apply pw_below_drewN | apply below_drew1) | exact HB.out))) : w.heap.size ≤ gb104)); have n4_ := Aside0.mk ((by rw [hg]; exact (below_size (by repeat (first | (with_reducible first | exact HB.out | apply below_alloc | apply pw_below_drewN | apply below_drew1) | exact HB.out))) : w.heap.size ≤ gb104)); clear HO_3; clear HB; have HO_3 := n0_; have HB := n1_; have BK104 := n2_; have GW104 := n3_; have GE104 := n4_; clear n0_ n1_ n2_ n3_ n4_; clear hb hbox hg; have hcz10_0 : w9.cell? ⟨gb104, 0, none⟩ = some (.int .i64 0) := (blk_cell BK104.out 0).trans rfl; have hcz10_1 : w9.cell? ⟨gb104, 1, none⟩ = some (.int .i64 0) := (blk_cell BK104.out 1).trans rfl; have hfz10_0 := blk_frozen BK104.out 0; have hfz10_1 := blk_frozen BK104.out 1))
                have n0_ : Aside0 (Kd.R k67 67 ((w9.setCell ⟨gb104, 0, none⟩ (.int .i64 ((rd_T67 l0 x12_1).f0))).setCell ⟨gb104, 1, none⟩ (.int .i64 ((rd_T67 l0 x12_1).f1))) w.heap.size (fun k_ => k_ ≠ gb104) u3 x3_1) := ⟨by (with_reducible repeat (first | apply Kd.R_alloc | apply Kd.R_drewN | apply Kd.R_drew)); exact Kd.R_mono (Kd.R_far (p := ⟨gb104, 1, none⟩) (Kd.R_far (p := ⟨gb104, 0, none⟩) (Kd.R_mono HO_3.out (fun k_ hk => (⟨hk, hk.2⟩ : _ ∧ k_ ≠ gb104))) (fun _ hk => hk.2) (.int .i64 ((rd_T67 l0 x12_1).f0))) (fun _ hk => hk.2) (.int .i64 ((rd_T67 l0 x12_1).f1))) (fun _ hk => hk.1.2)⟩
                have n1_ : Aside0 (((w9.setCell ⟨gb104, 0, none⟩ (.int .i64 ((rd_T67 l0 x12_1).f0))).setCell ⟨gb104, 1, none⟩ (.int .i64 ((rd_T67 l0 x12_1).f1))).heap[gb104]? = some (.cells #[.int .i64 ((rd_T67 l0 x12_1).f0), .int .i64 ((rd_T67 l0 x12_1).f1)] 67 (0, 0))) := ⟨by (with_reducible repeat (first | refine blk_drewN ?_ _ | refine blk_drew ?_ | refine blk_alloc ?_ _)); refine blk_put (cs := #[.int .i64 ((rd_T67 l0 x12_1).f0), .int .i64 0]) ?_ 1 _ rfl; (with_reducible repeat (first | refine blk_drewN ?_ _ | refine blk_drew ?_ | refine blk_alloc ?_ _)); refine blk_put (cs := #[.int .i64 0, .int .i64 0]) ?_ 0 _ rfl; (with_reducible repeat (first | refine blk_drewN ?_ _ | refine blk_drew ?_ | refine blk_alloc ?_ _)); exact BK104.out⟩
                have n2_ : Aside0 (Below w.heap.size w ((w9.setCell ⟨gb104, 0, none⟩ (.int .i64 ((rd_T67 l0 x12_1).f0))).setCell ⟨gb104, 1, none⟩ (.int .i64 ((rd_T67 l0 x12_1).f1)))) := ⟨by repeat (first | (with_reducible first | exact HB.out | apply below_alloc | apply pw_below_drewN | apply below_drew1 | refine below_set ?_ GE104.out) | exact HB.out)⟩
                (try clear HO_3)
                (try clear BK104)
                (try clear HB)
                generalize ((w9.setCell ⟨gb104, 0, none⟩ (.int .i64 ((rd_T67 l0 x12_1).f0))).setCell ⟨gb104, 1, none⟩ (.int .i64 ((rd_T67 l0 x12_1).f1))) = w11 at n0_ n1_ n2_ ⊢
                have HO_3 := n0_
                have BK104 := n1_
                have HB := n2_
                clear n0_ n1_ n2_
                have n0_ := Aside0.mk (Kd.R_drew HO_3.out)
                have n1_ := Aside0.mk (blk_drew BK104.out)
                have n2_ := Aside0.mk (below_drew1 HB.out)
                clear HO_3
                clear BK104
                clear HB
                have HO_3 := n0_
                have BK104 := n1_
                have HB := n2_
                clear n0_ n1_ n2_
                refine start_ (n := 8) (S := fun w' => w'.cell? ⟨gb104, 0, none⟩ = some (.int .i64 ((rd_T67 l0 x12_1).f0)) ∧ w'.cell? ⟨gb104, 1, none⟩ = some (.int .i64 ((rd_T67 l0 x12_1).f1))) (ds := [7]) #[false, false, false, false, false, false, false, false] (by kernel_rfl) rfl rfl ⟨(blk_cell BK104.out 0).trans rfl, (blk_cell BK104.out 1).trans rfl⟩ (fun hHeld => ?_); refine with_tabW agenda_Neat.tab5 agenda_Neat.bits5 (fun HT_ HW_ => ?_)
                generalize w11.drew = w12 at HO_3 BK104 HB hHeld ⊢
                refine pure_ (i := 0) (N := some 16) (v := ?_) (a' := ?_) #[true, false, false, false, false, false, false, false] rfl rfl (any_of HT_.out (by kernel_rfl)) (fun _ _ _ h => h) (Or.inl ⟨by rfl, ?_⟩) ?_ ?_
                rotate_left
                · intro w'
                  go_simp
                  with_reducible rfl
                rotate_left
                · simp only [Act.put, List.setIfInBounds_toArray, List.set_cons_zero, List.set_cons_succ, i64_w, i32_w]
                  rfl
                refine pure_ (i := 3) (N := some 19) (v := ?_) (a' := ?_) #[true, false, false, true, false, false, false, false] rfl rfl (any_of HT_.out (by kernel_rfl)) (fun _ _ _ h => h) (Or.inl ⟨by rfl, ?_⟩) ?_ ?_
                rotate_left
                · intro w'
                  go_simp
                  with_reducible rfl
                rotate_left
                · simp only [Act.put, List.setIfInBounds_toArray, List.set_cons_zero, List.set_cons_succ, i64_w, i32_w]
                  rfl
                refine take_ (i := 1) (N := some 17) (v := ?_) (a' := ?_) #[true, true, false, true, false, false, false, false] rfl rfl (take_ofW HT_.out HW_.out (by kernel_rfl)) (fun _ _ _ h => h) (Or.inl ⟨by rfl, ?_⟩) hHeld ?_ ?_
                rotate_left
                · rintro w' ⟨s0, s1⟩
                  go_simp
                  with_reducible rfl
                rotate_left
                · simp only [Act.put, List.setIfInBounds_toArray, List.set_cons_zero, List.set_cons_succ, i64_w, i32_w]
                  rfl
                refine take_ (i := 4) (N := some 20) (v := ?_) (a' := ?_) #[true, true, false, true, true, false, false, false] rfl rfl (take_ofW HT_.out HW_.out (by kernel_rfl)) (fun _ _ _ h => h) (Or.inl ⟨by rfl, ?_⟩) hHeld ?_ ?_
                rotate_left
                · rintro w' ⟨s0, s1⟩
                  go_simp
                  with_reducible rfl
                rotate_left
                · simp only [Act.put, List.setIfInBounds_toArray, List.set_cons_zero, List.set_cons_succ, i64_w, i32_w]
                  rfl
                refine one_ (i := 2) (N := some 18) #[true, true, true, true, true, false, false, false] rfl rfl (one_of HT_.out (by kernel_rfl)) (by decide) (fun K hK => ?_)
                refine goes_ Try.func44 (by kernel_rfl) rfl #[.int .i64 ((rd_T67 l0 x12_1).f0)] (by rfl) rfl rfl (by (try simp only [List.map_toArray, List.map_cons, List.map_nil]); first | done | rfl | (simp only [List.length_drop, List.length_take]; rfl)) ?_
                with_reducible refine (agenda_within.calls ((rd_T67 l0 x12_1).f0) t105 _ A5.out).mono ?_
                rintro e w13 ⟨rfl, hb⟩
                refine ⟨_, rfl, ?_⟩
                have n0_ := Aside0.mk (Kd.R_below (by (with_reducible repeat (first | apply Kd.R_alloc | apply Kd.R_drewN | apply Kd.R_drew)); exact HO_3.out) hb)
                have n1_ := Aside0.mk (blk_below (g := gb104) (o := .cells #[.int .i64 ((rd_T67 l0 x12_1).f0), .int .i64 ((rd_T67 l0 x12_1).f1)] 67 (0, 0)) (by (with_reducible repeat (first | refine blk_drewN ?_ _ | refine blk_drew ?_ | refine blk_alloc ?_ _)); exact BK104.out) hb)
                have n2_ := Aside0.mk (below_step (by repeat (first | (with_reducible first | exact HB.out | apply below_alloc | apply pw_below_drewN | apply below_drew1 | refine below_set ?_ GE104.out) | exact HB.out)) hb)
                clear HO_3
                clear BK104
                clear HB
                have HO_3 := n0_
                have BK104 := n1_
                have HB := n2_
                clear n0_ n1_ n2_
                (try clear hb)
                (try clear hb2)
                (try clear hk)
                (try clear hi)
                refine hK.out _ _ ⟨(blk_cell BK104.out 0).trans rfl, (blk_cell BK104.out 1).trans rfl⟩ (fun hHeld => ?_)
                clear hK K
                refine norm_ (a' := ?_) ?_ ?_
                rotate_left
                · show Act.put _ (some 18) _ = _
                  simp only [Act.put, List.setIfInBounds_toArray, List.set_cons_zero, List.set_cons_succ, i64_w, i32_w]
                  rfl
                refine one_ (i := 5) (N := some 21) #[true, true, true, true, true, true, false, false] rfl rfl (one_of HT_.out (by kernel_rfl)) (by decide) (fun K hK => ?_)
                refine goes_ Try.func44 (by kernel_rfl) rfl #[.int .i64 ((rd_T67 l0 x12_1).f1)] (by rfl) rfl rfl (by (try simp only [List.map_toArray, List.map_cons, List.map_nil]); first | done | rfl | (simp only [List.length_drop, List.length_take]; rfl)) ?_
                with_reducible refine (agenda_within.calls ((rd_T67 l0 x12_1).f1) t106 _ A6.out).mono ?_
                rintro e w14 ⟨rfl, hb⟩
                refine ⟨_, rfl, ?_⟩
                have n0_ := Aside0.mk (Kd.R_below (by (with_reducible repeat (first | apply Kd.R_alloc | apply Kd.R_drewN | apply Kd.R_drew)); exact HO_3.out) hb)
                have n1_ := Aside0.mk (blk_below (g := gb104) (o := .cells #[.int .i64 ((rd_T67 l0 x12_1).f0), .int .i64 ((rd_T67 l0 x12_1).f1)] 67 (0, 0)) (by (with_reducible repeat (first | refine blk_drewN ?_ _ | refine blk_drew ?_ | refine blk_alloc ?_ _)); exact BK104.out) hb)
                have n2_ := Aside0.mk (below_step (by repeat (first | (with_reducible first | exact HB.out | apply below_alloc | apply pw_below_drewN | apply below_drew1 | refine below_set ?_ GE104.out) | exact HB.out)) hb)
                clear HO_3
                clear BK104
                clear HB
                have HO_3 := n0_
                have BK104 := n1_
                have HB := n2_
                clear n0_ n1_ n2_
                (try clear hb)
                (try clear hb2)
                (try clear hk)
                (try clear hi)
                refine hK.out _ _ ⟨(blk_cell BK104.out 0).trans rfl, (blk_cell BK104.out 1).trans rfl⟩ (fun hHeld => ?_)
                clear hK K
                refine norm_ (a' := ?_) ?_ ?_
                rotate_left
                · show Act.put _ (some 21) _ = _
                  simp only [Act.put, List.setIfInBounds_toArray, List.set_cons_zero, List.set_cons_succ, i64_w, i32_w]
                  rfl
                refine pure_ (i := 6) (N := some 22) (v := ?_) (a' := ?_) #[true, true, true, true, true, true, true, false] rfl rfl (any_of HT_.out (by kernel_rfl)) (fun _ _ _ h => h) (Or.inl ⟨by rfl, ?_⟩) ?_ ?_
                rotate_left
                · intro w'
                  go_simp
                  with_reducible rfl
                rotate_left
                · simp only [Act.put, List.setIfInBounds_toArray, List.set_cons_zero, List.set_cons_succ, i64_w, i32_w]
                  rfl
                refine last_ (i := 7) (N := none) #[true, true, true, true, true, true, true, true] rfl rfl (one_of HT_.out (by kernel_rfl)) (by decide) (fun K hK => ?_)
                have hs15 : w14.cell? ⟨gb104, 0, none⟩ = some (.int .i64 ((rd_T67 l0 x12_1).f0)) := (blk_cell BK104.out 0).trans rfl
                have hfs15 := blk_frozen BK104.out 0
                have hs16 : w14.cell? ⟨gb104, 1, none⟩ = some (.int .i64 ((rd_T67 l0 x12_1).f1)) := (blk_cell BK104.out 1).trans rfl
                have hfs16 := blk_frozen BK104.out 1
                refine skip_ (w1 := ?_) (by rfl) rfl ?_ ?_
                rotate_left
                · go_simp
                  rfl
                refine hK.out _ _ ?_
                clear hK K
                refine done_ (done_of HT_.out (by kernel_rfl)) ?_
                have hcz17_0 : w14.cell? ⟨gb104, 0, none⟩ = some (.int .i64 ((rd_T67 l0 x12_1).f0)) := (blk_cell BK104.out 0).trans rfl
                have hcz17_1 : w14.cell? ⟨gb104, 1, none⟩ = some (.int .i64 ((rd_T67 l0 x12_1).f1)) := (blk_cell BK104.out 1).trans rfl
                have hfz17_0 := blk_frozen BK104.out 0
                have hfz17_1 := blk_frozen BK104.out 1
                try go_wp2_with (first | ((with_reducible refine gate_builtin (b := .append) (xs := #[.tmp 28, .tmp 30]) rfl ?_); at_builtin; refine Kd.R_append k67 (w0 := w) w.heap.size rfl (.tmp 28) (.tmp 30) 57 67 (.agg #[(.int .i64 0), (.int .i64 0)]) 16 rfl Try.underlying57 info67 rfl (by decide) (by omega) u3 x3_1 (⟨t105, t106⟩ : S67) [.int .i64 t105, .int .i64 t106] (fun k_ => k_ ≠ gb104) (fun _ => False) rfl (by first | (go_simp; done) | (go_simp; rfl)) ?aP (fun _ hk => hk.elim) ?aF ?aO ?aB ?aS ?aL ?_; (case aP => exact k67_mkM _ _ _ (⟨t105, t106⟩ : S67)); (case aB => exact (by repeat (first | (with_reducible first | exact HB.out | apply below_alloc | apply pw_below_drewN | apply below_drew1 | refine below_set ?_ GE104.out) | exact HB.out))); (case aF => exact (fun k_ hk => Kd.freshB (g := gb104) (o := .cells #[.int .i64 t105, .int .i64 t106] 67 (0, 0)) (by (with_reducible repeat (first | refine blk_drewN ?_ _ | refine blk_drew ?_ | refine blk_alloc ?_ _)); refine blk_put (cs := #[.int .i64 t105, .int .i64 ((rd_T67 l0 x12_1).f1)]) ?_ 1 _ rfl; (with_reducible repeat (first | refine blk_drewN ?_ _ | refine blk_drew ?_ | refine blk_alloc ?_ _)); refine blk_put (cs := #[.int .i64 ((rd_T67 l0 x12_1).f0), .int .i64 ((rd_T67 l0 x12_1).f1)]) ?_ 0 _ rfl; (with_reducible repeat (first | refine blk_drewN ?_ _ | refine blk_drew ?_ | refine blk_alloc ?_ _)); exact BK104.out) k_ hk)); (case aO => exact (by (with_reducible repeat (first | apply Kd.R_alloc | apply Kd.R_drewN | apply Kd.R_drew)); exact Kd.R_mono (Kd.R_far (p := ⟨gb104, 1, none⟩) (Kd.R_far (p := ⟨gb104, 0, none⟩) (Kd.R_mono HO_3.out (fun k_ hk => (⟨hk, hk⟩ : _ ∧ k_ ≠ gb104))) (fun _ hk => hk.2) (.int .i64 t105)) (fun _ hk => hk.2) (.int .i64 t106)) (fun _ hk => hk.1))); (case aS => exact (below_size (by repeat (first | (with_reducible first | exact HB.out | apply below_alloc | apply pw_below_drewN | apply below_drew1 | refine below_set ?_ GE104.out) | exact HB.out)))); (case aL => have := LMc8.out; omega); intro v108 w18 ho hb hg hat; rw [← Ny107.out] at ho; have n0_ := Aside0.mk (blk_grown (g := gb104) (o := .cells #[.int .i64 t105, .int .i64 t106] 67 (0, 0)) (by (with_reducible repeat (first | refine blk_drewN ?_ _ | refine blk_drew ?_ | refine blk_alloc ?_ _)); refine blk_put (cs := #[.int .i64 t105, .int .i64 ((rd_T67 l0 x12_1).f1)]) ?_ 1 _ rfl; (with_reducible repeat (first | refine blk_drewN ?_ _ | refine blk_drew ?_ | refine blk_alloc ?_ _)); refine blk_put (cs := #[.int .i64 ((rd_T67 l0 x12_1).f0), .int .i64 ((rd_T67 l0 x12_1).f1)]) ?_ 0 _ rfl; (with_reducible repeat (first | refine blk_drewN ?_ _ | refine blk_drew ?_ | refine blk_alloc ?_ _)); exact BK104.out) hg (Kd.R_away HO_3.out (fun _ hk => hk))); have n1_ := Aside0.mk (hb); have n2_ := Aside0.mk (ho); clear BK104; clear HB; clear HO_3; have BK104 := n0_; have HB := n1_; have HO109 := n2_; clear n0_ n1_ n2_; clear ho hb hg hat))
                go_roundg k1
                case measure => have := HK1.out; omega
                case rel => exact ⟨(y107), (wrap64 (x12_1 + 1)), (by first | rfl | (simp; done) | (simp [*]; done)), H', ⟨by have := HK1.out; omega⟩, ⟨by (with_reducible repeat (first | apply Kd.R_alloc | apply Kd.R_drewN | apply Kd.R_drew)); exact Kd.R_mono HO109.out (fun _ hk => trivial)⟩, ⟨by repeat (first | (with_reducible first | exact HB.out | apply below_alloc | apply pw_below_drewN | apply below_drew1 | refine below_set ?_ GE104.out) | exact HB.out)⟩⟩
              · rw [if_neg c8] at H
                exact absurd H (by simp)
            · rw [if_neg c7] at H
              have c7b0 : decide (t105 < t106) = false := decide_eq_false c7
              clear c7
              have H' := Aside0.mk H
              clear H
              have p103 : 0 ≤ (x12_1 : Int) := of_decide_eq_true (by first | (with_reducible assumption) | assumption)
              have q103 : x12_1 < (l0.length : Int) := of_decide_eq_true (by first | (with_reducible assumption) | assumption)
              obtain ⟨ad103, e103, hx103_0, hx103_1⟩ := at_T67 HR0.out x12_1 p103 q103
              cases e103
              replace hx103_0 := (HB.out.cell (World.block_lt_of_cell? w _ hx103_0)).trans hx103_0
              replace hx103_1 := (HB.out.cell (World.block_lt_of_cell? w _ hx103_1)).trans hx103_1
              replace p103 := eq_true p103
              replace q103 := eq_true q103
              try go_wp2_with (first | ((with_reducible refine gate_dst (N := 5) rfl ?_); refine box_event ?hg (N := 5) ?hd (cs := #[.int .i64 0, .int .i64 0]) (t := 67) ?hr ?_; (case hd => rfl); (case hg => rfl); (case hr => first | (go_simp; done) | (go_simp; rfl)); intro gb104 hg w19 hbox hb; have n0_ := Aside0.mk (Kd.R_below (Kd.R_elderB (by (with_reducible repeat (first | apply Kd.R_alloc | apply Kd.R_drewN | apply Kd.R_drew)); exact HO_3.out) gb104 (Nat.le_of_eq hg.symm)) hb); have n1_ := Aside0.mk (below_step (by repeat (first | (with_reducible first | exact HB.out | apply below_alloc | apply pw_below_drewN | apply below_drew1) | exact HB.out)) hb); have n2_ := Aside0.mk (hbox); have n3_ := Aside0.mk ((by rw [hg]; exact (below_size (by repeat (first | (with_reducible first | exact HB.out | apply below_alloc | apply pw_below_drewN | apply below_drew1) | exact HB.out))) : w.heap.size ≤ gb104)); have n4_ := Aside0.mk ((by rw [hg]; exact (below_size (by repeat (first | (with_reducible first | exact HB.out | apply below_alloc | apply pw_below_drewN | apply below_drew1) | exact HB.out))) : w.heap.size ≤ gb104)); clear HO_3; clear HB; have HO_3 := n0_; have HB := n1_; have BK104 := n2_; have GW104 := n3_; have GE104 := n4_; clear n0_ n1_ n2_ n3_ n4_; clear hb hbox hg; have hcz20_0 : w19.cell? ⟨gb104, 0, none⟩ = some (.int .i64 0) := (blk_cell BK104.out 0).trans rfl; have hcz20_1 : w19.cell? ⟨gb104, 1, none⟩ = some (.int .i64 0) := (blk_cell BK104.out 1).trans rfl; have hfz20_0 := blk_frozen BK104.out 0; have hfz20_1 := blk_frozen BK104.out 1))
              have n0_ : Aside0 (Kd.R k67 67 ((w19.setCell ⟨gb104, 0, none⟩ (.int .i64 ((rd_T67 l0 x12_1).f0))).setCell ⟨gb104, 1, none⟩ (.int .i64 ((rd_T67 l0 x12_1).f1))) w.heap.size (fun k_ => k_ ≠ gb104) u3 x3_1) := ⟨by (with_reducible repeat (first | apply Kd.R_alloc | apply Kd.R_drewN | apply Kd.R_drew)); exact Kd.R_mono (Kd.R_far (p := ⟨gb104, 1, none⟩) (Kd.R_far (p := ⟨gb104, 0, none⟩) (Kd.R_mono HO_3.out (fun k_ hk => (⟨hk, hk.2⟩ : _ ∧ k_ ≠ gb104))) (fun _ hk => hk.2) (.int .i64 ((rd_T67 l0 x12_1).f0))) (fun _ hk => hk.2) (.int .i64 ((rd_T67 l0 x12_1).f1))) (fun _ hk => hk.1.2)⟩
              have n1_ : Aside0 (((w19.setCell ⟨gb104, 0, none⟩ (.int .i64 ((rd_T67 l0 x12_1).f0))).setCell ⟨gb104, 1, none⟩ (.int .i64 ((rd_T67 l0 x12_1).f1))).heap[gb104]? = some (.cells #[.int .i64 ((rd_T67 l0 x12_1).f0), .int .i64 ((rd_T67 l0 x12_1).f1)] 67 (0, 0))) := ⟨by (with_reducible repeat (first | refine blk_drewN ?_ _ | refine blk_drew ?_ | refine blk_alloc ?_ _)); refine blk_put (cs := #[.int .i64 ((rd_T67 l0 x12_1).f0), .int .i64 0]) ?_ 1 _ rfl; (with_reducible repeat (first | refine blk_drewN ?_ _ | refine blk_drew ?_ | refine blk_alloc ?_ _)); refine blk_put (cs := #[.int .i64 0, .int .i64 0]) ?_ 0 _ rfl; (with_reducible repeat (first | refine blk_drewN ?_ _ | refine blk_drew ?_ | refine blk_alloc ?_ _)); exact BK104.out⟩
              have n2_ : Aside0 (Below w.heap.size w ((w19.setCell ⟨gb104, 0, none⟩ (.int .i64 ((rd_T67 l0 x12_1).f0))).setCell ⟨gb104, 1, none⟩ (.int .i64 ((rd_T67 l0 x12_1).f1)))) := ⟨by repeat (first | (with_reducible first | exact HB.out | apply below_alloc | apply pw_below_drewN | apply below_drew1 | refine below_set ?_ GE104.out) | exact HB.out)⟩
              (try clear HO_3)
              (try clear BK104)
              (try clear HB)
              generalize ((w19.setCell ⟨gb104, 0, none⟩ (.int .i64 ((rd_T67 l0 x12_1).f0))).setCell ⟨gb104, 1, none⟩ (.int .i64 ((rd_T67 l0 x12_1).f1))) = w21 at n0_ n1_ n2_ ⊢
              have HO_3 := n0_
              have BK104 := n1_
              have HB := n2_
              clear n0_ n1_ n2_
              have n0_ := Aside0.mk (Kd.R_drew HO_3.out)
              have n1_ := Aside0.mk (blk_drew BK104.out)
              have n2_ := Aside0.mk (below_drew1 HB.out)
              clear HO_3
              clear BK104
              clear HB
              have HO_3 := n0_
              have BK104 := n1_
              have HB := n2_
              clear n0_ n1_ n2_
              refine start_ (n := 8) (S := fun w' => w'.cell? ⟨gb104, 0, none⟩ = some (.int .i64 ((rd_T67 l0 x12_1).f0)) ∧ w'.cell? ⟨gb104, 1, none⟩ = some (.int .i64 ((rd_T67 l0 x12_1).f1))) (ds := [7]) #[false, false, false, false, false, false, false, false] (by kernel_rfl) rfl rfl ⟨(blk_cell BK104.out 0).trans rfl, (blk_cell BK104.out 1).trans rfl⟩ (fun hHeld => ?_); refine with_tabW agenda_Neat.tab5 agenda_Neat.bits5 (fun HT_ HW_ => ?_)
              generalize w21.drew = w22 at HO_3 BK104 HB hHeld ⊢
              refine pure_ (i := 0) (N := some 16) (v := ?_) (a' := ?_) #[true, false, false, false, false, false, false, false] rfl rfl (any_of HT_.out (by kernel_rfl)) (fun _ _ _ h => h) (Or.inl ⟨by rfl, ?_⟩) ?_ ?_
              rotate_left
              · intro w'
                go_simp
                with_reducible rfl
              rotate_left
              · simp only [Act.put, List.setIfInBounds_toArray, List.set_cons_zero, List.set_cons_succ, i64_w, i32_w]
                rfl
              refine pure_ (i := 3) (N := some 19) (v := ?_) (a' := ?_) #[true, false, false, true, false, false, false, false] rfl rfl (any_of HT_.out (by kernel_rfl)) (fun _ _ _ h => h) (Or.inl ⟨by rfl, ?_⟩) ?_ ?_
              rotate_left
              · intro w'
                go_simp
                with_reducible rfl
              rotate_left
              · simp only [Act.put, List.setIfInBounds_toArray, List.set_cons_zero, List.set_cons_succ, i64_w, i32_w]
                rfl
              refine take_ (i := 1) (N := some 17) (v := ?_) (a' := ?_) #[true, true, false, true, false, false, false, false] rfl rfl (take_ofW HT_.out HW_.out (by kernel_rfl)) (fun _ _ _ h => h) (Or.inl ⟨by rfl, ?_⟩) hHeld ?_ ?_
              rotate_left
              · rintro w' ⟨s0, s1⟩
                go_simp
                with_reducible rfl
              rotate_left
              · simp only [Act.put, List.setIfInBounds_toArray, List.set_cons_zero, List.set_cons_succ, i64_w, i32_w]
                rfl
              refine take_ (i := 4) (N := some 20) (v := ?_) (a' := ?_) #[true, true, false, true, true, false, false, false] rfl rfl (take_ofW HT_.out HW_.out (by kernel_rfl)) (fun _ _ _ h => h) (Or.inl ⟨by rfl, ?_⟩) hHeld ?_ ?_
              rotate_left
              · rintro w' ⟨s0, s1⟩
                go_simp
                with_reducible rfl
              rotate_left
              · simp only [Act.put, List.setIfInBounds_toArray, List.set_cons_zero, List.set_cons_succ, i64_w, i32_w]
                rfl
              refine one_ (i := 2) (N := some 18) #[true, true, true, true, true, false, false, false] rfl rfl (one_of HT_.out (by kernel_rfl)) (by decide) (fun K hK => ?_)
              refine goes_ Try.func44 (by kernel_rfl) rfl #[.int .i64 ((rd_T67 l0 x12_1).f0)] (by rfl) rfl rfl (by (try simp only [List.map_toArray, List.map_cons, List.map_nil]); first | done | rfl | (simp only [List.length_drop, List.length_take]; rfl)) ?_
              with_reducible refine (agenda_within.calls ((rd_T67 l0 x12_1).f0) t105 _ A5.out).mono ?_
              rintro e w23 ⟨rfl, hb⟩
              refine ⟨_, rfl, ?_⟩
              have n0_ := Aside0.mk (Kd.R_below (by (with_reducible repeat (first | apply Kd.R_alloc | apply Kd.R_drewN | apply Kd.R_drew)); exact HO_3.out) hb)
              have n1_ := Aside0.mk (blk_below (g := gb104) (o := .cells #[.int .i64 ((rd_T67 l0 x12_1).f0), .int .i64 ((rd_T67 l0 x12_1).f1)] 67 (0, 0)) (by (with_reducible repeat (first | refine blk_drewN ?_ _ | refine blk_drew ?_ | refine blk_alloc ?_ _)); exact BK104.out) hb)
              have n2_ := Aside0.mk (below_step (by repeat (first | (with_reducible first | exact HB.out | apply below_alloc | apply pw_below_drewN | apply below_drew1 | refine below_set ?_ GE104.out) | exact HB.out)) hb)
              clear HO_3
              clear BK104
              clear HB
              have HO_3 := n0_
              have BK104 := n1_
              have HB := n2_
              clear n0_ n1_ n2_
              (try clear hb)
              (try clear hb2)
              (try clear hk)
              (try clear hi)
              refine hK.out _ _ ⟨(blk_cell BK104.out 0).trans rfl, (blk_cell BK104.out 1).trans rfl⟩ (fun hHeld => ?_)
              clear hK K
              refine norm_ (a' := ?_) ?_ ?_
              rotate_left
              · show Act.put _ (some 18) _ = _
                simp only [Act.put, List.setIfInBounds_toArray, List.set_cons_zero, List.set_cons_succ, i64_w, i32_w]
                rfl
              refine one_ (i := 5) (N := some 21) #[true, true, true, true, true, true, false, false] rfl rfl (one_of HT_.out (by kernel_rfl)) (by decide) (fun K hK => ?_)
              refine goes_ Try.func44 (by kernel_rfl) rfl #[.int .i64 ((rd_T67 l0 x12_1).f1)] (by rfl) rfl rfl (by (try simp only [List.map_toArray, List.map_cons, List.map_nil]); first | done | rfl | (simp only [List.length_drop, List.length_take]; rfl)) ?_
              with_reducible refine (agenda_within.calls ((rd_T67 l0 x12_1).f1) t106 _ A6.out).mono ?_
              rintro e w24 ⟨rfl, hb⟩
              refine ⟨_, rfl, ?_⟩
              have n0_ := Aside0.mk (Kd.R_below (by (with_reducible repeat (first | apply Kd.R_alloc | apply Kd.R_drewN | apply Kd.R_drew)); exact HO_3.out) hb)
              have n1_ := Aside0.mk (blk_below (g := gb104) (o := .cells #[.int .i64 ((rd_T67 l0 x12_1).f0), .int .i64 ((rd_T67 l0 x12_1).f1)] 67 (0, 0)) (by (with_reducible repeat (first | refine blk_drewN ?_ _ | refine blk_drew ?_ | refine blk_alloc ?_ _)); exact BK104.out) hb)
              have n2_ := Aside0.mk (below_step (by repeat (first | (with_reducible first | exact HB.out | apply below_alloc | apply pw_below_drewN | apply below_drew1 | refine below_set ?_ GE104.out) | exact HB.out)) hb)
              clear HO_3
              clear BK104
              clear HB
              have HO_3 := n0_
              have BK104 := n1_
              have HB := n2_
              clear n0_ n1_ n2_
              (try clear hb)
              (try clear hb2)
              (try clear hk)
              (try clear hi)
              refine hK.out _ _ ⟨(blk_cell BK104.out 0).trans rfl, (blk_cell BK104.out 1).trans rfl⟩ (fun hHeld => ?_)
              clear hK K
              refine norm_ (a' := ?_) ?_ ?_
              rotate_left
              · show Act.put _ (some 21) _ = _
                simp only [Act.put, List.setIfInBounds_toArray, List.set_cons_zero, List.set_cons_succ, i64_w, i32_w]
                rfl
              refine pure_ (i := 6) (N := some 22) (v := ?_) (a' := ?_) #[true, true, true, true, true, true, true, false] rfl rfl (any_of HT_.out (by kernel_rfl)) (fun _ _ _ h => h) (Or.inl ⟨by rfl, ?_⟩) ?_ ?_
              rotate_left
              · intro w'
                go_simp
                with_reducible rfl
              rotate_left
              · simp only [Act.put, List.setIfInBounds_toArray, List.set_cons_zero, List.set_cons_succ, i64_w, i32_w]
                rfl
              refine last_ (i := 7) (N := none) #[true, true, true, true, true, true, true, true] rfl rfl (one_of HT_.out (by kernel_rfl)) (by decide) (fun K hK => ?_)
              have hs25 : w24.cell? ⟨gb104, 0, none⟩ = some (.int .i64 ((rd_T67 l0 x12_1).f0)) := (blk_cell BK104.out 0).trans rfl
              have hfs25 := blk_frozen BK104.out 0
              have hs26 : w24.cell? ⟨gb104, 1, none⟩ = some (.int .i64 ((rd_T67 l0 x12_1).f1)) := (blk_cell BK104.out 1).trans rfl
              have hfs26 := blk_frozen BK104.out 1
              refine skip_ (w1 := ?_) (by rfl) rfl ?_ ?_
              rotate_left
              · go_simp
                rfl
              refine hK.out _ _ ?_
              clear hK K
              refine done_ (done_of HT_.out (by kernel_rfl)) ?_
              have hcz27_0 : w24.cell? ⟨gb104, 0, none⟩ = some (.int .i64 ((rd_T67 l0 x12_1).f0)) := (blk_cell BK104.out 0).trans rfl
              have hcz27_1 : w24.cell? ⟨gb104, 1, none⟩ = some (.int .i64 ((rd_T67 l0 x12_1).f1)) := (blk_cell BK104.out 1).trans rfl
              have hfz27_0 := blk_frozen BK104.out 0
              have hfz27_1 := blk_frozen BK104.out 1
              try go_wp2
              go_roundg k1
              case measure => have := HK1.out; omega
              case rel => exact ⟨(x3_1), (wrap64 (x12_1 + 1)), (by first | rfl | (simp; done) | (simp [*]; done)), H', ⟨by have := HK1.out; omega⟩, ⟨by (with_reducible repeat (first | apply Kd.R_alloc | apply Kd.R_drewN | apply Kd.R_drew)); exact Kd.R_mono (Kd.R_far (p := ⟨gb104, 1, none⟩) (Kd.R_far (p := ⟨gb104, 0, none⟩) (Kd.R_mono HO_3.out (fun k_ hk => (⟨hk, hk⟩ : _ ∧ k_ ≠ gb104))) (fun _ hk => hk.2) (.int .i64 t105)) (fun _ hk => hk.2) (.int .i64 t106)) (fun _ hk => trivial)⟩, ⟨by repeat (first | (with_reducible first | exact HB.out | apply below_alloc | apply pw_below_drewN | apply below_drew1 | refine below_set ?_ GE104.out) | exact HB.out)⟩⟩
          · rw [if_neg c4] at H
            exact absurd H (by simp)
        · rw [if_neg c3] at H
          exact absurd H (by simp)
      · rw [if_neg c2] at H
        have c2b0 : decide (x12_1 < (l0.length : Int)) = false := decide_eq_false c2
        clear c2
        by_cases cS : ¬ x3_1.length < 4611686018427387904
        · rw [if_neg cS] at H; exact absurd H (by simp)
        replace cS := Decidable.of_not_not cS
        rw [if_pos cS] at H
        have LS := Aside0.mk cS
        clear cS
        have H' := Aside0.mk H
        clear H
        obtain ⟨Ao28, co28, eo28⟩ := Kd.R_slice HO_3.out
        subst eo28
        go_wp2_with (go_at_call 45; refine (SortS.sort_calls (w0 := w) (base := w.heap.size) (ok := fun _ => True) (by (with_reducible repeat (first | apply Kd.R_alloc | apply Kd.R_drewN | apply Kd.R_drew)); exact HO_3.out) (by repeat (first | (with_reducible first | exact HB.out | apply below_alloc | apply pw_below_drewN | apply below_drew1) | exact HB.out)) LS.out).mono ?_; rintro e wS ⟨rfl, hS, hBS⟩; have nS0 := Aside0.mk hS; have nS1 := Aside0.mk hBS; clear hS hBS HO_3 HB; have HO_3 := nS0; have HB := nS1; clear nS0 nS1)
        go_loopg [6, 37] k1 (fun kq v6 v37 w' => ∃ (x6_2 : List (S67)) (x35_2 : List (S67)) (x37_2 : Int), v37 = .int .i64 x37_2 ∧ Aside0 (agenda_Neat.l1 kq x6_2 x35_2 (x3_1.length : Int) x37_2 = some r) ∧ Aside0 (kq ≤ k1) ∧ Aside0 (Kd.R k67 67 w' w.heap.size (fun k_ => some k_ ≠ ((.slice Ao28 x3_1.length co28) : Value).ownBlock) v6 x6_2) ∧ Aside0 (Kd.R k67 67 w' w.heap.size (fun k_ => some k_ ≠ (v6 : Value).ownBlock) (.slice Ao28 x3_1.length co28) x35_2) ∧ Aside0 (Below w.heap.size w w'))
        case atStart => exact ⟨(([] : List (S67))), (SortS.srt x3_1), (0), (by first | rfl | (simp; done) | (simp [*]; done)), H', ⟨Nat.le_refl _⟩, ⟨by first | exact Kd.R_nil _ _ _ _ _ | exact Kd.N_nil _ _ _ _ _ | exact Kd.V_nil _ _ _ _ _ | exact Kd.Q_nil _ _ _ _ _ | exact Kd.S_nil _ _ _ _ _⟩, ⟨by (with_reducible repeat (first | apply Kd.R_alloc | apply Kd.R_drewN | apply Kd.R_drew)); exact Kd.R_mono HO_3.out (fun _ hk => (by simp [Value.ownBlock]))⟩, ⟨by repeat (first | (with_reducible first | exact HB.out | apply below_alloc | apply pw_below_drewN | apply below_drew1) | exact HB.out)⟩⟩
        case round =>
          clear H'
          try clear p1
          try clear q1
          try clear hx1
          try clear c2
          try clear c2b0
          try clear p2
          try clear c3
          try clear c3b0
          try clear c4
          try clear c4b0
          try clear p6
          try clear c7
          try clear c7b0
          try clear c8
          try clear p10
          try clear q10
          try clear hx10
          try clear c21
          try clear hcz10_0
          try clear hcz10_1
          try clear hcz17_0
          try clear hcz17_1
          try clear hcz20_0
          try clear hcz20_1
          try clear hcz27_0
          try clear hcz27_1
          try clear hfz10_0
          try clear hfz10_1
          try clear hfz17_0
          try clear hfz17_1
          try clear hfz20_0
          try clear hfz20_1
          try clear hfz27_0
          try clear hfz27_1
          try clear hx103_0
          try clear hx103_1
          try clear p103
          try clear q103
          obtain ⟨x6_2, x35_2, x37_2, rfl, HA, HK2, HO_6, HO_35, HB⟩ := hrel
          have hl35_2 := (Kd.R_reads' HO_35.out).1
          rw [hl35_2] at HO_35
          (try simp only [hl35_2])
          (try simp only [hl35_2] at HO_6)
          cases gk with
          | zero => exact absurd HA.out (by simp [agenda_Neat.l1])
          | succ k2 =>
            have H := HA.out
            clear HA
            simp only [agenda_Neat.l1] at H
            by_cases c29 : x37_2 < (x3_1.length : Int)
            · rw [if_pos c29] at H
              have c29b0 : decide (x37_2 < (x3_1.length : Int)) = true := decide_eq_true c29
              clear c29
              by_cases c30 : 0 ≤ x37_2
              · rw [if_pos c30] at H
                have c30b0 : decide (0 ≤ x37_2) = true := decide_eq_true c30
                clear c30
                by_cases c31 : x37_2 < (x35_2.length : Int)
                · rw [if_pos c31] at H
                  have c31b0 : decide (x37_2 < (x35_2.length : Int)) = true := decide_eq_true c31
                  clear c31
                  by_cases c32 : (x6_2.length : Int) > 0
                  · rw [if_pos c32] at H
                    have c32b0 : decide (0 < (x6_2.length : Int)) = true := decide_eq_true c32
                    have c32b1 : decide (0 < x6_2.length) = true := decide_eq_true (by omega)
                    clear c32
                    obtain ⟨ji33, hji33⟩ : ∃ j_ : Int, (wrap64 ((x6_2.length : Int) - 1)) = j_ := ⟨_, rfl⟩
                    replace H : (if 0 ≤ (ji33) then (if (ji33) < (x6_2.length : Int) then (if ((rd_T67 x35_2 x37_2).f0) ≤ ((rd_T67 x6_2 (ji33)).f1) then (agenda_Neat.l1 k2 (x6_2.set ((ji33) : Int).toNat (⟨(rd_T67 x6_2 (ji33)).f0, mx ((rd_T67 x6_2 (ji33)).f1) ((rd_T67 x35_2 x37_2).f1)⟩ : S67)) x35_2 (x3_1.length : Int) (wrap64 (x37_2 + 1))) else (if x6_2.length < 8796093022208 then (agenda_Neat.l1 k2 (x6_2 ++ [(⟨(rd_T67 x35_2 x37_2).f0, (rd_T67 x35_2 x37_2).f1⟩ : S67)]) x35_2 (x3_1.length : Int) (wrap64 (x37_2 + 1))) else (none))) else (none)) else (none)) = some r := by first | (rw [hji33] at H; exact H) | (simp only [hji33] at H ⊢; exact H)
                    have hji33w : (IntKind.i64.wrap ((x6_2.length : Int) - 1)) = ji33 := (i64_w _).trans hji33
                    by_cases c34 : 0 ≤ (ji33)
                    · rw [if_pos c34] at H
                      have c34b0 : decide (0 ≤ (ji33)) = true := decide_eq_true c34
                      clear c34
                      by_cases c35 : (ji33) < (x6_2.length : Int)
                      · rw [if_pos c35] at H
                        have c35b0 : decide ((ji33) < (x6_2.length : Int)) = true := decide_eq_true c35
                        clear c35
                        by_cases c36 : ((rd_T67 x35_2 x37_2).f0) ≤ ((rd_T67 x6_2 (ji33)).f1)
                        · rw [if_pos c36] at H
                          have c36b0 : decide (((rd_T67 x35_2 x37_2).f0) ≤ ((rd_T67 x6_2 (ji33)).f1)) = true := decide_eq_true c36
                          clear c36
                          obtain ⟨ji37, hji37⟩ : ∃ j_ : Int, (mx ((rd_T67 x6_2 (ji33)).f1) ((rd_T67 x35_2 x37_2).f1)) = j_ := ⟨_, rfl⟩
                          replace H : (agenda_Neat.l1 k2 (x6_2.set ((ji33) : Int).toNat (⟨(rd_T67 x6_2 (ji33)).f0, ji37⟩ : S67)) x35_2 (x3_1.length : Int) (wrap64 (x37_2 + 1))) = some r := by first | (rw [hji37] at H; exact H) | (simp only [hji37] at H ⊢; exact H)
                          have hji37_ : (if ((rd_T67 x6_2 (ji33)).f1) < ((rd_T67 x35_2 x37_2).f1) then ((rd_T67 x35_2 x37_2).f1) else ((rd_T67 x6_2 (ji33)).f1)) = ji37 := hji37
                          obtain ⟨y114, hy114⟩ : ∃ y_ : List (S67), y_ = (x6_2.set ((ji33) : Int).toNat (⟨(rd_T67 x6_2 (ji33)).f0, ji37⟩ : S67)) := ⟨_, rfl⟩
                          replace H : (agenda_Neat.l1 k2 y114 x35_2 (x3_1.length : Int) (wrap64 (x37_2 + 1))) = some r := by first | (rw [hy114]; with_reducible exact H) | (have H2_ := (Option.bind_some _ _).symm.trans H; rw [hy114]; with_reducible exact H2_) | (have H2_ := (Option.bind_some _ _).symm.trans H; with_reducible exact H2_) | with_reducible exact H | (rw [hy114]; exact H) | exact H
                          have Ny114 := Aside0.mk hy114
                          clear hy114
                          have H' := Aside0.mk H
                          clear H
                          have p110 : 0 ≤ (x37_2 : Int) := of_decide_eq_true (by first | (with_reducible assumption) | assumption)
                          have q110 : x37_2 < (x35_2.length : Int) := of_decide_eq_true (by first | (with_reducible assumption) | assumption)
                          obtain ⟨ad110, e110, hx110_0, hx110_1⟩ := at_T67 (Kd.R_reads' HO_35.out).2.2 x37_2 p110 q110
                          cases e110
                          replace p110 := eq_true p110
                          replace q110 := eq_true q110
                          try go_wp2_with (first | ((with_reducible refine gate_dst (N := 8) rfl ?_); refine box_event ?hg (N := 8) ?hd (cs := #[.int .i64 0, .int .i64 0]) (t := 67) ?hr ?_; (case hd => rfl); (case hg => rfl); (case hr => first | (go_simp; done) | (go_simp; rfl)); intro gb111 hg w39 hbox hb; have n0_ := Aside0.mk (Kd.R_below (Kd.R_elderB (by (with_reducible repeat (first | apply Kd.R_alloc | apply Kd.R_drewN | apply Kd.R_drew)); exact HO_6.out) gb111 (Nat.le_of_eq hg.symm)) hb); have n1_ := Aside0.mk (Kd.R_below (Kd.R_elderB (by (with_reducible repeat (first | apply Kd.R_alloc | apply Kd.R_drewN | apply Kd.R_drew)); exact HO_35.out) gb111 (Nat.le_of_eq hg.symm)) hb); have n2_ := Aside0.mk (below_step (by repeat (first | (with_reducible first | exact HB.out | apply below_alloc | apply pw_below_drewN | apply below_drew1) | exact HB.out)) hb); have n3_ := Aside0.mk (hbox); have n4_ := Aside0.mk ((by rw [hg]; exact (below_size (by repeat (first | (with_reducible first | exact HB.out | apply below_alloc | apply pw_below_drewN | apply below_drew1) | exact HB.out))) : w.heap.size ≤ gb111)); have n5_ := Aside0.mk ((by rw [hg]; exact (below_size (by repeat (first | (with_reducible first | exact HB.out | apply below_alloc | apply pw_below_drewN | apply below_drew1) | exact HB.out))) : w.heap.size ≤ gb111)); clear HO_6; clear HO_35; clear HB; have HO_6 := n0_; have HO_35 := n1_; have HB := n2_; have BK111 := n3_; have GW111 := n4_; have GE111 := n5_; clear n0_ n1_ n2_ n3_ n4_ n5_; clear hb hbox hg; have hcz40_0 : w39.cell? ⟨gb111, 0, none⟩ = some (.int .i64 0) := (blk_cell BK111.out 0).trans rfl; have hcz40_1 : w39.cell? ⟨gb111, 1, none⟩ = some (.int .i64 0) := (blk_cell BK111.out 1).trans rfl; have hfz40_0 := blk_frozen BK111.out 0; have hfz40_1 := blk_frozen BK111.out 1; obtain ⟨Ao41, co41, eo41⟩ := Kd.R_slice HO_6.out; subst eo41))
                          have n0_ : Aside0 (Kd.R k67 67 ((w39.setCell ⟨gb111, 0, none⟩ (.int .i64 ((rd_T67 x35_2 x37_2).f0))).setCell ⟨gb111, 1, none⟩ (.int .i64 ((rd_T67 x35_2 x37_2).f1))) w.heap.size (fun k_ => some k_ ≠ (.slice (some ad110) x35_2.length co28 : Value).ownBlock ∧ k_ ≠ gb111) (.slice Ao41 x6_2.length co41) x6_2) := ⟨by (with_reducible repeat (first | apply Kd.R_alloc | apply Kd.R_drewN | apply Kd.R_drew)); exact Kd.R_mono (Kd.R_far (p := ⟨gb111, 1, none⟩) (Kd.R_far (p := ⟨gb111, 0, none⟩) (Kd.R_mono HO_6.out (fun k_ hk => (⟨hk, hk.2⟩ : _ ∧ k_ ≠ gb111))) (fun _ hk => hk.2) (.int .i64 ((rd_T67 x35_2 x37_2).f0))) (fun _ hk => hk.2) (.int .i64 ((rd_T67 x35_2 x37_2).f1))) (fun _ hk => ⟨hk.1.1, hk.1.2⟩)⟩
                          have n1_ : Aside0 (Kd.R k67 67 ((w39.setCell ⟨gb111, 0, none⟩ (.int .i64 ((rd_T67 x35_2 x37_2).f0))).setCell ⟨gb111, 1, none⟩ (.int .i64 ((rd_T67 x35_2 x37_2).f1))) w.heap.size (fun k_ => some k_ ≠ (.slice Ao41 x6_2.length co41 : Value).ownBlock ∧ k_ ≠ gb111) (.slice (some ad110) x35_2.length co28) x35_2) := ⟨by (with_reducible repeat (first | apply Kd.R_alloc | apply Kd.R_drewN | apply Kd.R_drew)); exact Kd.R_mono (Kd.R_far (p := ⟨gb111, 1, none⟩) (Kd.R_far (p := ⟨gb111, 0, none⟩) (Kd.R_mono HO_35.out (fun k_ hk => (⟨hk, hk.2⟩ : _ ∧ k_ ≠ gb111))) (fun _ hk => hk.2) (.int .i64 ((rd_T67 x35_2 x37_2).f0))) (fun _ hk => hk.2) (.int .i64 ((rd_T67 x35_2 x37_2).f1))) (fun _ hk => ⟨hk.1.1, hk.1.2⟩)⟩
                          have n2_ : Aside0 (((w39.setCell ⟨gb111, 0, none⟩ (.int .i64 ((rd_T67 x35_2 x37_2).f0))).setCell ⟨gb111, 1, none⟩ (.int .i64 ((rd_T67 x35_2 x37_2).f1))).heap[gb111]? = some (.cells #[.int .i64 ((rd_T67 x35_2 x37_2).f0), .int .i64 ((rd_T67 x35_2 x37_2).f1)] 67 (0, 0))) := ⟨by (with_reducible repeat (first | refine blk_drewN ?_ _ | refine blk_drew ?_ | refine blk_alloc ?_ _)); refine blk_put (cs := #[.int .i64 ((rd_T67 x35_2 x37_2).f0), .int .i64 0]) ?_ 1 _ rfl; (with_reducible repeat (first | refine blk_drewN ?_ _ | refine blk_drew ?_ | refine blk_alloc ?_ _)); refine blk_put (cs := #[.int .i64 0, .int .i64 0]) ?_ 0 _ rfl; (with_reducible repeat (first | refine blk_drewN ?_ _ | refine blk_drew ?_ | refine blk_alloc ?_ _)); exact BK111.out⟩
                          have n3_ : Aside0 (Below w.heap.size w ((w39.setCell ⟨gb111, 0, none⟩ (.int .i64 ((rd_T67 x35_2 x37_2).f0))).setCell ⟨gb111, 1, none⟩ (.int .i64 ((rd_T67 x35_2 x37_2).f1)))) := ⟨by repeat (first | (with_reducible first | exact HB.out | apply below_alloc | apply pw_below_drewN | apply below_drew1 | refine below_set ?_ GE111.out) | exact HB.out)⟩
                          (try clear HO_6)
                          (try clear HO_35)
                          (try clear BK111)
                          (try clear HB)
                          generalize ((w39.setCell ⟨gb111, 0, none⟩ (.int .i64 ((rd_T67 x35_2 x37_2).f0))).setCell ⟨gb111, 1, none⟩ (.int .i64 ((rd_T67 x35_2 x37_2).f1))) = w42 at n0_ n1_ n2_ n3_ ⊢
                          have HO_6 := n0_
                          have HO_35 := n1_
                          have BK111 := n2_
                          have HB := n3_
                          clear n0_ n1_ n2_ n3_
                          have n0_ := Aside0.mk (Kd.R_drew HO_6.out)
                          have n1_ := Aside0.mk (Kd.R_drew HO_35.out)
                          have n2_ := Aside0.mk (blk_drew BK111.out)
                          have n3_ := Aside0.mk (below_drew1 HB.out)
                          clear HO_6
                          clear HO_35
                          clear BK111
                          clear HB
                          have HO_6 := n0_
                          have HO_35 := n1_
                          have BK111 := n2_
                          have HB := n3_
                          clear n0_ n1_ n2_ n3_
                          have p112 : 0 ≤ ((ji33) : Int) := of_decide_eq_true (by first | (with_reducible assumption) | assumption)
                          have q112 : (ji33) < (x6_2.length : Int) := of_decide_eq_true (by first | (with_reducible assumption) | assumption)
                          obtain ⟨ad112, e112, hx112_0, hx112_1⟩ := at_T67 (Kd.R_reads' HO_6.out).2.2 (ji33) p112 q112
                          cases e112
                          replace p112 := eq_true p112
                          replace q112 := eq_true q112
                          refine start_ (n := 13) (S := fun w' => w'.cell? ⟨gb111, 0, none⟩ = some (.int .i64 ((rd_T67 x35_2 x37_2).f0)) ∧ w'.cell? ⟨gb111, 1, none⟩ = some (.int .i64 ((rd_T67 x35_2 x37_2).f1)) ∧ w'.cell? (ad112.add (((ji33)).toNat * 2)) = some (.int .i64 ((rd_T67 x6_2 (ji33)).f0)) ∧ w'.cell? ⟨(ad112.add (((ji33)).toNat * 2)).block, (ad112.add (((ji33)).toNat * 2)).off + 1, none⟩ = some (.int .i64 ((rd_T67 x6_2 (ji33)).f1))) (ds := []) #[false, false, false, false, false, false, false, false, false, false, false, false, false] (by kernel_rfl) rfl rfl ⟨(blk_cell BK111.out 0).trans rfl, (blk_cell BK111.out 1).trans rfl, hx112_0, hx112_1⟩ (fun hHeld => ?_); refine with_tabW agenda_Neat.tab15 agenda_Neat.bits15 (fun HT_ HW_ => ?_)
                          generalize w42.drew = w43 at HO_6 HO_35 BK111 HB hx112_0 hx112_1 hHeld ⊢
                          refine pure_ (i := 0) (N := some 43) (v := ?_) (a' := ?_) #[true, false, false, false, false, false, false, false, false, false, false, false, false] rfl rfl (any_of HT_.out (by kernel_rfl)) (fun _ _ _ h => h) (Or.inl ⟨by rfl, ?_⟩) ?_ ?_
                          rotate_left
                          · intro w'
                            go_simp
                            with_reducible rfl
                          rotate_left
                          · simp only [Act.put, List.setIfInBounds_toArray, List.set_cons_zero, List.set_cons_succ, i64_w, i32_w]
                            rfl
                          refine pure_ (i := 1) (N := some 44) (v := ?_) (a' := ?_) #[true, true, false, false, false, false, false, false, false, false, false, false, false] rfl rfl (any_of HT_.out (by kernel_rfl)) (fun _ _ _ h => h) (Or.inl ⟨by rfl, ?_⟩) ?_ ?_
                          rotate_left
                          · intro w'
                            go_simp
                            with_reducible rfl
                          rotate_left
                          · simp only [Act.put, List.setIfInBounds_toArray, List.set_cons_zero, List.set_cons_succ, i64_w, i32_w]
                            rfl
                          refine pure_ (i := 2) (N := some 45) (v := ?_) (a' := ?_) #[true, true, true, false, false, false, false, false, false, false, false, false, false] rfl rfl (any_of HT_.out (by kernel_rfl)) (fun _ _ _ h => h) (Or.inl ⟨by rfl, ?_⟩) ?_ ?_
                          rotate_left
                          · intro w'
                            go_simp
                            with_reducible rfl
                          rotate_left
                          · simp only [Act.put, List.setIfInBounds_toArray, List.set_cons_zero, List.set_cons_succ, i64_w, i32_w]
                            rfl
                          refine pure_ (i := 3) (N := some 46) (v := ?_) (a' := ?_) #[true, true, true, true, false, false, false, false, false, false, false, false, false] rfl rfl (any_of HT_.out (by kernel_rfl)) (fun _ _ _ h => h) (Or.inl ⟨by rfl, ?_⟩) ?_ ?_
                          rotate_left
                          · intro w'
                            go_simp
                            with_reducible rfl
                          rotate_left
                          · simp only [Act.put, List.setIfInBounds_toArray, List.set_cons_zero, List.set_cons_succ, i64_w, i32_w]
                            rfl
                          refine pure_ (i := 5) (N := some 48) (v := ?_) (a' := ?_) #[true, true, true, true, false, true, false, false, false, false, false, false, false] rfl rfl (any_of HT_.out (by kernel_rfl)) (fun _ _ _ h => h) (Or.inl ⟨by rfl, ?_⟩) ?_ ?_
                          rotate_left
                          · intro w'
                            go_simp
                            with_reducible rfl
                          rotate_left
                          · simp only [Act.put, List.setIfInBounds_toArray, List.set_cons_zero, List.set_cons_succ, i64_w, i32_w]
                            rfl
                          refine pure_ (i := 6) (N := some 49) (v := ?_) (a' := ?_) #[true, true, true, true, false, true, true, false, false, false, false, false, false] rfl rfl (any_of HT_.out (by kernel_rfl)) (fun _ _ _ h => h) (Or.inl ⟨by rfl, ?_⟩) ?_ ?_
                          rotate_left
                          · intro w'
                            go_simp
                            with_reducible rfl
                          rotate_left
                          · simp only [Act.put, List.setIfInBounds_toArray, List.set_cons_zero, List.set_cons_succ, i64_w, i32_w]
                            rfl
                          refine pure_ (i := 7) (N := some 50) (v := ?_) (a' := ?_) #[true, true, true, true, false, true, true, true, false, false, false, false, false] rfl rfl (any_of HT_.out (by kernel_rfl)) (fun _ _ _ h => h) (Or.inl ⟨by rfl, ?_⟩) ?_ ?_
                          rotate_left
                          · intro w'
                            go_simp
                            with_reducible rfl
                          rotate_left
                          · simp only [Act.put, List.setIfInBounds_toArray, List.set_cons_zero, List.set_cons_succ, i64_w, i32_w]
                            rfl
                          refine pure_ (i := 8) (N := some 51) (v := ?_) (a' := ?_) #[true, true, true, true, false, true, true, true, true, false, false, false, false] rfl rfl (any_of HT_.out (by kernel_rfl)) (fun _ _ _ h => h) (Or.inl ⟨by rfl, ?_⟩) ?_ ?_
                          rotate_left
                          · intro w'
                            go_simp
                            with_reducible rfl
                          rotate_left
                          · simp only [Act.put, List.setIfInBounds_toArray, List.set_cons_zero, List.set_cons_succ, i64_w, i32_w]
                            rfl
                          refine pure_ (i := 9) (N := some 52) (v := ?_) (a' := ?_) #[true, true, true, true, false, true, true, true, true, true, false, false, false] rfl rfl (any_of HT_.out (by kernel_rfl)) (fun _ _ _ h => h) (Or.inl ⟨by rfl, ?_⟩) ?_ ?_
                          rotate_left
                          · intro w'
                            go_simp
                            with_reducible rfl
                          rotate_left
                          · simp only [Act.put, List.setIfInBounds_toArray, List.set_cons_zero, List.set_cons_succ, i64_w, i32_w]
                            rfl
                          refine take_ (i := 4) (N := some 47) (v := ?_) (a' := ?_) #[true, true, true, true, true, true, true, true, true, true, false, false, false] rfl rfl (take_ofW HT_.out HW_.out (by kernel_rfl)) (fun _ _ _ h => h) (Or.inl ⟨by rfl, ?_⟩) hHeld ?_ ?_
                          rotate_left
                          · rintro w' ⟨s0, s1, s2, s3⟩
                            go_simp
                            with_reducible rfl
                          rotate_left
                          · simp only [Act.put, List.setIfInBounds_toArray, List.set_cons_zero, List.set_cons_succ, i64_w, i32_w]
                            rfl
                          refine take_ (i := 10) (N := some 53) (v := ?_) (a' := ?_) #[true, true, true, true, true, true, true, true, true, true, true, false, false] rfl rfl (take_ofW HT_.out HW_.out (by kernel_rfl)) (fun _ _ _ h => h) (Or.inl ⟨by rfl, ?_⟩) hHeld ?_ ?_
                          rotate_left
                          · rintro w' ⟨s0, s1, s2, s3⟩
                            go_simp
                            with_reducible rfl
                          rotate_left
                          · simp only [Act.put, List.setIfInBounds_toArray, List.set_cons_zero, List.set_cons_succ, i64_w, i32_w]
                            rfl
                          refine pure_ (i := 11) (N := some 54) (v := ?_) (a' := ?_) #[true, true, true, true, true, true, true, true, true, true, true, true, false] rfl rfl (any_of HT_.out (by kernel_rfl)) (fun _ _ _ h => h) (Or.inl ⟨by rfl, ?_⟩) ?_ ?_
                          rotate_left
                          · intro w'
                            go_simp
                            with_reducible rfl
                          rotate_left
                          · simp only [Act.put, List.setIfInBounds_toArray, List.set_cons_zero, List.set_cons_succ, i64_w, i32_w]
                            rfl
                          refine pure_ (i := 12) (N := some 55) (v := ?_) (a' := ?_) #[true, true, true, true, true, true, true, true, true, true, true, true, true] rfl rfl (any_of HT_.out (by kernel_rfl)) (fun _ _ _ h => h) (Or.inl ⟨by rfl, ?_⟩) ?_ ?_
                          rotate_left
                          · intro w'
                            go_simp
                            with_reducible rfl
                          rotate_left
                          · simp only [Act.put, List.setIfInBounds_toArray, List.set_cons_zero, List.set_cons_succ, i64_w, i32_w]
                            rfl
                          refine done_ (done_of HT_.out (by kernel_rfl)) ?_
                          try go_wp2
                          have n0_ := Aside0.mk (Kd.R_drew HO_6.out)
                          have n1_ := Aside0.mk (Kd.R_drew HO_35.out)
                          have n2_ := Aside0.mk (blk_drew BK111.out)
                          have n3_ := Aside0.mk (below_drew1 HB.out)
                          clear HO_6
                          clear HO_35
                          clear BK111
                          clear HB
                          have HO_6 := n0_
                          have HO_35 := n1_
                          have BK111 := n2_
                          have HB := n3_
                          clear n0_ n1_ n2_ n3_
                          have p113 : 0 ≤ ((ji33) : Int) := of_decide_eq_true (by first | (with_reducible assumption) | assumption)
                          have q113 : (ji33) < (x6_2.length : Int) := of_decide_eq_true (by first | (with_reducible assumption) | assumption)
                          obtain ⟨ad113, e113, hx113_0, hx113_1⟩ := at_T67 (Kd.R_reads' HO_6.out).2.2 (ji33) p113 q113
                          obtain rfl : ad112 = ad113 := (by injection e113)
                          replace p113 := eq_true p113
                          replace q113 := eq_true q113
                          have p38 : 0 ≤ ((ji33) : Int) := of_decide_eq_true (by first | (with_reducible assumption) | assumption)
                          have q38 : ((ji33) : Int) < ((x6_2.length : Int) : Int) := of_decide_eq_true (by first | (with_reducible assumption) | assumption)
                          obtain ⟨go38, co38, eo38, gb38, gl38, cl38, HG38⟩ := Kd.R_form HO_6.out (by omega)
                          (first | cases eo38 | (injection eo38 with ea_ en_ ec_; (first | subst ea_ | (injection ea_ with ea_; subst ea_)); subst ec_; clear en_))
                          have GB38 := Aside0.mk gb38
                          have GG38 := Aside0.mk HG38
                          clear gb38 gl38 HG38
                          (first | simp only [add_plain] at hx112_0 | skip)
                          (first | simp only [add_plain] at hx112_1 | skip)
                          (first | simp only [add_plain] at hx113_0 | skip)
                          (first | simp only [add_plain] at hx113_1 | skip)
                          obtain ⟨ce38, hcl38, hM38, hcc38, hfr38⟩ := Kd.R_elem HO_6.out z67 ((ji33) : Int) p38 q38
                          obtain rfl := k67_openM hM38
                          have hx38_0 : World.cell? _ ⟨go38, ((ji33) : Int).toNat * 2, none⟩ = some (.int .i64 ((rd_T67 x6_2 (ji33)).f0)) := hcc38 0 _ rfl
                          have hx38_1 : World.cell? _ ⟨go38, ((ji33) : Int).toNat * 2 + 1, none⟩ = some (.int .i64 ((rd_T67 x6_2 (ji33)).f1)) := hcc38 1 _ rfl
                          have hf38_0 : World.frozen? _ ⟨go38, ((ji33) : Int).toNat * 2, none⟩ = false := hfr38 0
                          have hf38_1 : World.frozen? _ ⟨go38, ((ji33) : Int).toNat * 2 + 1, none⟩ = false := hfr38 1
                          clear hcl38 hcc38 hfr38 hM38
                          replace p38 := eq_true p38
                          replace q38 := eq_true q38
                          obtain ⟨ce45, hcl45, hM45, hcc45, hfr45⟩ := Kd.R_elem HO_6.out z67 ((ji33) : Int) (of_decide_eq_true (by first | (with_reducible assumption) | assumption)) (by have h_ : ((ji33) : Int) < ((x6_2.length : Int) : Int) := of_decide_eq_true (by first | (with_reducible assumption) | assumption); first | exact h_ | (have e_ := (Kd.R_reads' HO_6.out).1; omega) | simpa using h_)
                          obtain rfl := k67_openM hM45
                          have HP45 := (Kd.R_seg HO_6.out ((ji33) : Int) (of_decide_eq_true (by first | (with_reducible assumption) | assumption)) (by have h_ : ((ji33) : Int) < ((x6_2.length : Int) : Int) := of_decide_eq_true (by first | (with_reducible assumption) | assumption); first | exact h_ | (have e_ := (Kd.R_reads' HO_6.out).1; omega) | simpa using h_) (seg := [.int .i64 ji37]) (j := 1) hcl45 hcc45 (show 2 ≤ 2 from by decide) (x' := (⟨(rd_T67 x6_2 (ji33)).f0, ji37⟩ : S67)) (k67_mkM _ _ _ (⟨(rd_T67 x6_2 (ji33)).f0, ji37⟩ : S67) ) (fun _ hk => hk)).1
                          rw [← Ny114.out] at HP45
                          have HQ45 := Aside0.mk HP45
                          clear hcl45 hcc45 hfr45 hM45 HP45
                          refine start_ (n := 15) (S := fun w' => w'.cell? ⟨gb111, 0, none⟩ = some (.int .i64 ((rd_T67 x35_2 x37_2).f0)) ∧ w'.cell? ⟨gb111, 1, none⟩ = some (.int .i64 ((rd_T67 x35_2 x37_2).f1)) ∧ w'.cell? ⟨go38, ((ji33)).toNat * 2, none⟩ = some (.int .i64 ((rd_T67 x6_2 (ji33)).f0)) ∧ w'.cell? ⟨go38, ((ji33)).toNat * 2 + 1, none⟩ = some (.int .i64 ((rd_T67 x6_2 (ji33)).f1))) (ds := [14]) #[false, false, false, false, false, false, false, false, false, false, false, false, false, false, false] (by kernel_rfl) rfl rfl ⟨(blk_cell BK111.out 0).trans rfl, (blk_cell BK111.out 1).trans rfl, hx113_0, hx113_1⟩ (fun hHeld => ?_); refine with_tabW agenda_Neat.tab16 agenda_Neat.bits16 (fun HT_ HW_ => ?_)
                          generalize w43.drew = w44 at HO_6 HO_35 BK111 HB GG38 HQ45 hf38_0 hf38_1 hx112_0 hx112_1 hx113_0 hx113_1 hx38_0 hx38_1 hHeld ⊢
                          refine pure_ (i := 0) (N := some 56) (v := ?_) (a' := ?_) #[true, false, false, false, false, false, false, false, false, false, false, false, false, false, false] rfl rfl (any_of HT_.out (by kernel_rfl)) (fun _ _ _ h => h) (Or.inl ⟨by rfl, ?_⟩) ?_ ?_
                          rotate_left
                          · intro w'
                            go_simp
                            with_reducible rfl
                          rotate_left
                          · simp only [Act.put, List.setIfInBounds_toArray, List.set_cons_zero, List.set_cons_succ, i64_w, i32_w]
                            rfl
                          refine pure_ (i := 1) (N := some 57) (v := ?_) (a' := ?_) #[true, true, false, false, false, false, false, false, false, false, false, false, false, false, false] rfl rfl (any_of HT_.out (by kernel_rfl)) (fun _ _ _ h => h) (Or.inl ⟨by rfl, ?_⟩) ?_ ?_
                          rotate_left
                          · intro w'
                            go_simp
                            with_reducible rfl
                          rotate_left
                          · simp only [Act.put, List.setIfInBounds_toArray, List.set_cons_zero, List.set_cons_succ, i64_w, i32_w]
                            rfl
                          refine pure_ (i := 2) (N := some 58) (v := ?_) (a' := ?_) #[true, true, true, false, false, false, false, false, false, false, false, false, false, false, false] rfl rfl (any_of HT_.out (by kernel_rfl)) (fun _ _ _ h => h) (Or.inl ⟨by rfl, ?_⟩) ?_ ?_
                          rotate_left
                          · intro w'
                            go_simp
                            with_reducible rfl
                          rotate_left
                          · simp only [Act.put, List.setIfInBounds_toArray, List.set_cons_zero, List.set_cons_succ, i64_w, i32_w]
                            rfl
                          refine pure_ (i := 3) (N := some 59) (v := ?_) (a' := ?_) #[true, true, true, true, false, false, false, false, false, false, false, false, false, false, false] rfl rfl (any_of HT_.out (by kernel_rfl)) (fun _ _ _ h => h) (Or.inl ⟨by rfl, ?_⟩) ?_ ?_
                          rotate_left
                          · intro w'
                            go_simp
                            with_reducible rfl
                          rotate_left
                          · simp only [Act.put, List.setIfInBounds_toArray, List.set_cons_zero, List.set_cons_succ, i64_w, i32_w]
                            rfl
                          refine pure_ (i := 4) (N := some 60) (v := ?_) (a' := ?_) #[true, true, true, true, true, false, false, false, false, false, false, false, false, false, false] rfl rfl (any_of HT_.out (by kernel_rfl)) (fun _ _ _ h => h) (Or.inl ⟨by rfl, ?_⟩) ?_ ?_
                          rotate_left
                          · intro w'
                            go_simp
                            with_reducible rfl
                          rotate_left
                          · simp only [Act.put, List.setIfInBounds_toArray, List.set_cons_zero, List.set_cons_succ, i64_w, i32_w]
                            rfl
                          refine pure_ (i := 5) (N := some 61) (v := ?_) (a' := ?_) #[true, true, true, true, true, true, false, false, false, false, false, false, false, false, false] rfl rfl (any_of HT_.out (by kernel_rfl)) (fun _ _ _ h => h) (Or.inl ⟨by rfl, ?_⟩) ?_ ?_
                          rotate_left
                          · intro w'
                            go_simp
                            with_reducible rfl
                          rotate_left
                          · simp only [Act.put, List.setIfInBounds_toArray, List.set_cons_zero, List.set_cons_succ, i64_w, i32_w]
                            rfl
                          refine pure_ (i := 6) (N := some 62) (v := ?_) (a' := ?_) #[true, true, true, true, true, true, true, false, false, false, false, false, false, false, false] rfl rfl (any_of HT_.out (by kernel_rfl)) (fun _ _ _ h => h) (Or.inl ⟨by rfl, ?_⟩) ?_ ?_
                          rotate_left
                          · intro w'
                            go_simp
                            with_reducible rfl
                          rotate_left
                          · simp only [Act.put, List.setIfInBounds_toArray, List.set_cons_zero, List.set_cons_succ, i64_w, i32_w]
                            rfl
                          refine pure_ (i := 7) (N := some 63) (v := ?_) (a' := ?_) #[true, true, true, true, true, true, true, true, false, false, false, false, false, false, false] rfl rfl (any_of HT_.out (by kernel_rfl)) (fun _ _ _ h => h) (Or.inl ⟨by rfl, ?_⟩) ?_ ?_
                          rotate_left
                          · intro w'
                            go_simp
                            with_reducible rfl
                          rotate_left
                          · simp only [Act.put, List.setIfInBounds_toArray, List.set_cons_zero, List.set_cons_succ, i64_w, i32_w]
                            rfl
                          refine pure_ (i := 9) (N := some 65) (v := ?_) (a' := ?_) #[true, true, true, true, true, true, true, true, false, true, false, false, false, false, false] rfl rfl (any_of HT_.out (by kernel_rfl)) (fun _ _ _ h => h) (Or.inl ⟨by rfl, ?_⟩) ?_ ?_
                          rotate_left
                          · intro w'
                            go_simp
                            with_reducible rfl
                          rotate_left
                          · simp only [Act.put, List.setIfInBounds_toArray, List.set_cons_zero, List.set_cons_succ, i64_w, i32_w]
                            rfl
                          refine take_ (i := 8) (N := some 64) (v := ?_) (a' := ?_) #[true, true, true, true, true, true, true, true, true, true, false, false, false, false, false] rfl rfl (take_ofW HT_.out HW_.out (by kernel_rfl)) (fun _ _ _ h => h) (Or.inl ⟨by rfl, ?_⟩) hHeld ?_ ?_
                          rotate_left
                          · rintro w' ⟨s0, s1, s2, s3⟩
                            go_simp
                            with_reducible rfl
                          rotate_left
                          · simp only [Act.put, List.setIfInBounds_toArray, List.set_cons_zero, List.set_cons_succ, i64_w, i32_w]
                            rfl
                          refine take_ (i := 10) (N := some 66) (v := ?_) (a' := ?_) #[true, true, true, true, true, true, true, true, true, true, true, false, false, false, false] rfl rfl (take_ofW HT_.out HW_.out (by kernel_rfl)) (fun _ _ _ h => h) (Or.inl ⟨by rfl, ?_⟩) hHeld ?_ ?_
                          rotate_left
                          · rintro w' ⟨s0, s1, s2, s3⟩
                            go_simp
                            with_reducible rfl
                          rotate_left
                          · simp only [Act.put, List.setIfInBounds_toArray, List.set_cons_zero, List.set_cons_succ, i64_w, i32_w]
                            rfl
                          refine pure_ (i := 11) (N := some 67) (v := ?_) (a' := ?_) #[true, true, true, true, true, true, true, true, true, true, true, true, false, false, false] rfl rfl (any_of HT_.out (by kernel_rfl)) (fun _ _ _ h => h) (Or.inl ⟨by rfl, ?_⟩) ?_ ?_
                          rotate_left
                          · intro w'
                            go_simp
                            with_reducible rfl
                          rotate_left
                          · simp only [Act.put, List.setIfInBounds_toArray, List.set_cons_zero, List.set_cons_succ, i64_w, i32_w]
                            rfl
                          refine pure_ (i := 12) (N := some 68) (v := ?_) (a' := ?_) #[true, true, true, true, true, true, true, true, true, true, true, true, true, false, false] rfl rfl (any_of HT_.out (by kernel_rfl)) (fun _ _ _ h => h) (Or.inl ⟨by rfl, ?_⟩) ?_ ?_
                          rotate_left
                          · intro w'
                            go_simp
                            with_reducible rfl
                          rotate_left
                          · simp only [Act.put, List.setIfInBounds_toArray, List.set_cons_zero, List.set_cons_succ, i64_w, i32_w]
                            rfl
                          refine pure_ (i := 13) (N := some 69) (v := ?_) (a' := ?_) #[true, true, true, true, true, true, true, true, true, true, true, true, true, true, false] rfl rfl (any_of HT_.out (by kernel_rfl)) (fun _ _ _ h => h) (Or.inl ⟨by rfl, ?_⟩) ?_ ?_
                          rotate_left
                          · intro w'
                            go_simp
                            with_reducible rfl
                          rotate_left
                          · simp only [Act.put, List.setIfInBounds_toArray, List.set_cons_zero, List.set_cons_succ, i64_w, i32_w]
                            rfl
                          refine last_ (i := 14) (N := none) #[true, true, true, true, true, true, true, true, true, true, true, true, true, true, true] rfl rfl (one_of HT_.out (by kernel_rfl)) (by decide) (fun K hK => ?_)
                          refine skip_ (w1 := ?_) (by rfl) rfl ?_ ?_
                          rotate_left
                          · go_simp
                            rfl
                          refine hK.out _ _ ?_
                          clear hK K
                          refine done_ (done_of HT_.out (by kernel_rfl)) ?_
                          try go_wp2
                          (try simp only [← hl35_2])
                          go_roundg k2
                          case measure => have := HK1.out; have := HK2.out; omega
                          case rel => exact ⟨(y114), (x35_2), (wrap64 (x37_2 + 1)), (by first | rfl | (simp; done) | (simp [*]; done)), H', ⟨by have := HK1.out; have := HK2.out; omega⟩, ⟨by (try simp only [hl35_2]); (with_reducible repeat (first | apply Kd.R_alloc | apply Kd.R_drewN | apply Kd.R_drew)); exact Kd.R_mono HQ45.out (fun _ hk => hk.1)⟩, ⟨by (try simp only [hl35_2]); (with_reducible repeat (first | apply Kd.R_alloc | apply Kd.R_drewN | apply Kd.R_drew)); exact Kd.R_mono (Kd.R_far (p := ⟨go38, ((ji33) : Int).toNat * 2 + 1, none⟩) (Kd.R_mono HO_35.out (fun k_ hk => (⟨hk, fun e_ => hk.1 (by rw [e_]; rfl)⟩ : _ ∧ k_ ≠ go38))) (fun _ hk => hk.2) (.int .i64 ji37)) (fun _ hk => hk.1.1)⟩, ⟨by repeat (first | (with_reducible first | exact HB.out | apply below_alloc | apply pw_below_drewN | apply below_drew1 | refine below_set ?_ GB38.out | refine below_set ?_ GE111.out) | exact HB.out)⟩⟩
                        · rw [if_neg c36] at H
                          have c36b0 : decide (((rd_T67 x35_2 x37_2).f0) ≤ ((rd_T67 x6_2 (ji33)).f1)) = false := decide_eq_false c36
                          clear c36
                          by_cases c46 : x6_2.length < 8796093022208
                          · rw [if_pos c46] at H
                            have LMc46 := Aside0.mk c46
                            clear c46
                            obtain ⟨y115, hy115⟩ : ∃ y_ : List (S67), y_ = (x6_2 ++ [(⟨(rd_T67 x35_2 x37_2).f0, (rd_T67 x35_2 x37_2).f1⟩ : S67)]) := ⟨_, rfl⟩
                            replace H : (agenda_Neat.l1 k2 y115 x35_2 (x3_1.length : Int) (wrap64 (x37_2 + 1))) = some r := by first | (rw [hy115]; with_reducible exact H) | (have H2_ := (Option.bind_some _ _).symm.trans H; rw [hy115]; with_reducible exact H2_) | (have H2_ := (Option.bind_some _ _).symm.trans H; with_reducible exact H2_) | with_reducible exact H | (rw [hy115]; exact H) | exact H
                            have Ny115 := Aside0.mk hy115
                            clear hy115
                            have H' := Aside0.mk H
                            clear H
                            have p110 : 0 ≤ (x37_2 : Int) := of_decide_eq_true (by first | (with_reducible assumption) | assumption)
                            have q110 : x37_2 < (x35_2.length : Int) := of_decide_eq_true (by first | (with_reducible assumption) | assumption)
                            obtain ⟨ad110, e110, hx110_0, hx110_1⟩ := at_T67 (Kd.R_reads' HO_35.out).2.2 x37_2 p110 q110
                            cases e110
                            replace p110 := eq_true p110
                            replace q110 := eq_true q110
                            try go_wp2_with (first | ((with_reducible refine gate_dst (N := 8) rfl ?_); refine box_event ?hg (N := 8) ?hd (cs := #[.int .i64 0, .int .i64 0]) (t := 67) ?hr ?_; (case hd => rfl); (case hg => rfl); (case hr => first | (go_simp; done) | (go_simp; rfl)); intro gb111 hg w47 hbox hb; have n0_ := Aside0.mk (Kd.R_below (Kd.R_elderB (by (with_reducible repeat (first | apply Kd.R_alloc | apply Kd.R_drewN | apply Kd.R_drew)); exact HO_6.out) gb111 (Nat.le_of_eq hg.symm)) hb); have n1_ := Aside0.mk (Kd.R_below (Kd.R_elderB (by (with_reducible repeat (first | apply Kd.R_alloc | apply Kd.R_drewN | apply Kd.R_drew)); exact HO_35.out) gb111 (Nat.le_of_eq hg.symm)) hb); have n2_ := Aside0.mk (below_step (by repeat (first | (with_reducible first | exact HB.out | apply below_alloc | apply pw_below_drewN | apply below_drew1) | exact HB.out)) hb); have n3_ := Aside0.mk (hbox); have n4_ := Aside0.mk ((by rw [hg]; exact (below_size (by repeat (first | (with_reducible first | exact HB.out | apply below_alloc | apply pw_below_drewN | apply below_drew1) | exact HB.out))) : w.heap.size ≤ gb111)); have n5_ := Aside0.mk ((by rw [hg]; exact (below_size (by repeat (first | (with_reducible first | exact HB.out | apply below_alloc | apply pw_below_drewN | apply below_drew1) | exact HB.out))) : w.heap.size ≤ gb111)); clear HO_6; clear HO_35; clear HB; have HO_6 := n0_; have HO_35 := n1_; have HB := n2_; have BK111 := n3_; have GW111 := n4_; have GE111 := n5_; clear n0_ n1_ n2_ n3_ n4_ n5_; clear hb hbox hg; have hcz48_0 : w47.cell? ⟨gb111, 0, none⟩ = some (.int .i64 0) := (blk_cell BK111.out 0).trans rfl; have hcz48_1 : w47.cell? ⟨gb111, 1, none⟩ = some (.int .i64 0) := (blk_cell BK111.out 1).trans rfl; have hfz48_0 := blk_frozen BK111.out 0; have hfz48_1 := blk_frozen BK111.out 1; obtain ⟨Ao49, co49, eo49⟩ := Kd.R_slice HO_6.out; subst eo49))
                            have n0_ : Aside0 (Kd.R k67 67 ((w47.setCell ⟨gb111, 0, none⟩ (.int .i64 ((rd_T67 x35_2 x37_2).f0))).setCell ⟨gb111, 1, none⟩ (.int .i64 ((rd_T67 x35_2 x37_2).f1))) w.heap.size (fun k_ => some k_ ≠ (.slice (some ad110) x35_2.length co28 : Value).ownBlock ∧ k_ ≠ gb111) (.slice Ao49 x6_2.length co49) x6_2) := ⟨by (with_reducible repeat (first | apply Kd.R_alloc | apply Kd.R_drewN | apply Kd.R_drew)); exact Kd.R_mono (Kd.R_far (p := ⟨gb111, 1, none⟩) (Kd.R_far (p := ⟨gb111, 0, none⟩) (Kd.R_mono HO_6.out (fun k_ hk => (⟨hk, hk.2⟩ : _ ∧ k_ ≠ gb111))) (fun _ hk => hk.2) (.int .i64 ((rd_T67 x35_2 x37_2).f0))) (fun _ hk => hk.2) (.int .i64 ((rd_T67 x35_2 x37_2).f1))) (fun _ hk => ⟨hk.1.1, hk.1.2⟩)⟩
                            have n1_ : Aside0 (Kd.R k67 67 ((w47.setCell ⟨gb111, 0, none⟩ (.int .i64 ((rd_T67 x35_2 x37_2).f0))).setCell ⟨gb111, 1, none⟩ (.int .i64 ((rd_T67 x35_2 x37_2).f1))) w.heap.size (fun k_ => some k_ ≠ (.slice Ao49 x6_2.length co49 : Value).ownBlock ∧ k_ ≠ gb111) (.slice (some ad110) x35_2.length co28) x35_2) := ⟨by (with_reducible repeat (first | apply Kd.R_alloc | apply Kd.R_drewN | apply Kd.R_drew)); exact Kd.R_mono (Kd.R_far (p := ⟨gb111, 1, none⟩) (Kd.R_far (p := ⟨gb111, 0, none⟩) (Kd.R_mono HO_35.out (fun k_ hk => (⟨hk, hk.2⟩ : _ ∧ k_ ≠ gb111))) (fun _ hk => hk.2) (.int .i64 ((rd_T67 x35_2 x37_2).f0))) (fun _ hk => hk.2) (.int .i64 ((rd_T67 x35_2 x37_2).f1))) (fun _ hk => ⟨hk.1.1, hk.1.2⟩)⟩
                            have n2_ : Aside0 (((w47.setCell ⟨gb111, 0, none⟩ (.int .i64 ((rd_T67 x35_2 x37_2).f0))).setCell ⟨gb111, 1, none⟩ (.int .i64 ((rd_T67 x35_2 x37_2).f1))).heap[gb111]? = some (.cells #[.int .i64 ((rd_T67 x35_2 x37_2).f0), .int .i64 ((rd_T67 x35_2 x37_2).f1)] 67 (0, 0))) := ⟨by (with_reducible repeat (first | refine blk_drewN ?_ _ | refine blk_drew ?_ | refine blk_alloc ?_ _)); refine blk_put (cs := #[.int .i64 ((rd_T67 x35_2 x37_2).f0), .int .i64 0]) ?_ 1 _ rfl; (with_reducible repeat (first | refine blk_drewN ?_ _ | refine blk_drew ?_ | refine blk_alloc ?_ _)); refine blk_put (cs := #[.int .i64 0, .int .i64 0]) ?_ 0 _ rfl; (with_reducible repeat (first | refine blk_drewN ?_ _ | refine blk_drew ?_ | refine blk_alloc ?_ _)); exact BK111.out⟩
                            have n3_ : Aside0 (Below w.heap.size w ((w47.setCell ⟨gb111, 0, none⟩ (.int .i64 ((rd_T67 x35_2 x37_2).f0))).setCell ⟨gb111, 1, none⟩ (.int .i64 ((rd_T67 x35_2 x37_2).f1)))) := ⟨by repeat (first | (with_reducible first | exact HB.out | apply below_alloc | apply pw_below_drewN | apply below_drew1 | refine below_set ?_ GE111.out) | exact HB.out)⟩
                            (try clear HO_6)
                            (try clear HO_35)
                            (try clear BK111)
                            (try clear HB)
                            generalize ((w47.setCell ⟨gb111, 0, none⟩ (.int .i64 ((rd_T67 x35_2 x37_2).f0))).setCell ⟨gb111, 1, none⟩ (.int .i64 ((rd_T67 x35_2 x37_2).f1))) = w50 at n0_ n1_ n2_ n3_ ⊢
                            have HO_6 := n0_
                            have HO_35 := n1_
                            have BK111 := n2_
                            have HB := n3_
                            clear n0_ n1_ n2_ n3_
                            have n0_ := Aside0.mk (Kd.R_drew HO_6.out)
                            have n1_ := Aside0.mk (Kd.R_drew HO_35.out)
                            have n2_ := Aside0.mk (blk_drew BK111.out)
                            have n3_ := Aside0.mk (below_drew1 HB.out)
                            clear HO_6
                            clear HO_35
                            clear BK111
                            clear HB
                            have HO_6 := n0_
                            have HO_35 := n1_
                            have BK111 := n2_
                            have HB := n3_
                            clear n0_ n1_ n2_ n3_
                            have p112 : 0 ≤ ((ji33) : Int) := of_decide_eq_true (by first | (with_reducible assumption) | assumption)
                            have q112 : (ji33) < (x6_2.length : Int) := of_decide_eq_true (by first | (with_reducible assumption) | assumption)
                            obtain ⟨ad112, e112, hx112_0, hx112_1⟩ := at_T67 (Kd.R_reads' HO_6.out).2.2 (ji33) p112 q112
                            cases e112
                            replace p112 := eq_true p112
                            replace q112 := eq_true q112
                            refine start_ (n := 13) (S := fun w' => w'.cell? ⟨gb111, 0, none⟩ = some (.int .i64 ((rd_T67 x35_2 x37_2).f0)) ∧ w'.cell? ⟨gb111, 1, none⟩ = some (.int .i64 ((rd_T67 x35_2 x37_2).f1)) ∧ w'.cell? (ad112.add (((ji33)).toNat * 2)) = some (.int .i64 ((rd_T67 x6_2 (ji33)).f0)) ∧ w'.cell? ⟨(ad112.add (((ji33)).toNat * 2)).block, (ad112.add (((ji33)).toNat * 2)).off + 1, none⟩ = some (.int .i64 ((rd_T67 x6_2 (ji33)).f1))) (ds := []) #[false, false, false, false, false, false, false, false, false, false, false, false, false] (by kernel_rfl) rfl rfl ⟨(blk_cell BK111.out 0).trans rfl, (blk_cell BK111.out 1).trans rfl, hx112_0, hx112_1⟩ (fun hHeld => ?_); refine with_tabW agenda_Neat.tab15 agenda_Neat.bits15 (fun HT_ HW_ => ?_)
                            generalize w50.drew = w51 at HO_6 HO_35 BK111 HB hx112_0 hx112_1 hHeld ⊢
                            refine pure_ (i := 0) (N := some 43) (v := ?_) (a' := ?_) #[true, false, false, false, false, false, false, false, false, false, false, false, false] rfl rfl (any_of HT_.out (by kernel_rfl)) (fun _ _ _ h => h) (Or.inl ⟨by rfl, ?_⟩) ?_ ?_
                            rotate_left
                            · intro w'
                              go_simp
                              with_reducible rfl
                            rotate_left
                            · simp only [Act.put, List.setIfInBounds_toArray, List.set_cons_zero, List.set_cons_succ, i64_w, i32_w]
                              rfl
                            refine pure_ (i := 1) (N := some 44) (v := ?_) (a' := ?_) #[true, true, false, false, false, false, false, false, false, false, false, false, false] rfl rfl (any_of HT_.out (by kernel_rfl)) (fun _ _ _ h => h) (Or.inl ⟨by rfl, ?_⟩) ?_ ?_
                            rotate_left
                            · intro w'
                              go_simp
                              with_reducible rfl
                            rotate_left
                            · simp only [Act.put, List.setIfInBounds_toArray, List.set_cons_zero, List.set_cons_succ, i64_w, i32_w]
                              rfl
                            refine pure_ (i := 2) (N := some 45) (v := ?_) (a' := ?_) #[true, true, true, false, false, false, false, false, false, false, false, false, false] rfl rfl (any_of HT_.out (by kernel_rfl)) (fun _ _ _ h => h) (Or.inl ⟨by rfl, ?_⟩) ?_ ?_
                            rotate_left
                            · intro w'
                              go_simp
                              with_reducible rfl
                            rotate_left
                            · simp only [Act.put, List.setIfInBounds_toArray, List.set_cons_zero, List.set_cons_succ, i64_w, i32_w]
                              rfl
                            refine pure_ (i := 3) (N := some 46) (v := ?_) (a' := ?_) #[true, true, true, true, false, false, false, false, false, false, false, false, false] rfl rfl (any_of HT_.out (by kernel_rfl)) (fun _ _ _ h => h) (Or.inl ⟨by rfl, ?_⟩) ?_ ?_
                            rotate_left
                            · intro w'
                              go_simp
                              with_reducible rfl
                            rotate_left
                            · simp only [Act.put, List.setIfInBounds_toArray, List.set_cons_zero, List.set_cons_succ, i64_w, i32_w]
                              rfl
                            refine pure_ (i := 5) (N := some 48) (v := ?_) (a' := ?_) #[true, true, true, true, false, true, false, false, false, false, false, false, false] rfl rfl (any_of HT_.out (by kernel_rfl)) (fun _ _ _ h => h) (Or.inl ⟨by rfl, ?_⟩) ?_ ?_
                            rotate_left
                            · intro w'
                              go_simp
                              with_reducible rfl
                            rotate_left
                            · simp only [Act.put, List.setIfInBounds_toArray, List.set_cons_zero, List.set_cons_succ, i64_w, i32_w]
                              rfl
                            refine pure_ (i := 6) (N := some 49) (v := ?_) (a' := ?_) #[true, true, true, true, false, true, true, false, false, false, false, false, false] rfl rfl (any_of HT_.out (by kernel_rfl)) (fun _ _ _ h => h) (Or.inl ⟨by rfl, ?_⟩) ?_ ?_
                            rotate_left
                            · intro w'
                              go_simp
                              with_reducible rfl
                            rotate_left
                            · simp only [Act.put, List.setIfInBounds_toArray, List.set_cons_zero, List.set_cons_succ, i64_w, i32_w]
                              rfl
                            refine pure_ (i := 7) (N := some 50) (v := ?_) (a' := ?_) #[true, true, true, true, false, true, true, true, false, false, false, false, false] rfl rfl (any_of HT_.out (by kernel_rfl)) (fun _ _ _ h => h) (Or.inl ⟨by rfl, ?_⟩) ?_ ?_
                            rotate_left
                            · intro w'
                              go_simp
                              with_reducible rfl
                            rotate_left
                            · simp only [Act.put, List.setIfInBounds_toArray, List.set_cons_zero, List.set_cons_succ, i64_w, i32_w]
                              rfl
                            refine pure_ (i := 8) (N := some 51) (v := ?_) (a' := ?_) #[true, true, true, true, false, true, true, true, true, false, false, false, false] rfl rfl (any_of HT_.out (by kernel_rfl)) (fun _ _ _ h => h) (Or.inl ⟨by rfl, ?_⟩) ?_ ?_
                            rotate_left
                            · intro w'
                              go_simp
                              with_reducible rfl
                            rotate_left
                            · simp only [Act.put, List.setIfInBounds_toArray, List.set_cons_zero, List.set_cons_succ, i64_w, i32_w]
                              rfl
                            refine pure_ (i := 9) (N := some 52) (v := ?_) (a' := ?_) #[true, true, true, true, false, true, true, true, true, true, false, false, false] rfl rfl (any_of HT_.out (by kernel_rfl)) (fun _ _ _ h => h) (Or.inl ⟨by rfl, ?_⟩) ?_ ?_
                            rotate_left
                            · intro w'
                              go_simp
                              with_reducible rfl
                            rotate_left
                            · simp only [Act.put, List.setIfInBounds_toArray, List.set_cons_zero, List.set_cons_succ, i64_w, i32_w]
                              rfl
                            refine take_ (i := 4) (N := some 47) (v := ?_) (a' := ?_) #[true, true, true, true, true, true, true, true, true, true, false, false, false] rfl rfl (take_ofW HT_.out HW_.out (by kernel_rfl)) (fun _ _ _ h => h) (Or.inl ⟨by rfl, ?_⟩) hHeld ?_ ?_
                            rotate_left
                            · rintro w' ⟨s0, s1, s2, s3⟩
                              go_simp
                              with_reducible rfl
                            rotate_left
                            · simp only [Act.put, List.setIfInBounds_toArray, List.set_cons_zero, List.set_cons_succ, i64_w, i32_w]
                              rfl
                            refine take_ (i := 10) (N := some 53) (v := ?_) (a' := ?_) #[true, true, true, true, true, true, true, true, true, true, true, false, false] rfl rfl (take_ofW HT_.out HW_.out (by kernel_rfl)) (fun _ _ _ h => h) (Or.inl ⟨by rfl, ?_⟩) hHeld ?_ ?_
                            rotate_left
                            · rintro w' ⟨s0, s1, s2, s3⟩
                              go_simp
                              with_reducible rfl
                            rotate_left
                            · simp only [Act.put, List.setIfInBounds_toArray, List.set_cons_zero, List.set_cons_succ, i64_w, i32_w]
                              rfl
                            refine pure_ (i := 11) (N := some 54) (v := ?_) (a' := ?_) #[true, true, true, true, true, true, true, true, true, true, true, true, false] rfl rfl (any_of HT_.out (by kernel_rfl)) (fun _ _ _ h => h) (Or.inl ⟨by rfl, ?_⟩) ?_ ?_
                            rotate_left
                            · intro w'
                              go_simp
                              with_reducible rfl
                            rotate_left
                            · simp only [Act.put, List.setIfInBounds_toArray, List.set_cons_zero, List.set_cons_succ, i64_w, i32_w]
                              rfl
                            refine pure_ (i := 12) (N := some 55) (v := ?_) (a' := ?_) #[true, true, true, true, true, true, true, true, true, true, true, true, true] rfl rfl (any_of HT_.out (by kernel_rfl)) (fun _ _ _ h => h) (Or.inl ⟨by rfl, ?_⟩) ?_ ?_
                            rotate_left
                            · intro w'
                              go_simp
                              with_reducible rfl
                            rotate_left
                            · simp only [Act.put, List.setIfInBounds_toArray, List.set_cons_zero, List.set_cons_succ, i64_w, i32_w]
                              rfl
                            refine done_ (done_of HT_.out (by kernel_rfl)) ?_
                            have hcz52_0 : w51.cell? ⟨gb111, 0, none⟩ = some (.int .i64 ((rd_T67 x35_2 x37_2).f0)) := (blk_cell BK111.out 0).trans rfl
                            have hcz52_1 : w51.cell? ⟨gb111, 1, none⟩ = some (.int .i64 ((rd_T67 x35_2 x37_2).f1)) := (blk_cell BK111.out 1).trans rfl
                            have hfz52_0 := blk_frozen BK111.out 0
                            have hfz52_1 := blk_frozen BK111.out 1
                            try go_wp2_with (first | ((with_reducible refine gate_builtin (b := .append) (xs := #[.tmp 70, .tmp 72]) rfl ?_); at_builtin; refine Kd.R_append k67 (w0 := w) w.heap.size rfl (.tmp 70) (.tmp 72) 57 67 (.agg #[(.int .i64 0), (.int .i64 0)]) 16 rfl Try.underlying57 info67 rfl (by decide) (by omega) (.slice (some ad112) x6_2.length co49) x6_2 (⟨(rd_T67 x35_2 x37_2).f0, (rd_T67 x35_2 x37_2).f1⟩ : S67) [.int .i64 ((rd_T67 x35_2 x37_2).f0), .int .i64 ((rd_T67 x35_2 x37_2).f1)] (fun k_ => some k_ ≠ (.slice (some ad110) x35_2.length co28 : Value).ownBlock ∧ k_ ≠ gb111) (fun _ => False) rfl rfl ?aP (fun _ hk => hk.elim) ?aF ?aO ?aB ?aS ?aL ?_; (case aP => exact k67_mkM _ _ _ (⟨(rd_T67 x35_2 x37_2).f0, (rd_T67 x35_2 x37_2).f1⟩ : S67)); (case aB => exact (by repeat (first | (with_reducible first | exact HB.out | apply below_alloc | apply pw_below_drewN | apply below_drew1 | refine below_set ?_ GE111.out) | exact HB.out))); (case aF => exact (fun k_ hk => ⟨Kd.fresh' (Kd.R_lt (by (with_reducible repeat (first | apply Kd.R_alloc | apply Kd.R_drewN | apply Kd.R_drew)); exact HO_35.out)) k_ hk, Kd.freshB (g := gb111) (o := .cells #[.int .i64 ((rd_T67 x35_2 x37_2).f0), .int .i64 ((rd_T67 x35_2 x37_2).f1)] 67 (0, 0)) (by (with_reducible repeat (first | refine blk_drewN ?_ _ | refine blk_drew ?_ | refine blk_alloc ?_ _)); exact BK111.out) k_ hk⟩)); (case aO => exact (by (with_reducible repeat (first | apply Kd.R_alloc | apply Kd.R_drewN | apply Kd.R_drew)); exact HO_6.out)); (case aS => exact (below_size (by repeat (first | (with_reducible first | exact HB.out | apply below_alloc | apply pw_below_drewN | apply below_drew1 | refine below_set ?_ GE111.out) | exact HB.out)))); (case aL => have := LMc46.out; omega); intro v116 w53 ho hb hg hat; rw [← Ny115.out] at ho; have n0_ := Aside0.mk (Kd.R_after (ok := (fun k_ => k_ ≠ gb111)) (by (with_reducible repeat (first | apply Kd.R_alloc | apply Kd.R_drewN | apply Kd.R_drew)); exact Kd.R_mono HO_35.out (fun _ hk => ⟨hk.2, hk.1⟩)) hg hat); have n1_ := Aside0.mk (blk_grown (g := gb111) (o := .cells #[.int .i64 ((rd_T67 x35_2 x37_2).f0), .int .i64 ((rd_T67 x35_2 x37_2).f1)] 67 (0, 0)) (by (with_reducible repeat (first | refine blk_drewN ?_ _ | refine blk_drew ?_ | refine blk_alloc ?_ _)); exact BK111.out) hg (Kd.R_away HO_6.out (fun _ hk => hk.2))); have n2_ := Aside0.mk (hb); have n3_ := Aside0.mk (ho); clear HO_35; clear BK111; clear HB; clear HO_6; have HO_35 := n0_; have BK111 := n1_; have HB := n2_; have HO117 := n3_; clear n0_ n1_ n2_ n3_; clear ho hb hg hat))
                            (try simp only [← hl35_2])
                            go_roundg k2
                            case measure => have := HK1.out; have := HK2.out; omega
                            case rel => exact ⟨(y115), (x35_2), (wrap64 (x37_2 + 1)), (by first | rfl | (simp; done) | (simp [*]; done)), H', ⟨by have := HK1.out; have := HK2.out; omega⟩, ⟨by (try simp only [hl35_2]); (with_reducible repeat (first | apply Kd.R_alloc | apply Kd.R_drewN | apply Kd.R_drew)); exact Kd.R_mono HO117.out (fun _ hk => hk.1)⟩, ⟨by (try simp only [hl35_2]); (with_reducible repeat (first | apply Kd.R_alloc | apply Kd.R_drewN | apply Kd.R_drew)); exact Kd.R_mono HO_35.out (fun _ hk => hk.2)⟩, ⟨by repeat (first | (with_reducible first | exact HB.out | apply below_alloc | apply pw_below_drewN | apply below_drew1 | refine below_set ?_ GE111.out) | exact HB.out)⟩⟩
                          · rw [if_neg c46] at H
                            exact absurd H (by simp)
                      · rw [if_neg c35] at H
                        exact absurd H (by simp)
                    · rw [if_neg c34] at H
                      exact absurd H (by simp)
                  · rw [if_neg c32] at H
                    have c32b0 : decide (0 < (x6_2.length : Int)) = false := decide_eq_false c32
                    have c32b1 : decide (0 < x6_2.length) = false := decide_eq_false (by omega)
                    clear c32
                    by_cases c54 : x6_2.length < 8796093022208
                    · rw [if_pos c54] at H
                      have LMc54 := Aside0.mk c54
                      clear c54
                      obtain ⟨y118, hy118⟩ : ∃ y_ : List (S67), y_ = (x6_2 ++ [(⟨(rd_T67 x35_2 x37_2).f0, (rd_T67 x35_2 x37_2).f1⟩ : S67)]) := ⟨_, rfl⟩
                      replace H : (agenda_Neat.l1 k2 y118 x35_2 (x3_1.length : Int) (wrap64 (x37_2 + 1))) = some r := by first | (rw [hy118]; with_reducible exact H) | (have H2_ := (Option.bind_some _ _).symm.trans H; rw [hy118]; with_reducible exact H2_) | (have H2_ := (Option.bind_some _ _).symm.trans H; with_reducible exact H2_) | with_reducible exact H | (rw [hy118]; exact H) | exact H
                      have Ny118 := Aside0.mk hy118
                      clear hy118
                      have H' := Aside0.mk H
                      clear H
                      have p110 : 0 ≤ (x37_2 : Int) := of_decide_eq_true (by first | (with_reducible assumption) | assumption)
                      have q110 : x37_2 < (x35_2.length : Int) := of_decide_eq_true (by first | (with_reducible assumption) | assumption)
                      obtain ⟨ad110, e110, hx110_0, hx110_1⟩ := at_T67 (Kd.R_reads' HO_35.out).2.2 x37_2 p110 q110
                      cases e110
                      replace p110 := eq_true p110
                      replace q110 := eq_true q110
                      try go_wp2_with (first | ((with_reducible refine gate_dst (N := 8) rfl ?_); refine box_event ?hg (N := 8) ?hd (cs := #[.int .i64 0, .int .i64 0]) (t := 67) ?hr ?_; (case hd => rfl); (case hg => rfl); (case hr => first | (go_simp; done) | (go_simp; rfl)); intro gb111 hg w55 hbox hb; have n0_ := Aside0.mk (Kd.R_below (Kd.R_elderB (by (with_reducible repeat (first | apply Kd.R_alloc | apply Kd.R_drewN | apply Kd.R_drew)); exact HO_6.out) gb111 (Nat.le_of_eq hg.symm)) hb); have n1_ := Aside0.mk (Kd.R_below (Kd.R_elderB (by (with_reducible repeat (first | apply Kd.R_alloc | apply Kd.R_drewN | apply Kd.R_drew)); exact HO_35.out) gb111 (Nat.le_of_eq hg.symm)) hb); have n2_ := Aside0.mk (below_step (by repeat (first | (with_reducible first | exact HB.out | apply below_alloc | apply pw_below_drewN | apply below_drew1) | exact HB.out)) hb); have n3_ := Aside0.mk (hbox); have n4_ := Aside0.mk ((by rw [hg]; exact (below_size (by repeat (first | (with_reducible first | exact HB.out | apply below_alloc | apply pw_below_drewN | apply below_drew1) | exact HB.out))) : w.heap.size ≤ gb111)); have n5_ := Aside0.mk ((by rw [hg]; exact (below_size (by repeat (first | (with_reducible first | exact HB.out | apply below_alloc | apply pw_below_drewN | apply below_drew1) | exact HB.out))) : w.heap.size ≤ gb111)); clear HO_6; clear HO_35; clear HB; have HO_6 := n0_; have HO_35 := n1_; have HB := n2_; have BK111 := n3_; have GW111 := n4_; have GE111 := n5_; clear n0_ n1_ n2_ n3_ n4_ n5_; clear hb hbox hg; have hcz56_0 : w55.cell? ⟨gb111, 0, none⟩ = some (.int .i64 0) := (blk_cell BK111.out 0).trans rfl; have hcz56_1 : w55.cell? ⟨gb111, 1, none⟩ = some (.int .i64 0) := (blk_cell BK111.out 1).trans rfl; have hfz56_0 := blk_frozen BK111.out 0; have hfz56_1 := blk_frozen BK111.out 1; obtain ⟨Ao57, co57, eo57⟩ := Kd.R_slice HO_6.out; subst eo57))
                      have n0_ : Aside0 (Kd.R k67 67 ((w55.setCell ⟨gb111, 0, none⟩ (.int .i64 ((rd_T67 x35_2 x37_2).f0))).setCell ⟨gb111, 1, none⟩ (.int .i64 ((rd_T67 x35_2 x37_2).f1))) w.heap.size (fun k_ => some k_ ≠ (.slice (some ad110) x35_2.length co28 : Value).ownBlock ∧ k_ ≠ gb111) (.slice Ao57 x6_2.length co57) x6_2) := ⟨by (with_reducible repeat (first | apply Kd.R_alloc | apply Kd.R_drewN | apply Kd.R_drew)); exact Kd.R_mono (Kd.R_far (p := ⟨gb111, 1, none⟩) (Kd.R_far (p := ⟨gb111, 0, none⟩) (Kd.R_mono HO_6.out (fun k_ hk => (⟨hk, hk.2⟩ : _ ∧ k_ ≠ gb111))) (fun _ hk => hk.2) (.int .i64 ((rd_T67 x35_2 x37_2).f0))) (fun _ hk => hk.2) (.int .i64 ((rd_T67 x35_2 x37_2).f1))) (fun _ hk => ⟨hk.1.1, hk.1.2⟩)⟩
                      have n1_ : Aside0 (Kd.R k67 67 ((w55.setCell ⟨gb111, 0, none⟩ (.int .i64 ((rd_T67 x35_2 x37_2).f0))).setCell ⟨gb111, 1, none⟩ (.int .i64 ((rd_T67 x35_2 x37_2).f1))) w.heap.size (fun k_ => some k_ ≠ (.slice Ao57 x6_2.length co57 : Value).ownBlock ∧ k_ ≠ gb111) (.slice (some ad110) x35_2.length co28) x35_2) := ⟨by (with_reducible repeat (first | apply Kd.R_alloc | apply Kd.R_drewN | apply Kd.R_drew)); exact Kd.R_mono (Kd.R_far (p := ⟨gb111, 1, none⟩) (Kd.R_far (p := ⟨gb111, 0, none⟩) (Kd.R_mono HO_35.out (fun k_ hk => (⟨hk, hk.2⟩ : _ ∧ k_ ≠ gb111))) (fun _ hk => hk.2) (.int .i64 ((rd_T67 x35_2 x37_2).f0))) (fun _ hk => hk.2) (.int .i64 ((rd_T67 x35_2 x37_2).f1))) (fun _ hk => ⟨hk.1.1, hk.1.2⟩)⟩
                      have n2_ : Aside0 (((w55.setCell ⟨gb111, 0, none⟩ (.int .i64 ((rd_T67 x35_2 x37_2).f0))).setCell ⟨gb111, 1, none⟩ (.int .i64 ((rd_T67 x35_2 x37_2).f1))).heap[gb111]? = some (.cells #[.int .i64 ((rd_T67 x35_2 x37_2).f0), .int .i64 ((rd_T67 x35_2 x37_2).f1)] 67 (0, 0))) := ⟨by (with_reducible repeat (first | refine blk_drewN ?_ _ | refine blk_drew ?_ | refine blk_alloc ?_ _)); refine blk_put (cs := #[.int .i64 ((rd_T67 x35_2 x37_2).f0), .int .i64 0]) ?_ 1 _ rfl; (with_reducible repeat (first | refine blk_drewN ?_ _ | refine blk_drew ?_ | refine blk_alloc ?_ _)); refine blk_put (cs := #[.int .i64 0, .int .i64 0]) ?_ 0 _ rfl; (with_reducible repeat (first | refine blk_drewN ?_ _ | refine blk_drew ?_ | refine blk_alloc ?_ _)); exact BK111.out⟩
                      have n3_ : Aside0 (Below w.heap.size w ((w55.setCell ⟨gb111, 0, none⟩ (.int .i64 ((rd_T67 x35_2 x37_2).f0))).setCell ⟨gb111, 1, none⟩ (.int .i64 ((rd_T67 x35_2 x37_2).f1)))) := ⟨by repeat (first | (with_reducible first | exact HB.out | apply below_alloc | apply pw_below_drewN | apply below_drew1 | refine below_set ?_ GE111.out) | exact HB.out)⟩
                      (try clear HO_6)
                      (try clear HO_35)
                      (try clear BK111)
                      (try clear HB)
                      generalize ((w55.setCell ⟨gb111, 0, none⟩ (.int .i64 ((rd_T67 x35_2 x37_2).f0))).setCell ⟨gb111, 1, none⟩ (.int .i64 ((rd_T67 x35_2 x37_2).f1))) = w58 at n0_ n1_ n2_ n3_ ⊢
                      have HO_6 := n0_
                      have HO_35 := n1_
                      have BK111 := n2_
                      have HB := n3_
                      clear n0_ n1_ n2_ n3_
                      have n0_ := Aside0.mk (Kd.R_drew HO_6.out)
                      have n1_ := Aside0.mk (Kd.R_drew HO_35.out)
                      have n2_ := Aside0.mk (blk_drew BK111.out)
                      have n3_ := Aside0.mk (below_drew1 HB.out)
                      clear HO_6
                      clear HO_35
                      clear BK111
                      clear HB
                      have HO_6 := n0_
                      have HO_35 := n1_
                      have BK111 := n2_
                      have HB := n3_
                      clear n0_ n1_ n2_ n3_
                      refine start_ (n := 13) (S := fun w' => True) (ds := []) #[false, false, false, false, false, false, false, false, false, false, false, false, false] (by kernel_rfl) rfl rfl trivial (fun hHeld => ?_); refine with_tabW agenda_Neat.tab15 agenda_Neat.bits15 (fun HT_ HW_ => ?_)
                      generalize w58.drew = w59 at HO_6 HO_35 BK111 HB hHeld ⊢
                      refine pure_ (i := 0) (N := some 43) (v := ?_) (a' := ?_) #[true, false, false, false, false, false, false, false, false, false, false, false, false] rfl rfl (any_of HT_.out (by kernel_rfl)) (fun _ _ _ h => h) (Or.inl ⟨by rfl, ?_⟩) ?_ ?_
                      rotate_left
                      · intro w'
                        go_simp
                        with_reducible rfl
                      rotate_left
                      · simp only [Act.put, List.setIfInBounds_toArray, List.set_cons_zero, List.set_cons_succ, i64_w, i32_w]
                        rfl
                      refine pure_ (i := 1) (N := some 44) (v := ?_) (a' := ?_) #[true, true, false, false, false, false, false, false, false, false, false, false, false] rfl rfl (any_of HT_.out (by kernel_rfl)) (fun _ _ _ h => h) (Or.inl ⟨by rfl, ?_⟩) ?_ ?_
                      rotate_left
                      · intro w'
                        go_simp
                        with_reducible rfl
                      rotate_left
                      · simp only [Act.put, List.setIfInBounds_toArray, List.set_cons_zero, List.set_cons_succ, i64_w, i32_w]
                        rfl
                      refine pure_ (i := 2) (N := some 45) (v := ?_) (a' := ?_) #[true, true, true, false, false, false, false, false, false, false, false, false, false] rfl rfl (any_of HT_.out (by kernel_rfl)) (fun _ _ _ h => h) (Or.inl ⟨by rfl, ?_⟩) ?_ ?_
                      rotate_left
                      · intro w'
                        go_simp
                        with_reducible rfl
                      rotate_left
                      · simp only [Act.put, List.setIfInBounds_toArray, List.set_cons_zero, List.set_cons_succ, i64_w, i32_w]
                        rfl
                      refine pure_ (i := 3) (N := some 46) (v := undef) (a' := ?_) #[true, true, true, true, false, false, false, false, false, false, false, false, false] rfl rfl (any_of HT_.out (by kernel_rfl)) (fun _ _ _ h => h) (Or.inr ⟨by rfl, rfl⟩) ?_ ?_
                      rotate_left
                      · simp only [Act.put, List.setIfInBounds_toArray, List.set_cons_zero, List.set_cons_succ, i64_w, i32_w]
                        rfl
                      refine pure_ (i := 4) (N := some 47) (v := undef) (a' := ?_) #[true, true, true, true, true, false, false, false, false, false, false, false, false] rfl rfl (any_of HT_.out (by kernel_rfl)) (fun _ _ _ h => h) (Or.inr ⟨by rfl, rfl⟩) ?_ ?_
                      rotate_left
                      · simp only [Act.put, List.setIfInBounds_toArray, List.set_cons_zero, List.set_cons_succ, i64_w, i32_w]
                        rfl
                      refine pure_ (i := 5) (N := some 48) (v := undef) (a' := ?_) #[true, true, true, true, true, true, false, false, false, false, false, false, false] rfl rfl (any_of HT_.out (by kernel_rfl)) (fun _ _ _ h => h) (Or.inr ⟨by rfl, rfl⟩) ?_ ?_
                      rotate_left
                      · simp only [Act.put, List.setIfInBounds_toArray, List.set_cons_zero, List.set_cons_succ, i64_w, i32_w]
                        rfl
                      refine pure_ (i := 6) (N := some 49) (v := undef) (a' := ?_) #[true, true, true, true, true, true, true, false, false, false, false, false, false] rfl rfl (any_of HT_.out (by kernel_rfl)) (fun _ _ _ h => h) (Or.inr ⟨by rfl, rfl⟩) ?_ ?_
                      rotate_left
                      · simp only [Act.put, List.setIfInBounds_toArray, List.set_cons_zero, List.set_cons_succ, i64_w, i32_w]
                        rfl
                      refine pure_ (i := 7) (N := some 50) (v := undef) (a' := ?_) #[true, true, true, true, true, true, true, true, false, false, false, false, false] rfl rfl (any_of HT_.out (by kernel_rfl)) (fun _ _ _ h => h) (Or.inr ⟨by rfl, rfl⟩) ?_ ?_
                      rotate_left
                      · simp only [Act.put, List.setIfInBounds_toArray, List.set_cons_zero, List.set_cons_succ, i64_w, i32_w]
                        rfl
                      refine pure_ (i := 8) (N := some 51) (v := undef) (a' := ?_) #[true, true, true, true, true, true, true, true, true, false, false, false, false] rfl rfl (any_of HT_.out (by kernel_rfl)) (fun _ _ _ h => h) (Or.inr ⟨by rfl, rfl⟩) ?_ ?_
                      rotate_left
                      · simp only [Act.put, List.setIfInBounds_toArray, List.set_cons_zero, List.set_cons_succ, i64_w, i32_w]
                        rfl
                      refine pure_ (i := 9) (N := some 52) (v := undef) (a' := ?_) #[true, true, true, true, true, true, true, true, true, true, false, false, false] rfl rfl (any_of HT_.out (by kernel_rfl)) (fun _ _ _ h => h) (Or.inr ⟨by rfl, rfl⟩) ?_ ?_
                      rotate_left
                      · simp only [Act.put, List.setIfInBounds_toArray, List.set_cons_zero, List.set_cons_succ, i64_w, i32_w]
                        rfl
                      refine pure_ (i := 10) (N := some 53) (v := undef) (a' := ?_) #[true, true, true, true, true, true, true, true, true, true, true, false, false] rfl rfl (any_of HT_.out (by kernel_rfl)) (fun _ _ _ h => h) (Or.inr ⟨by rfl, rfl⟩) ?_ ?_
                      rotate_left
                      · simp only [Act.put, List.setIfInBounds_toArray, List.set_cons_zero, List.set_cons_succ, i64_w, i32_w]
                        rfl
                      refine pure_ (i := 11) (N := some 54) (v := undef) (a' := ?_) #[true, true, true, true, true, true, true, true, true, true, true, true, false] rfl rfl (any_of HT_.out (by kernel_rfl)) (fun _ _ _ h => h) (Or.inr ⟨by rfl, rfl⟩) ?_ ?_
                      rotate_left
                      · simp only [Act.put, List.setIfInBounds_toArray, List.set_cons_zero, List.set_cons_succ, i64_w, i32_w]
                        rfl
                      refine pure_ (i := 12) (N := some 55) (v := ?_) (a' := ?_) #[true, true, true, true, true, true, true, true, true, true, true, true, true] rfl rfl (any_of HT_.out (by kernel_rfl)) (fun _ _ _ h => h) (Or.inl ⟨by rfl, ?_⟩) ?_ ?_
                      rotate_left
                      · intro w'
                        go_simp
                        with_reducible rfl
                      rotate_left
                      · simp only [Act.put, List.setIfInBounds_toArray, List.set_cons_zero, List.set_cons_succ, i64_w, i32_w]
                        rfl
                      refine done_ (done_of HT_.out (by kernel_rfl)) ?_
                      have hcz60_0 : w59.cell? ⟨gb111, 0, none⟩ = some (.int .i64 ((rd_T67 x35_2 x37_2).f0)) := (blk_cell BK111.out 0).trans rfl
                      have hcz60_1 : w59.cell? ⟨gb111, 1, none⟩ = some (.int .i64 ((rd_T67 x35_2 x37_2).f1)) := (blk_cell BK111.out 1).trans rfl
                      have hfz60_0 := blk_frozen BK111.out 0
                      have hfz60_1 := blk_frozen BK111.out 1
                      try go_wp2_with (first | ((with_reducible refine gate_builtin (b := .append) (xs := #[.tmp 70, .tmp 72]) rfl ?_); at_builtin; refine Kd.R_append k67 (w0 := w) w.heap.size rfl (.tmp 70) (.tmp 72) 57 67 (.agg #[(.int .i64 0), (.int .i64 0)]) 16 rfl Try.underlying57 info67 rfl (by decide) (by omega) (.slice Ao57 x6_2.length co57) x6_2 (⟨(rd_T67 x35_2 x37_2).f0, (rd_T67 x35_2 x37_2).f1⟩ : S67) [.int .i64 ((rd_T67 x35_2 x37_2).f0), .int .i64 ((rd_T67 x35_2 x37_2).f1)] (fun k_ => some k_ ≠ (.slice (some ad110) x35_2.length co28 : Value).ownBlock ∧ k_ ≠ gb111) (fun _ => False) rfl rfl ?aP (fun _ hk => hk.elim) ?aF ?aO ?aB ?aS ?aL ?_; (case aP => exact k67_mkM _ _ _ (⟨(rd_T67 x35_2 x37_2).f0, (rd_T67 x35_2 x37_2).f1⟩ : S67)); (case aB => exact (by repeat (first | (with_reducible first | exact HB.out | apply below_alloc | apply pw_below_drewN | apply below_drew1 | refine below_set ?_ GE111.out) | exact HB.out))); (case aF => exact (fun k_ hk => ⟨Kd.fresh' (Kd.R_lt (by (with_reducible repeat (first | apply Kd.R_alloc | apply Kd.R_drewN | apply Kd.R_drew)); exact HO_35.out)) k_ hk, Kd.freshB (g := gb111) (o := .cells #[.int .i64 ((rd_T67 x35_2 x37_2).f0), .int .i64 ((rd_T67 x35_2 x37_2).f1)] 67 (0, 0)) (by (with_reducible repeat (first | refine blk_drewN ?_ _ | refine blk_drew ?_ | refine blk_alloc ?_ _)); exact BK111.out) k_ hk⟩)); (case aO => exact (by (with_reducible repeat (first | apply Kd.R_alloc | apply Kd.R_drewN | apply Kd.R_drew)); exact HO_6.out)); (case aS => exact (below_size (by repeat (first | (with_reducible first | exact HB.out | apply below_alloc | apply pw_below_drewN | apply below_drew1 | refine below_set ?_ GE111.out) | exact HB.out)))); (case aL => have := LMc54.out; omega); intro v119 w61 ho hb hg hat; rw [← Ny118.out] at ho; have n0_ := Aside0.mk (Kd.R_after (ok := (fun k_ => k_ ≠ gb111)) (by (with_reducible repeat (first | apply Kd.R_alloc | apply Kd.R_drewN | apply Kd.R_drew)); exact Kd.R_mono HO_35.out (fun _ hk => ⟨hk.2, hk.1⟩)) hg hat); have n1_ := Aside0.mk (blk_grown (g := gb111) (o := .cells #[.int .i64 ((rd_T67 x35_2 x37_2).f0), .int .i64 ((rd_T67 x35_2 x37_2).f1)] 67 (0, 0)) (by (with_reducible repeat (first | refine blk_drewN ?_ _ | refine blk_drew ?_ | refine blk_alloc ?_ _)); exact BK111.out) hg (Kd.R_away HO_6.out (fun _ hk => hk.2))); have n2_ := Aside0.mk (hb); have n3_ := Aside0.mk (ho); clear HO_35; clear BK111; clear HB; clear HO_6; have HO_35 := n0_; have BK111 := n1_; have HB := n2_; have HO120 := n3_; clear n0_ n1_ n2_ n3_; clear ho hb hg hat))
                      (try simp only [← hl35_2])
                      go_roundg k2
                      case measure => have := HK1.out; have := HK2.out; omega
                      case rel => exact ⟨(y118), (x35_2), (wrap64 (x37_2 + 1)), (by first | rfl | (simp; done) | (simp [*]; done)), H', ⟨by have := HK1.out; have := HK2.out; omega⟩, ⟨by (try simp only [hl35_2]); (with_reducible repeat (first | apply Kd.R_alloc | apply Kd.R_drewN | apply Kd.R_drew)); exact Kd.R_mono HO120.out (fun _ hk => hk.1)⟩, ⟨by (try simp only [hl35_2]); (with_reducible repeat (first | apply Kd.R_alloc | apply Kd.R_drewN | apply Kd.R_drew)); exact Kd.R_mono HO_35.out (fun _ hk => hk.2)⟩, ⟨by repeat (first | (with_reducible first | exact HB.out | apply below_alloc | apply pw_below_drewN | apply below_drew1 | refine below_set ?_ GE111.out) | exact HB.out)⟩⟩
                    · rw [if_neg c54] at H
                      exact absurd H (by simp)
                · rw [if_neg c31] at H
                  exact absurd H (by simp)
              · rw [if_neg c30] at H
                exact absurd H (by simp)
            · rw [if_neg c29] at H
              have c29b0 : decide (x37_2 < (x3_1.length : Int)) = false := decide_eq_false c29
              clear c29
              obtain rfl := Option.some.inj H
              have cz_ : decide (x37_2 < (x35_2.length : Int)) = false := by rw [← hl35_2]; exact c29b0
              go_wp2
              go_ret
              exact ⟨_, by first | rfl | (simp [errW_none, errW_some] <;> rfl) | (simp [*, errW_none, errW_some] <;> rfl), by (with_reducible repeat (first | apply Kd.R_alloc | apply Kd.R_drewN | apply Kd.R_drew)); exact Kd.R_mono HO_6.out (fun _ hk => trivial), by repeat (first | (with_reducible first | exact HB.out | apply below_alloc | apply pw_below_drewN | apply below_drew1) | exact HB.out)⟩

end Go.Proofs.Ytddoidcbpcmlaaa.G
