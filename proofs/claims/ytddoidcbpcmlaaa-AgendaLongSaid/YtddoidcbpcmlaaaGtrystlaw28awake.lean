-- written by a program of this session (wip/own_print.sh)
import Derived.Test.YtddoidcbpcmlaaaG0
import Derived.Test.YtddoidcbpcmlaaaGagendaNeat
namespace Go.Proofs.Ytddoidcbpcmlaaa.G
open Go.RowKit Go.Proofs.YtddoidcbpcmlaaaW.PrintWords Go.Proofs.YtddoidcbpcmlaaaW.PrintLast Go.Proofs.YtddoidcbpcmlaaaW.PrintMore
attribute [local go_sem] max2_int min2_int max_two min_two max_three min_three max_four min_four   -- for this text's walks alone
set_option linter.unusedVariables false
set_option linter.unusedSimpArgs false

/-! ### trystlaw28_awake: function 20 -/
def trystlaw28_awake.f (k : Nat)  : Option (Bool) := (agenda_Neat.f k (([(⟨1, 3⟩ : S67), (⟨3, 5⟩ : S67)] : List (S67)))).bind fun t124 => (if (t124.length : Int) = 1 then (if 0 < (t124.length : Int) then (some (((rd_T67 t124 0).f1) == 5)) else (none)) else (some false))
theorem trystlaw28_awake.mono : ∀ k, LeO (trystlaw28_awake.f k ) (trystlaw28_awake.f (k + 1) ) := by
  intro  k
  unfold trystlaw28_awake.f
  repeat' first
      | (with_reducible exact agenda_Neat.mono _ _)
      | (with_reducible exact LeO.refl _)
      | (with_reducible exact LeO.none _)
      | (with_reducible refine LeO.ite ?_ ?_)
      | (with_reducible refine LeO.bind ?_ (fun _ => ?_))
      | exact agenda_Neat.mono _ _
      | exact LeO.none _
      | refine LeO.ite ?_ ?_
      | refine LeO.bind ?_ (fun _ => ?_)
set_option maxHeartbeats 8000000 in
set_option maxRecDepth 100000 in
theorem trystlaw28_awake.calls (k : Nat)  (r : Bool) (w : World) (h : trystlaw28_awake.f k  = some r) :
    Calls Try.prog 20 #[] w fun e w' => e = .returned (.bool r) ∧ Below w.heap.size w w' := by
  have hu67 := Try.underlying67
  have HB := Aside0.mk (Below.refl w.heap.size w)
  have H : ((agenda_Neat.f k (([(⟨1, 3⟩ : S67), (⟨3, 5⟩ : S67)] : List (S67)))).bind fun t124 => (if (t124.length : Int) = 1 then (if 0 < (t124.length : Int) then (some (((rd_T67 t124 0).f1) == 5)) else (none)) else (some false))) = some r := h
  clear h
  obtain ⟨y121, hy121⟩ : ∃ y_ : List (S67), y_ = (([(⟨1, 3⟩ : S67), (⟨3, 5⟩ : S67)] : List (S67))) := ⟨_, rfl⟩
  replace H : ((agenda_Neat.f k y121).bind fun t124 => (if (t124.length : Int) = 1 then (if 0 < (t124.length : Int) then (some (((rd_T67 t124 0).f1) == 5)) else (none)) else (some false))) = some r := by first | (rw [hy121]; with_reducible exact H) | (have H2_ := (Option.bind_some _ _).symm.trans H; rw [hy121]; with_reducible exact H2_) | (have H2_ := (Option.bind_some _ _).symm.trans H; with_reducible exact H2_) | with_reducible exact H | (rw [hy121]; exact H) | exact H
  have Ny121 := Aside0.mk hy121
  clear hy121
  replace H := Option.bind_eq_some_iff.mp H
  obtain ⟨t124, A10, H⟩ := H
  replace H : (if (t124.length : Int) = 1 then (if 0 < (t124.length : Int) then (some (((rd_T67 t124 0).f1) == 5)) else (none)) else (some false)) = some r := H
  have A1 := Aside0.mk A10
  clear A10
  by_cases c2 : (t124.length : Int) = 1
  · rw [if_pos c2] at H
    have c2b0 : ((t124.length : Int) == 1) = true := beq_iff_eq.mpr c2
    have c2b1 : ((t124.length : Int) != 1) = false := bne_eq_false_iff_eq.mpr c2
    clear c2
    by_cases c3 : 0 < (t124.length : Int)
    · rw [if_pos c3] at H
      have c3b0 : decide (0 < (t124.length : Int)) = true := decide_eq_true c3
      have c3b1 : decide (0 < t124.length) = true := decide_eq_true (by omega)
      clear c3
      obtain rfl := Option.some.inj H
      go_enter Try.func20, Try.ntmps20
      go_wp2_with (first | ((with_reducible refine gate_dst (N := 4) rfl ?_); refine Kd.R_lit k67 _ 67 ?hg (N := 4) ?hd (xs := ([(⟨1, 3⟩ : S67), (⟨3, 5⟩ : S67)] : List (S67))) (inner := [.int .i64 1, .int .i64 3, .int .i64 3, .int .i64 5]) (ok := fun _ => True) (okp := fun _ => True) ?hr ?hp (fun _ hk => hk) trivial (Below.refl _ _) (Nat.le_refl _) (by simp) ?_; (case hd => rfl); (case hg => rfl); (case hr => first | (go_simp; done) | (go_simp; rfl)); (case hp => exact (Reps.c2 (show Kd.M k67 _ _ _ (⟨1, 3⟩ : S67) [.int .i64 1, .int .i64 3] from (k67_mkM _ _ _ (⟨1, 3⟩ : S67) )) (Reps.c2 (show Kd.M k67 _ _ _ (⟨3, 5⟩ : S67) [.int .i64 3, .int .i64 5] from (k67_mkM _ _ _ (⟨3, 5⟩ : S67) )) (Reps.none _ _)))); intro v122 w4 ho5 hb hg_ hnew_; clear hg_ hnew_; (first | rw [← Ny121.out] at ho5 | (simp only [Int.reduceToNat] at ho5; rw [← Ny121.out] at ho5)); have n0_ := Aside0.mk (Kd.R_lower ho5 (below_size (by repeat (first | (with_reducible first | exact HB.out | apply below_alloc | apply pw_below_drewN | apply below_drew1) | exact HB.out)))); have n1_ := Aside0.mk (below_step (by repeat (first | (with_reducible first | exact HB.out | apply below_alloc | apply pw_below_drewN | apply below_drew1) | exact HB.out)) hb); clear HB; have HO123 := n0_; have HB := n1_; clear n0_ n1_; clear hb ho5; obtain ⟨Ao6, co6, eo6⟩ := Kd.R_slice HO123.out; subst eo6) | ((with_reducible refine gate_callee (f := 21) rfl ?_); refine goesL_ (some 5) rfl rfl Try.func21 (by kernel_rfl) rfl #[.slice Ao6 y121.length co6] rfl (by (try simp only [List.map_toArray, List.map_cons, List.map_nil]); first | done | rfl | (simp only [List.length_drop, List.length_take]; rfl)) ?_; (with_reducible refine (agenda_Neat.calls k _ _ y121 t124 _ ?side1 ?side2 A1.out).mono ?_); (case side1 => repeat (first | exact (Kd.R_reads' HO123.out).2.2 | (with_reducible refine Kd.C_alloc ?_ _) | (with_reducible refine Kd.C_drewN ?_ _) | (with_reducible refine Kd.C_drew ?_))); (case side2 => exact (Kd.R_reads' HO123.out).2.1); rintro e w7 ⟨v125, rfl, ho0, hb⟩; refine ⟨_, rfl, ?_⟩; have n0_ := Aside0.mk (Kd.R_elder' (by (with_reducible repeat (first | apply Kd.R_alloc | apply Kd.R_drewN | apply Kd.R_drew)); exact HO123.out) (Kd.R_base ho0) hb); have n1_ := Aside0.mk (Kd.R_lower (Kd.R_new' ho0 (Kd.R_lt (by (with_reducible repeat (first | apply Kd.R_alloc | apply Kd.R_drewN | apply Kd.R_drew)); exact HO123.out))) (below_size (by repeat (first | (with_reducible first | exact HB.out | apply below_alloc | apply pw_below_drewN | apply below_drew1) | exact HB.out)))); have n2_ := Aside0.mk (below_step (by repeat (first | (with_reducible first | exact HB.out | apply below_alloc | apply pw_below_drewN | apply below_drew1) | exact HB.out)) hb); clear HO123; clear HB; have HO123 := n0_; have HO126 := n1_; have HB := n2_; clear n0_ n1_ n2_; (try clear hb); (try clear hb2); (try clear hk); (try clear hi); (try clear ho0); obtain ⟨Ao8, co8, eo8⟩ := Kd.R_slice HO126.out; subst eo8; have p127 : 0 ≤ (0 : Int) := (by omega); have q127 : 0 < (t124.length : Int) := of_decide_eq_true (by first | (with_reducible assumption) | assumption); obtain ⟨ad127, e127, hx127_0, hx127_1⟩ := at_T67 (Kd.R_reads' HO126.out).2.2 0 p127 q127; cases e127; have qi127 : (0 < t124.length) = True := eq_true (by omega); (try rw [show ((0 : Int)).toNat = 0 from rfl] at hx127_0); (try rw [show 0 * 2 = 0 from rfl] at hx127_0); (try rw [Addr.add_zero'] at hx127_0); (try rw [show ((0 : Int)).toNat = 0 from rfl] at hx127_1); (try rw [show 0 * 2 = 0 from rfl] at hx127_1); (try rw [Addr.add_zero'] at hx127_1); replace p127 := eq_true p127; replace q127 := eq_true q127))
      go_ret
      exact ⟨by first | rfl | (simp [errW_none, errW_some] <;> rfl) | (simp [*, errW_none, errW_some] <;> rfl), by repeat (first | (with_reducible first | exact HB.out | apply below_alloc | apply pw_below_drewN | apply below_drew1) | exact HB.out)⟩
    · rw [if_neg c3] at H
      exact absurd H (by simp)
  · rw [if_neg c2] at H
    have c2b0 : ((t124.length : Int) == 1) = false := beq_eq_false_iff_ne.mpr c2
    have c2b1 : ((t124.length : Int) != 1) = true := bne_iff_ne.mpr c2
    obtain rfl := Option.some.inj H
    go_enter Try.func20, Try.ntmps20
    go_wp2_with (first | ((with_reducible refine gate_dst (N := 4) rfl ?_); refine Kd.R_lit k67 _ 67 ?hg (N := 4) ?hd (xs := ([(⟨1, 3⟩ : S67), (⟨3, 5⟩ : S67)] : List (S67))) (inner := [.int .i64 1, .int .i64 3, .int .i64 3, .int .i64 5]) (ok := fun _ => True) (okp := fun _ => True) ?hr ?hp (fun _ hk => hk) trivial (Below.refl _ _) (Nat.le_refl _) (by simp) ?_; (case hd => rfl); (case hg => rfl); (case hr => first | (go_simp; done) | (go_simp; rfl)); (case hp => exact (Reps.c2 (show Kd.M k67 _ _ _ (⟨1, 3⟩ : S67) [.int .i64 1, .int .i64 3] from (k67_mkM _ _ _ (⟨1, 3⟩ : S67) )) (Reps.c2 (show Kd.M k67 _ _ _ (⟨3, 5⟩ : S67) [.int .i64 3, .int .i64 5] from (k67_mkM _ _ _ (⟨3, 5⟩ : S67) )) (Reps.none _ _)))); intro v122 w9 ho10 hb hg_ hnew_; clear hg_ hnew_; (first | rw [← Ny121.out] at ho10 | (simp only [Int.reduceToNat] at ho10; rw [← Ny121.out] at ho10)); have n0_ := Aside0.mk (Kd.R_lower ho10 (below_size (by repeat (first | (with_reducible first | exact HB.out | apply below_alloc | apply pw_below_drewN | apply below_drew1) | exact HB.out)))); have n1_ := Aside0.mk (below_step (by repeat (first | (with_reducible first | exact HB.out | apply below_alloc | apply pw_below_drewN | apply below_drew1) | exact HB.out)) hb); clear HB; have HO123 := n0_; have HB := n1_; clear n0_ n1_; clear hb ho10; obtain ⟨Ao11, co11, eo11⟩ := Kd.R_slice HO123.out; subst eo11) | ((with_reducible refine gate_callee (f := 21) rfl ?_); refine goesL_ (some 5) rfl rfl Try.func21 (by kernel_rfl) rfl #[.slice Ao11 y121.length co11] rfl (by (try simp only [List.map_toArray, List.map_cons, List.map_nil]); first | done | rfl | (simp only [List.length_drop, List.length_take]; rfl)) ?_; (with_reducible refine (agenda_Neat.calls k _ _ y121 t124 _ ?side1 ?side2 A1.out).mono ?_); (case side1 => repeat (first | exact (Kd.R_reads' HO123.out).2.2 | (with_reducible refine Kd.C_alloc ?_ _) | (with_reducible refine Kd.C_drewN ?_ _) | (with_reducible refine Kd.C_drew ?_))); (case side2 => exact (Kd.R_reads' HO123.out).2.1); rintro e w12 ⟨v125, rfl, ho0, hb⟩; refine ⟨_, rfl, ?_⟩; have n0_ := Aside0.mk (Kd.R_elder' (by (with_reducible repeat (first | apply Kd.R_alloc | apply Kd.R_drewN | apply Kd.R_drew)); exact HO123.out) (Kd.R_base ho0) hb); have n1_ := Aside0.mk (Kd.R_lower (Kd.R_new' ho0 (Kd.R_lt (by (with_reducible repeat (first | apply Kd.R_alloc | apply Kd.R_drewN | apply Kd.R_drew)); exact HO123.out))) (below_size (by repeat (first | (with_reducible first | exact HB.out | apply below_alloc | apply pw_below_drewN | apply below_drew1) | exact HB.out)))); have n2_ := Aside0.mk (below_step (by repeat (first | (with_reducible first | exact HB.out | apply below_alloc | apply pw_below_drewN | apply below_drew1) | exact HB.out)) hb); clear HO123; clear HB; have HO123 := n0_; have HO126 := n1_; have HB := n2_; clear n0_ n1_ n2_; (try clear hb); (try clear hb2); (try clear hk); (try clear hi); (try clear ho0); obtain ⟨Ao13, co13, eo13⟩ := Kd.R_slice HO126.out; subst eo13))
    go_ret
    exact ⟨by first | rfl | (simp [errW_none, errW_some] <;> rfl) | (simp [*, errW_none, errW_some] <;> rfl), by repeat (first | (with_reducible first | exact HB.out | apply below_alloc | apply pw_below_drewN | apply below_drew1) | exact HB.out)⟩

end Go.Proofs.Ytddoidcbpcmlaaa.G
