/- Texts of this claim, merged: Ltrystlaw27ShowBack, PureShowBack, ShapeRow. -/
import Derived.Test.YtgbbgcepcnklkaaGreatDoorMgShowBack1
import Derived.Test.YtgbbgcepcnklkaaGreatDoorMgShowBack24
import Derived.Test.YtgbbgcepcnklkaaGreatDoorRows
import Derived.HandedShaped
namespace Go.Proofs.YtgbbgcepcnklkaaGreatDoor.L
open Go.RowKit Go.Proofs.YtgbbgcepcnklkaaGreatDoorW.PrintWords Go.Proofs.YtgbbgcepcnklkaaGreatDoorW.PrintLast Go.Proofs.YtgbbgcepcnklkaaGreatDoorW.PrintMore
attribute [local go_sem] max2_int min2_int max_two min_two
set_option linter.unusedVariables false
set_option linter.unusedSimpArgs false
/-! ### trystlaw27_ShowBack: function 4 -/
mutual
noncomputable def trystlaw27_ShowBack.j0 : Nat → Int → List ByteArray → Bool → Option (Bool)
 | 0, _, _, _ => none
 | k + 1, x0, x3, x31 => if x31 = true then (none) else (trystlaw27_ShowBack.l0 k x0 x3 (x3.length : Int) 0)
noncomputable def trystlaw27_ShowBack.l0 : Nat → Int → List ByteArray → Int → Int → Option (Bool)
 | 0, _, _, _, _ => none
 | k + 1, x0, x3, x33, x34 => if x34 < x33 then (if 0 ≤ x34 then (if x34 < (x3.length : Int) then ((show_Parse.f x34 (rdOf ByteArray.empty x3 x34)).bind fun bt379 => (if bt379.2 = 0 then (if bt379.1 = x0 then ((trystref01_Text.f x34 x0).bind fun t382 => (if (rdOf ByteArray.empty x3 x34).toList = t382.toList then (trystlaw27_ShowBack.l0 k x0 x3 x33 (wrap64 (x34 + 1))) else (none))) else (none)) else (none))) else (none)) else (none)) else (some true)
end
noncomputable def trystlaw27_ShowBack.f (k : Nat) (a0 : Int) : Option (Bool) := (trystlaw27_awake.f).bind fun t372 => (if t372 = true then ((show_All.f k a0).bind fun bt373 => ((trystref01_In.f a0).bind fun t377 => (if t377 = true then (if bt373.2 = 0 then (trystlaw27_ShowBack.j0 k a0 bt373.1 ((bt373.1.length : Int) != 7)) else (trystlaw27_ShowBack.j0 k a0 bt373.1 true)) else (if bt373.2 = 2 then (some ((bt373.1.length : Int) == 0)) else (none))))) else (none))
noncomputable def trystlaw27_ShowBack.T12 : Bool × List (List Nat × List Nat) := (true, [([], []), ([0], [0]), ([1], [1]), ([2], [2]), ([2], [2]), ([3, 4, 2], [2, 3, 4]), ([2, 5], [2, 5]), ([6, 2], [6]), ([7], [7]), ([7], [7]), ([8, 9, 7], [7, 8, 9]), ([10, 7], [7, 10]), ([7], [7]), ([7], [7]), ([12, 13, 7, 7], [7, 12, 13]), ([11, 14, 7], [7, 11, 14]), ([7, 15], [7, 15])])
noncomputable def trystlaw27_ShowBack.B12 : List Nat := [0, 1, 3, 7, 7, 31, 63, 127, 255, 255, 1023, 2047, 255, 255, 12543, 32767, 65535]
theorem trystlaw27_ShowBack.tab12 : rtab .any (opsOf Tryz.f4 12) = trystlaw27_ShowBack.T12 := by kernel_rfl
theorem trystlaw27_ShowBack.bits12 : waitsOk trystlaw27_ShowBack.T12.2 trystlaw27_ShowBack.B12 = true := by kernel_rfl
set_option maxHeartbeats 8000000 in
set_option maxRecDepth 100000 in
theorem trystlaw27_ShowBack.calls (k : Nat) (a0 : Int) (r : Bool) (w : World) (h : trystlaw27_ShowBack.f k a0 = some r) (ht : ShowPs.Pre w) :
  Calls Tryz.prog 4 #[.int .i64 a0] w fun e w' => e = .returned (.bool r) ∧ Below w.heap.size w w' := by
 have TB_ := Aside0.mk ht
 clear ht
 have HB := Aside0.mk (Below.refl w.heap.size w)
 have H : ((trystlaw27_awake.f).bind fun t372 => (if t372 = true then ((show_All.f k a0).bind fun bt373 => ((trystref01_In.f a0).bind fun t377 => (if t377 = true then (if bt373.2 = 0 then (trystlaw27_ShowBack.j0 k a0 bt373.1 ((bt373.1.length : Int) != 7)) else (trystlaw27_ShowBack.j0 k a0 bt373.1 true)) else (if bt373.2 = 2 then (some ((bt373.1.length : Int) == 0)) else (none))))) else (none))) = some r := h
 clear h
 replace H := Option.bind_eq_some_iff.mp H
 obtain ⟨t372, A20, H⟩ := H
 replace H : (if t372 = true then ((show_All.f k a0).bind fun bt373 => ((trystref01_In.f a0).bind fun t377 => (if t377 = true then (if bt373.2 = 0 then (trystlaw27_ShowBack.j0 k a0 bt373.1 ((bt373.1.length : Int) != 7)) else (trystlaw27_ShowBack.j0 k a0 bt373.1 true)) else (if bt373.2 = 2 then (some ((bt373.1.length : Int) == 0)) else (none))))) else (none)) = some r := H
 have A2 := Aside0.mk A20
 clear A20
 by_cases c3 : t372 = true
 ·subst c3
  have H1 : ((show_All.f k a0).bind fun bt373 => ((trystref01_In.f a0).bind fun t377 => (if t377 = true then (if bt373.2 = 0 then (trystlaw27_ShowBack.j0 k a0 bt373.1 ((bt373.1.length : Int) != 7)) else (trystlaw27_ShowBack.j0 k a0 bt373.1 true)) else (if bt373.2 = 2 then (some ((bt373.1.length : Int) == 0)) else (none))))) = some r := by rw [if_pos rfl] at H; exact H
  clear H
  have H := H1
  clear H1
  replace H := Option.bind_eq_some_iff.mp H
  obtain ⟨⟨t373, t374⟩, A40, H⟩ := H
  replace H : ((trystref01_In.f a0).bind fun t377 => (if t377 = true then (if t374 = 0 then (trystlaw27_ShowBack.j0 k a0 t373 ((t373.length : Int) != 7)) else (trystlaw27_ShowBack.j0 k a0 t373 true)) else (if t374 = 2 then (some ((t373.length : Int) == 0)) else (none)))) = some r := H
  have A4 := Aside0.mk A40
  clear A40
  replace H := Option.bind_eq_some_iff.mp H
  obtain ⟨t377, A50, H⟩ := H
  replace H : (if t377 = true then (if t374 = 0 then (trystlaw27_ShowBack.j0 k a0 t373 ((t373.length : Int) != 7)) else (trystlaw27_ShowBack.j0 k a0 t373 true)) else (if t374 = 2 then (some ((t373.length : Int) == 0)) else (none))) = some r := H
  have A5 := Aside0.mk A50
  clear A50
  by_cases c6 : t377 = true
  ·subst c6
   have H1 : (if t374 = 0 then (trystlaw27_ShowBack.j0 k a0 t373 ((t373.length : Int) != 7)) else (trystlaw27_ShowBack.j0 k a0 t373 true)) = some r := by rw [if_pos rfl] at H; exact H
   clear H
   have H := H1
   clear H1
   have HC7 := Aside0.mk H
   clear H
   go_enter Tryz.func4, Tryz.ntmps4
   go_upto_region 6 with (first | ((with_reducible refine gate_callee (f := 5) rfl ?_); refine gm_ (some 8) Tryz.func5 #[] ?_; (with_reducible refine (trystlaw27_awake.calls  true _ A2.out (ShowPs.Pre.below TB_.out (by repeat (first | (with_reducible first | exact HB.out | apply below_alloc | apply pw_below_drewN | apply below_drew1 | apply below_drew) | exact HB.out)))).mono ?_); rintro e w8 ⟨rfl, hb⟩; refine ⟨_, rfl, ?_⟩; have n0_ := Aside0.mk (below_step (by repeat (first | (with_reducible first | exact HB.out | apply below_alloc | apply pw_below_drewN | apply below_drew1) | exact HB.out)) hb); clear HB; have HB := n0_; clear n0_; (try clear hb); (try clear hb2); (try clear hk); (try clear hi)) | ((with_reducible refine gate_callee (f := 9) rfl ?_); refine gm_ (some 12) Tryz.func9 #[.int .i64 a0] ?_; (with_reducible refine (show_All.calls k a0 t373 t374 _ A4.out (ShowPs.Pre.below TB_.out (by repeat (first | (with_reducible first | exact HB.out | apply below_alloc | apply pw_below_drewN | apply below_drew1 | apply below_drew) | exact HB.out)))).mono ?_); rintro e w9 ⟨v375, rfl, ho0, hb⟩; refine ⟨_, rfl, ?_⟩; have n0_ := Aside0.mk (Kd.R_lower ho0 (below_size (by repeat (first | (with_reducible first | exact HB.out | apply below_alloc | apply pw_below_drewN | apply below_drew1) | exact HB.out)))); have n1_ := Aside0.mk (below_step (by repeat (first | (with_reducible first | exact HB.out | apply below_alloc | apply pw_below_drewN | apply below_drew1) | exact HB.out)) hb); clear HB; have HO376 := n0_; have HB := n1_; clear n0_ n1_; (try clear hb); (try clear hb2); (try clear hk); (try clear hi); (try clear ho0)) | ((with_reducible refine gate_callee (f := 7) rfl ?_); refine gm_ (some 16) Tryz.func7 #[.int .i64 a0] ?_; (with_reducible refine (trystref01_In.calls a0 true _ A5.out).mono ?_); rintro e w' ⟨rfl, ⟨nd, rfl⟩⟩; refine ⟨_, rfl, ?_⟩))
   (try simp only [Act.put, List.setIfInBounds_toArray, List.set_cons_zero, List.set_cons_succ])
   go_cut [31] (fun v31 wc => ∃ (kq : Nat) (x31_6 : Bool), v31 = .bool x31_6 ∧ Aside0 (trystlaw27_ShowBack.j0 kq a0 t373 x31_6 = some r) ∧ Aside0 (kq ≤ k) ∧ Aside0 (Kd.R Kd.string 9 wc w.heap.size (fun _ => True) v375 t373) ∧ Aside0 (Below w.heap.size w wc))
   case first =>
    have H := HC7.out
    clear HC7
    by_cases c10 : t374 = 0
    ·rw [if_pos c10] at H
     have c10b0 : (t374 == 0) = true := beq_iff_eq.mpr c10
     have c10b1 : (t374 != 0) = false := bne_eq_false_iff_eq.mpr c10
     clear c10
     (first | rw [c10b0] | (simp only [i64_w, i32_w]; rw [c10b0]) | skip)
     have H' := Aside0.mk H
     clear H
     obtain ⟨Ao11, co11, eo11⟩ := Kd.R_slice HO376.out
     subst eo11
     go_wp2
     go_meet
     case rel => exact ⟨_, (((t373.length : Int) != 7)), (by first | rfl | (simp; done) | (simp [*]; done)), H', ⟨by first | omega | exact Nat.le_refl _⟩, ⟨by (with_reducible repeat (first | apply Kd.R_alloc | apply Kd.R_drewN | apply Kd.R_drew)); exact HO376.out⟩, ⟨by repeat (first | (with_reducible first | exact HB.out | apply below_alloc | apply pw_below_drewN | apply below_drew1) | exact HB.out)⟩⟩
    ·rw [if_neg c10] at H
     have c10b0 : (t374 == 0) = false := beq_eq_false_iff_ne.mpr c10
     have c10b1 : (t374 != 0) = true := bne_iff_ne.mpr c10
     (first | rw [c10b0] | (simp only [i64_w, i32_w]; rw [c10b0]) | skip)
     have H' := Aside0.mk H
     clear H
     go_wp2
     go_meet
     case rel => exact ⟨_, (true), (by first | rfl | (simp; done) | (simp [*]; done)), H', ⟨by first | omega | exact Nat.le_refl _⟩, ⟨by (with_reducible repeat (first | apply Kd.R_alloc | apply Kd.R_drewN | apply Kd.R_drew)); exact HO376.out⟩, ⟨by repeat (first | (with_reducible first | exact HB.out | apply below_alloc | apply pw_below_drewN | apply below_drew1) | exact HB.out)⟩⟩
   case rest =>
    clear HC7
    try clear c1
    try clear p2
    try clear c3
    try clear c4
    try clear c5
    try clear c6
    try clear c7
    try clear c9
    try clear c10
    try clear c10b0
    try clear c10b1
    obtain ⟨kq, x31_6, rfl, HA, HJ6, HO_3, HB⟩ := hcut
    cases kq with
    | zero => exact absurd HA.out (by simp [trystlaw27_ShowBack.j0])
    | succ kj6 =>
     have H := HA.out
     clear HA
     simp only [trystlaw27_ShowBack.j0] at H
     by_cases c12 : x31_6 = true
     ·subst c12
      have H1 : (none) = some r := by rw [if_pos rfl] at H; exact H
      exact absurd H1 (by simp)
     ·replace c12 := Bool.eq_false_iff.mpr c12
      subst c12
      have H1 : (trystlaw27_ShowBack.l0 kj6 a0 t373 (t373.length : Int) 0) = some r := by rw [if_neg (show ¬ (false = true) by decide)] at H; exact H
      clear H
      have H := H1
      clear H1
      have H' := Aside0.mk H
      clear H
      obtain ⟨Ao13, co13, eo13⟩ := Kd.R_slice HO_3.out
      subst eo13
      go_wp2
      go_loopg [34] kj6 (fun kq v34 w' => ∃ (x34_2 : Int), v34 = .int .i64 x34_2 ∧ Aside0 (trystlaw27_ShowBack.l0 kq a0 t373 (t373.length : Int) x34_2 = some r) ∧ Aside0 (kq ≤ kj6) ∧ Aside0 (Kd.R Kd.string 9 w' w.heap.size (fun _ => True) (.slice Ao13 t373.length co13) t373) ∧ Aside0 (Below w.heap.size w w'))
      case atStart => exact ⟨(0), (by first | rfl | (simp; done) | (simp [*]; done)), H', ⟨Nat.le_refl _⟩, ⟨by (with_reducible repeat (first | apply Kd.R_alloc | apply Kd.R_drewN | apply Kd.R_drew)); exact HO_3.out⟩, ⟨by repeat (first | (with_reducible first | exact HB.out | apply below_alloc | apply pw_below_drewN | apply below_drew1) | exact HB.out)⟩⟩
      case round =>
       clear H'
       try clear c1
       try clear p2
       try clear c3
       try clear c4
       try clear c5
       try clear c6
       try clear c7
       try clear c9
       try clear c10
       try clear c10b0
       try clear c10b1
       try clear c12
       try clear p2
       obtain ⟨x34_2, rfl, HA, HK2, HO_3, HB⟩ := hrel
       cases gk with
       | zero => exact absurd HA.out (by simp [trystlaw27_ShowBack.l0])
       | succ k2 =>
        have H := HA.out
        clear HA
        simp only [trystlaw27_ShowBack.l0] at H
        by_cases c14 : x34_2 < (t373.length : Int)
        ·rw [if_pos c14] at H
         have c14b0 : decide (x34_2 < (t373.length : Int)) = true := decide_eq_true c14
         clear c14
         by_cases c15 : 0 ≤ x34_2
         ·rw [if_pos c15] at H
          have c15b0 : decide (0 ≤ x34_2) = true := decide_eq_true c15
          clear c15
          by_cases c16 : x34_2 < (t373.length : Int)
          ·rw [if_pos c16] at H
           have c16b0 : decide (x34_2 < (t373.length : Int)) = true := decide_eq_true c16
           clear c16
           replace H := Option.bind_eq_some_iff.mp H
           obtain ⟨⟨t379, t380⟩, A170, H⟩ := H
           replace H : (if t380 = 0 then (if t379 = a0 then ((trystref01_Text.f x34_2 a0).bind fun t382 => (if (rdOf ByteArray.empty t373 x34_2).toList = t382.toList then (trystlaw27_ShowBack.l0 k2 a0 t373 (t373.length : Int) (wrap64 (x34_2 + 1))) else (none))) else (none)) else (none)) = some r := H
           have A17 := Aside0.mk A170
           clear A170
           by_cases c18 : t380 = 0
           ·rw [if_pos c18] at H
            have c18b0 : (t380 == 0) = true := beq_iff_eq.mpr c18
            have c18b1 : (t380 != 0) = false := bne_eq_false_iff_eq.mpr c18
            clear c18
            by_cases c19 : t379 = a0
            ·rw [if_pos c19] at H
             have c19b0 : (t379 == a0) = true := beq_iff_eq.mpr c19
             have c19b1 : (t379 != a0) = false := bne_eq_false_iff_eq.mpr c19
             clear c19
             replace H := Option.bind_eq_some_iff.mp H
             obtain ⟨t382, A200, H⟩ := H
             replace H : (if (rdOf ByteArray.empty t373 x34_2).toList = t382.toList then (trystlaw27_ShowBack.l0 k2 a0 t373 (t373.length : Int) (wrap64 (x34_2 + 1))) else (none)) = some r := H
             have A20 := Aside0.mk A200
             clear A200
             by_cases c21 : (rdOf ByteArray.empty t373 x34_2).toList = t382.toList
             ·rw [if_pos c21] at H
              have c21b0 : ((rdOf ByteArray.empty t373 x34_2).toList == t382.toList) = true := beq_iff_eq.mpr c21
              have c21b1 : ((rdOf ByteArray.empty t373 x34_2).toList != t382.toList) = false := bne_eq_false_iff_eq.mpr c21
              clear c21
              have H' := Aside0.mk H
              clear H
              have p378 : 0 ≤ (x34_2 : Int) := of_decide_eq_true (by first | (with_reducible assumption) | assumption)
              have q378 : x34_2 < (t373.length : Int) := of_decide_eq_true (by first | (with_reducible assumption) | assumption)
              obtain ⟨ad378, e378, hx378_0⟩ := Kd.at_string (Kd.R_reads' HO_3.out).2.2 x34_2 p378 q378
              cases e378
              replace p378 := eq_true p378
              replace q378 := eq_true q378
              try go_wp2_with (first | ((with_reducible refine gate_callee (f := 6) rfl ?_); refine gm_ (some 43) Tryz.func6 #[.int .i64 x34_2, .string (rdOf ByteArray.empty t373 x34_2)] ?_; (with_reducible refine (show_Parse.calls x34_2 (rdOf ByteArray.empty t373 x34_2) t379 t380 _ A17.out (ShowPs.Pre.below TB_.out (by repeat (first | (with_reducible first | exact HB.out | apply below_alloc | apply pw_below_drewN | apply below_drew1 | apply below_drew) | exact HB.out)))).mono ?_); rintro e w22 ⟨rfl, hb⟩; refine ⟨_, rfl, ?_⟩; have n0_ := Aside0.mk (Kd.R_below (by (with_reducible repeat (first | apply Kd.R_alloc | apply Kd.R_drewN | apply Kd.R_drew)); exact HO_3.out) hb); have n1_ := Aside0.mk (below_step (by repeat (first | (with_reducible first | exact HB.out | apply below_alloc | apply pw_below_drewN | apply below_drew1) | exact HB.out)) hb); clear HO_3; clear HB; have HO_3 := n0_; have HB := n1_; clear n0_ n1_; (try clear hb); (try clear hb2); (try clear hk); (try clear hi)))
              have n0_ := Aside0.mk (Kd.R_drew HO_3.out)
              have n1_ := Aside0.mk (below_drew1 HB.out)
              clear HO_3
              clear HB
              have HO_3 := n0_
              have HB := n1_
              clear n0_ n1_
              have p381 : 0 ≤ (x34_2 : Int) := of_decide_eq_true (by first | (with_reducible assumption) | assumption)
              have q381 : x34_2 < (t373.length : Int) := of_decide_eq_true (by first | (with_reducible assumption) | assumption)
              obtain ⟨ad381, e381, hx381_0⟩ := Kd.at_string (Kd.R_reads' HO_3.out).2.2 x34_2 p381 q381
              obtain rfl : ad378 = ad381 := (by injection e381)
              replace p381 := eq_true p381
              replace q381 := eq_true q381
              refine start_ (n := 17) (S := fun w' => w'.cell? (ad378.add (x34_2).toNat) = some (.string (rdOf ByteArray.empty t373 x34_2))) (ds := []) #[false, false, false, false, false, false, false, false, false, false, false, false, false, false, false, false, false] (by kernel_rfl) rfl rfl (hx381_0) (fun hHeld => ?_); refine with_tabW trystlaw27_ShowBack.tab12 trystlaw27_ShowBack.bits12 (fun HT_ HW_ => ?_)
              generalize w22.drew = w23 at HO_3 HB hx381_0 hHeld ⊢
              refine pure_ (i := 0) (N := some 46) (v := ?_) (a' := ?_) #[true, false, false, false, false, false, false, false, false, false, false, false, false, false, false, false, false] rfl rfl (any_of HT_.out (by kernel_rfl)) (fun _ _ _ h => h) (Or.inl ⟨by rfl, ?_⟩) ?_ ?_
              rotate_left
              ·intro w'
               go_simp
               with_reducible rfl
              rotate_left
              ·simp only [Act.put, sA, sB, sC, i64_w, i32_w]
               rfl
              refine pure_ (i := 1) (N := some 47) (v := ?_) (a' := ?_) #[true, true, false, false, false, false, false, false, false, false, false, false, false, false, false, false, false] rfl rfl (any_of HT_.out (by kernel_rfl)) (fun _ _ _ h => h) (Or.inl ⟨by rfl, ?_⟩) ?_ ?_
              rotate_left
              ·intro w'
               go_simp
               with_reducible rfl
              rotate_left
              ·simp only [Act.put, sA, sB, sC, i64_w, i32_w]
               rfl
              refine pure_ (i := 2) (N := some 48) (v := ?_) (a' := ?_) #[true, true, true, false, false, false, false, false, false, false, false, false, false, false, false, false, false] rfl rfl (any_of HT_.out (by kernel_rfl)) (fun _ _ _ h => h) (Or.inl ⟨by rfl, ?_⟩) ?_ ?_
              rotate_left
              ·intro w'
               go_simp
               with_reducible rfl
              rotate_left
              ·simp only [Act.put, sA, sB, sC, i64_w, i32_w]
               rfl
              refine pure_ (i := 3) (N := some 49) (v := ?_) (a' := ?_) #[true, true, true, true, false, false, false, false, false, false, false, false, false, false, false, false, false] rfl rfl (any_of HT_.out (by kernel_rfl)) (fun _ _ _ h => h) (Or.inl ⟨by rfl, ?_⟩) ?_ ?_
              rotate_left
              ·intro w'
               go_simp
               with_reducible rfl
              rotate_left
              ·simp only [Act.put, sA, sB, sC, i64_w, i32_w]
               rfl
              refine pure_ (i := 4) (N := some 50) (v := ?_) (a' := ?_) #[true, true, true, true, true, false, false, false, false, false, false, false, false, false, false, false, false] rfl rfl (any_of HT_.out (by kernel_rfl)) (fun _ _ _ h => h) (Or.inl ⟨by rfl, ?_⟩) ?_ ?_
              rotate_left
              ·intro w'
               go_simp
               with_reducible rfl
              rotate_left
              ·simp only [Act.put, sA, sB, sC, i64_w, i32_w]
               rfl
              refine pure_ (i := 5) (N := some 51) (v := ?_) (a' := ?_) #[true, true, true, true, true, true, false, false, false, false, false, false, false, false, false, false, false] rfl rfl (any_of HT_.out (by kernel_rfl)) (fun _ _ _ h => h) (Or.inl ⟨by rfl, ?_⟩) ?_ ?_
              rotate_left
              ·intro w'
               go_simp
               with_reducible rfl
              rotate_left
              ·simp only [Act.put, sA, sB, sC, i64_w, i32_w]
               rfl
              refine pure_ (i := 6) (N := some 52) (v := ?_) (a' := ?_) #[true, true, true, true, true, true, true, false, false, false, false, false, false, false, false, false, false] rfl rfl (any_of HT_.out (by kernel_rfl)) (fun _ _ _ h => h) (Or.inl ⟨by rfl, ?_⟩) ?_ ?_
              rotate_left
              ·intro w'
               go_simp
               with_reducible rfl
              rotate_left
              ·simp only [Act.put, sA, sB, sC, i64_w, i32_w]
               rfl
              refine pure_ (i := 7) (N := some 53) (v := ?_) (a' := ?_) #[true, true, true, true, true, true, true, true, false, false, false, false, false, false, false, false, false] rfl rfl (any_of HT_.out (by kernel_rfl)) (fun _ _ _ h => h) (Or.inl ⟨by rfl, ?_⟩) ?_ ?_
              rotate_left
              ·intro w'
               go_simp
               with_reducible rfl
              rotate_left
              ·simp only [Act.put, sA, sB, sC, i64_w, i32_w]
               rfl
              refine pure_ (i := 8) (N := some 54) (v := ?_) (a' := ?_) #[true, true, true, true, true, true, true, true, true, false, false, false, false, false, false, false, false] rfl rfl (any_of HT_.out (by kernel_rfl)) (fun _ _ _ h => h) (Or.inl ⟨by rfl, ?_⟩) ?_ ?_
              rotate_left
              ·intro w'
               go_simp
               with_reducible rfl
              rotate_left
              ·simp only [Act.put, sA, sB, sC, i64_w, i32_w]
               rfl
              refine pure_ (i := 9) (N := some 55) (v := ?_) (a' := ?_) #[true, true, true, true, true, true, true, true, true, true, false, false, false, false, false, false, false] rfl rfl (any_of HT_.out (by kernel_rfl)) (fun _ _ _ h => h) (Or.inl ⟨by rfl, ?_⟩) ?_ ?_
              rotate_left
              ·intro w'
               go_simp
               with_reducible rfl
              rotate_left
              ·simp only [Act.put, sA, sB, sC, i64_w, i32_w]
               rfl
              refine pure_ (i := 10) (N := some 56) (v := ?_) (a' := ?_) #[true, true, true, true, true, true, true, true, true, true, true, false, false, false, false, false, false] rfl rfl (any_of HT_.out (by kernel_rfl)) (fun _ _ _ h => h) (Or.inl ⟨by rfl, ?_⟩) ?_ ?_
              rotate_left
              ·intro w'
               go_simp
               with_reducible rfl
              rotate_left
              ·simp only [Act.put, sA, sB, sC, i64_w, i32_w]
               rfl
              refine pure_ (i := 12) (N := some 58) (v := ?_) (a' := ?_) #[true, true, true, true, true, true, true, true, true, true, true, false, true, false, false, false, false] rfl rfl (any_of HT_.out (by kernel_rfl)) (fun _ _ _ h => h) (Or.inl ⟨by rfl, ?_⟩) ?_ ?_
              rotate_left
              ·intro w'
               go_simp
               with_reducible rfl
              rotate_left
              ·simp only [Act.put, sA, sB, sC, i64_w, i32_w]
               rfl
              refine pure_ (i := 13) (N := some 59) (v := ?_) (a' := ?_) #[true, true, true, true, true, true, true, true, true, true, true, false, true, true, false, false, false] rfl rfl (any_of HT_.out (by kernel_rfl)) (fun _ _ _ h => h) (Or.inl ⟨by rfl, ?_⟩) ?_ ?_
              rotate_left
              ·intro w'
               go_simp
               with_reducible rfl
              rotate_left
              ·simp only [Act.put, sA, sB, sC, i64_w, i32_w]
               rfl
              refine take_ (i := 11) (N := some 57) (v := ?_) (a' := ?_) #[true, true, true, true, true, true, true, true, true, true, true, true, true, true, false, false, false] rfl rfl (take_ofW HT_.out HW_.out (by kernel_rfl)) (fun _ _ _ h => h) (Or.inl ⟨by rfl, ?_⟩) hHeld ?_ ?_
              rotate_left
              ·intro w' s0
               go_simp
               with_reducible rfl
              rotate_left
              ·simp only [Act.put, sA, sB, sC, i64_w, i32_w]
               rfl
              refine one_ (i := 14) (N := some 60) #[true, true, true, true, true, true, true, true, true, true, true, true, true, true, true, false, false] rfl rfl (one_of HT_.out (by kernel_rfl)) (by decide) (fun K hK => ?_)
              refine goes_ Tryz.func8 (by kernel_rfl) rfl #[.int .i64 x34_2, .int .i64 a0] (by rfl) rfl rfl (by (try simp only [mA, mB, mC]); first | done | rfl) ?_
              with_reducible refine (trystref01_Text.calls x34_2 a0 t382 _ A20.out).mono ?_
              rintro e w24 ⟨rfl, hb⟩
              have HS0_ := (hb.cell (World.block_lt_of_cell? _ _ (hHeld))).trans (hHeld)
              refine ⟨_, rfl, ?_⟩
              have n0_ := Aside0.mk (Kd.R_below (by (with_reducible repeat (first | apply Kd.R_alloc | apply Kd.R_drewN | apply Kd.R_drew)); exact HO_3.out) hb)
              have n1_ := Aside0.mk (below_step (by repeat (first | (with_reducible first | exact HB.out | apply below_alloc | apply pw_below_drewN | apply below_drew1) | exact HB.out)) hb)
              clear HO_3
              clear HB
              have HO_3 := n0_
              have HB := n1_
              clear n0_ n1_
              (try clear hb)
              (try clear hb2)
              (try clear hk)
              (try clear hi)
              refine hK.out _ _ (HS0_) (fun hHeld => ?_)
              clear hK K
              refine norm_ (a' := ?_) ?_ ?_
              rotate_left
              ·show Act.put _ (some 60) _ = _
               simp only [Act.put, sA, sB, sC, i64_w, i32_w]
               rfl
              refine pure_ (i := 15) (N := some 61) (v := ?_) (a' := ?_) #[true, true, true, true, true, true, true, true, true, true, true, true, true, true, true, true, false] rfl rfl (any_of HT_.out (by kernel_rfl)) (fun _ _ _ h => h) (Or.inl ⟨by rfl, ?_⟩) ?_ ?_
              rotate_left
              ·intro w'
               go_simp
               with_reducible rfl
              rotate_left
              ·simp only [Act.put, sA, sB, sC, i64_w, i32_w]
               rfl
              refine pure_ (i := 16) (N := some 62) (v := ?_) (a' := ?_) #[true, true, true, true, true, true, true, true, true, true, true, true, true, true, true, true, true] rfl rfl (any_of HT_.out (by kernel_rfl)) (fun _ _ _ h => h) (Or.inl ⟨by rfl, ?_⟩) ?_ ?_
              rotate_left
              ·intro w'
               go_simp
               with_reducible rfl
              rotate_left
              ·simp only [Act.put, sA, sB, sC, i64_w, i32_w]
               rfl
              refine done_ (done_of HT_.out (by kernel_rfl)) ?_
              try go_wp2
              go_roundg k2
              case measure => have := HJ6.out; have := HK2.out; omega
              case rel => exact ⟨(wrap64 (x34_2 + 1)), (by first | rfl | (simp; done) | (simp [*]; done)), H', ⟨by have := HJ6.out; have := HK2.out; omega⟩, ⟨by (with_reducible repeat (first | apply Kd.R_alloc | apply Kd.R_drewN | apply Kd.R_drew)); exact HO_3.out⟩, ⟨by repeat (first | (with_reducible first | exact HB.out | apply below_alloc | apply pw_below_drewN | apply below_drew1) | exact HB.out)⟩⟩
             ·rw [if_neg c21] at H
              exact absurd H (by simp)
            ·rw [if_neg c19] at H
             exact absurd H (by simp)
           ·rw [if_neg c18] at H
            exact absurd H (by simp)
          ·rw [if_neg c16] at H
           exact absurd H (by simp)
         ·rw [if_neg c15] at H
          exact absurd H (by simp)
        ·rw [if_neg c14] at H
         have c14b0 : decide (x34_2 < (t373.length : Int)) = false := decide_eq_false c14
         clear c14
         obtain rfl := Option.some.inj H
         go_wp2
         go_ret
         exact ⟨by first | rfl | (simp [*, errW_none, errW_some] <;> rfl), by repeat (first | (with_reducible first | exact HB.out | apply below_alloc | apply pw_below_drewN | apply below_drew1) | exact HB.out)⟩
  ·replace c6 := Bool.eq_false_iff.mpr c6
   subst c6
   have H1 : (if t374 = 2 then (some ((t373.length : Int) == 0)) else (none)) = some r := by rw [if_neg (show ¬ (false = true) by decide)] at H; exact H
   clear H
   have H := H1
   clear H1
   by_cases c32 : t374 = 2
   ·rw [if_pos c32] at H
    have c32b0 : (t374 == 2) = true := beq_iff_eq.mpr c32
    have c32b1 : (t374 != 2) = false := bne_eq_false_iff_eq.mpr c32
    clear c32
    obtain rfl := Option.some.inj H
    go_enter Tryz.func4, Tryz.ntmps4
    go_wp2_with (first | ((with_reducible refine gate_callee (f := 5) rfl ?_); refine gm_ (some 8) Tryz.func5 #[] ?_; (with_reducible refine (trystlaw27_awake.calls  true _ A2.out (ShowPs.Pre.below TB_.out (by repeat (first | (with_reducible first | exact HB.out | apply below_alloc | apply pw_below_drewN | apply below_drew1 | apply below_drew) | exact HB.out)))).mono ?_); rintro e w33 ⟨rfl, hb⟩; refine ⟨_, rfl, ?_⟩; have n0_ := Aside0.mk (below_step (by repeat (first | (with_reducible first | exact HB.out | apply below_alloc | apply pw_below_drewN | apply below_drew1) | exact HB.out)) hb); clear HB; have HB := n0_; clear n0_; (try clear hb); (try clear hb2); (try clear hk); (try clear hi)) | ((with_reducible refine gate_callee (f := 9) rfl ?_); refine gm_ (some 12) Tryz.func9 #[.int .i64 a0] ?_; (with_reducible refine (show_All.calls k a0 t373 t374 _ A4.out (ShowPs.Pre.below TB_.out (by repeat (first | (with_reducible first | exact HB.out | apply below_alloc | apply pw_below_drewN | apply below_drew1 | apply below_drew) | exact HB.out)))).mono ?_); rintro e w34 ⟨v375, rfl, ho0, hb⟩; refine ⟨_, rfl, ?_⟩; have n0_ := Aside0.mk (Kd.R_lower ho0 (below_size (by repeat (first | (with_reducible first | exact HB.out | apply below_alloc | apply pw_below_drewN | apply below_drew1) | exact HB.out)))); have n1_ := Aside0.mk (below_step (by repeat (first | (with_reducible first | exact HB.out | apply below_alloc | apply pw_below_drewN | apply below_drew1) | exact HB.out)) hb); clear HB; have HO376 := n0_; have HB := n1_; clear n0_ n1_; (try clear hb); (try clear hb2); (try clear hk); (try clear hi); (try clear ho0)) | ((with_reducible refine gate_callee (f := 7) rfl ?_); refine gm_ (some 16) Tryz.func7 #[.int .i64 a0] ?_; (with_reducible refine (trystref01_In.calls a0 false _ A5.out).mono ?_); rintro e w' ⟨rfl, ⟨nd, rfl⟩⟩; refine ⟨_, rfl, ?_⟩; obtain ⟨Ao35, co35, eo35⟩ := Kd.R_slice HO376.out; subst eo35))
    go_ret
    exact ⟨by first | rfl | (simp [*, errW_none, errW_some] <;> rfl), by repeat (first | (with_reducible first | exact HB.out | apply below_alloc | apply pw_below_drewN | apply below_drew1) | exact HB.out)⟩
   ·rw [if_neg c32] at H
    exact absurd H (by simp)
 ·replace c3 := Bool.eq_false_iff.mpr c3
  subst c3
  have H1 : (none) = some r := by rw [if_neg (show ¬ (false = true) by decide)] at H; exact H
  exact absurd H1 (by simp)

end Go.Proofs.YtgbbgcepcnklkaaGreatDoor.L
/- What is shown of a day is read as that day, in each calendar; all calendars' texts are those of each. -/
namespace Go.Proofs.YtgbbgcepcnklkaaGreatDoor.Pure
open Go.RowKit Go.Proofs.YtgbbgcepcnklkaaGreatDoorW.PrintWords Go.Proofs.YtgbbgcepcnklkaaGreatDoorW.PrintLast Go.Proofs.YtgbbgcepcnklkaaGreatDoor.L Go.Proofs.YtgbbgcepcnklkaaGreatDoor.Cal
set_option linter.unusedVariables false
set_option linter.unusedSimpArgs false
namespace ShowBackW
theorem inYes {n : Int} (h : FunA.In n) : trystref01_In.f n = some true := by
 unfold trystref01_In.f Go.Proofs.YtgbbgcepcnklkaaGreatDoor.Q.trystref01_In.f
 obtain ⟨h1, h2⟩ := h
 rw [if_pos (by omega)]
 exact congrArg some (decide_eq_true (by omega))
theorem inNo {n : Int} (h : ¬ FunA.In n) : trystref01_In.f n = some false := by
 unfold trystref01_In.f Go.Proofs.YtgbbgcepcnklkaaGreatDoor.Q.trystref01_In.f
 by_cases q : n ≥ 1
 ·rw [if_pos q]
  exact congrArg some (decide_eq_false (fun z => h ⟨q, z⟩))
 ·rw [if_neg q]
/-- A day's text in a calendar. -/
theorem text (c a : Int) (hc : 0 ≤ c) (hc' : c ≤ 6) (ha : FunA.In a) : ∃ s, show_Text.f c a = some (s, 0) ∧ trystref01_Text.f c a = some s ∧ show_Parse.f c s = some (a, 0) := by
 obtain ⟨s, h1, h2, h3⟩ := ShowPf.pf_back c a hc hc' ha
 obtain ⟨y, m, d, hR, _⟩ := FunBk.there c a hc hc' ha
 refine ⟨s, ?_, h1, h3⟩
 show ShowTx2.text c a = some (s, 0)
 unfold ShowTx2.text
 rw [if_pos ⟨hc, hc'⟩, h1, hR]
 rfl
theorem textNo (a : Int) (ha : ¬ FunA.In a) : ∃ s, show_Text.f 0 a = some (s, 2) := by
 have hR := FunD.fDate_no FunZ.K 0 a ha
 refine ⟨⟨#[]⟩, ?_⟩
 show ShowTx2.text 0 a = _
 unfold ShowTx2.text
 rw [if_pos (by omega), ShowTx.refNo 0 a 0 0 0 hR, hR]
 rfl
theorem st (k : Nat) (a c c1 : Int) (e : c + 1 = c1) (l : List ByteArray) (s : ByteArray) (hc : 0 ≤ c) (hc' : c ≤ 6) (hs : show_Text.f c a = some (s, 0)) (hl : l.length ≤ 10) : show_All.l0 (k + 1) a l c = show_All.l0 k a (l ++ [s]) c1 := by
 subst e
 rw [show_All.l0, if_pos (by omega), hs, Option.bind_some, if_pos rfl, if_pos (by omega), w64 (by omega) (by omega)]
theorem chk (k : Nat) (a c c1 : Int) (e : c + 1 = c1) (l : List ByteArray) (s : ByteArray) (hc : 0 ≤ c) (hc' : c ≤ 6) (hl : (l.length : Int) = 7) (hr : rdOf ByteArray.empty l c = s) (h2 : trystref01_Text.f c a = some s) (h3 : show_Parse.f c s = some (a, 0)) :
  trystlaw27_ShowBack.l0 (k + 1) a l 7 c = trystlaw27_ShowBack.l0 k a l 7 c1 := by
 subst e
 rw [trystlaw27_ShowBack.l0, if_pos (by omega), if_pos (by omega), if_pos (by omega), hr, h3, Option.bind_some, if_pos rfl, if_pos rfl, h2, Option.bind_some, if_pos rfl, w64 (by omega) (by omega)]
theorem endA (k : Nat) (a : Int) (l : List ByteArray) : show_All.l0 (k + 1) a l 7 = some (l, 0) := by
 rw [show_All.l0, if_neg (by omega)]
theorem endB (k : Nat) (a : Int) (l : List ByteArray) : trystlaw27_ShowBack.l0 (k + 1) a l 7 7 = some true := by
 rw [trystlaw27_ShowBack.l0, if_neg (by omega)]
theorem all (a : Int) : trystlaw27_ShowBack.f 30 a = some true := by
 unfold trystlaw27_ShowBack.f
 have aw : trystlaw27_awake.f = some true := rfl
 rw [aw, Option.bind_some, if_pos rfl]
 by_cases ha : FunA.In a
 ·obtain ⟨s0, t0, r0, p0⟩ := text 0 a (by omega) (by omega) ha
  obtain ⟨s1, t1, r1, p1⟩ := text 1 a (by omega) (by omega) ha
  obtain ⟨s2, t2, r2, p2⟩ := text 2 a (by omega) (by omega) ha
  obtain ⟨s3, t3, r3, p3⟩ := text 3 a (by omega) (by omega) ha
  obtain ⟨s4, t4, r4, p4⟩ := text 4 a (by omega) (by omega) ha
  obtain ⟨s5, t5, r5, p5⟩ := text 5 a (by omega) (by omega) ha
  obtain ⟨s6, t6, r6, p6⟩ := text 6 a (by omega) (by omega) ha
  have hA : show_All.f 30 a = some ([s0, s1, s2, s3, s4, s5, s6], 0) := by
   unfold show_All.f
   exact (st 29 a 0 1 rfl [] s0 (by omega) (by omega) t0 (by simp)).trans <| (st 28 a 1 2 rfl [s0] s1 (by omega) (by omega) t1 (by simp)).trans <| (st 27 a 2 3 rfl [s0, s1] s2 (by omega) (by omega) t2 (by simp)).trans <| (st 26 a 3 4 rfl [s0, s1, s2] s3 (by omega) (by omega) t3 (by simp)).trans <| (st 25 a 4 5 rfl [s0, s1, s2, s3] s4 (by omega) (by omega) t4 (by simp)).trans <| (st 24 a 5 6 rfl [s0, s1, s2, s3, s4] s5 (by omega) (by omega) t5 (by simp)).trans <| (st 23 a 6 7 rfl [s0, s1, s2, s3, s4, s5] s6 (by omega) (by omega) t6 (by simp)).trans <| endA 22 a [s0, s1, s2, s3, s4, s5, s6]
  rw [hA, Option.bind_some, inYes ha, Option.bind_some, if_pos rfl, if_pos rfl, show (30 : Nat) = 29 + 1 from rfl, trystlaw27_ShowBack.j0]
  rw [if_neg (by simp)]
  have e7 : (([s0, s1, s2, s3, s4, s5, s6] : List ByteArray).length : Int) = 7 := rfl
  show trystlaw27_ShowBack.l0 29 a [s0, s1, s2, s3, s4, s5, s6] 7 0 = some true
  exact (chk 28 a 0 1 rfl [s0, s1, s2, s3, s4, s5, s6] s0 (by omega) (by omega) e7 rfl r0 p0).trans <| (chk 27 a 1 2 rfl [s0, s1, s2, s3, s4, s5, s6] s1 (by omega) (by omega) e7 rfl r1 p1).trans <| (chk 26 a 2 3 rfl [s0, s1, s2, s3, s4, s5, s6] s2 (by omega) (by omega) e7 rfl r2 p2).trans <| (chk 25 a 3 4 rfl [s0, s1, s2, s3, s4, s5, s6] s3 (by omega) (by omega) e7 rfl r3 p3).trans <| (chk 24 a 4 5 rfl [s0, s1, s2, s3, s4, s5, s6] s4 (by omega) (by omega) e7 rfl r4 p4).trans <| (chk 23 a 5 6 rfl [s0, s1, s2, s3, s4, s5, s6] s5 (by omega) (by omega) e7 rfl r5 p5).trans <| (chk 22 a 6 7 rfl [s0, s1, s2, s3, s4, s5, s6] s6 (by omega) (by omega) e7 rfl r6 p6).trans <| endB 21 a [s0, s1, s2, s3, s4, s5, s6]
 ·obtain ⟨s, hs⟩ := textNo a ha
  have hA : show_All.f 30 a = some ([], 2) := by
   unfold show_All.f
   rw [show_All.l0, if_pos (by omega), hs, Option.bind_some, if_neg (by simp)]
  rw [hA, Option.bind_some, inNo ha, Option.bind_some, if_neg (by simp), if_pos rfl]
  rfl
end ShowBackW
theorem ShowBack_calls (a : Int) (w : World) (hp : ShowPs.Pre w) : Calls Tryz.prog 4 #[.int .i64 a] w fun e w' => e = .returned (.bool true) ∧ Below w.heap.size w w' :=
 trystlaw27_ShowBack.calls 30 a true w (ShowBackW.all a) hp
end Go.Proofs.YtgbbgcepcnklkaaGreatDoor.Pure
/- From a contract to the lifted claim: a condition on the world besides, and the world's shape for whoever reads a variable of the library's own. -/
namespace Go.Proofs.YtgbbgcepcnklkaaGreatDoor.ShapeRow
variable {H : Type} {enc : TypeId × Value → H}
theorem wrap {a : Assume} {C : Checked} {os : Os} {f : FuncId} {fn : Func} {s : ChangeSpec} {conds : List PathCond} {apart fresh handsOn again : Bool} {X : World → Array Value → Prop}
  (hX : ∀ (w w' : World) (args : Array Value), w.heap = w'.heap → X w args → X w' args)
  (own : ownKnob C.prog.godebug = none) (started : os.Started) (noInit : C.prog.inits.idxOf? f = none) (hfn : C.prog.funcs[f]? = some fn)
  (witness : ∃ (w : World) (tape : Tape) (i : Input), w.os = os ∧ (w.forCall tape i).Shaped C.prog ∧ i.vars = [] ∧ Input.okWide C.prog (w.forCall tape i) .any w.heap.size f i ∧
   ((s.pre enc C.prog fn conds apart (w.forCall tape i).memory i.args ∧ X (w.forCall tape i).memory i.args) ∧ sizedMet enc C.prog fn (OpenSpec.ofChange s) apart (w.forCall tape i).memory i.args) ∧ a.holds C.prog (lone (Frame.enter C.prog f i.args .normal) [] (w.forCall tape i)))
  (contract : ∀ (W : World) (base : Nat) (args : Array Value) (ds gs : List (DataW H)) (before : List MemPlace),
   (∀ (j : Nat) t v, fn.params[j]? = some t → args[j]? = some v → Value.okWide C.prog W .any base t v) →
   DataW.Whole enc C.prog fn.params.toList s.vars apart W args.toList ds gs before → X W args → W.ShapedOpen C.prog →
   Calls C.prog f args W fun e W' => ∃ v, e = .returned v ∧ s.post enc C.prog fn apart fresh handsOn again W args v W') :
  ReturnsInHanded a C os f .any (fun w args => (s.pre enc C.prog fn conds apart w args ∧ X w args) ∧ sizedMet enc C.prog fn (OpenSpec.ofChange s) apart w args) (s.post enc C.prog fn apart fresh handsOn again) := by
 refine returnsInHanded_of_calls own started noInit witness ?_
 intro w tape i _ hsh _ hok hpre _
 obtain ⟨_, _, _, fn', hfn', _, _, _, _, hval⟩ := hok
 have e : fn' = fn := Option.some.inj (hfn'.symm.trans hfn)
 subst e
 obtain ⟨⟨⟨ds, gs, before, hw, _⟩, hx⟩, _⟩ := hpre
 refine (contract (w.forCall tape i) w.heap.size i.args ds gs before hval (DataW.Whole.of_heap (w' := w.forCall tape i) (by rfl) hw) (hX _ _ _ (by rfl) hx) hsh).mono fun e W' ⟨v, he, hp⟩ => ?_
 subst he
 exact ChangeSpec.post_blind hp
end Go.Proofs.YtgbbgcepcnklkaaGreatDoor.ShapeRow
