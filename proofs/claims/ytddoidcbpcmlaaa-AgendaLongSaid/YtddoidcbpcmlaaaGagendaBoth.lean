-- written by a program of this session (wip/own_print.sh)
import Derived.Test.YtddoidcbpcmlaaaG0
import Derived.Test.YtddoidcbpcmlaaaGagendaNeat
namespace Go.Proofs.Ytddoidcbpcmlaaa.G
open Go.RowKit Go.Proofs.YtddoidcbpcmlaaaW.PrintWords Go.Proofs.YtddoidcbpcmlaaaW.PrintLast Go.Proofs.YtddoidcbpcmlaaaW.PrintMore
attribute [local go_sem] max2_int min2_int max_two min_two max_three min_three max_four min_four   -- for this text's walks alone
set_option linter.unusedVariables false
set_option linter.unusedSimpArgs false

/-! ### agenda_Both: function 27 -/
mutual
def agenda_Both.l0 : Nat → List (S67) → List (S67) → List (S67) → Option ((List (S67)))
  | 0, _, _, _ => none
  | k + 1, x0, x1, x5 => if (x0.length : Int) > 0 then (agenda_Both.j1 k x0 x1 x5 (decide ((x1.length : Int) > 0))) else (agenda_Both.j1 k x0 x1 x5 false)
def agenda_Both.j1 : Nat → List (S67) → List (S67) → List (S67) → Bool → Option ((List (S67)))
  | 0, _, _, _, _ => none
  | k + 1, x0, x1, x5, x18 => if x18 = true then (if 0 < (x0.length : Int) then (if 0 < (x1.length : Int) then (if (mx ((rd_T67 x0 0).f0) ((rd_T67 x1 0).f0)) < (mn ((rd_T67 x0 0).f1) ((rd_T67 x1 0).f1)) then (if x5.length < 8796093022208 then ((some (x5 ++ [(⟨mx ((rd_T67 x0 0).f0) ((rd_T67 x1 0).f0), mn ((rd_T67 x0 0).f1) ((rd_T67 x1 0).f1)⟩ : S67)] : List (S67))).bind fun y187 => (if ((rd_T67 x0 0).f1) < ((rd_T67 x1 0).f1) then (if 1 ≤ (x0.length : Int) then (agenda_Both.l0 k (x0.drop (1 : Int).toNat) x1 y187) else (none)) else (if 1 ≤ (x1.length : Int) then (agenda_Both.l0 k x0 (x1.drop (1 : Int).toNat) y187) else (none)))) else (none)) else (if ((rd_T67 x0 0).f1) < ((rd_T67 x1 0).f1) then (if 1 ≤ (x0.length : Int) then (agenda_Both.l0 k (x0.drop (1 : Int).toNat) x1 x5) else (none)) else (if 1 ≤ (x1.length : Int) then (agenda_Both.l0 k x0 (x1.drop (1 : Int).toNat) x5) else (none)))) else (none)) else (none)) else (some x5)
end
def agenda_Both.f (k : Nat) (l0 : List (S67)) (l1 : List (S67)) : Option ((List (S67))) := (agenda_Neat.f k l0).bind fun t176 => ((agenda_Neat.f k l1).bind fun t179 => (agenda_Both.l0 k t176 t179 ([] : List (S67))))
theorem agenda_Both.mono_l : ∀ k, (∀ y0 y1 y2, LeO (agenda_Both.l0 k y0 y1 y2) (agenda_Both.l0 (k + 1) y0 y1 y2)) ∧ (∀ y0 y1 y2 y3, LeO (agenda_Both.j1 k y0 y1 y2 y3) (agenda_Both.j1 (k + 1) y0 y1 y2 y3))
  | 0 => ⟨fun _ _ _ r h => by simp [agenda_Both.l0] at h, fun _ _ _ _ r h => by simp [agenda_Both.j1] at h⟩
  | k + 1 => by
    obtain ⟨ih0, ih1⟩ := agenda_Both.mono_l k
    refine ⟨?_, ?_⟩
    · intro y0 y1 y2
      unfold agenda_Both.l0
      repeat' first
      | (with_reducible exact ih0 _ _ _)
      | (with_reducible exact ih1 _ _ _ _)
      | (with_reducible exact agenda_Neat.mono _ _)
      | (with_reducible exact LeO.refl _)
      | (with_reducible exact LeO.none _)
      | (with_reducible refine LeO.ite ?_ ?_)
      | (with_reducible refine LeO.bind ?_ (fun _ => ?_))
      | exact ih0 _ _ _
      | exact ih1 _ _ _ _
      | exact agenda_Neat.mono _ _
      | exact LeO.none _
      | refine LeO.ite ?_ ?_
      | refine LeO.bind ?_ (fun _ => ?_)
    · intro y0 y1 y2 y3
      unfold agenda_Both.j1
      repeat' first
      | (with_reducible exact ih0 _ _ _)
      | (with_reducible exact ih1 _ _ _ _)
      | (with_reducible exact agenda_Neat.mono _ _)
      | (with_reducible exact LeO.refl _)
      | (with_reducible exact LeO.none _)
      | (with_reducible refine LeO.ite ?_ ?_)
      | (with_reducible refine LeO.bind ?_ (fun _ => ?_))
      | exact ih0 _ _ _
      | exact ih1 _ _ _ _
      | exact agenda_Neat.mono _ _
      | exact LeO.none _
      | refine LeO.ite ?_ ?_
      | refine LeO.bind ?_ (fun _ => ?_)
theorem agenda_Both.mono : ∀ a0 a1 k, LeO (agenda_Both.f k a0 a1) (agenda_Both.f (k + 1) a0 a1) := by
  intro a0 a1 k
  obtain ⟨ih0, ih1⟩ := agenda_Both.mono_l k
  unfold agenda_Both.f
  repeat' first
      | (with_reducible exact ih0 _ _ _)
      | (with_reducible exact ih1 _ _ _ _)
      | (with_reducible exact agenda_Neat.mono _ _)
      | (with_reducible exact LeO.refl _)
      | (with_reducible exact LeO.none _)
      | (with_reducible refine LeO.ite ?_ ?_)
      | (with_reducible refine LeO.bind ?_ (fun _ => ?_))
      | exact ih0 _ _ _
      | exact ih1 _ _ _ _
      | exact agenda_Neat.mono _ _
      | exact LeO.none _
      | refine LeO.ite ?_ ?_
      | refine LeO.bind ?_ (fun _ => ?_)
def agenda_Both.T4 : Bool × List (List Nat × List Nat) := (true, [([], []), ([0], [0]), ([1], [1]), ([2], [2]), ([], []), ([4], [4]), ([5], [5]), ([6], [6]), ([3, 7], [3, 7]), ([], []), ([9], [9]), ([10], [10]), ([11], [11]), ([], []), ([13], [13]), ([14], [14]), ([15], [15]), ([12, 16], [12, 16]), ([8, 17], [8, 17]), ([], []), ([19, 18, 0, 1, 2, 3, 4, 5, 6, 7, 8, 9, 10, 11, 12, 13, 14, 15, 16, 17, 18, 19], [18, 19])])
def agenda_Both.B4 : List Nat := [0, 1, 3, 7, 0, 16, 48, 112, 255, 0, 512, 1536, 3584, 0, 8192, 24576, 57344, 130560, 262143, 0, 1048575]
theorem agenda_Both.tab4 : rtab .any (opsOf Try.f27 4) = agenda_Both.T4 := by kernel_rfl
theorem agenda_Both.bits4 : waitsOk agenda_Both.T4.2 agenda_Both.B4 = true := by kernel_rfl
def agenda_Both.T7 : Bool × List (List Nat × List Nat) := (true, [([], []), ([0], [0]), ([1], [1]), ([2], [2]), ([], []), ([4], [4]), ([5], [5]), ([6], [6]), ([3, 7], [3, 7])])
def agenda_Both.B7 : List Nat := [0, 1, 3, 7, 0, 16, 48, 112, 255]
theorem agenda_Both.tab7 : rtab .any (opsOf Try.f27 7) = agenda_Both.T7 := by kernel_rfl
theorem agenda_Both.bits7 : waitsOk agenda_Both.T7.2 agenda_Both.B7 = true := by kernel_rfl
set_option maxHeartbeats 8000000 in
set_option maxRecDepth 100000 in
theorem agenda_Both.calls (k : Nat) (A0 : Option Addr) (c0 : Nat) (l0 : List (S67)) (A1 : Option Addr) (c1 : Nat) (l1 : List (S67)) (r : List (S67)) (w : World) (hr0 : Kd.C k67 w A0 l0.length l0) (hc0 : l0.length ≤ c0) (hr1 : Kd.C k67 w A1 l1.length l1) (hc1 : l1.length ≤ c1) (h : agenda_Both.f k l0 l1 = some r) :
    Calls Try.prog 27 #[.slice A0 l0.length c0, .slice A1 l1.length c1] w fun e w' => ∃ v0_ : Value, e = .returned (v0_) ∧ Kd.R k67 67 w' w.heap.size (fun _ => True) v0_ r ∧ Below w.heap.size w w' := by
  have hu67 := Try.underlying67
  have HR0 := Aside0.mk hr0
  have HC0 := Aside0.mk hc0
  clear hr0 hc0
  have HR1 := Aside0.mk hr1
  have HC1 := Aside0.mk hc1
  clear hr1 hc1
  have HB := Aside0.mk (Below.refl w.heap.size w)
  have H : ((agenda_Neat.f k l0).bind fun t176 => ((agenda_Neat.f k l1).bind fun t179 => (agenda_Both.l0 k t176 t179 ([] : List (S67))))) = some r := h
  clear h
  replace H := Option.bind_eq_some_iff.mp H
  obtain ⟨t176, A30, H⟩ := H
  replace H : ((agenda_Neat.f k l1).bind fun t179 => (agenda_Both.l0 k t176 t179 ([] : List (S67)))) = some r := H
  have A3 := Aside0.mk A30
  clear A30
  replace H := Option.bind_eq_some_iff.mp H
  obtain ⟨t179, A40, H⟩ := H
  replace H : (agenda_Both.l0 k t176 t179 ([] : List (S67))) = some r := H
  have A4 := Aside0.mk A40
  clear A40
  have H' := Aside0.mk H
  clear H
  go_enter Try.func27, Try.ntmps27
  go_wp2_with (first | ((with_reducible refine gate_callee (f := 21) rfl ?_); refine goesL_ (some 8) rfl rfl Try.func21 (by kernel_rfl) rfl #[.slice A0 l0.length c0] rfl (by (try simp only [List.map_toArray, List.map_cons, List.map_nil]); first | done | rfl | (simp only [List.length_drop, List.length_take]; rfl)) ?_; (with_reducible refine (agenda_Neat.calls k _ _ l0 t176 _ ?side1 ?side2 A3.out).mono ?_); (case side1 => repeat (first | exact HR0.out | (with_reducible refine Kd.C_alloc ?_ _) | (with_reducible refine Kd.C_drewN ?_ _) | (with_reducible refine Kd.C_drew ?_))); (case side2 => exact HC0.out); rintro e w5 ⟨v177, rfl, ho0, hb⟩; refine ⟨_, rfl, ?_⟩; have n0_ := Aside0.mk (Kd.R_lower ho0 (below_size (by repeat (first | (with_reducible first | exact HB.out | apply below_alloc | apply pw_below_drewN | apply below_drew1) | exact HB.out)))); have n1_ := Aside0.mk (below_step (by repeat (first | (with_reducible first | exact HB.out | apply below_alloc | apply pw_below_drewN | apply below_drew1) | exact HB.out)) hb); clear HB; have HO178 := n0_; have HB := n1_; clear n0_ n1_; (try clear hb); (try clear hb2); (try clear hk); (try clear hi); (try clear ho0)) | ((with_reducible refine gate_callee (f := 21) rfl ?_); refine goesL_ (some 10) rfl rfl Try.func21 (by kernel_rfl) rfl #[.slice A1 l1.length c1] rfl (by (try simp only [List.map_toArray, List.map_cons, List.map_nil]); first | done | rfl | (simp only [List.length_drop, List.length_take]; rfl)) ?_; (with_reducible refine (agenda_Neat.calls k _ _ l1 t179 _ ?side1 ?side2 A4.out).mono ?_); (case side1 => repeat (first | exact (Kd.C_below HR1.out HB.out) | (with_reducible refine Kd.C_alloc ?_ _) | (with_reducible refine Kd.C_drewN ?_ _) | (with_reducible refine Kd.C_drew ?_))); (case side2 => exact HC1.out); rintro e w6 ⟨v180, rfl, ho0, hb⟩; refine ⟨_, rfl, ?_⟩; have n0_ := Aside0.mk (Kd.R_elder' (by (with_reducible repeat (first | apply Kd.R_alloc | apply Kd.R_drewN | apply Kd.R_drew)); exact HO178.out) (Kd.R_base ho0) hb); have n1_ := Aside0.mk (Kd.R_lower (Kd.R_new' ho0 (Kd.R_lt (by (with_reducible repeat (first | apply Kd.R_alloc | apply Kd.R_drewN | apply Kd.R_drew)); exact HO178.out))) (below_size (by repeat (first | (with_reducible first | exact HB.out | apply below_alloc | apply pw_below_drewN | apply below_drew1) | exact HB.out)))); have n2_ := Aside0.mk (below_step (by repeat (first | (with_reducible first | exact HB.out | apply below_alloc | apply pw_below_drewN | apply below_drew1) | exact HB.out)) hb); clear HO178; clear HB; have HO178 := n0_; have HO181 := n1_; have HB := n2_; clear n0_ n1_ n2_; (try clear hb); (try clear hb2); (try clear hk); (try clear hi); (try clear ho0)))
  go_loopg [0, 1, 5] k (fun kq v0 v1 v5 w' => ∃ (x0_1 : List (S67)) (x1_1 : List (S67)) (x5_1 : List (S67)), Aside0 (agenda_Both.l0 kq x0_1 x1_1 x5_1 = some r) ∧ Aside0 (kq ≤ k) ∧ Aside0 (Kd.Q k67 67 w' w.heap.size (fun k_ => some k_ ≠ (v1 : Value).ownBlock ∧ some k_ ≠ (v5 : Value).ownBlock) v0 x0_1) ∧ Aside0 (Kd.Q k67 67 w' w.heap.size (fun k_ => some k_ ≠ (v0 : Value).ownBlock ∧ some k_ ≠ (v5 : Value).ownBlock) v1 x1_1) ∧ Aside0 (Kd.R k67 67 w' w.heap.size (fun k_ => some k_ ≠ (v0 : Value).ownBlock ∧ some k_ ≠ (v1 : Value).ownBlock) v5 x5_1) ∧ Aside0 (Below w.heap.size w w'))
  case atStart => exact ⟨(t176), (t179), (([] : List (S67))), H', ⟨Nat.le_refl _⟩, ⟨Kd.Q_of_R (by (with_reducible repeat (first | apply Kd.R_alloc | apply Kd.R_drewN | apply Kd.R_drew)); exact Kd.R_mono HO178.out (fun _ hk => ⟨hk.2, (by simp [Value.ownBlock])⟩))⟩, ⟨Kd.Q_of_R (by (with_reducible repeat (first | apply Kd.R_alloc | apply Kd.R_drewN | apply Kd.R_drew)); exact Kd.R_mono HO181.out (fun _ hk => ⟨hk.2, (by simp [Value.ownBlock])⟩))⟩, ⟨by first | exact Kd.R_nil _ _ _ _ _ | exact Kd.N_nil _ _ _ _ _ | exact Kd.V_nil _ _ _ _ _ | exact Kd.Q_nil _ _ _ _ _ | exact Kd.S_nil _ _ _ _ _⟩, ⟨by repeat (first | (with_reducible first | exact HB.out | apply below_alloc | apply pw_below_drewN | apply below_drew1) | exact HB.out)⟩⟩
  case round =>
    clear H'
    try clear c1
    try clear c2
    try clear p2
    obtain ⟨x0_1, x1_1, x5_1, HA, HK1, HO_0, HO_1, HO_5, HB⟩ := hrel
    cases gk with
    | zero => exact absurd HA.out (by simp [agenda_Both.l0])
    | succ k1 =>
      have H := HA.out
      clear HA
      simp only [agenda_Both.l0] at H
      have HC7 := Aside0.mk H
      clear H
      go_upto_region 3 with (fail)
      go_cut [18] (fun v18 wc => ∃ (kq : Nat) (x18_6 : Bool), v18 = .bool x18_6 ∧ Aside0 (agenda_Both.j1 kq x0_1 x1_1 x5_1 x18_6 = some r) ∧ Aside0 (kq ≤ k1) ∧ Aside0 (Kd.Q k67 67 wc w.heap.size (fun k_ => some k_ ≠ (u1 : Value).ownBlock ∧ some k_ ≠ (u5 : Value).ownBlock) u0 x0_1) ∧ Aside0 (Kd.Q k67 67 wc w.heap.size (fun k_ => some k_ ≠ (u0 : Value).ownBlock ∧ some k_ ≠ (u5 : Value).ownBlock) u1 x1_1) ∧ Aside0 (Kd.R k67 67 wc w.heap.size (fun k_ => some k_ ≠ (u0 : Value).ownBlock ∧ some k_ ≠ (u1 : Value).ownBlock) u5 x5_1) ∧ Aside0 (Below w.heap.size w wc))
      case first =>
        have H := HC7.out
        clear HC7
        by_cases c8 : (x0_1.length : Int) > 0
        · rw [if_pos c8] at H
          have c8b0 : decide (0 < (x0_1.length : Int)) = true := decide_eq_true c8
          have c8b1 : decide (0 < x0_1.length) = true := decide_eq_true (by omega)
          clear c8
          (first | rw [c8b0] | (simp only [i64_w, i32_w]; rw [c8b0]) | skip)
          have H' := Aside0.mk H
          clear H
          obtain ⟨Ao9, co9, eo9, _⟩ := Kd.Q_slice HO_0.out
          subst eo9
          obtain ⟨Ao10, co10, eo10, _⟩ := Kd.Q_slice HO_1.out
          subst eo10
          go_wp2
          go_meet
          case rel => exact ⟨_, (decide ((x1_1.length : Int) > 0)), (by first | rfl | (simp; done) | (simp [*]; done)), H', ⟨by have := HK1.out; first | omega | exact Nat.le_refl _⟩, ⟨by (with_reducible repeat (first | apply Kd.Q_alloc | apply Kd.Q_drewN | apply Kd.Q_drew)); exact HO_0.out⟩, ⟨by (with_reducible repeat (first | apply Kd.Q_alloc | apply Kd.Q_drewN | apply Kd.Q_drew)); exact HO_1.out⟩, ⟨by (with_reducible repeat (first | apply Kd.R_alloc | apply Kd.R_drewN | apply Kd.R_drew)); exact HO_5.out⟩, ⟨by repeat (first | (with_reducible first | exact HB.out | apply below_alloc | apply pw_below_drewN | apply below_drew1) | exact HB.out)⟩⟩
        · rw [if_neg c8] at H
          have c8b0 : decide (0 < (x0_1.length : Int)) = false := decide_eq_false c8
          have c8b1 : decide (0 < x0_1.length) = false := decide_eq_false (by omega)
          clear c8
          (first | rw [c8b0] | (simp only [i64_w, i32_w]; rw [c8b0]) | skip)
          have H' := Aside0.mk H
          clear H
          obtain ⟨Ao11, co11, eo11, _⟩ := Kd.Q_slice HO_0.out
          subst eo11
          go_wp2
          go_meet
          case rel => exact ⟨_, (false), (by first | rfl | (simp; done) | (simp [*]; done)), H', ⟨by have := HK1.out; first | omega | exact Nat.le_refl _⟩, ⟨by (with_reducible repeat (first | apply Kd.Q_alloc | apply Kd.Q_drewN | apply Kd.Q_drew)); exact HO_0.out⟩, ⟨by (with_reducible repeat (first | apply Kd.Q_alloc | apply Kd.Q_drewN | apply Kd.Q_drew)); exact HO_1.out⟩, ⟨by (with_reducible repeat (first | apply Kd.R_alloc | apply Kd.R_drewN | apply Kd.R_drew)); exact HO_5.out⟩, ⟨by repeat (first | (with_reducible first | exact HB.out | apply below_alloc | apply pw_below_drewN | apply below_drew1) | exact HB.out)⟩⟩
      case rest =>
        clear HC7
        try clear c1
        try clear c2
        try clear p2
        try clear c8
        try clear c8b0
        try clear c8b1
        try clear p2
        obtain ⟨kq, x18_6, rfl, HA, HJ6, HO_0, HO_1, HO_5, HB⟩ := hcut
        cases kq with
        | zero => exact absurd HA.out (by simp [agenda_Both.j1])
        | succ kj6 =>
          have H := HA.out
          clear HA
          simp only [agenda_Both.j1] at H
          by_cases c12 : x18_6 = true
          · subst c12
            have H1 : (if 0 < (x0_1.length : Int) then (if 0 < (x1_1.length : Int) then (if (mx ((rd_T67 x0_1 0).f0) ((rd_T67 x1_1 0).f0)) < (mn ((rd_T67 x0_1 0).f1) ((rd_T67 x1_1 0).f1)) then (if x5_1.length < 8796093022208 then ((some (x5_1 ++ [(⟨mx ((rd_T67 x0_1 0).f0) ((rd_T67 x1_1 0).f0), mn ((rd_T67 x0_1 0).f1) ((rd_T67 x1_1 0).f1)⟩ : S67)] : List (S67))).bind fun y187 => (if ((rd_T67 x0_1 0).f1) < ((rd_T67 x1_1 0).f1) then (if 1 ≤ (x0_1.length : Int) then (agenda_Both.l0 kj6 (x0_1.drop (1 : Int).toNat) x1_1 y187) else (none)) else (if 1 ≤ (x1_1.length : Int) then (agenda_Both.l0 kj6 x0_1 (x1_1.drop (1 : Int).toNat) y187) else (none)))) else (none)) else (if ((rd_T67 x0_1 0).f1) < ((rd_T67 x1_1 0).f1) then (if 1 ≤ (x0_1.length : Int) then (agenda_Both.l0 kj6 (x0_1.drop (1 : Int).toNat) x1_1 x5_1) else (none)) else (if 1 ≤ (x1_1.length : Int) then (agenda_Both.l0 kj6 x0_1 (x1_1.drop (1 : Int).toNat) x5_1) else (none)))) else (none)) else (none)) = some r := by rw [if_pos rfl] at H; exact H
            clear H
            have H := H1
            clear H1
            by_cases c13 : 0 < (x0_1.length : Int)
            · rw [if_pos c13] at H
              have c13b0 : decide (0 < (x0_1.length : Int)) = true := decide_eq_true c13
              have c13b1 : decide (0 < x0_1.length) = true := decide_eq_true (by omega)
              clear c13
              by_cases c14 : 0 < (x1_1.length : Int)
              · rw [if_pos c14] at H
                have c14b0 : decide (0 < (x1_1.length : Int)) = true := decide_eq_true c14
                have c14b1 : decide (0 < x1_1.length) = true := decide_eq_true (by omega)
                clear c14
                obtain ⟨ji15, hji15⟩ : ∃ j_ : Int, (mx ((rd_T67 x0_1 0).f0) ((rd_T67 x1_1 0).f0)) = j_ := ⟨_, rfl⟩
                replace H : (if (ji15) < (mn ((rd_T67 x0_1 0).f1) ((rd_T67 x1_1 0).f1)) then (if x5_1.length < 8796093022208 then ((some (x5_1 ++ [(⟨ji15, mn ((rd_T67 x0_1 0).f1) ((rd_T67 x1_1 0).f1)⟩ : S67)] : List (S67))).bind fun y187 => (if ((rd_T67 x0_1 0).f1) < ((rd_T67 x1_1 0).f1) then (if 1 ≤ (x0_1.length : Int) then (agenda_Both.l0 kj6 (x0_1.drop (1 : Int).toNat) x1_1 y187) else (none)) else (if 1 ≤ (x1_1.length : Int) then (agenda_Both.l0 kj6 x0_1 (x1_1.drop (1 : Int).toNat) y187) else (none)))) else (none)) else (if ((rd_T67 x0_1 0).f1) < ((rd_T67 x1_1 0).f1) then (if 1 ≤ (x0_1.length : Int) then (agenda_Both.l0 kj6 (x0_1.drop (1 : Int).toNat) x1_1 x5_1) else (none)) else (if 1 ≤ (x1_1.length : Int) then (agenda_Both.l0 kj6 x0_1 (x1_1.drop (1 : Int).toNat) x5_1) else (none)))) = some r := by first | (rw [hji15] at H; exact H) | (simp only [hji15] at H ⊢; exact H)
                have hji15_ : (if ((rd_T67 x0_1 0).f0) < ((rd_T67 x1_1 0).f0) then ((rd_T67 x1_1 0).f0) else ((rd_T67 x0_1 0).f0)) = ji15 := hji15
                obtain ⟨ji16, hji16⟩ : ∃ j_ : Int, (mn ((rd_T67 x0_1 0).f1) ((rd_T67 x1_1 0).f1)) = j_ := ⟨_, rfl⟩
                replace H : (if (ji15) < (ji16) then (if x5_1.length < 8796093022208 then ((some (x5_1 ++ [(⟨ji15, ji16⟩ : S67)] : List (S67))).bind fun y187 => (if ((rd_T67 x0_1 0).f1) < ((rd_T67 x1_1 0).f1) then (if 1 ≤ (x0_1.length : Int) then (agenda_Both.l0 kj6 (x0_1.drop (1 : Int).toNat) x1_1 y187) else (none)) else (if 1 ≤ (x1_1.length : Int) then (agenda_Both.l0 kj6 x0_1 (x1_1.drop (1 : Int).toNat) y187) else (none)))) else (none)) else (if ((rd_T67 x0_1 0).f1) < ((rd_T67 x1_1 0).f1) then (if 1 ≤ (x0_1.length : Int) then (agenda_Both.l0 kj6 (x0_1.drop (1 : Int).toNat) x1_1 x5_1) else (none)) else (if 1 ≤ (x1_1.length : Int) then (agenda_Both.l0 kj6 x0_1 (x1_1.drop (1 : Int).toNat) x5_1) else (none)))) = some r := by first | (rw [hji16] at H; exact H) | (simp only [hji16] at H ⊢; exact H)
                have hji16_ : (if ((rd_T67 x1_1 0).f1) < ((rd_T67 x0_1 0).f1) then ((rd_T67 x1_1 0).f1) else ((rd_T67 x0_1 0).f1)) = ji16 := hji16
                by_cases c17 : (ji15) < (ji16)
                · rw [if_pos c17] at H
                  have c17b0 : decide ((ji15) < (ji16)) = true := decide_eq_true c17
                  clear c17
                  by_cases c18 : x5_1.length < 8796093022208
                  · rw [if_pos c18] at H
                    have LMc18 := Aside0.mk c18
                    clear c18
                    obtain ⟨y187, hy187⟩ : ∃ y_ : List (S67), y_ = (x5_1 ++ [(⟨ji15, ji16⟩ : S67)]) := ⟨_, rfl⟩
                    replace H : (if ((rd_T67 x0_1 0).f1) < ((rd_T67 x1_1 0).f1) then (if 1 ≤ (x0_1.length : Int) then (agenda_Both.l0 kj6 (x0_1.drop (1 : Int).toNat) x1_1 y187) else (none)) else (if 1 ≤ (x1_1.length : Int) then (agenda_Both.l0 kj6 x0_1 (x1_1.drop (1 : Int).toNat) y187) else (none))) = some r := by first | (rw [hy187]; with_reducible exact H) | (have H2_ := (Option.bind_some _ _).symm.trans H; rw [hy187]; with_reducible exact H2_) | (have H2_ := (Option.bind_some _ _).symm.trans H; with_reducible exact H2_) | with_reducible exact H | (rw [hy187]; exact H) | exact H
                    have Ny187 := Aside0.mk hy187
                    clear hy187
                    by_cases c19 : ((rd_T67 x0_1 0).f1) < ((rd_T67 x1_1 0).f1)
                    · rw [if_pos c19] at H
                      have c19b0 : decide (((rd_T67 x0_1 0).f1) < ((rd_T67 x1_1 0).f1)) = true := decide_eq_true c19
                      clear c19
                      by_cases c20 : 1 ≤ (x0_1.length : Int)
                      · rw [if_pos c20] at H
                        have c20b0 := eq_true c20
                        have c20b1 : decide (1 ≤ (x0_1.length : Int)) = true := decide_eq_true c20
                        clear c20
                        obtain ⟨y192, hy192⟩ : ∃ y_ : List (S67), y_ = (x0_1.drop (1 : Int).toNat) := ⟨_, rfl⟩
                        replace H : (agenda_Both.l0 kj6 y192 x1_1 y187) = some r := by first | (rw [hy192]; with_reducible exact H) | (have H2_ := (Option.bind_some _ _).symm.trans H; rw [hy192]; with_reducible exact H2_) | (have H2_ := (Option.bind_some _ _).symm.trans H; with_reducible exact H2_) | with_reducible exact H | (rw [hy192]; exact H) | exact H
                        have Ny192 := Aside0.mk hy192
                        clear hy192
                        have H' := Aside0.mk H
                        clear H
                        try go_wp2
                        have n0_ := Aside0.mk (Kd.Q_drew HO_0.out)
                        have n1_ := Aside0.mk (Kd.Q_drew HO_1.out)
                        have n2_ := Aside0.mk (Kd.R_drew HO_5.out)
                        have n3_ := Aside0.mk (below_drew1 HB.out)
                        clear HO_0
                        clear HO_1
                        clear HO_5
                        clear HB
                        have HO_0 := n0_
                        have HO_1 := n1_
                        have HO_5 := n2_
                        have HB := n3_
                        clear n0_ n1_ n2_ n3_
                        obtain ⟨Ao22, co22, eo22, _⟩ := Kd.Q_slice HO_0.out
                        (first | subst eo22 | (injection eo22 with f1_ f2_ f3_; have f4_ := f1_.symm; have f5_ := f3_.symm; clear f1_ f2_ f3_; subst f4_; subst f5_))
                        have p182 : 0 ≤ (0 : Int) := (by omega)
                        have q182 : 0 < (x0_1.length : Int) := of_decide_eq_true (by first | (with_reducible assumption) | assumption)
                        obtain ⟨ad182, e182, hx182_0, hx182_1⟩ := at_T67 (Kd.Q_reads' HO_0.out).2.2 0 p182 q182
                        cases e182
                        have qi182 : (0 < x0_1.length) = True := eq_true (by omega)
                        (try rw [show ((0 : Int)).toNat = 0 from rfl] at hx182_0)
                        (try rw [show 0 * 2 = 0 from rfl] at hx182_0)
                        (try rw [Addr.add_zero'] at hx182_0)
                        (try rw [show ((0 : Int)).toNat = 0 from rfl] at hx182_1)
                        (try rw [show 0 * 2 = 0 from rfl] at hx182_1)
                        (try rw [Addr.add_zero'] at hx182_1)
                        replace p182 := eq_true p182
                        replace q182 := eq_true q182
                        obtain ⟨Ao23, co23, eo23, _⟩ := Kd.Q_slice HO_1.out
                        (first | subst eo23 | (injection eo23 with f1_ f2_ f3_; have f4_ := f1_.symm; have f5_ := f3_.symm; clear f1_ f2_ f3_; subst f4_; subst f5_))
                        have p183 : 0 ≤ (0 : Int) := (by omega)
                        have q183 : 0 < (x1_1.length : Int) := of_decide_eq_true (by first | (with_reducible assumption) | assumption)
                        obtain ⟨ad183, e183, hx183_0, hx183_1⟩ := at_T67 (Kd.Q_reads' HO_1.out).2.2 0 p183 q183
                        cases e183
                        have qi183 : (0 < x1_1.length) = True := eq_true (by omega)
                        (try rw [show ((0 : Int)).toNat = 0 from rfl] at hx183_0)
                        (try rw [show 0 * 2 = 0 from rfl] at hx183_0)
                        (try rw [Addr.add_zero'] at hx183_0)
                        (try rw [show ((0 : Int)).toNat = 0 from rfl] at hx183_1)
                        (try rw [show 0 * 2 = 0 from rfl] at hx183_1)
                        (try rw [Addr.add_zero'] at hx183_1)
                        replace p183 := eq_true p183
                        replace q183 := eq_true q183
                        have p184 : 0 ≤ (0 : Int) := (by omega)
                        have q184 : 0 < (x0_1.length : Int) := of_decide_eq_true (by first | (with_reducible assumption) | assumption)
                        obtain ⟨ad184, e184, hx184_0, hx184_1⟩ := at_T67 (Kd.Q_reads' HO_0.out).2.2 0 p184 q184
                        obtain rfl : ad182 = ad184 := (by injection e184)
                        have qi184 : (0 < x0_1.length) = True := eq_true (by omega)
                        (try rw [show ((0 : Int)).toNat = 0 from rfl] at hx184_0)
                        (try rw [show 0 * 2 = 0 from rfl] at hx184_0)
                        (try rw [Addr.add_zero'] at hx184_0)
                        (try rw [show ((0 : Int)).toNat = 0 from rfl] at hx184_1)
                        (try rw [show 0 * 2 = 0 from rfl] at hx184_1)
                        (try rw [Addr.add_zero'] at hx184_1)
                        replace p184 := eq_true p184
                        replace q184 := eq_true q184
                        have p185 : 0 ≤ (0 : Int) := (by omega)
                        have q185 : 0 < (x1_1.length : Int) := of_decide_eq_true (by first | (with_reducible assumption) | assumption)
                        obtain ⟨ad185, e185, hx185_0, hx185_1⟩ := at_T67 (Kd.Q_reads' HO_1.out).2.2 0 p185 q185
                        obtain rfl : ad183 = ad185 := (by injection e185)
                        have qi185 : (0 < x1_1.length) = True := eq_true (by omega)
                        (try rw [show ((0 : Int)).toNat = 0 from rfl] at hx185_0)
                        (try rw [show 0 * 2 = 0 from rfl] at hx185_0)
                        (try rw [Addr.add_zero'] at hx185_0)
                        (try rw [show ((0 : Int)).toNat = 0 from rfl] at hx185_1)
                        (try rw [show 0 * 2 = 0 from rfl] at hx185_1)
                        (try rw [Addr.add_zero'] at hx185_1)
                        replace p185 := eq_true p185
                        replace q185 := eq_true q185
                        refine start_ (n := 21) (S := fun w' => w'.cell? ad182 = some (.int .i64 ((rd_T67 x0_1 0).f0)) ∧ w'.cell? ⟨ad182.block, ad182.off + 1, none⟩ = some (.int .i64 ((rd_T67 x0_1 0).f1)) ∧ w'.cell? ad183 = some (.int .i64 ((rd_T67 x1_1 0).f0)) ∧ w'.cell? ⟨ad183.block, ad183.off + 1, none⟩ = some (.int .i64 ((rd_T67 x1_1 0).f1)) ∧ w'.cell? ad182 = some (.int .i64 ((rd_T67 x0_1 0).f0)) ∧ w'.cell? ⟨ad182.block, ad182.off + 1, none⟩ = some (.int .i64 ((rd_T67 x0_1 0).f1)) ∧ w'.cell? ad183 = some (.int .i64 ((rd_T67 x1_1 0).f0)) ∧ w'.cell? ⟨ad183.block, ad183.off + 1, none⟩ = some (.int .i64 ((rd_T67 x1_1 0).f1))) (ds := []) #[false, false, false, false, false, false, false, false, false, false, false, false, false, false, false, false, false, false, false, false, false] (by kernel_rfl) rfl rfl ⟨hx182_0, hx182_1, hx183_0, hx183_1, hx184_0, hx184_1, hx185_0, hx185_1⟩ (fun hHeld => ?_); refine with_tabW agenda_Both.tab4 agenda_Both.bits4 (fun HT_ HW_ => ?_)
                        generalize wc.drew = w21 at HO_0 HO_1 HO_5 HB hx182_0 hx182_1 hx183_0 hx183_1 hx184_0 hx184_1 hx185_0 hx185_1 hHeld ⊢
                        refine pure_ (i := 0) (N := some 19) (v := ?_) (a' := ?_) #[true, false, false, false, false, false, false, false, false, false, false, false, false, false, false, false, false, false, false, false, false] rfl rfl (any_of HT_.out (by kernel_rfl)) (fun _ _ _ h => h) (Or.inl ⟨by rfl, ?_⟩) ?_ ?_
                        rotate_left
                        · intro w'
                          go_simp
                          with_reducible rfl
                        rotate_left
                        · simp only [Act.put, List.setIfInBounds_toArray, List.set_cons_zero, List.set_cons_succ, i64_w, i32_w]
                          rfl
                        refine pure_ (i := 1) (N := some 20) (v := ?_) (a' := ?_) #[true, true, false, false, false, false, false, false, false, false, false, false, false, false, false, false, false, false, false, false, false] rfl rfl (any_of HT_.out (by kernel_rfl)) (fun _ _ _ h => h) (Or.inl ⟨by rfl, ?_⟩) ?_ ?_
                        rotate_left
                        · intro w'
                          go_simp
                          with_reducible rfl
                        rotate_left
                        · simp only [Act.put, List.setIfInBounds_toArray, List.set_cons_zero, List.set_cons_succ, i64_w, i32_w]
                          rfl
                        refine pure_ (i := 2) (N := some 21) (v := ?_) (a' := ?_) #[true, true, true, false, false, false, false, false, false, false, false, false, false, false, false, false, false, false, false, false, false] rfl rfl (any_of HT_.out (by kernel_rfl)) (fun _ _ _ h => h) (Or.inl ⟨by rfl, ?_⟩) ?_ ?_
                        rotate_left
                        · intro w'
                          go_simp
                          with_reducible rfl
                        rotate_left
                        · simp only [Act.put, List.setIfInBounds_toArray, List.set_cons_zero, List.set_cons_succ, i64_w, i32_w]
                          rfl
                        refine pure_ (i := 4) (N := some 23) (v := ?_) (a' := ?_) #[true, true, true, false, true, false, false, false, false, false, false, false, false, false, false, false, false, false, false, false, false] rfl rfl (any_of HT_.out (by kernel_rfl)) (fun _ _ _ h => h) (Or.inl ⟨by rfl, ?_⟩) ?_ ?_
                        rotate_left
                        · intro w'
                          go_simp
                          with_reducible rfl
                        rotate_left
                        · simp only [Act.put, List.setIfInBounds_toArray, List.set_cons_zero, List.set_cons_succ, i64_w, i32_w]
                          rfl
                        refine pure_ (i := 5) (N := some 24) (v := ?_) (a' := ?_) #[true, true, true, false, true, true, false, false, false, false, false, false, false, false, false, false, false, false, false, false, false] rfl rfl (any_of HT_.out (by kernel_rfl)) (fun _ _ _ h => h) (Or.inl ⟨by rfl, ?_⟩) ?_ ?_
                        rotate_left
                        · intro w'
                          go_simp
                          with_reducible rfl
                        rotate_left
                        · simp only [Act.put, List.setIfInBounds_toArray, List.set_cons_zero, List.set_cons_succ, i64_w, i32_w]
                          rfl
                        refine pure_ (i := 6) (N := some 25) (v := ?_) (a' := ?_) #[true, true, true, false, true, true, true, false, false, false, false, false, false, false, false, false, false, false, false, false, false] rfl rfl (any_of HT_.out (by kernel_rfl)) (fun _ _ _ h => h) (Or.inl ⟨by rfl, ?_⟩) ?_ ?_
                        rotate_left
                        · intro w'
                          go_simp
                          with_reducible rfl
                        rotate_left
                        · simp only [Act.put, List.setIfInBounds_toArray, List.set_cons_zero, List.set_cons_succ, i64_w, i32_w]
                          rfl
                        refine pure_ (i := 9) (N := some 28) (v := ?_) (a' := ?_) #[true, true, true, false, true, true, true, false, false, true, false, false, false, false, false, false, false, false, false, false, false] rfl rfl (any_of HT_.out (by kernel_rfl)) (fun _ _ _ h => h) (Or.inl ⟨by rfl, ?_⟩) ?_ ?_
                        rotate_left
                        · intro w'
                          go_simp
                          with_reducible rfl
                        rotate_left
                        · simp only [Act.put, List.setIfInBounds_toArray, List.set_cons_zero, List.set_cons_succ, i64_w, i32_w]
                          rfl
                        refine pure_ (i := 10) (N := some 29) (v := ?_) (a' := ?_) #[true, true, true, false, true, true, true, false, false, true, true, false, false, false, false, false, false, false, false, false, false] rfl rfl (any_of HT_.out (by kernel_rfl)) (fun _ _ _ h => h) (Or.inl ⟨by rfl, ?_⟩) ?_ ?_
                        rotate_left
                        · intro w'
                          go_simp
                          with_reducible rfl
                        rotate_left
                        · simp only [Act.put, List.setIfInBounds_toArray, List.set_cons_zero, List.set_cons_succ, i64_w, i32_w]
                          rfl
                        refine pure_ (i := 11) (N := some 30) (v := ?_) (a' := ?_) #[true, true, true, false, true, true, true, false, false, true, true, true, false, false, false, false, false, false, false, false, false] rfl rfl (any_of HT_.out (by kernel_rfl)) (fun _ _ _ h => h) (Or.inl ⟨by rfl, ?_⟩) ?_ ?_
                        rotate_left
                        · intro w'
                          go_simp
                          with_reducible rfl
                        rotate_left
                        · simp only [Act.put, List.setIfInBounds_toArray, List.set_cons_zero, List.set_cons_succ, i64_w, i32_w]
                          rfl
                        refine pure_ (i := 13) (N := some 32) (v := ?_) (a' := ?_) #[true, true, true, false, true, true, true, false, false, true, true, true, false, true, false, false, false, false, false, false, false] rfl rfl (any_of HT_.out (by kernel_rfl)) (fun _ _ _ h => h) (Or.inl ⟨by rfl, ?_⟩) ?_ ?_
                        rotate_left
                        · intro w'
                          go_simp
                          with_reducible rfl
                        rotate_left
                        · simp only [Act.put, List.setIfInBounds_toArray, List.set_cons_zero, List.set_cons_succ, i64_w, i32_w]
                          rfl
                        refine pure_ (i := 14) (N := some 33) (v := ?_) (a' := ?_) #[true, true, true, false, true, true, true, false, false, true, true, true, false, true, true, false, false, false, false, false, false] rfl rfl (any_of HT_.out (by kernel_rfl)) (fun _ _ _ h => h) (Or.inl ⟨by rfl, ?_⟩) ?_ ?_
                        rotate_left
                        · intro w'
                          go_simp
                          with_reducible rfl
                        rotate_left
                        · simp only [Act.put, List.setIfInBounds_toArray, List.set_cons_zero, List.set_cons_succ, i64_w, i32_w]
                          rfl
                        refine pure_ (i := 15) (N := some 34) (v := ?_) (a' := ?_) #[true, true, true, false, true, true, true, false, false, true, true, true, false, true, true, true, false, false, false, false, false] rfl rfl (any_of HT_.out (by kernel_rfl)) (fun _ _ _ h => h) (Or.inl ⟨by rfl, ?_⟩) ?_ ?_
                        rotate_left
                        · intro w'
                          go_simp
                          with_reducible rfl
                        rotate_left
                        · simp only [Act.put, List.setIfInBounds_toArray, List.set_cons_zero, List.set_cons_succ, i64_w, i32_w]
                          rfl
                        refine take_ (i := 3) (N := some 22) (v := ?_) (a' := ?_) #[true, true, true, true, true, true, true, false, false, true, true, true, false, true, true, true, false, false, false, false, false] rfl rfl (take_ofW HT_.out HW_.out (by kernel_rfl)) (fun _ _ _ h => h) (Or.inl ⟨by rfl, ?_⟩) hHeld ?_ ?_
                        rotate_left
                        · rintro w' ⟨s0, s1, s2, s3, s4, s5, s6, s7⟩
                          go_simp
                          with_reducible rfl
                        rotate_left
                        · simp only [Act.put, List.setIfInBounds_toArray, List.set_cons_zero, List.set_cons_succ, i64_w, i32_w]
                          rfl
                        refine take_ (i := 7) (N := some 26) (v := ?_) (a' := ?_) #[true, true, true, true, true, true, true, true, false, true, true, true, false, true, true, true, false, false, false, false, false] rfl rfl (take_ofW HT_.out HW_.out (by kernel_rfl)) (fun _ _ _ h => h) (Or.inl ⟨by rfl, ?_⟩) hHeld ?_ ?_
                        rotate_left
                        · rintro w' ⟨s0, s1, s2, s3, s4, s5, s6, s7⟩
                          go_simp
                          with_reducible rfl
                        rotate_left
                        · simp only [Act.put, List.setIfInBounds_toArray, List.set_cons_zero, List.set_cons_succ, i64_w, i32_w]
                          rfl
                        refine pure_ (i := 8) (N := some 27) (v := ?_) (a' := ?_) #[true, true, true, true, true, true, true, true, true, true, true, true, false, true, true, true, false, false, false, false, false] rfl rfl (any_of HT_.out (by kernel_rfl)) (fun _ _ _ h => h) (Or.inl ⟨by rfl, ?_⟩) ?_ ?_
                        rotate_left
                        · intro w'
                          go_simp
                          with_reducible rfl
                        rotate_left
                        · simp only [Act.put, List.setIfInBounds_toArray, List.set_cons_zero, List.set_cons_succ, i64_w, i32_w]
                          rfl
                        refine take_ (i := 12) (N := some 31) (v := ?_) (a' := ?_) #[true, true, true, true, true, true, true, true, true, true, true, true, true, true, true, true, false, false, false, false, false] rfl rfl (take_ofW HT_.out HW_.out (by kernel_rfl)) (fun _ _ _ h => h) (Or.inl ⟨by rfl, ?_⟩) hHeld ?_ ?_
                        rotate_left
                        · rintro w' ⟨s0, s1, s2, s3, s4, s5, s6, s7⟩
                          go_simp
                          with_reducible rfl
                        rotate_left
                        · simp only [Act.put, List.setIfInBounds_toArray, List.set_cons_zero, List.set_cons_succ, i64_w, i32_w]
                          rfl
                        refine take_ (i := 16) (N := some 35) (v := ?_) (a' := ?_) #[true, true, true, true, true, true, true, true, true, true, true, true, true, true, true, true, true, false, false, false, false] rfl rfl (take_ofW HT_.out HW_.out (by kernel_rfl)) (fun _ _ _ h => h) (Or.inl ⟨by rfl, ?_⟩) hHeld ?_ ?_
                        rotate_left
                        · rintro w' ⟨s0, s1, s2, s3, s4, s5, s6, s7⟩
                          go_simp
                          with_reducible rfl
                        rotate_left
                        · simp only [Act.put, List.setIfInBounds_toArray, List.set_cons_zero, List.set_cons_succ, i64_w, i32_w]
                          rfl
                        refine pure_ (i := 17) (N := some 36) (v := ?_) (a' := ?_) #[true, true, true, true, true, true, true, true, true, true, true, true, true, true, true, true, true, true, false, false, false] rfl rfl (any_of HT_.out (by kernel_rfl)) (fun _ _ _ h => h) (Or.inl ⟨by rfl, ?_⟩) ?_ ?_
                        rotate_left
                        · intro w'
                          go_simp
                          with_reducible rfl
                        rotate_left
                        · simp only [Act.put, List.setIfInBounds_toArray, List.set_cons_zero, List.set_cons_succ, i64_w, i32_w]
                          rfl
                        refine pure_ (i := 18) (N := some 37) (v := ?_) (a' := ?_) #[true, true, true, true, true, true, true, true, true, true, true, true, true, true, true, true, true, true, true, false, false] rfl rfl (any_of HT_.out (by kernel_rfl)) (fun _ _ _ h => h) (Or.inl ⟨by rfl, ?_⟩) ?_ ?_
                        rotate_left
                        · intro w'
                          go_simp
                          with_reducible rfl
                        rotate_left
                        · simp only [Act.put, List.setIfInBounds_toArray, List.set_cons_zero, List.set_cons_succ, i64_w, i32_w]
                          rfl
                        refine one_ (i := 19) (N := some 6) #[true, true, true, true, true, true, true, true, true, true, true, true, true, true, true, true, true, true, true, true, false] rfl rfl (one_of HT_.out (by kernel_rfl)) (by decide) (fun K hK => ?_)
                        refine box_step ?hg (N := 6) ?hd (cs := #[.int .i64 0, .int .i64 0]) (t := 67) ?hr ?_; (case hd => rfl); (case hg => rfl); (case hr => first | (go_simp; done) | (go_simp; rfl))
                        intro gb186 hg w24 hbox hb
                        have HS0_ := (hb.cell (World.block_lt_of_cell? _ _ (hHeld.1))).trans (hHeld.1)
                        have HS1_ := (hb.cell (World.block_lt_of_cell? _ _ (hHeld.2.1))).trans (hHeld.2.1)
                        have HS2_ := (hb.cell (World.block_lt_of_cell? _ _ (hHeld.2.2.1))).trans (hHeld.2.2.1)
                        have HS3_ := (hb.cell (World.block_lt_of_cell? _ _ (hHeld.2.2.2.1))).trans (hHeld.2.2.2.1)
                        have HS4_ := (hb.cell (World.block_lt_of_cell? _ _ (hHeld.2.2.2.2.1))).trans (hHeld.2.2.2.2.1)
                        have HS5_ := (hb.cell (World.block_lt_of_cell? _ _ (hHeld.2.2.2.2.2.1))).trans (hHeld.2.2.2.2.2.1)
                        have HS6_ := (hb.cell (World.block_lt_of_cell? _ _ (hHeld.2.2.2.2.2.2.1))).trans (hHeld.2.2.2.2.2.2.1)
                        have HS7_ := (hb.cell (World.block_lt_of_cell? _ _ (hHeld.2.2.2.2.2.2.2))).trans (hHeld.2.2.2.2.2.2.2)
                        have n0_ := Aside0.mk (Kd.Q_below (Kd.Q_elderB (by (with_reducible repeat (first | apply Kd.Q_alloc | apply Kd.Q_drewN | apply Kd.Q_drew)); exact HO_0.out) gb186 (Nat.le_of_eq hg.symm)) hb)
                        have n1_ := Aside0.mk (Kd.Q_below (Kd.Q_elderB (by (with_reducible repeat (first | apply Kd.Q_alloc | apply Kd.Q_drewN | apply Kd.Q_drew)); exact HO_1.out) gb186 (Nat.le_of_eq hg.symm)) hb)
                        have n2_ := Aside0.mk (Kd.R_below (Kd.R_elderB (by (with_reducible repeat (first | apply Kd.R_alloc | apply Kd.R_drewN | apply Kd.R_drew)); exact HO_5.out) gb186 (Nat.le_of_eq hg.symm)) hb)
                        have n3_ := Aside0.mk (below_step (by repeat (first | (with_reducible first | exact HB.out | apply below_alloc | apply pw_below_drewN | apply below_drew1) | exact HB.out)) hb)
                        have n4_ := Aside0.mk (hbox)
                        have n5_ := Aside0.mk ((by rw [hg]; exact (below_size (by repeat (first | (with_reducible first | exact HB.out | apply below_alloc | apply pw_below_drewN | apply below_drew1) | exact HB.out))) : w.heap.size ≤ gb186))
                        have n6_ := Aside0.mk ((by rw [hg]; exact (below_size (by repeat (first | (with_reducible first | exact HB.out | apply below_alloc | apply pw_below_drewN | apply below_drew1) | exact HB.out))) : w.heap.size ≤ gb186))
                        clear HO_0
                        clear HO_1
                        clear HO_5
                        clear HB
                        have HO_0 := n0_
                        have HO_1 := n1_
                        have HO_5 := n2_
                        have HB := n3_
                        have BK186 := n4_
                        have GW186 := n5_
                        have GE186 := n6_
                        clear n0_ n1_ n2_ n3_ n4_ n5_ n6_
                        clear hb hbox hg
                        refine hK.out _ _ ⟨HS0_, HS1_, HS2_, HS3_, HS4_, HS5_, HS6_, HS7_⟩ (fun hHeld => ?_)
                        clear hK K
                        refine norm_ (a' := ?_) ?_ ?_
                        rotate_left
                        · show Act.put _ (some 6) _ = _
                          simp only [Act.put, List.setIfInBounds_toArray, List.set_cons_zero, List.set_cons_succ, i64_w, i32_w]
                          rfl
                        refine one_ (i := 20) (N := none) #[true, true, true, true, true, true, true, true, true, true, true, true, true, true, true, true, true, true, true, true, true] rfl rfl (one_of HT_.out (by kernel_rfl)) (by decide) (fun K hK => ?_)
                        have hs25 : w24.cell? ⟨gb186, 0, none⟩ = some (.int .i64 0) := (blk_cell BK186.out 0).trans rfl
                        have hfs25 := blk_frozen BK186.out 0
                        have hs26 : w24.cell? ⟨gb186, 1, none⟩ = some (.int .i64 0) := (blk_cell BK186.out 1).trans rfl
                        have hfs26 := blk_frozen BK186.out 1
                        refine skip_ (w1 := ?_) (by rfl) rfl ?_ ?_
                        rotate_left
                        · go_simp
                          rfl
                        have ff0_ := Kd.own_blk (Kd.Q_away HO_0.out (fun _ hk => hk.2))
                        have ff1_ := Kd.own_blk (Kd.Q_away HO_1.out (fun _ hk => hk.2))
                        refine hK.out _ _ ⟨((cell_far (p := ⟨gb186, _, none⟩) (by exact ff0_) _).trans (((cell_far (p := ⟨gb186, _, none⟩) (by exact ff0_) _).trans (hHeld.1)))), ((cell_far (p := ⟨gb186, _, none⟩) (by exact ff0_) _).trans (((cell_far (p := ⟨gb186, _, none⟩) (by exact ff0_) _).trans (hHeld.2.1)))), ((cell_far (p := ⟨gb186, _, none⟩) (by exact ff1_) _).trans (((cell_far (p := ⟨gb186, _, none⟩) (by exact ff1_) _).trans (hHeld.2.2.1)))), ((cell_far (p := ⟨gb186, _, none⟩) (by exact ff1_) _).trans (((cell_far (p := ⟨gb186, _, none⟩) (by exact ff1_) _).trans (hHeld.2.2.2.1)))), ((cell_far (p := ⟨gb186, _, none⟩) (by exact ff0_) _).trans (((cell_far (p := ⟨gb186, _, none⟩) (by exact ff0_) _).trans (hHeld.2.2.2.2.1)))), ((cell_far (p := ⟨gb186, _, none⟩) (by exact ff0_) _).trans (((cell_far (p := ⟨gb186, _, none⟩) (by exact ff0_) _).trans (hHeld.2.2.2.2.2.1)))), ((cell_far (p := ⟨gb186, _, none⟩) (by exact ff1_) _).trans (((cell_far (p := ⟨gb186, _, none⟩) (by exact ff1_) _).trans (hHeld.2.2.2.2.2.2.1)))), ((cell_far (p := ⟨gb186, _, none⟩) (by exact ff1_) _).trans (((cell_far (p := ⟨gb186, _, none⟩) (by exact ff1_) _).trans (hHeld.2.2.2.2.2.2.2))))⟩ (fun hHeld => ?_)
                        clear hK K
                        refine done_ (done_of HT_.out (by kernel_rfl)) ?_
                        have hcz27_0 : w24.cell? ⟨gb186, 0, none⟩ = some (.int .i64 0) := (blk_cell BK186.out 0).trans rfl
                        have hcz27_1 : w24.cell? ⟨gb186, 1, none⟩ = some (.int .i64 0) := (blk_cell BK186.out 1).trans rfl
                        have hfz27_0 := blk_frozen BK186.out 0
                        have hfz27_1 := blk_frozen BK186.out 1
                        try go_wp2_with (first | ((with_reducible refine gate_builtin (b := .append) (xs := #[.tmp 43, .tmp 45]) rfl ?_); (try (refine gate_guard (by rfl) ?_; dsimp only)); at_builtin; refine Kd.R_append k67 (w0 := w) w.heap.size rfl (.tmp 43) (.tmp 45) 57 67 (.agg #[(.int .i64 0), (.int .i64 0)]) 16 rfl Try.underlying57 info67 rfl (by decide) (by omega) u5 x5_1 (⟨ji15, ji16⟩ : S67) [.int .i64 ji15, .int .i64 ji16] (fun k_ => some k_ ≠ (.slice (some ad182) x0_1.length co22 : Value).ownBlock ∧ some k_ ≠ (.slice (some ad183) x1_1.length co23 : Value).ownBlock ∧ k_ ≠ gb186) (fun _ => False) rfl (by first | (go_simp; done) | (go_simp; rfl)) ?aP (fun _ hk => hk.elim) ?aF ?aO ?aB ?aS ?aL ?_; (case aP => exact k67_mkM _ _ _ (⟨ji15, ji16⟩ : S67)); (case aB => exact (by repeat (first | (with_reducible first | exact HB.out | apply below_alloc | apply pw_below_drewN | apply below_drew1 | refine below_set ?_ GE186.out) | exact HB.out))); (case aF => exact (fun k_ hk => ⟨Kd.fresh' (Kd.Q_lt (by (with_reducible repeat (first | apply Kd.Q_alloc | apply Kd.Q_drewN | apply Kd.Q_drew)); exact (Kd.Q_mono (Kd.Q_far (p := ⟨gb186, 1, none⟩) (Kd.Q_far (p := ⟨gb186, 0, none⟩) (Kd.Q_mono HO_0.out (fun k_ hk => (⟨hk, hk.2⟩ : _ ∧ k_ ≠ gb186))) (fun _ hk => hk.2) (.int .i64 ji15)) (fun _ hk => hk.2) (.int .i64 ji16)) (fun _ h_ => h_.1)))) k_ hk, Kd.fresh' (Kd.Q_lt (by (with_reducible repeat (first | apply Kd.Q_alloc | apply Kd.Q_drewN | apply Kd.Q_drew)); exact (Kd.Q_mono (Kd.Q_far (p := ⟨gb186, 1, none⟩) (Kd.Q_far (p := ⟨gb186, 0, none⟩) (Kd.Q_mono HO_1.out (fun k_ hk => (⟨hk, hk.2⟩ : _ ∧ k_ ≠ gb186))) (fun _ hk => hk.2) (.int .i64 ji15)) (fun _ hk => hk.2) (.int .i64 ji16)) (fun _ h_ => h_.1)))) k_ hk, Kd.freshB (g := gb186) (o := .cells #[.int .i64 ji15, .int .i64 ji16] 67 (0, 0)) (by (with_reducible repeat (first | refine blk_drewN ?_ _ | refine blk_drew ?_ | refine blk_alloc ?_ _)); refine blk_put (cs := #[.int .i64 ji15, .int .i64 0]) ?_ 1 _ rfl; (with_reducible repeat (first | refine blk_drewN ?_ _ | refine blk_drew ?_ | refine blk_alloc ?_ _)); refine blk_put (cs := #[.int .i64 0, .int .i64 0]) ?_ 0 _ rfl; (with_reducible repeat (first | refine blk_drewN ?_ _ | refine blk_drew ?_ | refine blk_alloc ?_ _)); exact BK186.out) k_ hk⟩)); (case aO => exact (by (with_reducible repeat (first | apply Kd.R_alloc | apply Kd.R_drewN | apply Kd.R_drew)); exact Kd.R_mono (Kd.R_far (p := ⟨gb186, 1, none⟩) (Kd.R_far (p := ⟨gb186, 0, none⟩) (Kd.R_mono HO_5.out (fun k_ hk => (⟨hk, hk.2⟩ : _ ∧ k_ ≠ gb186))) (fun _ hk => hk.2) (.int .i64 ji15)) (fun _ hk => hk.2) (.int .i64 ji16)) (fun _ hk => ⟨hk.1.1.1, ⟨hk.1.1.2, hk.1.2⟩⟩))); (case aS => exact (below_size (by repeat (first | (with_reducible first | exact HB.out | apply below_alloc | apply pw_below_drewN | apply below_drew1 | refine below_set ?_ GE186.out) | exact HB.out)))); (case aL => have := LMc18.out; omega); intro v188 w28 ho hb hg hat; rw [← Ny187.out] at ho; have n0_ := Aside0.mk (Kd.Q_after (ok := (fun k_ => some k_ ≠ (.slice (some ad183) x1_1.length co23 : Value).ownBlock ∧ k_ ≠ gb186)) (by (with_reducible repeat (first | apply Kd.Q_alloc | apply Kd.Q_drewN | apply Kd.Q_drew)); exact Kd.Q_mono (Kd.Q_far (p := ⟨gb186, 1, none⟩) (Kd.Q_far (p := ⟨gb186, 0, none⟩) (Kd.Q_mono HO_0.out (fun k_ hk => (⟨hk, hk.2⟩ : _ ∧ k_ ≠ gb186))) (fun _ hk => hk.2) (.int .i64 ji15)) (fun _ hk => hk.2) (.int .i64 ji16)) (fun _ hk => ⟨⟨hk.1.1.1, hk.1.2⟩, hk.1.1.2⟩)) hg hat); have n1_ := Aside0.mk (Kd.Q_after (ok := (fun k_ => some k_ ≠ (.slice (some ad182) x0_1.length co22 : Value).ownBlock ∧ k_ ≠ gb186)) (by (with_reducible repeat (first | apply Kd.Q_alloc | apply Kd.Q_drewN | apply Kd.Q_drew)); exact Kd.Q_mono (Kd.Q_far (p := ⟨gb186, 1, none⟩) (Kd.Q_far (p := ⟨gb186, 0, none⟩) (Kd.Q_mono HO_1.out (fun k_ hk => (⟨hk, hk.2⟩ : _ ∧ k_ ≠ gb186))) (fun _ hk => hk.2) (.int .i64 ji15)) (fun _ hk => hk.2) (.int .i64 ji16)) (fun _ hk => ⟨⟨hk.1.1.1, hk.1.2⟩, hk.1.1.2⟩)) hg hat); have n2_ := Aside0.mk (blk_grown (g := gb186) (o := .cells #[.int .i64 ji15, .int .i64 ji16] 67 (0, 0)) (by (with_reducible repeat (first | refine blk_drewN ?_ _ | refine blk_drew ?_ | refine blk_alloc ?_ _)); refine blk_put (cs := #[.int .i64 ji15, .int .i64 0]) ?_ 1 _ rfl; (with_reducible repeat (first | refine blk_drewN ?_ _ | refine blk_drew ?_ | refine blk_alloc ?_ _)); refine blk_put (cs := #[.int .i64 0, .int .i64 0]) ?_ 0 _ rfl; (with_reducible repeat (first | refine blk_drewN ?_ _ | refine blk_drew ?_ | refine blk_alloc ?_ _)); exact BK186.out) hg (Kd.R_away HO_5.out (fun _ hk => hk.2))); have n3_ := Aside0.mk (hb); have n4_ := Aside0.mk (ho); clear HO_0; clear HO_1; clear BK186; clear HB; clear HO_5; have HO_0 := n0_; have HO_1 := n1_; have BK186 := n2_; have HB := n3_; have HO189 := n4_; clear n0_ n1_ n2_ n3_ n4_; clear ho hb hg hat))
                        have n0_ := Aside0.mk (Kd.Q_drew HO_0.out)
                        have n1_ := Aside0.mk (Kd.Q_drew HO_1.out)
                        have n2_ := Aside0.mk (Kd.R_drew HO189.out)
                        have n3_ := Aside0.mk (blk_drew BK186.out)
                        have n4_ := Aside0.mk (below_drew1 HB.out)
                        clear HO_0
                        clear HO_1
                        clear HO189
                        clear BK186
                        clear HB
                        have HO_0 := n0_
                        have HO_1 := n1_
                        have HO189 := n2_
                        have BK186 := n3_
                        have HB := n4_
                        clear n0_ n1_ n2_ n3_ n4_
                        have p190 : 0 ≤ (0 : Int) := (by omega)
                        have q190 : 0 < (x0_1.length : Int) := of_decide_eq_true (by first | (with_reducible assumption) | assumption)
                        obtain ⟨ad190, e190, hx190_0, hx190_1⟩ := at_T67 (Kd.Q_reads' HO_0.out).2.2 0 p190 q190
                        obtain rfl : ad182 = ad190 := (by injection e190)
                        have qi190 : (0 < x0_1.length) = True := eq_true (by omega)
                        (try rw [show ((0 : Int)).toNat = 0 from rfl] at hx190_0)
                        (try rw [show 0 * 2 = 0 from rfl] at hx190_0)
                        (try rw [Addr.add_zero'] at hx190_0)
                        (try rw [show ((0 : Int)).toNat = 0 from rfl] at hx190_1)
                        (try rw [show 0 * 2 = 0 from rfl] at hx190_1)
                        (try rw [Addr.add_zero'] at hx190_1)
                        replace p190 := eq_true p190
                        replace q190 := eq_true q190
                        have p191 : 0 ≤ (0 : Int) := (by omega)
                        have q191 : 0 < (x1_1.length : Int) := of_decide_eq_true (by first | (with_reducible assumption) | assumption)
                        obtain ⟨ad191, e191, hx191_0, hx191_1⟩ := at_T67 (Kd.Q_reads' HO_1.out).2.2 0 p191 q191
                        obtain rfl : ad183 = ad191 := (by injection e191)
                        have qi191 : (0 < x1_1.length) = True := eq_true (by omega)
                        (try rw [show ((0 : Int)).toNat = 0 from rfl] at hx191_0)
                        (try rw [show 0 * 2 = 0 from rfl] at hx191_0)
                        (try rw [Addr.add_zero'] at hx191_0)
                        (try rw [show ((0 : Int)).toNat = 0 from rfl] at hx191_1)
                        (try rw [show 0 * 2 = 0 from rfl] at hx191_1)
                        (try rw [Addr.add_zero'] at hx191_1)
                        replace p191 := eq_true p191
                        replace q191 := eq_true q191
                        refine start_ (n := 9) (S := fun w' => w'.cell? ad182 = some (.int .i64 ((rd_T67 x0_1 0).f0)) ∧ w'.cell? ⟨ad182.block, ad182.off + 1, none⟩ = some (.int .i64 ((rd_T67 x0_1 0).f1)) ∧ w'.cell? ad183 = some (.int .i64 ((rd_T67 x1_1 0).f0)) ∧ w'.cell? ⟨ad183.block, ad183.off + 1, none⟩ = some (.int .i64 ((rd_T67 x1_1 0).f1))) (ds := []) #[false, false, false, false, false, false, false, false, false] (by kernel_rfl) rfl rfl ⟨hx190_0, hx190_1, hx191_0, hx191_1⟩ (fun hHeld => ?_); refine with_tabW agenda_Both.tab7 agenda_Both.bits7 (fun HT_ HW_ => ?_)
                        generalize w28.drew = w29 at HO_0 HO_1 HO189 BK186 HB hx190_0 hx190_1 hx191_0 hx191_1 hHeld ⊢
                        refine pure_ (i := 0) (N := some 47) (v := ?_) (a' := ?_) #[true, false, false, false, false, false, false, false, false] rfl rfl (any_of HT_.out (by kernel_rfl)) (fun _ _ _ h => h) (Or.inl ⟨by rfl, ?_⟩) ?_ ?_
                        rotate_left
                        · intro w'
                          go_simp
                          with_reducible rfl
                        rotate_left
                        · simp only [Act.put, List.setIfInBounds_toArray, List.set_cons_zero, List.set_cons_succ, i64_w, i32_w]
                          rfl
                        refine pure_ (i := 1) (N := some 48) (v := ?_) (a' := ?_) #[true, true, false, false, false, false, false, false, false] rfl rfl (any_of HT_.out (by kernel_rfl)) (fun _ _ _ h => h) (Or.inl ⟨by rfl, ?_⟩) ?_ ?_
                        rotate_left
                        · intro w'
                          go_simp
                          with_reducible rfl
                        rotate_left
                        · simp only [Act.put, List.setIfInBounds_toArray, List.set_cons_zero, List.set_cons_succ, i64_w, i32_w]
                          rfl
                        refine pure_ (i := 2) (N := some 49) (v := ?_) (a' := ?_) #[true, true, true, false, false, false, false, false, false] rfl rfl (any_of HT_.out (by kernel_rfl)) (fun _ _ _ h => h) (Or.inl ⟨by rfl, ?_⟩) ?_ ?_
                        rotate_left
                        · intro w'
                          go_simp
                          with_reducible rfl
                        rotate_left
                        · simp only [Act.put, List.setIfInBounds_toArray, List.set_cons_zero, List.set_cons_succ, i64_w, i32_w]
                          rfl
                        refine pure_ (i := 4) (N := some 51) (v := ?_) (a' := ?_) #[true, true, true, false, true, false, false, false, false] rfl rfl (any_of HT_.out (by kernel_rfl)) (fun _ _ _ h => h) (Or.inl ⟨by rfl, ?_⟩) ?_ ?_
                        rotate_left
                        · intro w'
                          go_simp
                          with_reducible rfl
                        rotate_left
                        · simp only [Act.put, List.setIfInBounds_toArray, List.set_cons_zero, List.set_cons_succ, i64_w, i32_w]
                          rfl
                        refine pure_ (i := 5) (N := some 52) (v := ?_) (a' := ?_) #[true, true, true, false, true, true, false, false, false] rfl rfl (any_of HT_.out (by kernel_rfl)) (fun _ _ _ h => h) (Or.inl ⟨by rfl, ?_⟩) ?_ ?_
                        rotate_left
                        · intro w'
                          go_simp
                          with_reducible rfl
                        rotate_left
                        · simp only [Act.put, List.setIfInBounds_toArray, List.set_cons_zero, List.set_cons_succ, i64_w, i32_w]
                          rfl
                        refine pure_ (i := 6) (N := some 53) (v := ?_) (a' := ?_) #[true, true, true, false, true, true, true, false, false] rfl rfl (any_of HT_.out (by kernel_rfl)) (fun _ _ _ h => h) (Or.inl ⟨by rfl, ?_⟩) ?_ ?_
                        rotate_left
                        · intro w'
                          go_simp
                          with_reducible rfl
                        rotate_left
                        · simp only [Act.put, List.setIfInBounds_toArray, List.set_cons_zero, List.set_cons_succ, i64_w, i32_w]
                          rfl
                        refine take_ (i := 3) (N := some 50) (v := ?_) (a' := ?_) #[true, true, true, true, true, true, true, false, false] rfl rfl (take_ofW HT_.out HW_.out (by kernel_rfl)) (fun _ _ _ h => h) (Or.inl ⟨by rfl, ?_⟩) hHeld ?_ ?_
                        rotate_left
                        · rintro w' ⟨s0, s1, s2, s3⟩
                          go_simp
                          with_reducible rfl
                        rotate_left
                        · simp only [Act.put, List.setIfInBounds_toArray, List.set_cons_zero, List.set_cons_succ, i64_w, i32_w]
                          rfl
                        refine take_ (i := 7) (N := some 54) (v := ?_) (a' := ?_) #[true, true, true, true, true, true, true, true, false] rfl rfl (take_ofW HT_.out HW_.out (by kernel_rfl)) (fun _ _ _ h => h) (Or.inl ⟨by rfl, ?_⟩) hHeld ?_ ?_
                        rotate_left
                        · rintro w' ⟨s0, s1, s2, s3⟩
                          go_simp
                          with_reducible rfl
                        rotate_left
                        · simp only [Act.put, List.setIfInBounds_toArray, List.set_cons_zero, List.set_cons_succ, i64_w, i32_w]
                          rfl
                        refine pure_ (i := 8) (N := some 55) (v := ?_) (a' := ?_) #[true, true, true, true, true, true, true, true, true] rfl rfl (any_of HT_.out (by kernel_rfl)) (fun _ _ _ h => h) (Or.inl ⟨by rfl, ?_⟩) ?_ ?_
                        rotate_left
                        · intro w'
                          go_simp
                          with_reducible rfl
                        rotate_left
                        · simp only [Act.put, List.setIfInBounds_toArray, List.set_cons_zero, List.set_cons_succ, i64_w, i32_w]
                          rfl
                        refine done_ (done_of HT_.out (by kernel_rfl)) ?_
                        have n_ := Aside0.mk (Kd.Q_mono (ok' := (fun k_ => some k_ ≠ (.slice (some ad183) x1_1.length co23 : Value).ownBlock ∧ some k_ ≠ (v188 : Value).ownBlock ∧ k_ ≠ gb186)) HO_0.out (fun k_ hk => ⟨hk.1.1, ⟨hk.2, hk.1.2⟩⟩))
                        clear HO_0
                        have HO_0 := n_
                        clear n_
                        have q30 : (1 : Int) ≤ ((x0_1.length : Int) : Int) := of_decide_eq_true (by first | (with_reducible assumption) | assumption)
                        obtain ⟨i030, hi030, _, hsz30, _⟩ := info_parts info67
                        have hcut30 := cut_from (P := Try.prog) 57 67 .i64 Try.underlying57 hi030 2 hsz30 (some ad182) x0_1.length co22 1 (by omega) q30
                        have hr30 := Kd.Q_drop (k := (1 : Int).toNat) HO_0.out (by omega)
                        obtain ⟨A30, hA30⟩ : ∃ A1, A1 = (if co22 = (1 : Int).toNat then (some ad182) else ((some ad182) : Option Addr).map (·.add ((1 : Int).toNat * 2))) := ⟨_, rfl⟩
                        obtain ⟨c30, hc30⟩ : ∃ c1, c1 = co22 - (1 : Int).toNat := ⟨_, rfl⟩
                        have hy30 : y192.length = x0_1.length - (1 : Int).toNat := (by rw [Ny192.out, List.length_drop])
                        rw [← Ny192.out] at hr30
                        rw [← hy30, ← hA30, ← hc30] at hcut30
                        replace hr30 : Kd.Q k67 67 w29 w.heap.size (fun k_ => some k_ ≠ (.slice (some ad183) x1_1.length co23 : Value).ownBlock ∧ some k_ ≠ (v188 : Value).ownBlock ∧ k_ ≠ gb186) (.slice A30 y192.length c30) y192 := (by rw [hA30, hc30, hy30]; exact hr30)
                        have HE30 : Aside0 ((Value.slice A30 y192.length c30).ownBlock = (.slice (some ad182) x0_1.length co22 : Value).ownBlock) := ⟨by rw [hA30]; split <;> (cases ((some ad182) : Option Addr) <;> rfl)⟩
                        clear hy30 hi030 hsz30 HO_0 hA30 hc30
                        have HO194 := Aside0.mk hr30
                        clear hr30
                        replace q30 := eq_true q30
                        have n_ := Aside0.mk (Kd.Q_mono (ok' := fun k_ => ((some k_ ≠ (.slice A30 y192.length c30 : Value).ownBlock ∧ k_ ≠ gb186) ∧ some k_ ≠ (v188 : Value).ownBlock)) HO_1.out (fun k_ hk => ⟨⟨(by rw [HE30.out]; exact hk.1.1), hk.1.2⟩, hk.2⟩))
                        clear HO_1
                        have HO_1 := n_
                        clear n_
                        have n_ := Aside0.mk (Kd.R_mono (ok' := fun k_ => (some k_ ≠ (.slice A30 y192.length c30 : Value).ownBlock ∧ (some k_ ≠ (.slice (some ad183) x1_1.length co23 : Value).ownBlock ∧ k_ ≠ gb186))) HO189.out (fun k_ hk => ⟨(by rw [HE30.out]; exact hk.1), ⟨hk.2.1, hk.2.2⟩⟩))
                        clear HO189
                        have HO189 := n_
                        clear n_
                        try go_wp2
                        go_roundg kj6
                        case measure => have := HK1.out; have := HJ6.out; omega
                        case rel => exact ⟨(y192), (x1_1), (y187), H', ⟨by have := HK1.out; have := HJ6.out; omega⟩, ⟨by (with_reducible repeat (first | apply Kd.Q_alloc | apply Kd.Q_drewN | apply Kd.Q_drew)); exact Kd.Q_mono HO194.out (fun _ hk => ⟨hk.1, hk.2.1⟩)⟩, ⟨by (with_reducible repeat (first | apply Kd.Q_alloc | apply Kd.Q_drewN | apply Kd.Q_drew)); exact Kd.Q_mono HO_1.out (fun _ hk => ⟨hk.1.1, hk.2⟩)⟩, ⟨by (with_reducible repeat (first | apply Kd.R_alloc | apply Kd.R_drewN | apply Kd.R_drew)); exact Kd.R_mono HO189.out (fun _ hk => ⟨hk.1, hk.2.1⟩)⟩, ⟨by repeat (first | (with_reducible first | exact HB.out | apply below_alloc | apply pw_below_drewN | apply below_drew1 | refine below_set ?_ GE186.out) | exact HB.out)⟩⟩
                      · rw [if_neg c20] at H
                        exact absurd H (by simp)
                    · rw [if_neg c19] at H
                      have c19b0 : decide (((rd_T67 x0_1 0).f1) < ((rd_T67 x1_1 0).f1)) = false := decide_eq_false c19
                      clear c19
                      by_cases c31 : 1 ≤ (x1_1.length : Int)
                      · rw [if_pos c31] at H
                        have c31b0 := eq_true c31
                        have c31b1 : decide (1 ≤ (x1_1.length : Int)) = true := decide_eq_true c31
                        clear c31
                        obtain ⟨y195, hy195⟩ : ∃ y_ : List (S67), y_ = (x1_1.drop (1 : Int).toNat) := ⟨_, rfl⟩
                        replace H : (agenda_Both.l0 kj6 x0_1 y195 y187) = some r := by first | (rw [hy195]; with_reducible exact H) | (have H2_ := (Option.bind_some _ _).symm.trans H; rw [hy195]; with_reducible exact H2_) | (have H2_ := (Option.bind_some _ _).symm.trans H; with_reducible exact H2_) | with_reducible exact H | (rw [hy195]; exact H) | exact H
                        have Ny195 := Aside0.mk hy195
                        clear hy195
                        have H' := Aside0.mk H
                        clear H
                        try go_wp2
                        have n0_ := Aside0.mk (Kd.Q_drew HO_0.out)
                        have n1_ := Aside0.mk (Kd.Q_drew HO_1.out)
                        have n2_ := Aside0.mk (Kd.R_drew HO_5.out)
                        have n3_ := Aside0.mk (below_drew1 HB.out)
                        clear HO_0
                        clear HO_1
                        clear HO_5
                        clear HB
                        have HO_0 := n0_
                        have HO_1 := n1_
                        have HO_5 := n2_
                        have HB := n3_
                        clear n0_ n1_ n2_ n3_
                        obtain ⟨Ao33, co33, eo33, _⟩ := Kd.Q_slice HO_0.out
                        (first | subst eo33 | (injection eo33 with f1_ f2_ f3_; have f4_ := f1_.symm; have f5_ := f3_.symm; clear f1_ f2_ f3_; subst f4_; subst f5_))
                        have p182 : 0 ≤ (0 : Int) := (by omega)
                        have q182 : 0 < (x0_1.length : Int) := of_decide_eq_true (by first | (with_reducible assumption) | assumption)
                        obtain ⟨ad182, e182, hx182_0, hx182_1⟩ := at_T67 (Kd.Q_reads' HO_0.out).2.2 0 p182 q182
                        cases e182
                        have qi182 : (0 < x0_1.length) = True := eq_true (by omega)
                        (try rw [show ((0 : Int)).toNat = 0 from rfl] at hx182_0)
                        (try rw [show 0 * 2 = 0 from rfl] at hx182_0)
                        (try rw [Addr.add_zero'] at hx182_0)
                        (try rw [show ((0 : Int)).toNat = 0 from rfl] at hx182_1)
                        (try rw [show 0 * 2 = 0 from rfl] at hx182_1)
                        (try rw [Addr.add_zero'] at hx182_1)
                        replace p182 := eq_true p182
                        replace q182 := eq_true q182
                        obtain ⟨Ao34, co34, eo34, _⟩ := Kd.Q_slice HO_1.out
                        (first | subst eo34 | (injection eo34 with f1_ f2_ f3_; have f4_ := f1_.symm; have f5_ := f3_.symm; clear f1_ f2_ f3_; subst f4_; subst f5_))
                        have p183 : 0 ≤ (0 : Int) := (by omega)
                        have q183 : 0 < (x1_1.length : Int) := of_decide_eq_true (by first | (with_reducible assumption) | assumption)
                        obtain ⟨ad183, e183, hx183_0, hx183_1⟩ := at_T67 (Kd.Q_reads' HO_1.out).2.2 0 p183 q183
                        cases e183
                        have qi183 : (0 < x1_1.length) = True := eq_true (by omega)
                        (try rw [show ((0 : Int)).toNat = 0 from rfl] at hx183_0)
                        (try rw [show 0 * 2 = 0 from rfl] at hx183_0)
                        (try rw [Addr.add_zero'] at hx183_0)
                        (try rw [show ((0 : Int)).toNat = 0 from rfl] at hx183_1)
                        (try rw [show 0 * 2 = 0 from rfl] at hx183_1)
                        (try rw [Addr.add_zero'] at hx183_1)
                        replace p183 := eq_true p183
                        replace q183 := eq_true q183
                        have p184 : 0 ≤ (0 : Int) := (by omega)
                        have q184 : 0 < (x0_1.length : Int) := of_decide_eq_true (by first | (with_reducible assumption) | assumption)
                        obtain ⟨ad184, e184, hx184_0, hx184_1⟩ := at_T67 (Kd.Q_reads' HO_0.out).2.2 0 p184 q184
                        obtain rfl : ad182 = ad184 := (by injection e184)
                        have qi184 : (0 < x0_1.length) = True := eq_true (by omega)
                        (try rw [show ((0 : Int)).toNat = 0 from rfl] at hx184_0)
                        (try rw [show 0 * 2 = 0 from rfl] at hx184_0)
                        (try rw [Addr.add_zero'] at hx184_0)
                        (try rw [show ((0 : Int)).toNat = 0 from rfl] at hx184_1)
                        (try rw [show 0 * 2 = 0 from rfl] at hx184_1)
                        (try rw [Addr.add_zero'] at hx184_1)
                        replace p184 := eq_true p184
                        replace q184 := eq_true q184
                        have p185 : 0 ≤ (0 : Int) := (by omega)
                        have q185 : 0 < (x1_1.length : Int) := of_decide_eq_true (by first | (with_reducible assumption) | assumption)
                        obtain ⟨ad185, e185, hx185_0, hx185_1⟩ := at_T67 (Kd.Q_reads' HO_1.out).2.2 0 p185 q185
                        obtain rfl : ad183 = ad185 := (by injection e185)
                        have qi185 : (0 < x1_1.length) = True := eq_true (by omega)
                        (try rw [show ((0 : Int)).toNat = 0 from rfl] at hx185_0)
                        (try rw [show 0 * 2 = 0 from rfl] at hx185_0)
                        (try rw [Addr.add_zero'] at hx185_0)
                        (try rw [show ((0 : Int)).toNat = 0 from rfl] at hx185_1)
                        (try rw [show 0 * 2 = 0 from rfl] at hx185_1)
                        (try rw [Addr.add_zero'] at hx185_1)
                        replace p185 := eq_true p185
                        replace q185 := eq_true q185
                        refine start_ (n := 21) (S := fun w' => w'.cell? ad182 = some (.int .i64 ((rd_T67 x0_1 0).f0)) ∧ w'.cell? ⟨ad182.block, ad182.off + 1, none⟩ = some (.int .i64 ((rd_T67 x0_1 0).f1)) ∧ w'.cell? ad183 = some (.int .i64 ((rd_T67 x1_1 0).f0)) ∧ w'.cell? ⟨ad183.block, ad183.off + 1, none⟩ = some (.int .i64 ((rd_T67 x1_1 0).f1)) ∧ w'.cell? ad182 = some (.int .i64 ((rd_T67 x0_1 0).f0)) ∧ w'.cell? ⟨ad182.block, ad182.off + 1, none⟩ = some (.int .i64 ((rd_T67 x0_1 0).f1)) ∧ w'.cell? ad183 = some (.int .i64 ((rd_T67 x1_1 0).f0)) ∧ w'.cell? ⟨ad183.block, ad183.off + 1, none⟩ = some (.int .i64 ((rd_T67 x1_1 0).f1))) (ds := []) #[false, false, false, false, false, false, false, false, false, false, false, false, false, false, false, false, false, false, false, false, false] (by kernel_rfl) rfl rfl ⟨hx182_0, hx182_1, hx183_0, hx183_1, hx184_0, hx184_1, hx185_0, hx185_1⟩ (fun hHeld => ?_); refine with_tabW agenda_Both.tab4 agenda_Both.bits4 (fun HT_ HW_ => ?_)
                        generalize wc.drew = w32 at HO_0 HO_1 HO_5 HB hx182_0 hx182_1 hx183_0 hx183_1 hx184_0 hx184_1 hx185_0 hx185_1 hHeld ⊢
                        refine pure_ (i := 0) (N := some 19) (v := ?_) (a' := ?_) #[true, false, false, false, false, false, false, false, false, false, false, false, false, false, false, false, false, false, false, false, false] rfl rfl (any_of HT_.out (by kernel_rfl)) (fun _ _ _ h => h) (Or.inl ⟨by rfl, ?_⟩) ?_ ?_
                        rotate_left
                        · intro w'
                          go_simp
                          with_reducible rfl
                        rotate_left
                        · simp only [Act.put, List.setIfInBounds_toArray, List.set_cons_zero, List.set_cons_succ, i64_w, i32_w]
                          rfl
                        refine pure_ (i := 1) (N := some 20) (v := ?_) (a' := ?_) #[true, true, false, false, false, false, false, false, false, false, false, false, false, false, false, false, false, false, false, false, false] rfl rfl (any_of HT_.out (by kernel_rfl)) (fun _ _ _ h => h) (Or.inl ⟨by rfl, ?_⟩) ?_ ?_
                        rotate_left
                        · intro w'
                          go_simp
                          with_reducible rfl
                        rotate_left
                        · simp only [Act.put, List.setIfInBounds_toArray, List.set_cons_zero, List.set_cons_succ, i64_w, i32_w]
                          rfl
                        refine pure_ (i := 2) (N := some 21) (v := ?_) (a' := ?_) #[true, true, true, false, false, false, false, false, false, false, false, false, false, false, false, false, false, false, false, false, false] rfl rfl (any_of HT_.out (by kernel_rfl)) (fun _ _ _ h => h) (Or.inl ⟨by rfl, ?_⟩) ?_ ?_
                        rotate_left
                        · intro w'
                          go_simp
                          with_reducible rfl
                        rotate_left
                        · simp only [Act.put, List.setIfInBounds_toArray, List.set_cons_zero, List.set_cons_succ, i64_w, i32_w]
                          rfl
                        refine pure_ (i := 4) (N := some 23) (v := ?_) (a' := ?_) #[true, true, true, false, true, false, false, false, false, false, false, false, false, false, false, false, false, false, false, false, false] rfl rfl (any_of HT_.out (by kernel_rfl)) (fun _ _ _ h => h) (Or.inl ⟨by rfl, ?_⟩) ?_ ?_
                        rotate_left
                        · intro w'
                          go_simp
                          with_reducible rfl
                        rotate_left
                        · simp only [Act.put, List.setIfInBounds_toArray, List.set_cons_zero, List.set_cons_succ, i64_w, i32_w]
                          rfl
                        refine pure_ (i := 5) (N := some 24) (v := ?_) (a' := ?_) #[true, true, true, false, true, true, false, false, false, false, false, false, false, false, false, false, false, false, false, false, false] rfl rfl (any_of HT_.out (by kernel_rfl)) (fun _ _ _ h => h) (Or.inl ⟨by rfl, ?_⟩) ?_ ?_
                        rotate_left
                        · intro w'
                          go_simp
                          with_reducible rfl
                        rotate_left
                        · simp only [Act.put, List.setIfInBounds_toArray, List.set_cons_zero, List.set_cons_succ, i64_w, i32_w]
                          rfl
                        refine pure_ (i := 6) (N := some 25) (v := ?_) (a' := ?_) #[true, true, true, false, true, true, true, false, false, false, false, false, false, false, false, false, false, false, false, false, false] rfl rfl (any_of HT_.out (by kernel_rfl)) (fun _ _ _ h => h) (Or.inl ⟨by rfl, ?_⟩) ?_ ?_
                        rotate_left
                        · intro w'
                          go_simp
                          with_reducible rfl
                        rotate_left
                        · simp only [Act.put, List.setIfInBounds_toArray, List.set_cons_zero, List.set_cons_succ, i64_w, i32_w]
                          rfl
                        refine pure_ (i := 9) (N := some 28) (v := ?_) (a' := ?_) #[true, true, true, false, true, true, true, false, false, true, false, false, false, false, false, false, false, false, false, false, false] rfl rfl (any_of HT_.out (by kernel_rfl)) (fun _ _ _ h => h) (Or.inl ⟨by rfl, ?_⟩) ?_ ?_
                        rotate_left
                        · intro w'
                          go_simp
                          with_reducible rfl
                        rotate_left
                        · simp only [Act.put, List.setIfInBounds_toArray, List.set_cons_zero, List.set_cons_succ, i64_w, i32_w]
                          rfl
                        refine pure_ (i := 10) (N := some 29) (v := ?_) (a' := ?_) #[true, true, true, false, true, true, true, false, false, true, true, false, false, false, false, false, false, false, false, false, false] rfl rfl (any_of HT_.out (by kernel_rfl)) (fun _ _ _ h => h) (Or.inl ⟨by rfl, ?_⟩) ?_ ?_
                        rotate_left
                        · intro w'
                          go_simp
                          with_reducible rfl
                        rotate_left
                        · simp only [Act.put, List.setIfInBounds_toArray, List.set_cons_zero, List.set_cons_succ, i64_w, i32_w]
                          rfl
                        refine pure_ (i := 11) (N := some 30) (v := ?_) (a' := ?_) #[true, true, true, false, true, true, true, false, false, true, true, true, false, false, false, false, false, false, false, false, false] rfl rfl (any_of HT_.out (by kernel_rfl)) (fun _ _ _ h => h) (Or.inl ⟨by rfl, ?_⟩) ?_ ?_
                        rotate_left
                        · intro w'
                          go_simp
                          with_reducible rfl
                        rotate_left
                        · simp only [Act.put, List.setIfInBounds_toArray, List.set_cons_zero, List.set_cons_succ, i64_w, i32_w]
                          rfl
                        refine pure_ (i := 13) (N := some 32) (v := ?_) (a' := ?_) #[true, true, true, false, true, true, true, false, false, true, true, true, false, true, false, false, false, false, false, false, false] rfl rfl (any_of HT_.out (by kernel_rfl)) (fun _ _ _ h => h) (Or.inl ⟨by rfl, ?_⟩) ?_ ?_
                        rotate_left
                        · intro w'
                          go_simp
                          with_reducible rfl
                        rotate_left
                        · simp only [Act.put, List.setIfInBounds_toArray, List.set_cons_zero, List.set_cons_succ, i64_w, i32_w]
                          rfl
                        refine pure_ (i := 14) (N := some 33) (v := ?_) (a' := ?_) #[true, true, true, false, true, true, true, false, false, true, true, true, false, true, true, false, false, false, false, false, false] rfl rfl (any_of HT_.out (by kernel_rfl)) (fun _ _ _ h => h) (Or.inl ⟨by rfl, ?_⟩) ?_ ?_
                        rotate_left
                        · intro w'
                          go_simp
                          with_reducible rfl
                        rotate_left
                        · simp only [Act.put, List.setIfInBounds_toArray, List.set_cons_zero, List.set_cons_succ, i64_w, i32_w]
                          rfl
                        refine pure_ (i := 15) (N := some 34) (v := ?_) (a' := ?_) #[true, true, true, false, true, true, true, false, false, true, true, true, false, true, true, true, false, false, false, false, false] rfl rfl (any_of HT_.out (by kernel_rfl)) (fun _ _ _ h => h) (Or.inl ⟨by rfl, ?_⟩) ?_ ?_
                        rotate_left
                        · intro w'
                          go_simp
                          with_reducible rfl
                        rotate_left
                        · simp only [Act.put, List.setIfInBounds_toArray, List.set_cons_zero, List.set_cons_succ, i64_w, i32_w]
                          rfl
                        refine take_ (i := 3) (N := some 22) (v := ?_) (a' := ?_) #[true, true, true, true, true, true, true, false, false, true, true, true, false, true, true, true, false, false, false, false, false] rfl rfl (take_ofW HT_.out HW_.out (by kernel_rfl)) (fun _ _ _ h => h) (Or.inl ⟨by rfl, ?_⟩) hHeld ?_ ?_
                        rotate_left
                        · rintro w' ⟨s0, s1, s2, s3, s4, s5, s6, s7⟩
                          go_simp
                          with_reducible rfl
                        rotate_left
                        · simp only [Act.put, List.setIfInBounds_toArray, List.set_cons_zero, List.set_cons_succ, i64_w, i32_w]
                          rfl
                        refine take_ (i := 7) (N := some 26) (v := ?_) (a' := ?_) #[true, true, true, true, true, true, true, true, false, true, true, true, false, true, true, true, false, false, false, false, false] rfl rfl (take_ofW HT_.out HW_.out (by kernel_rfl)) (fun _ _ _ h => h) (Or.inl ⟨by rfl, ?_⟩) hHeld ?_ ?_
                        rotate_left
                        · rintro w' ⟨s0, s1, s2, s3, s4, s5, s6, s7⟩
                          go_simp
                          with_reducible rfl
                        rotate_left
                        · simp only [Act.put, List.setIfInBounds_toArray, List.set_cons_zero, List.set_cons_succ, i64_w, i32_w]
                          rfl
                        refine pure_ (i := 8) (N := some 27) (v := ?_) (a' := ?_) #[true, true, true, true, true, true, true, true, true, true, true, true, false, true, true, true, false, false, false, false, false] rfl rfl (any_of HT_.out (by kernel_rfl)) (fun _ _ _ h => h) (Or.inl ⟨by rfl, ?_⟩) ?_ ?_
                        rotate_left
                        · intro w'
                          go_simp
                          with_reducible rfl
                        rotate_left
                        · simp only [Act.put, List.setIfInBounds_toArray, List.set_cons_zero, List.set_cons_succ, i64_w, i32_w]
                          rfl
                        refine take_ (i := 12) (N := some 31) (v := ?_) (a' := ?_) #[true, true, true, true, true, true, true, true, true, true, true, true, true, true, true, true, false, false, false, false, false] rfl rfl (take_ofW HT_.out HW_.out (by kernel_rfl)) (fun _ _ _ h => h) (Or.inl ⟨by rfl, ?_⟩) hHeld ?_ ?_
                        rotate_left
                        · rintro w' ⟨s0, s1, s2, s3, s4, s5, s6, s7⟩
                          go_simp
                          with_reducible rfl
                        rotate_left
                        · simp only [Act.put, List.setIfInBounds_toArray, List.set_cons_zero, List.set_cons_succ, i64_w, i32_w]
                          rfl
                        refine take_ (i := 16) (N := some 35) (v := ?_) (a' := ?_) #[true, true, true, true, true, true, true, true, true, true, true, true, true, true, true, true, true, false, false, false, false] rfl rfl (take_ofW HT_.out HW_.out (by kernel_rfl)) (fun _ _ _ h => h) (Or.inl ⟨by rfl, ?_⟩) hHeld ?_ ?_
                        rotate_left
                        · rintro w' ⟨s0, s1, s2, s3, s4, s5, s6, s7⟩
                          go_simp
                          with_reducible rfl
                        rotate_left
                        · simp only [Act.put, List.setIfInBounds_toArray, List.set_cons_zero, List.set_cons_succ, i64_w, i32_w]
                          rfl
                        refine pure_ (i := 17) (N := some 36) (v := ?_) (a' := ?_) #[true, true, true, true, true, true, true, true, true, true, true, true, true, true, true, true, true, true, false, false, false] rfl rfl (any_of HT_.out (by kernel_rfl)) (fun _ _ _ h => h) (Or.inl ⟨by rfl, ?_⟩) ?_ ?_
                        rotate_left
                        · intro w'
                          go_simp
                          with_reducible rfl
                        rotate_left
                        · simp only [Act.put, List.setIfInBounds_toArray, List.set_cons_zero, List.set_cons_succ, i64_w, i32_w]
                          rfl
                        refine pure_ (i := 18) (N := some 37) (v := ?_) (a' := ?_) #[true, true, true, true, true, true, true, true, true, true, true, true, true, true, true, true, true, true, true, false, false] rfl rfl (any_of HT_.out (by kernel_rfl)) (fun _ _ _ h => h) (Or.inl ⟨by rfl, ?_⟩) ?_ ?_
                        rotate_left
                        · intro w'
                          go_simp
                          with_reducible rfl
                        rotate_left
                        · simp only [Act.put, List.setIfInBounds_toArray, List.set_cons_zero, List.set_cons_succ, i64_w, i32_w]
                          rfl
                        refine one_ (i := 19) (N := some 6) #[true, true, true, true, true, true, true, true, true, true, true, true, true, true, true, true, true, true, true, true, false] rfl rfl (one_of HT_.out (by kernel_rfl)) (by decide) (fun K hK => ?_)
                        refine box_step ?hg (N := 6) ?hd (cs := #[.int .i64 0, .int .i64 0]) (t := 67) ?hr ?_; (case hd => rfl); (case hg => rfl); (case hr => first | (go_simp; done) | (go_simp; rfl))
                        intro gb186 hg w35 hbox hb
                        have HS0_ := (hb.cell (World.block_lt_of_cell? _ _ (hHeld.1))).trans (hHeld.1)
                        have HS1_ := (hb.cell (World.block_lt_of_cell? _ _ (hHeld.2.1))).trans (hHeld.2.1)
                        have HS2_ := (hb.cell (World.block_lt_of_cell? _ _ (hHeld.2.2.1))).trans (hHeld.2.2.1)
                        have HS3_ := (hb.cell (World.block_lt_of_cell? _ _ (hHeld.2.2.2.1))).trans (hHeld.2.2.2.1)
                        have HS4_ := (hb.cell (World.block_lt_of_cell? _ _ (hHeld.2.2.2.2.1))).trans (hHeld.2.2.2.2.1)
                        have HS5_ := (hb.cell (World.block_lt_of_cell? _ _ (hHeld.2.2.2.2.2.1))).trans (hHeld.2.2.2.2.2.1)
                        have HS6_ := (hb.cell (World.block_lt_of_cell? _ _ (hHeld.2.2.2.2.2.2.1))).trans (hHeld.2.2.2.2.2.2.1)
                        have HS7_ := (hb.cell (World.block_lt_of_cell? _ _ (hHeld.2.2.2.2.2.2.2))).trans (hHeld.2.2.2.2.2.2.2)
                        have n0_ := Aside0.mk (Kd.Q_below (Kd.Q_elderB (by (with_reducible repeat (first | apply Kd.Q_alloc | apply Kd.Q_drewN | apply Kd.Q_drew)); exact HO_0.out) gb186 (Nat.le_of_eq hg.symm)) hb)
                        have n1_ := Aside0.mk (Kd.Q_below (Kd.Q_elderB (by (with_reducible repeat (first | apply Kd.Q_alloc | apply Kd.Q_drewN | apply Kd.Q_drew)); exact HO_1.out) gb186 (Nat.le_of_eq hg.symm)) hb)
                        have n2_ := Aside0.mk (Kd.R_below (Kd.R_elderB (by (with_reducible repeat (first | apply Kd.R_alloc | apply Kd.R_drewN | apply Kd.R_drew)); exact HO_5.out) gb186 (Nat.le_of_eq hg.symm)) hb)
                        have n3_ := Aside0.mk (below_step (by repeat (first | (with_reducible first | exact HB.out | apply below_alloc | apply pw_below_drewN | apply below_drew1) | exact HB.out)) hb)
                        have n4_ := Aside0.mk (hbox)
                        have n5_ := Aside0.mk ((by rw [hg]; exact (below_size (by repeat (first | (with_reducible first | exact HB.out | apply below_alloc | apply pw_below_drewN | apply below_drew1) | exact HB.out))) : w.heap.size ≤ gb186))
                        have n6_ := Aside0.mk ((by rw [hg]; exact (below_size (by repeat (first | (with_reducible first | exact HB.out | apply below_alloc | apply pw_below_drewN | apply below_drew1) | exact HB.out))) : w.heap.size ≤ gb186))
                        clear HO_0
                        clear HO_1
                        clear HO_5
                        clear HB
                        have HO_0 := n0_
                        have HO_1 := n1_
                        have HO_5 := n2_
                        have HB := n3_
                        have BK186 := n4_
                        have GW186 := n5_
                        have GE186 := n6_
                        clear n0_ n1_ n2_ n3_ n4_ n5_ n6_
                        clear hb hbox hg
                        refine hK.out _ _ ⟨HS0_, HS1_, HS2_, HS3_, HS4_, HS5_, HS6_, HS7_⟩ (fun hHeld => ?_)
                        clear hK K
                        refine norm_ (a' := ?_) ?_ ?_
                        rotate_left
                        · show Act.put _ (some 6) _ = _
                          simp only [Act.put, List.setIfInBounds_toArray, List.set_cons_zero, List.set_cons_succ, i64_w, i32_w]
                          rfl
                        refine one_ (i := 20) (N := none) #[true, true, true, true, true, true, true, true, true, true, true, true, true, true, true, true, true, true, true, true, true] rfl rfl (one_of HT_.out (by kernel_rfl)) (by decide) (fun K hK => ?_)
                        have hs36 : w35.cell? ⟨gb186, 0, none⟩ = some (.int .i64 0) := (blk_cell BK186.out 0).trans rfl
                        have hfs36 := blk_frozen BK186.out 0
                        have hs37 : w35.cell? ⟨gb186, 1, none⟩ = some (.int .i64 0) := (blk_cell BK186.out 1).trans rfl
                        have hfs37 := blk_frozen BK186.out 1
                        refine skip_ (w1 := ?_) (by rfl) rfl ?_ ?_
                        rotate_left
                        · go_simp
                          rfl
                        have ff0_ := Kd.own_blk (Kd.Q_away HO_0.out (fun _ hk => hk.2))
                        have ff1_ := Kd.own_blk (Kd.Q_away HO_1.out (fun _ hk => hk.2))
                        refine hK.out _ _ ⟨((cell_far (p := ⟨gb186, _, none⟩) (by exact ff0_) _).trans (((cell_far (p := ⟨gb186, _, none⟩) (by exact ff0_) _).trans (hHeld.1)))), ((cell_far (p := ⟨gb186, _, none⟩) (by exact ff0_) _).trans (((cell_far (p := ⟨gb186, _, none⟩) (by exact ff0_) _).trans (hHeld.2.1)))), ((cell_far (p := ⟨gb186, _, none⟩) (by exact ff1_) _).trans (((cell_far (p := ⟨gb186, _, none⟩) (by exact ff1_) _).trans (hHeld.2.2.1)))), ((cell_far (p := ⟨gb186, _, none⟩) (by exact ff1_) _).trans (((cell_far (p := ⟨gb186, _, none⟩) (by exact ff1_) _).trans (hHeld.2.2.2.1)))), ((cell_far (p := ⟨gb186, _, none⟩) (by exact ff0_) _).trans (((cell_far (p := ⟨gb186, _, none⟩) (by exact ff0_) _).trans (hHeld.2.2.2.2.1)))), ((cell_far (p := ⟨gb186, _, none⟩) (by exact ff0_) _).trans (((cell_far (p := ⟨gb186, _, none⟩) (by exact ff0_) _).trans (hHeld.2.2.2.2.2.1)))), ((cell_far (p := ⟨gb186, _, none⟩) (by exact ff1_) _).trans (((cell_far (p := ⟨gb186, _, none⟩) (by exact ff1_) _).trans (hHeld.2.2.2.2.2.2.1)))), ((cell_far (p := ⟨gb186, _, none⟩) (by exact ff1_) _).trans (((cell_far (p := ⟨gb186, _, none⟩) (by exact ff1_) _).trans (hHeld.2.2.2.2.2.2.2))))⟩ (fun hHeld => ?_)
                        clear hK K
                        refine done_ (done_of HT_.out (by kernel_rfl)) ?_
                        have hcz38_0 : w35.cell? ⟨gb186, 0, none⟩ = some (.int .i64 0) := (blk_cell BK186.out 0).trans rfl
                        have hcz38_1 : w35.cell? ⟨gb186, 1, none⟩ = some (.int .i64 0) := (blk_cell BK186.out 1).trans rfl
                        have hfz38_0 := blk_frozen BK186.out 0
                        have hfz38_1 := blk_frozen BK186.out 1
                        try go_wp2_with (first | ((with_reducible refine gate_builtin (b := .append) (xs := #[.tmp 43, .tmp 45]) rfl ?_); (try (refine gate_guard (by rfl) ?_; dsimp only)); at_builtin; refine Kd.R_append k67 (w0 := w) w.heap.size rfl (.tmp 43) (.tmp 45) 57 67 (.agg #[(.int .i64 0), (.int .i64 0)]) 16 rfl Try.underlying57 info67 rfl (by decide) (by omega) u5 x5_1 (⟨ji15, ji16⟩ : S67) [.int .i64 ji15, .int .i64 ji16] (fun k_ => some k_ ≠ (.slice (some ad182) x0_1.length co33 : Value).ownBlock ∧ some k_ ≠ (.slice (some ad183) x1_1.length co34 : Value).ownBlock ∧ k_ ≠ gb186) (fun _ => False) rfl (by first | (go_simp; done) | (go_simp; rfl)) ?aP (fun _ hk => hk.elim) ?aF ?aO ?aB ?aS ?aL ?_; (case aP => exact k67_mkM _ _ _ (⟨ji15, ji16⟩ : S67)); (case aB => exact (by repeat (first | (with_reducible first | exact HB.out | apply below_alloc | apply pw_below_drewN | apply below_drew1 | refine below_set ?_ GE186.out) | exact HB.out))); (case aF => exact (fun k_ hk => ⟨Kd.fresh' (Kd.Q_lt (by (with_reducible repeat (first | apply Kd.Q_alloc | apply Kd.Q_drewN | apply Kd.Q_drew)); exact (Kd.Q_mono (Kd.Q_far (p := ⟨gb186, 1, none⟩) (Kd.Q_far (p := ⟨gb186, 0, none⟩) (Kd.Q_mono HO_0.out (fun k_ hk => (⟨hk, hk.2⟩ : _ ∧ k_ ≠ gb186))) (fun _ hk => hk.2) (.int .i64 ji15)) (fun _ hk => hk.2) (.int .i64 ji16)) (fun _ h_ => h_.1)))) k_ hk, Kd.fresh' (Kd.Q_lt (by (with_reducible repeat (first | apply Kd.Q_alloc | apply Kd.Q_drewN | apply Kd.Q_drew)); exact (Kd.Q_mono (Kd.Q_far (p := ⟨gb186, 1, none⟩) (Kd.Q_far (p := ⟨gb186, 0, none⟩) (Kd.Q_mono HO_1.out (fun k_ hk => (⟨hk, hk.2⟩ : _ ∧ k_ ≠ gb186))) (fun _ hk => hk.2) (.int .i64 ji15)) (fun _ hk => hk.2) (.int .i64 ji16)) (fun _ h_ => h_.1)))) k_ hk, Kd.freshB (g := gb186) (o := .cells #[.int .i64 ji15, .int .i64 ji16] 67 (0, 0)) (by (with_reducible repeat (first | refine blk_drewN ?_ _ | refine blk_drew ?_ | refine blk_alloc ?_ _)); refine blk_put (cs := #[.int .i64 ji15, .int .i64 0]) ?_ 1 _ rfl; (with_reducible repeat (first | refine blk_drewN ?_ _ | refine blk_drew ?_ | refine blk_alloc ?_ _)); refine blk_put (cs := #[.int .i64 0, .int .i64 0]) ?_ 0 _ rfl; (with_reducible repeat (first | refine blk_drewN ?_ _ | refine blk_drew ?_ | refine blk_alloc ?_ _)); exact BK186.out) k_ hk⟩)); (case aO => exact (by (with_reducible repeat (first | apply Kd.R_alloc | apply Kd.R_drewN | apply Kd.R_drew)); exact Kd.R_mono (Kd.R_far (p := ⟨gb186, 1, none⟩) (Kd.R_far (p := ⟨gb186, 0, none⟩) (Kd.R_mono HO_5.out (fun k_ hk => (⟨hk, hk.2⟩ : _ ∧ k_ ≠ gb186))) (fun _ hk => hk.2) (.int .i64 ji15)) (fun _ hk => hk.2) (.int .i64 ji16)) (fun _ hk => ⟨hk.1.1.1, ⟨hk.1.1.2, hk.1.2⟩⟩))); (case aS => exact (below_size (by repeat (first | (with_reducible first | exact HB.out | apply below_alloc | apply pw_below_drewN | apply below_drew1 | refine below_set ?_ GE186.out) | exact HB.out)))); (case aL => have := LMc18.out; omega); intro v188 w39 ho hb hg hat; rw [← Ny187.out] at ho; have n0_ := Aside0.mk (Kd.Q_after (ok := (fun k_ => some k_ ≠ (.slice (some ad183) x1_1.length co34 : Value).ownBlock ∧ k_ ≠ gb186)) (by (with_reducible repeat (first | apply Kd.Q_alloc | apply Kd.Q_drewN | apply Kd.Q_drew)); exact Kd.Q_mono (Kd.Q_far (p := ⟨gb186, 1, none⟩) (Kd.Q_far (p := ⟨gb186, 0, none⟩) (Kd.Q_mono HO_0.out (fun k_ hk => (⟨hk, hk.2⟩ : _ ∧ k_ ≠ gb186))) (fun _ hk => hk.2) (.int .i64 ji15)) (fun _ hk => hk.2) (.int .i64 ji16)) (fun _ hk => ⟨⟨hk.1.1.1, hk.1.2⟩, hk.1.1.2⟩)) hg hat); have n1_ := Aside0.mk (Kd.Q_after (ok := (fun k_ => some k_ ≠ (.slice (some ad182) x0_1.length co33 : Value).ownBlock ∧ k_ ≠ gb186)) (by (with_reducible repeat (first | apply Kd.Q_alloc | apply Kd.Q_drewN | apply Kd.Q_drew)); exact Kd.Q_mono (Kd.Q_far (p := ⟨gb186, 1, none⟩) (Kd.Q_far (p := ⟨gb186, 0, none⟩) (Kd.Q_mono HO_1.out (fun k_ hk => (⟨hk, hk.2⟩ : _ ∧ k_ ≠ gb186))) (fun _ hk => hk.2) (.int .i64 ji15)) (fun _ hk => hk.2) (.int .i64 ji16)) (fun _ hk => ⟨⟨hk.1.1.1, hk.1.2⟩, hk.1.1.2⟩)) hg hat); have n2_ := Aside0.mk (blk_grown (g := gb186) (o := .cells #[.int .i64 ji15, .int .i64 ji16] 67 (0, 0)) (by (with_reducible repeat (first | refine blk_drewN ?_ _ | refine blk_drew ?_ | refine blk_alloc ?_ _)); refine blk_put (cs := #[.int .i64 ji15, .int .i64 0]) ?_ 1 _ rfl; (with_reducible repeat (first | refine blk_drewN ?_ _ | refine blk_drew ?_ | refine blk_alloc ?_ _)); refine blk_put (cs := #[.int .i64 0, .int .i64 0]) ?_ 0 _ rfl; (with_reducible repeat (first | refine blk_drewN ?_ _ | refine blk_drew ?_ | refine blk_alloc ?_ _)); exact BK186.out) hg (Kd.R_away HO_5.out (fun _ hk => hk.2))); have n3_ := Aside0.mk (hb); have n4_ := Aside0.mk (ho); clear HO_0; clear HO_1; clear BK186; clear HB; clear HO_5; have HO_0 := n0_; have HO_1 := n1_; have BK186 := n2_; have HB := n3_; have HO189 := n4_; clear n0_ n1_ n2_ n3_ n4_; clear ho hb hg hat))
                        have n0_ := Aside0.mk (Kd.Q_drew HO_0.out)
                        have n1_ := Aside0.mk (Kd.Q_drew HO_1.out)
                        have n2_ := Aside0.mk (Kd.R_drew HO189.out)
                        have n3_ := Aside0.mk (blk_drew BK186.out)
                        have n4_ := Aside0.mk (below_drew1 HB.out)
                        clear HO_0
                        clear HO_1
                        clear HO189
                        clear BK186
                        clear HB
                        have HO_0 := n0_
                        have HO_1 := n1_
                        have HO189 := n2_
                        have BK186 := n3_
                        have HB := n4_
                        clear n0_ n1_ n2_ n3_ n4_
                        have p190 : 0 ≤ (0 : Int) := (by omega)
                        have q190 : 0 < (x0_1.length : Int) := of_decide_eq_true (by first | (with_reducible assumption) | assumption)
                        obtain ⟨ad190, e190, hx190_0, hx190_1⟩ := at_T67 (Kd.Q_reads' HO_0.out).2.2 0 p190 q190
                        obtain rfl : ad182 = ad190 := (by injection e190)
                        have qi190 : (0 < x0_1.length) = True := eq_true (by omega)
                        (try rw [show ((0 : Int)).toNat = 0 from rfl] at hx190_0)
                        (try rw [show 0 * 2 = 0 from rfl] at hx190_0)
                        (try rw [Addr.add_zero'] at hx190_0)
                        (try rw [show ((0 : Int)).toNat = 0 from rfl] at hx190_1)
                        (try rw [show 0 * 2 = 0 from rfl] at hx190_1)
                        (try rw [Addr.add_zero'] at hx190_1)
                        replace p190 := eq_true p190
                        replace q190 := eq_true q190
                        have p191 : 0 ≤ (0 : Int) := (by omega)
                        have q191 : 0 < (x1_1.length : Int) := of_decide_eq_true (by first | (with_reducible assumption) | assumption)
                        obtain ⟨ad191, e191, hx191_0, hx191_1⟩ := at_T67 (Kd.Q_reads' HO_1.out).2.2 0 p191 q191
                        obtain rfl : ad183 = ad191 := (by injection e191)
                        have qi191 : (0 < x1_1.length) = True := eq_true (by omega)
                        (try rw [show ((0 : Int)).toNat = 0 from rfl] at hx191_0)
                        (try rw [show 0 * 2 = 0 from rfl] at hx191_0)
                        (try rw [Addr.add_zero'] at hx191_0)
                        (try rw [show ((0 : Int)).toNat = 0 from rfl] at hx191_1)
                        (try rw [show 0 * 2 = 0 from rfl] at hx191_1)
                        (try rw [Addr.add_zero'] at hx191_1)
                        replace p191 := eq_true p191
                        replace q191 := eq_true q191
                        refine start_ (n := 9) (S := fun w' => w'.cell? ad182 = some (.int .i64 ((rd_T67 x0_1 0).f0)) ∧ w'.cell? ⟨ad182.block, ad182.off + 1, none⟩ = some (.int .i64 ((rd_T67 x0_1 0).f1)) ∧ w'.cell? ad183 = some (.int .i64 ((rd_T67 x1_1 0).f0)) ∧ w'.cell? ⟨ad183.block, ad183.off + 1, none⟩ = some (.int .i64 ((rd_T67 x1_1 0).f1))) (ds := []) #[false, false, false, false, false, false, false, false, false] (by kernel_rfl) rfl rfl ⟨hx190_0, hx190_1, hx191_0, hx191_1⟩ (fun hHeld => ?_); refine with_tabW agenda_Both.tab7 agenda_Both.bits7 (fun HT_ HW_ => ?_)
                        generalize w39.drew = w40 at HO_0 HO_1 HO189 BK186 HB hx190_0 hx190_1 hx191_0 hx191_1 hHeld ⊢
                        refine pure_ (i := 0) (N := some 47) (v := ?_) (a' := ?_) #[true, false, false, false, false, false, false, false, false] rfl rfl (any_of HT_.out (by kernel_rfl)) (fun _ _ _ h => h) (Or.inl ⟨by rfl, ?_⟩) ?_ ?_
                        rotate_left
                        · intro w'
                          go_simp
                          with_reducible rfl
                        rotate_left
                        · simp only [Act.put, List.setIfInBounds_toArray, List.set_cons_zero, List.set_cons_succ, i64_w, i32_w]
                          rfl
                        refine pure_ (i := 1) (N := some 48) (v := ?_) (a' := ?_) #[true, true, false, false, false, false, false, false, false] rfl rfl (any_of HT_.out (by kernel_rfl)) (fun _ _ _ h => h) (Or.inl ⟨by rfl, ?_⟩) ?_ ?_
                        rotate_left
                        · intro w'
                          go_simp
                          with_reducible rfl
                        rotate_left
                        · simp only [Act.put, List.setIfInBounds_toArray, List.set_cons_zero, List.set_cons_succ, i64_w, i32_w]
                          rfl
                        refine pure_ (i := 2) (N := some 49) (v := ?_) (a' := ?_) #[true, true, true, false, false, false, false, false, false] rfl rfl (any_of HT_.out (by kernel_rfl)) (fun _ _ _ h => h) (Or.inl ⟨by rfl, ?_⟩) ?_ ?_
                        rotate_left
                        · intro w'
                          go_simp
                          with_reducible rfl
                        rotate_left
                        · simp only [Act.put, List.setIfInBounds_toArray, List.set_cons_zero, List.set_cons_succ, i64_w, i32_w]
                          rfl
                        refine pure_ (i := 4) (N := some 51) (v := ?_) (a' := ?_) #[true, true, true, false, true, false, false, false, false] rfl rfl (any_of HT_.out (by kernel_rfl)) (fun _ _ _ h => h) (Or.inl ⟨by rfl, ?_⟩) ?_ ?_
                        rotate_left
                        · intro w'
                          go_simp
                          with_reducible rfl
                        rotate_left
                        · simp only [Act.put, List.setIfInBounds_toArray, List.set_cons_zero, List.set_cons_succ, i64_w, i32_w]
                          rfl
                        refine pure_ (i := 5) (N := some 52) (v := ?_) (a' := ?_) #[true, true, true, false, true, true, false, false, false] rfl rfl (any_of HT_.out (by kernel_rfl)) (fun _ _ _ h => h) (Or.inl ⟨by rfl, ?_⟩) ?_ ?_
                        rotate_left
                        · intro w'
                          go_simp
                          with_reducible rfl
                        rotate_left
                        · simp only [Act.put, List.setIfInBounds_toArray, List.set_cons_zero, List.set_cons_succ, i64_w, i32_w]
                          rfl
                        refine pure_ (i := 6) (N := some 53) (v := ?_) (a' := ?_) #[true, true, true, false, true, true, true, false, false] rfl rfl (any_of HT_.out (by kernel_rfl)) (fun _ _ _ h => h) (Or.inl ⟨by rfl, ?_⟩) ?_ ?_
                        rotate_left
                        · intro w'
                          go_simp
                          with_reducible rfl
                        rotate_left
                        · simp only [Act.put, List.setIfInBounds_toArray, List.set_cons_zero, List.set_cons_succ, i64_w, i32_w]
                          rfl
                        refine take_ (i := 3) (N := some 50) (v := ?_) (a' := ?_) #[true, true, true, true, true, true, true, false, false] rfl rfl (take_ofW HT_.out HW_.out (by kernel_rfl)) (fun _ _ _ h => h) (Or.inl ⟨by rfl, ?_⟩) hHeld ?_ ?_
                        rotate_left
                        · rintro w' ⟨s0, s1, s2, s3⟩
                          go_simp
                          with_reducible rfl
                        rotate_left
                        · simp only [Act.put, List.setIfInBounds_toArray, List.set_cons_zero, List.set_cons_succ, i64_w, i32_w]
                          rfl
                        refine take_ (i := 7) (N := some 54) (v := ?_) (a' := ?_) #[true, true, true, true, true, true, true, true, false] rfl rfl (take_ofW HT_.out HW_.out (by kernel_rfl)) (fun _ _ _ h => h) (Or.inl ⟨by rfl, ?_⟩) hHeld ?_ ?_
                        rotate_left
                        · rintro w' ⟨s0, s1, s2, s3⟩
                          go_simp
                          with_reducible rfl
                        rotate_left
                        · simp only [Act.put, List.setIfInBounds_toArray, List.set_cons_zero, List.set_cons_succ, i64_w, i32_w]
                          rfl
                        refine pure_ (i := 8) (N := some 55) (v := ?_) (a' := ?_) #[true, true, true, true, true, true, true, true, true] rfl rfl (any_of HT_.out (by kernel_rfl)) (fun _ _ _ h => h) (Or.inl ⟨by rfl, ?_⟩) ?_ ?_
                        rotate_left
                        · intro w'
                          go_simp
                          with_reducible rfl
                        rotate_left
                        · simp only [Act.put, List.setIfInBounds_toArray, List.set_cons_zero, List.set_cons_succ, i64_w, i32_w]
                          rfl
                        refine done_ (done_of HT_.out (by kernel_rfl)) ?_
                        have n_ := Aside0.mk (Kd.Q_mono (ok' := (fun k_ => some k_ ≠ (.slice (some ad182) x0_1.length co33 : Value).ownBlock ∧ some k_ ≠ (v188 : Value).ownBlock ∧ k_ ≠ gb186)) HO_1.out (fun k_ hk => ⟨hk.1.1, ⟨hk.2, hk.1.2⟩⟩))
                        clear HO_1
                        have HO_1 := n_
                        clear n_
                        have q41 : (1 : Int) ≤ ((x1_1.length : Int) : Int) := of_decide_eq_true (by first | (with_reducible assumption) | assumption)
                        obtain ⟨i041, hi041, _, hsz41, _⟩ := info_parts info67
                        have hcut41 := cut_from (P := Try.prog) 57 67 .i64 Try.underlying57 hi041 2 hsz41 (some ad183) x1_1.length co34 1 (by omega) q41
                        have hr41 := Kd.Q_drop (k := (1 : Int).toNat) HO_1.out (by omega)
                        obtain ⟨A41, hA41⟩ : ∃ A1, A1 = (if co34 = (1 : Int).toNat then (some ad183) else ((some ad183) : Option Addr).map (·.add ((1 : Int).toNat * 2))) := ⟨_, rfl⟩
                        obtain ⟨c41, hc41⟩ : ∃ c1, c1 = co34 - (1 : Int).toNat := ⟨_, rfl⟩
                        have hy41 : y195.length = x1_1.length - (1 : Int).toNat := (by rw [Ny195.out, List.length_drop])
                        rw [← Ny195.out] at hr41
                        rw [← hy41, ← hA41, ← hc41] at hcut41
                        replace hr41 : Kd.Q k67 67 w40 w.heap.size (fun k_ => some k_ ≠ (.slice (some ad182) x0_1.length co33 : Value).ownBlock ∧ some k_ ≠ (v188 : Value).ownBlock ∧ k_ ≠ gb186) (.slice A41 y195.length c41) y195 := (by rw [hA41, hc41, hy41]; exact hr41)
                        have HE41 : Aside0 ((Value.slice A41 y195.length c41).ownBlock = (.slice (some ad183) x1_1.length co34 : Value).ownBlock) := ⟨by rw [hA41]; split <;> (cases ((some ad183) : Option Addr) <;> rfl)⟩
                        clear hy41 hi041 hsz41 HO_1 hA41 hc41
                        have HO197 := Aside0.mk hr41
                        clear hr41
                        replace q41 := eq_true q41
                        have n_ := Aside0.mk (Kd.Q_mono (ok' := fun k_ => ((some k_ ≠ (.slice A41 y195.length c41 : Value).ownBlock ∧ k_ ≠ gb186) ∧ some k_ ≠ (v188 : Value).ownBlock)) HO_0.out (fun k_ hk => ⟨⟨(by rw [HE41.out]; exact hk.1.1), hk.1.2⟩, hk.2⟩))
                        clear HO_0
                        have HO_0 := n_
                        clear n_
                        have n_ := Aside0.mk (Kd.R_mono (ok' := fun k_ => (some k_ ≠ (.slice (some ad182) x0_1.length co33 : Value).ownBlock ∧ (some k_ ≠ (.slice A41 y195.length c41 : Value).ownBlock ∧ k_ ≠ gb186))) HO189.out (fun k_ hk => ⟨hk.1, ⟨(by rw [HE41.out]; exact hk.2.1), hk.2.2⟩⟩))
                        clear HO189
                        have HO189 := n_
                        clear n_
                        try go_wp2
                        go_roundg kj6
                        case measure => have := HK1.out; have := HJ6.out; omega
                        case rel => exact ⟨(x0_1), (y195), (y187), H', ⟨by have := HK1.out; have := HJ6.out; omega⟩, ⟨by (with_reducible repeat (first | apply Kd.Q_alloc | apply Kd.Q_drewN | apply Kd.Q_drew)); exact Kd.Q_mono HO_0.out (fun _ hk => ⟨hk.1.1, hk.2⟩)⟩, ⟨by (with_reducible repeat (first | apply Kd.Q_alloc | apply Kd.Q_drewN | apply Kd.Q_drew)); exact Kd.Q_mono HO197.out (fun _ hk => ⟨hk.1, hk.2.1⟩)⟩, ⟨by (with_reducible repeat (first | apply Kd.R_alloc | apply Kd.R_drewN | apply Kd.R_drew)); exact Kd.R_mono HO189.out (fun _ hk => ⟨hk.1, hk.2.1⟩)⟩, ⟨by repeat (first | (with_reducible first | exact HB.out | apply below_alloc | apply pw_below_drewN | apply below_drew1 | refine below_set ?_ GE186.out) | exact HB.out)⟩⟩
                      · rw [if_neg c31] at H
                        exact absurd H (by simp)
                  · rw [if_neg c18] at H
                    exact absurd H (by simp)
                · rw [if_neg c17] at H
                  have c17b0 : decide ((ji15) < (ji16)) = false := decide_eq_false c17
                  clear c17
                  by_cases c42 : ((rd_T67 x0_1 0).f1) < ((rd_T67 x1_1 0).f1)
                  · rw [if_pos c42] at H
                    have c42b0 : decide (((rd_T67 x0_1 0).f1) < ((rd_T67 x1_1 0).f1)) = true := decide_eq_true c42
                    clear c42
                    by_cases c43 : 1 ≤ (x0_1.length : Int)
                    · rw [if_pos c43] at H
                      have c43b0 := eq_true c43
                      have c43b1 : decide (1 ≤ (x0_1.length : Int)) = true := decide_eq_true c43
                      clear c43
                      obtain ⟨y200, hy200⟩ : ∃ y_ : List (S67), y_ = (x0_1.drop (1 : Int).toNat) := ⟨_, rfl⟩
                      replace H : (agenda_Both.l0 kj6 y200 x1_1 x5_1) = some r := by first | (rw [hy200]; with_reducible exact H) | (have H2_ := (Option.bind_some _ _).symm.trans H; rw [hy200]; with_reducible exact H2_) | (have H2_ := (Option.bind_some _ _).symm.trans H; with_reducible exact H2_) | with_reducible exact H | (rw [hy200]; exact H) | exact H
                      have Ny200 := Aside0.mk hy200
                      clear hy200
                      have H' := Aside0.mk H
                      clear H
                      try go_wp2
                      have n0_ := Aside0.mk (Kd.Q_drew HO_0.out)
                      have n1_ := Aside0.mk (Kd.Q_drew HO_1.out)
                      have n2_ := Aside0.mk (Kd.R_drew HO_5.out)
                      have n3_ := Aside0.mk (below_drew1 HB.out)
                      clear HO_0
                      clear HO_1
                      clear HO_5
                      clear HB
                      have HO_0 := n0_
                      have HO_1 := n1_
                      have HO_5 := n2_
                      have HB := n3_
                      clear n0_ n1_ n2_ n3_
                      obtain ⟨Ao45, co45, eo45, _⟩ := Kd.Q_slice HO_0.out
                      (first | subst eo45 | (injection eo45 with f1_ f2_ f3_; have f4_ := f1_.symm; have f5_ := f3_.symm; clear f1_ f2_ f3_; subst f4_; subst f5_))
                      have p182 : 0 ≤ (0 : Int) := (by omega)
                      have q182 : 0 < (x0_1.length : Int) := of_decide_eq_true (by first | (with_reducible assumption) | assumption)
                      obtain ⟨ad182, e182, hx182_0, hx182_1⟩ := at_T67 (Kd.Q_reads' HO_0.out).2.2 0 p182 q182
                      cases e182
                      have qi182 : (0 < x0_1.length) = True := eq_true (by omega)
                      (try rw [show ((0 : Int)).toNat = 0 from rfl] at hx182_0)
                      (try rw [show 0 * 2 = 0 from rfl] at hx182_0)
                      (try rw [Addr.add_zero'] at hx182_0)
                      (try rw [show ((0 : Int)).toNat = 0 from rfl] at hx182_1)
                      (try rw [show 0 * 2 = 0 from rfl] at hx182_1)
                      (try rw [Addr.add_zero'] at hx182_1)
                      replace p182 := eq_true p182
                      replace q182 := eq_true q182
                      obtain ⟨Ao46, co46, eo46, _⟩ := Kd.Q_slice HO_1.out
                      (first | subst eo46 | (injection eo46 with f1_ f2_ f3_; have f4_ := f1_.symm; have f5_ := f3_.symm; clear f1_ f2_ f3_; subst f4_; subst f5_))
                      have p183 : 0 ≤ (0 : Int) := (by omega)
                      have q183 : 0 < (x1_1.length : Int) := of_decide_eq_true (by first | (with_reducible assumption) | assumption)
                      obtain ⟨ad183, e183, hx183_0, hx183_1⟩ := at_T67 (Kd.Q_reads' HO_1.out).2.2 0 p183 q183
                      cases e183
                      have qi183 : (0 < x1_1.length) = True := eq_true (by omega)
                      (try rw [show ((0 : Int)).toNat = 0 from rfl] at hx183_0)
                      (try rw [show 0 * 2 = 0 from rfl] at hx183_0)
                      (try rw [Addr.add_zero'] at hx183_0)
                      (try rw [show ((0 : Int)).toNat = 0 from rfl] at hx183_1)
                      (try rw [show 0 * 2 = 0 from rfl] at hx183_1)
                      (try rw [Addr.add_zero'] at hx183_1)
                      replace p183 := eq_true p183
                      replace q183 := eq_true q183
                      have p184 : 0 ≤ (0 : Int) := (by omega)
                      have q184 : 0 < (x0_1.length : Int) := of_decide_eq_true (by first | (with_reducible assumption) | assumption)
                      obtain ⟨ad184, e184, hx184_0, hx184_1⟩ := at_T67 (Kd.Q_reads' HO_0.out).2.2 0 p184 q184
                      obtain rfl : ad182 = ad184 := (by injection e184)
                      have qi184 : (0 < x0_1.length) = True := eq_true (by omega)
                      (try rw [show ((0 : Int)).toNat = 0 from rfl] at hx184_0)
                      (try rw [show 0 * 2 = 0 from rfl] at hx184_0)
                      (try rw [Addr.add_zero'] at hx184_0)
                      (try rw [show ((0 : Int)).toNat = 0 from rfl] at hx184_1)
                      (try rw [show 0 * 2 = 0 from rfl] at hx184_1)
                      (try rw [Addr.add_zero'] at hx184_1)
                      replace p184 := eq_true p184
                      replace q184 := eq_true q184
                      have p185 : 0 ≤ (0 : Int) := (by omega)
                      have q185 : 0 < (x1_1.length : Int) := of_decide_eq_true (by first | (with_reducible assumption) | assumption)
                      obtain ⟨ad185, e185, hx185_0, hx185_1⟩ := at_T67 (Kd.Q_reads' HO_1.out).2.2 0 p185 q185
                      obtain rfl : ad183 = ad185 := (by injection e185)
                      have qi185 : (0 < x1_1.length) = True := eq_true (by omega)
                      (try rw [show ((0 : Int)).toNat = 0 from rfl] at hx185_0)
                      (try rw [show 0 * 2 = 0 from rfl] at hx185_0)
                      (try rw [Addr.add_zero'] at hx185_0)
                      (try rw [show ((0 : Int)).toNat = 0 from rfl] at hx185_1)
                      (try rw [show 0 * 2 = 0 from rfl] at hx185_1)
                      (try rw [Addr.add_zero'] at hx185_1)
                      replace p185 := eq_true p185
                      replace q185 := eq_true q185
                      refine start_ (n := 21) (S := fun w' => w'.cell? ad182 = some (.int .i64 ((rd_T67 x0_1 0).f0)) ∧ w'.cell? ⟨ad182.block, ad182.off + 1, none⟩ = some (.int .i64 ((rd_T67 x0_1 0).f1)) ∧ w'.cell? ad183 = some (.int .i64 ((rd_T67 x1_1 0).f0)) ∧ w'.cell? ⟨ad183.block, ad183.off + 1, none⟩ = some (.int .i64 ((rd_T67 x1_1 0).f1)) ∧ w'.cell? ad182 = some (.int .i64 ((rd_T67 x0_1 0).f0)) ∧ w'.cell? ⟨ad182.block, ad182.off + 1, none⟩ = some (.int .i64 ((rd_T67 x0_1 0).f1)) ∧ w'.cell? ad183 = some (.int .i64 ((rd_T67 x1_1 0).f0)) ∧ w'.cell? ⟨ad183.block, ad183.off + 1, none⟩ = some (.int .i64 ((rd_T67 x1_1 0).f1))) (ds := []) #[false, false, false, false, false, false, false, false, false, false, false, false, false, false, false, false, false, false, false, false, false] (by kernel_rfl) rfl rfl ⟨hx182_0, hx182_1, hx183_0, hx183_1, hx184_0, hx184_1, hx185_0, hx185_1⟩ (fun hHeld => ?_); refine with_tabW agenda_Both.tab4 agenda_Both.bits4 (fun HT_ HW_ => ?_)
                      generalize wc.drew = w44 at HO_0 HO_1 HO_5 HB hx182_0 hx182_1 hx183_0 hx183_1 hx184_0 hx184_1 hx185_0 hx185_1 hHeld ⊢
                      refine pure_ (i := 0) (N := some 19) (v := ?_) (a' := ?_) #[true, false, false, false, false, false, false, false, false, false, false, false, false, false, false, false, false, false, false, false, false] rfl rfl (any_of HT_.out (by kernel_rfl)) (fun _ _ _ h => h) (Or.inl ⟨by rfl, ?_⟩) ?_ ?_
                      rotate_left
                      · intro w'
                        go_simp
                        with_reducible rfl
                      rotate_left
                      · simp only [Act.put, List.setIfInBounds_toArray, List.set_cons_zero, List.set_cons_succ, i64_w, i32_w]
                        rfl
                      refine pure_ (i := 1) (N := some 20) (v := ?_) (a' := ?_) #[true, true, false, false, false, false, false, false, false, false, false, false, false, false, false, false, false, false, false, false, false] rfl rfl (any_of HT_.out (by kernel_rfl)) (fun _ _ _ h => h) (Or.inl ⟨by rfl, ?_⟩) ?_ ?_
                      rotate_left
                      · intro w'
                        go_simp
                        with_reducible rfl
                      rotate_left
                      · simp only [Act.put, List.setIfInBounds_toArray, List.set_cons_zero, List.set_cons_succ, i64_w, i32_w]
                        rfl
                      refine pure_ (i := 2) (N := some 21) (v := ?_) (a' := ?_) #[true, true, true, false, false, false, false, false, false, false, false, false, false, false, false, false, false, false, false, false, false] rfl rfl (any_of HT_.out (by kernel_rfl)) (fun _ _ _ h => h) (Or.inl ⟨by rfl, ?_⟩) ?_ ?_
                      rotate_left
                      · intro w'
                        go_simp
                        with_reducible rfl
                      rotate_left
                      · simp only [Act.put, List.setIfInBounds_toArray, List.set_cons_zero, List.set_cons_succ, i64_w, i32_w]
                        rfl
                      refine pure_ (i := 4) (N := some 23) (v := ?_) (a' := ?_) #[true, true, true, false, true, false, false, false, false, false, false, false, false, false, false, false, false, false, false, false, false] rfl rfl (any_of HT_.out (by kernel_rfl)) (fun _ _ _ h => h) (Or.inl ⟨by rfl, ?_⟩) ?_ ?_
                      rotate_left
                      · intro w'
                        go_simp
                        with_reducible rfl
                      rotate_left
                      · simp only [Act.put, List.setIfInBounds_toArray, List.set_cons_zero, List.set_cons_succ, i64_w, i32_w]
                        rfl
                      refine pure_ (i := 5) (N := some 24) (v := ?_) (a' := ?_) #[true, true, true, false, true, true, false, false, false, false, false, false, false, false, false, false, false, false, false, false, false] rfl rfl (any_of HT_.out (by kernel_rfl)) (fun _ _ _ h => h) (Or.inl ⟨by rfl, ?_⟩) ?_ ?_
                      rotate_left
                      · intro w'
                        go_simp
                        with_reducible rfl
                      rotate_left
                      · simp only [Act.put, List.setIfInBounds_toArray, List.set_cons_zero, List.set_cons_succ, i64_w, i32_w]
                        rfl
                      refine pure_ (i := 6) (N := some 25) (v := ?_) (a' := ?_) #[true, true, true, false, true, true, true, false, false, false, false, false, false, false, false, false, false, false, false, false, false] rfl rfl (any_of HT_.out (by kernel_rfl)) (fun _ _ _ h => h) (Or.inl ⟨by rfl, ?_⟩) ?_ ?_
                      rotate_left
                      · intro w'
                        go_simp
                        with_reducible rfl
                      rotate_left
                      · simp only [Act.put, List.setIfInBounds_toArray, List.set_cons_zero, List.set_cons_succ, i64_w, i32_w]
                        rfl
                      refine pure_ (i := 9) (N := some 28) (v := ?_) (a' := ?_) #[true, true, true, false, true, true, true, false, false, true, false, false, false, false, false, false, false, false, false, false, false] rfl rfl (any_of HT_.out (by kernel_rfl)) (fun _ _ _ h => h) (Or.inl ⟨by rfl, ?_⟩) ?_ ?_
                      rotate_left
                      · intro w'
                        go_simp
                        with_reducible rfl
                      rotate_left
                      · simp only [Act.put, List.setIfInBounds_toArray, List.set_cons_zero, List.set_cons_succ, i64_w, i32_w]
                        rfl
                      refine pure_ (i := 10) (N := some 29) (v := ?_) (a' := ?_) #[true, true, true, false, true, true, true, false, false, true, true, false, false, false, false, false, false, false, false, false, false] rfl rfl (any_of HT_.out (by kernel_rfl)) (fun _ _ _ h => h) (Or.inl ⟨by rfl, ?_⟩) ?_ ?_
                      rotate_left
                      · intro w'
                        go_simp
                        with_reducible rfl
                      rotate_left
                      · simp only [Act.put, List.setIfInBounds_toArray, List.set_cons_zero, List.set_cons_succ, i64_w, i32_w]
                        rfl
                      refine pure_ (i := 11) (N := some 30) (v := ?_) (a' := ?_) #[true, true, true, false, true, true, true, false, false, true, true, true, false, false, false, false, false, false, false, false, false] rfl rfl (any_of HT_.out (by kernel_rfl)) (fun _ _ _ h => h) (Or.inl ⟨by rfl, ?_⟩) ?_ ?_
                      rotate_left
                      · intro w'
                        go_simp
                        with_reducible rfl
                      rotate_left
                      · simp only [Act.put, List.setIfInBounds_toArray, List.set_cons_zero, List.set_cons_succ, i64_w, i32_w]
                        rfl
                      refine pure_ (i := 13) (N := some 32) (v := ?_) (a' := ?_) #[true, true, true, false, true, true, true, false, false, true, true, true, false, true, false, false, false, false, false, false, false] rfl rfl (any_of HT_.out (by kernel_rfl)) (fun _ _ _ h => h) (Or.inl ⟨by rfl, ?_⟩) ?_ ?_
                      rotate_left
                      · intro w'
                        go_simp
                        with_reducible rfl
                      rotate_left
                      · simp only [Act.put, List.setIfInBounds_toArray, List.set_cons_zero, List.set_cons_succ, i64_w, i32_w]
                        rfl
                      refine pure_ (i := 14) (N := some 33) (v := ?_) (a' := ?_) #[true, true, true, false, true, true, true, false, false, true, true, true, false, true, true, false, false, false, false, false, false] rfl rfl (any_of HT_.out (by kernel_rfl)) (fun _ _ _ h => h) (Or.inl ⟨by rfl, ?_⟩) ?_ ?_
                      rotate_left
                      · intro w'
                        go_simp
                        with_reducible rfl
                      rotate_left
                      · simp only [Act.put, List.setIfInBounds_toArray, List.set_cons_zero, List.set_cons_succ, i64_w, i32_w]
                        rfl
                      refine pure_ (i := 15) (N := some 34) (v := ?_) (a' := ?_) #[true, true, true, false, true, true, true, false, false, true, true, true, false, true, true, true, false, false, false, false, false] rfl rfl (any_of HT_.out (by kernel_rfl)) (fun _ _ _ h => h) (Or.inl ⟨by rfl, ?_⟩) ?_ ?_
                      rotate_left
                      · intro w'
                        go_simp
                        with_reducible rfl
                      rotate_left
                      · simp only [Act.put, List.setIfInBounds_toArray, List.set_cons_zero, List.set_cons_succ, i64_w, i32_w]
                        rfl
                      refine take_ (i := 3) (N := some 22) (v := ?_) (a' := ?_) #[true, true, true, true, true, true, true, false, false, true, true, true, false, true, true, true, false, false, false, false, false] rfl rfl (take_ofW HT_.out HW_.out (by kernel_rfl)) (fun _ _ _ h => h) (Or.inl ⟨by rfl, ?_⟩) hHeld ?_ ?_
                      rotate_left
                      · rintro w' ⟨s0, s1, s2, s3, s4, s5, s6, s7⟩
                        go_simp
                        with_reducible rfl
                      rotate_left
                      · simp only [Act.put, List.setIfInBounds_toArray, List.set_cons_zero, List.set_cons_succ, i64_w, i32_w]
                        rfl
                      refine take_ (i := 7) (N := some 26) (v := ?_) (a' := ?_) #[true, true, true, true, true, true, true, true, false, true, true, true, false, true, true, true, false, false, false, false, false] rfl rfl (take_ofW HT_.out HW_.out (by kernel_rfl)) (fun _ _ _ h => h) (Or.inl ⟨by rfl, ?_⟩) hHeld ?_ ?_
                      rotate_left
                      · rintro w' ⟨s0, s1, s2, s3, s4, s5, s6, s7⟩
                        go_simp
                        with_reducible rfl
                      rotate_left
                      · simp only [Act.put, List.setIfInBounds_toArray, List.set_cons_zero, List.set_cons_succ, i64_w, i32_w]
                        rfl
                      refine pure_ (i := 8) (N := some 27) (v := ?_) (a' := ?_) #[true, true, true, true, true, true, true, true, true, true, true, true, false, true, true, true, false, false, false, false, false] rfl rfl (any_of HT_.out (by kernel_rfl)) (fun _ _ _ h => h) (Or.inl ⟨by rfl, ?_⟩) ?_ ?_
                      rotate_left
                      · intro w'
                        go_simp
                        with_reducible rfl
                      rotate_left
                      · simp only [Act.put, List.setIfInBounds_toArray, List.set_cons_zero, List.set_cons_succ, i64_w, i32_w]
                        rfl
                      refine take_ (i := 12) (N := some 31) (v := ?_) (a' := ?_) #[true, true, true, true, true, true, true, true, true, true, true, true, true, true, true, true, false, false, false, false, false] rfl rfl (take_ofW HT_.out HW_.out (by kernel_rfl)) (fun _ _ _ h => h) (Or.inl ⟨by rfl, ?_⟩) hHeld ?_ ?_
                      rotate_left
                      · rintro w' ⟨s0, s1, s2, s3, s4, s5, s6, s7⟩
                        go_simp
                        with_reducible rfl
                      rotate_left
                      · simp only [Act.put, List.setIfInBounds_toArray, List.set_cons_zero, List.set_cons_succ, i64_w, i32_w]
                        rfl
                      refine take_ (i := 16) (N := some 35) (v := ?_) (a' := ?_) #[true, true, true, true, true, true, true, true, true, true, true, true, true, true, true, true, true, false, false, false, false] rfl rfl (take_ofW HT_.out HW_.out (by kernel_rfl)) (fun _ _ _ h => h) (Or.inl ⟨by rfl, ?_⟩) hHeld ?_ ?_
                      rotate_left
                      · rintro w' ⟨s0, s1, s2, s3, s4, s5, s6, s7⟩
                        go_simp
                        with_reducible rfl
                      rotate_left
                      · simp only [Act.put, List.setIfInBounds_toArray, List.set_cons_zero, List.set_cons_succ, i64_w, i32_w]
                        rfl
                      refine pure_ (i := 17) (N := some 36) (v := ?_) (a' := ?_) #[true, true, true, true, true, true, true, true, true, true, true, true, true, true, true, true, true, true, false, false, false] rfl rfl (any_of HT_.out (by kernel_rfl)) (fun _ _ _ h => h) (Or.inl ⟨by rfl, ?_⟩) ?_ ?_
                      rotate_left
                      · intro w'
                        go_simp
                        with_reducible rfl
                      rotate_left
                      · simp only [Act.put, List.setIfInBounds_toArray, List.set_cons_zero, List.set_cons_succ, i64_w, i32_w]
                        rfl
                      refine pure_ (i := 18) (N := some 37) (v := ?_) (a' := ?_) #[true, true, true, true, true, true, true, true, true, true, true, true, true, true, true, true, true, true, true, false, false] rfl rfl (any_of HT_.out (by kernel_rfl)) (fun _ _ _ h => h) (Or.inl ⟨by rfl, ?_⟩) ?_ ?_
                      rotate_left
                      · intro w'
                        go_simp
                        with_reducible rfl
                      rotate_left
                      · simp only [Act.put, List.setIfInBounds_toArray, List.set_cons_zero, List.set_cons_succ, i64_w, i32_w]
                        rfl
                      refine one_ (i := 19) (N := some 6) #[true, true, true, true, true, true, true, true, true, true, true, true, true, true, true, true, true, true, true, true, false] rfl rfl (one_of HT_.out (by kernel_rfl)) (by decide) (fun K hK => ?_)
                      refine box_step ?hg (N := 6) ?hd (cs := #[.int .i64 0, .int .i64 0]) (t := 67) ?hr ?_; (case hd => rfl); (case hg => rfl); (case hr => first | (go_simp; done) | (go_simp; rfl))
                      intro gb186 hg w47 hbox hb
                      have HS0_ := (hb.cell (World.block_lt_of_cell? _ _ (hHeld.1))).trans (hHeld.1)
                      have HS1_ := (hb.cell (World.block_lt_of_cell? _ _ (hHeld.2.1))).trans (hHeld.2.1)
                      have HS2_ := (hb.cell (World.block_lt_of_cell? _ _ (hHeld.2.2.1))).trans (hHeld.2.2.1)
                      have HS3_ := (hb.cell (World.block_lt_of_cell? _ _ (hHeld.2.2.2.1))).trans (hHeld.2.2.2.1)
                      have HS4_ := (hb.cell (World.block_lt_of_cell? _ _ (hHeld.2.2.2.2.1))).trans (hHeld.2.2.2.2.1)
                      have HS5_ := (hb.cell (World.block_lt_of_cell? _ _ (hHeld.2.2.2.2.2.1))).trans (hHeld.2.2.2.2.2.1)
                      have HS6_ := (hb.cell (World.block_lt_of_cell? _ _ (hHeld.2.2.2.2.2.2.1))).trans (hHeld.2.2.2.2.2.2.1)
                      have HS7_ := (hb.cell (World.block_lt_of_cell? _ _ (hHeld.2.2.2.2.2.2.2))).trans (hHeld.2.2.2.2.2.2.2)
                      have n0_ := Aside0.mk (Kd.Q_below (Kd.Q_elderB (by (with_reducible repeat (first | apply Kd.Q_alloc | apply Kd.Q_drewN | apply Kd.Q_drew)); exact HO_0.out) gb186 (Nat.le_of_eq hg.symm)) hb)
                      have n1_ := Aside0.mk (Kd.Q_below (Kd.Q_elderB (by (with_reducible repeat (first | apply Kd.Q_alloc | apply Kd.Q_drewN | apply Kd.Q_drew)); exact HO_1.out) gb186 (Nat.le_of_eq hg.symm)) hb)
                      have n2_ := Aside0.mk (Kd.R_below (Kd.R_elderB (by (with_reducible repeat (first | apply Kd.R_alloc | apply Kd.R_drewN | apply Kd.R_drew)); exact HO_5.out) gb186 (Nat.le_of_eq hg.symm)) hb)
                      have n3_ := Aside0.mk (below_step (by repeat (first | (with_reducible first | exact HB.out | apply below_alloc | apply pw_below_drewN | apply below_drew1) | exact HB.out)) hb)
                      have n4_ := Aside0.mk (hbox)
                      have n5_ := Aside0.mk ((by rw [hg]; exact (below_size (by repeat (first | (with_reducible first | exact HB.out | apply below_alloc | apply pw_below_drewN | apply below_drew1) | exact HB.out))) : w.heap.size ≤ gb186))
                      have n6_ := Aside0.mk ((by rw [hg]; exact (below_size (by repeat (first | (with_reducible first | exact HB.out | apply below_alloc | apply pw_below_drewN | apply below_drew1) | exact HB.out))) : w.heap.size ≤ gb186))
                      clear HO_0
                      clear HO_1
                      clear HO_5
                      clear HB
                      have HO_0 := n0_
                      have HO_1 := n1_
                      have HO_5 := n2_
                      have HB := n3_
                      have BK186 := n4_
                      have GW186 := n5_
                      have GE186 := n6_
                      clear n0_ n1_ n2_ n3_ n4_ n5_ n6_
                      clear hb hbox hg
                      refine hK.out _ _ ⟨HS0_, HS1_, HS2_, HS3_, HS4_, HS5_, HS6_, HS7_⟩ (fun hHeld => ?_)
                      clear hK K
                      refine norm_ (a' := ?_) ?_ ?_
                      rotate_left
                      · show Act.put _ (some 6) _ = _
                        simp only [Act.put, List.setIfInBounds_toArray, List.set_cons_zero, List.set_cons_succ, i64_w, i32_w]
                        rfl
                      refine one_ (i := 20) (N := none) #[true, true, true, true, true, true, true, true, true, true, true, true, true, true, true, true, true, true, true, true, true] rfl rfl (one_of HT_.out (by kernel_rfl)) (by decide) (fun K hK => ?_)
                      have hs48 : w47.cell? ⟨gb186, 0, none⟩ = some (.int .i64 0) := (blk_cell BK186.out 0).trans rfl
                      have hfs48 := blk_frozen BK186.out 0
                      have hs49 : w47.cell? ⟨gb186, 1, none⟩ = some (.int .i64 0) := (blk_cell BK186.out 1).trans rfl
                      have hfs49 := blk_frozen BK186.out 1
                      refine skip_ (w1 := ?_) (by rfl) rfl ?_ ?_
                      rotate_left
                      · go_simp
                        rfl
                      have ff0_ := Kd.own_blk (Kd.Q_away HO_0.out (fun _ hk => hk.2))
                      have ff1_ := Kd.own_blk (Kd.Q_away HO_1.out (fun _ hk => hk.2))
                      refine hK.out _ _ ⟨((cell_far (p := ⟨gb186, _, none⟩) (by exact ff0_) _).trans (((cell_far (p := ⟨gb186, _, none⟩) (by exact ff0_) _).trans (hHeld.1)))), ((cell_far (p := ⟨gb186, _, none⟩) (by exact ff0_) _).trans (((cell_far (p := ⟨gb186, _, none⟩) (by exact ff0_) _).trans (hHeld.2.1)))), ((cell_far (p := ⟨gb186, _, none⟩) (by exact ff1_) _).trans (((cell_far (p := ⟨gb186, _, none⟩) (by exact ff1_) _).trans (hHeld.2.2.1)))), ((cell_far (p := ⟨gb186, _, none⟩) (by exact ff1_) _).trans (((cell_far (p := ⟨gb186, _, none⟩) (by exact ff1_) _).trans (hHeld.2.2.2.1)))), ((cell_far (p := ⟨gb186, _, none⟩) (by exact ff0_) _).trans (((cell_far (p := ⟨gb186, _, none⟩) (by exact ff0_) _).trans (hHeld.2.2.2.2.1)))), ((cell_far (p := ⟨gb186, _, none⟩) (by exact ff0_) _).trans (((cell_far (p := ⟨gb186, _, none⟩) (by exact ff0_) _).trans (hHeld.2.2.2.2.2.1)))), ((cell_far (p := ⟨gb186, _, none⟩) (by exact ff1_) _).trans (((cell_far (p := ⟨gb186, _, none⟩) (by exact ff1_) _).trans (hHeld.2.2.2.2.2.2.1)))), ((cell_far (p := ⟨gb186, _, none⟩) (by exact ff1_) _).trans (((cell_far (p := ⟨gb186, _, none⟩) (by exact ff1_) _).trans (hHeld.2.2.2.2.2.2.2))))⟩ (fun hHeld => ?_)
                      clear hK K
                      refine done_ (done_of HT_.out (by kernel_rfl)) ?_
                      have hcz50_0 : w47.cell? ⟨gb186, 0, none⟩ = some (.int .i64 0) := (blk_cell BK186.out 0).trans rfl
                      have hcz50_1 : w47.cell? ⟨gb186, 1, none⟩ = some (.int .i64 0) := (blk_cell BK186.out 1).trans rfl
                      have hfz50_0 := blk_frozen BK186.out 0
                      have hfz50_1 := blk_frozen BK186.out 1
                      try go_wp2
                      have n0_ : Aside0 (Kd.Q k67 67 ((w47.setCell ⟨gb186, 0, none⟩ (.int .i64 ji15)).setCell ⟨gb186, 1, none⟩ (.int .i64 ji16)) w.heap.size (fun k_ => some k_ ≠ (.slice (some ad183) x1_1.length co46 : Value).ownBlock ∧ some k_ ≠ (u5 : Value).ownBlock ∧ k_ ≠ gb186) (.slice (some ad182) x0_1.length co45) x0_1) := ⟨by (with_reducible repeat (first | apply Kd.Q_alloc | apply Kd.Q_drewN | apply Kd.Q_drew)); exact Kd.Q_mono (Kd.Q_far (p := ⟨gb186, 1, none⟩) (Kd.Q_far (p := ⟨gb186, 0, none⟩) (Kd.Q_mono HO_0.out (fun k_ hk => (⟨hk, hk.2⟩ : _ ∧ k_ ≠ gb186))) (fun _ hk => hk.2) (.int .i64 ji15)) (fun _ hk => hk.2) (.int .i64 ji16)) (fun _ hk => ⟨hk.1.1.1, ⟨hk.1.1.2, hk.1.2⟩⟩)⟩
                      have n1_ : Aside0 (Kd.Q k67 67 ((w47.setCell ⟨gb186, 0, none⟩ (.int .i64 ji15)).setCell ⟨gb186, 1, none⟩ (.int .i64 ji16)) w.heap.size (fun k_ => some k_ ≠ (.slice (some ad182) x0_1.length co45 : Value).ownBlock ∧ some k_ ≠ (u5 : Value).ownBlock ∧ k_ ≠ gb186) (.slice (some ad183) x1_1.length co46) x1_1) := ⟨by (with_reducible repeat (first | apply Kd.Q_alloc | apply Kd.Q_drewN | apply Kd.Q_drew)); exact Kd.Q_mono (Kd.Q_far (p := ⟨gb186, 1, none⟩) (Kd.Q_far (p := ⟨gb186, 0, none⟩) (Kd.Q_mono HO_1.out (fun k_ hk => (⟨hk, hk.2⟩ : _ ∧ k_ ≠ gb186))) (fun _ hk => hk.2) (.int .i64 ji15)) (fun _ hk => hk.2) (.int .i64 ji16)) (fun _ hk => ⟨hk.1.1.1, ⟨hk.1.1.2, hk.1.2⟩⟩)⟩
                      have n2_ : Aside0 (Kd.R k67 67 ((w47.setCell ⟨gb186, 0, none⟩ (.int .i64 ji15)).setCell ⟨gb186, 1, none⟩ (.int .i64 ji16)) w.heap.size (fun k_ => some k_ ≠ (.slice (some ad182) x0_1.length co45 : Value).ownBlock ∧ some k_ ≠ (.slice (some ad183) x1_1.length co46 : Value).ownBlock ∧ k_ ≠ gb186) u5 x5_1) := ⟨by (with_reducible repeat (first | apply Kd.R_alloc | apply Kd.R_drewN | apply Kd.R_drew)); exact Kd.R_mono (Kd.R_far (p := ⟨gb186, 1, none⟩) (Kd.R_far (p := ⟨gb186, 0, none⟩) (Kd.R_mono HO_5.out (fun k_ hk => (⟨hk, hk.2⟩ : _ ∧ k_ ≠ gb186))) (fun _ hk => hk.2) (.int .i64 ji15)) (fun _ hk => hk.2) (.int .i64 ji16)) (fun _ hk => ⟨hk.1.1.1, ⟨hk.1.1.2, hk.1.2⟩⟩)⟩
                      have n3_ : Aside0 (((w47.setCell ⟨gb186, 0, none⟩ (.int .i64 ji15)).setCell ⟨gb186, 1, none⟩ (.int .i64 ji16)).heap[gb186]? = some (.cells #[.int .i64 ji15, .int .i64 ji16] 67 (0, 0))) := ⟨by (with_reducible repeat (first | refine blk_drewN ?_ _ | refine blk_drew ?_ | refine blk_alloc ?_ _)); refine blk_put (cs := #[.int .i64 ji15, .int .i64 0]) ?_ 1 _ rfl; (with_reducible repeat (first | refine blk_drewN ?_ _ | refine blk_drew ?_ | refine blk_alloc ?_ _)); refine blk_put (cs := #[.int .i64 0, .int .i64 0]) ?_ 0 _ rfl; (with_reducible repeat (first | refine blk_drewN ?_ _ | refine blk_drew ?_ | refine blk_alloc ?_ _)); exact BK186.out⟩
                      have n4_ : Aside0 (Below w.heap.size w ((w47.setCell ⟨gb186, 0, none⟩ (.int .i64 ji15)).setCell ⟨gb186, 1, none⟩ (.int .i64 ji16))) := ⟨by repeat (first | (with_reducible first | exact HB.out | apply below_alloc | apply pw_below_drewN | apply below_drew1 | refine below_set ?_ GE186.out) | exact HB.out)⟩
                      (try clear HO_0)
                      (try clear HO_1)
                      (try clear HO_5)
                      (try clear BK186)
                      (try clear HB)
                      generalize ((w47.setCell ⟨gb186, 0, none⟩ (.int .i64 ji15)).setCell ⟨gb186, 1, none⟩ (.int .i64 ji16)) = w51 at n0_ n1_ n2_ n3_ n4_ ⊢
                      have HO_0 := n0_
                      have HO_1 := n1_
                      have HO_5 := n2_
                      have BK186 := n3_
                      have HB := n4_
                      clear n0_ n1_ n2_ n3_ n4_
                      have n0_ := Aside0.mk (Kd.Q_drew HO_0.out)
                      have n1_ := Aside0.mk (Kd.Q_drew HO_1.out)
                      have n2_ := Aside0.mk (Kd.R_drew HO_5.out)
                      have n3_ := Aside0.mk (blk_drew BK186.out)
                      have n4_ := Aside0.mk (below_drew1 HB.out)
                      clear HO_0
                      clear HO_1
                      clear HO_5
                      clear BK186
                      clear HB
                      have HO_0 := n0_
                      have HO_1 := n1_
                      have HO_5 := n2_
                      have BK186 := n3_
                      have HB := n4_
                      clear n0_ n1_ n2_ n3_ n4_
                      have p198 : 0 ≤ (0 : Int) := (by omega)
                      have q198 : 0 < (x0_1.length : Int) := of_decide_eq_true (by first | (with_reducible assumption) | assumption)
                      obtain ⟨ad198, e198, hx198_0, hx198_1⟩ := at_T67 (Kd.Q_reads' HO_0.out).2.2 0 p198 q198
                      obtain rfl : ad182 = ad198 := (by injection e198)
                      have qi198 : (0 < x0_1.length) = True := eq_true (by omega)
                      (try rw [show ((0 : Int)).toNat = 0 from rfl] at hx198_0)
                      (try rw [show 0 * 2 = 0 from rfl] at hx198_0)
                      (try rw [Addr.add_zero'] at hx198_0)
                      (try rw [show ((0 : Int)).toNat = 0 from rfl] at hx198_1)
                      (try rw [show 0 * 2 = 0 from rfl] at hx198_1)
                      (try rw [Addr.add_zero'] at hx198_1)
                      replace p198 := eq_true p198
                      replace q198 := eq_true q198
                      have p199 : 0 ≤ (0 : Int) := (by omega)
                      have q199 : 0 < (x1_1.length : Int) := of_decide_eq_true (by first | (with_reducible assumption) | assumption)
                      obtain ⟨ad199, e199, hx199_0, hx199_1⟩ := at_T67 (Kd.Q_reads' HO_1.out).2.2 0 p199 q199
                      obtain rfl : ad183 = ad199 := (by injection e199)
                      have qi199 : (0 < x1_1.length) = True := eq_true (by omega)
                      (try rw [show ((0 : Int)).toNat = 0 from rfl] at hx199_0)
                      (try rw [show 0 * 2 = 0 from rfl] at hx199_0)
                      (try rw [Addr.add_zero'] at hx199_0)
                      (try rw [show ((0 : Int)).toNat = 0 from rfl] at hx199_1)
                      (try rw [show 0 * 2 = 0 from rfl] at hx199_1)
                      (try rw [Addr.add_zero'] at hx199_1)
                      replace p199 := eq_true p199
                      replace q199 := eq_true q199
                      refine start_ (n := 9) (S := fun w' => w'.cell? ad182 = some (.int .i64 ((rd_T67 x0_1 0).f0)) ∧ w'.cell? ⟨ad182.block, ad182.off + 1, none⟩ = some (.int .i64 ((rd_T67 x0_1 0).f1)) ∧ w'.cell? ad183 = some (.int .i64 ((rd_T67 x1_1 0).f0)) ∧ w'.cell? ⟨ad183.block, ad183.off + 1, none⟩ = some (.int .i64 ((rd_T67 x1_1 0).f1))) (ds := []) #[false, false, false, false, false, false, false, false, false] (by kernel_rfl) rfl rfl ⟨hx198_0, hx198_1, hx199_0, hx199_1⟩ (fun hHeld => ?_); refine with_tabW agenda_Both.tab7 agenda_Both.bits7 (fun HT_ HW_ => ?_)
                      generalize w51.drew = w52 at HO_0 HO_1 HO_5 BK186 HB hx198_0 hx198_1 hx199_0 hx199_1 hHeld ⊢
                      refine pure_ (i := 0) (N := some 47) (v := ?_) (a' := ?_) #[true, false, false, false, false, false, false, false, false] rfl rfl (any_of HT_.out (by kernel_rfl)) (fun _ _ _ h => h) (Or.inl ⟨by rfl, ?_⟩) ?_ ?_
                      rotate_left
                      · intro w'
                        go_simp
                        with_reducible rfl
                      rotate_left
                      · simp only [Act.put, List.setIfInBounds_toArray, List.set_cons_zero, List.set_cons_succ, i64_w, i32_w]
                        rfl
                      refine pure_ (i := 1) (N := some 48) (v := ?_) (a' := ?_) #[true, true, false, false, false, false, false, false, false] rfl rfl (any_of HT_.out (by kernel_rfl)) (fun _ _ _ h => h) (Or.inl ⟨by rfl, ?_⟩) ?_ ?_
                      rotate_left
                      · intro w'
                        go_simp
                        with_reducible rfl
                      rotate_left
                      · simp only [Act.put, List.setIfInBounds_toArray, List.set_cons_zero, List.set_cons_succ, i64_w, i32_w]
                        rfl
                      refine pure_ (i := 2) (N := some 49) (v := ?_) (a' := ?_) #[true, true, true, false, false, false, false, false, false] rfl rfl (any_of HT_.out (by kernel_rfl)) (fun _ _ _ h => h) (Or.inl ⟨by rfl, ?_⟩) ?_ ?_
                      rotate_left
                      · intro w'
                        go_simp
                        with_reducible rfl
                      rotate_left
                      · simp only [Act.put, List.setIfInBounds_toArray, List.set_cons_zero, List.set_cons_succ, i64_w, i32_w]
                        rfl
                      refine pure_ (i := 4) (N := some 51) (v := ?_) (a' := ?_) #[true, true, true, false, true, false, false, false, false] rfl rfl (any_of HT_.out (by kernel_rfl)) (fun _ _ _ h => h) (Or.inl ⟨by rfl, ?_⟩) ?_ ?_
                      rotate_left
                      · intro w'
                        go_simp
                        with_reducible rfl
                      rotate_left
                      · simp only [Act.put, List.setIfInBounds_toArray, List.set_cons_zero, List.set_cons_succ, i64_w, i32_w]
                        rfl
                      refine pure_ (i := 5) (N := some 52) (v := ?_) (a' := ?_) #[true, true, true, false, true, true, false, false, false] rfl rfl (any_of HT_.out (by kernel_rfl)) (fun _ _ _ h => h) (Or.inl ⟨by rfl, ?_⟩) ?_ ?_
                      rotate_left
                      · intro w'
                        go_simp
                        with_reducible rfl
                      rotate_left
                      · simp only [Act.put, List.setIfInBounds_toArray, List.set_cons_zero, List.set_cons_succ, i64_w, i32_w]
                        rfl
                      refine pure_ (i := 6) (N := some 53) (v := ?_) (a' := ?_) #[true, true, true, false, true, true, true, false, false] rfl rfl (any_of HT_.out (by kernel_rfl)) (fun _ _ _ h => h) (Or.inl ⟨by rfl, ?_⟩) ?_ ?_
                      rotate_left
                      · intro w'
                        go_simp
                        with_reducible rfl
                      rotate_left
                      · simp only [Act.put, List.setIfInBounds_toArray, List.set_cons_zero, List.set_cons_succ, i64_w, i32_w]
                        rfl
                      refine take_ (i := 3) (N := some 50) (v := ?_) (a' := ?_) #[true, true, true, true, true, true, true, false, false] rfl rfl (take_ofW HT_.out HW_.out (by kernel_rfl)) (fun _ _ _ h => h) (Or.inl ⟨by rfl, ?_⟩) hHeld ?_ ?_
                      rotate_left
                      · rintro w' ⟨s0, s1, s2, s3⟩
                        go_simp
                        with_reducible rfl
                      rotate_left
                      · simp only [Act.put, List.setIfInBounds_toArray, List.set_cons_zero, List.set_cons_succ, i64_w, i32_w]
                        rfl
                      refine take_ (i := 7) (N := some 54) (v := ?_) (a' := ?_) #[true, true, true, true, true, true, true, true, false] rfl rfl (take_ofW HT_.out HW_.out (by kernel_rfl)) (fun _ _ _ h => h) (Or.inl ⟨by rfl, ?_⟩) hHeld ?_ ?_
                      rotate_left
                      · rintro w' ⟨s0, s1, s2, s3⟩
                        go_simp
                        with_reducible rfl
                      rotate_left
                      · simp only [Act.put, List.setIfInBounds_toArray, List.set_cons_zero, List.set_cons_succ, i64_w, i32_w]
                        rfl
                      refine pure_ (i := 8) (N := some 55) (v := ?_) (a' := ?_) #[true, true, true, true, true, true, true, true, true] rfl rfl (any_of HT_.out (by kernel_rfl)) (fun _ _ _ h => h) (Or.inl ⟨by rfl, ?_⟩) ?_ ?_
                      rotate_left
                      · intro w'
                        go_simp
                        with_reducible rfl
                      rotate_left
                      · simp only [Act.put, List.setIfInBounds_toArray, List.set_cons_zero, List.set_cons_succ, i64_w, i32_w]
                        rfl
                      refine done_ (done_of HT_.out (by kernel_rfl)) ?_
                      have q53 : (1 : Int) ≤ ((x0_1.length : Int) : Int) := of_decide_eq_true (by first | (with_reducible assumption) | assumption)
                      obtain ⟨i053, hi053, _, hsz53, _⟩ := info_parts info67
                      have hcut53 := cut_from (P := Try.prog) 57 67 .i64 Try.underlying57 hi053 2 hsz53 (some ad182) x0_1.length co45 1 (by omega) q53
                      have hr53 := Kd.Q_drop (k := (1 : Int).toNat) HO_0.out (by omega)
                      obtain ⟨A53, hA53⟩ : ∃ A1, A1 = (if co45 = (1 : Int).toNat then (some ad182) else ((some ad182) : Option Addr).map (·.add ((1 : Int).toNat * 2))) := ⟨_, rfl⟩
                      obtain ⟨c53, hc53⟩ : ∃ c1, c1 = co45 - (1 : Int).toNat := ⟨_, rfl⟩
                      have hy53 : y200.length = x0_1.length - (1 : Int).toNat := (by rw [Ny200.out, List.length_drop])
                      rw [← Ny200.out] at hr53
                      rw [← hy53, ← hA53, ← hc53] at hcut53
                      replace hr53 : Kd.Q k67 67 w52 w.heap.size (fun k_ => some k_ ≠ (.slice (some ad183) x1_1.length co46 : Value).ownBlock ∧ some k_ ≠ (u5 : Value).ownBlock ∧ k_ ≠ gb186) (.slice A53 y200.length c53) y200 := (by rw [hA53, hc53, hy53]; exact hr53)
                      have HE53 : Aside0 ((Value.slice A53 y200.length c53).ownBlock = (.slice (some ad182) x0_1.length co45 : Value).ownBlock) := ⟨by rw [hA53]; split <;> (cases ((some ad182) : Option Addr) <;> rfl)⟩
                      clear hy53 hi053 hsz53 HO_0 hA53 hc53
                      have HO202 := Aside0.mk hr53
                      clear hr53
                      replace q53 := eq_true q53
                      have n_ := Aside0.mk (Kd.Q_mono (ok' := fun k_ => (some k_ ≠ (.slice A53 y200.length c53 : Value).ownBlock ∧ (some k_ ≠ (u5 : Value).ownBlock ∧ k_ ≠ gb186))) HO_1.out (fun k_ hk => ⟨(by rw [HE53.out]; exact hk.1), ⟨hk.2.1, hk.2.2⟩⟩))
                      clear HO_1
                      have HO_1 := n_
                      clear n_
                      have n_ := Aside0.mk (Kd.R_mono (ok' := fun k_ => (some k_ ≠ (.slice A53 y200.length c53 : Value).ownBlock ∧ (some k_ ≠ (.slice (some ad183) x1_1.length co46 : Value).ownBlock ∧ k_ ≠ gb186))) HO_5.out (fun k_ hk => ⟨(by rw [HE53.out]; exact hk.1), ⟨hk.2.1, hk.2.2⟩⟩))
                      clear HO_5
                      have HO_5 := n_
                      clear n_
                      try go_wp2
                      go_roundg kj6
                      case measure => have := HK1.out; have := HJ6.out; omega
                      case rel => exact ⟨(y200), (x1_1), (x5_1), H', ⟨by have := HK1.out; have := HJ6.out; omega⟩, ⟨by (with_reducible repeat (first | apply Kd.Q_alloc | apply Kd.Q_drewN | apply Kd.Q_drew)); exact Kd.Q_mono HO202.out (fun _ hk => ⟨hk.1, hk.2.1⟩)⟩, ⟨by (with_reducible repeat (first | apply Kd.Q_alloc | apply Kd.Q_drewN | apply Kd.Q_drew)); exact Kd.Q_mono HO_1.out (fun _ hk => ⟨hk.1, hk.2.1⟩)⟩, ⟨by (with_reducible repeat (first | apply Kd.R_alloc | apply Kd.R_drewN | apply Kd.R_drew)); exact Kd.R_mono HO_5.out (fun _ hk => ⟨hk.1, hk.2.1⟩)⟩, ⟨by repeat (first | (with_reducible first | exact HB.out | apply below_alloc | apply pw_below_drewN | apply below_drew1 | refine below_set ?_ GE186.out) | exact HB.out)⟩⟩
                    · rw [if_neg c43] at H
                      exact absurd H (by simp)
                  · rw [if_neg c42] at H
                    have c42b0 : decide (((rd_T67 x0_1 0).f1) < ((rd_T67 x1_1 0).f1)) = false := decide_eq_false c42
                    clear c42
                    by_cases c54 : 1 ≤ (x1_1.length : Int)
                    · rw [if_pos c54] at H
                      have c54b0 := eq_true c54
                      have c54b1 : decide (1 ≤ (x1_1.length : Int)) = true := decide_eq_true c54
                      clear c54
                      obtain ⟨y203, hy203⟩ : ∃ y_ : List (S67), y_ = (x1_1.drop (1 : Int).toNat) := ⟨_, rfl⟩
                      replace H : (agenda_Both.l0 kj6 x0_1 y203 x5_1) = some r := by first | (rw [hy203]; with_reducible exact H) | (have H2_ := (Option.bind_some _ _).symm.trans H; rw [hy203]; with_reducible exact H2_) | (have H2_ := (Option.bind_some _ _).symm.trans H; with_reducible exact H2_) | with_reducible exact H | (rw [hy203]; exact H) | exact H
                      have Ny203 := Aside0.mk hy203
                      clear hy203
                      have H' := Aside0.mk H
                      clear H
                      try go_wp2
                      have n0_ := Aside0.mk (Kd.Q_drew HO_0.out)
                      have n1_ := Aside0.mk (Kd.Q_drew HO_1.out)
                      have n2_ := Aside0.mk (Kd.R_drew HO_5.out)
                      have n3_ := Aside0.mk (below_drew1 HB.out)
                      clear HO_0
                      clear HO_1
                      clear HO_5
                      clear HB
                      have HO_0 := n0_
                      have HO_1 := n1_
                      have HO_5 := n2_
                      have HB := n3_
                      clear n0_ n1_ n2_ n3_
                      obtain ⟨Ao56, co56, eo56, _⟩ := Kd.Q_slice HO_0.out
                      (first | subst eo56 | (injection eo56 with f1_ f2_ f3_; have f4_ := f1_.symm; have f5_ := f3_.symm; clear f1_ f2_ f3_; subst f4_; subst f5_))
                      have p182 : 0 ≤ (0 : Int) := (by omega)
                      have q182 : 0 < (x0_1.length : Int) := of_decide_eq_true (by first | (with_reducible assumption) | assumption)
                      obtain ⟨ad182, e182, hx182_0, hx182_1⟩ := at_T67 (Kd.Q_reads' HO_0.out).2.2 0 p182 q182
                      cases e182
                      have qi182 : (0 < x0_1.length) = True := eq_true (by omega)
                      (try rw [show ((0 : Int)).toNat = 0 from rfl] at hx182_0)
                      (try rw [show 0 * 2 = 0 from rfl] at hx182_0)
                      (try rw [Addr.add_zero'] at hx182_0)
                      (try rw [show ((0 : Int)).toNat = 0 from rfl] at hx182_1)
                      (try rw [show 0 * 2 = 0 from rfl] at hx182_1)
                      (try rw [Addr.add_zero'] at hx182_1)
                      replace p182 := eq_true p182
                      replace q182 := eq_true q182
                      obtain ⟨Ao57, co57, eo57, _⟩ := Kd.Q_slice HO_1.out
                      (first | subst eo57 | (injection eo57 with f1_ f2_ f3_; have f4_ := f1_.symm; have f5_ := f3_.symm; clear f1_ f2_ f3_; subst f4_; subst f5_))
                      have p183 : 0 ≤ (0 : Int) := (by omega)
                      have q183 : 0 < (x1_1.length : Int) := of_decide_eq_true (by first | (with_reducible assumption) | assumption)
                      obtain ⟨ad183, e183, hx183_0, hx183_1⟩ := at_T67 (Kd.Q_reads' HO_1.out).2.2 0 p183 q183
                      cases e183
                      have qi183 : (0 < x1_1.length) = True := eq_true (by omega)
                      (try rw [show ((0 : Int)).toNat = 0 from rfl] at hx183_0)
                      (try rw [show 0 * 2 = 0 from rfl] at hx183_0)
                      (try rw [Addr.add_zero'] at hx183_0)
                      (try rw [show ((0 : Int)).toNat = 0 from rfl] at hx183_1)
                      (try rw [show 0 * 2 = 0 from rfl] at hx183_1)
                      (try rw [Addr.add_zero'] at hx183_1)
                      replace p183 := eq_true p183
                      replace q183 := eq_true q183
                      have p184 : 0 ≤ (0 : Int) := (by omega)
                      have q184 : 0 < (x0_1.length : Int) := of_decide_eq_true (by first | (with_reducible assumption) | assumption)
                      obtain ⟨ad184, e184, hx184_0, hx184_1⟩ := at_T67 (Kd.Q_reads' HO_0.out).2.2 0 p184 q184
                      obtain rfl : ad182 = ad184 := (by injection e184)
                      have qi184 : (0 < x0_1.length) = True := eq_true (by omega)
                      (try rw [show ((0 : Int)).toNat = 0 from rfl] at hx184_0)
                      (try rw [show 0 * 2 = 0 from rfl] at hx184_0)
                      (try rw [Addr.add_zero'] at hx184_0)
                      (try rw [show ((0 : Int)).toNat = 0 from rfl] at hx184_1)
                      (try rw [show 0 * 2 = 0 from rfl] at hx184_1)
                      (try rw [Addr.add_zero'] at hx184_1)
                      replace p184 := eq_true p184
                      replace q184 := eq_true q184
                      have p185 : 0 ≤ (0 : Int) := (by omega)
                      have q185 : 0 < (x1_1.length : Int) := of_decide_eq_true (by first | (with_reducible assumption) | assumption)
                      obtain ⟨ad185, e185, hx185_0, hx185_1⟩ := at_T67 (Kd.Q_reads' HO_1.out).2.2 0 p185 q185
                      obtain rfl : ad183 = ad185 := (by injection e185)
                      have qi185 : (0 < x1_1.length) = True := eq_true (by omega)
                      (try rw [show ((0 : Int)).toNat = 0 from rfl] at hx185_0)
                      (try rw [show 0 * 2 = 0 from rfl] at hx185_0)
                      (try rw [Addr.add_zero'] at hx185_0)
                      (try rw [show ((0 : Int)).toNat = 0 from rfl] at hx185_1)
                      (try rw [show 0 * 2 = 0 from rfl] at hx185_1)
                      (try rw [Addr.add_zero'] at hx185_1)
                      replace p185 := eq_true p185
                      replace q185 := eq_true q185
                      refine start_ (n := 21) (S := fun w' => w'.cell? ad182 = some (.int .i64 ((rd_T67 x0_1 0).f0)) ∧ w'.cell? ⟨ad182.block, ad182.off + 1, none⟩ = some (.int .i64 ((rd_T67 x0_1 0).f1)) ∧ w'.cell? ad183 = some (.int .i64 ((rd_T67 x1_1 0).f0)) ∧ w'.cell? ⟨ad183.block, ad183.off + 1, none⟩ = some (.int .i64 ((rd_T67 x1_1 0).f1)) ∧ w'.cell? ad182 = some (.int .i64 ((rd_T67 x0_1 0).f0)) ∧ w'.cell? ⟨ad182.block, ad182.off + 1, none⟩ = some (.int .i64 ((rd_T67 x0_1 0).f1)) ∧ w'.cell? ad183 = some (.int .i64 ((rd_T67 x1_1 0).f0)) ∧ w'.cell? ⟨ad183.block, ad183.off + 1, none⟩ = some (.int .i64 ((rd_T67 x1_1 0).f1))) (ds := []) #[false, false, false, false, false, false, false, false, false, false, false, false, false, false, false, false, false, false, false, false, false] (by kernel_rfl) rfl rfl ⟨hx182_0, hx182_1, hx183_0, hx183_1, hx184_0, hx184_1, hx185_0, hx185_1⟩ (fun hHeld => ?_); refine with_tabW agenda_Both.tab4 agenda_Both.bits4 (fun HT_ HW_ => ?_)
                      generalize wc.drew = w55 at HO_0 HO_1 HO_5 HB hx182_0 hx182_1 hx183_0 hx183_1 hx184_0 hx184_1 hx185_0 hx185_1 hHeld ⊢
                      refine pure_ (i := 0) (N := some 19) (v := ?_) (a' := ?_) #[true, false, false, false, false, false, false, false, false, false, false, false, false, false, false, false, false, false, false, false, false] rfl rfl (any_of HT_.out (by kernel_rfl)) (fun _ _ _ h => h) (Or.inl ⟨by rfl, ?_⟩) ?_ ?_
                      rotate_left
                      · intro w'
                        go_simp
                        with_reducible rfl
                      rotate_left
                      · simp only [Act.put, List.setIfInBounds_toArray, List.set_cons_zero, List.set_cons_succ, i64_w, i32_w]
                        rfl
                      refine pure_ (i := 1) (N := some 20) (v := ?_) (a' := ?_) #[true, true, false, false, false, false, false, false, false, false, false, false, false, false, false, false, false, false, false, false, false] rfl rfl (any_of HT_.out (by kernel_rfl)) (fun _ _ _ h => h) (Or.inl ⟨by rfl, ?_⟩) ?_ ?_
                      rotate_left
                      · intro w'
                        go_simp
                        with_reducible rfl
                      rotate_left
                      · simp only [Act.put, List.setIfInBounds_toArray, List.set_cons_zero, List.set_cons_succ, i64_w, i32_w]
                        rfl
                      refine pure_ (i := 2) (N := some 21) (v := ?_) (a' := ?_) #[true, true, true, false, false, false, false, false, false, false, false, false, false, false, false, false, false, false, false, false, false] rfl rfl (any_of HT_.out (by kernel_rfl)) (fun _ _ _ h => h) (Or.inl ⟨by rfl, ?_⟩) ?_ ?_
                      rotate_left
                      · intro w'
                        go_simp
                        with_reducible rfl
                      rotate_left
                      · simp only [Act.put, List.setIfInBounds_toArray, List.set_cons_zero, List.set_cons_succ, i64_w, i32_w]
                        rfl
                      refine pure_ (i := 4) (N := some 23) (v := ?_) (a' := ?_) #[true, true, true, false, true, false, false, false, false, false, false, false, false, false, false, false, false, false, false, false, false] rfl rfl (any_of HT_.out (by kernel_rfl)) (fun _ _ _ h => h) (Or.inl ⟨by rfl, ?_⟩) ?_ ?_
                      rotate_left
                      · intro w'
                        go_simp
                        with_reducible rfl
                      rotate_left
                      · simp only [Act.put, List.setIfInBounds_toArray, List.set_cons_zero, List.set_cons_succ, i64_w, i32_w]
                        rfl
                      refine pure_ (i := 5) (N := some 24) (v := ?_) (a' := ?_) #[true, true, true, false, true, true, false, false, false, false, false, false, false, false, false, false, false, false, false, false, false] rfl rfl (any_of HT_.out (by kernel_rfl)) (fun _ _ _ h => h) (Or.inl ⟨by rfl, ?_⟩) ?_ ?_
                      rotate_left
                      · intro w'
                        go_simp
                        with_reducible rfl
                      rotate_left
                      · simp only [Act.put, List.setIfInBounds_toArray, List.set_cons_zero, List.set_cons_succ, i64_w, i32_w]
                        rfl
                      refine pure_ (i := 6) (N := some 25) (v := ?_) (a' := ?_) #[true, true, true, false, true, true, true, false, false, false, false, false, false, false, false, false, false, false, false, false, false] rfl rfl (any_of HT_.out (by kernel_rfl)) (fun _ _ _ h => h) (Or.inl ⟨by rfl, ?_⟩) ?_ ?_
                      rotate_left
                      · intro w'
                        go_simp
                        with_reducible rfl
                      rotate_left
                      · simp only [Act.put, List.setIfInBounds_toArray, List.set_cons_zero, List.set_cons_succ, i64_w, i32_w]
                        rfl
                      refine pure_ (i := 9) (N := some 28) (v := ?_) (a' := ?_) #[true, true, true, false, true, true, true, false, false, true, false, false, false, false, false, false, false, false, false, false, false] rfl rfl (any_of HT_.out (by kernel_rfl)) (fun _ _ _ h => h) (Or.inl ⟨by rfl, ?_⟩) ?_ ?_
                      rotate_left
                      · intro w'
                        go_simp
                        with_reducible rfl
                      rotate_left
                      · simp only [Act.put, List.setIfInBounds_toArray, List.set_cons_zero, List.set_cons_succ, i64_w, i32_w]
                        rfl
                      refine pure_ (i := 10) (N := some 29) (v := ?_) (a' := ?_) #[true, true, true, false, true, true, true, false, false, true, true, false, false, false, false, false, false, false, false, false, false] rfl rfl (any_of HT_.out (by kernel_rfl)) (fun _ _ _ h => h) (Or.inl ⟨by rfl, ?_⟩) ?_ ?_
                      rotate_left
                      · intro w'
                        go_simp
                        with_reducible rfl
                      rotate_left
                      · simp only [Act.put, List.setIfInBounds_toArray, List.set_cons_zero, List.set_cons_succ, i64_w, i32_w]
                        rfl
                      refine pure_ (i := 11) (N := some 30) (v := ?_) (a' := ?_) #[true, true, true, false, true, true, true, false, false, true, true, true, false, false, false, false, false, false, false, false, false] rfl rfl (any_of HT_.out (by kernel_rfl)) (fun _ _ _ h => h) (Or.inl ⟨by rfl, ?_⟩) ?_ ?_
                      rotate_left
                      · intro w'
                        go_simp
                        with_reducible rfl
                      rotate_left
                      · simp only [Act.put, List.setIfInBounds_toArray, List.set_cons_zero, List.set_cons_succ, i64_w, i32_w]
                        rfl
                      refine pure_ (i := 13) (N := some 32) (v := ?_) (a' := ?_) #[true, true, true, false, true, true, true, false, false, true, true, true, false, true, false, false, false, false, false, false, false] rfl rfl (any_of HT_.out (by kernel_rfl)) (fun _ _ _ h => h) (Or.inl ⟨by rfl, ?_⟩) ?_ ?_
                      rotate_left
                      · intro w'
                        go_simp
                        with_reducible rfl
                      rotate_left
                      · simp only [Act.put, List.setIfInBounds_toArray, List.set_cons_zero, List.set_cons_succ, i64_w, i32_w]
                        rfl
                      refine pure_ (i := 14) (N := some 33) (v := ?_) (a' := ?_) #[true, true, true, false, true, true, true, false, false, true, true, true, false, true, true, false, false, false, false, false, false] rfl rfl (any_of HT_.out (by kernel_rfl)) (fun _ _ _ h => h) (Or.inl ⟨by rfl, ?_⟩) ?_ ?_
                      rotate_left
                      · intro w'
                        go_simp
                        with_reducible rfl
                      rotate_left
                      · simp only [Act.put, List.setIfInBounds_toArray, List.set_cons_zero, List.set_cons_succ, i64_w, i32_w]
                        rfl
                      refine pure_ (i := 15) (N := some 34) (v := ?_) (a' := ?_) #[true, true, true, false, true, true, true, false, false, true, true, true, false, true, true, true, false, false, false, false, false] rfl rfl (any_of HT_.out (by kernel_rfl)) (fun _ _ _ h => h) (Or.inl ⟨by rfl, ?_⟩) ?_ ?_
                      rotate_left
                      · intro w'
                        go_simp
                        with_reducible rfl
                      rotate_left
                      · simp only [Act.put, List.setIfInBounds_toArray, List.set_cons_zero, List.set_cons_succ, i64_w, i32_w]
                        rfl
                      refine take_ (i := 3) (N := some 22) (v := ?_) (a' := ?_) #[true, true, true, true, true, true, true, false, false, true, true, true, false, true, true, true, false, false, false, false, false] rfl rfl (take_ofW HT_.out HW_.out (by kernel_rfl)) (fun _ _ _ h => h) (Or.inl ⟨by rfl, ?_⟩) hHeld ?_ ?_
                      rotate_left
                      · rintro w' ⟨s0, s1, s2, s3, s4, s5, s6, s7⟩
                        go_simp
                        with_reducible rfl
                      rotate_left
                      · simp only [Act.put, List.setIfInBounds_toArray, List.set_cons_zero, List.set_cons_succ, i64_w, i32_w]
                        rfl
                      refine take_ (i := 7) (N := some 26) (v := ?_) (a' := ?_) #[true, true, true, true, true, true, true, true, false, true, true, true, false, true, true, true, false, false, false, false, false] rfl rfl (take_ofW HT_.out HW_.out (by kernel_rfl)) (fun _ _ _ h => h) (Or.inl ⟨by rfl, ?_⟩) hHeld ?_ ?_
                      rotate_left
                      · rintro w' ⟨s0, s1, s2, s3, s4, s5, s6, s7⟩
                        go_simp
                        with_reducible rfl
                      rotate_left
                      · simp only [Act.put, List.setIfInBounds_toArray, List.set_cons_zero, List.set_cons_succ, i64_w, i32_w]
                        rfl
                      refine pure_ (i := 8) (N := some 27) (v := ?_) (a' := ?_) #[true, true, true, true, true, true, true, true, true, true, true, true, false, true, true, true, false, false, false, false, false] rfl rfl (any_of HT_.out (by kernel_rfl)) (fun _ _ _ h => h) (Or.inl ⟨by rfl, ?_⟩) ?_ ?_
                      rotate_left
                      · intro w'
                        go_simp
                        with_reducible rfl
                      rotate_left
                      · simp only [Act.put, List.setIfInBounds_toArray, List.set_cons_zero, List.set_cons_succ, i64_w, i32_w]
                        rfl
                      refine take_ (i := 12) (N := some 31) (v := ?_) (a' := ?_) #[true, true, true, true, true, true, true, true, true, true, true, true, true, true, true, true, false, false, false, false, false] rfl rfl (take_ofW HT_.out HW_.out (by kernel_rfl)) (fun _ _ _ h => h) (Or.inl ⟨by rfl, ?_⟩) hHeld ?_ ?_
                      rotate_left
                      · rintro w' ⟨s0, s1, s2, s3, s4, s5, s6, s7⟩
                        go_simp
                        with_reducible rfl
                      rotate_left
                      · simp only [Act.put, List.setIfInBounds_toArray, List.set_cons_zero, List.set_cons_succ, i64_w, i32_w]
                        rfl
                      refine take_ (i := 16) (N := some 35) (v := ?_) (a' := ?_) #[true, true, true, true, true, true, true, true, true, true, true, true, true, true, true, true, true, false, false, false, false] rfl rfl (take_ofW HT_.out HW_.out (by kernel_rfl)) (fun _ _ _ h => h) (Or.inl ⟨by rfl, ?_⟩) hHeld ?_ ?_
                      rotate_left
                      · rintro w' ⟨s0, s1, s2, s3, s4, s5, s6, s7⟩
                        go_simp
                        with_reducible rfl
                      rotate_left
                      · simp only [Act.put, List.setIfInBounds_toArray, List.set_cons_zero, List.set_cons_succ, i64_w, i32_w]
                        rfl
                      refine pure_ (i := 17) (N := some 36) (v := ?_) (a' := ?_) #[true, true, true, true, true, true, true, true, true, true, true, true, true, true, true, true, true, true, false, false, false] rfl rfl (any_of HT_.out (by kernel_rfl)) (fun _ _ _ h => h) (Or.inl ⟨by rfl, ?_⟩) ?_ ?_
                      rotate_left
                      · intro w'
                        go_simp
                        with_reducible rfl
                      rotate_left
                      · simp only [Act.put, List.setIfInBounds_toArray, List.set_cons_zero, List.set_cons_succ, i64_w, i32_w]
                        rfl
                      refine pure_ (i := 18) (N := some 37) (v := ?_) (a' := ?_) #[true, true, true, true, true, true, true, true, true, true, true, true, true, true, true, true, true, true, true, false, false] rfl rfl (any_of HT_.out (by kernel_rfl)) (fun _ _ _ h => h) (Or.inl ⟨by rfl, ?_⟩) ?_ ?_
                      rotate_left
                      · intro w'
                        go_simp
                        with_reducible rfl
                      rotate_left
                      · simp only [Act.put, List.setIfInBounds_toArray, List.set_cons_zero, List.set_cons_succ, i64_w, i32_w]
                        rfl
                      refine one_ (i := 19) (N := some 6) #[true, true, true, true, true, true, true, true, true, true, true, true, true, true, true, true, true, true, true, true, false] rfl rfl (one_of HT_.out (by kernel_rfl)) (by decide) (fun K hK => ?_)
                      refine box_step ?hg (N := 6) ?hd (cs := #[.int .i64 0, .int .i64 0]) (t := 67) ?hr ?_; (case hd => rfl); (case hg => rfl); (case hr => first | (go_simp; done) | (go_simp; rfl))
                      intro gb186 hg w58 hbox hb
                      have HS0_ := (hb.cell (World.block_lt_of_cell? _ _ (hHeld.1))).trans (hHeld.1)
                      have HS1_ := (hb.cell (World.block_lt_of_cell? _ _ (hHeld.2.1))).trans (hHeld.2.1)
                      have HS2_ := (hb.cell (World.block_lt_of_cell? _ _ (hHeld.2.2.1))).trans (hHeld.2.2.1)
                      have HS3_ := (hb.cell (World.block_lt_of_cell? _ _ (hHeld.2.2.2.1))).trans (hHeld.2.2.2.1)
                      have HS4_ := (hb.cell (World.block_lt_of_cell? _ _ (hHeld.2.2.2.2.1))).trans (hHeld.2.2.2.2.1)
                      have HS5_ := (hb.cell (World.block_lt_of_cell? _ _ (hHeld.2.2.2.2.2.1))).trans (hHeld.2.2.2.2.2.1)
                      have HS6_ := (hb.cell (World.block_lt_of_cell? _ _ (hHeld.2.2.2.2.2.2.1))).trans (hHeld.2.2.2.2.2.2.1)
                      have HS7_ := (hb.cell (World.block_lt_of_cell? _ _ (hHeld.2.2.2.2.2.2.2))).trans (hHeld.2.2.2.2.2.2.2)
                      have n0_ := Aside0.mk (Kd.Q_below (Kd.Q_elderB (by (with_reducible repeat (first | apply Kd.Q_alloc | apply Kd.Q_drewN | apply Kd.Q_drew)); exact HO_0.out) gb186 (Nat.le_of_eq hg.symm)) hb)
                      have n1_ := Aside0.mk (Kd.Q_below (Kd.Q_elderB (by (with_reducible repeat (first | apply Kd.Q_alloc | apply Kd.Q_drewN | apply Kd.Q_drew)); exact HO_1.out) gb186 (Nat.le_of_eq hg.symm)) hb)
                      have n2_ := Aside0.mk (Kd.R_below (Kd.R_elderB (by (with_reducible repeat (first | apply Kd.R_alloc | apply Kd.R_drewN | apply Kd.R_drew)); exact HO_5.out) gb186 (Nat.le_of_eq hg.symm)) hb)
                      have n3_ := Aside0.mk (below_step (by repeat (first | (with_reducible first | exact HB.out | apply below_alloc | apply pw_below_drewN | apply below_drew1) | exact HB.out)) hb)
                      have n4_ := Aside0.mk (hbox)
                      have n5_ := Aside0.mk ((by rw [hg]; exact (below_size (by repeat (first | (with_reducible first | exact HB.out | apply below_alloc | apply pw_below_drewN | apply below_drew1) | exact HB.out))) : w.heap.size ≤ gb186))
                      have n6_ := Aside0.mk ((by rw [hg]; exact (below_size (by repeat (first | (with_reducible first | exact HB.out | apply below_alloc | apply pw_below_drewN | apply below_drew1) | exact HB.out))) : w.heap.size ≤ gb186))
                      clear HO_0
                      clear HO_1
                      clear HO_5
                      clear HB
                      have HO_0 := n0_
                      have HO_1 := n1_
                      have HO_5 := n2_
                      have HB := n3_
                      have BK186 := n4_
                      have GW186 := n5_
                      have GE186 := n6_
                      clear n0_ n1_ n2_ n3_ n4_ n5_ n6_
                      clear hb hbox hg
                      refine hK.out _ _ ⟨HS0_, HS1_, HS2_, HS3_, HS4_, HS5_, HS6_, HS7_⟩ (fun hHeld => ?_)
                      clear hK K
                      refine norm_ (a' := ?_) ?_ ?_
                      rotate_left
                      · show Act.put _ (some 6) _ = _
                        simp only [Act.put, List.setIfInBounds_toArray, List.set_cons_zero, List.set_cons_succ, i64_w, i32_w]
                        rfl
                      refine one_ (i := 20) (N := none) #[true, true, true, true, true, true, true, true, true, true, true, true, true, true, true, true, true, true, true, true, true] rfl rfl (one_of HT_.out (by kernel_rfl)) (by decide) (fun K hK => ?_)
                      have hs59 : w58.cell? ⟨gb186, 0, none⟩ = some (.int .i64 0) := (blk_cell BK186.out 0).trans rfl
                      have hfs59 := blk_frozen BK186.out 0
                      have hs60 : w58.cell? ⟨gb186, 1, none⟩ = some (.int .i64 0) := (blk_cell BK186.out 1).trans rfl
                      have hfs60 := blk_frozen BK186.out 1
                      refine skip_ (w1 := ?_) (by rfl) rfl ?_ ?_
                      rotate_left
                      · go_simp
                        rfl
                      have ff0_ := Kd.own_blk (Kd.Q_away HO_0.out (fun _ hk => hk.2))
                      have ff1_ := Kd.own_blk (Kd.Q_away HO_1.out (fun _ hk => hk.2))
                      refine hK.out _ _ ⟨((cell_far (p := ⟨gb186, _, none⟩) (by exact ff0_) _).trans (((cell_far (p := ⟨gb186, _, none⟩) (by exact ff0_) _).trans (hHeld.1)))), ((cell_far (p := ⟨gb186, _, none⟩) (by exact ff0_) _).trans (((cell_far (p := ⟨gb186, _, none⟩) (by exact ff0_) _).trans (hHeld.2.1)))), ((cell_far (p := ⟨gb186, _, none⟩) (by exact ff1_) _).trans (((cell_far (p := ⟨gb186, _, none⟩) (by exact ff1_) _).trans (hHeld.2.2.1)))), ((cell_far (p := ⟨gb186, _, none⟩) (by exact ff1_) _).trans (((cell_far (p := ⟨gb186, _, none⟩) (by exact ff1_) _).trans (hHeld.2.2.2.1)))), ((cell_far (p := ⟨gb186, _, none⟩) (by exact ff0_) _).trans (((cell_far (p := ⟨gb186, _, none⟩) (by exact ff0_) _).trans (hHeld.2.2.2.2.1)))), ((cell_far (p := ⟨gb186, _, none⟩) (by exact ff0_) _).trans (((cell_far (p := ⟨gb186, _, none⟩) (by exact ff0_) _).trans (hHeld.2.2.2.2.2.1)))), ((cell_far (p := ⟨gb186, _, none⟩) (by exact ff1_) _).trans (((cell_far (p := ⟨gb186, _, none⟩) (by exact ff1_) _).trans (hHeld.2.2.2.2.2.2.1)))), ((cell_far (p := ⟨gb186, _, none⟩) (by exact ff1_) _).trans (((cell_far (p := ⟨gb186, _, none⟩) (by exact ff1_) _).trans (hHeld.2.2.2.2.2.2.2))))⟩ (fun hHeld => ?_)
                      clear hK K
                      refine done_ (done_of HT_.out (by kernel_rfl)) ?_
                      have hcz61_0 : w58.cell? ⟨gb186, 0, none⟩ = some (.int .i64 0) := (blk_cell BK186.out 0).trans rfl
                      have hcz61_1 : w58.cell? ⟨gb186, 1, none⟩ = some (.int .i64 0) := (blk_cell BK186.out 1).trans rfl
                      have hfz61_0 := blk_frozen BK186.out 0
                      have hfz61_1 := blk_frozen BK186.out 1
                      try go_wp2
                      have n0_ : Aside0 (Kd.Q k67 67 ((w58.setCell ⟨gb186, 0, none⟩ (.int .i64 ji15)).setCell ⟨gb186, 1, none⟩ (.int .i64 ji16)) w.heap.size (fun k_ => some k_ ≠ (.slice (some ad183) x1_1.length co57 : Value).ownBlock ∧ some k_ ≠ (u5 : Value).ownBlock ∧ k_ ≠ gb186) (.slice (some ad182) x0_1.length co56) x0_1) := ⟨by (with_reducible repeat (first | apply Kd.Q_alloc | apply Kd.Q_drewN | apply Kd.Q_drew)); exact Kd.Q_mono (Kd.Q_far (p := ⟨gb186, 1, none⟩) (Kd.Q_far (p := ⟨gb186, 0, none⟩) (Kd.Q_mono HO_0.out (fun k_ hk => (⟨hk, hk.2⟩ : _ ∧ k_ ≠ gb186))) (fun _ hk => hk.2) (.int .i64 ji15)) (fun _ hk => hk.2) (.int .i64 ji16)) (fun _ hk => ⟨hk.1.1.1, ⟨hk.1.1.2, hk.1.2⟩⟩)⟩
                      have n1_ : Aside0 (Kd.Q k67 67 ((w58.setCell ⟨gb186, 0, none⟩ (.int .i64 ji15)).setCell ⟨gb186, 1, none⟩ (.int .i64 ji16)) w.heap.size (fun k_ => some k_ ≠ (.slice (some ad182) x0_1.length co56 : Value).ownBlock ∧ some k_ ≠ (u5 : Value).ownBlock ∧ k_ ≠ gb186) (.slice (some ad183) x1_1.length co57) x1_1) := ⟨by (with_reducible repeat (first | apply Kd.Q_alloc | apply Kd.Q_drewN | apply Kd.Q_drew)); exact Kd.Q_mono (Kd.Q_far (p := ⟨gb186, 1, none⟩) (Kd.Q_far (p := ⟨gb186, 0, none⟩) (Kd.Q_mono HO_1.out (fun k_ hk => (⟨hk, hk.2⟩ : _ ∧ k_ ≠ gb186))) (fun _ hk => hk.2) (.int .i64 ji15)) (fun _ hk => hk.2) (.int .i64 ji16)) (fun _ hk => ⟨hk.1.1.1, ⟨hk.1.1.2, hk.1.2⟩⟩)⟩
                      have n2_ : Aside0 (Kd.R k67 67 ((w58.setCell ⟨gb186, 0, none⟩ (.int .i64 ji15)).setCell ⟨gb186, 1, none⟩ (.int .i64 ji16)) w.heap.size (fun k_ => some k_ ≠ (.slice (some ad182) x0_1.length co56 : Value).ownBlock ∧ some k_ ≠ (.slice (some ad183) x1_1.length co57 : Value).ownBlock ∧ k_ ≠ gb186) u5 x5_1) := ⟨by (with_reducible repeat (first | apply Kd.R_alloc | apply Kd.R_drewN | apply Kd.R_drew)); exact Kd.R_mono (Kd.R_far (p := ⟨gb186, 1, none⟩) (Kd.R_far (p := ⟨gb186, 0, none⟩) (Kd.R_mono HO_5.out (fun k_ hk => (⟨hk, hk.2⟩ : _ ∧ k_ ≠ gb186))) (fun _ hk => hk.2) (.int .i64 ji15)) (fun _ hk => hk.2) (.int .i64 ji16)) (fun _ hk => ⟨hk.1.1.1, ⟨hk.1.1.2, hk.1.2⟩⟩)⟩
                      have n3_ : Aside0 (((w58.setCell ⟨gb186, 0, none⟩ (.int .i64 ji15)).setCell ⟨gb186, 1, none⟩ (.int .i64 ji16)).heap[gb186]? = some (.cells #[.int .i64 ji15, .int .i64 ji16] 67 (0, 0))) := ⟨by (with_reducible repeat (first | refine blk_drewN ?_ _ | refine blk_drew ?_ | refine blk_alloc ?_ _)); refine blk_put (cs := #[.int .i64 ji15, .int .i64 0]) ?_ 1 _ rfl; (with_reducible repeat (first | refine blk_drewN ?_ _ | refine blk_drew ?_ | refine blk_alloc ?_ _)); refine blk_put (cs := #[.int .i64 0, .int .i64 0]) ?_ 0 _ rfl; (with_reducible repeat (first | refine blk_drewN ?_ _ | refine blk_drew ?_ | refine blk_alloc ?_ _)); exact BK186.out⟩
                      have n4_ : Aside0 (Below w.heap.size w ((w58.setCell ⟨gb186, 0, none⟩ (.int .i64 ji15)).setCell ⟨gb186, 1, none⟩ (.int .i64 ji16))) := ⟨by repeat (first | (with_reducible first | exact HB.out | apply below_alloc | apply pw_below_drewN | apply below_drew1 | refine below_set ?_ GE186.out) | exact HB.out)⟩
                      (try clear HO_0)
                      (try clear HO_1)
                      (try clear HO_5)
                      (try clear BK186)
                      (try clear HB)
                      generalize ((w58.setCell ⟨gb186, 0, none⟩ (.int .i64 ji15)).setCell ⟨gb186, 1, none⟩ (.int .i64 ji16)) = w62 at n0_ n1_ n2_ n3_ n4_ ⊢
                      have HO_0 := n0_
                      have HO_1 := n1_
                      have HO_5 := n2_
                      have BK186 := n3_
                      have HB := n4_
                      clear n0_ n1_ n2_ n3_ n4_
                      have n0_ := Aside0.mk (Kd.Q_drew HO_0.out)
                      have n1_ := Aside0.mk (Kd.Q_drew HO_1.out)
                      have n2_ := Aside0.mk (Kd.R_drew HO_5.out)
                      have n3_ := Aside0.mk (blk_drew BK186.out)
                      have n4_ := Aside0.mk (below_drew1 HB.out)
                      clear HO_0
                      clear HO_1
                      clear HO_5
                      clear BK186
                      clear HB
                      have HO_0 := n0_
                      have HO_1 := n1_
                      have HO_5 := n2_
                      have BK186 := n3_
                      have HB := n4_
                      clear n0_ n1_ n2_ n3_ n4_
                      have p198 : 0 ≤ (0 : Int) := (by omega)
                      have q198 : 0 < (x0_1.length : Int) := of_decide_eq_true (by first | (with_reducible assumption) | assumption)
                      obtain ⟨ad198, e198, hx198_0, hx198_1⟩ := at_T67 (Kd.Q_reads' HO_0.out).2.2 0 p198 q198
                      obtain rfl : ad182 = ad198 := (by injection e198)
                      have qi198 : (0 < x0_1.length) = True := eq_true (by omega)
                      (try rw [show ((0 : Int)).toNat = 0 from rfl] at hx198_0)
                      (try rw [show 0 * 2 = 0 from rfl] at hx198_0)
                      (try rw [Addr.add_zero'] at hx198_0)
                      (try rw [show ((0 : Int)).toNat = 0 from rfl] at hx198_1)
                      (try rw [show 0 * 2 = 0 from rfl] at hx198_1)
                      (try rw [Addr.add_zero'] at hx198_1)
                      replace p198 := eq_true p198
                      replace q198 := eq_true q198
                      have p199 : 0 ≤ (0 : Int) := (by omega)
                      have q199 : 0 < (x1_1.length : Int) := of_decide_eq_true (by first | (with_reducible assumption) | assumption)
                      obtain ⟨ad199, e199, hx199_0, hx199_1⟩ := at_T67 (Kd.Q_reads' HO_1.out).2.2 0 p199 q199
                      obtain rfl : ad183 = ad199 := (by injection e199)
                      have qi199 : (0 < x1_1.length) = True := eq_true (by omega)
                      (try rw [show ((0 : Int)).toNat = 0 from rfl] at hx199_0)
                      (try rw [show 0 * 2 = 0 from rfl] at hx199_0)
                      (try rw [Addr.add_zero'] at hx199_0)
                      (try rw [show ((0 : Int)).toNat = 0 from rfl] at hx199_1)
                      (try rw [show 0 * 2 = 0 from rfl] at hx199_1)
                      (try rw [Addr.add_zero'] at hx199_1)
                      replace p199 := eq_true p199
                      replace q199 := eq_true q199
                      refine start_ (n := 9) (S := fun w' => w'.cell? ad182 = some (.int .i64 ((rd_T67 x0_1 0).f0)) ∧ w'.cell? ⟨ad182.block, ad182.off + 1, none⟩ = some (.int .i64 ((rd_T67 x0_1 0).f1)) ∧ w'.cell? ad183 = some (.int .i64 ((rd_T67 x1_1 0).f0)) ∧ w'.cell? ⟨ad183.block, ad183.off + 1, none⟩ = some (.int .i64 ((rd_T67 x1_1 0).f1))) (ds := []) #[false, false, false, false, false, false, false, false, false] (by kernel_rfl) rfl rfl ⟨hx198_0, hx198_1, hx199_0, hx199_1⟩ (fun hHeld => ?_); refine with_tabW agenda_Both.tab7 agenda_Both.bits7 (fun HT_ HW_ => ?_)
                      generalize w62.drew = w63 at HO_0 HO_1 HO_5 BK186 HB hx198_0 hx198_1 hx199_0 hx199_1 hHeld ⊢
                      refine pure_ (i := 0) (N := some 47) (v := ?_) (a' := ?_) #[true, false, false, false, false, false, false, false, false] rfl rfl (any_of HT_.out (by kernel_rfl)) (fun _ _ _ h => h) (Or.inl ⟨by rfl, ?_⟩) ?_ ?_
                      rotate_left
                      · intro w'
                        go_simp
                        with_reducible rfl
                      rotate_left
                      · simp only [Act.put, List.setIfInBounds_toArray, List.set_cons_zero, List.set_cons_succ, i64_w, i32_w]
                        rfl
                      refine pure_ (i := 1) (N := some 48) (v := ?_) (a' := ?_) #[true, true, false, false, false, false, false, false, false] rfl rfl (any_of HT_.out (by kernel_rfl)) (fun _ _ _ h => h) (Or.inl ⟨by rfl, ?_⟩) ?_ ?_
                      rotate_left
                      · intro w'
                        go_simp
                        with_reducible rfl
                      rotate_left
                      · simp only [Act.put, List.setIfInBounds_toArray, List.set_cons_zero, List.set_cons_succ, i64_w, i32_w]
                        rfl
                      refine pure_ (i := 2) (N := some 49) (v := ?_) (a' := ?_) #[true, true, true, false, false, false, false, false, false] rfl rfl (any_of HT_.out (by kernel_rfl)) (fun _ _ _ h => h) (Or.inl ⟨by rfl, ?_⟩) ?_ ?_
                      rotate_left
                      · intro w'
                        go_simp
                        with_reducible rfl
                      rotate_left
                      · simp only [Act.put, List.setIfInBounds_toArray, List.set_cons_zero, List.set_cons_succ, i64_w, i32_w]
                        rfl
                      refine pure_ (i := 4) (N := some 51) (v := ?_) (a' := ?_) #[true, true, true, false, true, false, false, false, false] rfl rfl (any_of HT_.out (by kernel_rfl)) (fun _ _ _ h => h) (Or.inl ⟨by rfl, ?_⟩) ?_ ?_
                      rotate_left
                      · intro w'
                        go_simp
                        with_reducible rfl
                      rotate_left
                      · simp only [Act.put, List.setIfInBounds_toArray, List.set_cons_zero, List.set_cons_succ, i64_w, i32_w]
                        rfl
                      refine pure_ (i := 5) (N := some 52) (v := ?_) (a' := ?_) #[true, true, true, false, true, true, false, false, false] rfl rfl (any_of HT_.out (by kernel_rfl)) (fun _ _ _ h => h) (Or.inl ⟨by rfl, ?_⟩) ?_ ?_
                      rotate_left
                      · intro w'
                        go_simp
                        with_reducible rfl
                      rotate_left
                      · simp only [Act.put, List.setIfInBounds_toArray, List.set_cons_zero, List.set_cons_succ, i64_w, i32_w]
                        rfl
                      refine pure_ (i := 6) (N := some 53) (v := ?_) (a' := ?_) #[true, true, true, false, true, true, true, false, false] rfl rfl (any_of HT_.out (by kernel_rfl)) (fun _ _ _ h => h) (Or.inl ⟨by rfl, ?_⟩) ?_ ?_
                      rotate_left
                      · intro w'
                        go_simp
                        with_reducible rfl
                      rotate_left
                      · simp only [Act.put, List.setIfInBounds_toArray, List.set_cons_zero, List.set_cons_succ, i64_w, i32_w]
                        rfl
                      refine take_ (i := 3) (N := some 50) (v := ?_) (a' := ?_) #[true, true, true, true, true, true, true, false, false] rfl rfl (take_ofW HT_.out HW_.out (by kernel_rfl)) (fun _ _ _ h => h) (Or.inl ⟨by rfl, ?_⟩) hHeld ?_ ?_
                      rotate_left
                      · rintro w' ⟨s0, s1, s2, s3⟩
                        go_simp
                        with_reducible rfl
                      rotate_left
                      · simp only [Act.put, List.setIfInBounds_toArray, List.set_cons_zero, List.set_cons_succ, i64_w, i32_w]
                        rfl
                      refine take_ (i := 7) (N := some 54) (v := ?_) (a' := ?_) #[true, true, true, true, true, true, true, true, false] rfl rfl (take_ofW HT_.out HW_.out (by kernel_rfl)) (fun _ _ _ h => h) (Or.inl ⟨by rfl, ?_⟩) hHeld ?_ ?_
                      rotate_left
                      · rintro w' ⟨s0, s1, s2, s3⟩
                        go_simp
                        with_reducible rfl
                      rotate_left
                      · simp only [Act.put, List.setIfInBounds_toArray, List.set_cons_zero, List.set_cons_succ, i64_w, i32_w]
                        rfl
                      refine pure_ (i := 8) (N := some 55) (v := ?_) (a' := ?_) #[true, true, true, true, true, true, true, true, true] rfl rfl (any_of HT_.out (by kernel_rfl)) (fun _ _ _ h => h) (Or.inl ⟨by rfl, ?_⟩) ?_ ?_
                      rotate_left
                      · intro w'
                        go_simp
                        with_reducible rfl
                      rotate_left
                      · simp only [Act.put, List.setIfInBounds_toArray, List.set_cons_zero, List.set_cons_succ, i64_w, i32_w]
                        rfl
                      refine done_ (done_of HT_.out (by kernel_rfl)) ?_
                      have q64 : (1 : Int) ≤ ((x1_1.length : Int) : Int) := of_decide_eq_true (by first | (with_reducible assumption) | assumption)
                      obtain ⟨i064, hi064, _, hsz64, _⟩ := info_parts info67
                      have hcut64 := cut_from (P := Try.prog) 57 67 .i64 Try.underlying57 hi064 2 hsz64 (some ad183) x1_1.length co57 1 (by omega) q64
                      have hr64 := Kd.Q_drop (k := (1 : Int).toNat) HO_1.out (by omega)
                      obtain ⟨A64, hA64⟩ : ∃ A1, A1 = (if co57 = (1 : Int).toNat then (some ad183) else ((some ad183) : Option Addr).map (·.add ((1 : Int).toNat * 2))) := ⟨_, rfl⟩
                      obtain ⟨c64, hc64⟩ : ∃ c1, c1 = co57 - (1 : Int).toNat := ⟨_, rfl⟩
                      have hy64 : y203.length = x1_1.length - (1 : Int).toNat := (by rw [Ny203.out, List.length_drop])
                      rw [← Ny203.out] at hr64
                      rw [← hy64, ← hA64, ← hc64] at hcut64
                      replace hr64 : Kd.Q k67 67 w63 w.heap.size (fun k_ => some k_ ≠ (.slice (some ad182) x0_1.length co56 : Value).ownBlock ∧ some k_ ≠ (u5 : Value).ownBlock ∧ k_ ≠ gb186) (.slice A64 y203.length c64) y203 := (by rw [hA64, hc64, hy64]; exact hr64)
                      have HE64 : Aside0 ((Value.slice A64 y203.length c64).ownBlock = (.slice (some ad183) x1_1.length co57 : Value).ownBlock) := ⟨by rw [hA64]; split <;> (cases ((some ad183) : Option Addr) <;> rfl)⟩
                      clear hy64 hi064 hsz64 HO_1 hA64 hc64
                      have HO205 := Aside0.mk hr64
                      clear hr64
                      replace q64 := eq_true q64
                      have n_ := Aside0.mk (Kd.Q_mono (ok' := fun k_ => (some k_ ≠ (.slice A64 y203.length c64 : Value).ownBlock ∧ (some k_ ≠ (u5 : Value).ownBlock ∧ k_ ≠ gb186))) HO_0.out (fun k_ hk => ⟨(by rw [HE64.out]; exact hk.1), ⟨hk.2.1, hk.2.2⟩⟩))
                      clear HO_0
                      have HO_0 := n_
                      clear n_
                      have n_ := Aside0.mk (Kd.R_mono (ok' := fun k_ => (some k_ ≠ (.slice (some ad182) x0_1.length co56 : Value).ownBlock ∧ (some k_ ≠ (.slice A64 y203.length c64 : Value).ownBlock ∧ k_ ≠ gb186))) HO_5.out (fun k_ hk => ⟨hk.1, ⟨(by rw [HE64.out]; exact hk.2.1), hk.2.2⟩⟩))
                      clear HO_5
                      have HO_5 := n_
                      clear n_
                      try go_wp2
                      go_roundg kj6
                      case measure => have := HK1.out; have := HJ6.out; omega
                      case rel => exact ⟨(x0_1), (y203), (x5_1), H', ⟨by have := HK1.out; have := HJ6.out; omega⟩, ⟨by (with_reducible repeat (first | apply Kd.Q_alloc | apply Kd.Q_drewN | apply Kd.Q_drew)); exact Kd.Q_mono HO_0.out (fun _ hk => ⟨hk.1, hk.2.1⟩)⟩, ⟨by (with_reducible repeat (first | apply Kd.Q_alloc | apply Kd.Q_drewN | apply Kd.Q_drew)); exact Kd.Q_mono HO205.out (fun _ hk => ⟨hk.1, hk.2.1⟩)⟩, ⟨by (with_reducible repeat (first | apply Kd.R_alloc | apply Kd.R_drewN | apply Kd.R_drew)); exact Kd.R_mono HO_5.out (fun _ hk => ⟨hk.1, hk.2.1⟩)⟩, ⟨by repeat (first | (with_reducible first | exact HB.out | apply below_alloc | apply pw_below_drewN | apply below_drew1 | refine below_set ?_ GE186.out) | exact HB.out)⟩⟩
                    · rw [if_neg c54] at H
                      exact absurd H (by simp)
              · rw [if_neg c14] at H
                exact absurd H (by simp)
            · rw [if_neg c13] at H
              exact absurd H (by simp)
          · replace c12 := Bool.eq_false_iff.mpr c12
            subst c12
            have H1 : (some x5_1) = some r := by rw [if_neg (show ¬ (false = true) by decide)] at H; exact H
            clear H
            have H := H1
            clear H1
            obtain rfl := Option.some.inj H
            go_wp2
            go_ret
            exact ⟨_, by first | rfl | (simp [errW_none, errW_some] <;> rfl) | (simp [*, errW_none, errW_some] <;> rfl), by (with_reducible repeat (first | apply Kd.R_alloc | apply Kd.R_drewN | apply Kd.R_drew)); exact Kd.R_mono HO_5.out (fun _ hk => trivial), by repeat (first | (with_reducible first | exact HB.out | apply below_alloc | apply pw_below_drewN | apply below_drew1) | exact HB.out)⟩

end Go.Proofs.Ytddoidcbpcmlaaa.G
