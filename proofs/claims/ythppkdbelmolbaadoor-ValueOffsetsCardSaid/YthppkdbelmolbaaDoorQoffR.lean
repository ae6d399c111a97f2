-- written by a program of this session (wip/own_print.sh)
import Derived.Test.YthppkdbelmolbaaDoorQ0
import Derived.Test.YthppkdbelmolbaaDoorQnumR
import Derived.Test.YthppkdbelmolbaaDoorQrefN
namespace Go.Proofs.YthppkdbelmolbaaDoor.Q
open Go.RowKit Go.Proofs.YthppkdbelmolbaaDoorW.PrintWords Go.Proofs.YthppkdbelmolbaaDoorW.PrintLast Go.Proofs.YthppkdbelmolbaaDoorW.PrintMore
attribute [local go_sem] max2_int min2_int max_two min_two max_three min_three max_four min_four   -- for this text's walks alone
set_option linter.unusedVariables false
set_option linter.unusedSimpArgs false

/-! ### trystref12_Offset: function 13 -/
mutual
def trystref12_Offset.j0 : Nat → Int → Bool → Option (ByteArray × Int)
  | 0, _, _ => none
  | k + 1, x0, x10 => if x10 = true then (some ((⟨#[]⟩ : ByteArray), 7)) else (if x0 < 0 then (trystref12_Offset.j1 k (wrap64 (-x0)) (⟨#[45]⟩ : ByteArray)) else (trystref12_Offset.j1 k x0 (⟨#[43]⟩ : ByteArray)))
def trystref12_Offset.j1 : Nat → Int → ByteArray → Option (ByteArray × Int)
  | 0, _, _ => none
  | k + 1, x0, x4 => (trystref01_Two.f k (wrap64 (Int.tdiv x0 3600))).bind fun t147 => (if x4.size + t147.size ≤ 9223372036854775807 then ((trystref01_Two.f k (Int.tmod (wrap64 (Int.tdiv x0 60)) 60)).bind fun t148 => (if (x4 ++ t147).size + t148.size ≤ 9223372036854775807 then (if (Int.tmod x0 60) = 0 then (some ((x4 ++ t147) ++ t148, 0)) else ((trystref01_Two.f k (Int.tmod x0 60)).bind fun t149 => (if ((x4 ++ t147) ++ t148).size + t149.size ≤ 9223372036854775807 then (some (((x4 ++ t147) ++ t148) ++ t149, 0)) else (none)))) else (none))) else (none))
end
def trystref12_Offset.f (k : Nat) (a0 : Int) : Option (ByteArray × Int) := if a0 < (-86399) then (trystref12_Offset.j0 k a0 true) else (trystref12_Offset.j0 k a0 (decide (a0 > 86399)))
theorem trystref12_Offset.mono_l : ∀ k, (∀ y0 y1, LeO (trystref12_Offset.j0 k y0 y1) (trystref12_Offset.j0 (k + 1) y0 y1)) ∧ (∀ y0 y1, LeO (trystref12_Offset.j1 k y0 y1) (trystref12_Offset.j1 (k + 1) y0 y1))
  | 0 => ⟨fun _ _ r h => by simp [trystref12_Offset.j0] at h, fun _ _ r h => by simp [trystref12_Offset.j1] at h⟩
  | k + 1 => by
    obtain ⟨ih0, ih1⟩ := trystref12_Offset.mono_l k
    refine ⟨?_, ?_⟩
    · intro y0 y1
      unfold trystref12_Offset.j0
      repeat' first
      | (with_reducible exact ih0 _ _)
      | (with_reducible exact ih1 _ _)
      | (with_reducible exact trystref01_Two.mono _ _)
      | (with_reducible exact LeO.refl _)
      | (with_reducible exact LeO.none _)
      | (with_reducible refine LeO.ite ?_ ?_)
      | (with_reducible refine LeO.bind ?_ (fun _ => ?_))
      | exact ih0 _ _
      | exact ih1 _ _
      | exact trystref01_Two.mono _ _
      | exact LeO.none _
      | refine LeO.ite ?_ ?_
      | refine LeO.bind ?_ (fun _ => ?_)
    · intro y0 y1
      unfold trystref12_Offset.j1
      repeat' first
      | (with_reducible exact ih0 _ _)
      | (with_reducible exact ih1 _ _)
      | (with_reducible exact trystref01_Two.mono _ _)
      | (with_reducible exact LeO.refl _)
      | (with_reducible exact LeO.none _)
      | (with_reducible refine LeO.ite ?_ ?_)
      | (with_reducible refine LeO.bind ?_ (fun _ => ?_))
      | exact ih0 _ _
      | exact ih1 _ _
      | exact trystref01_Two.mono _ _
      | exact LeO.none _
      | refine LeO.ite ?_ ?_
      | refine LeO.bind ?_ (fun _ => ?_)
theorem trystref12_Offset.mono : ∀ a0 k, LeO (trystref12_Offset.f k a0) (trystref12_Offset.f (k + 1) a0) := by
  intro a0 k
  obtain ⟨ih0, ih1⟩ := trystref12_Offset.mono_l k
  unfold trystref12_Offset.f
  repeat' first
      | (with_reducible exact ih0 _ _)
      | (with_reducible exact ih1 _ _)
      | (with_reducible exact trystref01_Two.mono _ _)
      | (with_reducible exact LeO.refl _)
      | (with_reducible exact LeO.none _)
      | (with_reducible refine LeO.ite ?_ ?_)
      | (with_reducible refine LeO.bind ?_ (fun _ => ?_))
      | exact ih0 _ _
      | exact ih1 _ _
      | exact trystref01_Two.mono _ _
      | exact LeO.none _
      | refine LeO.ite ?_ ?_
      | refine LeO.bind ?_ (fun _ => ?_)
set_option maxHeartbeats 8000000 in
set_option maxRecDepth 100000 in
theorem trystref12_Offset.calls (k : Nat) (a0 : Int) (r1 : ByteArray) (r2 : Int) (w : World) (h : trystref12_Offset.f k a0 = some (r1, r2)) :
    Calls Tryd.prog 13 #[.int .i64 a0] w fun e w' => e = .returned (.tuple #[.string r1, .int .i64 r2]) ∧ Below w.heap.size w w' := by
  have HB := Aside0.mk (Below.refl w.heap.size w)
  have H : (if a0 < (-86399) then (trystref12_Offset.j0 k a0 true) else (trystref12_Offset.j0 k a0 (decide (a0 > 86399)))) = some (r1, r2) := h
  clear h
  have HC2 := Aside0.mk H
  clear H
  go_enter Tryd.func13, Tryd.ntmps13
  go_upto_region 1 with (fail)
  go_cut [10] (fun v10 wc => ∃ (kq : Nat) (x10_1 : Bool), v10 = .bool x10_1 ∧ Aside0 (trystref12_Offset.j0 kq a0 x10_1 = some (r1, r2)) ∧ Aside0 (kq ≤ k) ∧ Aside0 (Below w.heap.size w wc))
  case first =>
    have H := HC2.out
    clear HC2
    by_cases c3 : a0 < (-86399)
    · rw [if_pos c3] at H
      have c3b0 : decide (a0 < (-86399)) = true := decide_eq_true c3
      clear c3
      (first | rw [c3b0] | (simp only [i64_w, i32_w]; rw [c3b0]) | skip)
      have H' := Aside0.mk H
      clear H
      go_wp2
      go_meet
      case rel => exact ⟨_, (true), (by first | rfl | (simp; done) | (simp [*]; done)), H', ⟨by first | omega | exact Nat.le_refl _⟩, ⟨by repeat (first | (with_reducible first | exact HB.out | apply below_alloc | apply pw_below_drewN | apply below_drew1) | exact HB.out)⟩⟩
    · rw [if_neg c3] at H
      have c3b0 : decide (a0 < (-86399)) = false := decide_eq_false c3
      clear c3
      (first | rw [c3b0] | (simp only [i64_w, i32_w]; rw [c3b0]) | skip)
      have H' := Aside0.mk H
      clear H
      go_wp2
      go_meet
      case rel => exact ⟨_, (decide (a0 > 86399)), (by first | rfl | (simp; done) | (simp [*]; done)), H', ⟨by first | omega | exact Nat.le_refl _⟩, ⟨by repeat (first | (with_reducible first | exact HB.out | apply below_alloc | apply pw_below_drewN | apply below_drew1) | exact HB.out)⟩⟩
  case rest =>
    clear HC2
    try clear c1
    try clear p2
    try clear c3
    try clear c3b0
    obtain ⟨kq, x10_1, rfl, HA, HJ1, HB⟩ := hcut
    cases kq with
    | zero => exact absurd HA.out (by simp [trystref12_Offset.j0])
    | succ kj1 =>
      have H := HA.out
      clear HA
      simp only [trystref12_Offset.j0] at H
      by_cases c4 : x10_1 = true
      · subst c4
        have H1 : (some ((⟨#[]⟩ : ByteArray), 7)) = some (r1, r2) := by rw [if_pos rfl] at H; exact H
        clear H
        have H := H1
        clear H1
        simp only [Option.some.injEq, Prod.mk.injEq] at H
        obtain ⟨rfl, rfl⟩ := H
        go_wp2
        go_ret2
        exact ⟨by first | rfl | (simp [errW_none, errW_some] <;> rfl) | (simp [*, errW_none, errW_some] <;> rfl), by repeat (first | (with_reducible first | exact HB.out | apply below_alloc | apply pw_below_drewN | apply below_drew1) | exact HB.out)⟩
      · replace c4 := Bool.eq_false_iff.mpr c4
        subst c4
        have H1 : (if a0 < 0 then (trystref12_Offset.j1 kj1 (wrap64 (-a0)) (⟨#[45]⟩ : ByteArray)) else (trystref12_Offset.j1 kj1 a0 (⟨#[43]⟩ : ByteArray))) = some (r1, r2) := by rw [if_neg (show ¬ (false = true) by decide)] at H; exact H
        clear H
        have H := H1
        clear H1
        have HC5 := Aside0.mk H
        clear H
        go_upto_if 12 with (fail)
        go_cut [0, 4] (fun v0 v4 wc => ∃ (kq : Nat) (x0_4 : Int) (x4_4 : ByteArray), v0 = .int .i64 x0_4 ∧ v4 = .string x4_4 ∧ Aside0 (trystref12_Offset.j1 kq x0_4 x4_4 = some (r1, r2)) ∧ Aside0 (kq ≤ kj1) ∧ Aside0 (Below w.heap.size w wc))
        case first =>
          have H := HC5.out
          clear HC5
          by_cases c6 : a0 < 0
          · rw [if_pos c6] at H
            have c6b0 : decide (a0 < 0) = true := decide_eq_true c6
            clear c6
            (first | rw [c6b0] | (simp only [i64_w, i32_w]; rw [c6b0]) | skip)
            have H' := Aside0.mk H
            clear H
            go_wp2
            go_meet
            case rel => exact ⟨_, (wrap64 (-a0)), ((⟨#[45]⟩ : ByteArray)), (by first | rfl | (simp; done) | (simp [*]; done)), (by first | rfl | (simp; done) | (simp [*]; done)), H', ⟨by have := HJ1.out; first | omega | exact Nat.le_refl _⟩, ⟨by repeat (first | (with_reducible first | exact HB.out | apply below_alloc | apply pw_below_drewN | apply below_drew1) | exact HB.out)⟩⟩
          · rw [if_neg c6] at H
            have c6b0 : decide (a0 < 0) = false := decide_eq_false c6
            clear c6
            (first | rw [c6b0] | (simp only [i64_w, i32_w]; rw [c6b0]) | skip)
            have H' := Aside0.mk H
            clear H
            go_wp2
            go_meet
            case rel => exact ⟨_, (a0), ((⟨#[43]⟩ : ByteArray)), (by first | rfl | (simp; done) | (simp [*]; done)), (by first | rfl | (simp; done) | (simp [*]; done)), H', ⟨by have := HJ1.out; first | omega | exact Nat.le_refl _⟩, ⟨by repeat (first | (with_reducible first | exact HB.out | apply below_alloc | apply pw_below_drewN | apply below_drew1) | exact HB.out)⟩⟩
        case rest =>
          clear HC5
          try clear c1
          try clear p2
          try clear c3
          try clear c3b0
          try clear c4
          try clear c6
          try clear c6b0
          try clear p6
          try clear p2
          obtain ⟨kq, x0_4, x4_4, rfl, rfl, HA, HJ4, HB⟩ := hcut
          cases kq with
          | zero => exact absurd HA.out (by simp [trystref12_Offset.j1])
          | succ kj4 =>
            have H := HA.out
            clear HA
            simp only [trystref12_Offset.j1] at H
            replace H := Option.bind_eq_some_iff.mp H
            obtain ⟨t147, A70, H⟩ := H
            replace H : (if x4_4.size + t147.size ≤ 9223372036854775807 then ((trystref01_Two.f kj4 (Int.tmod (wrap64 (Int.tdiv x0_4 60)) 60)).bind fun t148 => (if (x4_4 ++ t147).size + t148.size ≤ 9223372036854775807 then (if (Int.tmod x0_4 60) = 0 then (some ((x4_4 ++ t147) ++ t148, 0)) else ((trystref01_Two.f kj4 (Int.tmod x0_4 60)).bind fun t149 => (if ((x4_4 ++ t147) ++ t148).size + t149.size ≤ 9223372036854775807 then (some (((x4_4 ++ t147) ++ t148) ++ t149, 0)) else (none)))) else (none))) else (none)) = some (r1, r2) := H
            have A7 := Aside0.mk A70
            clear A70
            by_cases c8 : x4_4.size + t147.size ≤ 9223372036854775807
            · rw [if_pos c8] at H
              have c8b0 := eq_true c8
              have c8b1 : decide (x4_4.size + t147.size ≤ 9223372036854775807) = true := decide_eq_true c8
              try have c8b2 : (9223372036854775807 < x4_4.size + t147.size) = False := eq_false (Nat.not_lt.2 c8)
              try (have c8b3 := c8b2; simp only [ByteArray.size_append, bs1_] at c8b3)
              replace H := Option.bind_eq_some_iff.mp H
              obtain ⟨t148, A90, H⟩ := H
              replace H : (if (x4_4 ++ t147).size + t148.size ≤ 9223372036854775807 then (if (Int.tmod x0_4 60) = 0 then (some ((x4_4 ++ t147) ++ t148, 0)) else ((trystref01_Two.f kj4 (Int.tmod x0_4 60)).bind fun t149 => (if ((x4_4 ++ t147) ++ t148).size + t149.size ≤ 9223372036854775807 then (some (((x4_4 ++ t147) ++ t148) ++ t149, 0)) else (none)))) else (none)) = some (r1, r2) := H
              have A9 := Aside0.mk A90
              clear A90
              by_cases c10 : (x4_4 ++ t147).size + t148.size ≤ 9223372036854775807
              · rw [if_pos c10] at H
                have c10b0 := eq_true c10
                have c10b1 : decide ((x4_4 ++ t147).size + t148.size ≤ 9223372036854775807) = true := decide_eq_true c10
                try have c10b2 : (9223372036854775807 < (x4_4 ++ t147).size + t148.size) = False := eq_false (Nat.not_lt.2 c10)
                try (have c10b3 := c10b2; simp only [ByteArray.size_append, bs1_] at c10b3)
                by_cases c11 : (Int.tmod x0_4 60) = 0
                · rw [if_pos c11] at H
                  have c11b0 : ((Int.tmod x0_4 60) == 0) = true := beq_iff_eq.mpr c11
                  have c11b1 : ((Int.tmod x0_4 60) != 0) = false := bne_eq_false_iff_eq.mpr c11
                  clear c11
                  simp only [Option.some.injEq, Prod.mk.injEq] at H
                  obtain ⟨rfl, rfl⟩ := H
                  go_wp2_with (first | ((with_reducible refine gate_callee (f := 30) rfl ?_); refine goesL_ (some 18) rfl rfl Tryd.func30 (by kernel_rfl) rfl #[.int .i64 (wrap64 (Int.tdiv x0_4 3600))] rfl (by (try simp only [List.map_toArray, List.map_cons, List.map_nil]); first | done | rfl | (simp only [List.length_drop, List.length_take]; rfl)) ?_; (with_reducible refine (trystref01_Two.calls kj4 (wrap64 (Int.tdiv x0_4 3600)) t147 _ A7.out).mono ?_); rintro e w12 ⟨rfl, hb⟩; refine ⟨_, rfl, ?_⟩; have n0_ := Aside0.mk (below_step (by repeat (first | (with_reducible first | exact HB.out | apply below_alloc | apply pw_below_drewN | apply below_drew1) | exact HB.out)) hb); clear HB; have HB := n0_; clear n0_; (try clear hb); (try clear hb2); (try clear hk); (try clear hi)) | ((with_reducible refine gate_callee (f := 30) rfl ?_); refine goesL_ (some 23) rfl rfl Tryd.func30 (by kernel_rfl) rfl #[.int .i64 (Int.tmod (wrap64 (Int.tdiv x0_4 60)) 60)] rfl (by (try simp only [List.map_toArray, List.map_cons, List.map_nil]); first | done | rfl | (simp only [List.length_drop, List.length_take]; rfl)) ?_; (with_reducible refine (trystref01_Two.calls kj4 (Int.tmod (wrap64 (Int.tdiv x0_4 60)) 60) t148 _ A9.out).mono ?_); rintro e w13 ⟨rfl, hb⟩; refine ⟨_, rfl, ?_⟩; have n0_ := Aside0.mk (below_step (by repeat (first | (with_reducible first | exact HB.out | apply below_alloc | apply pw_below_drewN | apply below_drew1) | exact HB.out)) hb); clear HB; have HB := n0_; clear n0_; (try clear hb); (try clear hb2); (try clear hk); (try clear hi)))
                  go_ret2
                  exact ⟨by first | rfl | (simp [errW_none, errW_some] <;> rfl) | (simp [*, errW_none, errW_some] <;> rfl), by repeat (first | (with_reducible first | exact HB.out | apply below_alloc | apply pw_below_drewN | apply below_drew1) | exact HB.out)⟩
                · rw [if_neg c11] at H
                  have c11b0 : ((Int.tmod x0_4 60) == 0) = false := beq_eq_false_iff_ne.mpr c11
                  have c11b1 : ((Int.tmod x0_4 60) != 0) = true := bne_iff_ne.mpr c11
                  replace H := Option.bind_eq_some_iff.mp H
                  obtain ⟨t149, A140, H⟩ := H
                  replace H : (if ((x4_4 ++ t147) ++ t148).size + t149.size ≤ 9223372036854775807 then (some (((x4_4 ++ t147) ++ t148) ++ t149, 0)) else (none)) = some (r1, r2) := H
                  have A14 := Aside0.mk A140
                  clear A140
                  by_cases c15 : ((x4_4 ++ t147) ++ t148).size + t149.size ≤ 9223372036854775807
                  · rw [if_pos c15] at H
                    have c15b0 := eq_true c15
                    have c15b1 : decide (((x4_4 ++ t147) ++ t148).size + t149.size ≤ 9223372036854775807) = true := decide_eq_true c15
                    try have c15b2 : (9223372036854775807 < ((x4_4 ++ t147) ++ t148).size + t149.size) = False := eq_false (Nat.not_lt.2 c15)
                    try (have c15b3 := c15b2; simp only [ByteArray.size_append, bs1_] at c15b3)
                    simp only [Option.some.injEq, Prod.mk.injEq] at H
                    obtain ⟨rfl, rfl⟩ := H
                    go_wp2_with (first | ((with_reducible refine gate_callee (f := 30) rfl ?_); refine goesL_ (some 18) rfl rfl Tryd.func30 (by kernel_rfl) rfl #[.int .i64 (wrap64 (Int.tdiv x0_4 3600))] rfl (by (try simp only [List.map_toArray, List.map_cons, List.map_nil]); first | done | rfl | (simp only [List.length_drop, List.length_take]; rfl)) ?_; (with_reducible refine (trystref01_Two.calls kj4 (wrap64 (Int.tdiv x0_4 3600)) t147 _ A7.out).mono ?_); rintro e w16 ⟨rfl, hb⟩; refine ⟨_, rfl, ?_⟩; have n0_ := Aside0.mk (below_step (by repeat (first | (with_reducible first | exact HB.out | apply below_alloc | apply pw_below_drewN | apply below_drew1) | exact HB.out)) hb); clear HB; have HB := n0_; clear n0_; (try clear hb); (try clear hb2); (try clear hk); (try clear hi)) | ((with_reducible refine gate_callee (f := 30) rfl ?_); refine goesL_ (some 23) rfl rfl Tryd.func30 (by kernel_rfl) rfl #[.int .i64 (Int.tmod (wrap64 (Int.tdiv x0_4 60)) 60)] rfl (by (try simp only [List.map_toArray, List.map_cons, List.map_nil]); first | done | rfl | (simp only [List.length_drop, List.length_take]; rfl)) ?_; (with_reducible refine (trystref01_Two.calls kj4 (Int.tmod (wrap64 (Int.tdiv x0_4 60)) 60) t148 _ A9.out).mono ?_); rintro e w17 ⟨rfl, hb⟩; refine ⟨_, rfl, ?_⟩; have n0_ := Aside0.mk (below_step (by repeat (first | (with_reducible first | exact HB.out | apply below_alloc | apply pw_below_drewN | apply below_drew1) | exact HB.out)) hb); clear HB; have HB := n0_; clear n0_; (try clear hb); (try clear hb2); (try clear hk); (try clear hi)) | ((with_reducible refine gate_callee (f := 30) rfl ?_); refine goesL_ (some 31) rfl rfl Tryd.func30 (by kernel_rfl) rfl #[.int .i64 (Int.tmod x0_4 60)] rfl (by (try simp only [List.map_toArray, List.map_cons, List.map_nil]); first | done | rfl | (simp only [List.length_drop, List.length_take]; rfl)) ?_; (with_reducible refine (trystref01_Two.calls kj4 (Int.tmod x0_4 60) t149 _ A14.out).mono ?_); rintro e w18 ⟨rfl, hb⟩; refine ⟨_, rfl, ?_⟩; have n0_ := Aside0.mk (below_step (by repeat (first | (with_reducible first | exact HB.out | apply below_alloc | apply pw_below_drewN | apply below_drew1) | exact HB.out)) hb); clear HB; have HB := n0_; clear n0_; (try clear hb); (try clear hb2); (try clear hk); (try clear hi)))
                    go_ret2
                    exact ⟨by first | rfl | (simp [errW_none, errW_some] <;> rfl) | (simp [*, errW_none, errW_some] <;> rfl), by repeat (first | (with_reducible first | exact HB.out | apply below_alloc | apply pw_below_drewN | apply below_drew1) | exact HB.out)⟩
                  · rw [if_neg c15] at H
                    exact absurd H (by simp)
              · rw [if_neg c10] at H
                exact absurd H (by simp)
            · rw [if_neg c8] at H
              exact absurd H (by simp)

/-! ### trystref12_ParseOffset: function 15 -/
mutual
def trystref12_ParseOffset.j0 : Nat → ByteArray → Option (Int × Int)
  | 0, _ => none
  | k + 1, x0 => if (x0.size : Int) = 7 then (if 0 < (x0.size : Int) then (if (bt x0 0) = 43 then (trystref12_ParseOffset.j1 k x0 false) else (trystref12_ParseOffset.j1 k x0 ((bt x0 0) != 45))) else (none)) else (trystref12_ParseOffset.j1 k x0 true)
def trystref12_ParseOffset.j1 : Nat → ByteArray → Bool → Option (Int × Int)
  | 0, _, _ => none
  | k + 1, x0, x25 => if x25 = true then (some (0, 7)) else (if 1 ≤ 3 then (if 3 ≤ (x0.size : Int) then ((trystref12_Digits.f k (x0.extract 1 3)).bind fun t158 => (if 3 ≤ 5 then (if 5 ≤ (x0.size : Int) then ((trystref12_Digits.f k (x0.extract 3 5)).bind fun t159 => ((trystref12_Digits.f k (x0.extract 5 x0.size)).bind fun t160 => (if t158 < 0 then (trystref12_ParseOffset.j2 k x0 t158 t159 t160 true) else (if t159 < 0 then (trystref12_ParseOffset.j2 k x0 t158 t159 t160 true) else (if t160 < 0 then (trystref12_ParseOffset.j2 k x0 t158 t159 t160 true) else (if t158 > 23 then (trystref12_ParseOffset.j2 k x0 t158 t159 t160 true) else (if t159 > 59 then (trystref12_ParseOffset.j2 k x0 t158 t159 t160 true) else (trystref12_ParseOffset.j2 k x0 t158 t159 t160 (decide (t160 > 59)))))))))) else (none)) else (none))) else (none)) else (none))
def trystref12_ParseOffset.j2 : Nat → ByteArray → Int → Int → Int → Bool → Option (Int × Int)
  | 0, _, _, _, _, _ => none
  | k + 1, x0, x4, x5, x6, x56 => if x56 = true then (some (0, 7)) else (if 0 < (x0.size : Int) then (if (bt x0 0) = 45 then (if (wrap64 ((wrap64 ((wrap64 (3600 * x4)) + (wrap64 (60 * x5)))) + x6)) = 0 then (some (0, 7)) else (some (wrap64 (-(wrap64 ((wrap64 ((wrap64 (3600 * x4)) + (wrap64 (60 * x5)))) + x6))), 0))) else (some (wrap64 ((wrap64 ((wrap64 (3600 * x4)) + (wrap64 (60 * x5)))) + x6), 0))) else (none))
end
def trystref12_ParseOffset.f (k : Nat) (a0 : ByteArray) : Option (Int × Int) := if (a0.size : Int) = 5 then (if a0.size + 2 ≤ 9223372036854775807 then (trystref12_ParseOffset.j0 k (a0 ++ (⟨#[48, 48]⟩ : ByteArray))) else (none)) else (trystref12_ParseOffset.j0 k a0)
theorem trystref12_ParseOffset.mono_l : ∀ k, (∀ y0, LeO (trystref12_ParseOffset.j0 k y0) (trystref12_ParseOffset.j0 (k + 1) y0)) ∧ (∀ y0 y1, LeO (trystref12_ParseOffset.j1 k y0 y1) (trystref12_ParseOffset.j1 (k + 1) y0 y1)) ∧ (∀ y0 y1 y2 y3 y4, LeO (trystref12_ParseOffset.j2 k y0 y1 y2 y3 y4) (trystref12_ParseOffset.j2 (k + 1) y0 y1 y2 y3 y4))
  | 0 => ⟨fun _ r h => by simp [trystref12_ParseOffset.j0] at h, fun _ _ r h => by simp [trystref12_ParseOffset.j1] at h, fun _ _ _ _ _ r h => by simp [trystref12_ParseOffset.j2] at h⟩
  | k + 1 => by
    obtain ⟨ih0, ih1, ih2⟩ := trystref12_ParseOffset.mono_l k
    refine ⟨?_, ?_, ?_⟩
    · intro y0
      unfold trystref12_ParseOffset.j0
      repeat' first
      | (with_reducible exact ih0 _)
      | (with_reducible exact ih1 _ _)
      | (with_reducible exact ih2 _ _ _ _ _)
      | (with_reducible exact trystref12_Digits.mono _ _)
      | (with_reducible exact LeO.refl _)
      | (with_reducible exact LeO.none _)
      | (with_reducible refine LeO.ite ?_ ?_)
      | (with_reducible refine LeO.bind ?_ (fun _ => ?_))
      | exact ih0 _
      | exact ih1 _ _
      | exact ih2 _ _ _ _ _
      | exact trystref12_Digits.mono _ _
      | exact LeO.none _
      | refine LeO.ite ?_ ?_
      | refine LeO.bind ?_ (fun _ => ?_)
    · intro y0 y1
      unfold trystref12_ParseOffset.j1
      repeat' first
      | (with_reducible exact ih0 _)
      | (with_reducible exact ih1 _ _)
      | (with_reducible exact ih2 _ _ _ _ _)
      | (with_reducible exact trystref12_Digits.mono _ _)
      | (with_reducible exact LeO.refl _)
      | (with_reducible exact LeO.none _)
      | (with_reducible refine LeO.ite ?_ ?_)
      | (with_reducible refine LeO.bind ?_ (fun _ => ?_))
      | exact ih0 _
      | exact ih1 _ _
      | exact ih2 _ _ _ _ _
      | exact trystref12_Digits.mono _ _
      | exact LeO.none _
      | refine LeO.ite ?_ ?_
      | refine LeO.bind ?_ (fun _ => ?_)
    · intro y0 y1 y2 y3 y4
      unfold trystref12_ParseOffset.j2
      repeat' first
      | (with_reducible exact ih0 _)
      | (with_reducible exact ih1 _ _)
      | (with_reducible exact ih2 _ _ _ _ _)
      | (with_reducible exact trystref12_Digits.mono _ _)
      | (with_reducible exact LeO.refl _)
      | (with_reducible exact LeO.none _)
      | (with_reducible refine LeO.ite ?_ ?_)
      | (with_reducible refine LeO.bind ?_ (fun _ => ?_))
      | exact ih0 _
      | exact ih1 _ _
      | exact ih2 _ _ _ _ _
      | exact trystref12_Digits.mono _ _
      | exact LeO.none _
      | refine LeO.ite ?_ ?_
      | refine LeO.bind ?_ (fun _ => ?_)
theorem trystref12_ParseOffset.mono : ∀ a0 k, LeO (trystref12_ParseOffset.f k a0) (trystref12_ParseOffset.f (k + 1) a0) := by
  intro a0 k
  obtain ⟨ih0, ih1, ih2⟩ := trystref12_ParseOffset.mono_l k
  unfold trystref12_ParseOffset.f
  repeat' first
      | (with_reducible exact ih0 _)
      | (with_reducible exact ih1 _ _)
      | (with_reducible exact ih2 _ _ _ _ _)
      | (with_reducible exact trystref12_Digits.mono _ _)
      | (with_reducible exact LeO.refl _)
      | (with_reducible exact LeO.none _)
      | (with_reducible refine LeO.ite ?_ ?_)
      | (with_reducible refine LeO.bind ?_ (fun _ => ?_))
      | exact ih0 _
      | exact ih1 _ _
      | exact ih2 _ _ _ _ _
      | exact trystref12_Digits.mono _ _
      | exact LeO.none _
      | refine LeO.ite ?_ ?_
      | refine LeO.bind ?_ (fun _ => ?_)
set_option maxHeartbeats 8000000 in
set_option maxRecDepth 100000 in
theorem trystref12_ParseOffset.calls (k : Nat) (a0 : ByteArray) (r1 : Int) (r2 : Int) (w : World) (h : trystref12_ParseOffset.f k a0 = some (r1, r2)) :
    Calls Tryd.prog 15 #[.string a0] w fun e w' => e = .returned (.tuple #[.int .i64 r1, .int .i64 r2]) ∧ Drawn0 w w' := by
  have H : (if (a0.size : Int) = 5 then (if a0.size + 2 ≤ 9223372036854775807 then (trystref12_ParseOffset.j0 k (a0 ++ (⟨#[48, 48]⟩ : ByteArray))) else (none)) else (trystref12_ParseOffset.j0 k a0)) = some (r1, r2) := h
  clear h
  have HC2 := Aside0.mk H
  clear H
  go_enter Tryd.func15, Tryd.ntmps15
  go_upto_if 10 with (fail)
  repeat (go_quiet (fail); go_upto_if 10 with (fail))
  go_cut [0] (fun v0 wc => ∃ (kq : Nat) (x0_1 : ByteArray), v0 = .string x0_1 ∧ Aside0 (trystref12_ParseOffset.j0 kq x0_1 = some (r1, r2)) ∧ Aside0 (kq ≤ k) ∧ Drawn0 w wc)
  case first =>
    have H := HC2.out
    clear HC2
    by_cases c3 : (a0.size : Int) = 5
    · rw [if_pos c3] at H
      have c3b0 : ((a0.size : Int) == 5) = true := beq_iff_eq.mpr c3
      have c3b1 : ((a0.size : Int) != 5) = false := bne_eq_false_iff_eq.mpr c3
      clear c3
      (first | rw [c3b0] | (simp only [i64_w, i32_w]; rw [c3b0]) | skip)
      by_cases c4 : a0.size + 2 ≤ 9223372036854775807
      · rw [if_pos c4] at H
        have c4b0 := eq_true c4
        have c4b1 : decide (a0.size + 2 ≤ 9223372036854775807) = true := decide_eq_true c4
        try have c4b2 : (9223372036854775807 < a0.size + 2) = False := eq_false (Nat.not_lt.2 c4)
        try (have c4b3 := c4b2; simp only [ByteArray.size_append, bs1_] at c4b3)
        have H' := Aside0.mk H
        clear H
        go_wp2
        repeat (go_quiet (fail); try go_wp2)
        go_meet
        case rel => exact ⟨_, (a0 ++ (⟨#[48, 48]⟩ : ByteArray)), (by first | rfl | (simp; done) | (simp [*]; done)), H', ⟨by first | omega | exact Nat.le_refl _⟩, by repeat (first | exact Drawn0.refl _ | apply Drawn0.step)⟩
      · rw [if_neg c4] at H
        exact absurd H (by simp)
    · rw [if_neg c3] at H
      have c3b0 : ((a0.size : Int) == 5) = false := beq_eq_false_iff_ne.mpr c3
      have c3b1 : ((a0.size : Int) != 5) = true := bne_iff_ne.mpr c3
      (first | rw [c3b0] | (simp only [i64_w, i32_w]; rw [c3b0]) | skip)
      have H' := Aside0.mk H
      clear H
      go_wp2
      repeat (go_quiet (fail); try go_wp2)
      go_meet
      case rel => exact ⟨_, (a0), (by first | rfl | (simp; done) | (simp [*]; done)), H', ⟨by first | omega | exact Nat.le_refl _⟩, by repeat (first | exact Drawn0.refl _ | apply Drawn0.step)⟩
  case rest =>
    clear HC2
    try clear c1
    try clear p2
    try clear c3
    try clear c3b0
    try clear c3b1
    try clear c4
    try clear c4b0
    try clear c4b1
    try clear c4b2
    obtain ⟨kq, x0_1, rfl, HA, HJ1, ⟨mc1, rfl⟩⟩ := hcut
    cases kq with
    | zero => exact absurd HA.out (by simp [trystref12_ParseOffset.j0])
    | succ kj1 =>
      have H := HA.out
      clear HA
      simp only [trystref12_ParseOffset.j0] at H
      have HC5 := Aside0.mk H
      clear H
      go_upto_region 3 with (fail)
      repeat (go_quiet (fail); go_upto_region 3 with (fail))
      go_cut [25] (fun v25 wc => ∃ (kq : Nat) (x25_4 : Bool), v25 = .bool x25_4 ∧ Aside0 (trystref12_ParseOffset.j1 kq x0_1 x25_4 = some (r1, r2)) ∧ Aside0 (kq ≤ kj1) ∧ Drawn0 w wc)
      case first =>
        have H := HC5.out
        clear HC5
        by_cases c6 : (x0_1.size : Int) = 7
        · rw [if_pos c6] at H
          have c6b0 : ((x0_1.size : Int) == 7) = true := beq_iff_eq.mpr c6
          have c6b1 : ((x0_1.size : Int) != 7) = false := bne_eq_false_iff_eq.mpr c6
          clear c6
          (first | rw [c6b0] | (simp only [i64_w, i32_w]; rw [c6b0]) | skip)
          by_cases c7 : 0 < (x0_1.size : Int)
          · rw [if_pos c7] at H
            have c7b0 : decide (0 < (x0_1.size : Int)) = true := decide_eq_true c7
            have c7b1 : decide (0 < x0_1.size) = true := decide_eq_true (by omega)
            clear c7
            by_cases c9 : (bt x0_1 0) = 43
            · rw [if_pos c9] at H
              have c9b0 : ((bt x0_1 0) == 43) = true := beq_iff_eq.mpr c9
              have c9b1 : ((bt x0_1 0) != 43) = false := bne_eq_false_iff_eq.mpr c9
              clear c9
              have H' := Aside0.mk H
              clear H
              have p8 : 0 ≤ (0 : Int) := (by omega)
              have q8 : 0 < x0_1.size := (by have : (0 : Int) < (x0_1.size : Int) := of_decide_eq_true (by first | (with_reducible assumption) | assumption); omega)
              have hx8 : ∀ h : 0 < x0_1.size, ((x0_1[0]'h).toNat : Int) = bt x0_1 0 := bt_at x0_1 0
              clear p8
              have qi8 : (0 < (x0_1.size : Int)) = True := eq_true (of_decide_eq_true (by first | (with_reducible assumption) | assumption))
              replace q8 := eq_true q8
              go_wp2
              repeat (go_quiet (fail); try go_wp2)
              go_meet
              case rel => exact ⟨_, (false), (by first | rfl | (simp; done) | (simp [*]; done)), H', ⟨by have := HJ1.out; first | omega | exact Nat.le_refl _⟩, by repeat (first | exact Drawn0.refl _ | apply Drawn0.step)⟩
            · rw [if_neg c9] at H
              have c9b0 : ((bt x0_1 0) == 43) = false := beq_eq_false_iff_ne.mpr c9
              have c9b1 : ((bt x0_1 0) != 43) = true := bne_iff_ne.mpr c9
              have H' := Aside0.mk H
              clear H
              have p8 : 0 ≤ (0 : Int) := (by omega)
              have q8 : 0 < x0_1.size := (by have : (0 : Int) < (x0_1.size : Int) := of_decide_eq_true (by first | (with_reducible assumption) | assumption); omega)
              have hx8 : ∀ h : 0 < x0_1.size, ((x0_1[0]'h).toNat : Int) = bt x0_1 0 := bt_at x0_1 0
              clear p8
              have qi8 : (0 < (x0_1.size : Int)) = True := eq_true (of_decide_eq_true (by first | (with_reducible assumption) | assumption))
              replace q8 := eq_true q8
              have p10 : 0 ≤ (0 : Int) := (by omega)
              have q10 : 0 < x0_1.size := (by have : (0 : Int) < (x0_1.size : Int) := of_decide_eq_true (by first | (with_reducible assumption) | assumption); omega)
              have hx10 : ∀ h : 0 < x0_1.size, ((x0_1[0]'h).toNat : Int) = bt x0_1 0 := bt_at x0_1 0
              clear p10
              have qi10 : (0 < (x0_1.size : Int)) = True := eq_true (of_decide_eq_true (by first | (with_reducible assumption) | assumption))
              replace q10 := eq_true q10
              go_wp2
              repeat (go_quiet (fail); try go_wp2)
              go_meet
              case rel => exact ⟨_, (((bt x0_1 0) != 45)), (by first | rfl | (simp; done) | (simp [*]; done)), H', ⟨by have := HJ1.out; first | omega | exact Nat.le_refl _⟩, by repeat (first | exact Drawn0.refl _ | apply Drawn0.step)⟩
          · rw [if_neg c7] at H
            exact absurd H (by simp)
        · rw [if_neg c6] at H
          have c6b0 : ((x0_1.size : Int) == 7) = false := beq_eq_false_iff_ne.mpr c6
          have c6b1 : ((x0_1.size : Int) != 7) = true := bne_iff_ne.mpr c6
          (first | rw [c6b0] | (simp only [i64_w, i32_w]; rw [c6b0]) | skip)
          have H' := Aside0.mk H
          clear H
          go_wp2
          repeat (go_quiet (fail); try go_wp2)
          go_meet
          case rel => exact ⟨_, (true), (by first | rfl | (simp; done) | (simp [*]; done)), H', ⟨by have := HJ1.out; first | omega | exact Nat.le_refl _⟩, by repeat (first | exact Drawn0.refl _ | apply Drawn0.step)⟩
      case rest =>
        clear HC5
        try clear c1
        try clear p1
        try clear q1
        try clear hx1
        try clear qi1
        try clear p2
        try clear c3
        try clear c3b0
        try clear c3b1
        try clear c4
        try clear c4b0
        try clear c4b1
        try clear c4b2
        try clear c6
        try clear c6b0
        try clear c6b1
        try clear c7
        try clear c7b0
        try clear c7b1
        try clear p8
        try clear q8
        try clear hx8
        try clear qi8
        try clear c9
        try clear c9b0
        try clear c9b1
        try clear p10
        try clear q10
        try clear hx10
        try clear qi10
        try clear p10
        try clear p2
        try clear p8
        try clear q10
        try clear q8
        obtain ⟨kq, x25_4, rfl, HA, HJ4, ⟨mc4, rfl⟩⟩ := hcut
        cases kq with
        | zero => exact absurd HA.out (by simp [trystref12_ParseOffset.j1])
        | succ kj4 =>
          have H := HA.out
          clear HA
          simp only [trystref12_ParseOffset.j1] at H
          by_cases c11 : x25_4 = true
          · subst c11
            have H1 : (some (0, 7)) = some (r1, r2) := by rw [if_pos rfl] at H; exact H
            clear H
            have H := H1
            clear H1
            simp only [Option.some.injEq, Prod.mk.injEq] at H
            obtain ⟨rfl, rfl⟩ := H
            go_wp2
            repeat (go_quiet (fail); try go_wp2)
            go_ret2
            exact ⟨by first | rfl | (simp; done) | (simp [*]; done) | (simp [bne_nil_]; done), by repeat (first | exact Drawn0.refl _ | apply Drawn0.step)⟩
          · replace c11 := Bool.eq_false_iff.mpr c11
            subst c11
            have H1 : (if 1 ≤ 3 then (if 3 ≤ (x0_1.size : Int) then ((trystref12_Digits.f kj4 (x0_1.extract 1 3)).bind fun t158 => (if 3 ≤ 5 then (if 5 ≤ (x0_1.size : Int) then ((trystref12_Digits.f kj4 (x0_1.extract 3 5)).bind fun t159 => ((trystref12_Digits.f kj4 (x0_1.extract 5 x0_1.size)).bind fun t160 => (if t158 < 0 then (trystref12_ParseOffset.j2 kj4 x0_1 t158 t159 t160 true) else (if t159 < 0 then (trystref12_ParseOffset.j2 kj4 x0_1 t158 t159 t160 true) else (if t160 < 0 then (trystref12_ParseOffset.j2 kj4 x0_1 t158 t159 t160 true) else (if t158 > 23 then (trystref12_ParseOffset.j2 kj4 x0_1 t158 t159 t160 true) else (if t159 > 59 then (trystref12_ParseOffset.j2 kj4 x0_1 t158 t159 t160 true) else (trystref12_ParseOffset.j2 kj4 x0_1 t158 t159 t160 (decide (t160 > 59)))))))))) else (none)) else (none))) else (none)) else (none)) = some (r1, r2) := by rw [if_neg (show ¬ (false = true) by decide)] at H; exact H
            clear H
            have H := H1
            clear H1
            by_cases c12 : 1 ≤ 3
            · rw [if_pos c12] at H
              have c12b0 := eq_true c12
              have c12b1 : decide (1 ≤ 3) = true := decide_eq_true c12
              clear c12
              by_cases c13 : 3 ≤ (x0_1.size : Int)
              · rw [if_pos c13] at H
                have c13b0 := eq_true c13
                have c13b1 : decide (3 ≤ (x0_1.size : Int)) = true := decide_eq_true c13
                clear c13
                replace H := Option.bind_eq_some_iff.mp H
                obtain ⟨t158, A140, H⟩ := H
                replace H : (if 3 ≤ 5 then (if 5 ≤ (x0_1.size : Int) then ((trystref12_Digits.f kj4 (x0_1.extract 3 5)).bind fun t159 => ((trystref12_Digits.f kj4 (x0_1.extract 5 x0_1.size)).bind fun t160 => (if t158 < 0 then (trystref12_ParseOffset.j2 kj4 x0_1 t158 t159 t160 true) else (if t159 < 0 then (trystref12_ParseOffset.j2 kj4 x0_1 t158 t159 t160 true) else (if t160 < 0 then (trystref12_ParseOffset.j2 kj4 x0_1 t158 t159 t160 true) else (if t158 > 23 then (trystref12_ParseOffset.j2 kj4 x0_1 t158 t159 t160 true) else (if t159 > 59 then (trystref12_ParseOffset.j2 kj4 x0_1 t158 t159 t160 true) else (trystref12_ParseOffset.j2 kj4 x0_1 t158 t159 t160 (decide (t160 > 59)))))))))) else (none)) else (none)) = some (r1, r2) := H
                have A14 := Aside0.mk A140
                clear A140
                by_cases c15 : 3 ≤ 5
                · rw [if_pos c15] at H
                  have c15b0 := eq_true c15
                  have c15b1 : decide (3 ≤ 5) = true := decide_eq_true c15
                  clear c15
                  by_cases c16 : 5 ≤ (x0_1.size : Int)
                  · rw [if_pos c16] at H
                    have c16b0 := eq_true c16
                    have c16b1 : decide (5 ≤ (x0_1.size : Int)) = true := decide_eq_true c16
                    clear c16
                    replace H := Option.bind_eq_some_iff.mp H
                    obtain ⟨t159, A170, H⟩ := H
                    replace H : ((trystref12_Digits.f kj4 (x0_1.extract 5 x0_1.size)).bind fun t160 => (if t158 < 0 then (trystref12_ParseOffset.j2 kj4 x0_1 t158 t159 t160 true) else (if t159 < 0 then (trystref12_ParseOffset.j2 kj4 x0_1 t158 t159 t160 true) else (if t160 < 0 then (trystref12_ParseOffset.j2 kj4 x0_1 t158 t159 t160 true) else (if t158 > 23 then (trystref12_ParseOffset.j2 kj4 x0_1 t158 t159 t160 true) else (if t159 > 59 then (trystref12_ParseOffset.j2 kj4 x0_1 t158 t159 t160 true) else (trystref12_ParseOffset.j2 kj4 x0_1 t158 t159 t160 (decide (t160 > 59))))))))) = some (r1, r2) := H
                    have A17 := Aside0.mk A170
                    clear A170
                    have c18b0 := eq_true (of_decide_eq_true (by first | (with_reducible assumption) | assumption) : 5 ≤ (x0_1.size : Int))
                    replace H := Option.bind_eq_some_iff.mp H
                    obtain ⟨t160, A190, H⟩ := H
                    replace H : (if t158 < 0 then (trystref12_ParseOffset.j2 kj4 x0_1 t158 t159 t160 true) else (if t159 < 0 then (trystref12_ParseOffset.j2 kj4 x0_1 t158 t159 t160 true) else (if t160 < 0 then (trystref12_ParseOffset.j2 kj4 x0_1 t158 t159 t160 true) else (if t158 > 23 then (trystref12_ParseOffset.j2 kj4 x0_1 t158 t159 t160 true) else (if t159 > 59 then (trystref12_ParseOffset.j2 kj4 x0_1 t158 t159 t160 true) else (trystref12_ParseOffset.j2 kj4 x0_1 t158 t159 t160 (decide (t160 > 59)))))))) = some (r1, r2) := H
                    have A19 := Aside0.mk A190
                    clear A190
                    have HC20 := Aside0.mk H
                    clear H
                    go_upto_region 6 with (first | (go_at_call 28; (with_reducible refine (trystref12_Digits.calls kj4 (x0_1.extract 1 3) t158 _ A14.out).mono ?_); rintro e w' ⟨rfl, ⟨nd, rfl⟩⟩; (try first | exact ⟨rfl, _, World.drewN_drewN _ _ _⟩ | exact ⟨rfl, _, Eq.trans (World.drewN_drewN _ _ _) (congrArg (World.drewN _) (Nat.add_assoc _ _ _))⟩)) | (go_at_call 28; (with_reducible refine (trystref12_Digits.calls kj4 (x0_1.extract 3 5) t159 _ A17.out).mono ?_); rintro e w' ⟨rfl, ⟨nd, rfl⟩⟩; (try first | exact ⟨rfl, _, World.drewN_drewN _ _ _⟩ | exact ⟨rfl, _, Eq.trans (World.drewN_drewN _ _ _) (congrArg (World.drewN _) (Nat.add_assoc _ _ _))⟩)) | (go_at_call 28; (with_reducible refine (trystref12_Digits.calls kj4 (x0_1.extract 5 x0_1.size) t160 _ A19.out).mono ?_); rintro e w' ⟨rfl, ⟨nd, rfl⟩⟩; (try first | exact ⟨rfl, _, World.drewN_drewN _ _ _⟩ | exact ⟨rfl, _, Eq.trans (World.drewN_drewN _ _ _) (congrArg (World.drewN _) (Nat.add_assoc _ _ _))⟩)))
                    repeat (go_quiet (first | (go_at_call 28; (with_reducible refine (trystref12_Digits.calls kj4 (x0_1.extract 1 3) t158 _ A14.out).mono ?_); rintro e w' ⟨rfl, ⟨nd, rfl⟩⟩; (try first | exact ⟨rfl, _, World.drewN_drewN _ _ _⟩ | exact ⟨rfl, _, Eq.trans (World.drewN_drewN _ _ _) (congrArg (World.drewN _) (Nat.add_assoc _ _ _))⟩)) | (go_at_call 28; (with_reducible refine (trystref12_Digits.calls kj4 (x0_1.extract 3 5) t159 _ A17.out).mono ?_); rintro e w' ⟨rfl, ⟨nd, rfl⟩⟩; (try first | exact ⟨rfl, _, World.drewN_drewN _ _ _⟩ | exact ⟨rfl, _, Eq.trans (World.drewN_drewN _ _ _) (congrArg (World.drewN _) (Nat.add_assoc _ _ _))⟩)) | (go_at_call 28; (with_reducible refine (trystref12_Digits.calls kj4 (x0_1.extract 5 x0_1.size) t160 _ A19.out).mono ?_); rintro e w' ⟨rfl, ⟨nd, rfl⟩⟩; (try first | exact ⟨rfl, _, World.drewN_drewN _ _ _⟩ | exact ⟨rfl, _, Eq.trans (World.drewN_drewN _ _ _) (congrArg (World.drewN _) (Nat.add_assoc _ _ _))⟩))); go_upto_region 6 with (first | (go_at_call 28; (with_reducible refine (trystref12_Digits.calls kj4 (x0_1.extract 1 3) t158 _ A14.out).mono ?_); rintro e w' ⟨rfl, ⟨nd, rfl⟩⟩; (try first | exact ⟨rfl, _, World.drewN_drewN _ _ _⟩ | exact ⟨rfl, _, Eq.trans (World.drewN_drewN _ _ _) (congrArg (World.drewN _) (Nat.add_assoc _ _ _))⟩)) | (go_at_call 28; (with_reducible refine (trystref12_Digits.calls kj4 (x0_1.extract 3 5) t159 _ A17.out).mono ?_); rintro e w' ⟨rfl, ⟨nd, rfl⟩⟩; (try first | exact ⟨rfl, _, World.drewN_drewN _ _ _⟩ | exact ⟨rfl, _, Eq.trans (World.drewN_drewN _ _ _) (congrArg (World.drewN _) (Nat.add_assoc _ _ _))⟩)) | (go_at_call 28; (with_reducible refine (trystref12_Digits.calls kj4 (x0_1.extract 5 x0_1.size) t160 _ A19.out).mono ?_); rintro e w' ⟨rfl, ⟨nd, rfl⟩⟩; (try first | exact ⟨rfl, _, World.drewN_drewN _ _ _⟩ | exact ⟨rfl, _, Eq.trans (World.drewN_drewN _ _ _) (congrArg (World.drewN _) (Nat.add_assoc _ _ _))⟩))))
                    (try simp only [Act.put, List.setIfInBounds_toArray, List.set_cons_zero, List.set_cons_succ])
                    go_cut [56] (fun v56 wc => ∃ (kq : Nat) (x56_19 : Bool), v56 = .bool x56_19 ∧ Aside0 (trystref12_ParseOffset.j2 kq x0_1 t158 t159 t160 x56_19 = some (r1, r2)) ∧ Aside0 (kq ≤ kj4) ∧ Drawn0 w wc)
                    case first =>
                      have H := HC20.out
                      clear HC20
                      by_cases c21 : t158 < 0
                      · rw [if_pos c21] at H
                        have c21b0 : decide (t158 < 0) = true := decide_eq_true c21
                        clear c21
                        (first | rw [c21b0] | (simp only [i64_w, i32_w]; rw [c21b0]) | skip)
                        have H' := Aside0.mk H
                        clear H
                        go_wp2
                        repeat (go_quiet (fail); try go_wp2)
                        go_meet
                        case rel => exact ⟨_, (true), (by first | rfl | (simp; done) | (simp [*]; done)), H', ⟨by have := HJ1.out; have := HJ4.out; first | omega | exact Nat.le_refl _⟩, by repeat (first | exact Drawn0.refl _ | apply Drawn0.step)⟩
                      · rw [if_neg c21] at H
                        have c21b0 : decide (t158 < 0) = false := decide_eq_false c21
                        clear c21
                        (first | rw [c21b0] | (simp only [i64_w, i32_w]; rw [c21b0]) | skip)
                        by_cases c22 : t159 < 0
                        · rw [if_pos c22] at H
                          have c22b0 : decide (t159 < 0) = true := decide_eq_true c22
                          clear c22
                          have H' := Aside0.mk H
                          clear H
                          go_wp2
                          repeat (go_quiet (fail); try go_wp2)
                          go_meet
                          case rel => exact ⟨_, (true), (by first | rfl | (simp; done) | (simp [*]; done)), H', ⟨by have := HJ1.out; have := HJ4.out; first | omega | exact Nat.le_refl _⟩, by repeat (first | exact Drawn0.refl _ | apply Drawn0.step)⟩
                        · rw [if_neg c22] at H
                          have c22b0 : decide (t159 < 0) = false := decide_eq_false c22
                          clear c22
                          by_cases c23 : t160 < 0
                          · rw [if_pos c23] at H
                            have c23b0 : decide (t160 < 0) = true := decide_eq_true c23
                            clear c23
                            have H' := Aside0.mk H
                            clear H
                            go_wp2
                            repeat (go_quiet (fail); try go_wp2)
                            go_meet
                            case rel => exact ⟨_, (true), (by first | rfl | (simp; done) | (simp [*]; done)), H', ⟨by have := HJ1.out; have := HJ4.out; first | omega | exact Nat.le_refl _⟩, by repeat (first | exact Drawn0.refl _ | apply Drawn0.step)⟩
                          · rw [if_neg c23] at H
                            have c23b0 : decide (t160 < 0) = false := decide_eq_false c23
                            clear c23
                            by_cases c24 : t158 > 23
                            · rw [if_pos c24] at H
                              have c24b0 : decide (23 < t158) = true := decide_eq_true c24
                              clear c24
                              have H' := Aside0.mk H
                              clear H
                              go_wp2
                              repeat (go_quiet (fail); try go_wp2)
                              go_meet
                              case rel => exact ⟨_, (true), (by first | rfl | (simp; done) | (simp [*]; done)), H', ⟨by have := HJ1.out; have := HJ4.out; first | omega | exact Nat.le_refl _⟩, by repeat (first | exact Drawn0.refl _ | apply Drawn0.step)⟩
                            · rw [if_neg c24] at H
                              have c24b0 : decide (23 < t158) = false := decide_eq_false c24
                              clear c24
                              by_cases c25 : t159 > 59
                              · rw [if_pos c25] at H
                                have c25b0 : decide (59 < t159) = true := decide_eq_true c25
                                clear c25
                                have H' := Aside0.mk H
                                clear H
                                go_wp2
                                repeat (go_quiet (fail); try go_wp2)
                                go_meet
                                case rel => exact ⟨_, (true), (by first | rfl | (simp; done) | (simp [*]; done)), H', ⟨by have := HJ1.out; have := HJ4.out; first | omega | exact Nat.le_refl _⟩, by repeat (first | exact Drawn0.refl _ | apply Drawn0.step)⟩
                              · rw [if_neg c25] at H
                                have c25b0 : decide (59 < t159) = false := decide_eq_false c25
                                clear c25
                                have H' := Aside0.mk H
                                clear H
                                go_wp2
                                repeat (go_quiet (fail); try go_wp2)
                                go_meet
                                case rel => exact ⟨_, (decide (t160 > 59)), (by first | rfl | (simp; done) | (simp [*]; done)), H', ⟨by have := HJ1.out; have := HJ4.out; first | omega | exact Nat.le_refl _⟩, by repeat (first | exact Drawn0.refl _ | apply Drawn0.step)⟩
                    case rest =>
                      clear HC20
                      try clear c1
                      try clear p1
                      try clear q1
                      try clear hx1
                      try clear qi1
                      try clear c2
                      try clear p2
                      try clear c3
                      try clear c3b0
                      try clear c3b1
                      try clear c4
                      try clear c4b0
                      try clear c4b1
                      try clear c4b2
                      try clear c6
                      try clear c6b0
                      try clear c6b1
                      try clear c7
                      try clear c7b0
                      try clear c7b1
                      try clear p8
                      try clear q8
                      try clear hx8
                      try clear qi8
                      try clear c9
                      try clear c9b0
                      try clear c9b1
                      try clear p10
                      try clear q10
                      try clear hx10
                      try clear qi10
                      try clear c11
                      try clear c12
                      try clear c12b0
                      try clear c12b1
                      try clear c13
                      try clear c13b0
                      try clear c13b1
                      try clear c15
                      try clear c15b0
                      try clear c15b1
                      try clear c16
                      try clear c16b0
                      try clear c16b1
                      try clear c18
                      try clear c18b0
                      try clear c21
                      try clear c21b0
                      try clear c22
                      try clear c22b0
                      try clear c23
                      try clear c23b0
                      try clear c24
                      try clear c24b0
                      try clear c25
                      try clear c25b0
                      try clear p1
                      try clear p10
                      try clear p2
                      try clear p8
                      try clear q1
                      try clear q10
                      try clear q8
                      obtain ⟨kq, x56_19, rfl, HA, HJ19, ⟨mc19, rfl⟩⟩ := hcut
                      cases kq with
                      | zero => exact absurd HA.out (by simp [trystref12_ParseOffset.j2])
                      | succ kj19 =>
                        have H := HA.out
                        clear HA
                        simp only [trystref12_ParseOffset.j2] at H
                        by_cases c26 : x56_19 = true
                        · subst c26
                          have H1 : (some (0, 7)) = some (r1, r2) := by rw [if_pos rfl] at H; exact H
                          clear H
                          have H := H1
                          clear H1
                          simp only [Option.some.injEq, Prod.mk.injEq] at H
                          obtain ⟨rfl, rfl⟩ := H
                          go_wp2
                          repeat (go_quiet (fail); try go_wp2)
                          go_ret2
                          exact ⟨by first | rfl | (simp; done) | (simp [*]; done) | (simp [bne_nil_]; done), by repeat (first | exact Drawn0.refl _ | apply Drawn0.step)⟩
                        · replace c26 := Bool.eq_false_iff.mpr c26
                          subst c26
                          have H1 : (if 0 < (x0_1.size : Int) then (if (bt x0_1 0) = 45 then (if (wrap64 ((wrap64 ((wrap64 (3600 * t158)) + (wrap64 (60 * t159)))) + t160)) = 0 then (some (0, 7)) else (some (wrap64 (-(wrap64 ((wrap64 ((wrap64 (3600 * t158)) + (wrap64 (60 * t159)))) + t160))), 0))) else (some (wrap64 ((wrap64 ((wrap64 (3600 * t158)) + (wrap64 (60 * t159)))) + t160), 0))) else (none)) = some (r1, r2) := by rw [if_neg (show ¬ (false = true) by decide)] at H; exact H
                          clear H
                          have H := H1
                          clear H1
                          by_cases c27 : 0 < (x0_1.size : Int)
                          · rw [if_pos c27] at H
                            have c27b0 : decide (0 < (x0_1.size : Int)) = true := decide_eq_true c27
                            have c27b1 : decide (0 < x0_1.size) = true := decide_eq_true (by omega)
                            clear c27
                            by_cases c29 : (bt x0_1 0) = 45
                            · rw [if_pos c29] at H
                              have c29b0 : ((bt x0_1 0) == 45) = true := beq_iff_eq.mpr c29
                              have c29b1 : ((bt x0_1 0) != 45) = false := bne_eq_false_iff_eq.mpr c29
                              clear c29
                              by_cases c30 : (wrap64 ((wrap64 ((wrap64 (3600 * t158)) + (wrap64 (60 * t159)))) + t160)) = 0
                              · rw [if_pos c30] at H
                                have c30b0 : ((wrap64 ((wrap64 ((wrap64 (3600 * t158)) + (wrap64 (60 * t159)))) + t160)) == 0) = true := beq_iff_eq.mpr c30
                                have c30b1 : ((wrap64 ((wrap64 ((wrap64 (3600 * t158)) + (wrap64 (60 * t159)))) + t160)) != 0) = false := bne_eq_false_iff_eq.mpr c30
                                clear c30
                                simp only [Option.some.injEq, Prod.mk.injEq] at H
                                obtain ⟨rfl, rfl⟩ := H
                                have p28 : 0 ≤ (0 : Int) := (by omega)
                                have q28 : 0 < x0_1.size := (by have : (0 : Int) < (x0_1.size : Int) := of_decide_eq_true (by first | (with_reducible assumption) | assumption); omega)
                                have hx28 : ∀ h : 0 < x0_1.size, ((x0_1[0]'h).toNat : Int) = bt x0_1 0 := bt_at x0_1 0
                                clear p28
                                have qi28 : (0 < (x0_1.size : Int)) = True := eq_true (of_decide_eq_true (by first | (with_reducible assumption) | assumption))
                                replace q28 := eq_true q28
                                go_wp2
                                repeat (go_quiet (fail); try go_wp2)
                                go_ret2
                                exact ⟨by first | rfl | (simp; done) | (simp [*]; done) | (simp [bne_nil_]; done), by repeat (first | exact Drawn0.refl _ | apply Drawn0.step)⟩
                              · rw [if_neg c30] at H
                                have c30b0 : ((wrap64 ((wrap64 ((wrap64 (3600 * t158)) + (wrap64 (60 * t159)))) + t160)) == 0) = false := beq_eq_false_iff_ne.mpr c30
                                have c30b1 : ((wrap64 ((wrap64 ((wrap64 (3600 * t158)) + (wrap64 (60 * t159)))) + t160)) != 0) = true := bne_iff_ne.mpr c30
                                simp only [Option.some.injEq, Prod.mk.injEq] at H
                                obtain ⟨rfl, rfl⟩ := H
                                have p28 : 0 ≤ (0 : Int) := (by omega)
                                have q28 : 0 < x0_1.size := (by have : (0 : Int) < (x0_1.size : Int) := of_decide_eq_true (by first | (with_reducible assumption) | assumption); omega)
                                have hx28 : ∀ h : 0 < x0_1.size, ((x0_1[0]'h).toNat : Int) = bt x0_1 0 := bt_at x0_1 0
                                clear p28
                                have qi28 : (0 < (x0_1.size : Int)) = True := eq_true (of_decide_eq_true (by first | (with_reducible assumption) | assumption))
                                replace q28 := eq_true q28
                                go_wp2
                                repeat (go_quiet (fail); try go_wp2)
                                go_ret2
                                exact ⟨by first | rfl | (simp; done) | (simp [*]; done) | (simp [bne_nil_]; done), by repeat (first | exact Drawn0.refl _ | apply Drawn0.step)⟩
                            · rw [if_neg c29] at H
                              have c29b0 : ((bt x0_1 0) == 45) = false := beq_eq_false_iff_ne.mpr c29
                              have c29b1 : ((bt x0_1 0) != 45) = true := bne_iff_ne.mpr c29
                              simp only [Option.some.injEq, Prod.mk.injEq] at H
                              obtain ⟨rfl, rfl⟩ := H
                              have p28 : 0 ≤ (0 : Int) := (by omega)
                              have q28 : 0 < x0_1.size := (by have : (0 : Int) < (x0_1.size : Int) := of_decide_eq_true (by first | (with_reducible assumption) | assumption); omega)
                              have hx28 : ∀ h : 0 < x0_1.size, ((x0_1[0]'h).toNat : Int) = bt x0_1 0 := bt_at x0_1 0
                              clear p28
                              have qi28 : (0 < (x0_1.size : Int)) = True := eq_true (of_decide_eq_true (by first | (with_reducible assumption) | assumption))
                              replace q28 := eq_true q28
                              go_wp2
                              repeat (go_quiet (fail); try go_wp2)
                              go_ret2
                              exact ⟨by first | rfl | (simp; done) | (simp [*]; done) | (simp [bne_nil_]; done), by repeat (first | exact Drawn0.refl _ | apply Drawn0.step)⟩
                          · rw [if_neg c27] at H
                            exact absurd H (by simp)
                  · rw [if_neg c16] at H
                    exact absurd H (by simp)
                · rw [if_neg c15] at H
                  exact absurd H (by simp)
              · rw [if_neg c13] at H
                exact absurd H (by simp)
            · rw [if_neg c12] at H
              exact absurd H (by simp)

-- NOT PRINTED: function 4 (trystlaw12_ValueOffsets)

-- NOT PRINTED: function 93 (bytealg_IndexByteString)

-- NOT PRINTED: function 70 (stringslite_IndexByte)

-- NOT PRINTED: function 52 (strings_IndexByte)

-- NOT PRINTED: function 31 (value_ZoneName)

end Go.Proofs.YthppkdbelmolbaaDoor.Q
