-- written by a program of this session (wip/own_print.sh)
import Derived.Test.YthppkdbelmolbaaDoorQ0
import Derived.Test.YthppkdbelmolbaaDoorQnumV
namespace Go.Proofs.YthppkdbelmolbaaDoor.Q
open Go.RowKit Go.Proofs.YthppkdbelmolbaaDoorW.PrintWords Go.Proofs.YthppkdbelmolbaaDoorW.PrintLast Go.Proofs.YthppkdbelmolbaaDoorW.PrintMore
attribute [local go_sem] max2_int min2_int max_two min_two max_three min_three max_four min_four   -- for this text's walks alone
set_option linter.unusedVariables false
set_option linter.unusedSimpArgs false

/-! ### value_two: function 29 -/
def value_two.f (a0 : Int) : Option (ByteArray) := some (strOfNums (([(wrap64 (48 + (wrap64 (Int.tdiv a0 10)))) % 256, (wrap64 (48 + (Int.tmod a0 10))) % 256] : List Int)))
set_option maxHeartbeats 8000000 in
set_option maxRecDepth 100000 in
theorem value_two.calls (a0 : Int) (r : ByteArray) (w : World) (h : value_two.f a0 = some r) :
    Calls Tryd.prog 29 #[.int .i64 a0] w fun e w' => e = .returned (.string r) ∧ Below w.heap.size w w' := by
  have HB := Aside0.mk (Below.refl w.heap.size w)
  have H : (some (strOfNums (([(wrap64 (48 + (wrap64 (Int.tdiv a0 10)))) % 256, (wrap64 (48 + (Int.tmod a0 10))) % 256] : List Int)))) = some r := h
  clear h
  obtain ⟨y130, hy130⟩ : ∃ y_ : List Int, y_ = (([(wrap64 (48 + (wrap64 (Int.tdiv a0 10)))) % 256, (wrap64 (48 + (Int.tmod a0 10))) % 256] : List Int)) := ⟨_, rfl⟩
  replace H : (some (strOfNums y130)) = some r := by first | (rw [hy130]; with_reducible exact H) | (have H2_ := (Option.bind_some _ _).symm.trans H; rw [hy130]; with_reducible exact H2_) | (have H2_ := (Option.bind_some _ _).symm.trans H; with_reducible exact H2_) | with_reducible exact H | (rw [hy130]; exact H) | exact H
  have Ny130 := Aside0.mk hy130
  clear hy130
  obtain rfl := Option.some.inj H
  go_enter Tryd.func29, Tryd.ntmps29
  go_wp2_with (first | ((with_reducible refine gate_dst (N := 11) rfl ?_); refine Kd.R_lit (Kd.int .u8) _ 5 ?hg (N := 11) ?hd (xs := ([(wrap64 (48 + (wrap64 (Int.tdiv a0 10)))) % 256, (wrap64 (48 + (Int.tmod a0 10))) % 256] : List Int)) (inner := [.int .u8 ((wrap64 (48 + (wrap64 (Int.tdiv a0 10)))) % 256), .int .u8 ((wrap64 (48 + (Int.tmod a0 10))) % 256)]) (ok := fun _ => True) (okp := fun _ => True) ?hr ?hp (fun _ hk => hk) trivial (Below.refl _ _) (Nat.le_refl _) (by simp) ?_; (case hd => rfl); (case hg => rfl); (case hr => first | (go_simp; done) | (go_simp; rfl)); (case hp => exact (Reps.one (show Kd.M (Kd.int .u8) _ _ _ ((wrap64 (48 + (wrap64 (Int.tdiv a0 10)))) % 256) [.int .u8 ((wrap64 (48 + (wrap64 (Int.tdiv a0 10)))) % 256)] from rfl) (Reps.one (show Kd.M (Kd.int .u8) _ _ _ ((wrap64 (48 + (Int.tmod a0 10))) % 256) [.int .u8 ((wrap64 (48 + (Int.tmod a0 10))) % 256)] from rfl) (Reps.none _ _)))); intro v131 w2 ho3 hb hg_ hnew_; clear hg_ hnew_; (first | rw [← Ny130.out] at ho3 | (simp only [Int.reduceToNat] at ho3; rw [← Ny130.out] at ho3)); have n0_ := Aside0.mk (Kd.R_lower ho3 (below_size (by repeat (first | (with_reducible first | exact HB.out | apply below_alloc | apply pw_below_drewN | apply below_drew1) | exact HB.out)))); have n1_ := Aside0.mk (below_step (by repeat (first | (with_reducible first | exact HB.out | apply below_alloc | apply pw_below_drewN | apply below_drew1) | exact HB.out)) hb); clear HB; have HO132 := n0_; have HB := n1_; clear n0_ n1_; clear hb ho3; have hcv4 := own_string (P := Tryd.prog) Tryd.underlying62 Tryd.underlying5 Tryd.underlying9 (Kd.own_of_R HO132.out)))
  go_ret
  exact ⟨by first | rfl | (simp [errW_none, errW_some] <;> rfl) | (simp [*, errW_none, errW_some] <;> rfl), by repeat (first | (with_reducible first | exact HB.out | apply below_alloc | apply pw_below_drewN | apply below_drew1) | exact HB.out)⟩

/-! ### value_Offset: function 12 -/
mutual
def value_Offset.j0 : Nat → Int → Bool → Option (ByteArray × Int)
  | 0, _, _ => none
  | k + 1, x0, x10 => if x10 = true then (some ((⟨#[]⟩ : ByteArray), 7)) else (if x0 < 0 then (value_Offset.j1 k (wrap64 (-x0)) (⟨#[45]⟩ : ByteArray)) else (value_Offset.j1 k x0 (⟨#[43]⟩ : ByteArray)))
def value_Offset.j1 : Nat → Int → ByteArray → Option (ByteArray × Int)
  | 0, _, _ => none
  | k + 1, x0, x4 => (value_two.f (wrap64 (Int.tdiv x0 3600))).bind fun t133 => ((value_two.f (Int.tmod (wrap64 (Int.tdiv x0 60)) 60)).bind fun t134 => (if t133.size + t134.size ≤ 9223372036854775807 then (if x4.size + (t133 ++ t134).size ≤ 9223372036854775807 then (if (Int.tmod x0 60) > 0 then ((value_two.f (Int.tmod x0 60)).bind fun t135 => (if (x4 ++ (t133 ++ t134)).size + t135.size ≤ 9223372036854775807 then (some ((x4 ++ (t133 ++ t134)) ++ t135, 0)) else (none))) else (some (x4 ++ (t133 ++ t134), 0))) else (none)) else (none)))
end
def value_Offset.f (k : Nat) (a0 : Int) : Option (ByteArray × Int) := if a0 < (-86399) then (value_Offset.j0 k a0 true) else (value_Offset.j0 k a0 (decide (a0 > 86399)))
theorem value_Offset.mono_l : ∀ k, (∀ y0 y1, LeO (value_Offset.j0 k y0 y1) (value_Offset.j0 (k + 1) y0 y1)) ∧ (∀ y0 y1, LeO (value_Offset.j1 k y0 y1) (value_Offset.j1 (k + 1) y0 y1))
  | 0 => ⟨fun _ _ r h => by simp [value_Offset.j0] at h, fun _ _ r h => by simp [value_Offset.j1] at h⟩
  | k + 1 => by
    obtain ⟨ih0, ih1⟩ := value_Offset.mono_l k
    refine ⟨?_, ?_⟩
    · intro y0 y1
      unfold value_Offset.j0
      repeat' first
      | (with_reducible exact ih0 _ _)
      | (with_reducible exact ih1 _ _)
      | (with_reducible exact LeO.refl _)
      | (with_reducible exact LeO.none _)
      | (with_reducible refine LeO.ite ?_ ?_)
      | (with_reducible refine LeO.bind ?_ (fun _ => ?_))
      | exact ih0 _ _
      | exact ih1 _ _
      | exact LeO.none _
      | refine LeO.ite ?_ ?_
      | refine LeO.bind ?_ (fun _ => ?_)
    · intro y0 y1
      unfold value_Offset.j1
      repeat' first
      | (with_reducible exact ih0 _ _)
      | (with_reducible exact ih1 _ _)
      | (with_reducible exact LeO.refl _)
      | (with_reducible exact LeO.none _)
      | (with_reducible refine LeO.ite ?_ ?_)
      | (with_reducible refine LeO.bind ?_ (fun _ => ?_))
      | exact ih0 _ _
      | exact ih1 _ _
      | exact LeO.none _
      | refine LeO.ite ?_ ?_
      | refine LeO.bind ?_ (fun _ => ?_)
theorem value_Offset.mono : ∀ a0 k, LeO (value_Offset.f k a0) (value_Offset.f (k + 1) a0) := by
  intro a0 k
  obtain ⟨ih0, ih1⟩ := value_Offset.mono_l k
  unfold value_Offset.f
  repeat' first
      | (with_reducible exact ih0 _ _)
      | (with_reducible exact ih1 _ _)
      | (with_reducible exact LeO.refl _)
      | (with_reducible exact LeO.none _)
      | (with_reducible refine LeO.ite ?_ ?_)
      | (with_reducible refine LeO.bind ?_ (fun _ => ?_))
      | exact ih0 _ _
      | exact ih1 _ _
      | exact LeO.none _
      | refine LeO.ite ?_ ?_
      | refine LeO.bind ?_ (fun _ => ?_)
set_option maxHeartbeats 8000000 in
set_option maxRecDepth 100000 in
theorem value_Offset.calls (k : Nat) (a0 : Int) (r1 : ByteArray) (r2 : Int) (w : World) (h : value_Offset.f k a0 = some (r1, r2)) :
    Calls Tryd.prog 12 #[.int .i64 a0] w fun e w' => e = .returned (.tuple #[.string r1, .int .i64 r2]) ∧ Below w.heap.size w w' := by
  have HB := Aside0.mk (Below.refl w.heap.size w)
  have H : (if a0 < (-86399) then (value_Offset.j0 k a0 true) else (value_Offset.j0 k a0 (decide (a0 > 86399)))) = some (r1, r2) := h
  clear h
  have HC2 := Aside0.mk H
  clear H
  go_enter Tryd.func12, Tryd.ntmps12
  go_upto_region 1 with (fail)
  go_cut [10] (fun v10 wc => ∃ (kq : Nat) (x10_1 : Bool), v10 = .bool x10_1 ∧ Aside0 (value_Offset.j0 kq a0 x10_1 = some (r1, r2)) ∧ Aside0 (kq ≤ k) ∧ Aside0 (Below w.heap.size w wc))
  case first =>
    have H := HC2.out
    clear HC2
    by_cases c3 : a0 < (-86399)
    · rw [if_pos c3] at H
      have c3b0 : decide (a0 < (-86399)) = true := decide_eq_true c3
      clear c3
      (first | rw [c3b0] | (simp only [i64_w, i32_w]; rw [c3b0]) | skip)
      have H' := Aside0.mk H
      clear H
      go_wp2
      go_meet
      case rel => exact ⟨_, (true), (by first | rfl | (simp; done) | (simp [*]; done)), H', ⟨by first | omega | exact Nat.le_refl _⟩, ⟨by repeat (first | (with_reducible first | exact HB.out | apply below_alloc | apply pw_below_drewN | apply below_drew1) | exact HB.out)⟩⟩
    · rw [if_neg c3] at H
      have c3b0 : decide (a0 < (-86399)) = false := decide_eq_false c3
      clear c3
      (first | rw [c3b0] | (simp only [i64_w, i32_w]; rw [c3b0]) | skip)
      have H' := Aside0.mk H
      clear H
      go_wp2
      go_meet
      case rel => exact ⟨_, (decide (a0 > 86399)), (by first | rfl | (simp; done) | (simp [*]; done)), H', ⟨by first | omega | exact Nat.le_refl _⟩, ⟨by repeat (first | (with_reducible first | exact HB.out | apply below_alloc | apply pw_below_drewN | apply below_drew1) | exact HB.out)⟩⟩
  case rest =>
    clear HC2
    try clear c1
    try clear p2
    try clear c3
    try clear c3b0
    obtain ⟨kq, x10_1, rfl, HA, HJ1, HB⟩ := hcut
    cases kq with
    | zero => exact absurd HA.out (by simp [value_Offset.j0])
    | succ kj1 =>
      have H := HA.out
      clear HA
      simp only [value_Offset.j0] at H
      by_cases c4 : x10_1 = true
      · subst c4
        have H1 : (some ((⟨#[]⟩ : ByteArray), 7)) = some (r1, r2) := by rw [if_pos rfl] at H; exact H
        clear H
        have H := H1
        clear H1
        simp only [Option.some.injEq, Prod.mk.injEq] at H
        obtain ⟨rfl, rfl⟩ := H
        go_wp2
        go_ret2
        exact ⟨by first | rfl | (simp [errW_none, errW_some] <;> rfl) | (simp [*, errW_none, errW_some] <;> rfl), by repeat (first | (with_reducible first | exact HB.out | apply below_alloc | apply pw_below_drewN | apply below_drew1) | exact HB.out)⟩
      · replace c4 := Bool.eq_false_iff.mpr c4
        subst c4
        have H1 : (if a0 < 0 then (value_Offset.j1 kj1 (wrap64 (-a0)) (⟨#[45]⟩ : ByteArray)) else (value_Offset.j1 kj1 a0 (⟨#[43]⟩ : ByteArray))) = some (r1, r2) := by rw [if_neg (show ¬ (false = true) by decide)] at H; exact H
        clear H
        have H := H1
        clear H1
        have HC5 := Aside0.mk H
        clear H
        go_upto_if 12 with (fail)
        go_cut [0, 4] (fun v0 v4 wc => ∃ (kq : Nat) (x0_4 : Int) (x4_4 : ByteArray), v0 = .int .i64 x0_4 ∧ v4 = .string x4_4 ∧ Aside0 (value_Offset.j1 kq x0_4 x4_4 = some (r1, r2)) ∧ Aside0 (kq ≤ kj1) ∧ Aside0 (Below w.heap.size w wc))
        case first =>
          have H := HC5.out
          clear HC5
          by_cases c6 : a0 < 0
          · rw [if_pos c6] at H
            have c6b0 : decide (a0 < 0) = true := decide_eq_true c6
            clear c6
            (first | rw [c6b0] | (simp only [i64_w, i32_w]; rw [c6b0]) | skip)
            have H' := Aside0.mk H
            clear H
            go_wp2
            go_meet
            case rel => exact ⟨_, (wrap64 (-a0)), ((⟨#[45]⟩ : ByteArray)), (by first | rfl | (simp; done) | (simp [*]; done)), (by first | rfl | (simp; done) | (simp [*]; done)), H', ⟨by have := HJ1.out; first | omega | exact Nat.le_refl _⟩, ⟨by repeat (first | (with_reducible first | exact HB.out | apply below_alloc | apply pw_below_drewN | apply below_drew1) | exact HB.out)⟩⟩
          · rw [if_neg c6] at H
            have c6b0 : decide (a0 < 0) = false := decide_eq_false c6
            clear c6
            (first | rw [c6b0] | (simp only [i64_w, i32_w]; rw [c6b0]) | skip)
            have H' := Aside0.mk H
            clear H
            go_wp2
            go_meet
            case rel => exact ⟨_, (a0), ((⟨#[43]⟩ : ByteArray)), (by first | rfl | (simp; done) | (simp [*]; done)), (by first | rfl | (simp; done) | (simp [*]; done)), H', ⟨by have := HJ1.out; first | omega | exact Nat.le_refl _⟩, ⟨by repeat (first | (with_reducible first | exact HB.out | apply below_alloc | apply pw_below_drewN | apply below_drew1) | exact HB.out)⟩⟩
        case rest =>
          clear HC5
          try clear c1
          try clear p2
          try clear c3
          try clear c3b0
          try clear c4
          try clear c6
          try clear c6b0
          try clear p6
          try clear p2
          obtain ⟨kq, x0_4, x4_4, rfl, rfl, HA, HJ4, HB⟩ := hcut
          cases kq with
          | zero => exact absurd HA.out (by simp [value_Offset.j1])
          | succ kj4 =>
            have H := HA.out
            clear HA
            simp only [value_Offset.j1] at H
            replace H := Option.bind_eq_some_iff.mp H
            obtain ⟨t133, A70, H⟩ := H
            replace H : ((value_two.f (Int.tmod (wrap64 (Int.tdiv x0_4 60)) 60)).bind fun t134 => (if t133.size + t134.size ≤ 9223372036854775807 then (if x4_4.size + (t133 ++ t134).size ≤ 9223372036854775807 then (if (Int.tmod x0_4 60) > 0 then ((value_two.f (Int.tmod x0_4 60)).bind fun t135 => (if (x4_4 ++ (t133 ++ t134)).size + t135.size ≤ 9223372036854775807 then (some ((x4_4 ++ (t133 ++ t134)) ++ t135, 0)) else (none))) else (some (x4_4 ++ (t133 ++ t134), 0))) else (none)) else (none))) = some (r1, r2) := H
            have A7 := Aside0.mk A70
            clear A70
            replace H := Option.bind_eq_some_iff.mp H
            obtain ⟨t134, A80, H⟩ := H
            replace H : (if t133.size + t134.size ≤ 9223372036854775807 then (if x4_4.size + (t133 ++ t134).size ≤ 9223372036854775807 then (if (Int.tmod x0_4 60) > 0 then ((value_two.f (Int.tmod x0_4 60)).bind fun t135 => (if (x4_4 ++ (t133 ++ t134)).size + t135.size ≤ 9223372036854775807 then (some ((x4_4 ++ (t133 ++ t134)) ++ t135, 0)) else (none))) else (some (x4_4 ++ (t133 ++ t134), 0))) else (none)) else (none)) = some (r1, r2) := H
            have A8 := Aside0.mk A80
            clear A80
            by_cases c9 : t133.size + t134.size ≤ 9223372036854775807
            · rw [if_pos c9] at H
              have c9b0 := eq_true c9
              have c9b1 : decide (t133.size + t134.size ≤ 9223372036854775807) = true := decide_eq_true c9
              try have c9b2 : (9223372036854775807 < t133.size + t134.size) = False := eq_false (Nat.not_lt.2 c9)
              try (have c9b3 := c9b2; simp only [ByteArray.size_append, bs1_] at c9b3)
              by_cases c10 : x4_4.size + (t133 ++ t134).size ≤ 9223372036854775807
              · rw [if_pos c10] at H
                have c10b0 := eq_true c10
                have c10b1 : decide (x4_4.size + (t133 ++ t134).size ≤ 9223372036854775807) = true := decide_eq_true c10
                try have c10b2 : (9223372036854775807 < x4_4.size + (t133 ++ t134).size) = False := eq_false (Nat.not_lt.2 c10)
                try (have c10b3 := c10b2; simp only [ByteArray.size_append, bs1_] at c10b3)
                by_cases c11 : (Int.tmod x0_4 60) > 0
                · rw [if_pos c11] at H
                  have c11b0 : decide (0 < (Int.tmod x0_4 60)) = true := decide_eq_true c11
                  clear c11
                  replace H := Option.bind_eq_some_iff.mp H
                  obtain ⟨t135, A120, H⟩ := H
                  replace H : (if (x4_4 ++ (t133 ++ t134)).size + t135.size ≤ 9223372036854775807 then (some ((x4_4 ++ (t133 ++ t134)) ++ t135, 0)) else (none)) = some (r1, r2) := H
                  have A12 := Aside0.mk A120
                  clear A120
                  by_cases c13 : (x4_4 ++ (t133 ++ t134)).size + t135.size ≤ 9223372036854775807
                  · rw [if_pos c13] at H
                    have c13b0 := eq_true c13
                    have c13b1 : decide ((x4_4 ++ (t133 ++ t134)).size + t135.size ≤ 9223372036854775807) = true := decide_eq_true c13
                    try have c13b2 : (9223372036854775807 < (x4_4 ++ (t133 ++ t134)).size + t135.size) = False := eq_false (Nat.not_lt.2 c13)
                    try (have c13b3 := c13b2; simp only [ByteArray.size_append, bs1_] at c13b3)
                    simp only [Option.some.injEq, Prod.mk.injEq] at H
                    obtain ⟨rfl, rfl⟩ := H
                    go_wp2_with (first | ((with_reducible refine gate_callee (f := 29) rfl ?_); refine goesL_ (some 18) rfl rfl Tryd.func29 (by kernel_rfl) rfl #[.int .i64 (wrap64 (Int.tdiv x0_4 3600))] rfl (by (try simp only [List.map_toArray, List.map_cons, List.map_nil]); first | done | rfl | (simp only [List.length_drop, List.length_take]; rfl)) ?_; (with_reducible refine (value_two.calls (wrap64 (Int.tdiv x0_4 3600)) t133 _ A7.out).mono ?_); rintro e w14 ⟨rfl, hb⟩; refine ⟨_, rfl, ?_⟩; have n0_ := Aside0.mk (below_step (by repeat (first | (with_reducible first | exact HB.out | apply below_alloc | apply pw_below_drewN | apply below_drew1) | exact HB.out)) hb); clear HB; have HB := n0_; clear n0_; (try clear hb); (try clear hb2); (try clear hk); (try clear hi)) | ((with_reducible refine gate_callee (f := 29) rfl ?_); refine goesL_ (some 22) rfl rfl Tryd.func29 (by kernel_rfl) rfl #[.int .i64 (Int.tmod (wrap64 (Int.tdiv x0_4 60)) 60)] rfl (by (try simp only [List.map_toArray, List.map_cons, List.map_nil]); first | done | rfl | (simp only [List.length_drop, List.length_take]; rfl)) ?_; (with_reducible refine (value_two.calls (Int.tmod (wrap64 (Int.tdiv x0_4 60)) 60) t134 _ A8.out).mono ?_); rintro e w15 ⟨rfl, hb⟩; refine ⟨_, rfl, ?_⟩; have n0_ := Aside0.mk (below_step (by repeat (first | (with_reducible first | exact HB.out | apply below_alloc | apply pw_below_drewN | apply below_drew1) | exact HB.out)) hb); clear HB; have HB := n0_; clear n0_; (try clear hb); (try clear hb2); (try clear hk); (try clear hi)) | ((with_reducible refine gate_callee (f := 29) rfl ?_); refine goesL_ (some 31) rfl rfl Tryd.func29 (by kernel_rfl) rfl #[.int .i64 (Int.tmod x0_4 60)] rfl (by (try simp only [List.map_toArray, List.map_cons, List.map_nil]); first | done | rfl | (simp only [List.length_drop, List.length_take]; rfl)) ?_; (with_reducible refine (value_two.calls (Int.tmod x0_4 60) t135 _ A12.out).mono ?_); rintro e w16 ⟨rfl, hb⟩; refine ⟨_, rfl, ?_⟩; have n0_ := Aside0.mk (below_step (by repeat (first | (with_reducible first | exact HB.out | apply below_alloc | apply pw_below_drewN | apply below_drew1) | exact HB.out)) hb); clear HB; have HB := n0_; clear n0_; (try clear hb); (try clear hb2); (try clear hk); (try clear hi)))
                    go_ret2
                    exact ⟨by first | rfl | (simp [errW_none, errW_some] <;> rfl) | (simp [*, errW_none, errW_some] <;> rfl), by repeat (first | (with_reducible first | exact HB.out | apply below_alloc | apply pw_below_drewN | apply below_drew1) | exact HB.out)⟩
                  · rw [if_neg c13] at H
                    exact absurd H (by simp)
                · rw [if_neg c11] at H
                  have c11b0 : decide (0 < (Int.tmod x0_4 60)) = false := decide_eq_false c11
                  clear c11
                  simp only [Option.some.injEq, Prod.mk.injEq] at H
                  obtain ⟨rfl, rfl⟩ := H
                  go_wp2_with (first | ((with_reducible refine gate_callee (f := 29) rfl ?_); refine goesL_ (some 18) rfl rfl Tryd.func29 (by kernel_rfl) rfl #[.int .i64 (wrap64 (Int.tdiv x0_4 3600))] rfl (by (try simp only [List.map_toArray, List.map_cons, List.map_nil]); first | done | rfl | (simp only [List.length_drop, List.length_take]; rfl)) ?_; (with_reducible refine (value_two.calls (wrap64 (Int.tdiv x0_4 3600)) t133 _ A7.out).mono ?_); rintro e w17 ⟨rfl, hb⟩; refine ⟨_, rfl, ?_⟩; have n0_ := Aside0.mk (below_step (by repeat (first | (with_reducible first | exact HB.out | apply below_alloc | apply pw_below_drewN | apply below_drew1) | exact HB.out)) hb); clear HB; have HB := n0_; clear n0_; (try clear hb); (try clear hb2); (try clear hk); (try clear hi)) | ((with_reducible refine gate_callee (f := 29) rfl ?_); refine goesL_ (some 22) rfl rfl Tryd.func29 (by kernel_rfl) rfl #[.int .i64 (Int.tmod (wrap64 (Int.tdiv x0_4 60)) 60)] rfl (by (try simp only [List.map_toArray, List.map_cons, List.map_nil]); first | done | rfl | (simp only [List.length_drop, List.length_take]; rfl)) ?_; (with_reducible refine (value_two.calls (Int.tmod (wrap64 (Int.tdiv x0_4 60)) 60) t134 _ A8.out).mono ?_); rintro e w18 ⟨rfl, hb⟩; refine ⟨_, rfl, ?_⟩; have n0_ := Aside0.mk (below_step (by repeat (first | (with_reducible first | exact HB.out | apply below_alloc | apply pw_below_drewN | apply below_drew1) | exact HB.out)) hb); clear HB; have HB := n0_; clear n0_; (try clear hb); (try clear hb2); (try clear hk); (try clear hi)))
                  go_ret2
                  exact ⟨by first | rfl | (simp [errW_none, errW_some] <;> rfl) | (simp [*, errW_none, errW_some] <;> rfl), by repeat (first | (with_reducible first | exact HB.out | apply below_alloc | apply pw_below_drewN | apply below_drew1) | exact HB.out)⟩
              · rw [if_neg c10] at H
                exact absurd H (by simp)
            · rw [if_neg c9] at H
              exact absurd H (by simp)

/-! ### value_ParseOffset: function 14 -/
mutual
def value_ParseOffset.j0 : Nat → ByteArray → Bool → Option (Int × Int)
  | 0, _, _ => none
  | k + 1, x0, x30 => if x30 = true then (some (0, 7)) else (if 1 ≤ (x0.size : Int) then ((value_digits.f k (x0.extract 1 x0.size)).bind fun bt150 => (if bt150.2 = true then (if 1 ≤ 3 then (if 3 ≤ (x0.size : Int) then ((value_digits.f k (x0.extract 1 3)).bind fun bt152 => (if 3 ≤ 5 then (if 5 ≤ (x0.size : Int) then ((value_digits.f k (x0.extract 3 5)).bind fun bt154 => ((value_digits.f k (x0.extract 5 x0.size)).bind fun bt156 => (if bt152.1 > 23 then (value_ParseOffset.j1 k x0 (wrap64 ((wrap64 ((wrap64 (3600 * bt152.1)) + (wrap64 (60 * bt154.1)))) + bt156.1)) true) else (if bt154.1 > 59 then (value_ParseOffset.j1 k x0 (wrap64 ((wrap64 ((wrap64 (3600 * bt152.1)) + (wrap64 (60 * bt154.1)))) + bt156.1)) true) else (if bt156.1 > 59 then (value_ParseOffset.j1 k x0 (wrap64 ((wrap64 ((wrap64 (3600 * bt152.1)) + (wrap64 (60 * bt154.1)))) + bt156.1)) true) else (if 0 < (x0.size : Int) then (if (bt x0 0) = 45 then (value_ParseOffset.j1 k x0 (wrap64 ((wrap64 ((wrap64 (3600 * bt152.1)) + (wrap64 (60 * bt154.1)))) + bt156.1)) ((wrap64 ((wrap64 ((wrap64 (3600 * bt152.1)) + (wrap64 (60 * bt154.1)))) + bt156.1)) == 0)) else (value_ParseOffset.j1 k x0 (wrap64 ((wrap64 ((wrap64 (3600 * bt152.1)) + (wrap64 (60 * bt154.1)))) + bt156.1)) false)) else (none))))))) else (none)) else (none))) else (none)) else (none)) else (some (0, 7)))) else (none))
def value_ParseOffset.j1 : Nat → ByteArray → Int → Bool → Option (Int × Int)
  | 0, _, _, _ => none
  | k + 1, x0, x12, x64 => if x64 = true then (some (0, 7)) else (if 0 < (x0.size : Int) then (if (bt x0 0) = 45 then (some (wrap64 (-x12), 0)) else (some (x12, 0))) else (none))
end
def value_ParseOffset.f (k : Nat) (a0 : ByteArray) : Option (Int × Int) := if (a0.size : Int) = 5 then (if 0 < (a0.size : Int) then (if (bt a0 0) = 43 then (value_ParseOffset.j0 k a0 false) else (value_ParseOffset.j0 k a0 ((bt a0 0) != 45))) else (none)) else (if (a0.size : Int) = 7 then (if 0 < (a0.size : Int) then (if (bt a0 0) = 43 then (value_ParseOffset.j0 k a0 false) else (value_ParseOffset.j0 k a0 ((bt a0 0) != 45))) else (none)) else (value_ParseOffset.j0 k a0 true))
theorem value_ParseOffset.mono_l : ∀ k, (∀ y0 y1, LeO (value_ParseOffset.j0 k y0 y1) (value_ParseOffset.j0 (k + 1) y0 y1)) ∧ (∀ y0 y1 y2, LeO (value_ParseOffset.j1 k y0 y1 y2) (value_ParseOffset.j1 (k + 1) y0 y1 y2))
  | 0 => ⟨fun _ _ r h => by simp [value_ParseOffset.j0] at h, fun _ _ _ r h => by simp [value_ParseOffset.j1] at h⟩
  | k + 1 => by
    obtain ⟨ih0, ih1⟩ := value_ParseOffset.mono_l k
    refine ⟨?_, ?_⟩
    · intro y0 y1
      unfold value_ParseOffset.j0
      repeat' first
      | (with_reducible exact ih0 _ _)
      | (with_reducible exact ih1 _ _ _)
      | (with_reducible exact value_digits.mono _ _)
      | (with_reducible exact LeO.refl _)
      | (with_reducible exact LeO.none _)
      | (with_reducible refine LeO.ite ?_ ?_)
      | (with_reducible refine LeO.bind ?_ (fun _ => ?_))
      | exact ih0 _ _
      | exact ih1 _ _ _
      | exact value_digits.mono _ _
      | exact LeO.none _
      | refine LeO.ite ?_ ?_
      | refine LeO.bind ?_ (fun _ => ?_)
    · intro y0 y1 y2
      unfold value_ParseOffset.j1
      repeat' first
      | (with_reducible exact ih0 _ _)
      | (with_reducible exact ih1 _ _ _)
      | (with_reducible exact value_digits.mono _ _)
      | (with_reducible exact LeO.refl _)
      | (with_reducible exact LeO.none _)
      | (with_reducible refine LeO.ite ?_ ?_)
      | (with_reducible refine LeO.bind ?_ (fun _ => ?_))
      | exact ih0 _ _
      | exact ih1 _ _ _
      | exact value_digits.mono _ _
      | exact LeO.none _
      | refine LeO.ite ?_ ?_
      | refine LeO.bind ?_ (fun _ => ?_)
theorem value_ParseOffset.mono : ∀ a0 k, LeO (value_ParseOffset.f k a0) (value_ParseOffset.f (k + 1) a0) := by
  intro a0 k
  obtain ⟨ih0, ih1⟩ := value_ParseOffset.mono_l k
  unfold value_ParseOffset.f
  repeat' first
      | (with_reducible exact ih0 _ _)
      | (with_reducible exact ih1 _ _ _)
      | (with_reducible exact value_digits.mono _ _)
      | (with_reducible exact LeO.refl _)
      | (with_reducible exact LeO.none _)
      | (with_reducible refine LeO.ite ?_ ?_)
      | (with_reducible refine LeO.bind ?_ (fun _ => ?_))
      | exact ih0 _ _
      | exact ih1 _ _ _
      | exact value_digits.mono _ _
      | exact LeO.none _
      | refine LeO.ite ?_ ?_
      | refine LeO.bind ?_ (fun _ => ?_)
set_option maxHeartbeats 8000000 in
set_option maxRecDepth 100000 in
theorem value_ParseOffset.calls (k : Nat) (a0 : ByteArray) (r1 : Int) (r2 : Int) (w : World) (h : value_ParseOffset.f k a0 = some (r1, r2)) :
    Calls Tryd.prog 14 #[.string a0] w fun e w' => e = .returned (.tuple #[.int .i64 r1, .int .i64 r2]) ∧ Drawn0 w w' := by
  have H : (if (a0.size : Int) = 5 then (if 0 < (a0.size : Int) then (if (bt a0 0) = 43 then (value_ParseOffset.j0 k a0 false) else (value_ParseOffset.j0 k a0 ((bt a0 0) != 45))) else (none)) else (if (a0.size : Int) = 7 then (if 0 < (a0.size : Int) then (if (bt a0 0) = 43 then (value_ParseOffset.j0 k a0 false) else (value_ParseOffset.j0 k a0 ((bt a0 0) != 45))) else (none)) else (value_ParseOffset.j0 k a0 true))) = some (r1, r2) := h
  clear h
  have HC2 := Aside0.mk H
  clear H
  go_enter Tryd.func14, Tryd.ntmps14
  go_upto_region 1 with (fail)
  go_cut [30] (fun v30 wc => ∃ (kq : Nat) (x30_1 : Bool), v30 = .bool x30_1 ∧ Aside0 (value_ParseOffset.j0 kq a0 x30_1 = some (r1, r2)) ∧ Aside0 (kq ≤ k) ∧ Drawn0 w wc)
  case first =>
    have H := HC2.out
    clear HC2
    by_cases c3 : (a0.size : Int) = 5
    · rw [if_pos c3] at H
      have c3b0 : ((a0.size : Int) == 5) = true := beq_iff_eq.mpr c3
      have c3b1 : ((a0.size : Int) != 5) = false := bne_eq_false_iff_eq.mpr c3
      clear c3
      (first | rw [c3b0] | (simp only [i64_w, i32_w]; rw [c3b0]) | skip)
      by_cases c4 : 0 < (a0.size : Int)
      · rw [if_pos c4] at H
        have c4b0 : decide (0 < (a0.size : Int)) = true := decide_eq_true c4
        have c4b1 : decide (0 < a0.size) = true := decide_eq_true (by omega)
        clear c4
        by_cases c6 : (bt a0 0) = 43
        · rw [if_pos c6] at H
          have c6b0 : ((bt a0 0) == 43) = true := beq_iff_eq.mpr c6
          have c6b1 : ((bt a0 0) != 43) = false := bne_eq_false_iff_eq.mpr c6
          clear c6
          have H' := Aside0.mk H
          clear H
          have p5 : 0 ≤ (0 : Int) := (by omega)
          have q5 : 0 < a0.size := (by have : (0 : Int) < (a0.size : Int) := of_decide_eq_true (by first | (with_reducible assumption) | assumption); omega)
          have hx5 : ∀ h : 0 < a0.size, ((a0[0]'h).toNat : Int) = bt a0 0 := bt_at a0 0
          clear p5
          have qi5 : (0 < (a0.size : Int)) = True := eq_true (of_decide_eq_true (by first | (with_reducible assumption) | assumption))
          replace q5 := eq_true q5
          go_wp2
          go_meet
          case rel => exact ⟨_, (false), (by first | rfl | (simp; done) | (simp [*]; done)), H', ⟨by first | omega | exact Nat.le_refl _⟩, by repeat (first | exact Drawn0.refl _ | apply Drawn0.step)⟩
        · rw [if_neg c6] at H
          have c6b0 : ((bt a0 0) == 43) = false := beq_eq_false_iff_ne.mpr c6
          have c6b1 : ((bt a0 0) != 43) = true := bne_iff_ne.mpr c6
          have H' := Aside0.mk H
          clear H
          have p5 : 0 ≤ (0 : Int) := (by omega)
          have q5 : 0 < a0.size := (by have : (0 : Int) < (a0.size : Int) := of_decide_eq_true (by first | (with_reducible assumption) | assumption); omega)
          have hx5 : ∀ h : 0 < a0.size, ((a0[0]'h).toNat : Int) = bt a0 0 := bt_at a0 0
          clear p5
          have qi5 : (0 < (a0.size : Int)) = True := eq_true (of_decide_eq_true (by first | (with_reducible assumption) | assumption))
          replace q5 := eq_true q5
          have p7 : 0 ≤ (0 : Int) := (by omega)
          have q7 : 0 < a0.size := (by have : (0 : Int) < (a0.size : Int) := of_decide_eq_true (by first | (with_reducible assumption) | assumption); omega)
          have hx7 : ∀ h : 0 < a0.size, ((a0[0]'h).toNat : Int) = bt a0 0 := bt_at a0 0
          clear p7
          have qi7 : (0 < (a0.size : Int)) = True := eq_true (of_decide_eq_true (by first | (with_reducible assumption) | assumption))
          replace q7 := eq_true q7
          go_wp2
          go_meet
          case rel => exact ⟨_, (((bt a0 0) != 45)), (by first | rfl | (simp; done) | (simp [*]; done)), H', ⟨by first | omega | exact Nat.le_refl _⟩, by repeat (first | exact Drawn0.refl _ | apply Drawn0.step)⟩
      · rw [if_neg c4] at H
        exact absurd H (by simp)
    · rw [if_neg c3] at H
      have c3b0 : ((a0.size : Int) == 5) = false := beq_eq_false_iff_ne.mpr c3
      have c3b1 : ((a0.size : Int) != 5) = true := bne_iff_ne.mpr c3
      (first | rw [c3b0] | (simp only [i64_w, i32_w]; rw [c3b0]) | skip)
      by_cases c8 : (a0.size : Int) = 7
      · rw [if_pos c8] at H
        have c8b0 : ((a0.size : Int) == 7) = true := beq_iff_eq.mpr c8
        have c8b1 : ((a0.size : Int) != 7) = false := bne_eq_false_iff_eq.mpr c8
        clear c8
        by_cases c9 : 0 < (a0.size : Int)
        · rw [if_pos c9] at H
          have c9b0 : decide (0 < (a0.size : Int)) = true := decide_eq_true c9
          have c9b1 : decide (0 < a0.size) = true := decide_eq_true (by omega)
          clear c9
          by_cases c11 : (bt a0 0) = 43
          · rw [if_pos c11] at H
            have c11b0 : ((bt a0 0) == 43) = true := beq_iff_eq.mpr c11
            have c11b1 : ((bt a0 0) != 43) = false := bne_eq_false_iff_eq.mpr c11
            clear c11
            have H' := Aside0.mk H
            clear H
            have p10 : 0 ≤ (0 : Int) := (by omega)
            have q10 : 0 < a0.size := (by have : (0 : Int) < (a0.size : Int) := of_decide_eq_true (by first | (with_reducible assumption) | assumption); omega)
            have hx10 : ∀ h : 0 < a0.size, ((a0[0]'h).toNat : Int) = bt a0 0 := bt_at a0 0
            clear p10
            have qi10 : (0 < (a0.size : Int)) = True := eq_true (of_decide_eq_true (by first | (with_reducible assumption) | assumption))
            replace q10 := eq_true q10
            go_wp2
            go_meet
            case rel => exact ⟨_, (false), (by first | rfl | (simp; done) | (simp [*]; done)), H', ⟨by first | omega | exact Nat.le_refl _⟩, by repeat (first | exact Drawn0.refl _ | apply Drawn0.step)⟩
          · rw [if_neg c11] at H
            have c11b0 : ((bt a0 0) == 43) = false := beq_eq_false_iff_ne.mpr c11
            have c11b1 : ((bt a0 0) != 43) = true := bne_iff_ne.mpr c11
            have H' := Aside0.mk H
            clear H
            have p10 : 0 ≤ (0 : Int) := (by omega)
            have q10 : 0 < a0.size := (by have : (0 : Int) < (a0.size : Int) := of_decide_eq_true (by first | (with_reducible assumption) | assumption); omega)
            have hx10 : ∀ h : 0 < a0.size, ((a0[0]'h).toNat : Int) = bt a0 0 := bt_at a0 0
            clear p10
            have qi10 : (0 < (a0.size : Int)) = True := eq_true (of_decide_eq_true (by first | (with_reducible assumption) | assumption))
            replace q10 := eq_true q10
            have p12 : 0 ≤ (0 : Int) := (by omega)
            have q12 : 0 < a0.size := (by have : (0 : Int) < (a0.size : Int) := of_decide_eq_true (by first | (with_reducible assumption) | assumption); omega)
            have hx12 : ∀ h : 0 < a0.size, ((a0[0]'h).toNat : Int) = bt a0 0 := bt_at a0 0
            clear p12
            have qi12 : (0 < (a0.size : Int)) = True := eq_true (of_decide_eq_true (by first | (with_reducible assumption) | assumption))
            replace q12 := eq_true q12
            go_wp2
            go_meet
            case rel => exact ⟨_, (((bt a0 0) != 45)), (by first | rfl | (simp; done) | (simp [*]; done)), H', ⟨by first | omega | exact Nat.le_refl _⟩, by repeat (first | exact Drawn0.refl _ | apply Drawn0.step)⟩
        · rw [if_neg c9] at H
          exact absurd H (by simp)
      · rw [if_neg c8] at H
        have c8b0 : ((a0.size : Int) == 7) = false := beq_eq_false_iff_ne.mpr c8
        have c8b1 : ((a0.size : Int) != 7) = true := bne_iff_ne.mpr c8
        have H' := Aside0.mk H
        clear H
        go_wp2
        go_meet
        case rel => exact ⟨_, (true), (by first | rfl | (simp; done) | (simp [*]; done)), H', ⟨by first | omega | exact Nat.le_refl _⟩, by repeat (first | exact Drawn0.refl _ | apply Drawn0.step)⟩
  case rest =>
    clear HC2
    try clear c1
    try clear p1
    try clear q1
    try clear hx1
    try clear qi1
    try clear p2
    try clear c3
    try clear c3b0
    try clear c3b1
    try clear c4
    try clear c4b0
    try clear c4b1
    try clear p5
    try clear q5
    try clear hx5
    try clear qi5
    try clear c6
    try clear c6b0
    try clear c6b1
    try clear p7
    try clear q7
    try clear hx7
    try clear qi7
    try clear c8
    try clear c8b0
    try clear c8b1
    try clear c9
    try clear c9b0
    try clear c9b1
    try clear p10
    try clear q10
    try clear hx10
    try clear qi10
    try clear c11
    try clear c11b0
    try clear c11b1
    try clear p12
    try clear q12
    try clear hx12
    try clear qi12
    try clear p10
    try clear p12
    try clear p5
    try clear p7
    try clear q10
    try clear q12
    try clear q5
    try clear q7
    obtain ⟨kq, x30_1, rfl, HA, HJ1, ⟨mc1, rfl⟩⟩ := hcut
    cases kq with
    | zero => exact absurd HA.out (by simp [value_ParseOffset.j0])
    | succ kj1 =>
      have H := HA.out
      clear HA
      simp only [value_ParseOffset.j0] at H
      by_cases c13 : x30_1 = true
      · subst c13
        have H1 : (some (0, 7)) = some (r1, r2) := by rw [if_pos rfl] at H; exact H
        clear H
        have H := H1
        clear H1
        simp only [Option.some.injEq, Prod.mk.injEq] at H
        obtain ⟨rfl, rfl⟩ := H
        go_wp2
        go_ret2
        exact ⟨by first | rfl | (simp; done) | (simp [*]; done) | (simp [bne_nil_]; done), by repeat (first | exact Drawn0.refl _ | apply Drawn0.step)⟩
      · replace c13 := Bool.eq_false_iff.mpr c13
        subst c13
        have H1 : (if 1 ≤ (a0.size : Int) then ((value_digits.f kj1 (a0.extract 1 a0.size)).bind fun bt150 => (if bt150.2 = true then (if 1 ≤ 3 then (if 3 ≤ (a0.size : Int) then ((value_digits.f kj1 (a0.extract 1 3)).bind fun bt152 => (if 3 ≤ 5 then (if 5 ≤ (a0.size : Int) then ((value_digits.f kj1 (a0.extract 3 5)).bind fun bt154 => ((value_digits.f kj1 (a0.extract 5 a0.size)).bind fun bt156 => (if bt152.1 > 23 then (value_ParseOffset.j1 kj1 a0 (wrap64 ((wrap64 ((wrap64 (3600 * bt152.1)) + (wrap64 (60 * bt154.1)))) + bt156.1)) true) else (if bt154.1 > 59 then (value_ParseOffset.j1 kj1 a0 (wrap64 ((wrap64 ((wrap64 (3600 * bt152.1)) + (wrap64 (60 * bt154.1)))) + bt156.1)) true) else (if bt156.1 > 59 then (value_ParseOffset.j1 kj1 a0 (wrap64 ((wrap64 ((wrap64 (3600 * bt152.1)) + (wrap64 (60 * bt154.1)))) + bt156.1)) true) else (if 0 < (a0.size : Int) then (if (bt a0 0) = 45 then (value_ParseOffset.j1 kj1 a0 (wrap64 ((wrap64 ((wrap64 (3600 * bt152.1)) + (wrap64 (60 * bt154.1)))) + bt156.1)) ((wrap64 ((wrap64 ((wrap64 (3600 * bt152.1)) + (wrap64 (60 * bt154.1)))) + bt156.1)) == 0)) else (value_ParseOffset.j1 kj1 a0 (wrap64 ((wrap64 ((wrap64 (3600 * bt152.1)) + (wrap64 (60 * bt154.1)))) + bt156.1)) false)) else (none))))))) else (none)) else (none))) else (none)) else (none)) else (some (0, 7)))) else (none)) = some (r1, r2) := by rw [if_neg (show ¬ (false = true) by decide)] at H; exact H
        clear H
        have H := H1
        clear H1
        by_cases c14 : 1 ≤ (a0.size : Int)
        · rw [if_pos c14] at H
          have c14b0 := eq_true c14
          have c14b1 : decide (1 ≤ (a0.size : Int)) = true := decide_eq_true c14
          clear c14
          replace H := Option.bind_eq_some_iff.mp H
          obtain ⟨⟨t150, t151⟩, A150, H⟩ := H
          replace H : (if t151 = true then (if 1 ≤ 3 then (if 3 ≤ (a0.size : Int) then ((value_digits.f kj1 (a0.extract 1 3)).bind fun bt152 => (if 3 ≤ 5 then (if 5 ≤ (a0.size : Int) then ((value_digits.f kj1 (a0.extract 3 5)).bind fun bt154 => ((value_digits.f kj1 (a0.extract 5 a0.size)).bind fun bt156 => (if bt152.1 > 23 then (value_ParseOffset.j1 kj1 a0 (wrap64 ((wrap64 ((wrap64 (3600 * bt152.1)) + (wrap64 (60 * bt154.1)))) + bt156.1)) true) else (if bt154.1 > 59 then (value_ParseOffset.j1 kj1 a0 (wrap64 ((wrap64 ((wrap64 (3600 * bt152.1)) + (wrap64 (60 * bt154.1)))) + bt156.1)) true) else (if bt156.1 > 59 then (value_ParseOffset.j1 kj1 a0 (wrap64 ((wrap64 ((wrap64 (3600 * bt152.1)) + (wrap64 (60 * bt154.1)))) + bt156.1)) true) else (if 0 < (a0.size : Int) then (if (bt a0 0) = 45 then (value_ParseOffset.j1 kj1 a0 (wrap64 ((wrap64 ((wrap64 (3600 * bt152.1)) + (wrap64 (60 * bt154.1)))) + bt156.1)) ((wrap64 ((wrap64 ((wrap64 (3600 * bt152.1)) + (wrap64 (60 * bt154.1)))) + bt156.1)) == 0)) else (value_ParseOffset.j1 kj1 a0 (wrap64 ((wrap64 ((wrap64 (3600 * bt152.1)) + (wrap64 (60 * bt154.1)))) + bt156.1)) false)) else (none))))))) else (none)) else (none))) else (none)) else (none)) else (some (0, 7))) = some (r1, r2) := H
          have A15 := Aside0.mk A150
          clear A150
          by_cases c16 : t151 = true
          · subst c16
            have H1 : (if 1 ≤ 3 then (if 3 ≤ (a0.size : Int) then ((value_digits.f kj1 (a0.extract 1 3)).bind fun bt152 => (if 3 ≤ 5 then (if 5 ≤ (a0.size : Int) then ((value_digits.f kj1 (a0.extract 3 5)).bind fun bt154 => ((value_digits.f kj1 (a0.extract 5 a0.size)).bind fun bt156 => (if bt152.1 > 23 then (value_ParseOffset.j1 kj1 a0 (wrap64 ((wrap64 ((wrap64 (3600 * bt152.1)) + (wrap64 (60 * bt154.1)))) + bt156.1)) true) else (if bt154.1 > 59 then (value_ParseOffset.j1 kj1 a0 (wrap64 ((wrap64 ((wrap64 (3600 * bt152.1)) + (wrap64 (60 * bt154.1)))) + bt156.1)) true) else (if bt156.1 > 59 then (value_ParseOffset.j1 kj1 a0 (wrap64 ((wrap64 ((wrap64 (3600 * bt152.1)) + (wrap64 (60 * bt154.1)))) + bt156.1)) true) else (if 0 < (a0.size : Int) then (if (bt a0 0) = 45 then (value_ParseOffset.j1 kj1 a0 (wrap64 ((wrap64 ((wrap64 (3600 * bt152.1)) + (wrap64 (60 * bt154.1)))) + bt156.1)) ((wrap64 ((wrap64 ((wrap64 (3600 * bt152.1)) + (wrap64 (60 * bt154.1)))) + bt156.1)) == 0)) else (value_ParseOffset.j1 kj1 a0 (wrap64 ((wrap64 ((wrap64 (3600 * bt152.1)) + (wrap64 (60 * bt154.1)))) + bt156.1)) false)) else (none))))))) else (none)) else (none))) else (none)) else (none)) = some (r1, r2) := by rw [if_pos rfl] at H; exact H
            clear H
            have H := H1
            clear H1
            by_cases c17 : 1 ≤ 3
            · rw [if_pos c17] at H
              have c17b0 := eq_true c17
              have c17b1 : decide (1 ≤ 3) = true := decide_eq_true c17
              clear c17
              by_cases c18 : 3 ≤ (a0.size : Int)
              · rw [if_pos c18] at H
                have c18b0 := eq_true c18
                have c18b1 : decide (3 ≤ (a0.size : Int)) = true := decide_eq_true c18
                clear c18
                replace H := Option.bind_eq_some_iff.mp H
                obtain ⟨⟨t152, t153⟩, A190, H⟩ := H
                replace H : (if 3 ≤ 5 then (if 5 ≤ (a0.size : Int) then ((value_digits.f kj1 (a0.extract 3 5)).bind fun bt154 => ((value_digits.f kj1 (a0.extract 5 a0.size)).bind fun bt156 => (if t152 > 23 then (value_ParseOffset.j1 kj1 a0 (wrap64 ((wrap64 ((wrap64 (3600 * t152)) + (wrap64 (60 * bt154.1)))) + bt156.1)) true) else (if bt154.1 > 59 then (value_ParseOffset.j1 kj1 a0 (wrap64 ((wrap64 ((wrap64 (3600 * t152)) + (wrap64 (60 * bt154.1)))) + bt156.1)) true) else (if bt156.1 > 59 then (value_ParseOffset.j1 kj1 a0 (wrap64 ((wrap64 ((wrap64 (3600 * t152)) + (wrap64 (60 * bt154.1)))) + bt156.1)) true) else (if 0 < (a0.size : Int) then (if (bt a0 0) = 45 then (value_ParseOffset.j1 kj1 a0 (wrap64 ((wrap64 ((wrap64 (3600 * t152)) + (wrap64 (60 * bt154.1)))) + bt156.1)) ((wrap64 ((wrap64 ((wrap64 (3600 * t152)) + (wrap64 (60 * bt154.1)))) + bt156.1)) == 0)) else (value_ParseOffset.j1 kj1 a0 (wrap64 ((wrap64 ((wrap64 (3600 * t152)) + (wrap64 (60 * bt154.1)))) + bt156.1)) false)) else (none))))))) else (none)) else (none)) = some (r1, r2) := H
                have A19 := Aside0.mk A190
                clear A190
                by_cases c20 : 3 ≤ 5
                · rw [if_pos c20] at H
                  have c20b0 := eq_true c20
                  have c20b1 : decide (3 ≤ 5) = true := decide_eq_true c20
                  clear c20
                  by_cases c21 : 5 ≤ (a0.size : Int)
                  · rw [if_pos c21] at H
                    have c21b0 := eq_true c21
                    have c21b1 : decide (5 ≤ (a0.size : Int)) = true := decide_eq_true c21
                    clear c21
                    replace H := Option.bind_eq_some_iff.mp H
                    obtain ⟨⟨t154, t155⟩, A220, H⟩ := H
                    replace H : ((value_digits.f kj1 (a0.extract 5 a0.size)).bind fun bt156 => (if t152 > 23 then (value_ParseOffset.j1 kj1 a0 (wrap64 ((wrap64 ((wrap64 (3600 * t152)) + (wrap64 (60 * t154)))) + bt156.1)) true) else (if t154 > 59 then (value_ParseOffset.j1 kj1 a0 (wrap64 ((wrap64 ((wrap64 (3600 * t152)) + (wrap64 (60 * t154)))) + bt156.1)) true) else (if bt156.1 > 59 then (value_ParseOffset.j1 kj1 a0 (wrap64 ((wrap64 ((wrap64 (3600 * t152)) + (wrap64 (60 * t154)))) + bt156.1)) true) else (if 0 < (a0.size : Int) then (if (bt a0 0) = 45 then (value_ParseOffset.j1 kj1 a0 (wrap64 ((wrap64 ((wrap64 (3600 * t152)) + (wrap64 (60 * t154)))) + bt156.1)) ((wrap64 ((wrap64 ((wrap64 (3600 * t152)) + (wrap64 (60 * t154)))) + bt156.1)) == 0)) else (value_ParseOffset.j1 kj1 a0 (wrap64 ((wrap64 ((wrap64 (3600 * t152)) + (wrap64 (60 * t154)))) + bt156.1)) false)) else (none)))))) = some (r1, r2) := H
                    have A22 := Aside0.mk A220
                    clear A220
                    have c23b0 := eq_true (of_decide_eq_true (by first | (with_reducible assumption) | assumption) : 5 ≤ (a0.size : Int))
                    replace H := Option.bind_eq_some_iff.mp H
                    obtain ⟨⟨t156, t157⟩, A240, H⟩ := H
                    replace H : (if t152 > 23 then (value_ParseOffset.j1 kj1 a0 (wrap64 ((wrap64 ((wrap64 (3600 * t152)) + (wrap64 (60 * t154)))) + t156)) true) else (if t154 > 59 then (value_ParseOffset.j1 kj1 a0 (wrap64 ((wrap64 ((wrap64 (3600 * t152)) + (wrap64 (60 * t154)))) + t156)) true) else (if t156 > 59 then (value_ParseOffset.j1 kj1 a0 (wrap64 ((wrap64 ((wrap64 (3600 * t152)) + (wrap64 (60 * t154)))) + t156)) true) else (if 0 < (a0.size : Int) then (if (bt a0 0) = 45 then (value_ParseOffset.j1 kj1 a0 (wrap64 ((wrap64 ((wrap64 (3600 * t152)) + (wrap64 (60 * t154)))) + t156)) ((wrap64 ((wrap64 ((wrap64 (3600 * t152)) + (wrap64 (60 * t154)))) + t156)) == 0)) else (value_ParseOffset.j1 kj1 a0 (wrap64 ((wrap64 ((wrap64 (3600 * t152)) + (wrap64 (60 * t154)))) + t156)) false)) else (none))))) = some (r1, r2) := H
                    have A24 := Aside0.mk A240
                    clear A240
                    have HC25 := Aside0.mk H
                    clear H
                    go_upto_region 10 with (first | ((with_reducible refine gate_callee (f := 27) rfl ?_); refine goesL_ (some 34) rfl rfl Tryd.func27 (by kernel_rfl) rfl #[.string (a0.extract 1 a0.size)] rfl (by (try simp only [List.map_toArray, List.map_cons, List.map_nil]); first | done | rfl | (simp only [List.length_drop, List.length_take]; rfl)) ?_; (with_reducible refine (value_digits.calls kj1 (a0.extract 1 a0.size) t150 true _ A15.out).mono ?_); rintro e w' ⟨rfl, ⟨nd, rfl⟩⟩; refine ⟨_, rfl, ?_⟩) | ((with_reducible refine gate_callee (f := 27) rfl ?_); refine goesL_ (some 42) rfl rfl Tryd.func27 (by kernel_rfl) rfl #[.string (a0.extract 1 3)] rfl (by (try simp only [List.map_toArray, List.map_cons, List.map_nil]); first | done | rfl | (simp only [List.length_drop, List.length_take]; rfl)) ?_; (with_reducible refine (value_digits.calls kj1 (a0.extract 1 3) t152 t153 _ A19.out).mono ?_); rintro e w' ⟨rfl, ⟨nd, rfl⟩⟩; refine ⟨_, rfl, ?_⟩) | ((with_reducible refine gate_callee (f := 27) rfl ?_); refine goesL_ (some 48) rfl rfl Tryd.func27 (by kernel_rfl) rfl #[.string (a0.extract 3 5)] rfl (by (try simp only [List.map_toArray, List.map_cons, List.map_nil]); first | done | rfl | (simp only [List.length_drop, List.length_take]; rfl)) ?_; (with_reducible refine (value_digits.calls kj1 (a0.extract 3 5) t154 t155 _ A22.out).mono ?_); rintro e w' ⟨rfl, ⟨nd, rfl⟩⟩; refine ⟨_, rfl, ?_⟩) | ((with_reducible refine gate_callee (f := 27) rfl ?_); refine goesL_ (some 54) rfl rfl Tryd.func27 (by kernel_rfl) rfl #[.string (a0.extract 5 a0.size)] rfl (by (try simp only [List.map_toArray, List.map_cons, List.map_nil]); first | done | rfl | (simp only [List.length_drop, List.length_take]; rfl)) ?_; (with_reducible refine (value_digits.calls kj1 (a0.extract 5 a0.size) t156 t157 _ A24.out).mono ?_); rintro e w' ⟨rfl, ⟨nd, rfl⟩⟩; refine ⟨_, rfl, ?_⟩))
                    (try simp only [Act.put, List.setIfInBounds_toArray, List.set_cons_zero, List.set_cons_succ])
                    go_cut [64] (fun v64 wc => ∃ (kq : Nat) (x64_24 : Bool), v64 = .bool x64_24 ∧ Aside0 (value_ParseOffset.j1 kq a0 (wrap64 ((wrap64 ((wrap64 (3600 * t152)) + (wrap64 (60 * t154)))) + t156)) x64_24 = some (r1, r2)) ∧ Aside0 (kq ≤ kj1) ∧ Drawn0 w wc)
                    case first =>
                      have H := HC25.out
                      clear HC25
                      by_cases c26 : t152 > 23
                      · rw [if_pos c26] at H
                        have c26b0 : decide (23 < t152) = true := decide_eq_true c26
                        clear c26
                        (first | rw [c26b0] | (simp only [i64_w, i32_w]; rw [c26b0]) | skip)
                        have H' := Aside0.mk H
                        clear H
                        go_wp2
                        go_meet
                        case rel => exact ⟨_, (true), (by first | rfl | (simp; done) | (simp [*]; done)), H', ⟨by have := HJ1.out; first | omega | exact Nat.le_refl _⟩, by repeat (first | exact Drawn0.refl _ | apply Drawn0.step)⟩
                      · rw [if_neg c26] at H
                        have c26b0 : decide (23 < t152) = false := decide_eq_false c26
                        clear c26
                        (first | rw [c26b0] | (simp only [i64_w, i32_w]; rw [c26b0]) | skip)
                        by_cases c27 : t154 > 59
                        · rw [if_pos c27] at H
                          have c27b0 : decide (59 < t154) = true := decide_eq_true c27
                          clear c27
                          have H' := Aside0.mk H
                          clear H
                          go_wp2
                          go_meet
                          case rel => exact ⟨_, (true), (by first | rfl | (simp; done) | (simp [*]; done)), H', ⟨by have := HJ1.out; first | omega | exact Nat.le_refl _⟩, by repeat (first | exact Drawn0.refl _ | apply Drawn0.step)⟩
                        · rw [if_neg c27] at H
                          have c27b0 : decide (59 < t154) = false := decide_eq_false c27
                          clear c27
                          by_cases c28 : t156 > 59
                          · rw [if_pos c28] at H
                            have c28b0 : decide (59 < t156) = true := decide_eq_true c28
                            clear c28
                            have H' := Aside0.mk H
                            clear H
                            go_wp2
                            go_meet
                            case rel => exact ⟨_, (true), (by first | rfl | (simp; done) | (simp [*]; done)), H', ⟨by have := HJ1.out; first | omega | exact Nat.le_refl _⟩, by repeat (first | exact Drawn0.refl _ | apply Drawn0.step)⟩
                          · rw [if_neg c28] at H
                            have c28b0 : decide (59 < t156) = false := decide_eq_false c28
                            clear c28
                            by_cases c29 : 0 < (a0.size : Int)
                            · rw [if_pos c29] at H
                              have c29b0 : decide (0 < (a0.size : Int)) = true := decide_eq_true c29
                              have c29b1 : decide (0 < a0.size) = true := decide_eq_true (by omega)
                              clear c29
                              by_cases c31 : (bt a0 0) = 45
                              · rw [if_pos c31] at H
                                have c31b0 : ((bt a0 0) == 45) = true := beq_iff_eq.mpr c31
                                have c31b1 : ((bt a0 0) != 45) = false := bne_eq_false_iff_eq.mpr c31
                                clear c31
                                have H' := Aside0.mk H
                                clear H
                                have p30 : 0 ≤ (0 : Int) := (by omega)
                                have q30 : 0 < a0.size := (by have : (0 : Int) < (a0.size : Int) := of_decide_eq_true (by first | (with_reducible assumption) | assumption); omega)
                                have hx30 : ∀ h : 0 < a0.size, ((a0[0]'h).toNat : Int) = bt a0 0 := bt_at a0 0
                                clear p30
                                have qi30 : (0 < (a0.size : Int)) = True := eq_true (of_decide_eq_true (by first | (with_reducible assumption) | assumption))
                                replace q30 := eq_true q30
                                go_wp2
                                go_meet
                                case rel => exact ⟨_, (((wrap64 ((wrap64 ((wrap64 (3600 * t152)) + (wrap64 (60 * t154)))) + t156)) == 0)), (by first | rfl | (simp; done) | (simp [*]; done)), H', ⟨by have := HJ1.out; first | omega | exact Nat.le_refl _⟩, by repeat (first | exact Drawn0.refl _ | apply Drawn0.step)⟩
                              · rw [if_neg c31] at H
                                have c31b0 : ((bt a0 0) == 45) = false := beq_eq_false_iff_ne.mpr c31
                                have c31b1 : ((bt a0 0) != 45) = true := bne_iff_ne.mpr c31
                                have H' := Aside0.mk H
                                clear H
                                have p30 : 0 ≤ (0 : Int) := (by omega)
                                have q30 : 0 < a0.size := (by have : (0 : Int) < (a0.size : Int) := of_decide_eq_true (by first | (with_reducible assumption) | assumption); omega)
                                have hx30 : ∀ h : 0 < a0.size, ((a0[0]'h).toNat : Int) = bt a0 0 := bt_at a0 0
                                clear p30
                                have qi30 : (0 < (a0.size : Int)) = True := eq_true (of_decide_eq_true (by first | (with_reducible assumption) | assumption))
                                replace q30 := eq_true q30
                                go_wp2
                                go_meet
                                case rel => exact ⟨_, (false), (by first | rfl | (simp; done) | (simp [*]; done)), H', ⟨by have := HJ1.out; first | omega | exact Nat.le_refl _⟩, by repeat (first | exact Drawn0.refl _ | apply Drawn0.step)⟩
                            · rw [if_neg c29] at H
                              exact absurd H (by simp)
                    case rest =>
                      clear HC25
                      try clear c1
                      try clear p1
                      try clear q1
                      try clear hx1
                      try clear qi1
                      try clear c2
                      try clear p2
                      try clear c3
                      try clear c3b0
                      try clear c3b1
                      try clear p3
                      try clear q3
                      try clear hx3
                      try clear qi3
                      try clear c4
                      try clear c4b0
                      try clear c4b1
                      try clear p5
                      try clear q5
                      try clear hx5
                      try clear qi5
                      try clear c6
                      try clear c6b0
                      try clear c6b1
                      try clear p6
                      try clear p7
                      try clear q7
                      try clear hx7
                      try clear qi7
                      try clear c8
                      try clear c8b0
                      try clear c8b1
                      try clear c9
                      try clear c9b0
                      try clear c9b1
                      try clear p10
                      try clear q10
                      try clear hx10
                      try clear qi10
                      try clear c11
                      try clear c11b0
                      try clear c11b1
                      try clear p12
                      try clear q12
                      try clear hx12
                      try clear qi12
                      try clear c13
                      try clear c14
                      try clear c14b0
                      try clear c14b1
                      try clear c16
                      try clear c17
                      try clear c17b0
                      try clear c17b1
                      try clear c18
                      try clear c18b0
                      try clear c18b1
                      try clear c20
                      try clear c20b0
                      try clear c20b1
                      try clear c21
                      try clear c21b0
                      try clear c21b1
                      try clear c23
                      try clear c23b0
                      try clear c26
                      try clear c26b0
                      try clear c27
                      try clear c27b0
                      try clear c28
                      try clear c28b0
                      try clear c29
                      try clear c29b0
                      try clear c29b1
                      try clear p30
                      try clear q30
                      try clear hx30
                      try clear qi30
                      try clear c31
                      try clear c31b0
                      try clear c31b1
                      try clear p1
                      try clear p10
                      try clear p12
                      try clear p2
                      try clear p30
                      try clear p5
                      try clear p7
                      try clear q1
                      try clear q10
                      try clear q12
                      try clear q30
                      try clear q5
                      try clear q7
                      obtain ⟨kq, x64_24, rfl, HA, HJ24, ⟨mc24, rfl⟩⟩ := hcut
                      cases kq with
                      | zero => exact absurd HA.out (by simp [value_ParseOffset.j1])
                      | succ kj24 =>
                        have H := HA.out
                        clear HA
                        simp only [value_ParseOffset.j1] at H
                        by_cases c32 : x64_24 = true
                        · subst c32
                          have H1 : (some (0, 7)) = some (r1, r2) := by rw [if_pos rfl] at H; exact H
                          clear H
                          have H := H1
                          clear H1
                          simp only [Option.some.injEq, Prod.mk.injEq] at H
                          obtain ⟨rfl, rfl⟩ := H
                          go_wp2
                          go_ret2
                          exact ⟨by first | rfl | (simp; done) | (simp [*]; done) | (simp [bne_nil_]; done), by repeat (first | exact Drawn0.refl _ | apply Drawn0.step)⟩
                        · replace c32 := Bool.eq_false_iff.mpr c32
                          subst c32
                          have H1 : (if 0 < (a0.size : Int) then (if (bt a0 0) = 45 then (some (wrap64 (-(wrap64 ((wrap64 ((wrap64 (3600 * t152)) + (wrap64 (60 * t154)))) + t156))), 0)) else (some ((wrap64 ((wrap64 ((wrap64 (3600 * t152)) + (wrap64 (60 * t154)))) + t156)), 0))) else (none)) = some (r1, r2) := by rw [if_neg (show ¬ (false = true) by decide)] at H; exact H
                          clear H
                          have H := H1
                          clear H1
                          by_cases c33 : 0 < (a0.size : Int)
                          · rw [if_pos c33] at H
                            have c33b0 : decide (0 < (a0.size : Int)) = true := decide_eq_true c33
                            have c33b1 : decide (0 < a0.size) = true := decide_eq_true (by omega)
                            clear c33
                            by_cases c35 : (bt a0 0) = 45
                            · rw [if_pos c35] at H
                              have c35b0 : ((bt a0 0) == 45) = true := beq_iff_eq.mpr c35
                              have c35b1 : ((bt a0 0) != 45) = false := bne_eq_false_iff_eq.mpr c35
                              clear c35
                              simp only [Option.some.injEq, Prod.mk.injEq] at H
                              obtain ⟨rfl, rfl⟩ := H
                              have p34 : 0 ≤ (0 : Int) := (by omega)
                              have q34 : 0 < a0.size := (by have : (0 : Int) < (a0.size : Int) := of_decide_eq_true (by first | (with_reducible assumption) | assumption); omega)
                              have hx34 : ∀ h : 0 < a0.size, ((a0[0]'h).toNat : Int) = bt a0 0 := bt_at a0 0
                              clear p34
                              have qi34 : (0 < (a0.size : Int)) = True := eq_true (of_decide_eq_true (by first | (with_reducible assumption) | assumption))
                              replace q34 := eq_true q34
                              go_wp2
                              go_ret2
                              exact ⟨by first | rfl | (simp; done) | (simp [*]; done) | (simp [bne_nil_]; done), by repeat (first | exact Drawn0.refl _ | apply Drawn0.step)⟩
                            · rw [if_neg c35] at H
                              have c35b0 : ((bt a0 0) == 45) = false := beq_eq_false_iff_ne.mpr c35
                              have c35b1 : ((bt a0 0) != 45) = true := bne_iff_ne.mpr c35
                              simp only [Option.some.injEq, Prod.mk.injEq] at H
                              obtain ⟨rfl, rfl⟩ := H
                              have p34 : 0 ≤ (0 : Int) := (by omega)
                              have q34 : 0 < a0.size := (by have : (0 : Int) < (a0.size : Int) := of_decide_eq_true (by first | (with_reducible assumption) | assumption); omega)
                              have hx34 : ∀ h : 0 < a0.size, ((a0[0]'h).toNat : Int) = bt a0 0 := bt_at a0 0
                              clear p34
                              have qi34 : (0 < (a0.size : Int)) = True := eq_true (of_decide_eq_true (by first | (with_reducible assumption) | assumption))
                              replace q34 := eq_true q34
                              go_wp2
                              go_ret2
                              exact ⟨by first | rfl | (simp; done) | (simp [*]; done) | (simp [bne_nil_]; done), by repeat (first | exact Drawn0.refl _ | apply Drawn0.step)⟩
                          · rw [if_neg c33] at H
                            exact absurd H (by simp)
                  · rw [if_neg c21] at H
                    exact absurd H (by simp)
                · rw [if_neg c20] at H
                  exact absurd H (by simp)
              · rw [if_neg c18] at H
                exact absurd H (by simp)
            · rw [if_neg c17] at H
              exact absurd H (by simp)
          · replace c16 := Bool.eq_false_iff.mpr c16
            subst c16
            have H1 : (some (0, 7)) = some (r1, r2) := by rw [if_neg (show ¬ (false = true) by decide)] at H; exact H
            clear H
            have H := H1
            clear H1
            simp only [Option.some.injEq, Prod.mk.injEq] at H
            obtain ⟨rfl, rfl⟩ := H
            go_wp2_with (first | ((with_reducible refine gate_callee (f := 27) rfl ?_); refine goesL_ (some 34) rfl rfl Tryd.func27 (by kernel_rfl) rfl #[.string (a0.extract 1 a0.size)] rfl (by (try simp only [List.map_toArray, List.map_cons, List.map_nil]); first | done | rfl | (simp only [List.length_drop, List.length_take]; rfl)) ?_; (with_reducible refine (value_digits.calls kj1 (a0.extract 1 a0.size) t150 false _ A15.out).mono ?_); rintro e w' ⟨rfl, ⟨nd, rfl⟩⟩; refine ⟨_, rfl, ?_⟩))
            go_ret2
            exact ⟨by first | rfl | (simp; done) | (simp [*]; done) | (simp [bne_nil_]; done), by repeat (first | exact Drawn0.refl _ | apply Drawn0.step)⟩
        · rw [if_neg c14] at H
          exact absurd H (by simp)

end Go.Proofs.YthppkdbelmolbaaDoor.Q
