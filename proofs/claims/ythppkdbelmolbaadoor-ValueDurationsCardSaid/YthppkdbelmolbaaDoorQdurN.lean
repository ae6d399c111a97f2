-- written by a program of this session (wip/own_print.sh)
import Derived.Test.YthppkdbelmolbaaDoorQ0
namespace Go.Proofs.YthppkdbelmolbaaDoor.Q
open Go.RowKit Go.Proofs.YthppkdbelmolbaaDoorW.PrintWords Go.Proofs.YthppkdbelmolbaaDoorW.PrintLast Go.Proofs.YthppkdbelmolbaaDoorW.PrintMore
attribute [local go_sem] max2_int min2_int max_two min_two max_three min_three max_four min_four   -- for this text's walks alone
set_option linter.unusedVariables false
set_option linter.unusedSimpArgs false

/-! ### trystref12_Number: function 46 -/
mutual
def trystref12_Number.l0 : Nat → Int → ByteArray → Option (ByteArray)
  | 0, _, _ => none
  | k + 1, x0, x3 => if x0 > 0 then ((some (([(wrap64 (48 + (Int.tmod x0 10))) % 256] : List Int) : List Int)).bind fun y401 => (if (strOfNums y401).size + x3.size ≤ 9223372036854775807 then (trystref12_Number.l0 k (wrap64 (Int.tdiv x0 10)) ((strOfNums y401) ++ x3)) else (none))) else (if x3.toList = ([] : List UInt8) then ((some (([(wrap64 (48 + (Int.tmod x0 10))) % 256] : List Int) : List Int)).bind fun y404 => (if (strOfNums y404).size + x3.size ≤ 9223372036854775807 then (trystref12_Number.l0 k (wrap64 (Int.tdiv x0 10)) ((strOfNums y404) ++ x3)) else (none))) else (some x3))
def trystref12_Number.f : Nat → Int → Option (ByteArray)
  | 0, _ => none
  | k + 1, a0 => if a0 < 0 then ((trystref12_Number.f k (wrap64 (-a0))).bind fun t400 => (if 1 + t400.size ≤ 9223372036854775807 then (some ((⟨#[45]⟩ : ByteArray) ++ t400)) else (none))) else (trystref12_Number.l0 k a0 (⟨#[]⟩ : ByteArray))
end
theorem trystref12_Number.mono_l : ∀ k, (∀ y0, LeO (trystref12_Number.f k y0) (trystref12_Number.f (k + 1) y0)) ∧ (∀ y0 y1, LeO (trystref12_Number.l0 k y0 y1) (trystref12_Number.l0 (k + 1) y0 y1))
  | 0 => ⟨fun _ r h => by simp [trystref12_Number.f] at h, fun _ _ r h => by simp [trystref12_Number.l0] at h⟩
  | k + 1 => by
    obtain ⟨ih0, ih1⟩ := trystref12_Number.mono_l k
    refine ⟨?_, ?_⟩
    · intro y0
      unfold trystref12_Number.f
      repeat' first
      | (with_reducible exact ih0 _)
      | (with_reducible exact ih1 _ _)
      | (with_reducible exact LeO.refl _)
      | (with_reducible exact LeO.none _)
      | (with_reducible refine LeO.ite ?_ ?_)
      | (with_reducible refine LeO.bind ?_ (fun _ => ?_))
      | exact ih0 _
      | exact ih1 _ _
      | exact LeO.none _
      | refine LeO.ite ?_ ?_
      | refine LeO.bind ?_ (fun _ => ?_)
    · intro y0 y1
      unfold trystref12_Number.l0
      repeat' first
      | (with_reducible exact ih0 _)
      | (with_reducible exact ih1 _ _)
      | (with_reducible exact LeO.refl _)
      | (with_reducible exact LeO.none _)
      | (with_reducible refine LeO.ite ?_ ?_)
      | (with_reducible refine LeO.bind ?_ (fun _ => ?_))
      | exact ih0 _
      | exact ih1 _ _
      | exact LeO.none _
      | refine LeO.ite ?_ ?_
      | refine LeO.bind ?_ (fun _ => ?_)
theorem trystref12_Number.mono : ∀ a0 k, LeO (trystref12_Number.f k a0) (trystref12_Number.f (k + 1) a0) := by
  intro a0 k
  obtain ⟨ih0, ih1⟩ := trystref12_Number.mono_l k
  exact ih0 a0
set_option maxHeartbeats 8000000 in
set_option maxRecDepth 100000 in
theorem trystref12_Number.calls (k : Nat) : ∀ (a0 : Int) (r : ByteArray) (w : World) (h : trystref12_Number.f k a0 = some r),
    Calls Tryd.prog 46 #[.int .i64 a0] w fun e w' => e = .returned (.string r) ∧ Below w.heap.size w w' := by
  induction k using Nat.strongRecOn with
  | _ k ih =>
  intro a0 r w h
  cases k with
  | zero => exact absurd h (by simp [trystref12_Number.f])
  | succ k =>
  simp only [trystref12_Number.f] at h
  have HB := Aside0.mk (Below.refl w.heap.size w)
  have H : (if a0 < 0 then ((trystref12_Number.f k (wrap64 (-a0))).bind fun t400 => (if 1 + t400.size ≤ 9223372036854775807 then (some ((⟨#[45]⟩ : ByteArray) ++ t400)) else (none))) else (trystref12_Number.l0 k a0 (⟨#[]⟩ : ByteArray))) = some r := h
  clear h
  by_cases c2 : a0 < 0
  · rw [if_pos c2] at H
    have c2b0 : decide (a0 < 0) = true := decide_eq_true c2
    clear c2
    replace H := Option.bind_eq_some_iff.mp H
    obtain ⟨t400, A30, H⟩ := H
    replace H : (if 1 + t400.size ≤ 9223372036854775807 then (some ((⟨#[45]⟩ : ByteArray) ++ t400)) else (none)) = some r := H
    have A3 := Aside0.mk A30
    clear A30
    by_cases c4 : 1 + t400.size ≤ 9223372036854775807
    · rw [if_pos c4] at H
      have c4b0 := eq_true c4
      have c4b1 : decide (1 + t400.size ≤ 9223372036854775807) = true := decide_eq_true c4
      try have c4b2 : (9223372036854775807 < 1 + t400.size) = False := eq_false (Nat.not_lt.2 c4)
      try (have c4b3 := c4b2; simp only [ByteArray.size_append, bs1_] at c4b3)
      obtain rfl := Option.some.inj H
      go_enter Tryd.func46, Tryd.ntmps46
      go_wp2_with (first | ((with_reducible refine gate_callee (f := 46) rfl ?_); refine goesL_ (some 8) rfl rfl Tryd.func46 (by kernel_rfl) rfl #[.int .i64 (wrap64 (-a0))] rfl (by (try simp only [List.map_toArray, List.map_cons, List.map_nil]); first | done | rfl | (simp only [List.length_drop, List.length_take]; rfl)) ?_; (with_reducible refine (ih k (by omega) (wrap64 (-a0)) t400 _ A3.out).mono ?_); rintro e w5 ⟨rfl, hb⟩; refine ⟨_, rfl, ?_⟩; have n0_ := Aside0.mk (below_step (by repeat (first | (with_reducible first | exact HB.out | apply below_alloc | apply pw_below_drewN | apply below_drew1) | exact HB.out)) hb); clear HB; have HB := n0_; clear n0_; (try clear hb); (try clear hb2); (try clear hk); (try clear hi)))
      go_ret
      exact ⟨by first | rfl | (simp [errW_none, errW_some] <;> rfl) | (simp [*, errW_none, errW_some] <;> rfl), by repeat (first | (with_reducible first | exact HB.out | apply below_alloc | apply pw_below_drewN | apply below_drew1) | exact HB.out)⟩
    · rw [if_neg c4] at H
      exact absurd H (by simp)
  · rw [if_neg c2] at H
    have c2b0 : decide (a0 < 0) = false := decide_eq_false c2
    clear c2
    have H' := Aside0.mk H
    clear H
    go_enter Tryd.func46, Tryd.ntmps46
    go_wp2
    go_loopg [0, 3] k (fun kq v0 v3 w' => ∃ (x0_1 : Int) (x3_1 : ByteArray), v0 = .int .i64 x0_1 ∧ v3 = .string x3_1 ∧ Aside0 (trystref12_Number.l0 kq x0_1 x3_1 = some r) ∧ Aside0 (kq ≤ k) ∧ Aside0 (Below w.heap.size w w'))
    case atStart => exact ⟨(a0), ((⟨#[]⟩ : ByteArray)), (by first | rfl | (simp; done) | (simp [*]; done)), (by first | rfl | (simp; done) | (simp [*]; done)), H', ⟨Nat.le_refl _⟩, ⟨by repeat (first | (with_reducible first | exact HB.out | apply below_alloc | apply pw_below_drewN | apply below_drew1) | exact HB.out)⟩⟩
    case round =>
      clear H'
      try clear c2
      try clear c2b0
      try clear p2
      try clear c4
      try clear c4b0
      try clear c4b1
      try clear c4b2
      obtain ⟨x0_1, x3_1, rfl, rfl, HA, HK1, HB⟩ := hrel
      cases gk with
      | zero => exact absurd HA.out (by simp [trystref12_Number.l0])
      | succ k1 =>
        have H := HA.out
        clear HA
        simp only [trystref12_Number.l0] at H
        by_cases c6 : x0_1 > 0
        · rw [if_pos c6] at H
          have c6b0 : decide (0 < x0_1) = true := decide_eq_true c6
          clear c6
          obtain ⟨y401, hy401⟩ : ∃ y_ : List Int, y_ = (([(wrap64 (48 + (Int.tmod x0_1 10))) % 256] : List Int)) := ⟨_, rfl⟩
          replace H : (if (strOfNums y401).size + x3_1.size ≤ 9223372036854775807 then (trystref12_Number.l0 k1 (wrap64 (Int.tdiv x0_1 10)) ((strOfNums y401) ++ x3_1)) else (none)) = some r := by first | (rw [hy401]; with_reducible exact H) | (have H2_ := (Option.bind_some _ _).symm.trans H; rw [hy401]; with_reducible exact H2_) | (have H2_ := (Option.bind_some _ _).symm.trans H; with_reducible exact H2_) | with_reducible exact H | (rw [hy401]; exact H) | exact H
          have Ny401 := Aside0.mk hy401
          clear hy401
          by_cases c7 : (strOfNums y401).size + x3_1.size ≤ 9223372036854775807
          · rw [if_pos c7] at H
            have c7b0 := eq_true c7
            have c7b1 : decide ((strOfNums y401).size + x3_1.size ≤ 9223372036854775807) = true := decide_eq_true c7
            try have c7b2 : (9223372036854775807 < (strOfNums y401).size + x3_1.size) = False := eq_false (Nat.not_lt.2 c7)
            try (have c7b3 := c7b2; simp only [ByteArray.size_append, bs1_] at c7b3)
            have H' := Aside0.mk H
            clear H
            go_wp2_with (first | ((with_reducible refine gate_dst (N := 20) rfl ?_); refine Kd.R_lit (Kd.int .u8) _ 5 ?hg (N := 20) ?hd (xs := ([(wrap64 (48 + (Int.tmod x0_1 10))) % 256] : List Int)) (inner := [.int .u8 ((wrap64 (48 + (Int.tmod x0_1 10))) % 256)]) (ok := fun _ => True) (okp := fun _ => True) ?hr ?hp (fun _ hk => hk) trivial (Below.refl _ _) (Nat.le_refl _) (by simp) ?_; (case hd => rfl); (case hg => rfl); (case hr => first | (go_simp; done) | (go_simp; rfl)); (case hp => exact (Reps.one (show Kd.M (Kd.int .u8) _ _ _ ((wrap64 (48 + (Int.tmod x0_1 10))) % 256) [.int .u8 ((wrap64 (48 + (Int.tmod x0_1 10))) % 256)] from rfl) (Reps.none _ _))); intro v402 w8 ho9 hb hg_ hnew_; clear hg_ hnew_; (first | rw [← Ny401.out] at ho9 | (simp only [Int.reduceToNat] at ho9; rw [← Ny401.out] at ho9)); have n0_ := Aside0.mk (Kd.R_lower ho9 (below_size (by repeat (first | (with_reducible first | exact HB.out | apply below_alloc | apply pw_below_drewN | apply below_drew1) | exact HB.out)))); have n1_ := Aside0.mk (below_step (by repeat (first | (with_reducible first | exact HB.out | apply below_alloc | apply pw_below_drewN | apply below_drew1) | exact HB.out)) hb); clear HB; have HO403 := n0_; have HB := n1_; clear n0_ n1_; clear hb ho9; have hcv10 := own_string (P := Tryd.prog) Tryd.underlying62 Tryd.underlying5 Tryd.underlying9 (Kd.own_of_R HO403.out)))
            go_roundg k1
            case measure => have := HK1.out; omega
            case rel => exact ⟨(wrap64 (Int.tdiv x0_1 10)), ((strOfNums y401) ++ x3_1), (by first | rfl | (simp; done) | (simp [*]; done)), (by first | rfl | (simp; done) | (simp [*]; done)), H', ⟨by have := HK1.out; omega⟩, ⟨by repeat (first | (with_reducible first | exact HB.out | apply below_alloc | apply pw_below_drewN | apply below_drew1) | exact HB.out)⟩⟩
          · rw [if_neg c7] at H
            exact absurd H (by simp)
        · rw [if_neg c6] at H
          have c6b0 : decide (0 < x0_1) = false := decide_eq_false c6
          clear c6
          by_cases c11 : x3_1.toList = ([] : List UInt8)
          · rw [if_pos c11] at H
            have c11b0 : (x3_1.toList == ([] : List UInt8)) = true := beq_iff_eq.mpr c11
            have c11b1 : (x3_1.toList != ([] : List UInt8)) = false := bne_eq_false_iff_eq.mpr c11
            clear c11
            obtain ⟨y404, hy404⟩ : ∃ y_ : List Int, y_ = (([(wrap64 (48 + (Int.tmod x0_1 10))) % 256] : List Int)) := ⟨_, rfl⟩
            replace H : (if (strOfNums y404).size + x3_1.size ≤ 9223372036854775807 then (trystref12_Number.l0 k1 (wrap64 (Int.tdiv x0_1 10)) ((strOfNums y404) ++ x3_1)) else (none)) = some r := by first | (rw [hy404]; with_reducible exact H) | (have H2_ := (Option.bind_some _ _).symm.trans H; rw [hy404]; with_reducible exact H2_) | (have H2_ := (Option.bind_some _ _).symm.trans H; with_reducible exact H2_) | with_reducible exact H | (rw [hy404]; exact H) | exact H
            have Ny404 := Aside0.mk hy404
            clear hy404
            by_cases c12 : (strOfNums y404).size + x3_1.size ≤ 9223372036854775807
            · rw [if_pos c12] at H
              have c12b0 := eq_true c12
              have c12b1 : decide ((strOfNums y404).size + x3_1.size ≤ 9223372036854775807) = true := decide_eq_true c12
              try have c12b2 : (9223372036854775807 < (strOfNums y404).size + x3_1.size) = False := eq_false (Nat.not_lt.2 c12)
              try (have c12b3 := c12b2; simp only [ByteArray.size_append, bs1_] at c12b3)
              have H' := Aside0.mk H
              clear H
              go_wp2_with (first | ((with_reducible refine gate_dst (N := 20) rfl ?_); refine Kd.R_lit (Kd.int .u8) _ 5 ?hg (N := 20) ?hd (xs := ([(wrap64 (48 + (Int.tmod x0_1 10))) % 256] : List Int)) (inner := [.int .u8 ((wrap64 (48 + (Int.tmod x0_1 10))) % 256)]) (ok := fun _ => True) (okp := fun _ => True) ?hr ?hp (fun _ hk => hk) trivial (Below.refl _ _) (Nat.le_refl _) (by simp) ?_; (case hd => rfl); (case hg => rfl); (case hr => first | (go_simp; done) | (go_simp; rfl)); (case hp => exact (Reps.one (show Kd.M (Kd.int .u8) _ _ _ ((wrap64 (48 + (Int.tmod x0_1 10))) % 256) [.int .u8 ((wrap64 (48 + (Int.tmod x0_1 10))) % 256)] from rfl) (Reps.none _ _))); intro v405 w13 ho14 hb hg_ hnew_; clear hg_ hnew_; (first | rw [← Ny404.out] at ho14 | (simp only [Int.reduceToNat] at ho14; rw [← Ny404.out] at ho14)); have n0_ := Aside0.mk (Kd.R_lower ho14 (below_size (by repeat (first | (with_reducible first | exact HB.out | apply below_alloc | apply pw_below_drewN | apply below_drew1) | exact HB.out)))); have n1_ := Aside0.mk (below_step (by repeat (first | (with_reducible first | exact HB.out | apply below_alloc | apply pw_below_drewN | apply below_drew1) | exact HB.out)) hb); clear HB; have HO406 := n0_; have HB := n1_; clear n0_ n1_; clear hb ho14; have hcv15 := own_string (P := Tryd.prog) Tryd.underlying62 Tryd.underlying5 Tryd.underlying9 (Kd.own_of_R HO406.out)))
              go_roundg k1
              case measure => have := HK1.out; omega
              case rel => exact ⟨(wrap64 (Int.tdiv x0_1 10)), ((strOfNums y404) ++ x3_1), (by first | rfl | (simp; done) | (simp [*]; done)), (by first | rfl | (simp; done) | (simp [*]; done)), H', ⟨by have := HK1.out; omega⟩, ⟨by repeat (first | (with_reducible first | exact HB.out | apply below_alloc | apply pw_below_drewN | apply below_drew1) | exact HB.out)⟩⟩
            · rw [if_neg c12] at H
              exact absurd H (by simp)
          · rw [if_neg c11] at H
            have c11b0 : (x3_1.toList == ([] : List UInt8)) = false := beq_eq_false_iff_ne.mpr c11
            have c11b1 : (x3_1.toList != ([] : List UInt8)) = true := bne_iff_ne.mpr c11
            obtain rfl := Option.some.inj H
            go_wp2
            go_ret
            exact ⟨by first | rfl | (simp [errW_none, errW_some] <;> rfl) | (simp [*, errW_none, errW_some] <;> rfl), by repeat (first | (with_reducible first | exact HB.out | apply below_alloc | apply pw_below_drewN | apply below_drew1) | exact HB.out)⟩

/-! ### trystref12_Duration: function 23 -/
mutual
def trystref12_Duration.j0 : Nat → Int → Bool → Option (ByteArray × Int)
  | 0, _, _ => none
  | k + 1, x0, x15 => if x15 = true then (some ((⟨#[]⟩ : ByteArray), 7)) else (if x0 < 0 then ((trystref12_Duration.f k (wrap64 (-x0))).bind fun bt407 => (if 1 + bt407.1.size ≤ 9223372036854775807 then (some ((⟨#[45]⟩ : ByteArray) ++ bt407.1, 0)) else (none))) else (if x0 = 0 then (some ((⟨#[80, 48, 68]⟩ : ByteArray), 0)) else (if (Int.tmod x0 604800) = 0 then ((trystref12_Number.f k (wrap64 (Int.tdiv x0 604800))).bind fun t409 => (if 1 + t409.size ≤ 9223372036854775807 then (if ((⟨#[80]⟩ : ByteArray) ++ t409).size + 1 ≤ 9223372036854775807 then (some (((⟨#[80]⟩ : ByteArray) ++ t409) ++ (⟨#[87]⟩ : ByteArray), 0)) else (none)) else (none))) else (if x0 ≥ 86400 then ((trystref12_Number.f k (wrap64 (Int.tdiv x0 86400))).bind fun t410 => (if 1 + t410.size ≤ 9223372036854775807 then (if ((⟨#[80]⟩ : ByteArray) ++ t410).size + 1 ≤ 9223372036854775807 then (trystref12_Duration.j1 k x0 (((⟨#[80]⟩ : ByteArray) ++ t410) ++ (⟨#[68]⟩ : ByteArray))) else (none)) else (none))) else (trystref12_Duration.j1 k x0 (⟨#[80]⟩ : ByteArray))))))
def trystref12_Duration.j1 : Nat → Int → ByteArray → Option (ByteArray × Int)
  | 0, _, _ => none
  | k + 1, x0, x6 => if (wrap64 ((wrap64 ((wrap64 (Int.tdiv (Int.tmod x0 86400) 3600)) + (wrap64 (Int.tdiv (Int.tmod x0 3600) 60)))) + (Int.tmod x0 60))) > 0 then (if x6.size + 1 ≤ 9223372036854775807 then (trystref12_Duration.j2 k (x6 ++ (⟨#[84]⟩ : ByteArray)) (wrap64 (Int.tdiv (Int.tmod x0 86400) 3600)) (wrap64 (Int.tdiv (Int.tmod x0 3600) 60)) (Int.tmod x0 60)) else (none)) else (trystref12_Duration.j2 k x6 (wrap64 (Int.tdiv (Int.tmod x0 86400) 3600)) (wrap64 (Int.tdiv (Int.tmod x0 3600) 60)) (Int.tmod x0 60))
def trystref12_Duration.j2 : Nat → ByteArray → Int → Int → Int → Option (ByteArray × Int)
  | 0, _, _, _, _ => none
  | k + 1, x6, x7, x8, x9 => if x7 > 0 then ((trystref12_Number.f k x7).bind fun t411 => (if x6.size + t411.size ≤ 9223372036854775807 then (if (x6 ++ t411).size + 1 ≤ 9223372036854775807 then (trystref12_Duration.j3 k ((x6 ++ t411) ++ (⟨#[72]⟩ : ByteArray)) x7 x8 x9) else (none)) else (none))) else (trystref12_Duration.j3 k x6 x7 x8 x9)
def trystref12_Duration.j3 : Nat → ByteArray → Int → Int → Int → Option (ByteArray × Int)
  | 0, _, _, _, _ => none
  | k + 1, x6, x7, x8, x9 => if x8 > 0 then (trystref12_Duration.j4 k x6 x8 x9 true) else (if x7 > 0 then (trystref12_Duration.j4 k x6 x8 x9 (decide (x9 > 0))) else (trystref12_Duration.j4 k x6 x8 x9 false))
def trystref12_Duration.j4 : Nat → ByteArray → Int → Int → Bool → Option (ByteArray × Int)
  | 0, _, _, _, _ => none
  | k + 1, x6, x8, x9, x76 => if x76 = true then ((trystref12_Number.f k x8).bind fun t412 => (if x6.size + t412.size ≤ 9223372036854775807 then (if (x6 ++ t412).size + 1 ≤ 9223372036854775807 then (if x9 > 0 then ((trystref12_Number.f k x9).bind fun t413 => (if ((x6 ++ t412) ++ (⟨#[77]⟩ : ByteArray)).size + t413.size ≤ 9223372036854775807 then (if (((x6 ++ t412) ++ (⟨#[77]⟩ : ByteArray)) ++ t413).size + 1 ≤ 9223372036854775807 then (some ((((x6 ++ t412) ++ (⟨#[77]⟩ : ByteArray)) ++ t413) ++ (⟨#[83]⟩ : ByteArray), 0)) else (none)) else (none))) else (some ((x6 ++ t412) ++ (⟨#[77]⟩ : ByteArray), 0))) else (none)) else (none))) else (if x9 > 0 then ((trystref12_Number.f k x9).bind fun t414 => (if x6.size + t414.size ≤ 9223372036854775807 then (if (x6 ++ t414).size + 1 ≤ 9223372036854775807 then (some ((x6 ++ t414) ++ (⟨#[83]⟩ : ByteArray), 0)) else (none)) else (none))) else (some (x6, 0)))
def trystref12_Duration.f : Nat → Int → Option (ByteArray × Int)
  | 0, _ => none
  | k + 1, a0 => if a0 < (-10000000000) then (trystref12_Duration.j0 k a0 true) else (trystref12_Duration.j0 k a0 (decide (a0 > 10000000000)))
end
theorem trystref12_Duration.mono_l : ∀ k, (∀ y0, LeO (trystref12_Duration.f k y0) (trystref12_Duration.f (k + 1) y0)) ∧ (∀ y0 y1, LeO (trystref12_Duration.j0 k y0 y1) (trystref12_Duration.j0 (k + 1) y0 y1)) ∧ (∀ y0 y1, LeO (trystref12_Duration.j1 k y0 y1) (trystref12_Duration.j1 (k + 1) y0 y1)) ∧ (∀ y0 y1 y2 y3, LeO (trystref12_Duration.j2 k y0 y1 y2 y3) (trystref12_Duration.j2 (k + 1) y0 y1 y2 y3)) ∧ (∀ y0 y1 y2 y3, LeO (trystref12_Duration.j3 k y0 y1 y2 y3) (trystref12_Duration.j3 (k + 1) y0 y1 y2 y3)) ∧ (∀ y0 y1 y2 y3, LeO (trystref12_Duration.j4 k y0 y1 y2 y3) (trystref12_Duration.j4 (k + 1) y0 y1 y2 y3))
  | 0 => ⟨fun _ r h => by simp [trystref12_Duration.f] at h, fun _ _ r h => by simp [trystref12_Duration.j0] at h, fun _ _ r h => by simp [trystref12_Duration.j1] at h, fun _ _ _ _ r h => by simp [trystref12_Duration.j2] at h, fun _ _ _ _ r h => by simp [trystref12_Duration.j3] at h, fun _ _ _ _ r h => by simp [trystref12_Duration.j4] at h⟩
  | k + 1 => by
    obtain ⟨ih0, ih1, ih2, ih3, ih4, ih5⟩ := trystref12_Duration.mono_l k
    refine ⟨?_, ?_, ?_, ?_, ?_, ?_⟩
    · intro y0
      unfold trystref12_Duration.f
      repeat' first
      | (with_reducible exact ih0 _)
      | (with_reducible exact ih1 _ _)
      | (with_reducible exact ih2 _ _)
      | (with_reducible exact ih3 _ _ _ _)
      | (with_reducible exact ih4 _ _ _ _)
      | (with_reducible exact ih5 _ _ _ _)
      | (with_reducible exact trystref12_Number.mono _ _)
      | (with_reducible exact LeO.refl _)
      | (with_reducible exact LeO.none _)
      | (with_reducible refine LeO.ite ?_ ?_)
      | (with_reducible refine LeO.bind ?_ (fun _ => ?_))
      | exact ih0 _
      | exact ih1 _ _
      | exact ih2 _ _
      | exact ih3 _ _ _ _
      | exact ih4 _ _ _ _
      | exact ih5 _ _ _ _
      | exact trystref12_Number.mono _ _
      | exact LeO.none _
      | refine LeO.ite ?_ ?_
      | refine LeO.bind ?_ (fun _ => ?_)
    · intro y0 y1
      unfold trystref12_Duration.j0
      repeat' first
      | (with_reducible exact ih0 _)
      | (with_reducible exact ih1 _ _)
      | (with_reducible exact ih2 _ _)
      | (with_reducible exact ih3 _ _ _ _)
      | (with_reducible exact ih4 _ _ _ _)
      | (with_reducible exact ih5 _ _ _ _)
      | (with_reducible exact trystref12_Number.mono _ _)
      | (with_reducible exact LeO.refl _)
      | (with_reducible exact LeO.none _)
      | (with_reducible refine LeO.ite ?_ ?_)
      | (with_reducible refine LeO.bind ?_ (fun _ => ?_))
      | exact ih0 _
      | exact ih1 _ _
      | exact ih2 _ _
      | exact ih3 _ _ _ _
      | exact ih4 _ _ _ _
      | exact ih5 _ _ _ _
      | exact trystref12_Number.mono _ _
      | exact LeO.none _
      | refine LeO.ite ?_ ?_
      | refine LeO.bind ?_ (fun _ => ?_)
    · intro y0 y1
      unfold trystref12_Duration.j1
      repeat' first
      | (with_reducible exact ih0 _)
      | (with_reducible exact ih1 _ _)
      | (with_reducible exact ih2 _ _)
      | (with_reducible exact ih3 _ _ _ _)
      | (with_reducible exact ih4 _ _ _ _)
      | (with_reducible exact ih5 _ _ _ _)
      | (with_reducible exact trystref12_Number.mono _ _)
      | (with_reducible exact LeO.refl _)
      | (with_reducible exact LeO.none _)
      | (with_reducible refine LeO.ite ?_ ?_)
      | (with_reducible refine LeO.bind ?_ (fun _ => ?_))
      | exact ih0 _
      | exact ih1 _ _
      | exact ih2 _ _
      | exact ih3 _ _ _ _
      | exact ih4 _ _ _ _
      | exact ih5 _ _ _ _
      | exact trystref12_Number.mono _ _
      | exact LeO.none _
      | refine LeO.ite ?_ ?_
      | refine LeO.bind ?_ (fun _ => ?_)
    · intro y0 y1 y2 y3
      unfold trystref12_Duration.j2
      repeat' first
      | (with_reducible exact ih0 _)
      | (with_reducible exact ih1 _ _)
      | (with_reducible exact ih2 _ _)
      | (with_reducible exact ih3 _ _ _ _)
      | (with_reducible exact ih4 _ _ _ _)
      | (with_reducible exact ih5 _ _ _ _)
      | (with_reducible exact trystref12_Number.mono _ _)
      | (with_reducible exact LeO.refl _)
      | (with_reducible exact LeO.none _)
      | (with_reducible refine LeO.ite ?_ ?_)
      | (with_reducible refine LeO.bind ?_ (fun _ => ?_))
      | exact ih0 _
      | exact ih1 _ _
      | exact ih2 _ _
      | exact ih3 _ _ _ _
      | exact ih4 _ _ _ _
      | exact ih5 _ _ _ _
      | exact trystref12_Number.mono _ _
      | exact LeO.none _
      | refine LeO.ite ?_ ?_
      | refine LeO.bind ?_ (fun _ => ?_)
    · intro y0 y1 y2 y3
      unfold trystref12_Duration.j3
      repeat' first
      | (with_reducible exact ih0 _)
      | (with_reducible exact ih1 _ _)
      | (with_reducible exact ih2 _ _)
      | (with_reducible exact ih3 _ _ _ _)
      | (with_reducible exact ih4 _ _ _ _)
      | (with_reducible exact ih5 _ _ _ _)
      | (with_reducible exact trystref12_Number.mono _ _)
      | (with_reducible exact LeO.refl _)
      | (with_reducible exact LeO.none _)
      | (with_reducible refine LeO.ite ?_ ?_)
      | (with_reducible refine LeO.bind ?_ (fun _ => ?_))
      | exact ih0 _
      | exact ih1 _ _
      | exact ih2 _ _
      | exact ih3 _ _ _ _
      | exact ih4 _ _ _ _
      | exact ih5 _ _ _ _
      | exact trystref12_Number.mono _ _
      | exact LeO.none _
      | refine LeO.ite ?_ ?_
      | refine LeO.bind ?_ (fun _ => ?_)
    · intro y0 y1 y2 y3
      unfold trystref12_Duration.j4
      repeat' first
      | (with_reducible exact ih0 _)
      | (with_reducible exact ih1 _ _)
      | (with_reducible exact ih2 _ _)
      | (with_reducible exact ih3 _ _ _ _)
      | (with_reducible exact ih4 _ _ _ _)
      | (with_reducible exact ih5 _ _ _ _)
      | (with_reducible exact trystref12_Number.mono _ _)
      | (with_reducible exact LeO.refl _)
      | (with_reducible exact LeO.none _)
      | (with_reducible refine LeO.ite ?_ ?_)
      | (with_reducible refine LeO.bind ?_ (fun _ => ?_))
      | exact ih0 _
      | exact ih1 _ _
      | exact ih2 _ _
      | exact ih3 _ _ _ _
      | exact ih4 _ _ _ _
      | exact ih5 _ _ _ _
      | exact trystref12_Number.mono _ _
      | exact LeO.none _
      | refine LeO.ite ?_ ?_
      | refine LeO.bind ?_ (fun _ => ?_)
theorem trystref12_Duration.mono : ∀ a0 k, LeO (trystref12_Duration.f k a0) (trystref12_Duration.f (k + 1) a0) := by
  intro a0 k
  obtain ⟨ih0, ih1, ih2, ih3, ih4, ih5⟩ := trystref12_Duration.mono_l k
  exact ih0 a0
set_option maxHeartbeats 8000000 in
set_option maxRecDepth 100000 in
theorem trystref12_Duration.calls (k : Nat) : ∀ (a0 : Int) (r1 : ByteArray) (r2 : Int) (w : World) (h : trystref12_Duration.f k a0 = some (r1, r2)),
    Calls Tryd.prog 23 #[.int .i64 a0] w fun e w' => e = .returned (.tuple #[.string r1, .int .i64 r2]) ∧ Below w.heap.size w w' := by
  induction k using Nat.strongRecOn with
  | _ k ih =>
  intro a0 r1 r2 w h
  cases k with
  | zero => exact absurd h (by simp [trystref12_Duration.f])
  | succ k =>
  simp only [trystref12_Duration.f] at h
  have HB := Aside0.mk (Below.refl w.heap.size w)
  have H : (if a0 < (-10000000000) then (trystref12_Duration.j0 k a0 true) else (trystref12_Duration.j0 k a0 (decide (a0 > 10000000000)))) = some (r1, r2) := h
  clear h
  have HC2 := Aside0.mk H
  clear H
  go_enter Tryd.func23, Tryd.ntmps23
  go_upto_region 1 with (fail)
  go_cut [15] (fun v15 wc => ∃ (kq : Nat) (x15_1 : Bool), v15 = .bool x15_1 ∧ Aside0 (trystref12_Duration.j0 kq a0 x15_1 = some (r1, r2)) ∧ Aside0 (kq ≤ k) ∧ Aside0 (Below w.heap.size w wc))
  case first =>
    have H := HC2.out
    clear HC2
    by_cases c3 : a0 < (-10000000000)
    · rw [if_pos c3] at H
      have c3b0 : decide (a0 < (-10000000000)) = true := decide_eq_true c3
      clear c3
      (first | rw [c3b0] | (simp only [i64_w, i32_w]; rw [c3b0]) | skip)
      have H' := Aside0.mk H
      clear H
      go_wp2
      go_meet
      case rel => exact ⟨_, (true), (by first | rfl | (simp; done) | (simp [*]; done)), H', ⟨by first | omega | exact Nat.le_refl _⟩, ⟨by repeat (first | (with_reducible first | exact HB.out | apply below_alloc | apply pw_below_drewN | apply below_drew1) | exact HB.out)⟩⟩
    · rw [if_neg c3] at H
      have c3b0 : decide (a0 < (-10000000000)) = false := decide_eq_false c3
      clear c3
      (first | rw [c3b0] | (simp only [i64_w, i32_w]; rw [c3b0]) | skip)
      have H' := Aside0.mk H
      clear H
      go_wp2
      go_meet
      case rel => exact ⟨_, (decide (a0 > 10000000000)), (by first | rfl | (simp; done) | (simp [*]; done)), H', ⟨by first | omega | exact Nat.le_refl _⟩, ⟨by repeat (first | (with_reducible first | exact HB.out | apply below_alloc | apply pw_below_drewN | apply below_drew1) | exact HB.out)⟩⟩
  case rest =>
    clear HC2
    try clear c2
    try clear p2
    try clear c3
    try clear c3b0
    obtain ⟨kq, x15_1, rfl, HA, HJ1, HB⟩ := hcut
    cases kq with
    | zero => exact absurd HA.out (by simp [trystref12_Duration.j0])
    | succ kj1 =>
      have H := HA.out
      clear HA
      simp only [trystref12_Duration.j0] at H
      by_cases c4 : x15_1 = true
      · subst c4
        have H1 : (some ((⟨#[]⟩ : ByteArray), 7)) = some (r1, r2) := by rw [if_pos rfl] at H; exact H
        clear H
        have H := H1
        clear H1
        simp only [Option.some.injEq, Prod.mk.injEq] at H
        obtain ⟨rfl, rfl⟩ := H
        go_wp2
        go_ret2
        exact ⟨by first | rfl | (simp [errW_none, errW_some] <;> rfl) | (simp [*, errW_none, errW_some] <;> rfl), by repeat (first | (with_reducible first | exact HB.out | apply below_alloc | apply pw_below_drewN | apply below_drew1) | exact HB.out)⟩
      · replace c4 := Bool.eq_false_iff.mpr c4
        subst c4
        have H1 : (if a0 < 0 then ((trystref12_Duration.f kj1 (wrap64 (-a0))).bind fun bt407 => (if 1 + bt407.1.size ≤ 9223372036854775807 then (some ((⟨#[45]⟩ : ByteArray) ++ bt407.1, 0)) else (none))) else (if a0 = 0 then (some ((⟨#[80, 48, 68]⟩ : ByteArray), 0)) else (if (Int.tmod a0 604800) = 0 then ((trystref12_Number.f kj1 (wrap64 (Int.tdiv a0 604800))).bind fun t409 => (if 1 + t409.size ≤ 9223372036854775807 then (if ((⟨#[80]⟩ : ByteArray) ++ t409).size + 1 ≤ 9223372036854775807 then (some (((⟨#[80]⟩ : ByteArray) ++ t409) ++ (⟨#[87]⟩ : ByteArray), 0)) else (none)) else (none))) else (if a0 ≥ 86400 then ((trystref12_Number.f kj1 (wrap64 (Int.tdiv a0 86400))).bind fun t410 => (if 1 + t410.size ≤ 9223372036854775807 then (if ((⟨#[80]⟩ : ByteArray) ++ t410).size + 1 ≤ 9223372036854775807 then (trystref12_Duration.j1 kj1 a0 (((⟨#[80]⟩ : ByteArray) ++ t410) ++ (⟨#[68]⟩ : ByteArray))) else (none)) else (none))) else (trystref12_Duration.j1 kj1 a0 (⟨#[80]⟩ : ByteArray)))))) = some (r1, r2) := by rw [if_neg (show ¬ (false = true) by decide)] at H; exact H
        clear H
        have H := H1
        clear H1
        by_cases c5 : a0 < 0
        · rw [if_pos c5] at H
          have c5b0 : decide (a0 < 0) = true := decide_eq_true c5
          clear c5
          replace H := Option.bind_eq_some_iff.mp H
          obtain ⟨⟨t407, t408⟩, A60, H⟩ := H
          replace H : (if 1 + t407.size ≤ 9223372036854775807 then (some ((⟨#[45]⟩ : ByteArray) ++ t407, 0)) else (none)) = some (r1, r2) := H
          have A6 := Aside0.mk A60
          clear A60
          by_cases c7 : 1 + t407.size ≤ 9223372036854775807
          · rw [if_pos c7] at H
            have c7b0 := eq_true c7
            have c7b1 : decide (1 + t407.size ≤ 9223372036854775807) = true := decide_eq_true c7
            try have c7b2 : (9223372036854775807 < 1 + t407.size) = False := eq_false (Nat.not_lt.2 c7)
            try (have c7b3 := c7b2; simp only [ByteArray.size_append, bs1_] at c7b3)
            simp only [Option.some.injEq, Prod.mk.injEq] at H
            obtain ⟨rfl, rfl⟩ := H
            go_wp2_with (first | ((with_reducible refine gate_callee (f := 23) rfl ?_); refine goesL_ (some 21) rfl rfl Tryd.func23 (by kernel_rfl) rfl #[.int .i64 (wrap64 (-a0))] rfl (by (try simp only [List.map_toArray, List.map_cons, List.map_nil]); first | done | rfl | (simp only [List.length_drop, List.length_take]; rfl)) ?_; (with_reducible refine (ih kj1 (by have := HJ1.out; omega) (wrap64 (-a0)) t407 t408 _ A6.out).mono ?_); rintro e w8 ⟨rfl, hb⟩; refine ⟨_, rfl, ?_⟩; have n0_ := Aside0.mk (below_step (by repeat (first | (with_reducible first | exact HB.out | apply below_alloc | apply pw_below_drewN | apply below_drew1) | exact HB.out)) hb); clear HB; have HB := n0_; clear n0_; (try clear hb); (try clear hb2); (try clear hk); (try clear hi)))
            go_ret2
            exact ⟨by first | rfl | (simp [errW_none, errW_some] <;> rfl) | (simp [*, errW_none, errW_some] <;> rfl), by repeat (first | (with_reducible first | exact HB.out | apply below_alloc | apply pw_below_drewN | apply below_drew1) | exact HB.out)⟩
          · rw [if_neg c7] at H
            exact absurd H (by simp)
        · rw [if_neg c5] at H
          have c5b0 : decide (a0 < 0) = false := decide_eq_false c5
          clear c5
          by_cases c9 : a0 = 0
          · rw [if_pos c9] at H
            have c9b0 : (a0 == 0) = true := beq_iff_eq.mpr c9
            have c9b1 : (a0 != 0) = false := bne_eq_false_iff_eq.mpr c9
            clear c9
            simp only [Option.some.injEq, Prod.mk.injEq] at H
            obtain ⟨rfl, rfl⟩ := H
            go_wp2
            go_ret2
            exact ⟨by first | rfl | (simp [errW_none, errW_some] <;> rfl) | (simp [*, errW_none, errW_some] <;> rfl), by repeat (first | (with_reducible first | exact HB.out | apply below_alloc | apply pw_below_drewN | apply below_drew1) | exact HB.out)⟩
          · rw [if_neg c9] at H
            have c9b0 : (a0 == 0) = false := beq_eq_false_iff_ne.mpr c9
            have c9b1 : (a0 != 0) = true := bne_iff_ne.mpr c9
            by_cases c10 : (Int.tmod a0 604800) = 0
            · rw [if_pos c10] at H
              have c10b0 : ((Int.tmod a0 604800) == 0) = true := beq_iff_eq.mpr c10
              have c10b1 : ((Int.tmod a0 604800) != 0) = false := bne_eq_false_iff_eq.mpr c10
              clear c10
              replace H := Option.bind_eq_some_iff.mp H
              obtain ⟨t409, A110, H⟩ := H
              replace H : (if 1 + t409.size ≤ 9223372036854775807 then (if ((⟨#[80]⟩ : ByteArray) ++ t409).size + 1 ≤ 9223372036854775807 then (some (((⟨#[80]⟩ : ByteArray) ++ t409) ++ (⟨#[87]⟩ : ByteArray), 0)) else (none)) else (none)) = some (r1, r2) := H
              have A11 := Aside0.mk A110
              clear A110
              by_cases c12 : 1 + t409.size ≤ 9223372036854775807
              · rw [if_pos c12] at H
                have c12b0 := eq_true c12
                have c12b1 : decide (1 + t409.size ≤ 9223372036854775807) = true := decide_eq_true c12
                try have c12b2 : (9223372036854775807 < 1 + t409.size) = False := eq_false (Nat.not_lt.2 c12)
                try (have c12b3 := c12b2; simp only [ByteArray.size_append, bs1_] at c12b3)
                by_cases c13 : ((⟨#[80]⟩ : ByteArray) ++ t409).size + 1 ≤ 9223372036854775807
                · rw [if_pos c13] at H
                  have c13b0 := eq_true c13
                  have c13b1 : decide (((⟨#[80]⟩ : ByteArray) ++ t409).size + 1 ≤ 9223372036854775807) = true := decide_eq_true c13
                  try have c13b2 : (9223372036854775807 < ((⟨#[80]⟩ : ByteArray) ++ t409).size + 1) = False := eq_false (Nat.not_lt.2 c13)
                  try (have c13b3 := c13b2; simp only [ByteArray.size_append, bs1_] at c13b3)
                  simp only [Option.some.injEq, Prod.mk.injEq] at H
                  obtain ⟨rfl, rfl⟩ := H
                  go_wp2_with (first | ((with_reducible refine gate_callee (f := 46) rfl ?_); refine goesL_ (some 33) rfl rfl Tryd.func46 (by kernel_rfl) rfl #[.int .i64 (wrap64 (Int.tdiv a0 604800))] rfl (by (try simp only [List.map_toArray, List.map_cons, List.map_nil]); first | done | rfl | (simp only [List.length_drop, List.length_take]; rfl)) ?_; (with_reducible refine (trystref12_Number.calls kj1 (wrap64 (Int.tdiv a0 604800)) t409 _ A11.out).mono ?_); rintro e w14 ⟨rfl, hb⟩; refine ⟨_, rfl, ?_⟩; have n0_ := Aside0.mk (below_step (by repeat (first | (with_reducible first | exact HB.out | apply below_alloc | apply pw_below_drewN | apply below_drew1) | exact HB.out)) hb); clear HB; have HB := n0_; clear n0_; (try clear hb); (try clear hb2); (try clear hk); (try clear hi)))
                  go_ret2
                  exact ⟨by first | rfl | (simp [errW_none, errW_some] <;> rfl) | (simp [*, errW_none, errW_some] <;> rfl), by repeat (first | (with_reducible first | exact HB.out | apply below_alloc | apply pw_below_drewN | apply below_drew1) | exact HB.out)⟩
                · rw [if_neg c13] at H
                  exact absurd H (by simp)
              · rw [if_neg c12] at H
                exact absurd H (by simp)
            · rw [if_neg c10] at H
              have c10b0 : ((Int.tmod a0 604800) == 0) = false := beq_eq_false_iff_ne.mpr c10
              have c10b1 : ((Int.tmod a0 604800) != 0) = true := bne_iff_ne.mpr c10
              have HC15 := Aside0.mk H
              clear H
              go_upto_if 37 with (fail)
              go_cut [6] (fun v6 wc => ∃ (kq : Nat) (x6_14 : ByteArray), v6 = .string x6_14 ∧ Aside0 (trystref12_Duration.j1 kq a0 x6_14 = some (r1, r2)) ∧ Aside0 (kq ≤ kj1) ∧ Aside0 (Below w.heap.size w wc))
              case first =>
                have H := HC15.out
                clear HC15
                by_cases c16 : a0 ≥ 86400
                · rw [if_pos c16] at H
                  have c16b0 : decide (86400 ≤ a0) = true := decide_eq_true c16
                  clear c16
                  (first | rw [c16b0] | (simp only [i64_w, i32_w]; rw [c16b0]) | skip)
                  replace H := Option.bind_eq_some_iff.mp H
                  obtain ⟨t410, A170, H⟩ := H
                  replace H : (if 1 + t410.size ≤ 9223372036854775807 then (if ((⟨#[80]⟩ : ByteArray) ++ t410).size + 1 ≤ 9223372036854775807 then (trystref12_Duration.j1 kj1 a0 (((⟨#[80]⟩ : ByteArray) ++ t410) ++ (⟨#[68]⟩ : ByteArray))) else (none)) else (none)) = some (r1, r2) := H
                  have A17 := Aside0.mk A170
                  clear A170
                  by_cases c18 : 1 + t410.size ≤ 9223372036854775807
                  · rw [if_pos c18] at H
                    have c18b0 := eq_true c18
                    have c18b1 : decide (1 + t410.size ≤ 9223372036854775807) = true := decide_eq_true c18
                    try have c18b2 : (9223372036854775807 < 1 + t410.size) = False := eq_false (Nat.not_lt.2 c18)
                    try (have c18b3 := c18b2; simp only [ByteArray.size_append, bs1_] at c18b3)
                    by_cases c19 : ((⟨#[80]⟩ : ByteArray) ++ t410).size + 1 ≤ 9223372036854775807
                    · rw [if_pos c19] at H
                      have c19b0 := eq_true c19
                      have c19b1 : decide (((⟨#[80]⟩ : ByteArray) ++ t410).size + 1 ≤ 9223372036854775807) = true := decide_eq_true c19
                      try have c19b2 : (9223372036854775807 < ((⟨#[80]⟩ : ByteArray) ++ t410).size + 1) = False := eq_false (Nat.not_lt.2 c19)
                      try (have c19b3 := c19b2; simp only [ByteArray.size_append, bs1_] at c19b3)
                      have H' := Aside0.mk H
                      clear H
                      go_wp2_with (first | ((with_reducible refine gate_callee (f := 46) rfl ?_); refine goesL_ (some 41) rfl rfl Tryd.func46 (by kernel_rfl) rfl #[.int .i64 (wrap64 (Int.tdiv a0 86400))] rfl (by (try simp only [List.map_toArray, List.map_cons, List.map_nil]); first | done | rfl | (simp only [List.length_drop, List.length_take]; rfl)) ?_; (with_reducible refine (trystref12_Number.calls kj1 (wrap64 (Int.tdiv a0 86400)) t410 _ A17.out).mono ?_); rintro e w20 ⟨rfl, hb⟩; refine ⟨_, rfl, ?_⟩; have n0_ := Aside0.mk (below_step (by repeat (first | (with_reducible first | exact HB.out | apply below_alloc | apply pw_below_drewN | apply below_drew1) | exact HB.out)) hb); clear HB; have HB := n0_; clear n0_; (try clear hb); (try clear hb2); (try clear hk); (try clear hi)))
                      go_meet
                      case rel => exact ⟨_, (((⟨#[80]⟩ : ByteArray) ++ t410) ++ (⟨#[68]⟩ : ByteArray)), (by first | rfl | (simp; done) | (simp [*]; done)), H', ⟨by have := HJ1.out; first | omega | exact Nat.le_refl _⟩, ⟨by repeat (first | (with_reducible first | exact HB.out | apply below_alloc | apply pw_below_drewN | apply below_drew1) | exact HB.out)⟩⟩
                    · rw [if_neg c19] at H
                      exact absurd H (by simp)
                  · rw [if_neg c18] at H
                    exact absurd H (by simp)
                · rw [if_neg c16] at H
                  have c16b0 : decide (86400 ≤ a0) = false := decide_eq_false c16
                  clear c16
                  (first | rw [c16b0] | (simp only [i64_w, i32_w]; rw [c16b0]) | skip)
                  have H' := Aside0.mk H
                  clear H
                  go_wp2
                  go_meet
                  case rel => exact ⟨_, ((⟨#[80]⟩ : ByteArray)), (by first | rfl | (simp; done) | (simp [*]; done)), H', ⟨by have := HJ1.out; first | omega | exact Nat.le_refl _⟩, ⟨by repeat (first | (with_reducible first | exact HB.out | apply below_alloc | apply pw_below_drewN | apply below_drew1) | exact HB.out)⟩⟩
              case rest =>
                clear HC15
                try clear c1
                try clear c2
                try clear p2
                try clear c3
                try clear c3b0
                try clear c4
                try clear c5
                try clear c5b0
                try clear p6
                try clear c7
                try clear c7b0
                try clear c7b1
                try clear c7b2
                try clear c9
                try clear c9b0
                try clear c9b1
                try clear c10
                try clear c10b0
                try clear c10b1
                try clear c12
                try clear c12b0
                try clear c12b1
                try clear c12b2
                try clear c13
                try clear c13b0
                try clear c13b1
                try clear c13b2
                try clear c16
                try clear c16b0
                try clear c18
                try clear c18b0
                try clear c18b1
                try clear c18b2
                try clear c19
                try clear c19b0
                try clear c19b1
                try clear c19b2
                try clear p2
                obtain ⟨kq, x6_14, rfl, HA, HJ14, HB⟩ := hcut
                cases kq with
                | zero => exact absurd HA.out (by simp [trystref12_Duration.j1])
                | succ kj14 =>
                  have H := HA.out
                  clear HA
                  simp only [trystref12_Duration.j1] at H
                  have HC21 := Aside0.mk H
                  clear H
                  go_upto_if 57 with (fail)
                  go_cut [6] (fun v6 wc => ∃ (kq : Nat) (x6_20 : ByteArray), v6 = .string x6_20 ∧ Aside0 (trystref12_Duration.j2 kq x6_20 (wrap64 (Int.tdiv (Int.tmod a0 86400) 3600)) (wrap64 (Int.tdiv (Int.tmod a0 3600) 60)) (Int.tmod a0 60) = some (r1, r2)) ∧ Aside0 (kq ≤ kj14) ∧ Aside0 (Below w.heap.size w wc))
                  case first =>
                    have H := HC21.out
                    clear HC21
                    by_cases c22 : (wrap64 ((wrap64 ((wrap64 (Int.tdiv (Int.tmod a0 86400) 3600)) + (wrap64 (Int.tdiv (Int.tmod a0 3600) 60)))) + (Int.tmod a0 60))) > 0
                    · rw [if_pos c22] at H
                      have c22b0 : decide (0 < (wrap64 ((wrap64 ((wrap64 (Int.tdiv (Int.tmod a0 86400) 3600)) + (wrap64 (Int.tdiv (Int.tmod a0 3600) 60)))) + (Int.tmod a0 60)))) = true := decide_eq_true c22
                      clear c22
                      (first | rw [c22b0] | (simp only [i64_w, i32_w]; rw [c22b0]) | skip)
                      by_cases c23 : x6_14.size + 1 ≤ 9223372036854775807
                      · rw [if_pos c23] at H
                        have c23b0 := eq_true c23
                        have c23b1 : decide (x6_14.size + 1 ≤ 9223372036854775807) = true := decide_eq_true c23
                        try have c23b2 : (9223372036854775807 < x6_14.size + 1) = False := eq_false (Nat.not_lt.2 c23)
                        try (have c23b3 := c23b2; simp only [ByteArray.size_append, bs1_] at c23b3)
                        have H' := Aside0.mk H
                        clear H
                        go_wp2
                        go_meet
                        case rel => exact ⟨_, (x6_14 ++ (⟨#[84]⟩ : ByteArray)), (by first | rfl | (simp; done) | (simp [*]; done)), H', ⟨by have := HJ1.out; have := HJ14.out; first | omega | exact Nat.le_refl _⟩, ⟨by repeat (first | (with_reducible first | exact HB.out | apply below_alloc | apply pw_below_drewN | apply below_drew1) | exact HB.out)⟩⟩
                      · rw [if_neg c23] at H
                        exact absurd H (by simp)
                    · rw [if_neg c22] at H
                      have c22b0 : decide (0 < (wrap64 ((wrap64 ((wrap64 (Int.tdiv (Int.tmod a0 86400) 3600)) + (wrap64 (Int.tdiv (Int.tmod a0 3600) 60)))) + (Int.tmod a0 60)))) = false := decide_eq_false c22
                      clear c22
                      (first | rw [c22b0] | (simp only [i64_w, i32_w]; rw [c22b0]) | skip)
                      have H' := Aside0.mk H
                      clear H
                      go_wp2
                      go_meet
                      case rel => exact ⟨_, (x6_14), (by first | rfl | (simp; done) | (simp [*]; done)), H', ⟨by have := HJ1.out; have := HJ14.out; first | omega | exact Nat.le_refl _⟩, ⟨by repeat (first | (with_reducible first | exact HB.out | apply below_alloc | apply pw_below_drewN | apply below_drew1) | exact HB.out)⟩⟩
                  case rest =>
                    clear HC21
                    try clear c1
                    try clear c2
                    try clear p2
                    try clear c3
                    try clear c3b0
                    try clear c4
                    try clear c5
                    try clear c5b0
                    try clear p6
                    try clear c7
                    try clear c7b0
                    try clear c7b1
                    try clear c7b2
                    try clear c9
                    try clear c9b0
                    try clear c9b1
                    try clear c10
                    try clear c10b0
                    try clear c10b1
                    try clear c12
                    try clear c12b0
                    try clear c12b1
                    try clear c12b2
                    try clear c13
                    try clear c13b0
                    try clear c13b1
                    try clear c13b2
                    try clear c16
                    try clear c16b0
                    try clear c18
                    try clear c18b0
                    try clear c18b1
                    try clear c18b2
                    try clear c19
                    try clear c19b0
                    try clear c19b1
                    try clear c19b2
                    try clear c22
                    try clear c22b0
                    try clear c23
                    try clear c23b0
                    try clear c23b1
                    try clear c23b2
                    try clear p2
                    try clear p6
                    obtain ⟨kq, x6_20, rfl, HA, HJ20, HB⟩ := hcut
                    cases kq with
                    | zero => exact absurd HA.out (by simp [trystref12_Duration.j2])
                    | succ kj20 =>
                      have H := HA.out
                      clear HA
                      simp only [trystref12_Duration.j2] at H
                      have HC24 := Aside0.mk H
                      clear H
                      go_upto_if 61 with (fail)
                      go_cut [6] (fun v6 wc => ∃ (kq : Nat) (x6_23 : ByteArray), v6 = .string x6_23 ∧ Aside0 (trystref12_Duration.j3 kq x6_23 (wrap64 (Int.tdiv (Int.tmod a0 86400) 3600)) (wrap64 (Int.tdiv (Int.tmod a0 3600) 60)) (Int.tmod a0 60) = some (r1, r2)) ∧ Aside0 (kq ≤ kj20) ∧ Aside0 (Below w.heap.size w wc))
                      case first =>
                        have H := HC24.out
                        clear HC24
                        by_cases c25 : (wrap64 (Int.tdiv (Int.tmod a0 86400) 3600)) > 0
                        · rw [if_pos c25] at H
                          have c25b0 : decide (0 < (wrap64 (Int.tdiv (Int.tmod a0 86400) 3600))) = true := decide_eq_true c25
                          clear c25
                          (first | rw [c25b0] | (simp only [i64_w, i32_w]; rw [c25b0]) | skip)
                          replace H := Option.bind_eq_some_iff.mp H
                          obtain ⟨t411, A260, H⟩ := H
                          replace H : (if x6_20.size + t411.size ≤ 9223372036854775807 then (if (x6_20 ++ t411).size + 1 ≤ 9223372036854775807 then (trystref12_Duration.j3 kj20 ((x6_20 ++ t411) ++ (⟨#[72]⟩ : ByteArray)) (wrap64 (Int.tdiv (Int.tmod a0 86400) 3600)) (wrap64 (Int.tdiv (Int.tmod a0 3600) 60)) (Int.tmod a0 60)) else (none)) else (none)) = some (r1, r2) := H
                          have A26 := Aside0.mk A260
                          clear A260
                          by_cases c27 : x6_20.size + t411.size ≤ 9223372036854775807
                          · rw [if_pos c27] at H
                            have c27b0 := eq_true c27
                            have c27b1 : decide (x6_20.size + t411.size ≤ 9223372036854775807) = true := decide_eq_true c27
                            try have c27b2 : (9223372036854775807 < x6_20.size + t411.size) = False := eq_false (Nat.not_lt.2 c27)
                            try (have c27b3 := c27b2; simp only [ByteArray.size_append, bs1_] at c27b3)
                            by_cases c28 : (x6_20 ++ t411).size + 1 ≤ 9223372036854775807
                            · rw [if_pos c28] at H
                              have c28b0 := eq_true c28
                              have c28b1 : decide ((x6_20 ++ t411).size + 1 ≤ 9223372036854775807) = true := decide_eq_true c28
                              try have c28b2 : (9223372036854775807 < (x6_20 ++ t411).size + 1) = False := eq_false (Nat.not_lt.2 c28)
                              try (have c28b3 := c28b2; simp only [ByteArray.size_append, bs1_] at c28b3)
                              have H' := Aside0.mk H
                              clear H
                              go_wp2_with (first | ((with_reducible refine gate_callee (f := 46) rfl ?_); refine goesL_ (some 64) rfl rfl Tryd.func46 (by kernel_rfl) rfl #[.int .i64 (wrap64 (Int.tdiv (Int.tmod a0 86400) 3600))] rfl (by (try simp only [List.map_toArray, List.map_cons, List.map_nil]); first | done | rfl | (simp only [List.length_drop, List.length_take]; rfl)) ?_; (with_reducible refine (trystref12_Number.calls kj20 (wrap64 (Int.tdiv (Int.tmod a0 86400) 3600)) t411 _ A26.out).mono ?_); rintro e w29 ⟨rfl, hb⟩; refine ⟨_, rfl, ?_⟩; have n0_ := Aside0.mk (below_step (by repeat (first | (with_reducible first | exact HB.out | apply below_alloc | apply pw_below_drewN | apply below_drew1) | exact HB.out)) hb); clear HB; have HB := n0_; clear n0_; (try clear hb); (try clear hb2); (try clear hk); (try clear hi)))
                              go_meet
                              case rel => exact ⟨_, ((x6_20 ++ t411) ++ (⟨#[72]⟩ : ByteArray)), (by first | rfl | (simp; done) | (simp [*]; done)), H', ⟨by have := HJ1.out; have := HJ14.out; have := HJ20.out; first | omega | exact Nat.le_refl _⟩, ⟨by repeat (first | (with_reducible first | exact HB.out | apply below_alloc | apply pw_below_drewN | apply below_drew1) | exact HB.out)⟩⟩
                            · rw [if_neg c28] at H
                              exact absurd H (by simp)
                          · rw [if_neg c27] at H
                            exact absurd H (by simp)
                        · rw [if_neg c25] at H
                          have c25b0 : decide (0 < (wrap64 (Int.tdiv (Int.tmod a0 86400) 3600))) = false := decide_eq_false c25
                          clear c25
                          (first | rw [c25b0] | (simp only [i64_w, i32_w]; rw [c25b0]) | skip)
                          have H' := Aside0.mk H
                          clear H
                          go_wp2
                          go_meet
                          case rel => exact ⟨_, (x6_20), (by first | rfl | (simp; done) | (simp [*]; done)), H', ⟨by have := HJ1.out; have := HJ14.out; have := HJ20.out; first | omega | exact Nat.le_refl _⟩, ⟨by repeat (first | (with_reducible first | exact HB.out | apply below_alloc | apply pw_below_drewN | apply below_drew1) | exact HB.out)⟩⟩
                      case rest =>
                        clear HC24
                        try clear c1
                        try clear c2
                        try clear p2
                        try clear c3
                        try clear c3b0
                        try clear c4
                        try clear c5
                        try clear c5b0
                        try clear p6
                        try clear c7
                        try clear c7b0
                        try clear c7b1
                        try clear c7b2
                        try clear c9
                        try clear c9b0
                        try clear c9b1
                        try clear c10
                        try clear c10b0
                        try clear c10b1
                        try clear c12
                        try clear c12b0
                        try clear c12b1
                        try clear c12b2
                        try clear c13
                        try clear c13b0
                        try clear c13b1
                        try clear c13b2
                        try clear c16
                        try clear c16b0
                        try clear c18
                        try clear c18b0
                        try clear c18b1
                        try clear c18b2
                        try clear c19
                        try clear c19b0
                        try clear c19b1
                        try clear c19b2
                        try clear c22
                        try clear c22b0
                        try clear c23
                        try clear c23b0
                        try clear c23b1
                        try clear c23b2
                        try clear c25
                        try clear c25b0
                        try clear c27
                        try clear c27b0
                        try clear c27b1
                        try clear c27b2
                        try clear c28
                        try clear c28b0
                        try clear c28b1
                        try clear c28b2
                        try clear p2
                        try clear p6
                        obtain ⟨kq, x6_23, rfl, HA, HJ23, HB⟩ := hcut
                        cases kq with
                        | zero => exact absurd HA.out (by simp [trystref12_Duration.j3])
                        | succ kj23 =>
                          have H := HA.out
                          clear HA
                          simp only [trystref12_Duration.j3] at H
                          have HC30 := Aside0.mk H
                          clear H
                          go_upto_region 18 with (fail)
                          go_cut [76] (fun v76 wc => ∃ (kq : Nat) (x76_29 : Bool), v76 = .bool x76_29 ∧ Aside0 (trystref12_Duration.j4 kq x6_23 (wrap64 (Int.tdiv (Int.tmod a0 3600) 60)) (Int.tmod a0 60) x76_29 = some (r1, r2)) ∧ Aside0 (kq ≤ kj23) ∧ Aside0 (Below w.heap.size w wc))
                          case first =>
                            have H := HC30.out
                            clear HC30
                            by_cases c31 : (wrap64 (Int.tdiv (Int.tmod a0 3600) 60)) > 0
                            · rw [if_pos c31] at H
                              have c31b0 : decide (0 < (wrap64 (Int.tdiv (Int.tmod a0 3600) 60))) = true := decide_eq_true c31
                              clear c31
                              (first | rw [c31b0] | (simp only [i64_w, i32_w]; rw [c31b0]) | skip)
                              have H' := Aside0.mk H
                              clear H
                              go_wp2
                              go_meet
                              case rel => exact ⟨_, (true), (by first | rfl | (simp; done) | (simp [*]; done)), H', ⟨by have := HJ1.out; have := HJ14.out; have := HJ20.out; have := HJ23.out; first | omega | exact Nat.le_refl _⟩, ⟨by repeat (first | (with_reducible first | exact HB.out | apply below_alloc | apply pw_below_drewN | apply below_drew1) | exact HB.out)⟩⟩
                            · rw [if_neg c31] at H
                              have c31b0 : decide (0 < (wrap64 (Int.tdiv (Int.tmod a0 3600) 60))) = false := decide_eq_false c31
                              clear c31
                              (first | rw [c31b0] | (simp only [i64_w, i32_w]; rw [c31b0]) | skip)
                              by_cases c32 : (wrap64 (Int.tdiv (Int.tmod a0 86400) 3600)) > 0
                              · rw [if_pos c32] at H
                                have c32b0 : decide (0 < (wrap64 (Int.tdiv (Int.tmod a0 86400) 3600))) = true := decide_eq_true c32
                                clear c32
                                have H' := Aside0.mk H
                                clear H
                                go_wp2
                                go_meet
                                case rel => exact ⟨_, (decide ((Int.tmod a0 60) > 0)), (by first | rfl | (simp; done) | (simp [*]; done)), H', ⟨by have := HJ1.out; have := HJ14.out; have := HJ20.out; have := HJ23.out; first | omega | exact Nat.le_refl _⟩, ⟨by repeat (first | (with_reducible first | exact HB.out | apply below_alloc | apply pw_below_drewN | apply below_drew1) | exact HB.out)⟩⟩
                              · rw [if_neg c32] at H
                                have c32b0 : decide (0 < (wrap64 (Int.tdiv (Int.tmod a0 86400) 3600))) = false := decide_eq_false c32
                                clear c32
                                have H' := Aside0.mk H
                                clear H
                                go_wp2
                                go_meet
                                case rel => exact ⟨_, (false), (by first | rfl | (simp; done) | (simp [*]; done)), H', ⟨by have := HJ1.out; have := HJ14.out; have := HJ20.out; have := HJ23.out; first | omega | exact Nat.le_refl _⟩, ⟨by repeat (first | (with_reducible first | exact HB.out | apply below_alloc | apply pw_below_drewN | apply below_drew1) | exact HB.out)⟩⟩
                          case rest =>
                            clear HC30
                            try clear c1
                            try clear c2
                            try clear p2
                            try clear c3
                            try clear c3b0
                            try clear c4
                            try clear c5
                            try clear c5b0
                            try clear p6
                            try clear c7
                            try clear c7b0
                            try clear c7b1
                            try clear c7b2
                            try clear c9
                            try clear c9b0
                            try clear c9b1
                            try clear c10
                            try clear c10b0
                            try clear c10b1
                            try clear c12
                            try clear c12b0
                            try clear c12b1
                            try clear c12b2
                            try clear c13
                            try clear c13b0
                            try clear c13b1
                            try clear c13b2
                            try clear c16
                            try clear c16b0
                            try clear c18
                            try clear c18b0
                            try clear c18b1
                            try clear c18b2
                            try clear c19
                            try clear c19b0
                            try clear c19b1
                            try clear c19b2
                            try clear c22
                            try clear c22b0
                            try clear c23
                            try clear c23b0
                            try clear c23b1
                            try clear c23b2
                            try clear c25
                            try clear c25b0
                            try clear c27
                            try clear c27b0
                            try clear c27b1
                            try clear c27b2
                            try clear c28
                            try clear c28b0
                            try clear c28b1
                            try clear c28b2
                            try clear c31
                            try clear c31b0
                            try clear c32
                            try clear c32b0
                            try clear p2
                            try clear p6
                            obtain ⟨kq, x76_29, rfl, HA, HJ29, HB⟩ := hcut
                            cases kq with
                            | zero => exact absurd HA.out (by simp [trystref12_Duration.j4])
                            | succ kj29 =>
                              have H := HA.out
                              clear HA
                              simp only [trystref12_Duration.j4] at H
                              by_cases c33 : x76_29 = true
                              · subst c33
                                have H1 : ((trystref12_Number.f kj29 (wrap64 (Int.tdiv (Int.tmod a0 3600) 60))).bind fun t412 => (if x6_23.size + t412.size ≤ 9223372036854775807 then (if (x6_23 ++ t412).size + 1 ≤ 9223372036854775807 then (if (Int.tmod a0 60) > 0 then ((trystref12_Number.f kj29 (Int.tmod a0 60)).bind fun t413 => (if ((x6_23 ++ t412) ++ (⟨#[77]⟩ : ByteArray)).size + t413.size ≤ 9223372036854775807 then (if (((x6_23 ++ t412) ++ (⟨#[77]⟩ : ByteArray)) ++ t413).size + 1 ≤ 9223372036854775807 then (some ((((x6_23 ++ t412) ++ (⟨#[77]⟩ : ByteArray)) ++ t413) ++ (⟨#[83]⟩ : ByteArray), 0)) else (none)) else (none))) else (some ((x6_23 ++ t412) ++ (⟨#[77]⟩ : ByteArray), 0))) else (none)) else (none))) = some (r1, r2) := by rw [if_pos rfl] at H; exact H
                                clear H
                                have H := H1
                                clear H1
                                replace H := Option.bind_eq_some_iff.mp H
                                obtain ⟨t412, A340, H⟩ := H
                                replace H : (if x6_23.size + t412.size ≤ 9223372036854775807 then (if (x6_23 ++ t412).size + 1 ≤ 9223372036854775807 then (if (Int.tmod a0 60) > 0 then ((trystref12_Number.f kj29 (Int.tmod a0 60)).bind fun t413 => (if ((x6_23 ++ t412) ++ (⟨#[77]⟩ : ByteArray)).size + t413.size ≤ 9223372036854775807 then (if (((x6_23 ++ t412) ++ (⟨#[77]⟩ : ByteArray)) ++ t413).size + 1 ≤ 9223372036854775807 then (some ((((x6_23 ++ t412) ++ (⟨#[77]⟩ : ByteArray)) ++ t413) ++ (⟨#[83]⟩ : ByteArray), 0)) else (none)) else (none))) else (some ((x6_23 ++ t412) ++ (⟨#[77]⟩ : ByteArray), 0))) else (none)) else (none)) = some (r1, r2) := H
                                have A34 := Aside0.mk A340
                                clear A340
                                by_cases c35 : x6_23.size + t412.size ≤ 9223372036854775807
                                · rw [if_pos c35] at H
                                  have c35b0 := eq_true c35
                                  have c35b1 : decide (x6_23.size + t412.size ≤ 9223372036854775807) = true := decide_eq_true c35
                                  try have c35b2 : (9223372036854775807 < x6_23.size + t412.size) = False := eq_false (Nat.not_lt.2 c35)
                                  try (have c35b3 := c35b2; simp only [ByteArray.size_append, bs1_] at c35b3)
                                  by_cases c36 : (x6_23 ++ t412).size + 1 ≤ 9223372036854775807
                                  · rw [if_pos c36] at H
                                    have c36b0 := eq_true c36
                                    have c36b1 : decide ((x6_23 ++ t412).size + 1 ≤ 9223372036854775807) = true := decide_eq_true c36
                                    try have c36b2 : (9223372036854775807 < (x6_23 ++ t412).size + 1) = False := eq_false (Nat.not_lt.2 c36)
                                    try (have c36b3 := c36b2; simp only [ByteArray.size_append, bs1_] at c36b3)
                                    by_cases c37 : (Int.tmod a0 60) > 0
                                    · rw [if_pos c37] at H
                                      have c37b0 : decide (0 < (Int.tmod a0 60)) = true := decide_eq_true c37
                                      clear c37
                                      replace H := Option.bind_eq_some_iff.mp H
                                      obtain ⟨t413, A380, H⟩ := H
                                      replace H : (if ((x6_23 ++ t412) ++ (⟨#[77]⟩ : ByteArray)).size + t413.size ≤ 9223372036854775807 then (if (((x6_23 ++ t412) ++ (⟨#[77]⟩ : ByteArray)) ++ t413).size + 1 ≤ 9223372036854775807 then (some ((((x6_23 ++ t412) ++ (⟨#[77]⟩ : ByteArray)) ++ t413) ++ (⟨#[83]⟩ : ByteArray), 0)) else (none)) else (none)) = some (r1, r2) := H
                                      have A38 := Aside0.mk A380
                                      clear A380
                                      by_cases c39 : ((x6_23 ++ t412) ++ (⟨#[77]⟩ : ByteArray)).size + t413.size ≤ 9223372036854775807
                                      · rw [if_pos c39] at H
                                        have c39b0 := eq_true c39
                                        have c39b1 : decide (((x6_23 ++ t412) ++ (⟨#[77]⟩ : ByteArray)).size + t413.size ≤ 9223372036854775807) = true := decide_eq_true c39
                                        try have c39b2 : (9223372036854775807 < ((x6_23 ++ t412) ++ (⟨#[77]⟩ : ByteArray)).size + t413.size) = False := eq_false (Nat.not_lt.2 c39)
                                        try (have c39b3 := c39b2; simp only [ByteArray.size_append, bs1_] at c39b3)
                                        by_cases c40 : (((x6_23 ++ t412) ++ (⟨#[77]⟩ : ByteArray)) ++ t413).size + 1 ≤ 9223372036854775807
                                        · rw [if_pos c40] at H
                                          have c40b0 := eq_true c40
                                          have c40b1 : decide ((((x6_23 ++ t412) ++ (⟨#[77]⟩ : ByteArray)) ++ t413).size + 1 ≤ 9223372036854775807) = true := decide_eq_true c40
                                          try have c40b2 : (9223372036854775807 < (((x6_23 ++ t412) ++ (⟨#[77]⟩ : ByteArray)) ++ t413).size + 1) = False := eq_false (Nat.not_lt.2 c40)
                                          try (have c40b3 := c40b2; simp only [ByteArray.size_append, bs1_] at c40b3)
                                          simp only [Option.some.injEq, Prod.mk.injEq] at H
                                          obtain ⟨rfl, rfl⟩ := H
                                          go_wp2_with (first | ((with_reducible refine gate_callee (f := 46) rfl ?_); refine goesL_ (some 79) rfl rfl Tryd.func46 (by kernel_rfl) rfl #[.int .i64 (wrap64 (Int.tdiv (Int.tmod a0 3600) 60))] rfl (by (try simp only [List.map_toArray, List.map_cons, List.map_nil]); first | done | rfl | (simp only [List.length_drop, List.length_take]; rfl)) ?_; (with_reducible refine (trystref12_Number.calls kj29 (wrap64 (Int.tdiv (Int.tmod a0 3600) 60)) t412 _ A34.out).mono ?_); rintro e w41 ⟨rfl, hb⟩; refine ⟨_, rfl, ?_⟩; have n0_ := Aside0.mk (below_step (by repeat (first | (with_reducible first | exact HB.out | apply below_alloc | apply pw_below_drewN | apply below_drew1) | exact HB.out)) hb); clear HB; have HB := n0_; clear n0_; (try clear hb); (try clear hb2); (try clear hk); (try clear hi)) | ((with_reducible refine gate_callee (f := 46) rfl ?_); refine goesL_ (some 86) rfl rfl Tryd.func46 (by kernel_rfl) rfl #[.int .i64 (Int.tmod a0 60)] rfl (by (try simp only [List.map_toArray, List.map_cons, List.map_nil]); first | done | rfl | (simp only [List.length_drop, List.length_take]; rfl)) ?_; (with_reducible refine (trystref12_Number.calls kj29 (Int.tmod a0 60) t413 _ A38.out).mono ?_); rintro e w42 ⟨rfl, hb⟩; refine ⟨_, rfl, ?_⟩; have n0_ := Aside0.mk (below_step (by repeat (first | (with_reducible first | exact HB.out | apply below_alloc | apply pw_below_drewN | apply below_drew1) | exact HB.out)) hb); clear HB; have HB := n0_; clear n0_; (try clear hb); (try clear hb2); (try clear hk); (try clear hi)))
                                          go_ret2
                                          exact ⟨by first | rfl | (simp [errW_none, errW_some] <;> rfl) | (simp [*, errW_none, errW_some] <;> rfl), by repeat (first | (with_reducible first | exact HB.out | apply below_alloc | apply pw_below_drewN | apply below_drew1) | exact HB.out)⟩
                                        · rw [if_neg c40] at H
                                          exact absurd H (by simp)
                                      · rw [if_neg c39] at H
                                        exact absurd H (by simp)
                                    · rw [if_neg c37] at H
                                      have c37b0 : decide (0 < (Int.tmod a0 60)) = false := decide_eq_false c37
                                      clear c37
                                      simp only [Option.some.injEq, Prod.mk.injEq] at H
                                      obtain ⟨rfl, rfl⟩ := H
                                      go_wp2_with (first | ((with_reducible refine gate_callee (f := 46) rfl ?_); refine goesL_ (some 79) rfl rfl Tryd.func46 (by kernel_rfl) rfl #[.int .i64 (wrap64 (Int.tdiv (Int.tmod a0 3600) 60))] rfl (by (try simp only [List.map_toArray, List.map_cons, List.map_nil]); first | done | rfl | (simp only [List.length_drop, List.length_take]; rfl)) ?_; (with_reducible refine (trystref12_Number.calls kj29 (wrap64 (Int.tdiv (Int.tmod a0 3600) 60)) t412 _ A34.out).mono ?_); rintro e w43 ⟨rfl, hb⟩; refine ⟨_, rfl, ?_⟩; have n0_ := Aside0.mk (below_step (by repeat (first | (with_reducible first | exact HB.out | apply below_alloc | apply pw_below_drewN | apply below_drew1) | exact HB.out)) hb); clear HB; have HB := n0_; clear n0_; (try clear hb); (try clear hb2); (try clear hk); (try clear hi)))
                                      go_ret2
                                      exact ⟨by first | rfl | (simp [errW_none, errW_some] <;> rfl) | (simp [*, errW_none, errW_some] <;> rfl), by repeat (first | (with_reducible first | exact HB.out | apply below_alloc | apply pw_below_drewN | apply below_drew1) | exact HB.out)⟩
                                  · rw [if_neg c36] at H
                                    exact absurd H (by simp)
                                · rw [if_neg c35] at H
                                  exact absurd H (by simp)
                              · replace c33 := Bool.eq_false_iff.mpr c33
                                subst c33
                                have H1 : (if (Int.tmod a0 60) > 0 then ((trystref12_Number.f kj29 (Int.tmod a0 60)).bind fun t414 => (if x6_23.size + t414.size ≤ 9223372036854775807 then (if (x6_23 ++ t414).size + 1 ≤ 9223372036854775807 then (some ((x6_23 ++ t414) ++ (⟨#[83]⟩ : ByteArray), 0)) else (none)) else (none))) else (some (x6_23, 0))) = some (r1, r2) := by rw [if_neg (show ¬ (false = true) by decide)] at H; exact H
                                clear H
                                have H := H1
                                clear H1
                                by_cases c44 : (Int.tmod a0 60) > 0
                                · rw [if_pos c44] at H
                                  have c44b0 : decide (0 < (Int.tmod a0 60)) = true := decide_eq_true c44
                                  clear c44
                                  replace H := Option.bind_eq_some_iff.mp H
                                  obtain ⟨t414, A450, H⟩ := H
                                  replace H : (if x6_23.size + t414.size ≤ 9223372036854775807 then (if (x6_23 ++ t414).size + 1 ≤ 9223372036854775807 then (some ((x6_23 ++ t414) ++ (⟨#[83]⟩ : ByteArray), 0)) else (none)) else (none)) = some (r1, r2) := H
                                  have A45 := Aside0.mk A450
                                  clear A450
                                  by_cases c46 : x6_23.size + t414.size ≤ 9223372036854775807
                                  · rw [if_pos c46] at H
                                    have c46b0 := eq_true c46
                                    have c46b1 : decide (x6_23.size + t414.size ≤ 9223372036854775807) = true := decide_eq_true c46
                                    try have c46b2 : (9223372036854775807 < x6_23.size + t414.size) = False := eq_false (Nat.not_lt.2 c46)
                                    try (have c46b3 := c46b2; simp only [ByteArray.size_append, bs1_] at c46b3)
                                    by_cases c47 : (x6_23 ++ t414).size + 1 ≤ 9223372036854775807
                                    · rw [if_pos c47] at H
                                      have c47b0 := eq_true c47
                                      have c47b1 : decide ((x6_23 ++ t414).size + 1 ≤ 9223372036854775807) = true := decide_eq_true c47
                                      try have c47b2 : (9223372036854775807 < (x6_23 ++ t414).size + 1) = False := eq_false (Nat.not_lt.2 c47)
                                      try (have c47b3 := c47b2; simp only [ByteArray.size_append, bs1_] at c47b3)
                                      simp only [Option.some.injEq, Prod.mk.injEq] at H
                                      obtain ⟨rfl, rfl⟩ := H
                                      go_wp2_with (first | ((with_reducible refine gate_callee (f := 46) rfl ?_); refine goesL_ (some 86) rfl rfl Tryd.func46 (by kernel_rfl) rfl #[.int .i64 (Int.tmod a0 60)] rfl (by (try simp only [List.map_toArray, List.map_cons, List.map_nil]); first | done | rfl | (simp only [List.length_drop, List.length_take]; rfl)) ?_; (with_reducible refine (trystref12_Number.calls kj29 (Int.tmod a0 60) t414 _ A45.out).mono ?_); rintro e w48 ⟨rfl, hb⟩; refine ⟨_, rfl, ?_⟩; have n0_ := Aside0.mk (below_step (by repeat (first | (with_reducible first | exact HB.out | apply below_alloc | apply pw_below_drewN | apply below_drew1) | exact HB.out)) hb); clear HB; have HB := n0_; clear n0_; (try clear hb); (try clear hb2); (try clear hk); (try clear hi)))
                                      go_ret2
                                      exact ⟨by first | rfl | (simp [errW_none, errW_some] <;> rfl) | (simp [*, errW_none, errW_some] <;> rfl), by repeat (first | (with_reducible first | exact HB.out | apply below_alloc | apply pw_below_drewN | apply below_drew1) | exact HB.out)⟩
                                    · rw [if_neg c47] at H
                                      exact absurd H (by simp)
                                  · rw [if_neg c46] at H
                                    exact absurd H (by simp)
                                · rw [if_neg c44] at H
                                  have c44b0 : decide (0 < (Int.tmod a0 60)) = false := decide_eq_false c44
                                  clear c44
                                  simp only [Option.some.injEq, Prod.mk.injEq] at H
                                  obtain ⟨rfl, rfl⟩ := H
                                  go_wp2
                                  go_ret2
                                  exact ⟨by first | rfl | (simp [errW_none, errW_some] <;> rfl) | (simp [*, errW_none, errW_some] <;> rfl), by repeat (first | (with_reducible first | exact HB.out | apply below_alloc | apply pw_below_drewN | apply below_drew1) | exact HB.out)⟩

end Go.Proofs.YthppkdbelmolbaaDoor.Q
