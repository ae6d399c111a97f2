-- written by a program of this session (wip/own_print.sh)
import Derived.Test.YtabopabcehcdaaaQ0
import Derived.Test.YtabopabcehcdaaaQ1
import Derived.Test.YtabopabcehcdaaaQrataA
import Derived.Test.YtabopabcehcdaaaQrataB
import Derived.Test.YtabopabcehcdaaaQrataC
namespace Go.Proofs.Ytabopabcehcdaaa.Q
open Go.RowKit Go.Proofs.YtabopabcehcdaaaW.PrintWords Go.Proofs.YtabopabcehcdaaaW.PrintLast Go.Proofs.YtabopabcehcdaaaW.PrintMore
attribute [local go_sem] max2_int min2_int max_two min_two max_three min_three max_four min_four   -- for this text's walks alone
set_option linter.unusedVariables false
set_option linter.unusedSimpArgs false

attribute [local go_sem high] eqA23
/-! ### trystlaw01_RataNext: function 11 -/
mutual
def trystlaw01_RataNext.j0 : Nat → Int → Bool → Option (Bool)
  | 0, _, _ => none
  | k + 1, x0, x16 => if x16 = true then ((trystlaw01_awake.f k).bind fun t306 => (some t306)) else ((rata_Date.f k x0).bind fun bt307 => ((rata_Date.f k (wrap64 (x0 + 1))).bind fun bt312 => (if bt307.2.2.2 = 0 then (if bt312.2.2.2 = 0 then ((rata_Weekday.f x0).bind fun t317 => ((rata_Weekday.f (wrap64 (x0 + 1))).bind fun t318 => (trystlaw01_RataNext.j1 k ((Int.tmod (wrap64 (t317 + 1)) 7) != t318) bt307.1 bt307.2.1 bt307.2.2.1 bt312.1 bt312.2.1 bt312.2.2.1))) else (trystlaw01_RataNext.j1 k true bt307.1 bt307.2.1 bt307.2.2.1 bt312.1 bt312.2.1 bt312.2.2.1)) else (trystlaw01_RataNext.j1 k true bt307.1 bt307.2.1 bt307.2.2.1 bt312.1 bt312.2.1 bt312.2.2.1))))
def trystlaw01_RataNext.j1 : Nat → Bool → Int → Int → Int → Int → Int → Int → Option (Bool)
  | 0, _, _, _, _, _, _, _ => none
  | k + 1, x44, x312000, x312001, x312002, x317000, x317001, x317002 => if x44 = true then (some false) else ((rata_Length.f k x312000 x312001).bind fun t319 => (if x312002 < t319 then (some (x317000 == x312000 && (x317001 == x312001 && (x317002 == (wrap64 (x312002 + 1)))))) else (if x312001 < 12 then (some (x317000 == x312000 && (x317001 == (wrap64 (x312001 + 1)) && (x317002 == 1)))) else (some (x317000 == (wrap64 (x312000 + 1)) && (x317001 == 1 && (x317002 == 1)))))))
end
def trystlaw01_RataNext.f (k : Nat) (a0 : Int) : Option (Bool) := (trystlaw01_awake.f k).bind fun t305 => (if t305 = true then (if a0 < 1 then (trystlaw01_RataNext.j0 k a0 true) else (trystlaw01_RataNext.j0 k a0 (decide (a0 ≥ 3652059)))) else (trystlaw01_RataNext.j0 k a0 true))
theorem trystlaw01_RataNext.mono_l : ∀ k, (∀ y0 y1, LeO (trystlaw01_RataNext.j0 k y0 y1) (trystlaw01_RataNext.j0 (k + 1) y0 y1)) ∧ (∀ y0 y1 y2 y3 y4 y5 y6, LeO (trystlaw01_RataNext.j1 k y0 y1 y2 y3 y4 y5 y6) (trystlaw01_RataNext.j1 (k + 1) y0 y1 y2 y3 y4 y5 y6))
  | 0 => ⟨fun _ _ r h => by simp [trystlaw01_RataNext.j0] at h, fun _ _ _ _ _ _ _ r h => by simp [trystlaw01_RataNext.j1] at h⟩
  | k + 1 => by
    obtain ⟨ih0, ih1⟩ := trystlaw01_RataNext.mono_l k
    refine ⟨?_, ?_⟩
    · intro y0 y1
      unfold trystlaw01_RataNext.j0
      repeat' first
      | (with_reducible exact ih0 _ _)
      | (with_reducible exact ih1 _ _ _ _ _ _ _)
      | (with_reducible exact rata_Date.mono _ _)
      | (with_reducible exact rata_Length.mono _ _ _)
      | (with_reducible exact trystlaw01_awake.mono _)
      | (with_reducible exact LeO.refl _)
      | (with_reducible exact LeO.none _)
      | (with_reducible refine LeO.ite ?_ ?_)
      | (with_reducible refine LeO.bind ?_ (fun _ => ?_))
      | exact ih0 _ _
      | exact ih1 _ _ _ _ _ _ _
      | exact rata_Date.mono _ _
      | exact rata_Length.mono _ _ _
      | exact trystlaw01_awake.mono _
      | exact LeO.none _
      | refine LeO.ite ?_ ?_
      | refine LeO.bind ?_ (fun _ => ?_)
    · intro y0 y1 y2 y3 y4 y5 y6
      unfold trystlaw01_RataNext.j1
      repeat' first
      | (with_reducible exact ih0 _ _)
      | (with_reducible exact ih1 _ _ _ _ _ _ _)
      | (with_reducible exact rata_Date.mono _ _)
      | (with_reducible exact rata_Length.mono _ _ _)
      | (with_reducible exact trystlaw01_awake.mono _)
      | (with_reducible exact LeO.refl _)
      | (with_reducible exact LeO.none _)
      | (with_reducible refine LeO.ite ?_ ?_)
      | (with_reducible refine LeO.bind ?_ (fun _ => ?_))
      | exact ih0 _ _
      | exact ih1 _ _ _ _ _ _ _
      | exact rata_Date.mono _ _
      | exact rata_Length.mono _ _ _
      | exact trystlaw01_awake.mono _
      | exact LeO.none _
      | refine LeO.ite ?_ ?_
      | refine LeO.bind ?_ (fun _ => ?_)
theorem trystlaw01_RataNext.mono : ∀ a0 k, LeO (trystlaw01_RataNext.f k a0) (trystlaw01_RataNext.f (k + 1) a0) := by
  intro a0 k
  obtain ⟨ih0, ih1⟩ := trystlaw01_RataNext.mono_l k
  unfold trystlaw01_RataNext.f
  repeat' first
      | (with_reducible exact ih0 _ _)
      | (with_reducible exact ih1 _ _ _ _ _ _ _)
      | (with_reducible exact rata_Date.mono _ _)
      | (with_reducible exact rata_Length.mono _ _ _)
      | (with_reducible exact trystlaw01_awake.mono _)
      | (with_reducible exact LeO.refl _)
      | (with_reducible exact LeO.none _)
      | (with_reducible refine LeO.ite ?_ ?_)
      | (with_reducible refine LeO.bind ?_ (fun _ => ?_))
      | exact ih0 _ _
      | exact ih1 _ _ _ _ _ _ _
      | exact rata_Date.mono _ _
      | exact rata_Length.mono _ _ _
      | exact trystlaw01_awake.mono _
      | exact LeO.none _
      | refine LeO.ite ?_ ?_
      | refine LeO.bind ?_ (fun _ => ?_)
set_option maxHeartbeats 8000000 in
set_option maxRecDepth 100000 in
theorem trystlaw01_RataNext.calls (k : Nat) (a0 : Int) (r : Bool) (w : World) (h : trystlaw01_RataNext.f k a0 = some r) :
    Calls Try.prog 11 #[.int .i64 a0] w fun e w' => e = .returned (.bool r) ∧ Below w.heap.size w w' := by
  have hu23 := Try.underlying23
  have HB := Aside0.mk (Below.refl w.heap.size w)
  have H : ((trystlaw01_awake.f k).bind fun t305 => (if t305 = true then (if a0 < 1 then (trystlaw01_RataNext.j0 k a0 true) else (trystlaw01_RataNext.j0 k a0 (decide (a0 ≥ 3652059)))) else (trystlaw01_RataNext.j0 k a0 true))) = some r := h
  clear h
  have HC2 := Aside0.mk H
  clear H
  go_enter Try.func11, Try.ntmps11
  go_upto_region 1 with (fail)
  repeat (go_quiet (fail); go_upto_region 1 with (fail))
  go_cut [16] (fun v16 wc => ∃ (kq : Nat) (x16_1 : Bool), v16 = .bool x16_1 ∧ Aside0 (trystlaw01_RataNext.j0 kq a0 x16_1 = some r) ∧ Aside0 (kq ≤ k) ∧ Aside0 (Below w.heap.size w wc))
  case first =>
    have H := HC2.out
    clear HC2
    replace H := Option.bind_eq_some_iff.mp H
    obtain ⟨t305, A30, H⟩ := H
    replace H : (if t305 = true then (if a0 < 1 then (trystlaw01_RataNext.j0 k a0 true) else (trystlaw01_RataNext.j0 k a0 (decide (a0 ≥ 3652059)))) else (trystlaw01_RataNext.j0 k a0 true)) = some r := H
    have A3 := Aside0.mk A30
    clear A30
    by_cases c4 : t305 = true
    · subst c4
      have H1 : (if a0 < 1 then (trystlaw01_RataNext.j0 k a0 true) else (trystlaw01_RataNext.j0 k a0 (decide (a0 ≥ 3652059)))) = some r := by rw [if_pos rfl] at H; exact H
      clear H
      have H := H1
      clear H1
      by_cases c5 : a0 < 1
      · rw [if_pos c5] at H
        have c5b0 : decide (a0 < 1) = true := decide_eq_true c5
        clear c5
        (first | rw [c5b0] | (simp only [i64_w, i32_w]; rw [c5b0]) | skip)
        have H' := Aside0.mk H
        clear H
        go_wp2_with (first | (go_at_call 24; (with_reducible refine (trystlaw01_awake.calls k  true _ A3.out).mono ?_); rintro e w6 ⟨rfl, hb⟩; have n0_ := Aside0.mk (below_step (by repeat (first | (with_reducible first | exact HB.out | apply below_alloc | apply pw_below_drewN | apply below_drew1) | exact HB.out)) hb); clear HB; have HB := n0_; clear n0_; (try clear hb); (try clear hb2); (try clear hk); (try clear hi)))
        repeat (go_quiet (first | (go_at_call 24; (with_reducible refine (trystlaw01_awake.calls k  true _ A3.out).mono ?_); rintro e w6 ⟨rfl, hb⟩; have n0_ := Aside0.mk (below_step (by repeat (first | (with_reducible first | exact HB.out | apply below_alloc | apply pw_below_drewN | apply below_drew1) | exact HB.out)) hb); clear HB; have HB := n0_; clear n0_; (try clear hb); (try clear hb2); (try clear hk); (try clear hi))); try go_wp2_with (first | (go_at_call 24; (with_reducible refine (trystlaw01_awake.calls k  true _ A3.out).mono ?_); rintro e w6 ⟨rfl, hb⟩; have n0_ := Aside0.mk (below_step (by repeat (first | (with_reducible first | exact HB.out | apply below_alloc | apply pw_below_drewN | apply below_drew1) | exact HB.out)) hb); clear HB; have HB := n0_; clear n0_; (try clear hb); (try clear hb2); (try clear hk); (try clear hi))))
        go_meet
        case rel => exact ⟨_, (true), (by first | rfl | (simp; done) | (simp [*]; done)), H', ⟨by first | omega | exact Nat.le_refl _⟩, ⟨by repeat (first | (with_reducible first | exact HB.out | apply below_alloc | apply pw_below_drewN | apply below_drew1) | exact HB.out)⟩⟩
      · rw [if_neg c5] at H
        have c5b0 : decide (a0 < 1) = false := decide_eq_false c5
        clear c5
        (first | rw [c5b0] | (simp only [i64_w, i32_w]; rw [c5b0]) | skip)
        have H' := Aside0.mk H
        clear H
        go_wp2_with (first | (go_at_call 24; (with_reducible refine (trystlaw01_awake.calls k  true _ A3.out).mono ?_); rintro e w7 ⟨rfl, hb⟩; have n0_ := Aside0.mk (below_step (by repeat (first | (with_reducible first | exact HB.out | apply below_alloc | apply pw_below_drewN | apply below_drew1) | exact HB.out)) hb); clear HB; have HB := n0_; clear n0_; (try clear hb); (try clear hb2); (try clear hk); (try clear hi)))
        repeat (go_quiet (first | (go_at_call 24; (with_reducible refine (trystlaw01_awake.calls k  true _ A3.out).mono ?_); rintro e w7 ⟨rfl, hb⟩; have n0_ := Aside0.mk (below_step (by repeat (first | (with_reducible first | exact HB.out | apply below_alloc | apply pw_below_drewN | apply below_drew1) | exact HB.out)) hb); clear HB; have HB := n0_; clear n0_; (try clear hb); (try clear hb2); (try clear hk); (try clear hi))); try go_wp2_with (first | (go_at_call 24; (with_reducible refine (trystlaw01_awake.calls k  true _ A3.out).mono ?_); rintro e w7 ⟨rfl, hb⟩; have n0_ := Aside0.mk (below_step (by repeat (first | (with_reducible first | exact HB.out | apply below_alloc | apply pw_below_drewN | apply below_drew1) | exact HB.out)) hb); clear HB; have HB := n0_; clear n0_; (try clear hb); (try clear hb2); (try clear hk); (try clear hi))))
        go_meet
        case rel => exact ⟨_, (decide (a0 ≥ 3652059)), (by first | rfl | (simp; done) | (simp [*]; done)), H', ⟨by first | omega | exact Nat.le_refl _⟩, ⟨by repeat (first | (with_reducible first | exact HB.out | apply below_alloc | apply pw_below_drewN | apply below_drew1) | exact HB.out)⟩⟩
    · replace c4 := Bool.eq_false_iff.mpr c4
      subst c4
      have H1 : (trystlaw01_RataNext.j0 k a0 true) = some r := by rw [if_neg (show ¬ (false = true) by decide)] at H; exact H
      clear H
      have H := H1
      clear H1
      have H' := Aside0.mk H
      clear H
      go_wp2_with (first | (go_at_call 24; (with_reducible refine (trystlaw01_awake.calls k  false _ A3.out).mono ?_); rintro e w8 ⟨rfl, hb⟩; have n0_ := Aside0.mk (below_step (by repeat (first | (with_reducible first | exact HB.out | apply below_alloc | apply pw_below_drewN | apply below_drew1) | exact HB.out)) hb); clear HB; have HB := n0_; clear n0_; (try clear hb); (try clear hb2); (try clear hk); (try clear hi)))
      repeat (go_quiet (first | (go_at_call 24; (with_reducible refine (trystlaw01_awake.calls k  false _ A3.out).mono ?_); rintro e w8 ⟨rfl, hb⟩; have n0_ := Aside0.mk (below_step (by repeat (first | (with_reducible first | exact HB.out | apply below_alloc | apply pw_below_drewN | apply below_drew1) | exact HB.out)) hb); clear HB; have HB := n0_; clear n0_; (try clear hb); (try clear hb2); (try clear hk); (try clear hi))); try go_wp2_with (first | (go_at_call 24; (with_reducible refine (trystlaw01_awake.calls k  false _ A3.out).mono ?_); rintro e w8 ⟨rfl, hb⟩; have n0_ := Aside0.mk (below_step (by repeat (first | (with_reducible first | exact HB.out | apply below_alloc | apply pw_below_drewN | apply below_drew1) | exact HB.out)) hb); clear HB; have HB := n0_; clear n0_; (try clear hb); (try clear hb2); (try clear hk); (try clear hi))))
      go_meet
      case rel => exact ⟨_, (true), (by first | rfl | (simp; done) | (simp [*]; done)), H', ⟨by first | omega | exact Nat.le_refl _⟩, ⟨by repeat (first | (with_reducible first | exact HB.out | apply below_alloc | apply pw_below_drewN | apply below_drew1) | exact HB.out)⟩⟩
  case rest =>
    clear HC2
    try clear c1
    try clear p2
    try clear c4
    try clear c5
    try clear c5b0
    obtain ⟨kq, x16_1, rfl, HA, HJ1, HB⟩ := hcut
    cases kq with
    | zero => exact absurd HA.out (by simp [trystlaw01_RataNext.j0])
    | succ kj1 =>
      have H := HA.out
      clear HA
      simp only [trystlaw01_RataNext.j0] at H
      by_cases c9 : x16_1 = true
      · subst c9
        have H1 : ((trystlaw01_awake.f kj1).bind fun t306 => (some t306)) = some r := by rw [if_pos rfl] at H; exact H
        clear H
        have H := H1
        clear H1
        replace H := Option.bind_eq_some_iff.mp H
        obtain ⟨t306, A100, H⟩ := H
        replace H : (some t306) = some r := H
        have A10 := Aside0.mk A100
        clear A100
        obtain rfl := Option.some.inj H
        go_wp2_with (first | (go_at_call 24; (with_reducible refine (trystlaw01_awake.calls kj1  t306 _ A10.out).mono ?_); rintro e w11 ⟨rfl, hb⟩; have n0_ := Aside0.mk (below_step (by repeat (first | (with_reducible first | exact HB.out | apply below_alloc | apply pw_below_drewN | apply below_drew1) | exact HB.out)) hb); clear HB; have HB := n0_; clear n0_; (try clear hb); (try clear hb2); (try clear hk); (try clear hi)))
        repeat (go_quiet (first | (go_at_call 24; (with_reducible refine (trystlaw01_awake.calls kj1  t306 _ A10.out).mono ?_); rintro e w11 ⟨rfl, hb⟩; have n0_ := Aside0.mk (below_step (by repeat (first | (with_reducible first | exact HB.out | apply below_alloc | apply pw_below_drewN | apply below_drew1) | exact HB.out)) hb); clear HB; have HB := n0_; clear n0_; (try clear hb); (try clear hb2); (try clear hk); (try clear hi))); try go_wp2_with (first | (go_at_call 24; (with_reducible refine (trystlaw01_awake.calls kj1  t306 _ A10.out).mono ?_); rintro e w11 ⟨rfl, hb⟩; have n0_ := Aside0.mk (below_step (by repeat (first | (with_reducible first | exact HB.out | apply below_alloc | apply pw_below_drewN | apply below_drew1) | exact HB.out)) hb); clear HB; have HB := n0_; clear n0_; (try clear hb); (try clear hb2); (try clear hk); (try clear hi))))
        go_ret
        exact ⟨by first | rfl | (simp [errW_none, errW_some] <;> rfl) | (simp [*, errW_none, errW_some] <;> rfl), by repeat (first | (with_reducible first | exact HB.out | apply below_alloc | apply pw_below_drewN | apply below_drew1) | exact HB.out)⟩
      · replace c9 := Bool.eq_false_iff.mpr c9
        subst c9
        have H1 : ((rata_Date.f kj1 a0).bind fun bt307 => ((rata_Date.f kj1 (wrap64 (a0 + 1))).bind fun bt312 => (if bt307.2.2.2 = 0 then (if bt312.2.2.2 = 0 then ((rata_Weekday.f a0).bind fun t317 => ((rata_Weekday.f (wrap64 (a0 + 1))).bind fun t318 => (trystlaw01_RataNext.j1 kj1 ((Int.tmod (wrap64 (t317 + 1)) 7) != t318) bt307.1 bt307.2.1 bt307.2.2.1 bt312.1 bt312.2.1 bt312.2.2.1))) else (trystlaw01_RataNext.j1 kj1 true bt307.1 bt307.2.1 bt307.2.2.1 bt312.1 bt312.2.1 bt312.2.2.1)) else (trystlaw01_RataNext.j1 kj1 true bt307.1 bt307.2.1 bt307.2.2.1 bt312.1 bt312.2.1 bt312.2.2.1)))) = some r := by rw [if_neg (show ¬ (false = true) by decide)] at H; exact H
        clear H
        have H := H1
        clear H1
        replace H := Option.bind_eq_some_iff.mp H
        obtain ⟨⟨t307, t308, t309, t310⟩, A120, H⟩ := H
        replace H : ((rata_Date.f kj1 (wrap64 (a0 + 1))).bind fun bt312 => (if t310 = 0 then (if bt312.2.2.2 = 0 then ((rata_Weekday.f a0).bind fun t317 => ((rata_Weekday.f (wrap64 (a0 + 1))).bind fun t318 => (trystlaw01_RataNext.j1 kj1 ((Int.tmod (wrap64 (t317 + 1)) 7) != t318) t307 t308 t309 bt312.1 bt312.2.1 bt312.2.2.1))) else (trystlaw01_RataNext.j1 kj1 true t307 t308 t309 bt312.1 bt312.2.1 bt312.2.2.1)) else (trystlaw01_RataNext.j1 kj1 true t307 t308 t309 bt312.1 bt312.2.1 bt312.2.2.1))) = some r := H
        have A12 := Aside0.mk A120
        clear A120
        replace H := Option.bind_eq_some_iff.mp H
        obtain ⟨⟨t312, t313, t314, t315⟩, A130, H⟩ := H
        replace H : (if t310 = 0 then (if t315 = 0 then ((rata_Weekday.f a0).bind fun t317 => ((rata_Weekday.f (wrap64 (a0 + 1))).bind fun t318 => (trystlaw01_RataNext.j1 kj1 ((Int.tmod (wrap64 (t317 + 1)) 7) != t318) t307 t308 t309 t312 t313 t314))) else (trystlaw01_RataNext.j1 kj1 true t307 t308 t309 t312 t313 t314)) else (trystlaw01_RataNext.j1 kj1 true t307 t308 t309 t312 t313 t314)) = some r := H
        have A13 := Aside0.mk A130
        clear A130
        have HC14 := Aside0.mk H
        clear H
        go_upto_region 5 with (first | (go_at_call 37; (with_reducible refine (rata_Date.calls kj1 a0 t307 t308 t309 t310 _ A12.out).mono ?_); rintro e w15 ⟨rfl, hb⟩; have n0_ := Aside0.mk (below_step (by repeat (first | (with_reducible first | exact HB.out | apply below_alloc | apply pw_below_drewN | apply below_drew1) | exact HB.out)) hb); clear HB; have HB := n0_; clear n0_; (try clear hb); (try clear hb2); (try clear hk); (try clear hi)) | ((with_reducible refine gate_dst (N := 3) rfl ?_); refine box_event ?hg (N := 3) ?hd (cs := #[.int .i64 0, .int .i64 0, .int .i64 0]) (t := 23) ?hr ?_; (case hd => rfl); (case hg => rfl); (case hr => first | (go_simp; done) | (go_simp; rfl)); intro gb311 hg w16 hbox hb; have n0_ := Aside0.mk (below_step (by repeat (first | (with_reducible first | exact HB.out | apply below_alloc | apply pw_below_drewN | apply below_drew1) | exact HB.out)) hb); have n1_ := Aside0.mk (hbox); have n2_ := Aside0.mk ((by rw [hg]; exact (below_size (by repeat (first | (with_reducible first | exact HB.out | apply below_alloc | apply pw_below_drewN | apply below_drew1) | exact HB.out))) : w.heap.size ≤ gb311)); have n3_ := Aside0.mk ((by rw [hg]; exact (below_size (by repeat (first | (with_reducible first | exact HB.out | apply below_alloc | apply pw_below_drewN | apply below_drew1) | exact HB.out))) : w.heap.size ≤ gb311)); clear HB; have HB := n0_; have BK311 := n1_; have GW311 := n2_; have GE311 := n3_; clear n0_ n1_ n2_ n3_; clear hb hbox hg; have hcz17_0 : w16.cell? ⟨gb311, 0, none⟩ = some (.int .i64 0) := (blk_cell BK311.out 0).trans rfl; have hcz17_1 : w16.cell? ⟨gb311, 1, none⟩ = some (.int .i64 0) := (blk_cell BK311.out 1).trans rfl; have hcz17_2 : w16.cell? ⟨gb311, 2, none⟩ = some (.int .i64 0) := (blk_cell BK311.out 2).trans rfl; have hfz17_0 := blk_frozen BK311.out 0; have hfz17_1 := blk_frozen BK311.out 1; have hfz17_2 := blk_frozen BK311.out 2) | (go_at_call 37; (with_reducible refine (rata_Date.calls kj1 (wrap64 (a0 + 1)) t312 t313 t314 t315 _ A13.out).mono ?_); rintro e w18 ⟨rfl, hb⟩; have n0_ := Aside0.mk (blk_below (g := gb311) (o := .cells #[.int .i64 t307, .int .i64 t308, .int .i64 t309] 23 (0, 0)) (by (with_reducible repeat (first | refine blk_drewN ?_ _ | refine blk_drew ?_ | refine blk_alloc ?_ _)); refine blk_put (cs := #[.int .i64 t307, .int .i64 t308, .int .i64 0]) ?_ 2 _ rfl; (with_reducible repeat (first | refine blk_drewN ?_ _ | refine blk_drew ?_ | refine blk_alloc ?_ _)); refine blk_put (cs := #[.int .i64 t307, .int .i64 0, .int .i64 0]) ?_ 1 _ rfl; (with_reducible repeat (first | refine blk_drewN ?_ _ | refine blk_drew ?_ | refine blk_alloc ?_ _)); refine blk_put (cs := #[.int .i64 0, .int .i64 0, .int .i64 0]) ?_ 0 _ rfl; (with_reducible repeat (first | refine blk_drewN ?_ _ | refine blk_drew ?_ | refine blk_alloc ?_ _)); exact BK311.out) hb); have n1_ := Aside0.mk (below_step (by repeat (first | (with_reducible first | exact HB.out | apply below_alloc | apply pw_below_drewN | apply below_drew1 | refine below_set ?_ GE311.out) | exact HB.out)) hb); clear BK311; clear HB; have BK311 := n0_; have HB := n1_; clear n0_ n1_; (try clear hb); (try clear hb2); (try clear hk); (try clear hi)) | ((with_reducible refine gate_dst (N := 5) rfl ?_); refine box_event ?hg (N := 5) ?hd (cs := #[.int .i64 0, .int .i64 0, .int .i64 0]) (t := 23) ?hr ?_; (case hd => rfl); (case hg => rfl); (case hr => first | (go_simp; done) | (go_simp; rfl)); intro gb316 hg w19 hbox hb; have n0_ := Aside0.mk (blk_below (g := gb311) (o := .cells #[.int .i64 t307, .int .i64 t308, .int .i64 t309] 23 (0, 0)) (by (with_reducible repeat (first | refine blk_drewN ?_ _ | refine blk_drew ?_ | refine blk_alloc ?_ _)); exact BK311.out) hb); have n1_ := Aside0.mk (below_step (by repeat (first | (with_reducible first | exact HB.out | apply below_alloc | apply pw_below_drewN | apply below_drew1 | refine below_set ?_ GE311.out) | exact HB.out)) hb); have n2_ := Aside0.mk (hbox); have n3_ := Aside0.mk ((by rw [hg]; exact (below_size (by repeat (first | (with_reducible first | exact HB.out | apply below_alloc | apply pw_below_drewN | apply below_drew1 | refine below_set ?_ GE311.out) | exact HB.out))) : w.heap.size ≤ gb316)); have n4_ := Aside0.mk ((by rw [hg]; exact (below_size (by repeat (first | (with_reducible first | exact HB.out | apply below_alloc | apply pw_below_drewN | apply below_drew1 | refine below_set ?_ GE311.out) | exact HB.out))) : w.heap.size ≤ gb316)); have n5_ := Aside0.mk ((by rw [hg]; exact Nat.ne_of_lt (blk_lt (g := gb311) (o := .cells #[.int .i64 t307, .int .i64 t308, .int .i64 t309] 23 (0, 0)) (by (with_reducible repeat (first | refine blk_drewN ?_ _ | refine blk_drew ?_ | refine blk_alloc ?_ _)); exact BK311.out)) : gb311 ≠ gb316)); have n6_ := Aside0.mk ((by rw [hg]; exact Nat.ne_of_gt (blk_lt (g := gb311) (o := .cells #[.int .i64 t307, .int .i64 t308, .int .i64 t309] 23 (0, 0)) (by (with_reducible repeat (first | refine blk_drewN ?_ _ | refine blk_drew ?_ | refine blk_alloc ?_ _)); exact BK311.out)) : gb316 ≠ gb311)); clear BK311; clear HB; have BK311 := n0_; have HB := n1_; have BK316 := n2_; have GW316 := n3_; have GE316 := n4_; have NB311_316 := n5_; have NB316_311 := n6_; clear n0_ n1_ n2_ n3_ n4_ n5_ n6_; clear hb hbox hg; have hnb20 := NB316_311.out; have hnc20 := NB311_316.out; have hcz21_0 : w19.cell? ⟨gb316, 0, none⟩ = some (.int .i64 0) := (blk_cell BK316.out 0).trans rfl; have hcz21_1 : w19.cell? ⟨gb316, 1, none⟩ = some (.int .i64 0) := (blk_cell BK316.out 1).trans rfl; have hcz21_2 : w19.cell? ⟨gb316, 2, none⟩ = some (.int .i64 0) := (blk_cell BK316.out 2).trans rfl; have hfz21_0 := blk_frozen BK316.out 0; have hfz21_1 := blk_frozen BK316.out 1; have hfz21_2 := blk_frozen BK316.out 2))
        repeat (go_quiet (first | (go_at_call 37; (with_reducible refine (rata_Date.calls kj1 a0 t307 t308 t309 t310 _ A12.out).mono ?_); rintro e w15 ⟨rfl, hb⟩; have n0_ := Aside0.mk (below_step (by repeat (first | (with_reducible first | exact HB.out | apply below_alloc | apply pw_below_drewN | apply below_drew1) | exact HB.out)) hb); clear HB; have HB := n0_; clear n0_; (try clear hb); (try clear hb2); (try clear hk); (try clear hi)) | ((with_reducible refine gate_dst (N := 3) rfl ?_); refine box_event ?hg (N := 3) ?hd (cs := #[.int .i64 0, .int .i64 0, .int .i64 0]) (t := 23) ?hr ?_; (case hd => rfl); (case hg => rfl); (case hr => first | (go_simp; done) | (go_simp; rfl)); intro gb311 hg w16 hbox hb; have n0_ := Aside0.mk (below_step (by repeat (first | (with_reducible first | exact HB.out | apply below_alloc | apply pw_below_drewN | apply below_drew1) | exact HB.out)) hb); have n1_ := Aside0.mk (hbox); have n2_ := Aside0.mk ((by rw [hg]; exact (below_size (by repeat (first | (with_reducible first | exact HB.out | apply below_alloc | apply pw_below_drewN | apply below_drew1) | exact HB.out))) : w.heap.size ≤ gb311)); have n3_ := Aside0.mk ((by rw [hg]; exact (below_size (by repeat (first | (with_reducible first | exact HB.out | apply below_alloc | apply pw_below_drewN | apply below_drew1) | exact HB.out))) : w.heap.size ≤ gb311)); clear HB; have HB := n0_; have BK311 := n1_; have GW311 := n2_; have GE311 := n3_; clear n0_ n1_ n2_ n3_; clear hb hbox hg; have hcz17_0 : w16.cell? ⟨gb311, 0, none⟩ = some (.int .i64 0) := (blk_cell BK311.out 0).trans rfl; have hcz17_1 : w16.cell? ⟨gb311, 1, none⟩ = some (.int .i64 0) := (blk_cell BK311.out 1).trans rfl; have hcz17_2 : w16.cell? ⟨gb311, 2, none⟩ = some (.int .i64 0) := (blk_cell BK311.out 2).trans rfl; have hfz17_0 := blk_frozen BK311.out 0; have hfz17_1 := blk_frozen BK311.out 1; have hfz17_2 := blk_frozen BK311.out 2) | (go_at_call 37; (with_reducible refine (rata_Date.calls kj1 (wrap64 (a0 + 1)) t312 t313 t314 t315 _ A13.out).mono ?_); rintro e w18 ⟨rfl, hb⟩; have n0_ := Aside0.mk (blk_below (g := gb311) (o := .cells #[.int .i64 t307, .int .i64 t308, .int .i64 t309] 23 (0, 0)) (by (with_reducible repeat (first | refine blk_drewN ?_ _ | refine blk_drew ?_ | refine blk_alloc ?_ _)); refine blk_put (cs := #[.int .i64 t307, .int .i64 t308, .int .i64 0]) ?_ 2 _ rfl; (with_reducible repeat (first | refine blk_drewN ?_ _ | refine blk_drew ?_ | refine blk_alloc ?_ _)); refine blk_put (cs := #[.int .i64 t307, .int .i64 0, .int .i64 0]) ?_ 1 _ rfl; (with_reducible repeat (first | refine blk_drewN ?_ _ | refine blk_drew ?_ | refine blk_alloc ?_ _)); refine blk_put (cs := #[.int .i64 0, .int .i64 0, .int .i64 0]) ?_ 0 _ rfl; (with_reducible repeat (first | refine blk_drewN ?_ _ | refine blk_drew ?_ | refine blk_alloc ?_ _)); exact BK311.out) hb); have n1_ := Aside0.mk (below_step (by repeat (first | (with_reducible first | exact HB.out | apply below_alloc | apply pw_below_drewN | apply below_drew1 | refine below_set ?_ GE311.out) | exact HB.out)) hb); clear BK311; clear HB; have BK311 := n0_; have HB := n1_; clear n0_ n1_; (try clear hb); (try clear hb2); (try clear hk); (try clear hi)) | ((with_reducible refine gate_dst (N := 5) rfl ?_); refine box_event ?hg (N := 5) ?hd (cs := #[.int .i64 0, .int .i64 0, .int .i64 0]) (t := 23) ?hr ?_; (case hd => rfl); (case hg => rfl); (case hr => first | (go_simp; done) | (go_simp; rfl)); intro gb316 hg w19 hbox hb; have n0_ := Aside0.mk (blk_below (g := gb311) (o := .cells #[.int .i64 t307, .int .i64 t308, .int .i64 t309] 23 (0, 0)) (by (with_reducible repeat (first | refine blk_drewN ?_ _ | refine blk_drew ?_ | refine blk_alloc ?_ _)); exact BK311.out) hb); have n1_ := Aside0.mk (below_step (by repeat (first | (with_reducible first | exact HB.out | apply below_alloc | apply pw_below_drewN | apply below_drew1 | refine below_set ?_ GE311.out) | exact HB.out)) hb); have n2_ := Aside0.mk (hbox); have n3_ := Aside0.mk ((by rw [hg]; exact (below_size (by repeat (first | (with_reducible first | exact HB.out | apply below_alloc | apply pw_below_drewN | apply below_drew1 | refine below_set ?_ GE311.out) | exact HB.out))) : w.heap.size ≤ gb316)); have n4_ := Aside0.mk ((by rw [hg]; exact (below_size (by repeat (first | (with_reducible first | exact HB.out | apply below_alloc | apply pw_below_drewN | apply below_drew1 | refine below_set ?_ GE311.out) | exact HB.out))) : w.heap.size ≤ gb316)); have n5_ := Aside0.mk ((by rw [hg]; exact Nat.ne_of_lt (blk_lt (g := gb311) (o := .cells #[.int .i64 t307, .int .i64 t308, .int .i64 t309] 23 (0, 0)) (by (with_reducible repeat (first | refine blk_drewN ?_ _ | refine blk_drew ?_ | refine blk_alloc ?_ _)); exact BK311.out)) : gb311 ≠ gb316)); have n6_ := Aside0.mk ((by rw [hg]; exact Nat.ne_of_gt (blk_lt (g := gb311) (o := .cells #[.int .i64 t307, .int .i64 t308, .int .i64 t309] 23 (0, 0)) (by (with_reducible repeat (first | refine blk_drewN ?_ _ | refine blk_drew ?_ | refine blk_alloc ?_ _)); exact BK311.out)) : gb316 ≠ gb311)); clear BK311; clear HB; have BK311 := n0_; have HB := n1_; have BK316 := n2_; have GW316 := n3_; have GE316 := n4_; have NB311_316 := n5_; have NB316_311 := n6_; clear n0_ n1_ n2_ n3_ n4_ n5_ n6_; clear hb hbox hg; have hnb20 := NB316_311.out; have hnc20 := NB311_316.out; have hcz21_0 : w19.cell? ⟨gb316, 0, none⟩ = some (.int .i64 0) := (blk_cell BK316.out 0).trans rfl; have hcz21_1 : w19.cell? ⟨gb316, 1, none⟩ = some (.int .i64 0) := (blk_cell BK316.out 1).trans rfl; have hcz21_2 : w19.cell? ⟨gb316, 2, none⟩ = some (.int .i64 0) := (blk_cell BK316.out 2).trans rfl; have hfz21_0 := blk_frozen BK316.out 0; have hfz21_1 := blk_frozen BK316.out 1; have hfz21_2 := blk_frozen BK316.out 2)); go_upto_region 5 with (first | (go_at_call 37; (with_reducible refine (rata_Date.calls kj1 a0 t307 t308 t309 t310 _ A12.out).mono ?_); rintro e w15 ⟨rfl, hb⟩; have n0_ := Aside0.mk (below_step (by repeat (first | (with_reducible first | exact HB.out | apply below_alloc | apply pw_below_drewN | apply below_drew1) | exact HB.out)) hb); clear HB; have HB := n0_; clear n0_; (try clear hb); (try clear hb2); (try clear hk); (try clear hi)) | ((with_reducible refine gate_dst (N := 3) rfl ?_); refine box_event ?hg (N := 3) ?hd (cs := #[.int .i64 0, .int .i64 0, .int .i64 0]) (t := 23) ?hr ?_; (case hd => rfl); (case hg => rfl); (case hr => first | (go_simp; done) | (go_simp; rfl)); intro gb311 hg w16 hbox hb; have n0_ := Aside0.mk (below_step (by repeat (first | (with_reducible first | exact HB.out | apply below_alloc | apply pw_below_drewN | apply below_drew1) | exact HB.out)) hb); have n1_ := Aside0.mk (hbox); have n2_ := Aside0.mk ((by rw [hg]; exact (below_size (by repeat (first | (with_reducible first | exact HB.out | apply below_alloc | apply pw_below_drewN | apply below_drew1) | exact HB.out))) : w.heap.size ≤ gb311)); have n3_ := Aside0.mk ((by rw [hg]; exact (below_size (by repeat (first | (with_reducible first | exact HB.out | apply below_alloc | apply pw_below_drewN | apply below_drew1) | exact HB.out))) : w.heap.size ≤ gb311)); clear HB; have HB := n0_; have BK311 := n1_; have GW311 := n2_; have GE311 := n3_; clear n0_ n1_ n2_ n3_; clear hb hbox hg; have hcz17_0 : w16.cell? ⟨gb311, 0, none⟩ = some (.int .i64 0) := (blk_cell BK311.out 0).trans rfl; have hcz17_1 : w16.cell? ⟨gb311, 1, none⟩ = some (.int .i64 0) := (blk_cell BK311.out 1).trans rfl; have hcz17_2 : w16.cell? ⟨gb311, 2, none⟩ = some (.int .i64 0) := (blk_cell BK311.out 2).trans rfl; have hfz17_0 := blk_frozen BK311.out 0; have hfz17_1 := blk_frozen BK311.out 1; have hfz17_2 := blk_frozen BK311.out 2) | (go_at_call 37; (with_reducible refine (rata_Date.calls kj1 (wrap64 (a0 + 1)) t312 t313 t314 t315 _ A13.out).mono ?_); rintro e w18 ⟨rfl, hb⟩; have n0_ := Aside0.mk (blk_below (g := gb311) (o := .cells #[.int .i64 t307, .int .i64 t308, .int .i64 t309] 23 (0, 0)) (by (with_reducible repeat (first | refine blk_drewN ?_ _ | refine blk_drew ?_ | refine blk_alloc ?_ _)); refine blk_put (cs := #[.int .i64 t307, .int .i64 t308, .int .i64 0]) ?_ 2 _ rfl; (with_reducible repeat (first | refine blk_drewN ?_ _ | refine blk_drew ?_ | refine blk_alloc ?_ _)); refine blk_put (cs := #[.int .i64 t307, .int .i64 0, .int .i64 0]) ?_ 1 _ rfl; (with_reducible repeat (first | refine blk_drewN ?_ _ | refine blk_drew ?_ | refine blk_alloc ?_ _)); refine blk_put (cs := #[.int .i64 0, .int .i64 0, .int .i64 0]) ?_ 0 _ rfl; (with_reducible repeat (first | refine blk_drewN ?_ _ | refine blk_drew ?_ | refine blk_alloc ?_ _)); exact BK311.out) hb); have n1_ := Aside0.mk (below_step (by repeat (first | (with_reducible first | exact HB.out | apply below_alloc | apply pw_below_drewN | apply below_drew1 | refine below_set ?_ GE311.out) | exact HB.out)) hb); clear BK311; clear HB; have BK311 := n0_; have HB := n1_; clear n0_ n1_; (try clear hb); (try clear hb2); (try clear hk); (try clear hi)) | ((with_reducible refine gate_dst (N := 5) rfl ?_); refine box_event ?hg (N := 5) ?hd (cs := #[.int .i64 0, .int .i64 0, .int .i64 0]) (t := 23) ?hr ?_; (case hd => rfl); (case hg => rfl); (case hr => first | (go_simp; done) | (go_simp; rfl)); intro gb316 hg w19 hbox hb; have n0_ := Aside0.mk (blk_below (g := gb311) (o := .cells #[.int .i64 t307, .int .i64 t308, .int .i64 t309] 23 (0, 0)) (by (with_reducible repeat (first | refine blk_drewN ?_ _ | refine blk_drew ?_ | refine blk_alloc ?_ _)); exact BK311.out) hb); have n1_ := Aside0.mk (below_step (by repeat (first | (with_reducible first | exact HB.out | apply below_alloc | apply pw_below_drewN | apply below_drew1 | refine below_set ?_ GE311.out) | exact HB.out)) hb); have n2_ := Aside0.mk (hbox); have n3_ := Aside0.mk ((by rw [hg]; exact (below_size (by repeat (first | (with_reducible first | exact HB.out | apply below_alloc | apply pw_below_drewN | apply below_drew1 | refine below_set ?_ GE311.out) | exact HB.out))) : w.heap.size ≤ gb316)); have n4_ := Aside0.mk ((by rw [hg]; exact (below_size (by repeat (first | (with_reducible first | exact HB.out | apply below_alloc | apply pw_below_drewN | apply below_drew1 | refine below_set ?_ GE311.out) | exact HB.out))) : w.heap.size ≤ gb316)); have n5_ := Aside0.mk ((by rw [hg]; exact Nat.ne_of_lt (blk_lt (g := gb311) (o := .cells #[.int .i64 t307, .int .i64 t308, .int .i64 t309] 23 (0, 0)) (by (with_reducible repeat (first | refine blk_drewN ?_ _ | refine blk_drew ?_ | refine blk_alloc ?_ _)); exact BK311.out)) : gb311 ≠ gb316)); have n6_ := Aside0.mk ((by rw [hg]; exact Nat.ne_of_gt (blk_lt (g := gb311) (o := .cells #[.int .i64 t307, .int .i64 t308, .int .i64 t309] 23 (0, 0)) (by (with_reducible repeat (first | refine blk_drewN ?_ _ | refine blk_drew ?_ | refine blk_alloc ?_ _)); exact BK311.out)) : gb316 ≠ gb311)); clear BK311; clear HB; have BK311 := n0_; have HB := n1_; have BK316 := n2_; have GW316 := n3_; have GE316 := n4_; have NB311_316 := n5_; have NB316_311 := n6_; clear n0_ n1_ n2_ n3_ n4_ n5_ n6_; clear hb hbox hg; have hnb20 := NB316_311.out; have hnc20 := NB311_316.out; have hcz21_0 : w19.cell? ⟨gb316, 0, none⟩ = some (.int .i64 0) := (blk_cell BK316.out 0).trans rfl; have hcz21_1 : w19.cell? ⟨gb316, 1, none⟩ = some (.int .i64 0) := (blk_cell BK316.out 1).trans rfl; have hcz21_2 : w19.cell? ⟨gb316, 2, none⟩ = some (.int .i64 0) := (blk_cell BK316.out 2).trans rfl; have hfz21_0 := blk_frozen BK316.out 0; have hfz21_1 := blk_frozen BK316.out 1; have hfz21_2 := blk_frozen BK316.out 2)))
        (try simp only [Act.put, List.setIfInBounds_toArray, List.set_cons_zero, List.set_cons_succ])
        go_cut [44] (fun v44 wc => ∃ (kq : Nat) (x44_13 : Bool), v44 = .bool x44_13 ∧ Aside0 (trystlaw01_RataNext.j1 kq x44_13 t307 t308 t309 t312 t313 t314 = some r) ∧ Aside0 (kq ≤ kj1) ∧ Aside0 (wc.heap[gb311]? = some (.cells #[.int .i64 t307, .int .i64 t308, .int .i64 t309] 23 (0, 0))) ∧ Aside0 (wc.heap[gb316]? = some (.cells #[.int .i64 t312, .int .i64 t313, .int .i64 t314] 23 (0, 0))) ∧ Aside0 (Below w.heap.size w wc))
        case first =>
          have H := HC14.out
          clear HC14
          by_cases c22 : t310 = 0
          · rw [if_pos c22] at H
            have c22b0 : (t310 == 0) = true := beq_iff_eq.mpr c22
            have c22b1 : (t310 != 0) = false := bne_eq_false_iff_eq.mpr c22
            clear c22
            (first | rw [c22b0] | (simp only [i64_w, i32_w]; rw [c22b0]) | skip)
            by_cases c23 : t315 = 0
            · rw [if_pos c23] at H
              have c23b0 : (t315 == 0) = true := beq_iff_eq.mpr c23
              have c23b1 : (t315 != 0) = false := bne_eq_false_iff_eq.mpr c23
              clear c23
              replace H := Option.bind_eq_some_iff.mp H
              obtain ⟨t317, A240, H⟩ := H
              replace H : ((rata_Weekday.f (wrap64 (a0 + 1))).bind fun t318 => (trystlaw01_RataNext.j1 kj1 ((Int.tmod (wrap64 (t317 + 1)) 7) != t318) t307 t308 t309 t312 t313 t314)) = some r := H
              have A24 := Aside0.mk A240
              clear A240
              replace H := Option.bind_eq_some_iff.mp H
              obtain ⟨t318, A250, H⟩ := H
              replace H : (trystlaw01_RataNext.j1 kj1 ((Int.tmod (wrap64 (t317 + 1)) 7) != t318) t307 t308 t309 t312 t313 t314) = some r := H
              have A25 := Aside0.mk A250
              clear A250
              have H' := Aside0.mk H
              clear H
              go_wp2_with (first | (go_at_call 38; (with_reducible refine (rata_Weekday.calls a0 t317 _ A24.out).mono ?_); rintro e w' ⟨rfl, ⟨nd, rfl⟩⟩; (try first | exact ⟨rfl, _, World.drewN_drewN _ _ _⟩ | exact ⟨rfl, _, Eq.trans (World.drewN_drewN _ _ _) (congrArg (World.drewN _) (Nat.add_assoc _ _ _))⟩)) | (go_at_call 38; (with_reducible refine (rata_Weekday.calls (wrap64 (a0 + 1)) t318 _ A25.out).mono ?_); rintro e w' ⟨rfl, ⟨nd, rfl⟩⟩; (try first | exact ⟨rfl, _, World.drewN_drewN _ _ _⟩ | exact ⟨rfl, _, Eq.trans (World.drewN_drewN _ _ _) (congrArg (World.drewN _) (Nat.add_assoc _ _ _))⟩)))
              repeat (go_quiet (first | (go_at_call 38; (with_reducible refine (rata_Weekday.calls a0 t317 _ A24.out).mono ?_); rintro e w' ⟨rfl, ⟨nd, rfl⟩⟩; (try first | exact ⟨rfl, _, World.drewN_drewN _ _ _⟩ | exact ⟨rfl, _, Eq.trans (World.drewN_drewN _ _ _) (congrArg (World.drewN _) (Nat.add_assoc _ _ _))⟩)) | (go_at_call 38; (with_reducible refine (rata_Weekday.calls (wrap64 (a0 + 1)) t318 _ A25.out).mono ?_); rintro e w' ⟨rfl, ⟨nd, rfl⟩⟩; (try first | exact ⟨rfl, _, World.drewN_drewN _ _ _⟩ | exact ⟨rfl, _, Eq.trans (World.drewN_drewN _ _ _) (congrArg (World.drewN _) (Nat.add_assoc _ _ _))⟩))); try go_wp2_with (first | (go_at_call 38; (with_reducible refine (rata_Weekday.calls a0 t317 _ A24.out).mono ?_); rintro e w' ⟨rfl, ⟨nd, rfl⟩⟩; (try first | exact ⟨rfl, _, World.drewN_drewN _ _ _⟩ | exact ⟨rfl, _, Eq.trans (World.drewN_drewN _ _ _) (congrArg (World.drewN _) (Nat.add_assoc _ _ _))⟩)) | (go_at_call 38; (with_reducible refine (rata_Weekday.calls (wrap64 (a0 + 1)) t318 _ A25.out).mono ?_); rintro e w' ⟨rfl, ⟨nd, rfl⟩⟩; (try first | exact ⟨rfl, _, World.drewN_drewN _ _ _⟩ | exact ⟨rfl, _, Eq.trans (World.drewN_drewN _ _ _) (congrArg (World.drewN _) (Nat.add_assoc _ _ _))⟩))))
              go_meet
              case rel => exact ⟨_, (((Int.tmod (wrap64 (t317 + 1)) 7) != t318)), (by first | rfl | (simp; done) | (simp [*]; done)), H', ⟨by have := HJ1.out; first | omega | exact Nat.le_refl _⟩, ⟨by (with_reducible repeat (first | refine blk_drewN ?_ _ | refine blk_drew ?_ | refine blk_alloc ?_ _)); refine blk_far ?_ NB311_316.out _; (with_reducible repeat (first | refine blk_drewN ?_ _ | refine blk_drew ?_ | refine blk_alloc ?_ _)); refine blk_far ?_ NB311_316.out _; (with_reducible repeat (first | refine blk_drewN ?_ _ | refine blk_drew ?_ | refine blk_alloc ?_ _)); refine blk_far ?_ NB311_316.out _; (with_reducible repeat (first | refine blk_drewN ?_ _ | refine blk_drew ?_ | refine blk_alloc ?_ _)); exact BK311.out⟩, ⟨by (with_reducible repeat (first | refine blk_drewN ?_ _ | refine blk_drew ?_ | refine blk_alloc ?_ _)); refine blk_put (cs := #[.int .i64 t312, .int .i64 t313, .int .i64 0]) ?_ 2 _ rfl; (with_reducible repeat (first | refine blk_drewN ?_ _ | refine blk_drew ?_ | refine blk_alloc ?_ _)); refine blk_put (cs := #[.int .i64 t312, .int .i64 0, .int .i64 0]) ?_ 1 _ rfl; (with_reducible repeat (first | refine blk_drewN ?_ _ | refine blk_drew ?_ | refine blk_alloc ?_ _)); refine blk_put (cs := #[.int .i64 0, .int .i64 0, .int .i64 0]) ?_ 0 _ rfl; (with_reducible repeat (first | refine blk_drewN ?_ _ | refine blk_drew ?_ | refine blk_alloc ?_ _)); exact BK316.out⟩, ⟨by repeat (first | (with_reducible first | exact HB.out | apply below_alloc | apply pw_below_drewN | apply below_drew1 | refine below_set ?_ GE311.out | refine below_set ?_ GE316.out) | exact HB.out)⟩⟩
            · rw [if_neg c23] at H
              have c23b0 : (t315 == 0) = false := beq_eq_false_iff_ne.mpr c23
              have c23b1 : (t315 != 0) = true := bne_iff_ne.mpr c23
              have H' := Aside0.mk H
              clear H
              go_wp2
              repeat (go_quiet (fail); try go_wp2)
              go_meet
              case rel => exact ⟨_, (true), (by first | rfl | (simp; done) | (simp [*]; done)), H', ⟨by have := HJ1.out; first | omega | exact Nat.le_refl _⟩, ⟨by (with_reducible repeat (first | refine blk_drewN ?_ _ | refine blk_drew ?_ | refine blk_alloc ?_ _)); refine blk_far ?_ NB311_316.out _; (with_reducible repeat (first | refine blk_drewN ?_ _ | refine blk_drew ?_ | refine blk_alloc ?_ _)); refine blk_far ?_ NB311_316.out _; (with_reducible repeat (first | refine blk_drewN ?_ _ | refine blk_drew ?_ | refine blk_alloc ?_ _)); refine blk_far ?_ NB311_316.out _; (with_reducible repeat (first | refine blk_drewN ?_ _ | refine blk_drew ?_ | refine blk_alloc ?_ _)); exact BK311.out⟩, ⟨by (with_reducible repeat (first | refine blk_drewN ?_ _ | refine blk_drew ?_ | refine blk_alloc ?_ _)); refine blk_put (cs := #[.int .i64 t312, .int .i64 t313, .int .i64 0]) ?_ 2 _ rfl; (with_reducible repeat (first | refine blk_drewN ?_ _ | refine blk_drew ?_ | refine blk_alloc ?_ _)); refine blk_put (cs := #[.int .i64 t312, .int .i64 0, .int .i64 0]) ?_ 1 _ rfl; (with_reducible repeat (first | refine blk_drewN ?_ _ | refine blk_drew ?_ | refine blk_alloc ?_ _)); refine blk_put (cs := #[.int .i64 0, .int .i64 0, .int .i64 0]) ?_ 0 _ rfl; (with_reducible repeat (first | refine blk_drewN ?_ _ | refine blk_drew ?_ | refine blk_alloc ?_ _)); exact BK316.out⟩, ⟨by repeat (first | (with_reducible first | exact HB.out | apply below_alloc | apply pw_below_drewN | apply below_drew1 | refine below_set ?_ GE311.out | refine below_set ?_ GE316.out) | exact HB.out)⟩⟩
          · rw [if_neg c22] at H
            have c22b0 : (t310 == 0) = false := beq_eq_false_iff_ne.mpr c22
            have c22b1 : (t310 != 0) = true := bne_iff_ne.mpr c22
            (first | rw [c22b0] | (simp only [i64_w, i32_w]; rw [c22b0]) | skip)
            have H' := Aside0.mk H
            clear H
            go_wp2
            repeat (go_quiet (fail); try go_wp2)
            go_meet
            case rel => exact ⟨_, (true), (by first | rfl | (simp; done) | (simp [*]; done)), H', ⟨by have := HJ1.out; first | omega | exact Nat.le_refl _⟩, ⟨by (with_reducible repeat (first | refine blk_drewN ?_ _ | refine blk_drew ?_ | refine blk_alloc ?_ _)); refine blk_far ?_ NB311_316.out _; (with_reducible repeat (first | refine blk_drewN ?_ _ | refine blk_drew ?_ | refine blk_alloc ?_ _)); refine blk_far ?_ NB311_316.out _; (with_reducible repeat (first | refine blk_drewN ?_ _ | refine blk_drew ?_ | refine blk_alloc ?_ _)); refine blk_far ?_ NB311_316.out _; (with_reducible repeat (first | refine blk_drewN ?_ _ | refine blk_drew ?_ | refine blk_alloc ?_ _)); exact BK311.out⟩, ⟨by (with_reducible repeat (first | refine blk_drewN ?_ _ | refine blk_drew ?_ | refine blk_alloc ?_ _)); refine blk_put (cs := #[.int .i64 t312, .int .i64 t313, .int .i64 0]) ?_ 2 _ rfl; (with_reducible repeat (first | refine blk_drewN ?_ _ | refine blk_drew ?_ | refine blk_alloc ?_ _)); refine blk_put (cs := #[.int .i64 t312, .int .i64 0, .int .i64 0]) ?_ 1 _ rfl; (with_reducible repeat (first | refine blk_drewN ?_ _ | refine blk_drew ?_ | refine blk_alloc ?_ _)); refine blk_put (cs := #[.int .i64 0, .int .i64 0, .int .i64 0]) ?_ 0 _ rfl; (with_reducible repeat (first | refine blk_drewN ?_ _ | refine blk_drew ?_ | refine blk_alloc ?_ _)); exact BK316.out⟩, ⟨by repeat (first | (with_reducible first | exact HB.out | apply below_alloc | apply pw_below_drewN | apply below_drew1 | refine below_set ?_ GE311.out | refine below_set ?_ GE316.out) | exact HB.out)⟩⟩
        case rest =>
          clear HC14
          try clear c1
          try clear c2
          try clear p2
          try clear c4
          try clear c5
          try clear c5b0
          try clear p6
          try clear c9
          try clear c11
          try clear c20
          try clear c22
          try clear c22b0
          try clear c22b1
          try clear c23
          try clear c23b0
          try clear c23b1
          try clear hcz17_0
          try clear hcz17_1
          try clear hcz17_2
          try clear hcz21_0
          try clear hcz21_1
          try clear hcz21_2
          try clear hfz17_0
          try clear hfz17_1
          try clear hfz17_2
          try clear hfz21_0
          try clear hfz21_1
          try clear hfz21_2
          try clear p2
          obtain ⟨kq, x44_13, rfl, HA, HJ13, BK311, BK316, HB⟩ := hcut
          cases kq with
          | zero => exact absurd HA.out (by simp [trystlaw01_RataNext.j1])
          | succ kj13 =>
            have H := HA.out
            clear HA
            simp only [trystlaw01_RataNext.j1] at H
            by_cases c26 : x44_13 = true
            · subst c26
              have H1 : (some false) = some r := by rw [if_pos rfl] at H; exact H
              clear H
              have H := H1
              clear H1
              obtain rfl := Option.some.inj H
              go_wp2
              repeat (go_quiet (fail); try go_wp2)
              go_ret
              exact ⟨by first | rfl | (simp [errW_none, errW_some] <;> rfl) | (simp [*, errW_none, errW_some] <;> rfl), by repeat (first | (with_reducible first | exact HB.out | apply below_alloc | apply pw_below_drewN | apply below_drew1 | refine below_set ?_ GE311.out | refine below_set ?_ GE316.out) | exact HB.out)⟩
            · replace c26 := Bool.eq_false_iff.mpr c26
              subst c26
              have H1 : ((rata_Length.f kj13 t307 t308).bind fun t319 => (if t309 < t319 then (some (t312 == t307 && (t313 == t308 && (t314 == (wrap64 (t309 + 1)))))) else (if t308 < 12 then (some (t312 == t307 && (t313 == (wrap64 (t308 + 1)) && (t314 == 1)))) else (some (t312 == (wrap64 (t307 + 1)) && (t313 == 1 && (t314 == 1))))))) = some r := by rw [if_neg (show ¬ (false = true) by decide)] at H; exact H
              clear H
              have H := H1
              clear H1
              replace H := Option.bind_eq_some_iff.mp H
              obtain ⟨t319, A270, H⟩ := H
              replace H : (if t309 < t319 then (some (t312 == t307 && (t313 == t308 && (t314 == (wrap64 (t309 + 1)))))) else (if t308 < 12 then (some (t312 == t307 && (t313 == (wrap64 (t308 + 1)) && (t314 == 1)))) else (some (t312 == (wrap64 (t307 + 1)) && (t313 == 1 && (t314 == 1)))))) = some r := H
              have A27 := Aside0.mk A270
              clear A270
              by_cases c28 : t309 < t319
              · rw [if_pos c28] at H
                have c28b0 : decide (t309 < t319) = true := decide_eq_true c28
                clear c28
                obtain rfl := Option.some.inj H
                have hnb29 := NB311_316.out
                have hnc29 := NB316_311.out
                have hcz30_0 : wc.cell? ⟨gb311, 0, none⟩ = some (.int .i64 t307) := (blk_cell BK311.out 0).trans rfl
                have hcz30_1 : wc.cell? ⟨gb311, 1, none⟩ = some (.int .i64 t308) := (blk_cell BK311.out 1).trans rfl
                have hcz30_2 : wc.cell? ⟨gb311, 2, none⟩ = some (.int .i64 t309) := (blk_cell BK311.out 2).trans rfl
                have hfz30_0 := blk_frozen BK311.out 0
                have hfz30_1 := blk_frozen BK311.out 1
                have hfz30_2 := blk_frozen BK311.out 2
                go_wp2_with (first | (go_at_call 29; (with_reducible refine (rata_Length.calls kj13 t307 t308 t319 _ A27.out).mono ?_); rintro e w' ⟨rfl, ⟨nd, rfl⟩⟩; (try first | exact ⟨rfl, _, World.drewN_drewN _ _ _⟩ | exact ⟨rfl, _, Eq.trans (World.drewN_drewN _ _ _) (congrArg (World.drewN _) (Nat.add_assoc _ _ _))⟩); have hcz31_0 : wc.cell? ⟨gb316, 0, none⟩ = some (.int .i64 t312) := (blk_cell BK316.out 0).trans rfl; have hcz31_1 : wc.cell? ⟨gb316, 1, none⟩ = some (.int .i64 t313) := (blk_cell BK316.out 1).trans rfl; have hcz31_2 : wc.cell? ⟨gb316, 2, none⟩ = some (.int .i64 t314) := (blk_cell BK316.out 2).trans rfl; have hfz31_0 := blk_frozen BK316.out 0; have hfz31_1 := blk_frozen BK316.out 1; have hfz31_2 := blk_frozen BK316.out 2))
                repeat (go_quiet (first | (go_at_call 29; (with_reducible refine (rata_Length.calls kj13 t307 t308 t319 _ A27.out).mono ?_); rintro e w' ⟨rfl, ⟨nd, rfl⟩⟩; (try first | exact ⟨rfl, _, World.drewN_drewN _ _ _⟩ | exact ⟨rfl, _, Eq.trans (World.drewN_drewN _ _ _) (congrArg (World.drewN _) (Nat.add_assoc _ _ _))⟩); have hcz31_0 : wc.cell? ⟨gb316, 0, none⟩ = some (.int .i64 t312) := (blk_cell BK316.out 0).trans rfl; have hcz31_1 : wc.cell? ⟨gb316, 1, none⟩ = some (.int .i64 t313) := (blk_cell BK316.out 1).trans rfl; have hcz31_2 : wc.cell? ⟨gb316, 2, none⟩ = some (.int .i64 t314) := (blk_cell BK316.out 2).trans rfl; have hfz31_0 := blk_frozen BK316.out 0; have hfz31_1 := blk_frozen BK316.out 1; have hfz31_2 := blk_frozen BK316.out 2)); try go_wp2_with (first | (go_at_call 29; (with_reducible refine (rata_Length.calls kj13 t307 t308 t319 _ A27.out).mono ?_); rintro e w' ⟨rfl, ⟨nd, rfl⟩⟩; (try first | exact ⟨rfl, _, World.drewN_drewN _ _ _⟩ | exact ⟨rfl, _, Eq.trans (World.drewN_drewN _ _ _) (congrArg (World.drewN _) (Nat.add_assoc _ _ _))⟩); have hcz31_0 : wc.cell? ⟨gb316, 0, none⟩ = some (.int .i64 t312) := (blk_cell BK316.out 0).trans rfl; have hcz31_1 : wc.cell? ⟨gb316, 1, none⟩ = some (.int .i64 t313) := (blk_cell BK316.out 1).trans rfl; have hcz31_2 : wc.cell? ⟨gb316, 2, none⟩ = some (.int .i64 t314) := (blk_cell BK316.out 2).trans rfl; have hfz31_0 := blk_frozen BK316.out 0; have hfz31_1 := blk_frozen BK316.out 1; have hfz31_2 := blk_frozen BK316.out 2)))
                go_ret
                exact ⟨by first | rfl | (simp [errW_none, errW_some] <;> rfl) | (simp [*, errW_none, errW_some] <;> rfl), by repeat (first | (with_reducible first | exact HB.out | apply below_alloc | apply pw_below_drewN | apply below_drew1 | refine below_set ?_ GE311.out | refine below_set ?_ GE316.out) | exact HB.out)⟩
              · rw [if_neg c28] at H
                have c28b0 : decide (t309 < t319) = false := decide_eq_false c28
                clear c28
                by_cases c32 : t308 < 12
                · rw [if_pos c32] at H
                  have c32b0 : decide (t308 < 12) = true := decide_eq_true c32
                  clear c32
                  obtain rfl := Option.some.inj H
                  have hnb33 := NB311_316.out
                  have hnc33 := NB316_311.out
                  have hcz34_0 : wc.cell? ⟨gb311, 0, none⟩ = some (.int .i64 t307) := (blk_cell BK311.out 0).trans rfl
                  have hcz34_1 : wc.cell? ⟨gb311, 1, none⟩ = some (.int .i64 t308) := (blk_cell BK311.out 1).trans rfl
                  have hcz34_2 : wc.cell? ⟨gb311, 2, none⟩ = some (.int .i64 t309) := (blk_cell BK311.out 2).trans rfl
                  have hfz34_0 := blk_frozen BK311.out 0
                  have hfz34_1 := blk_frozen BK311.out 1
                  have hfz34_2 := blk_frozen BK311.out 2
                  go_wp2_with (first | (go_at_call 29; (with_reducible refine (rata_Length.calls kj13 t307 t308 t319 _ A27.out).mono ?_); rintro e w' ⟨rfl, ⟨nd, rfl⟩⟩; (try first | exact ⟨rfl, _, World.drewN_drewN _ _ _⟩ | exact ⟨rfl, _, Eq.trans (World.drewN_drewN _ _ _) (congrArg (World.drewN _) (Nat.add_assoc _ _ _))⟩); have hcz35_0 : wc.cell? ⟨gb316, 0, none⟩ = some (.int .i64 t312) := (blk_cell BK316.out 0).trans rfl; have hcz35_1 : wc.cell? ⟨gb316, 1, none⟩ = some (.int .i64 t313) := (blk_cell BK316.out 1).trans rfl; have hcz35_2 : wc.cell? ⟨gb316, 2, none⟩ = some (.int .i64 t314) := (blk_cell BK316.out 2).trans rfl; have hfz35_0 := blk_frozen BK316.out 0; have hfz35_1 := blk_frozen BK316.out 1; have hfz35_2 := blk_frozen BK316.out 2))
                  repeat (go_quiet (first | (go_at_call 29; (with_reducible refine (rata_Length.calls kj13 t307 t308 t319 _ A27.out).mono ?_); rintro e w' ⟨rfl, ⟨nd, rfl⟩⟩; (try first | exact ⟨rfl, _, World.drewN_drewN _ _ _⟩ | exact ⟨rfl, _, Eq.trans (World.drewN_drewN _ _ _) (congrArg (World.drewN _) (Nat.add_assoc _ _ _))⟩); have hcz35_0 : wc.cell? ⟨gb316, 0, none⟩ = some (.int .i64 t312) := (blk_cell BK316.out 0).trans rfl; have hcz35_1 : wc.cell? ⟨gb316, 1, none⟩ = some (.int .i64 t313) := (blk_cell BK316.out 1).trans rfl; have hcz35_2 : wc.cell? ⟨gb316, 2, none⟩ = some (.int .i64 t314) := (blk_cell BK316.out 2).trans rfl; have hfz35_0 := blk_frozen BK316.out 0; have hfz35_1 := blk_frozen BK316.out 1; have hfz35_2 := blk_frozen BK316.out 2)); try go_wp2_with (first | (go_at_call 29; (with_reducible refine (rata_Length.calls kj13 t307 t308 t319 _ A27.out).mono ?_); rintro e w' ⟨rfl, ⟨nd, rfl⟩⟩; (try first | exact ⟨rfl, _, World.drewN_drewN _ _ _⟩ | exact ⟨rfl, _, Eq.trans (World.drewN_drewN _ _ _) (congrArg (World.drewN _) (Nat.add_assoc _ _ _))⟩); have hcz35_0 : wc.cell? ⟨gb316, 0, none⟩ = some (.int .i64 t312) := (blk_cell BK316.out 0).trans rfl; have hcz35_1 : wc.cell? ⟨gb316, 1, none⟩ = some (.int .i64 t313) := (blk_cell BK316.out 1).trans rfl; have hcz35_2 : wc.cell? ⟨gb316, 2, none⟩ = some (.int .i64 t314) := (blk_cell BK316.out 2).trans rfl; have hfz35_0 := blk_frozen BK316.out 0; have hfz35_1 := blk_frozen BK316.out 1; have hfz35_2 := blk_frozen BK316.out 2)))
                  go_ret
                  exact ⟨by first | rfl | (simp [errW_none, errW_some] <;> rfl) | (simp [*, errW_none, errW_some] <;> rfl), by repeat (first | (with_reducible first | exact HB.out | apply below_alloc | apply pw_below_drewN | apply below_drew1 | refine below_set ?_ GE311.out | refine below_set ?_ GE316.out) | exact HB.out)⟩
                · rw [if_neg c32] at H
                  have c32b0 : decide (t308 < 12) = false := decide_eq_false c32
                  clear c32
                  obtain rfl := Option.some.inj H
                  have hnb36 := NB311_316.out
                  have hnc36 := NB316_311.out
                  have hcz37_0 : wc.cell? ⟨gb311, 0, none⟩ = some (.int .i64 t307) := (blk_cell BK311.out 0).trans rfl
                  have hcz37_1 : wc.cell? ⟨gb311, 1, none⟩ = some (.int .i64 t308) := (blk_cell BK311.out 1).trans rfl
                  have hcz37_2 : wc.cell? ⟨gb311, 2, none⟩ = some (.int .i64 t309) := (blk_cell BK311.out 2).trans rfl
                  have hfz37_0 := blk_frozen BK311.out 0
                  have hfz37_1 := blk_frozen BK311.out 1
                  have hfz37_2 := blk_frozen BK311.out 2
                  go_wp2_with (first | (go_at_call 29; (with_reducible refine (rata_Length.calls kj13 t307 t308 t319 _ A27.out).mono ?_); rintro e w' ⟨rfl, ⟨nd, rfl⟩⟩; (try first | exact ⟨rfl, _, World.drewN_drewN _ _ _⟩ | exact ⟨rfl, _, Eq.trans (World.drewN_drewN _ _ _) (congrArg (World.drewN _) (Nat.add_assoc _ _ _))⟩); have hcz38_0 : wc.cell? ⟨gb316, 0, none⟩ = some (.int .i64 t312) := (blk_cell BK316.out 0).trans rfl; have hcz38_1 : wc.cell? ⟨gb316, 1, none⟩ = some (.int .i64 t313) := (blk_cell BK316.out 1).trans rfl; have hcz38_2 : wc.cell? ⟨gb316, 2, none⟩ = some (.int .i64 t314) := (blk_cell BK316.out 2).trans rfl; have hfz38_0 := blk_frozen BK316.out 0; have hfz38_1 := blk_frozen BK316.out 1; have hfz38_2 := blk_frozen BK316.out 2))
                  repeat (go_quiet (first | (go_at_call 29; (with_reducible refine (rata_Length.calls kj13 t307 t308 t319 _ A27.out).mono ?_); rintro e w' ⟨rfl, ⟨nd, rfl⟩⟩; (try first | exact ⟨rfl, _, World.drewN_drewN _ _ _⟩ | exact ⟨rfl, _, Eq.trans (World.drewN_drewN _ _ _) (congrArg (World.drewN _) (Nat.add_assoc _ _ _))⟩); have hcz38_0 : wc.cell? ⟨gb316, 0, none⟩ = some (.int .i64 t312) := (blk_cell BK316.out 0).trans rfl; have hcz38_1 : wc.cell? ⟨gb316, 1, none⟩ = some (.int .i64 t313) := (blk_cell BK316.out 1).trans rfl; have hcz38_2 : wc.cell? ⟨gb316, 2, none⟩ = some (.int .i64 t314) := (blk_cell BK316.out 2).trans rfl; have hfz38_0 := blk_frozen BK316.out 0; have hfz38_1 := blk_frozen BK316.out 1; have hfz38_2 := blk_frozen BK316.out 2)); try go_wp2_with (first | (go_at_call 29; (with_reducible refine (rata_Length.calls kj13 t307 t308 t319 _ A27.out).mono ?_); rintro e w' ⟨rfl, ⟨nd, rfl⟩⟩; (try first | exact ⟨rfl, _, World.drewN_drewN _ _ _⟩ | exact ⟨rfl, _, Eq.trans (World.drewN_drewN _ _ _) (congrArg (World.drewN _) (Nat.add_assoc _ _ _))⟩); have hcz38_0 : wc.cell? ⟨gb316, 0, none⟩ = some (.int .i64 t312) := (blk_cell BK316.out 0).trans rfl; have hcz38_1 : wc.cell? ⟨gb316, 1, none⟩ = some (.int .i64 t313) := (blk_cell BK316.out 1).trans rfl; have hcz38_2 : wc.cell? ⟨gb316, 2, none⟩ = some (.int .i64 t314) := (blk_cell BK316.out 2).trans rfl; have hfz38_0 := blk_frozen BK316.out 0; have hfz38_1 := blk_frozen BK316.out 1; have hfz38_2 := blk_frozen BK316.out 2)))
                  go_ret
                  exact ⟨by first | rfl | (simp [errW_none, errW_some] <;> rfl) | (simp [*, errW_none, errW_some] <;> rfl), by repeat (first | (with_reducible first | exact HB.out | apply below_alloc | apply pw_below_drewN | apply below_drew1 | refine below_set ?_ GE311.out | refine below_set ?_ GE316.out) | exact HB.out)⟩

/-- THE ONE PURE STATEMENT of trystlaw01_RataNext: yours. -/
def trystlaw01_RataNext.Pure : Prop := ∀ (a0 : Int), (Lit.int .i64 a0).wf = true → ∃ k, trystlaw01_RataNext.f k a0 = some true
theorem trystlaw01_RataNext.walk (P : trystlaw01_RataNext.Pure) (a0 : Int) (w : World) (w0 : (Lit.int .i64 a0).wf = true) :
    Calls Try.prog 11 #[.int .i64 a0] w fun e w' => e = .returned (.bool true) ∧ Below w.heap.size w w' := by
  obtain ⟨k, h⟩ := P a0 w0
  refine (trystlaw01_RataNext.calls k a0 true w h).mono ?_
  rintro e w' ⟨rfl, hd⟩
  exact ⟨rfl, hd⟩

end Go.Proofs.Ytabopabcehcdaaa.Q
