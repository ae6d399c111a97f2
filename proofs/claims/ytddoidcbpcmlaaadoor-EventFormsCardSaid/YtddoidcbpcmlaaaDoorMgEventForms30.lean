/- Texts of this claim, merged: Mr8u. -/
import Derived.Test.YtddoidcbpcmlaaaDoorMgEventForms13
namespace Go.Proofs.YtddoidcbpcmlaaaDoor.M
open Go.RowKit Go.Proofs.YtddoidcbpcmlaaaDoorW.PrintWords Go.Proofs.YtddoidcbpcmlaaaDoorW.PrintLast Go.Proofs.YtddoidcbpcmlaaaDoorW.PrintMore
attribute [local go_sem] max2_int min2_int max_two min_two
set_option linter.unusedVariables false
set_option linter.unusedSimpArgs false
/-! ### trystref08_next: function 88 -/
mutual
def trystref08_next.j2 : Nat → ByteArray → Int → Int → Int → Option (Int)
 | 0, _, _, _, _ => none
 | k + 1, x0, x1, x5, x6 => if (wrap64 (x1 + x6)) > (x0.size : Int) then (some 0) else (trystref08_next.l0 k x0 x1 x5 x6 1)
def trystref08_next.l0 : Nat → ByteArray → Int → Int → Int → Int → Option (Int)
 | 0, _, _, _, _, _ => none
 | k + 1, x0, x1, x5, x6, x7 => if x7 < x6 then (if 0 ≤ (wrap64 (x1 + x7)) then (if (wrap64 (x1 + x7)) < (x0.size : Int) then (if (bt x0 (wrap64 (x1 + x7))) < 128 then (some 0) else (if (bt x0 (wrap64 (x1 + x7))) > 191 then (some 0) else (trystref08_next.l0 k x0 x1 x5 x6 (wrap64 (x7 + 1))))) else (none)) else (none)) else (if 0 ≤ (wrap64 (x1 + 1)) then (if (wrap64 (x1 + 1)) < (x0.size : Int) then (if x5 = 224 then (if (bt x0 (wrap64 (x1 + 1))) < 160 then (some 0) else (if x5 = 237 then (if (bt x0 (wrap64 (x1 + 1))) > 159 then (some 0) else (if x5 = 240 then (if (bt x0 (wrap64 (x1 + 1))) < 144 then (some 0) else (if x5 = 244 then (if (bt x0 (wrap64 (x1 + 1))) > 143 then (some 0) else (some x6)) else (some x6))) else (if x5 = 244 then (if (bt x0 (wrap64 (x1 + 1))) > 143 then (some 0) else (some x6)) else (some x6)))) else (if x5 = 240 then (if (bt x0 (wrap64 (x1 + 1))) < 144 then (some 0) else (if x5 = 244 then (if (bt x0 (wrap64 (x1 + 1))) > 143 then (some 0) else (some x6)) else (some x6))) else (if x5 = 244 then (if (bt x0 (wrap64 (x1 + 1))) > 143 then (some 0) else (some x6)) else (some x6))))) else (if x5 = 237 then (if (bt x0 (wrap64 (x1 + 1))) > 159 then (some 0) else (if x5 = 240 then (if (bt x0 (wrap64 (x1 + 1))) < 144 then (some 0) else (if x5 = 244 then (if (bt x0 (wrap64 (x1 + 1))) > 143 then (some 0) else (some x6)) else (some x6))) else (if x5 = 244 then (if (bt x0 (wrap64 (x1 + 1))) > 143 then (some 0) else (some x6)) else (some x6)))) else (if x5 = 240 then (if (bt x0 (wrap64 (x1 + 1))) < 144 then (some 0) else (if x5 = 244 then (if (bt x0 (wrap64 (x1 + 1))) > 143 then (some 0) else (some x6)) else (some x6))) else (if x5 = 244 then (if (bt x0 (wrap64 (x1 + 1))) > 143 then (some 0) else (some x6)) else (some x6))))) else (none)) else (none))
def trystref08_next.j0 : Nat → ByteArray → Int → Int → Bool → Option (Int)
 | 0, _, _, _, _ => none
 | k + 1, x0, x1, x5, x15 => if x15 = true then (trystref08_next.j2 k x0 x1 x5 2) else (if x5 ≥ 224 then (trystref08_next.j1 k x0 x1 x5 (decide (x5 < 240))) else (trystref08_next.j1 k x0 x1 x5 false))
def trystref08_next.j1 : Nat → ByteArray → Int → Int → Bool → Option (Int)
 | 0, _, _, _, _ => none
 | k + 1, x0, x1, x5, x22 => if x22 = true then (trystref08_next.j2 k x0 x1 x5 3) else (if x5 ≥ 240 then (if x5 < 245 then (trystref08_next.j2 k x0 x1 x5 4) else (some 0)) else (some 0))
end
def trystref08_next.f (k : Nat) (a0 : ByteArray) (a1 : Int) : Option (Int) := if 0 ≤ a1 then (if a1 < (a0.size : Int) then (if (bt a0 a1) < 128 then (some 1) else (if (bt a0 a1) ≥ 194 then (trystref08_next.j0 k a0 a1 (bt a0 a1) (decide ((bt a0 a1) < 224))) else (trystref08_next.j0 k a0 a1 (bt a0 a1) false))) else (none)) else (none)
set_option maxHeartbeats 8000000 in
set_option maxRecDepth 100000 in
theorem trystref08_next.calls (k : Nat) (a0 : ByteArray) (a1 : Int) (r : Int) (w : World) (h : trystref08_next.f k a0 a1 = some r) :
  Calls Tryd.prog 88 #[.string a0, .int .i64 a1] w fun e w' => e = .returned (.int .i64 r) ∧ Drawn0 w w' := by
 have H : (if 0 ≤ a1 then (if a1 < (a0.size : Int) then (if (bt a0 a1) < 128 then (some 1) else (if (bt a0 a1) ≥ 194 then (trystref08_next.j0 k a0 a1 (bt a0 a1) (decide ((bt a0 a1) < 224))) else (trystref08_next.j0 k a0 a1 (bt a0 a1) false))) else (none)) else (none)) = some r := h
 clear h
 by_cases c3 : 0 ≤ a1
 ·rw [if_pos c3] at H
  have c3b0 : decide (0 ≤ a1) = true := decide_eq_true c3
  clear c3
  by_cases c4 : a1 < (a0.size : Int)
  ·rw [if_pos c4] at H
   have c4b0 : decide (a1 < (a0.size : Int)) = true := decide_eq_true c4
   clear c4
   have HC6 := Aside0.mk H
   clear H
   have p5 : 0 ≤ (a1 : Int) := of_decide_eq_true (by first | (with_reducible assumption) | assumption)
   have q5 : a1 < (a0.size : Int) := of_decide_eq_true (by first | (with_reducible assumption) | assumption)
   have hx5 := bt_at a0 a1
   replace p5 := eq_true p5
   replace q5 := eq_true q5
   go_enter Tryd.func88, Tryd.ntmps88
   go_upto_block 0 with (fail)
   go_cut [6] (fun v6 wc => ∃ (kq : Nat) (x6_5 : Int), v6 = .int .i64 x6_5 ∧ Aside0 (trystref08_next.j2 kq a0 a1 (bt a0 a1) x6_5 = some r) ∧ Aside0 (kq ≤ k) ∧ Drawn0 w wc)
   case first =>
    have H := HC6.out
    clear HC6
    by_cases c7 : (bt a0 a1) < 128
    ·rw [if_pos c7] at H
     have c7b0 : decide ((bt a0 a1) < 128) = true := decide_eq_true c7
     clear c7
     (first | rw [c7b0] | (simp only [i64_w, i32_w]; rw [c7b0]) | skip)
     obtain rfl := Option.some.inj H
     go_wp2
     go_ret
     exact ⟨by first | rfl | simp | simp [*] | simp [bne_nil_], by repeat (first | exact Drawn0.refl _ | apply Drawn0.step)⟩
    ·rw [if_neg c7] at H
     have c7b0 : decide ((bt a0 a1) < 128) = false := decide_eq_false c7
     clear c7
     (first | rw [c7b0] | (simp only [i64_w, i32_w]; rw [c7b0]) | skip)
     have HC8 := Aside0.mk H
     clear H
     go_upto_region 6 with (fail)
     go_cut [15] (fun v15 wc => ∃ (kq : Nat) (x15_7 : Bool), v15 = .bool x15_7 ∧ Aside0 (trystref08_next.j0 kq a0 a1 (bt a0 a1) x15_7 = some r) ∧ Aside0 (kq ≤ k) ∧ Drawn0 w wc)
     case first =>
      have H := HC8.out
      clear HC8
      by_cases c9 : (bt a0 a1) ≥ 194
      ·rw [if_pos c9] at H
       have c9b0 : decide (194 ≤ (bt a0 a1)) = true := decide_eq_true c9
       clear c9
       (first | rw [c9b0] | (simp only [i64_w, i32_w]; rw [c9b0]) | skip)
       have H' := Aside0.mk H
       clear H
       go_wp2
       go_meet
       case rel => exact ⟨_, (decide ((bt a0 a1) < 224)), (by first | rfl | (simp; done) | (simp [*]; done)), H', ⟨by first | omega | exact Nat.le_refl _⟩, by repeat (first | exact Drawn0.refl _ | apply Drawn0.step)⟩
      ·rw [if_neg c9] at H
       have c9b0 : decide (194 ≤ (bt a0 a1)) = false := decide_eq_false c9
       clear c9
       (first | rw [c9b0] | (simp only [i64_w, i32_w]; rw [c9b0]) | skip)
       have H' := Aside0.mk H
       clear H
       go_wp2
       go_meet
       case rel => exact ⟨_, (false), (by first | rfl | (simp; done) | (simp [*]; done)), H', ⟨by first | omega | exact Nat.le_refl _⟩, by repeat (first | exact Drawn0.refl _ | apply Drawn0.step)⟩
     case rest =>
      clear HC8
      try clear p2
      try clear c3
      try clear c3b0
      try clear c4
      try clear c4b0
      try clear p5
      try clear q5
      try clear hx5
      try clear c7
      try clear c7b0
      try clear c8
      try clear c9
      try clear c9b0
      try clear p5
      try clear q5
      obtain ⟨kq, x15_7, rfl, HA, HJ7, ⟨mc7, rfl⟩⟩ := hcut
      cases kq with
      | zero => exact absurd HA.out (by simp [trystref08_next.j0])
      | succ kj7 =>
       have H := HA.out
       clear HA
       simp only [trystref08_next.j0] at H
       by_cases c10 : x15_7 = true
       ·subst c10
        have H1 : (trystref08_next.j2 kj7 a0 a1 (bt a0 a1) 2) = some r := by rw [if_pos rfl] at H; exact H
        clear H
        have H := H1
        clear H1
        have H' := Aside0.mk H
        clear H
        go_wp2
        go_meet
        case rel => exact ⟨_, (2), (by first | rfl | (simp; done) | (simp [*]; done)), H', ⟨by have := HJ7.out; first | omega | exact Nat.le_refl _⟩, by repeat (first | exact Drawn0.refl _ | apply Drawn0.step)⟩
       ·replace c10 := Bool.eq_false_iff.mpr c10
        subst c10
        have H1 : (if (bt a0 a1) ≥ 224 then (trystref08_next.j1 kj7 a0 a1 (bt a0 a1) (decide ((bt a0 a1) < 240))) else (trystref08_next.j1 kj7 a0 a1 (bt a0 a1) false)) = some r := by rw [if_neg (show ¬ (false = true) by decide)] at H; exact H
        clear H
        have H := H1
        clear H1
        have HC11 := Aside0.mk H
        clear H
        go_upto_region 8 with (fail)
        go_cut [22] (fun v22 wc => ∃ (kq : Nat) (x22_10 : Bool), v22 = .bool x22_10 ∧ Aside0 (trystref08_next.j1 kq a0 a1 (bt a0 a1) x22_10 = some r) ∧ Aside0 (kq ≤ kj7) ∧ Drawn0 w wc)
        case first =>
         have H := HC11.out
         clear HC11
         by_cases c12 : (bt a0 a1) ≥ 224
         ·rw [if_pos c12] at H
          have c12b0 : decide (224 ≤ (bt a0 a1)) = true := decide_eq_true c12
          clear c12
          (first | rw [c12b0] | (simp only [i64_w, i32_w]; rw [c12b0]) | skip)
          have H' := Aside0.mk H
          clear H
          go_wp2
          go_meet
          case rel => exact ⟨_, (decide ((bt a0 a1) < 240)), (by first | rfl | (simp; done) | (simp [*]; done)), H', ⟨by have := HJ7.out; first | omega | exact Nat.le_refl _⟩, by repeat (first | exact Drawn0.refl _ | apply Drawn0.step)⟩
         ·rw [if_neg c12] at H
          have c12b0 : decide (224 ≤ (bt a0 a1)) = false := decide_eq_false c12
          clear c12
          (first | rw [c12b0] | (simp only [i64_w, i32_w]; rw [c12b0]) | skip)
          have H' := Aside0.mk H
          clear H
          go_wp2
          go_meet
          case rel => exact ⟨_, (false), (by first | rfl | (simp; done) | (simp [*]; done)), H', ⟨by have := HJ7.out; first | omega | exact Nat.le_refl _⟩, by repeat (first | exact Drawn0.refl _ | apply Drawn0.step)⟩
        case rest =>
         clear HC11
         try clear c1
         try clear p2
         try clear c3
         try clear c3b0
         try clear c4
         try clear c4b0
         try clear p5
         try clear q5
         try clear hx5
         try clear c7
         try clear c7b0
         try clear c8
         try clear c9
         try clear c9b0
         try clear c10
         try clear c12
         try clear c12b0
         try clear p2
         try clear p5
         try clear q5
         obtain ⟨kq, x22_10, rfl, HA, HJ10, ⟨mc10, rfl⟩⟩ := hcut
         cases kq with
         | zero => exact absurd HA.out (by simp [trystref08_next.j1])
         | succ kj10 =>
          have H := HA.out
          clear HA
          simp only [trystref08_next.j1] at H
          by_cases c13 : x22_10 = true
          ·subst c13
           have H1 : (trystref08_next.j2 kj10 a0 a1 (bt a0 a1) 3) = some r := by rw [if_pos rfl] at H; exact H
           clear H
           have H := H1
           clear H1
           have H' := Aside0.mk H
           clear H
           go_wp2
           go_meet
           case rel => exact ⟨_, (3), (by first | rfl | (simp; done) | (simp [*]; done)), H', ⟨by have := HJ7.out; have := HJ10.out; first | omega | exact Nat.le_refl _⟩, by repeat (first | exact Drawn0.refl _ | apply Drawn0.step)⟩
          ·replace c13 := Bool.eq_false_iff.mpr c13
           subst c13
           have H1 : (if (bt a0 a1) ≥ 240 then (if (bt a0 a1) < 245 then (trystref08_next.j2 kj10 a0 a1 (bt a0 a1) 4) else (some 0)) else (some 0)) = some r := by rw [if_neg (show ¬ (false = true) by decide)] at H; exact H
           clear H
           have H := H1
           clear H1
           by_cases c14 : (bt a0 a1) ≥ 240
           ·rw [if_pos c14] at H
            have c14b0 : decide (240 ≤ (bt a0 a1)) = true := decide_eq_true c14
            clear c14
            by_cases c15 : (bt a0 a1) < 245
            ·rw [if_pos c15] at H
             have c15b0 : decide ((bt a0 a1) < 245) = true := decide_eq_true c15
             clear c15
             have H' := Aside0.mk H
             clear H
             go_wp2
             go_meet
             case rel => exact ⟨_, (4), (by first | rfl | (simp; done) | (simp [*]; done)), H', ⟨by have := HJ7.out; have := HJ10.out; first | omega | exact Nat.le_refl _⟩, by repeat (first | exact Drawn0.refl _ | apply Drawn0.step)⟩
            ·rw [if_neg c15] at H
             have c15b0 : decide ((bt a0 a1) < 245) = false := decide_eq_false c15
             clear c15
             obtain rfl := Option.some.inj H
             go_wp2
             go_ret
             exact ⟨by first | rfl | simp | simp [*] | simp [bne_nil_], by repeat (first | exact Drawn0.refl _ | apply Drawn0.step)⟩
           ·rw [if_neg c14] at H
            have c14b0 : decide (240 ≤ (bt a0 a1)) = false := decide_eq_false c14
            clear c14
            obtain rfl := Option.some.inj H
            go_wp2
            go_ret
            exact ⟨by first | rfl | simp | simp [*] | simp [bne_nil_], by repeat (first | exact Drawn0.refl _ | apply Drawn0.step)⟩
   case rest =>
    clear HC6
    try clear c1
    try clear p2
    try clear c3
    try clear c3b0
    try clear c4
    try clear c4b0
    try clear p5
    try clear q5
    try clear hx5
    try clear c7
    try clear c7b0
    try clear c8
    try clear c9
    try clear c9b0
    try clear c10
    try clear c12
    try clear c12b0
    try clear c13
    try clear c14
    try clear c14b0
    try clear c15
    try clear c15b0
    try clear p2
    try clear p5
    try clear q5
    obtain ⟨kq, x6_5, rfl, HA, HJ5, ⟨mc5, rfl⟩⟩ := hcut
    cases kq with
    | zero => exact absurd HA.out (by simp [trystref08_next.j2])
    | succ kj5 =>
     have H := HA.out
     clear HA
     simp only [trystref08_next.j2] at H
     by_cases c16 : (wrap64 (a1 + x6_5)) > (a0.size : Int)
     ·rw [if_pos c16] at H
      have c16b0 : decide ((a0.size : Int) < (wrap64 (a1 + x6_5))) = true := decide_eq_true c16
      clear c16
      obtain rfl := Option.some.inj H
      go_wp2
      go_ret
      exact ⟨by first | rfl | simp | simp [*] | simp [bne_nil_], by repeat (first | exact Drawn0.refl _ | apply Drawn0.step)⟩
     ·rw [if_neg c16] at H
      have c16b0 : decide ((a0.size : Int) < (wrap64 (a1 + x6_5))) = false := decide_eq_false c16
      clear c16
      have H' := Aside0.mk H
      clear H
      go_wp2
      go_loopg [7] kj5 (fun kq v7 w' => ∃ (x7_2 : Int), v7 = .int .i64 x7_2 ∧ Aside0 (trystref08_next.l0 kq a0 a1 (bt a0 a1) x6_5 x7_2 = some r) ∧ Aside0 (kq ≤ kj5) ∧ Drawn0 w w')
      case atStart => exact ⟨(1), (by first | rfl | (simp; done) | (simp [*]; done)), H', ⟨Nat.le_refl _⟩, by repeat (first | exact Drawn0.refl _ | apply Drawn0.step)⟩
      case round =>
       clear H'
       try clear c1
       try clear p2
       try clear c3
       try clear c3b0
       try clear c4
       try clear c4b0
       try clear c5
       try clear p5
       try clear q5
       try clear hx5
       try clear p6
       try clear c7
       try clear c7b0
       try clear c8
       try clear c9
       try clear c9b0
       try clear c10
       try clear c12
       try clear c12b0
       try clear c13
       try clear c14
       try clear c14b0
       try clear c15
       try clear c15b0
       try clear c16
       try clear c16b0
       try clear p2
       try clear p5
       try clear q5
       obtain ⟨x7_2, rfl, HA, HK2, ⟨m2, rfl⟩⟩ := hrel
       cases gk with
       | zero => exact absurd HA.out (by simp [trystref08_next.l0])
       | succ k2 =>
        have H := HA.out
        clear HA
        simp only [trystref08_next.l0] at H
        by_cases c17 : x7_2 < x6_5
        ·rw [if_pos c17] at H
         have c17b0 : decide (x7_2 < x6_5) = true := decide_eq_true c17
         clear c17
         obtain ⟨ji18, hji18⟩ : ∃ j_ : Int, (wrap64 (a1 + x7_2)) = j_ := ⟨_, rfl⟩
         replace H : (if 0 ≤ (ji18) then (if (ji18) < (a0.size : Int) then (if (bt a0 (ji18)) < 128 then (some 0) else (if (bt a0 (ji18)) > 191 then (some 0) else (trystref08_next.l0 k2 a0 a1 (bt a0 a1) x6_5 (wrap64 (x7_2 + 1))))) else (none)) else (none)) = some r := by first | (rw [hji18] at H; exact H) | (simp only [hji18] at H ⊢; exact H)
         have hji18w : (IntKind.i64.wrap (a1 + x7_2)) = ji18 := (i64_w _).trans hji18
         by_cases c19 : 0 ≤ (ji18)
         ·rw [if_pos c19] at H
          have c19b0 : decide (0 ≤ (ji18)) = true := decide_eq_true c19
          clear c19
          by_cases c20 : (ji18) < (a0.size : Int)
          ·rw [if_pos c20] at H
           have c20b0 : decide ((ji18) < (a0.size : Int)) = true := decide_eq_true c20
           clear c20
           by_cases c22 : (bt a0 (ji18)) < 128
           ·rw [if_pos c22] at H
            have c22b0 : decide ((bt a0 (ji18)) < 128) = true := decide_eq_true c22
            clear c22
            obtain rfl := Option.some.inj H
            have p21 : 0 ≤ ((ji18) : Int) := of_decide_eq_true (by first | (with_reducible assumption) | assumption)
            have q21 : (ji18) < (a0.size : Int) := of_decide_eq_true (by first | (with_reducible assumption) | assumption)
            have hx21 := bt_at a0 (ji18)
            replace p21 := eq_true p21
            replace q21 := eq_true q21
            go_wp2
            go_ret
            exact ⟨by first | rfl | (simp; done) | (simp only [← hji18] <;> (first | rfl | simp)) | (simp [*]; done), by repeat (first | exact Drawn0.refl _ | apply Drawn0.step)⟩
           ·rw [if_neg c22] at H
            have c22b0 : decide ((bt a0 (ji18)) < 128) = false := decide_eq_false c22
            clear c22
            by_cases c24 : (bt a0 (ji18)) > 191
            ·rw [if_pos c24] at H
             have c24b0 : decide (191 < (bt a0 (ji18))) = true := decide_eq_true c24
             clear c24
             obtain rfl := Option.some.inj H
             have p21 : 0 ≤ ((ji18) : Int) := of_decide_eq_true (by first | (with_reducible assumption) | assumption)
             have q21 : (ji18) < (a0.size : Int) := of_decide_eq_true (by first | (with_reducible assumption) | assumption)
             have hx21 := bt_at a0 (ji18)
             replace p21 := eq_true p21
             replace q21 := eq_true q21
             have p23 : 0 ≤ ((ji18) : Int) := of_decide_eq_true (by first | (with_reducible assumption) | assumption)
             have q23 : (ji18) < (a0.size : Int) := of_decide_eq_true (by first | (with_reducible assumption) | assumption)
             have hx23 := bt_at a0 (ji18)
             replace p23 := eq_true p23
             replace q23 := eq_true q23
             go_wp2
             go_ret
             exact ⟨by first | rfl | (simp; done) | (simp only [← hji18] <;> (first | rfl | simp)) | (simp [*]; done), by repeat (first | exact Drawn0.refl _ | apply Drawn0.step)⟩
            ·rw [if_neg c24] at H
             have c24b0 : decide (191 < (bt a0 (ji18))) = false := decide_eq_false c24
             clear c24
             have H' := Aside0.mk H
             clear H
             have p21 : 0 ≤ ((ji18) : Int) := of_decide_eq_true (by first | (with_reducible assumption) | assumption)
             have q21 : (ji18) < (a0.size : Int) := of_decide_eq_true (by first | (with_reducible assumption) | assumption)
             have hx21 := bt_at a0 (ji18)
             replace p21 := eq_true p21
             replace q21 := eq_true q21
             have p23 : 0 ≤ ((ji18) : Int) := of_decide_eq_true (by first | (with_reducible assumption) | assumption)
             have q23 : (ji18) < (a0.size : Int) := of_decide_eq_true (by first | (with_reducible assumption) | assumption)
             have hx23 := bt_at a0 (ji18)
             replace p23 := eq_true p23
             replace q23 := eq_true q23
             go_wp2
             go_roundg k2
             case measure => have := HJ5.out; have := HK2.out; omega
             case rel => exact ⟨(wrap64 (x7_2 + 1)), (by first | rfl | (simp; done) | (simp [*]; done)), H', ⟨by have := HJ5.out; have := HK2.out; omega⟩, by repeat (first | exact Drawn0.refl _ | apply Drawn0.step)⟩
          ·rw [if_neg c20] at H
           exact absurd H (by simp)
         ·rw [if_neg c19] at H
          exact absurd H (by simp)
        ·rw [if_neg c17] at H
         have c17b0 : decide (x7_2 < x6_5) = false := decide_eq_false c17
         clear c17
         obtain ⟨ji25, hji25⟩ : ∃ j_ : Int, (wrap64 (a1 + 1)) = j_ := ⟨_, rfl⟩
         replace H : (if 0 ≤ (ji25) then (if (ji25) < (a0.size : Int) then (if (bt a0 a1) = 224 then (if (bt a0 (ji25)) < 160 then (some 0) else (if (bt a0 a1) = 237 then (if (bt a0 (ji25)) > 159 then (some 0) else (if (bt a0 a1) = 240 then (if (bt a0 (ji25)) < 144 then (some 0) else (if (bt a0 a1) = 244 then (if (bt a0 (ji25)) > 143 then (some 0) else (some x6_5)) else (some x6_5))) else (if (bt a0 a1) = 244 then (if (bt a0 (ji25)) > 143 then (some 0) else (some x6_5)) else (some x6_5)))) else (if (bt a0 a1) = 240 then (if (bt a0 (ji25)) < 144 then (some 0) else (if (bt a0 a1) = 244 then (if (bt a0 (ji25)) > 143 then (some 0) else (some x6_5)) else (some x6_5))) else (if (bt a0 a1) = 244 then (if (bt a0 (ji25)) > 143 then (some 0) else (some x6_5)) else (some x6_5))))) else (if (bt a0 a1) = 237 then (if (bt a0 (ji25)) > 159 then (some 0) else (if (bt a0 a1) = 240 then (if (bt a0 (ji25)) < 144 then (some 0) else (if (bt a0 a1) = 244 then (if (bt a0 (ji25)) > 143 then (some 0) else (some x6_5)) else (some x6_5))) else (if (bt a0 a1) = 244 then (if (bt a0 (ji25)) > 143 then (some 0) else (some x6_5)) else (some x6_5)))) else (if (bt a0 a1) = 240 then (if (bt a0 (ji25)) < 144 then (some 0) else (if (bt a0 a1) = 244 then (if (bt a0 (ji25)) > 143 then (some 0) else (some x6_5)) else (some x6_5))) else (if (bt a0 a1) = 244 then (if (bt a0 (ji25)) > 143 then (some 0) else (some x6_5)) else (some x6_5))))) else (none)) else (none)) = some r := by first | (rw [hji25] at H; exact H) | (simp only [hji25] at H ⊢; exact H)
         have hji25w : (IntKind.i64.wrap (a1 + 1)) = ji25 := (i64_w _).trans hji25
         by_cases c26 : 0 ≤ (ji25)
         ·rw [if_pos c26] at H
          have c26b0 : decide (0 ≤ (ji25)) = true := decide_eq_true c26
          clear c26
          by_cases c27 : (ji25) < (a0.size : Int)
          ·rw [if_pos c27] at H
           have c27b0 : decide ((ji25) < (a0.size : Int)) = true := decide_eq_true c27
           clear c27
           by_cases c29 : (bt a0 a1) = 224
           ·rw [if_pos c29] at H
            have c29b0 : ((bt a0 a1) == 224) = true := beq_iff_eq.mpr c29
            have c29b1 : ((bt a0 a1) != 224) = false := bne_eq_false_iff_eq.mpr c29
            clear c29
            by_cases c30 : (bt a0 (ji25)) < 160
            ·rw [if_pos c30] at H
             have c30b0 : decide ((bt a0 (ji25)) < 160) = true := decide_eq_true c30
             clear c30
             obtain rfl := Option.some.inj H
             have p28 : 0 ≤ ((ji25) : Int) := of_decide_eq_true (by first | (with_reducible assumption) | assumption)
             have q28 : (ji25) < (a0.size : Int) := of_decide_eq_true (by first | (with_reducible assumption) | assumption)
             have hx28 := bt_at a0 (ji25)
             replace p28 := eq_true p28
             replace q28 := eq_true q28
             go_wp2
             go_ret
             exact ⟨by first | rfl | (simp; done) | (simp only [← hji25] <;> (first | rfl | simp)) | (simp [*]; done), by repeat (first | exact Drawn0.refl _ | apply Drawn0.step)⟩
            ·rw [if_neg c30] at H
             have c30b0 : decide ((bt a0 (ji25)) < 160) = false := decide_eq_false c30
             clear c30
             by_cases c31 : (bt a0 a1) = 237
             ·rw [if_pos c31] at H
              have c31b0 : ((bt a0 a1) == 237) = true := beq_iff_eq.mpr c31
              have c31b1 : ((bt a0 a1) != 237) = false := bne_eq_false_iff_eq.mpr c31
              clear c31
              by_cases c32 : (bt a0 (ji25)) > 159
              ·rw [if_pos c32] at H
               have c32b0 : decide (159 < (bt a0 (ji25))) = true := decide_eq_true c32
               clear c32
               obtain rfl := Option.some.inj H
               have p28 : 0 ≤ ((ji25) : Int) := of_decide_eq_true (by first | (with_reducible assumption) | assumption)
               have q28 : (ji25) < (a0.size : Int) := of_decide_eq_true (by first | (with_reducible assumption) | assumption)
               have hx28 := bt_at a0 (ji25)
               replace p28 := eq_true p28
               replace q28 := eq_true q28
               go_wp2
               go_ret
               exact ⟨by first | rfl | (simp; done) | (simp only [← hji25] <;> (first | rfl | simp)) | (simp [*]; done), by repeat (first | exact Drawn0.refl _ | apply Drawn0.step)⟩
              ·rw [if_neg c32] at H
               have c32b0 : decide (159 < (bt a0 (ji25))) = false := decide_eq_false c32
               clear c32
               by_cases c33 : (bt a0 a1) = 240
               ·rw [if_pos c33] at H
                have c33b0 : ((bt a0 a1) == 240) = true := beq_iff_eq.mpr c33
                have c33b1 : ((bt a0 a1) != 240) = false := bne_eq_false_iff_eq.mpr c33
                clear c33
                by_cases c34 : (bt a0 (ji25)) < 144
                ·rw [if_pos c34] at H
                 have c34b0 : decide ((bt a0 (ji25)) < 144) = true := decide_eq_true c34
                 clear c34
                 obtain rfl := Option.some.inj H
                 have p28 : 0 ≤ ((ji25) : Int) := of_decide_eq_true (by first | (with_reducible assumption) | assumption)
                 have q28 : (ji25) < (a0.size : Int) := of_decide_eq_true (by first | (with_reducible assumption) | assumption)
                 have hx28 := bt_at a0 (ji25)
                 replace p28 := eq_true p28
                 replace q28 := eq_true q28
                 go_wp2
                 go_ret
                 exact ⟨by first | rfl | (simp; done) | (simp only [← hji25] <;> (first | rfl | simp)) | (simp [*]; done), by repeat (first | exact Drawn0.refl _ | apply Drawn0.step)⟩
                ·rw [if_neg c34] at H
                 have c34b0 : decide ((bt a0 (ji25)) < 144) = false := decide_eq_false c34
                 clear c34
                 by_cases c35 : (bt a0 a1) = 244
                 ·rw [if_pos c35] at H
                  have c35b0 : ((bt a0 a1) == 244) = true := beq_iff_eq.mpr c35
                  have c35b1 : ((bt a0 a1) != 244) = false := bne_eq_false_iff_eq.mpr c35
                  clear c35
                  by_cases c36 : (bt a0 (ji25)) > 143
                  ·rw [if_pos c36] at H
                   have c36b0 : decide (143 < (bt a0 (ji25))) = true := decide_eq_true c36
                   clear c36
                   obtain rfl := Option.some.inj H
                   have p28 : 0 ≤ ((ji25) : Int) := of_decide_eq_true (by first | (with_reducible assumption) | assumption)
                   have q28 : (ji25) < (a0.size : Int) := of_decide_eq_true (by first | (with_reducible assumption) | assumption)
                   have hx28 := bt_at a0 (ji25)
                   replace p28 := eq_true p28
                   replace q28 := eq_true q28
                   go_wp2
                   go_ret
                   exact ⟨by first | rfl | (simp; done) | (simp only [← hji25] <;> (first | rfl | simp)) | (simp [*]; done), by repeat (first | exact Drawn0.refl _ | apply Drawn0.step)⟩
                  ·rw [if_neg c36] at H
                   have c36b0 : decide (143 < (bt a0 (ji25))) = false := decide_eq_false c36
                   clear c36
                   obtain rfl := Option.some.inj H
                   have p28 : 0 ≤ ((ji25) : Int) := of_decide_eq_true (by first | (with_reducible assumption) | assumption)
                   have q28 : (ji25) < (a0.size : Int) := of_decide_eq_true (by first | (with_reducible assumption) | assumption)
                   have hx28 := bt_at a0 (ji25)
                   replace p28 := eq_true p28
                   replace q28 := eq_true q28
                   go_wp2
                   go_ret
                   exact ⟨by first | rfl | (simp; done) | (simp only [← hji25] <;> (first | rfl | simp)) | (simp [*]; done), by repeat (first | exact Drawn0.refl _ | apply Drawn0.step)⟩
                 ·rw [if_neg c35] at H
                  have c35b0 : ((bt a0 a1) == 244) = false := beq_eq_false_iff_ne.mpr c35
                  have c35b1 : ((bt a0 a1) != 244) = true := bne_iff_ne.mpr c35
                  obtain rfl := Option.some.inj H
                  have p28 : 0 ≤ ((ji25) : Int) := of_decide_eq_true (by first | (with_reducible assumption) | assumption)
                  have q28 : (ji25) < (a0.size : Int) := of_decide_eq_true (by first | (with_reducible assumption) | assumption)
                  have hx28 := bt_at a0 (ji25)
                  replace p28 := eq_true p28
                  replace q28 := eq_true q28
                  go_wp2
                  go_ret
                  exact ⟨by first | rfl | (simp; done) | (simp only [← hji25] <;> (first | rfl | simp)) | (simp [*]; done), by repeat (first | exact Drawn0.refl _ | apply Drawn0.step)⟩
               ·rw [if_neg c33] at H
                have c33b0 : ((bt a0 a1) == 240) = false := beq_eq_false_iff_ne.mpr c33
                have c33b1 : ((bt a0 a1) != 240) = true := bne_iff_ne.mpr c33
                by_cases c37 : (bt a0 a1) = 244
                ·rw [if_pos c37] at H
                 have c37b0 : ((bt a0 a1) == 244) = true := beq_iff_eq.mpr c37
                 have c37b1 : ((bt a0 a1) != 244) = false := bne_eq_false_iff_eq.mpr c37
                 clear c37
                 by_cases c38 : (bt a0 (ji25)) > 143
                 ·rw [if_pos c38] at H
                  have c38b0 : decide (143 < (bt a0 (ji25))) = true := decide_eq_true c38
                  clear c38
                  obtain rfl := Option.some.inj H
                  have p28 : 0 ≤ ((ji25) : Int) := of_decide_eq_true (by first | (with_reducible assumption) | assumption)
                  have q28 : (ji25) < (a0.size : Int) := of_decide_eq_true (by first | (with_reducible assumption) | assumption)
                  have hx28 := bt_at a0 (ji25)
                  replace p28 := eq_true p28
                  replace q28 := eq_true q28
                  go_wp2
                  go_ret
                  exact ⟨by first | rfl | (simp; done) | (simp only [← hji25] <;> (first | rfl | simp)) | (simp [*]; done), by repeat (first | exact Drawn0.refl _ | apply Drawn0.step)⟩
                 ·rw [if_neg c38] at H
                  have c38b0 : decide (143 < (bt a0 (ji25))) = false := decide_eq_false c38
                  clear c38
                  obtain rfl := Option.some.inj H
                  have p28 : 0 ≤ ((ji25) : Int) := of_decide_eq_true (by first | (with_reducible assumption) | assumption)
                  have q28 : (ji25) < (a0.size : Int) := of_decide_eq_true (by first | (with_reducible assumption) | assumption)
                  have hx28 := bt_at a0 (ji25)
                  replace p28 := eq_true p28
                  replace q28 := eq_true q28
                  go_wp2
                  go_ret
                  exact ⟨by first | rfl | (simp; done) | (simp only [← hji25] <;> (first | rfl | simp)) | (simp [*]; done), by repeat (first | exact Drawn0.refl _ | apply Drawn0.step)⟩
                ·rw [if_neg c37] at H
                 have c37b0 : ((bt a0 a1) == 244) = false := beq_eq_false_iff_ne.mpr c37
                 have c37b1 : ((bt a0 a1) != 244) = true := bne_iff_ne.mpr c37
                 obtain rfl := Option.some.inj H
                 have p28 : 0 ≤ ((ji25) : Int) := of_decide_eq_true (by first | (with_reducible assumption) | assumption)
                 have q28 : (ji25) < (a0.size : Int) := of_decide_eq_true (by first | (with_reducible assumption) | assumption)
                 have hx28 := bt_at a0 (ji25)
                 replace p28 := eq_true p28
                 replace q28 := eq_true q28
                 go_wp2
                 go_ret
                 exact ⟨by first | rfl | (simp; done) | (simp only [← hji25] <;> (first | rfl | simp)) | (simp [*]; done), by repeat (first | exact Drawn0.refl _ | apply Drawn0.step)⟩
             ·rw [if_neg c31] at H
              have c31b0 : ((bt a0 a1) == 237) = false := beq_eq_false_iff_ne.mpr c31
              have c31b1 : ((bt a0 a1) != 237) = true := bne_iff_ne.mpr c31
              by_cases c39 : (bt a0 a1) = 240
              ·rw [if_pos c39] at H
               have c39b0 : ((bt a0 a1) == 240) = true := beq_iff_eq.mpr c39
               have c39b1 : ((bt a0 a1) != 240) = false := bne_eq_false_iff_eq.mpr c39
               clear c39
               by_cases c40 : (bt a0 (ji25)) < 144
               ·rw [if_pos c40] at H
                have c40b0 : decide ((bt a0 (ji25)) < 144) = true := decide_eq_true c40
                clear c40
                obtain rfl := Option.some.inj H
                have p28 : 0 ≤ ((ji25) : Int) := of_decide_eq_true (by first | (with_reducible assumption) | assumption)
                have q28 : (ji25) < (a0.size : Int) := of_decide_eq_true (by first | (with_reducible assumption) | assumption)
                have hx28 := bt_at a0 (ji25)
                replace p28 := eq_true p28
                replace q28 := eq_true q28
                go_wp2
                go_ret
                exact ⟨by first | rfl | (simp; done) | (simp only [← hji25] <;> (first | rfl | simp)) | (simp [*]; done), by repeat (first | exact Drawn0.refl _ | apply Drawn0.step)⟩
               ·rw [if_neg c40] at H
                have c40b0 : decide ((bt a0 (ji25)) < 144) = false := decide_eq_false c40
                clear c40
                by_cases c41 : (bt a0 a1) = 244
                ·rw [if_pos c41] at H
                 have c41b0 : ((bt a0 a1) == 244) = true := beq_iff_eq.mpr c41
                 have c41b1 : ((bt a0 a1) != 244) = false := bne_eq_false_iff_eq.mpr c41
                 clear c41
                 by_cases c42 : (bt a0 (ji25)) > 143
                 ·rw [if_pos c42] at H
                  have c42b0 : decide (143 < (bt a0 (ji25))) = true := decide_eq_true c42
                  clear c42
                  obtain rfl := Option.some.inj H
                  have p28 : 0 ≤ ((ji25) : Int) := of_decide_eq_true (by first | (with_reducible assumption) | assumption)
                  have q28 : (ji25) < (a0.size : Int) := of_decide_eq_true (by first | (with_reducible assumption) | assumption)
                  have hx28 := bt_at a0 (ji25)
                  replace p28 := eq_true p28
                  replace q28 := eq_true q28
                  go_wp2
                  go_ret
                  exact ⟨by first | rfl | (simp; done) | (simp only [← hji25] <;> (first | rfl | simp)) | (simp [*]; done), by repeat (first | exact Drawn0.refl _ | apply Drawn0.step)⟩
                 ·rw [if_neg c42] at H
                  have c42b0 : decide (143 < (bt a0 (ji25))) = false := decide_eq_false c42
                  clear c42
                  obtain rfl := Option.some.inj H
                  have p28 : 0 ≤ ((ji25) : Int) := of_decide_eq_true (by first | (with_reducible assumption) | assumption)
                  have q28 : (ji25) < (a0.size : Int) := of_decide_eq_true (by first | (with_reducible assumption) | assumption)
                  have hx28 := bt_at a0 (ji25)
                  replace p28 := eq_true p28
                  replace q28 := eq_true q28
                  go_wp2
                  go_ret
                  exact ⟨by first | rfl | (simp; done) | (simp only [← hji25] <;> (first | rfl | simp)) | (simp [*]; done), by repeat (first | exact Drawn0.refl _ | apply Drawn0.step)⟩
                ·rw [if_neg c41] at H
                 have c41b0 : ((bt a0 a1) == 244) = false := beq_eq_false_iff_ne.mpr c41
                 have c41b1 : ((bt a0 a1) != 244) = true := bne_iff_ne.mpr c41
                 obtain rfl := Option.some.inj H
                 have p28 : 0 ≤ ((ji25) : Int) := of_decide_eq_true (by first | (with_reducible assumption) | assumption)
                 have q28 : (ji25) < (a0.size : Int) := of_decide_eq_true (by first | (with_reducible assumption) | assumption)
                 have hx28 := bt_at a0 (ji25)
                 replace p28 := eq_true p28
                 replace q28 := eq_true q28
                 go_wp2
                 go_ret
                 exact ⟨by first | rfl | (simp; done) | (simp only [← hji25] <;> (first | rfl | simp)) | (simp [*]; done), by repeat (first | exact Drawn0.refl _ | apply Drawn0.step)⟩
              ·rw [if_neg c39] at H
               have c39b0 : ((bt a0 a1) == 240) = false := beq_eq_false_iff_ne.mpr c39
               have c39b1 : ((bt a0 a1) != 240) = true := bne_iff_ne.mpr c39
               by_cases c43 : (bt a0 a1) = 244
               ·rw [if_pos c43] at H
                have c43b0 : ((bt a0 a1) == 244) = true := beq_iff_eq.mpr c43
                have c43b1 : ((bt a0 a1) != 244) = false := bne_eq_false_iff_eq.mpr c43
                clear c43
                by_cases c44 : (bt a0 (ji25)) > 143
                ·rw [if_pos c44] at H
                 have c44b0 : decide (143 < (bt a0 (ji25))) = true := decide_eq_true c44
                 clear c44
                 obtain rfl := Option.some.inj H
                 have p28 : 0 ≤ ((ji25) : Int) := of_decide_eq_true (by first | (with_reducible assumption) | assumption)
                 have q28 : (ji25) < (a0.size : Int) := of_decide_eq_true (by first | (with_reducible assumption) | assumption)
                 have hx28 := bt_at a0 (ji25)
                 replace p28 := eq_true p28
                 replace q28 := eq_true q28
                 go_wp2
                 go_ret
                 exact ⟨by first | rfl | (simp; done) | (simp only [← hji25] <;> (first | rfl | simp)) | (simp [*]; done), by repeat (first | exact Drawn0.refl _ | apply Drawn0.step)⟩
                ·rw [if_neg c44] at H
                 have c44b0 : decide (143 < (bt a0 (ji25))) = false := decide_eq_false c44
                 clear c44
                 obtain rfl := Option.some.inj H
                 have p28 : 0 ≤ ((ji25) : Int) := of_decide_eq_true (by first | (with_reducible assumption) | assumption)
                 have q28 : (ji25) < (a0.size : Int) := of_decide_eq_true (by first | (with_reducible assumption) | assumption)
                 have hx28 := bt_at a0 (ji25)
                 replace p28 := eq_true p28
                 replace q28 := eq_true q28
                 go_wp2
                 go_ret
                 exact ⟨by first | rfl | (simp; done) | (simp only [← hji25] <;> (first | rfl | simp)) | (simp [*]; done), by repeat (first | exact Drawn0.refl _ | apply Drawn0.step)⟩
               ·rw [if_neg c43] at H
                have c43b0 : ((bt a0 a1) == 244) = false := beq_eq_false_iff_ne.mpr c43
                have c43b1 : ((bt a0 a1) != 244) = true := bne_iff_ne.mpr c43
                obtain rfl := Option.some.inj H
                have p28 : 0 ≤ ((ji25) : Int) := of_decide_eq_true (by first | (with_reducible assumption) | assumption)
                have q28 : (ji25) < (a0.size : Int) := of_decide_eq_true (by first | (with_reducible assumption) | assumption)
                have hx28 := bt_at a0 (ji25)
                replace p28 := eq_true p28
                replace q28 := eq_true q28
                go_wp2
                go_ret
                exact ⟨by first | rfl | (simp; done) | (simp only [← hji25] <;> (first | rfl | simp)) | (simp [*]; done), by repeat (first | exact Drawn0.refl _ | apply Drawn0.step)⟩
           ·rw [if_neg c29] at H
            have c29b0 : ((bt a0 a1) == 224) = false := beq_eq_false_iff_ne.mpr c29
            have c29b1 : ((bt a0 a1) != 224) = true := bne_iff_ne.mpr c29
            by_cases c45 : (bt a0 a1) = 237
            ·rw [if_pos c45] at H
             have c45b0 : ((bt a0 a1) == 237) = true := beq_iff_eq.mpr c45
             have c45b1 : ((bt a0 a1) != 237) = false := bne_eq_false_iff_eq.mpr c45
             clear c45
             by_cases c46 : (bt a0 (ji25)) > 159
             ·rw [if_pos c46] at H
              have c46b0 : decide (159 < (bt a0 (ji25))) = true := decide_eq_true c46
              clear c46
              obtain rfl := Option.some.inj H
              have p28 : 0 ≤ ((ji25) : Int) := of_decide_eq_true (by first | (with_reducible assumption) | assumption)
              have q28 : (ji25) < (a0.size : Int) := of_decide_eq_true (by first | (with_reducible assumption) | assumption)
              have hx28 := bt_at a0 (ji25)
              replace p28 := eq_true p28
              replace q28 := eq_true q28
              go_wp2
              go_ret
              exact ⟨by first | rfl | (simp; done) | (simp only [← hji25] <;> (first | rfl | simp)) | (simp [*]; done), by repeat (first | exact Drawn0.refl _ | apply Drawn0.step)⟩
             ·rw [if_neg c46] at H
              have c46b0 : decide (159 < (bt a0 (ji25))) = false := decide_eq_false c46
              clear c46
              by_cases c47 : (bt a0 a1) = 240
              ·rw [if_pos c47] at H
               have c47b0 : ((bt a0 a1) == 240) = true := beq_iff_eq.mpr c47
               have c47b1 : ((bt a0 a1) != 240) = false := bne_eq_false_iff_eq.mpr c47
               clear c47
               by_cases c48 : (bt a0 (ji25)) < 144
               ·rw [if_pos c48] at H
                have c48b0 : decide ((bt a0 (ji25)) < 144) = true := decide_eq_true c48
                clear c48
                obtain rfl := Option.some.inj H
                have p28 : 0 ≤ ((ji25) : Int) := of_decide_eq_true (by first | (with_reducible assumption) | assumption)
                have q28 : (ji25) < (a0.size : Int) := of_decide_eq_true (by first | (with_reducible assumption) | assumption)
                have hx28 := bt_at a0 (ji25)
                replace p28 := eq_true p28
                replace q28 := eq_true q28
                go_wp2
                go_ret
                exact ⟨by first | rfl | (simp; done) | (simp only [← hji25] <;> (first | rfl | simp)) | (simp [*]; done), by repeat (first | exact Drawn0.refl _ | apply Drawn0.step)⟩
               ·rw [if_neg c48] at H
                have c48b0 : decide ((bt a0 (ji25)) < 144) = false := decide_eq_false c48
                clear c48
                by_cases c49 : (bt a0 a1) = 244
                ·rw [if_pos c49] at H
                 have c49b0 : ((bt a0 a1) == 244) = true := beq_iff_eq.mpr c49
                 have c49b1 : ((bt a0 a1) != 244) = false := bne_eq_false_iff_eq.mpr c49
                 clear c49
                 by_cases c50 : (bt a0 (ji25)) > 143
                 ·rw [if_pos c50] at H
                  have c50b0 : decide (143 < (bt a0 (ji25))) = true := decide_eq_true c50
                  clear c50
                  obtain rfl := Option.some.inj H
                  have p28 : 0 ≤ ((ji25) : Int) := of_decide_eq_true (by first | (with_reducible assumption) | assumption)
                  have q28 : (ji25) < (a0.size : Int) := of_decide_eq_true (by first | (with_reducible assumption) | assumption)
                  have hx28 := bt_at a0 (ji25)
                  replace p28 := eq_true p28
                  replace q28 := eq_true q28
                  go_wp2
                  go_ret
                  exact ⟨by first | rfl | (simp; done) | (simp only [← hji25] <;> (first | rfl | simp)) | (simp [*]; done), by repeat (first | exact Drawn0.refl _ | apply Drawn0.step)⟩
                 ·rw [if_neg c50] at H
                  have c50b0 : decide (143 < (bt a0 (ji25))) = false := decide_eq_false c50
                  clear c50
                  obtain rfl := Option.some.inj H
                  have p28 : 0 ≤ ((ji25) : Int) := of_decide_eq_true (by first | (with_reducible assumption) | assumption)
                  have q28 : (ji25) < (a0.size : Int) := of_decide_eq_true (by first | (with_reducible assumption) | assumption)
                  have hx28 := bt_at a0 (ji25)
                  replace p28 := eq_true p28
                  replace q28 := eq_true q28
                  go_wp2
                  go_ret
                  exact ⟨by first | rfl | (simp; done) | (simp only [← hji25] <;> (first | rfl | simp)) | (simp [*]; done), by repeat (first | exact Drawn0.refl _ | apply Drawn0.step)⟩
                ·rw [if_neg c49] at H
                 have c49b0 : ((bt a0 a1) == 244) = false := beq_eq_false_iff_ne.mpr c49
                 have c49b1 : ((bt a0 a1) != 244) = true := bne_iff_ne.mpr c49
                 obtain rfl := Option.some.inj H
                 have p28 : 0 ≤ ((ji25) : Int) := of_decide_eq_true (by first | (with_reducible assumption) | assumption)
                 have q28 : (ji25) < (a0.size : Int) := of_decide_eq_true (by first | (with_reducible assumption) | assumption)
                 have hx28 := bt_at a0 (ji25)
                 replace p28 := eq_true p28
                 replace q28 := eq_true q28
                 go_wp2
                 go_ret
                 exact ⟨by first | rfl | (simp; done) | (simp only [← hji25] <;> (first | rfl | simp)) | (simp [*]; done), by repeat (first | exact Drawn0.refl _ | apply Drawn0.step)⟩
              ·rw [if_neg c47] at H
               have c47b0 : ((bt a0 a1) == 240) = false := beq_eq_false_iff_ne.mpr c47
               have c47b1 : ((bt a0 a1) != 240) = true := bne_iff_ne.mpr c47
               by_cases c51 : (bt a0 a1) = 244
               ·rw [if_pos c51] at H
                have c51b0 : ((bt a0 a1) == 244) = true := beq_iff_eq.mpr c51
                have c51b1 : ((bt a0 a1) != 244) = false := bne_eq_false_iff_eq.mpr c51
                clear c51
                by_cases c52 : (bt a0 (ji25)) > 143
                ·rw [if_pos c52] at H
                 have c52b0 : decide (143 < (bt a0 (ji25))) = true := decide_eq_true c52
                 clear c52
                 obtain rfl := Option.some.inj H
                 have p28 : 0 ≤ ((ji25) : Int) := of_decide_eq_true (by first | (with_reducible assumption) | assumption)
                 have q28 : (ji25) < (a0.size : Int) := of_decide_eq_true (by first | (with_reducible assumption) | assumption)
                 have hx28 := bt_at a0 (ji25)
                 replace p28 := eq_true p28
                 replace q28 := eq_true q28
                 go_wp2
                 go_ret
                 exact ⟨by first | rfl | (simp; done) | (simp only [← hji25] <;> (first | rfl | simp)) | (simp [*]; done), by repeat (first | exact Drawn0.refl _ | apply Drawn0.step)⟩
                ·rw [if_neg c52] at H
                 have c52b0 : decide (143 < (bt a0 (ji25))) = false := decide_eq_false c52
                 clear c52
                 obtain rfl := Option.some.inj H
                 have p28 : 0 ≤ ((ji25) : Int) := of_decide_eq_true (by first | (with_reducible assumption) | assumption)
                 have q28 : (ji25) < (a0.size : Int) := of_decide_eq_true (by first | (with_reducible assumption) | assumption)
                 have hx28 := bt_at a0 (ji25)
                 replace p28 := eq_true p28
                 replace q28 := eq_true q28
                 go_wp2
                 go_ret
                 exact ⟨by first | rfl | (simp; done) | (simp only [← hji25] <;> (first | rfl | simp)) | (simp [*]; done), by repeat (first | exact Drawn0.refl _ | apply Drawn0.step)⟩
               ·rw [if_neg c51] at H
                have c51b0 : ((bt a0 a1) == 244) = false := beq_eq_false_iff_ne.mpr c51
                have c51b1 : ((bt a0 a1) != 244) = true := bne_iff_ne.mpr c51
                obtain rfl := Option.some.inj H
                have p28 : 0 ≤ ((ji25) : Int) := of_decide_eq_true (by first | (with_reducible assumption) | assumption)
                have q28 : (ji25) < (a0.size : Int) := of_decide_eq_true (by first | (with_reducible assumption) | assumption)
                have hx28 := bt_at a0 (ji25)
                replace p28 := eq_true p28
                replace q28 := eq_true q28
                go_wp2
                go_ret
                exact ⟨by first | rfl | (simp; done) | (simp only [← hji25] <;> (first | rfl | simp)) | (simp [*]; done), by repeat (first | exact Drawn0.refl _ | apply Drawn0.step)⟩
            ·rw [if_neg c45] at H
             have c45b0 : ((bt a0 a1) == 237) = false := beq_eq_false_iff_ne.mpr c45
             have c45b1 : ((bt a0 a1) != 237) = true := bne_iff_ne.mpr c45
             by_cases c53 : (bt a0 a1) = 240
             ·rw [if_pos c53] at H
              have c53b0 : ((bt a0 a1) == 240) = true := beq_iff_eq.mpr c53
              have c53b1 : ((bt a0 a1) != 240) = false := bne_eq_false_iff_eq.mpr c53
              clear c53
              by_cases c54 : (bt a0 (ji25)) < 144
              ·rw [if_pos c54] at H
               have c54b0 : decide ((bt a0 (ji25)) < 144) = true := decide_eq_true c54
               clear c54
               obtain rfl := Option.some.inj H
               have p28 : 0 ≤ ((ji25) : Int) := of_decide_eq_true (by first | (with_reducible assumption) | assumption)
               have q28 : (ji25) < (a0.size : Int) := of_decide_eq_true (by first | (with_reducible assumption) | assumption)
               have hx28 := bt_at a0 (ji25)
               replace p28 := eq_true p28
               replace q28 := eq_true q28
               go_wp2
               go_ret
               exact ⟨by first | rfl | (simp; done) | (simp only [← hji25] <;> (first | rfl | simp)) | (simp [*]; done), by repeat (first | exact Drawn0.refl _ | apply Drawn0.step)⟩
              ·rw [if_neg c54] at H
               have c54b0 : decide ((bt a0 (ji25)) < 144) = false := decide_eq_false c54
               clear c54
               by_cases c55 : (bt a0 a1) = 244
               ·rw [if_pos c55] at H
                have c55b0 : ((bt a0 a1) == 244) = true := beq_iff_eq.mpr c55
                have c55b1 : ((bt a0 a1) != 244) = false := bne_eq_false_iff_eq.mpr c55
                clear c55
                by_cases c56 : (bt a0 (ji25)) > 143
                ·rw [if_pos c56] at H
                 have c56b0 : decide (143 < (bt a0 (ji25))) = true := decide_eq_true c56
                 clear c56
                 obtain rfl := Option.some.inj H
                 have p28 : 0 ≤ ((ji25) : Int) := of_decide_eq_true (by first | (with_reducible assumption) | assumption)
                 have q28 : (ji25) < (a0.size : Int) := of_decide_eq_true (by first | (with_reducible assumption) | assumption)
                 have hx28 := bt_at a0 (ji25)
                 replace p28 := eq_true p28
                 replace q28 := eq_true q28
                 go_wp2
                 go_ret
                 exact ⟨by first | rfl | (simp; done) | (simp only [← hji25] <;> (first | rfl | simp)) | (simp [*]; done), by repeat (first | exact Drawn0.refl _ | apply Drawn0.step)⟩
                ·rw [if_neg c56] at H
                 have c56b0 : decide (143 < (bt a0 (ji25))) = false := decide_eq_false c56
                 clear c56
                 obtain rfl := Option.some.inj H
                 have p28 : 0 ≤ ((ji25) : Int) := of_decide_eq_true (by first | (with_reducible assumption) | assumption)
                 have q28 : (ji25) < (a0.size : Int) := of_decide_eq_true (by first | (with_reducible assumption) | assumption)
                 have hx28 := bt_at a0 (ji25)
                 replace p28 := eq_true p28
                 replace q28 := eq_true q28
                 go_wp2
                 go_ret
                 exact ⟨by first | rfl | (simp; done) | (simp only [← hji25] <;> (first | rfl | simp)) | (simp [*]; done), by repeat (first | exact Drawn0.refl _ | apply Drawn0.step)⟩
               ·rw [if_neg c55] at H
                have c55b0 : ((bt a0 a1) == 244) = false := beq_eq_false_iff_ne.mpr c55
                have c55b1 : ((bt a0 a1) != 244) = true := bne_iff_ne.mpr c55
                obtain rfl := Option.some.inj H
                have p28 : 0 ≤ ((ji25) : Int) := of_decide_eq_true (by first | (with_reducible assumption) | assumption)
                have q28 : (ji25) < (a0.size : Int) := of_decide_eq_true (by first | (with_reducible assumption) | assumption)
                have hx28 := bt_at a0 (ji25)
                replace p28 := eq_true p28
                replace q28 := eq_true q28
                go_wp2
                go_ret
                exact ⟨by first | rfl | (simp; done) | (simp only [← hji25] <;> (first | rfl | simp)) | (simp [*]; done), by repeat (first | exact Drawn0.refl _ | apply Drawn0.step)⟩
             ·rw [if_neg c53] at H
              have c53b0 : ((bt a0 a1) == 240) = false := beq_eq_false_iff_ne.mpr c53
              have c53b1 : ((bt a0 a1) != 240) = true := bne_iff_ne.mpr c53
              by_cases c57 : (bt a0 a1) = 244
              ·rw [if_pos c57] at H
               have c57b0 : ((bt a0 a1) == 244) = true := beq_iff_eq.mpr c57
               have c57b1 : ((bt a0 a1) != 244) = false := bne_eq_false_iff_eq.mpr c57
               clear c57
               by_cases c58 : (bt a0 (ji25)) > 143
               ·rw [if_pos c58] at H
                have c58b0 : decide (143 < (bt a0 (ji25))) = true := decide_eq_true c58
                clear c58
                obtain rfl := Option.some.inj H
                have p28 : 0 ≤ ((ji25) : Int) := of_decide_eq_true (by first | (with_reducible assumption) | assumption)
                have q28 : (ji25) < (a0.size : Int) := of_decide_eq_true (by first | (with_reducible assumption) | assumption)
                have hx28 := bt_at a0 (ji25)
                replace p28 := eq_true p28
                replace q28 := eq_true q28
                go_wp2
                go_ret
                exact ⟨by first | rfl | (simp; done) | (simp only [← hji25] <;> (first | rfl | simp)) | (simp [*]; done), by repeat (first | exact Drawn0.refl _ | apply Drawn0.step)⟩
               ·rw [if_neg c58] at H
                have c58b0 : decide (143 < (bt a0 (ji25))) = false := decide_eq_false c58
                clear c58
                obtain rfl := Option.some.inj H
                have p28 : 0 ≤ ((ji25) : Int) := of_decide_eq_true (by first | (with_reducible assumption) | assumption)
                have q28 : (ji25) < (a0.size : Int) := of_decide_eq_true (by first | (with_reducible assumption) | assumption)
                have hx28 := bt_at a0 (ji25)
                replace p28 := eq_true p28
                replace q28 := eq_true q28
                go_wp2
                go_ret
                exact ⟨by first | rfl | (simp; done) | (simp only [← hji25] <;> (first | rfl | simp)) | (simp [*]; done), by repeat (first | exact Drawn0.refl _ | apply Drawn0.step)⟩
              ·rw [if_neg c57] at H
               have c57b0 : ((bt a0 a1) == 244) = false := beq_eq_false_iff_ne.mpr c57
               have c57b1 : ((bt a0 a1) != 244) = true := bne_iff_ne.mpr c57
               obtain rfl := Option.some.inj H
               have p28 : 0 ≤ ((ji25) : Int) := of_decide_eq_true (by first | (with_reducible assumption) | assumption)
               have q28 : (ji25) < (a0.size : Int) := of_decide_eq_true (by first | (with_reducible assumption) | assumption)
               have hx28 := bt_at a0 (ji25)
               replace p28 := eq_true p28
               replace q28 := eq_true q28
               go_wp2
               go_ret
               exact ⟨by first | rfl | (simp; done) | (simp only [← hji25] <;> (first | rfl | simp)) | (simp [*]; done), by repeat (first | exact Drawn0.refl _ | apply Drawn0.step)⟩
          ·rw [if_neg c27] at H
           exact absurd H (by simp)
         ·rw [if_neg c26] at H
          exact absurd H (by simp)
  ·rw [if_neg c4] at H
   exact absurd H (by simp)
 ·rw [if_neg c3] at H
  exact absurd H (by simp)

/-! ### trystref08_UTF: function 70 -/
def trystref08_UTF.l0 : Nat → ByteArray → Int → Option (Bool)
 | 0, _, _ => none
 | k + 1, x0, x3 => if x3 < (x0.size : Int) then ((trystref08_next.f k x0 x3).bind fun t258 => (if t258 = 0 then (some false) else (trystref08_UTF.l0 k x0 (wrap64 (x3 + t258))))) else (some true)
def trystref08_UTF.f (k : Nat) (a0 : ByteArray) : Option (Bool) := trystref08_UTF.l0 k a0 0
set_option maxHeartbeats 8000000 in
set_option maxRecDepth 100000 in
theorem trystref08_UTF.calls (k : Nat) (a0 : ByteArray) (r : Bool) (w : World) (h : trystref08_UTF.f k a0 = some r) :
  Calls Tryd.prog 70 #[.string a0] w fun e w' => e = .returned (.bool r) ∧ Drawn0 w w' := by
 have H : (trystref08_UTF.l0 k a0 0) = some r := h
 clear h
 have H' := Aside0.mk H
 clear H
 go_enter Tryd.func70, Tryd.ntmps70
 go_wp2
 go_loopg [3] k (fun kq v3 w' => ∃ (x3_1 : Int), v3 = .int .i64 x3_1 ∧ Aside0 (trystref08_UTF.l0 kq a0 x3_1 = some r) ∧ Aside0 (kq ≤ k) ∧ Drawn0 w w')
 case atStart => exact ⟨(0), (by first | rfl | (simp; done) | (simp [*]; done)), H', ⟨Nat.le_refl _⟩, by repeat (first | exact Drawn0.refl _ | apply Drawn0.step)⟩
 case round =>
  clear H'
  obtain ⟨x3_1, rfl, HA, HK1, ⟨m1, rfl⟩⟩ := hrel
  cases gk with
  | zero => exact absurd HA.out (by simp [trystref08_UTF.l0])
  | succ k1 =>
   have H := HA.out
   clear HA
   simp only [trystref08_UTF.l0] at H
   by_cases c2 : x3_1 < (a0.size : Int)
   ·rw [if_pos c2] at H
    have c2b0 : decide (x3_1 < (a0.size : Int)) = true := decide_eq_true c2
    clear c2
    replace H := Option.bind_eq_some_iff.mp H
    obtain ⟨t258, A30, H⟩ := H
    replace H : (if t258 = 0 then (some false) else (trystref08_UTF.l0 k1 a0 (wrap64 (x3_1 + t258)))) = some r := H
    have A3 := Aside0.mk A30
    clear A30
    by_cases c4 : t258 = 0
    ·rw [if_pos c4] at H
     have c4b0 : (t258 == 0) = true := beq_iff_eq.mpr c4
     have c4b1 : (t258 != 0) = false := bne_eq_false_iff_eq.mpr c4
     clear c4
     obtain rfl := Option.some.inj H
     go_wp2_with (first | ((with_reducible refine gate_callee (f := 88) rfl ?_); refine gm_ (some 11) Tryd.func88 #[.string a0, .int .i64 x3_1] ?_; (with_reducible refine (trystref08_next.calls k1 a0 x3_1 t258 _ A3.out).mono ?_); rintro e w' ⟨rfl, ⟨nd, rfl⟩⟩; refine ⟨_, rfl, ?_⟩))
     go_ret
     exact ⟨by first | rfl | simp | simp [*] | simp [bne_nil_], by repeat (first | exact Drawn0.refl _ | apply Drawn0.step)⟩
    ·rw [if_neg c4] at H
     have c4b0 : (t258 == 0) = false := beq_eq_false_iff_ne.mpr c4
     have c4b1 : (t258 != 0) = true := bne_iff_ne.mpr c4
     have H' := Aside0.mk H
     clear H
     go_wp2_with (first | ((with_reducible refine gate_callee (f := 88) rfl ?_); refine gm_ (some 11) Tryd.func88 #[.string a0, .int .i64 x3_1] ?_; (with_reducible refine (trystref08_next.calls k1 a0 x3_1 t258 _ A3.out).mono ?_); rintro e w' ⟨rfl, ⟨nd, rfl⟩⟩; refine ⟨_, rfl, ?_⟩))
     go_roundg k1
     case measure => have := HK1.out; omega
     case rel => exact ⟨(wrap64 (x3_1 + t258)), (by first | rfl | (simp; done) | (simp [*]; done)), H', ⟨by have := HK1.out; omega⟩, by repeat (first | exact Drawn0.refl _ | apply Drawn0.step)⟩
   ·rw [if_neg c2] at H
    have c2b0 : decide (x3_1 < (a0.size : Int)) = false := decide_eq_false c2
    clear c2
    obtain rfl := Option.some.inj H
    go_wp2
    go_ret
    exact ⟨by first | rfl | simp | simp [*] | simp [bne_nil_], by repeat (first | exact Drawn0.refl _ | apply Drawn0.step)⟩

end Go.Proofs.YtddoidcbpcmlaaaDoor.M
