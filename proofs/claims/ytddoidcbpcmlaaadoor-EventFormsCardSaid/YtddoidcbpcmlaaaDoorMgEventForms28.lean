/- Texts of this claim, merged: MaddrR, MpersR. -/
import Derived.Test.YtddoidcbpcmlaaaDoorMgEventForms13
namespace Go.Proofs.YtddoidcbpcmlaaaDoor.M
open Go.RowKit Go.Proofs.YtddoidcbpcmlaaaDoorW.PrintWords Go.Proofs.YtddoidcbpcmlaaaDoorW.PrintLast Go.Proofs.YtddoidcbpcmlaaaDoorW.PrintMore
attribute [local go_sem] max2_int min2_int max_two min_two
set_option linter.unusedVariables false
set_option linter.unusedSimpArgs false
/-! ### trystlaw18_printable: function 23 -/
def trystlaw18_printable.l0 : Nat → ByteArray → Int → Int → Option (Bool)
 | 0, _, _, _ => none
 | k + 1, x0, x5, x6 => if x6 < x5 then (if 0 ≤ x6 then (if x6 < (x0.size : Int) then (if (bt x0 x6) < 33 then (some false) else (if (bt x0 x6) > 126 then (some false) else (trystlaw18_printable.l0 k x0 x5 (wrap64 (x6 + 1))))) else (none)) else (none)) else (if (x0.size : Int) > 0 then (some (decide ((x0.size : Int) ≤ 60))) else (some false))
def trystlaw18_printable.f (k : Nat) (a0 : ByteArray) : Option (Bool) := trystlaw18_printable.l0 k a0 (a0.size : Int) 0
set_option maxHeartbeats 8000000 in
set_option maxRecDepth 100000 in
theorem trystlaw18_printable.calls (k : Nat) (a0 : ByteArray) (r : Bool) (w : World) (h : trystlaw18_printable.f k a0 = some r) :
  Calls Tryd.prog 23 #[.string a0] w fun e w' => e = .returned (.bool r) ∧ Drawn0 w w' := by
 have H : (trystlaw18_printable.l0 k a0 (a0.size : Int) 0) = some r := h
 clear h
 have H' := Aside0.mk H
 clear H
 go_enter Tryd.func23, Tryd.ntmps23
 go_wp2
 go_loopg [6] k (fun kq v6 w' => ∃ (x6_1 : Int), v6 = .int .i64 x6_1 ∧ Aside0 (trystlaw18_printable.l0 kq a0 (a0.size : Int) x6_1 = some r) ∧ Aside0 (kq ≤ k) ∧ Drawn0 w w')
 case atStart => exact ⟨(0), (by first | rfl | (simp; done) | (simp [*]; done)), H', ⟨Nat.le_refl _⟩, by repeat (first | exact Drawn0.refl _ | apply Drawn0.step)⟩
 case round =>
  clear H'
  obtain ⟨x6_1, rfl, HA, HK1, ⟨m1, rfl⟩⟩ := hrel
  cases gk with
  | zero => exact absurd HA.out (by simp [trystlaw18_printable.l0])
  | succ k1 =>
   have H := HA.out
   clear HA
   simp only [trystlaw18_printable.l0] at H
   by_cases c2 : x6_1 < (a0.size : Int)
   ·rw [if_pos c2] at H
    have c2b0 : decide (x6_1 < (a0.size : Int)) = true := decide_eq_true c2
    clear c2
    by_cases c3 : 0 ≤ x6_1
    ·rw [if_pos c3] at H
     have c3b0 : decide (0 ≤ x6_1) = true := decide_eq_true c3
     clear c3
     by_cases c4 : x6_1 < (a0.size : Int)
     ·rw [if_pos c4] at H
      have c4b0 : decide (x6_1 < (a0.size : Int)) = true := decide_eq_true c4
      clear c4
      by_cases c6 : (bt a0 x6_1) < 33
      ·rw [if_pos c6] at H
       have c6b0 : decide ((bt a0 x6_1) < 33) = true := decide_eq_true c6
       clear c6
       obtain rfl := Option.some.inj H
       have p5 : 0 ≤ (x6_1 : Int) := of_decide_eq_true (by first | (with_reducible assumption) | assumption)
       have q5 : x6_1 < (a0.size : Int) := of_decide_eq_true (by first | (with_reducible assumption) | assumption)
       have hx5 := bt_at a0 x6_1
       replace p5 := eq_true p5
       replace q5 := eq_true q5
       go_wp2
       go_ret
       exact ⟨by first | rfl | simp | simp [*] | simp [bne_nil_], by repeat (first | exact Drawn0.refl _ | apply Drawn0.step)⟩
      ·rw [if_neg c6] at H
       have c6b0 : decide ((bt a0 x6_1) < 33) = false := decide_eq_false c6
       clear c6
       by_cases c8 : (bt a0 x6_1) > 126
       ·rw [if_pos c8] at H
        have c8b0 : decide (126 < (bt a0 x6_1)) = true := decide_eq_true c8
        clear c8
        obtain rfl := Option.some.inj H
        have p5 : 0 ≤ (x6_1 : Int) := of_decide_eq_true (by first | (with_reducible assumption) | assumption)
        have q5 : x6_1 < (a0.size : Int) := of_decide_eq_true (by first | (with_reducible assumption) | assumption)
        have hx5 := bt_at a0 x6_1
        replace p5 := eq_true p5
        replace q5 := eq_true q5
        have p7 : 0 ≤ (x6_1 : Int) := of_decide_eq_true (by first | (with_reducible assumption) | assumption)
        have q7 : x6_1 < (a0.size : Int) := of_decide_eq_true (by first | (with_reducible assumption) | assumption)
        have hx7 := bt_at a0 x6_1
        replace p7 := eq_true p7
        replace q7 := eq_true q7
        go_wp2
        go_ret
        exact ⟨by first | rfl | simp | simp [*] | simp [bne_nil_], by repeat (first | exact Drawn0.refl _ | apply Drawn0.step)⟩
       ·rw [if_neg c8] at H
        have c8b0 : decide (126 < (bt a0 x6_1)) = false := decide_eq_false c8
        clear c8
        have H' := Aside0.mk H
        clear H
        have p5 : 0 ≤ (x6_1 : Int) := of_decide_eq_true (by first | (with_reducible assumption) | assumption)
        have q5 : x6_1 < (a0.size : Int) := of_decide_eq_true (by first | (with_reducible assumption) | assumption)
        have hx5 := bt_at a0 x6_1
        replace p5 := eq_true p5
        replace q5 := eq_true q5
        have p7 : 0 ≤ (x6_1 : Int) := of_decide_eq_true (by first | (with_reducible assumption) | assumption)
        have q7 : x6_1 < (a0.size : Int) := of_decide_eq_true (by first | (with_reducible assumption) | assumption)
        have hx7 := bt_at a0 x6_1
        replace p7 := eq_true p7
        replace q7 := eq_true q7
        go_wp2
        go_roundg k1
        case measure => have := HK1.out; omega
        case rel => exact ⟨(wrap64 (x6_1 + 1)), (by first | rfl | (simp; done) | (simp [*]; done)), H', ⟨by have := HK1.out; omega⟩, by repeat (first | exact Drawn0.refl _ | apply Drawn0.step)⟩
     ·rw [if_neg c4] at H
      exact absurd H (by simp)
    ·rw [if_neg c3] at H
     exact absurd H (by simp)
   ·rw [if_neg c2] at H
    have c2b0 : decide (x6_1 < (a0.size : Int)) = false := decide_eq_false c2
    clear c2
    by_cases c9 : (a0.size : Int) > 0
    ·rw [if_pos c9] at H
     have c9b0 : decide (0 < (a0.size : Int)) = true := decide_eq_true c9
     have c9b1 : decide (0 < a0.size) = true := decide_eq_true (by omega)
     clear c9
     obtain rfl := Option.some.inj H
     go_wp2
     go_ret
     exact ⟨by first | rfl | simp | simp [*] | simp [bne_nil_], by repeat (first | exact Drawn0.refl _ | apply Drawn0.step)⟩
    ·rw [if_neg c9] at H
     have c9b0 : decide (0 < (a0.size : Int)) = false := decide_eq_false c9
     have c9b1 : decide (0 < a0.size) = false := decide_eq_false (by omega)
     clear c9
     obtain rfl := Option.some.inj H
     go_wp2
     go_ret
     exact ⟨by first | rfl | simp | simp [*] | simp [bne_nil_], by repeat (first | exact Drawn0.refl _ | apply Drawn0.step)⟩

/-! ### trystlaw18_address: function 28 -/
def trystlaw18_address.l0 : Nat → ByteArray → Int → Int → Option (Bool)
 | 0, _, _, _ => none
 | k + 1, x0, x5, x6 => if x6 < x5 then (if 0 ≤ x6 then (if x6 < (x0.size : Int) then (if (bt x0 x6) = 34 then (some false) else (if (bt x0 x6) = 44 then (some false) else (if (bt x0 x6) = 59 then (some false) else (trystlaw18_address.l0 k x0 x5 (wrap64 (x6 + 1)))))) else (none)) else (none)) else ((trystlaw18_printable.f k x0).bind fun t261 => (some t261))
def trystlaw18_address.f (k : Nat) (a0 : ByteArray) : Option (Bool) := trystlaw18_address.l0 k a0 (a0.size : Int) 0
set_option maxHeartbeats 8000000 in
set_option maxRecDepth 100000 in
theorem trystlaw18_address.calls (k : Nat) (a0 : ByteArray) (r : Bool) (w : World) (h : trystlaw18_address.f k a0 = some r) :
  Calls Tryd.prog 28 #[.string a0] w fun e w' => e = .returned (.bool r) ∧ Drawn0 w w' := by
 have H : (trystlaw18_address.l0 k a0 (a0.size : Int) 0) = some r := h
 clear h
 have H' := Aside0.mk H
 clear H
 go_enter Tryd.func28, Tryd.ntmps28
 go_wp2
 go_loopg [6] k (fun kq v6 w' => ∃ (x6_1 : Int), v6 = .int .i64 x6_1 ∧ Aside0 (trystlaw18_address.l0 kq a0 (a0.size : Int) x6_1 = some r) ∧ Aside0 (kq ≤ k) ∧ Drawn0 w w')
 case atStart => exact ⟨(0), (by first | rfl | (simp; done) | (simp [*]; done)), H', ⟨Nat.le_refl _⟩, by repeat (first | exact Drawn0.refl _ | apply Drawn0.step)⟩
 case round =>
  clear H'
  obtain ⟨x6_1, rfl, HA, HK1, ⟨m1, rfl⟩⟩ := hrel
  cases gk with
  | zero => exact absurd HA.out (by simp [trystlaw18_address.l0])
  | succ k1 =>
   have H := HA.out
   clear HA
   simp only [trystlaw18_address.l0] at H
   by_cases c2 : x6_1 < (a0.size : Int)
   ·rw [if_pos c2] at H
    have c2b0 : decide (x6_1 < (a0.size : Int)) = true := decide_eq_true c2
    clear c2
    by_cases c3 : 0 ≤ x6_1
    ·rw [if_pos c3] at H
     have c3b0 : decide (0 ≤ x6_1) = true := decide_eq_true c3
     clear c3
     by_cases c4 : x6_1 < (a0.size : Int)
     ·rw [if_pos c4] at H
      have c4b0 : decide (x6_1 < (a0.size : Int)) = true := decide_eq_true c4
      clear c4
      by_cases c6 : (bt a0 x6_1) = 34
      ·rw [if_pos c6] at H
       have c6b0 : ((bt a0 x6_1) == 34) = true := beq_iff_eq.mpr c6
       have c6b1 : ((bt a0 x6_1) != 34) = false := bne_eq_false_iff_eq.mpr c6
       clear c6
       obtain rfl := Option.some.inj H
       have p5 : 0 ≤ (x6_1 : Int) := of_decide_eq_true (by first | (with_reducible assumption) | assumption)
       have q5 : x6_1 < (a0.size : Int) := of_decide_eq_true (by first | (with_reducible assumption) | assumption)
       have hx5 := bt_at a0 x6_1
       replace p5 := eq_true p5
       replace q5 := eq_true q5
       go_wp2
       go_ret
       exact ⟨by first | rfl | simp | simp [*] | simp [bne_nil_], by repeat (first | exact Drawn0.refl _ | apply Drawn0.step)⟩
      ·rw [if_neg c6] at H
       have c6b0 : ((bt a0 x6_1) == 34) = false := beq_eq_false_iff_ne.mpr c6
       have c6b1 : ((bt a0 x6_1) != 34) = true := bne_iff_ne.mpr c6
       by_cases c8 : (bt a0 x6_1) = 44
       ·rw [if_pos c8] at H
        have c8b0 : ((bt a0 x6_1) == 44) = true := beq_iff_eq.mpr c8
        have c8b1 : ((bt a0 x6_1) != 44) = false := bne_eq_false_iff_eq.mpr c8
        clear c8
        obtain rfl := Option.some.inj H
        have p5 : 0 ≤ (x6_1 : Int) := of_decide_eq_true (by first | (with_reducible assumption) | assumption)
        have q5 : x6_1 < (a0.size : Int) := of_decide_eq_true (by first | (with_reducible assumption) | assumption)
        have hx5 := bt_at a0 x6_1
        replace p5 := eq_true p5
        replace q5 := eq_true q5
        have p7 : 0 ≤ (x6_1 : Int) := of_decide_eq_true (by first | (with_reducible assumption) | assumption)
        have q7 : x6_1 < (a0.size : Int) := of_decide_eq_true (by first | (with_reducible assumption) | assumption)
        have hx7 := bt_at a0 x6_1
        replace p7 := eq_true p7
        replace q7 := eq_true q7
        go_wp2
        go_ret
        exact ⟨by first | rfl | simp | simp [*] | simp [bne_nil_], by repeat (first | exact Drawn0.refl _ | apply Drawn0.step)⟩
       ·rw [if_neg c8] at H
        have c8b0 : ((bt a0 x6_1) == 44) = false := beq_eq_false_iff_ne.mpr c8
        have c8b1 : ((bt a0 x6_1) != 44) = true := bne_iff_ne.mpr c8
        by_cases c10 : (bt a0 x6_1) = 59
        ·rw [if_pos c10] at H
         have c10b0 : ((bt a0 x6_1) == 59) = true := beq_iff_eq.mpr c10
         have c10b1 : ((bt a0 x6_1) != 59) = false := bne_eq_false_iff_eq.mpr c10
         clear c10
         obtain rfl := Option.some.inj H
         have p5 : 0 ≤ (x6_1 : Int) := of_decide_eq_true (by first | (with_reducible assumption) | assumption)
         have q5 : x6_1 < (a0.size : Int) := of_decide_eq_true (by first | (with_reducible assumption) | assumption)
         have hx5 := bt_at a0 x6_1
         replace p5 := eq_true p5
         replace q5 := eq_true q5
         have p7 : 0 ≤ (x6_1 : Int) := of_decide_eq_true (by first | (with_reducible assumption) | assumption)
         have q7 : x6_1 < (a0.size : Int) := of_decide_eq_true (by first | (with_reducible assumption) | assumption)
         have hx7 := bt_at a0 x6_1
         replace p7 := eq_true p7
         replace q7 := eq_true q7
         have p9 : 0 ≤ (x6_1 : Int) := of_decide_eq_true (by first | (with_reducible assumption) | assumption)
         have q9 : x6_1 < (a0.size : Int) := of_decide_eq_true (by first | (with_reducible assumption) | assumption)
         have hx9 := bt_at a0 x6_1
         replace p9 := eq_true p9
         replace q9 := eq_true q9
         go_wp2
         go_ret
         exact ⟨by first | rfl | simp | simp [*] | simp [bne_nil_], by repeat (first | exact Drawn0.refl _ | apply Drawn0.step)⟩
        ·rw [if_neg c10] at H
         have c10b0 : ((bt a0 x6_1) == 59) = false := beq_eq_false_iff_ne.mpr c10
         have c10b1 : ((bt a0 x6_1) != 59) = true := bne_iff_ne.mpr c10
         have H' := Aside0.mk H
         clear H
         have p5 : 0 ≤ (x6_1 : Int) := of_decide_eq_true (by first | (with_reducible assumption) | assumption)
         have q5 : x6_1 < (a0.size : Int) := of_decide_eq_true (by first | (with_reducible assumption) | assumption)
         have hx5 := bt_at a0 x6_1
         replace p5 := eq_true p5
         replace q5 := eq_true q5
         have p7 : 0 ≤ (x6_1 : Int) := of_decide_eq_true (by first | (with_reducible assumption) | assumption)
         have q7 : x6_1 < (a0.size : Int) := of_decide_eq_true (by first | (with_reducible assumption) | assumption)
         have hx7 := bt_at a0 x6_1
         replace p7 := eq_true p7
         replace q7 := eq_true q7
         have p9 : 0 ≤ (x6_1 : Int) := of_decide_eq_true (by first | (with_reducible assumption) | assumption)
         have q9 : x6_1 < (a0.size : Int) := of_decide_eq_true (by first | (with_reducible assumption) | assumption)
         have hx9 := bt_at a0 x6_1
         replace p9 := eq_true p9
         replace q9 := eq_true q9
         go_wp2
         go_roundg k1
         case measure => have := HK1.out; omega
         case rel => exact ⟨(wrap64 (x6_1 + 1)), (by first | rfl | (simp; done) | (simp [*]; done)), H', ⟨by have := HK1.out; omega⟩, by repeat (first | exact Drawn0.refl _ | apply Drawn0.step)⟩
     ·rw [if_neg c4] at H
      exact absurd H (by simp)
    ·rw [if_neg c3] at H
     exact absurd H (by simp)
   ·rw [if_neg c2] at H
    have c2b0 : decide (x6_1 < (a0.size : Int)) = false := decide_eq_false c2
    clear c2
    replace H := Option.bind_eq_some_iff.mp H
    obtain ⟨t261, A110, H⟩ := H
    replace H : (some t261) = some r := H
    have A11 := Aside0.mk A110
    clear A110
    obtain rfl := Option.some.inj H
    go_wp2_with (first | ((with_reducible refine gate_callee (f := 23) rfl ?_); refine gm_ (some 27) Tryd.func23 #[.string a0] ?_; (with_reducible refine (trystlaw18_printable.calls k1 a0 t261 _ A11.out).mono ?_); rintro e w' ⟨rfl, ⟨nd, rfl⟩⟩; refine ⟨_, rfl, ?_⟩))
    go_ret
    exact ⟨by first | rfl | simp | simp [*] | simp [bne_nil_], by repeat (first | exact Drawn0.refl _ | apply Drawn0.step)⟩

/-! ### trystlaw18_person: function 29 -/
def trystlaw18_person.f (k : Nat) (a0_0 : ByteArray) (a0_1 : Int) (a0_2 : Int) (a0_3 : Bool) (a0_4 : ByteArray) (a0_5 : ByteArray) : Option (Bool) := (trystlaw18_address.f k a0_0).bind fun t263 => (if t263 = true then (if a0_1 ≥ 0 then (if a0_1 ≤ 4 then (if a0_2 ≥ 0 then (if a0_2 ≤ 3 then (if ((a0_1 == 4) == (a0_4.toList != ([] : List UInt8))) = true then (if a0_4.toList = ([] : List UInt8) then (if a0_5.toList = ([] : List UInt8) then (some true) else ((trystlaw18_address.f k a0_5).bind fun t264 => (some t264))) else ((trystlaw18_address.f k a0_4).bind fun t265 => (if t265 = true then (if a0_5.toList = ([] : List UInt8) then (some true) else ((trystlaw18_address.f k a0_5).bind fun t266 => (some t266))) else (some false)))) else (some false)) else (some false)) else (some false)) else (some false)) else (some false)) else (some false))
set_option maxHeartbeats 8000000 in
set_option maxRecDepth 100000 in
theorem trystlaw18_person.calls (k : Nat) (a0_0 : ByteArray) (a0_1 : Int) (a0_2 : Int) (a0_3 : Bool) (a0_4 : ByteArray) (a0_5 : ByteArray) (r : Bool) (w : World) (h : trystlaw18_person.f k a0_0 a0_1 a0_2 a0_3 a0_4 a0_5 = some r) :
  Calls Tryd.prog 29 #[.agg #[.string a0_0, .int .i64 a0_1, .int .i64 a0_2, .bool a0_3, .string a0_4, .string a0_5]] w fun e w' => e = .returned (.bool r) ∧ Below w.heap.size w w' := by
 have hu46 := Tryd.underlying46
 have HB := Aside0.mk (Below.refl w.heap.size w)
 have H : ((trystlaw18_address.f k a0_0).bind fun t263 => (if t263 = true then (if a0_1 ≥ 0 then (if a0_1 ≤ 4 then (if a0_2 ≥ 0 then (if a0_2 ≤ 3 then (if ((a0_1 == 4) == (a0_4.toList != ([] : List UInt8))) = true then (if a0_4.toList = ([] : List UInt8) then (if a0_5.toList = ([] : List UInt8) then (some true) else ((trystlaw18_address.f k a0_5).bind fun t264 => (some t264))) else ((trystlaw18_address.f k a0_4).bind fun t265 => (if t265 = true then (if a0_5.toList = ([] : List UInt8) then (some true) else ((trystlaw18_address.f k a0_5).bind fun t266 => (some t266))) else (some false)))) else (some false)) else (some false)) else (some false)) else (some false)) else (some false)) else (some false))) = some r := h
 clear h
 replace H := Option.bind_eq_some_iff.mp H
 obtain ⟨t263, A20, H⟩ := H
 replace H : (if t263 = true then (if a0_1 ≥ 0 then (if a0_1 ≤ 4 then (if a0_2 ≥ 0 then (if a0_2 ≤ 3 then (if ((a0_1 == 4) == (a0_4.toList != ([] : List UInt8))) = true then (if a0_4.toList = ([] : List UInt8) then (if a0_5.toList = ([] : List UInt8) then (some true) else ((trystlaw18_address.f k a0_5).bind fun t264 => (some t264))) else ((trystlaw18_address.f k a0_4).bind fun t265 => (if t265 = true then (if a0_5.toList = ([] : List UInt8) then (some true) else ((trystlaw18_address.f k a0_5).bind fun t266 => (some t266))) else (some false)))) else (some false)) else (some false)) else (some false)) else (some false)) else (some false)) else (some false)) = some r := H
 have A2 := Aside0.mk A20
 clear A20
 by_cases c3 : t263 = true
 ·subst c3
  have H1 : (if a0_1 ≥ 0 then (if a0_1 ≤ 4 then (if a0_2 ≥ 0 then (if a0_2 ≤ 3 then (if ((a0_1 == 4) == (a0_4.toList != ([] : List UInt8))) = true then (if a0_4.toList = ([] : List UInt8) then (if a0_5.toList = ([] : List UInt8) then (some true) else ((trystlaw18_address.f k a0_5).bind fun t264 => (some t264))) else ((trystlaw18_address.f k a0_4).bind fun t265 => (if t265 = true then (if a0_5.toList = ([] : List UInt8) then (some true) else ((trystlaw18_address.f k a0_5).bind fun t266 => (some t266))) else (some false)))) else (some false)) else (some false)) else (some false)) else (some false)) else (some false)) = some r := by rw [if_pos rfl] at H; exact H
  clear H
  have H := H1
  clear H1
  by_cases c4 : a0_1 ≥ 0
  ·rw [if_pos c4] at H
   have c4b0 : decide (0 ≤ a0_1) = true := decide_eq_true c4
   clear c4
   by_cases c5 : a0_1 ≤ 4
   ·rw [if_pos c5] at H
    have c5b0 : decide (a0_1 ≤ 4) = true := decide_eq_true c5
    clear c5
    by_cases c6 : a0_2 ≥ 0
    ·rw [if_pos c6] at H
     have c6b0 : decide (0 ≤ a0_2) = true := decide_eq_true c6
     clear c6
     by_cases c7 : a0_2 ≤ 3
     ·rw [if_pos c7] at H
      have c7b0 : decide (a0_2 ≤ 3) = true := decide_eq_true c7
      clear c7
      by_cases c8 : ((a0_1 == 4) == (a0_4.toList != ([] : List UInt8))) = true
      ·rw [if_pos c8] at H
       have c8b0 : ((a0_1 == 4) == (a0_4.toList != ([] : List UInt8))) = true := c8
       (try (have c8b1 : decide ((a0_1 == 4) = (a0_4.toList != ([] : List UInt8))) = true := by simpa using c8))
       (try (have c8b2 : ((a0_1 == 4) == (a0_4.toList != ([] : List UInt8))) = true := by simpa using c8))
       clear c8
       by_cases c9 : a0_4.toList = ([] : List UInt8)
       ·rw [if_pos c9] at H
        have c9b0 : (a0_4.toList == ([] : List UInt8)) = true := beq_iff_eq.mpr c9
        have c9b1 : (a0_4.toList != ([] : List UInt8)) = false := bne_eq_false_iff_eq.mpr c9
        (try (have c9b1z : (a0_1 == 4) = false := by simpa [c9b1] using c8b0))
        clear c9
        by_cases c10 : a0_5.toList = ([] : List UInt8)
        ·rw [if_pos c10] at H
         have c10b0 : (a0_5.toList == ([] : List UInt8)) = true := beq_iff_eq.mpr c10
         have c10b1 : (a0_5.toList != ([] : List UInt8)) = false := bne_eq_false_iff_eq.mpr c10
         clear c10
         obtain rfl := Option.some.inj H
         go_enter Tryd.func29, Tryd.ntmps29
         go_wp2_with (first | ((with_reducible refine gate_dst (N := 1) rfl ?_); refine box_event ?hg (N := 1) ?hd (cs := #[.string a0_0, .int .i64 a0_1, .int .i64 a0_2, .bool a0_3, .string a0_4, .string a0_5]) (t := 46) ?hr ?_; (case hd => rfl); (case hg => rfl); (case hr => first | (go_simp; done) | (go_simp; rfl)); intro gb262 hg w11 hbox hb; have n0_ := Aside0.mk (below_step (by repeat (first | (with_reducible first | exact HB.out | apply below_alloc | apply pw_below_drewN | apply below_drew1) | exact HB.out)) hb); have n1_ := Aside0.mk (hbox); have n2_ := Aside0.mk ((by rw [hg]; exact (below_size (by repeat (first | (with_reducible first | exact HB.out | apply below_alloc | apply pw_below_drewN | apply below_drew1) | exact HB.out))) : w.heap.size ≤ gb262)); have n3_ := Aside0.mk ((by rw [hg]; exact (below_size (by repeat (first | (with_reducible first | exact HB.out | apply below_alloc | apply pw_below_drewN | apply below_drew1) | exact HB.out))) : w.heap.size ≤ gb262)); clear HB; have HB := n0_; have BK262 := n1_; have GW262 := n2_; have GE262 := n3_; clear n0_ n1_ n2_ n3_; clear hb hbox hg; have hcz12_0 : w11.cell? ⟨gb262, 0, none⟩ = some (.string a0_0) := (blk_cell BK262.out 0).trans rfl; have hcz12_1 : w11.cell? ⟨gb262, 1, none⟩ = some (.int .i64 a0_1) := (blk_cell BK262.out 1).trans rfl; have hcz12_2 : w11.cell? ⟨gb262, 2, none⟩ = some (.int .i64 a0_2) := (blk_cell BK262.out 2).trans rfl; have hcz12_3 : w11.cell? ⟨gb262, 3, none⟩ = some (.bool a0_3) := (blk_cell BK262.out 3).trans rfl; have hcz12_4 : w11.cell? ⟨gb262, 4, none⟩ = some (.string a0_4) := (blk_cell BK262.out 4).trans rfl; have hcz12_5 : w11.cell? ⟨gb262, 5, none⟩ = some (.string a0_5) := (blk_cell BK262.out 5).trans rfl; have hfz12_0 := blk_frozen BK262.out 0; have hfz12_1 := blk_frozen BK262.out 1; have hfz12_2 := blk_frozen BK262.out 2; have hfz12_3 := blk_frozen BK262.out 3; have hfz12_4 := blk_frozen BK262.out 4; have hfz12_5 := blk_frozen BK262.out 5) | ((with_reducible refine gate_callee (f := 28) rfl ?_); refine gm_ (some 5) Tryd.func28 #[.string a0_0] ?_; (with_reducible refine (trystlaw18_address.calls k a0_0 true _ A2.out).mono ?_); rintro e w' ⟨rfl, ⟨nd, rfl⟩⟩; refine ⟨_, rfl, ?_⟩))
         go_ret
         exact ⟨by first | rfl | (simp [i64_w]; done) | (simp [errW_none, errW_some] <;> rfl) | (simp [*, errW_none, errW_some] <;> rfl), by repeat (first | (with_reducible first | exact HB.out | apply below_alloc | apply pw_below_drewN | apply below_drew1 | refine below_set ?_ GE262.out) | exact HB.out)⟩
        ·rw [if_neg c10] at H
         have c10b0 : (a0_5.toList == ([] : List UInt8)) = false := beq_eq_false_iff_ne.mpr c10
         have c10b1 : (a0_5.toList != ([] : List UInt8)) = true := bne_iff_ne.mpr c10
         replace H := Option.bind_eq_some_iff.mp H
         obtain ⟨t264, A130, H⟩ := H
         replace H : (some t264) = some r := H
         have A13 := Aside0.mk A130
         clear A130
         obtain rfl := Option.some.inj H
         go_enter Tryd.func29, Tryd.ntmps29
         go_wp2_with (first | ((with_reducible refine gate_dst (N := 1) rfl ?_); refine box_event ?hg (N := 1) ?hd (cs := #[.string a0_0, .int .i64 a0_1, .int .i64 a0_2, .bool a0_3, .string a0_4, .string a0_5]) (t := 46) ?hr ?_; (case hd => rfl); (case hg => rfl); (case hr => first | (go_simp; done) | (go_simp; rfl)); intro gb262 hg w14 hbox hb; have n0_ := Aside0.mk (below_step (by repeat (first | (with_reducible first | exact HB.out | apply below_alloc | apply pw_below_drewN | apply below_drew1) | exact HB.out)) hb); have n1_ := Aside0.mk (hbox); have n2_ := Aside0.mk ((by rw [hg]; exact (below_size (by repeat (first | (with_reducible first | exact HB.out | apply below_alloc | apply pw_below_drewN | apply below_drew1) | exact HB.out))) : w.heap.size ≤ gb262)); have n3_ := Aside0.mk ((by rw [hg]; exact (below_size (by repeat (first | (with_reducible first | exact HB.out | apply below_alloc | apply pw_below_drewN | apply below_drew1) | exact HB.out))) : w.heap.size ≤ gb262)); clear HB; have HB := n0_; have BK262 := n1_; have GW262 := n2_; have GE262 := n3_; clear n0_ n1_ n2_ n3_; clear hb hbox hg; have hcz15_0 : w14.cell? ⟨gb262, 0, none⟩ = some (.string a0_0) := (blk_cell BK262.out 0).trans rfl; have hcz15_1 : w14.cell? ⟨gb262, 1, none⟩ = some (.int .i64 a0_1) := (blk_cell BK262.out 1).trans rfl; have hcz15_2 : w14.cell? ⟨gb262, 2, none⟩ = some (.int .i64 a0_2) := (blk_cell BK262.out 2).trans rfl; have hcz15_3 : w14.cell? ⟨gb262, 3, none⟩ = some (.bool a0_3) := (blk_cell BK262.out 3).trans rfl; have hcz15_4 : w14.cell? ⟨gb262, 4, none⟩ = some (.string a0_4) := (blk_cell BK262.out 4).trans rfl; have hcz15_5 : w14.cell? ⟨gb262, 5, none⟩ = some (.string a0_5) := (blk_cell BK262.out 5).trans rfl; have hfz15_0 := blk_frozen BK262.out 0; have hfz15_1 := blk_frozen BK262.out 1; have hfz15_2 := blk_frozen BK262.out 2; have hfz15_3 := blk_frozen BK262.out 3; have hfz15_4 := blk_frozen BK262.out 4; have hfz15_5 := blk_frozen BK262.out 5) | ((with_reducible refine gate_callee (f := 28) rfl ?_); refine gm_ (some 5) Tryd.func28 #[.string a0_0] ?_; (with_reducible refine (trystlaw18_address.calls k a0_0 true _ A2.out).mono ?_); rintro e w' ⟨rfl, ⟨nd, rfl⟩⟩; refine ⟨_, rfl, ?_⟩) | (go_at_call 28; (with_reducible refine (trystlaw18_address.calls k a0_5 t264 _ A13.out).mono ?_); rintro e w' ⟨rfl, ⟨nd, rfl⟩⟩))
         go_ret
         exact ⟨by first | rfl | (simp [i64_w]; done) | (simp [errW_none, errW_some] <;> rfl) | (simp [*, errW_none, errW_some] <;> rfl), by repeat (first | (with_reducible first | exact HB.out | apply below_alloc | apply pw_below_drewN | apply below_drew1 | refine below_set ?_ GE262.out) | exact HB.out)⟩
       ·rw [if_neg c9] at H
        have c9b0 : (a0_4.toList == ([] : List UInt8)) = false := beq_eq_false_iff_ne.mpr c9
        have c9b1 : (a0_4.toList != ([] : List UInt8)) = true := bne_iff_ne.mpr c9
        (try (have c9b1z : (a0_1 == 4) = true := by simpa [c9b1] using c8b0))
        replace H := Option.bind_eq_some_iff.mp H
        obtain ⟨t265, A160, H⟩ := H
        replace H : (if t265 = true then (if a0_5.toList = ([] : List UInt8) then (some true) else ((trystlaw18_address.f k a0_5).bind fun t266 => (some t266))) else (some false)) = some r := H
        have A16 := Aside0.mk A160
        clear A160
        by_cases c17 : t265 = true
        ·subst c17
         have H1 : (if a0_5.toList = ([] : List UInt8) then (some true) else ((trystlaw18_address.f k a0_5).bind fun t266 => (some t266))) = some r := by rw [if_pos rfl] at H; exact H
         clear H
         have H := H1
         clear H1
         by_cases c18 : a0_5.toList = ([] : List UInt8)
         ·rw [if_pos c18] at H
          have c18b0 : (a0_5.toList == ([] : List UInt8)) = true := beq_iff_eq.mpr c18
          have c18b1 : (a0_5.toList != ([] : List UInt8)) = false := bne_eq_false_iff_eq.mpr c18
          clear c18
          obtain rfl := Option.some.inj H
          go_enter Tryd.func29, Tryd.ntmps29
          go_wp2_with (first | ((with_reducible refine gate_dst (N := 1) rfl ?_); refine box_event ?hg (N := 1) ?hd (cs := #[.string a0_0, .int .i64 a0_1, .int .i64 a0_2, .bool a0_3, .string a0_4, .string a0_5]) (t := 46) ?hr ?_; (case hd => rfl); (case hg => rfl); (case hr => first | (go_simp; done) | (go_simp; rfl)); intro gb262 hg w19 hbox hb; have n0_ := Aside0.mk (below_step (by repeat (first | (with_reducible first | exact HB.out | apply below_alloc | apply pw_below_drewN | apply below_drew1) | exact HB.out)) hb); have n1_ := Aside0.mk (hbox); have n2_ := Aside0.mk ((by rw [hg]; exact (below_size (by repeat (first | (with_reducible first | exact HB.out | apply below_alloc | apply pw_below_drewN | apply below_drew1) | exact HB.out))) : w.heap.size ≤ gb262)); have n3_ := Aside0.mk ((by rw [hg]; exact (below_size (by repeat (first | (with_reducible first | exact HB.out | apply below_alloc | apply pw_below_drewN | apply below_drew1) | exact HB.out))) : w.heap.size ≤ gb262)); clear HB; have HB := n0_; have BK262 := n1_; have GW262 := n2_; have GE262 := n3_; clear n0_ n1_ n2_ n3_; clear hb hbox hg; have hcz20_0 : w19.cell? ⟨gb262, 0, none⟩ = some (.string a0_0) := (blk_cell BK262.out 0).trans rfl; have hcz20_1 : w19.cell? ⟨gb262, 1, none⟩ = some (.int .i64 a0_1) := (blk_cell BK262.out 1).trans rfl; have hcz20_2 : w19.cell? ⟨gb262, 2, none⟩ = some (.int .i64 a0_2) := (blk_cell BK262.out 2).trans rfl; have hcz20_3 : w19.cell? ⟨gb262, 3, none⟩ = some (.bool a0_3) := (blk_cell BK262.out 3).trans rfl; have hcz20_4 : w19.cell? ⟨gb262, 4, none⟩ = some (.string a0_4) := (blk_cell BK262.out 4).trans rfl; have hcz20_5 : w19.cell? ⟨gb262, 5, none⟩ = some (.string a0_5) := (blk_cell BK262.out 5).trans rfl; have hfz20_0 := blk_frozen BK262.out 0; have hfz20_1 := blk_frozen BK262.out 1; have hfz20_2 := blk_frozen BK262.out 2; have hfz20_3 := blk_frozen BK262.out 3; have hfz20_4 := blk_frozen BK262.out 4; have hfz20_5 := blk_frozen BK262.out 5) | ((with_reducible refine gate_callee (f := 28) rfl ?_); refine gm_ (some 5) Tryd.func28 #[.string a0_0] ?_; (with_reducible refine (trystlaw18_address.calls k a0_0 true _ A2.out).mono ?_); rintro e w' ⟨rfl, ⟨nd, rfl⟩⟩; refine ⟨_, rfl, ?_⟩) | (go_at_call 28; (with_reducible refine (trystlaw18_address.calls k a0_4 true _ A16.out).mono ?_); rintro e w' ⟨rfl, ⟨nd, rfl⟩⟩))
          go_ret
          exact ⟨by first | rfl | (simp [i64_w]; done) | (simp [errW_none, errW_some] <;> rfl) | (simp [*, errW_none, errW_some] <;> rfl), by repeat (first | (with_reducible first | exact HB.out | apply below_alloc | apply pw_below_drewN | apply below_drew1 | refine below_set ?_ GE262.out) | exact HB.out)⟩
         ·rw [if_neg c18] at H
          have c18b0 : (a0_5.toList == ([] : List UInt8)) = false := beq_eq_false_iff_ne.mpr c18
          have c18b1 : (a0_5.toList != ([] : List UInt8)) = true := bne_iff_ne.mpr c18
          replace H := Option.bind_eq_some_iff.mp H
          obtain ⟨t266, A210, H⟩ := H
          replace H : (some t266) = some r := H
          have A21 := Aside0.mk A210
          clear A210
          obtain rfl := Option.some.inj H
          go_enter Tryd.func29, Tryd.ntmps29
          go_wp2_with (first | ((with_reducible refine gate_dst (N := 1) rfl ?_); refine box_event ?hg (N := 1) ?hd (cs := #[.string a0_0, .int .i64 a0_1, .int .i64 a0_2, .bool a0_3, .string a0_4, .string a0_5]) (t := 46) ?hr ?_; (case hd => rfl); (case hg => rfl); (case hr => first | (go_simp; done) | (go_simp; rfl)); intro gb262 hg w22 hbox hb; have n0_ := Aside0.mk (below_step (by repeat (first | (with_reducible first | exact HB.out | apply below_alloc | apply pw_below_drewN | apply below_drew1) | exact HB.out)) hb); have n1_ := Aside0.mk (hbox); have n2_ := Aside0.mk ((by rw [hg]; exact (below_size (by repeat (first | (with_reducible first | exact HB.out | apply below_alloc | apply pw_below_drewN | apply below_drew1) | exact HB.out))) : w.heap.size ≤ gb262)); have n3_ := Aside0.mk ((by rw [hg]; exact (below_size (by repeat (first | (with_reducible first | exact HB.out | apply below_alloc | apply pw_below_drewN | apply below_drew1) | exact HB.out))) : w.heap.size ≤ gb262)); clear HB; have HB := n0_; have BK262 := n1_; have GW262 := n2_; have GE262 := n3_; clear n0_ n1_ n2_ n3_; clear hb hbox hg; have hcz23_0 : w22.cell? ⟨gb262, 0, none⟩ = some (.string a0_0) := (blk_cell BK262.out 0).trans rfl; have hcz23_1 : w22.cell? ⟨gb262, 1, none⟩ = some (.int .i64 a0_1) := (blk_cell BK262.out 1).trans rfl; have hcz23_2 : w22.cell? ⟨gb262, 2, none⟩ = some (.int .i64 a0_2) := (blk_cell BK262.out 2).trans rfl; have hcz23_3 : w22.cell? ⟨gb262, 3, none⟩ = some (.bool a0_3) := (blk_cell BK262.out 3).trans rfl; have hcz23_4 : w22.cell? ⟨gb262, 4, none⟩ = some (.string a0_4) := (blk_cell BK262.out 4).trans rfl; have hcz23_5 : w22.cell? ⟨gb262, 5, none⟩ = some (.string a0_5) := (blk_cell BK262.out 5).trans rfl; have hfz23_0 := blk_frozen BK262.out 0; have hfz23_1 := blk_frozen BK262.out 1; have hfz23_2 := blk_frozen BK262.out 2; have hfz23_3 := blk_frozen BK262.out 3; have hfz23_4 := blk_frozen BK262.out 4; have hfz23_5 := blk_frozen BK262.out 5) | ((with_reducible refine gate_callee (f := 28) rfl ?_); refine gm_ (some 5) Tryd.func28 #[.string a0_0] ?_; (with_reducible refine (trystlaw18_address.calls k a0_0 true _ A2.out).mono ?_); rintro e w' ⟨rfl, ⟨nd, rfl⟩⟩; refine ⟨_, rfl, ?_⟩) | (go_at_call 28; (with_reducible refine (trystlaw18_address.calls k a0_4 true _ A16.out).mono ?_); rintro e w' ⟨rfl, ⟨nd, rfl⟩⟩) | (go_at_call 28; (with_reducible refine (trystlaw18_address.calls k a0_5 t266 _ A21.out).mono ?_); rintro e w' ⟨rfl, ⟨nd, rfl⟩⟩))
          go_ret
          exact ⟨by first | rfl | (simp [i64_w]; done) | (simp [errW_none, errW_some] <;> rfl) | (simp [*, errW_none, errW_some] <;> rfl), by repeat (first | (with_reducible first | exact HB.out | apply below_alloc | apply pw_below_drewN | apply below_drew1 | refine below_set ?_ GE262.out) | exact HB.out)⟩
        ·replace c17 := Bool.eq_false_iff.mpr c17
         subst c17
         have H1 : (some false) = some r := by rw [if_neg (show ¬ (false = true) by decide)] at H; exact H
         clear H
         have H := H1
         clear H1
         obtain rfl := Option.some.inj H
         go_enter Tryd.func29, Tryd.ntmps29
         go_wp2_with (first | ((with_reducible refine gate_dst (N := 1) rfl ?_); refine box_event ?hg (N := 1) ?hd (cs := #[.string a0_0, .int .i64 a0_1, .int .i64 a0_2, .bool a0_3, .string a0_4, .string a0_5]) (t := 46) ?hr ?_; (case hd => rfl); (case hg => rfl); (case hr => first | (go_simp; done) | (go_simp; rfl)); intro gb262 hg w24 hbox hb; have n0_ := Aside0.mk (below_step (by repeat (first | (with_reducible first | exact HB.out | apply below_alloc | apply pw_below_drewN | apply below_drew1) | exact HB.out)) hb); have n1_ := Aside0.mk (hbox); have n2_ := Aside0.mk ((by rw [hg]; exact (below_size (by repeat (first | (with_reducible first | exact HB.out | apply below_alloc | apply pw_below_drewN | apply below_drew1) | exact HB.out))) : w.heap.size ≤ gb262)); have n3_ := Aside0.mk ((by rw [hg]; exact (below_size (by repeat (first | (with_reducible first | exact HB.out | apply below_alloc | apply pw_below_drewN | apply below_drew1) | exact HB.out))) : w.heap.size ≤ gb262)); clear HB; have HB := n0_; have BK262 := n1_; have GW262 := n2_; have GE262 := n3_; clear n0_ n1_ n2_ n3_; clear hb hbox hg; have hcz25_0 : w24.cell? ⟨gb262, 0, none⟩ = some (.string a0_0) := (blk_cell BK262.out 0).trans rfl; have hcz25_1 : w24.cell? ⟨gb262, 1, none⟩ = some (.int .i64 a0_1) := (blk_cell BK262.out 1).trans rfl; have hcz25_2 : w24.cell? ⟨gb262, 2, none⟩ = some (.int .i64 a0_2) := (blk_cell BK262.out 2).trans rfl; have hcz25_3 : w24.cell? ⟨gb262, 3, none⟩ = some (.bool a0_3) := (blk_cell BK262.out 3).trans rfl; have hcz25_4 : w24.cell? ⟨gb262, 4, none⟩ = some (.string a0_4) := (blk_cell BK262.out 4).trans rfl; have hcz25_5 : w24.cell? ⟨gb262, 5, none⟩ = some (.string a0_5) := (blk_cell BK262.out 5).trans rfl; have hfz25_0 := blk_frozen BK262.out 0; have hfz25_1 := blk_frozen BK262.out 1; have hfz25_2 := blk_frozen BK262.out 2; have hfz25_3 := blk_frozen BK262.out 3; have hfz25_4 := blk_frozen BK262.out 4; have hfz25_5 := blk_frozen BK262.out 5) | ((with_reducible refine gate_callee (f := 28) rfl ?_); refine gm_ (some 5) Tryd.func28 #[.string a0_0] ?_; (with_reducible refine (trystlaw18_address.calls k a0_0 true _ A2.out).mono ?_); rintro e w' ⟨rfl, ⟨nd, rfl⟩⟩; refine ⟨_, rfl, ?_⟩) | (go_at_call 28; (with_reducible refine (trystlaw18_address.calls k a0_4 false _ A16.out).mono ?_); rintro e w' ⟨rfl, ⟨nd, rfl⟩⟩))
         go_ret
         exact ⟨by first | rfl | (simp [i64_w]; done) | (simp [errW_none, errW_some] <;> rfl) | (simp [*, errW_none, errW_some] <;> rfl), by repeat (first | (with_reducible first | exact HB.out | apply below_alloc | apply pw_below_drewN | apply below_drew1 | refine below_set ?_ GE262.out) | exact HB.out)⟩
      ·rw [if_neg c8] at H
       have c8b0 : ((a0_1 == 4) == (a0_4.toList != ([] : List UInt8))) = false := by simpa using c8
       (try (have c8b1 : decide ((a0_1 == 4) = (a0_4.toList != ([] : List UInt8))) = false := by simpa using c8))
       (try (have c8b2 : ((a0_1 == 4) == (a0_4.toList != ([] : List UInt8))) = false := by simpa using c8))
       (try (have c8b3 : ¬ ((a0_1 == 4) = (a0_4.toList != ([] : List UInt8))) := by simpa using c8))
       clear c8
       by_cases cz_ : a0_4.toList = ([] : List UInt8)
       ·have czb0_ : (a0_4.toList == ([] : List UInt8)) = true := beq_iff_eq.mpr cz_
        have czb1_ : (a0_4.toList != ([] : List UInt8)) = false := bne_eq_false_iff_eq.mpr cz_
        have czz_ : (a0_1 == 4) = true := by simpa [czb1_] using c8b0
        clear cz_
        obtain rfl := Option.some.inj H
        go_enter Tryd.func29, Tryd.ntmps29
        go_wp2_with (first | ((with_reducible refine gate_dst (N := 1) rfl ?_); refine box_event ?hg (N := 1) ?hd (cs := #[.string a0_0, .int .i64 a0_1, .int .i64 a0_2, .bool a0_3, .string a0_4, .string a0_5]) (t := 46) ?hr ?_; (case hd => rfl); (case hg => rfl); (case hr => first | (go_simp; done) | (go_simp; rfl)); intro gb262 hg w26 hbox hb; have n0_ := Aside0.mk (below_step (by repeat (first | (with_reducible first | exact HB.out | apply below_alloc | apply pw_below_drewN | apply below_drew1) | exact HB.out)) hb); have n1_ := Aside0.mk (hbox); have n2_ := Aside0.mk ((by rw [hg]; exact (below_size (by repeat (first | (with_reducible first | exact HB.out | apply below_alloc | apply pw_below_drewN | apply below_drew1) | exact HB.out))) : w.heap.size ≤ gb262)); have n3_ := Aside0.mk ((by rw [hg]; exact (below_size (by repeat (first | (with_reducible first | exact HB.out | apply below_alloc | apply pw_below_drewN | apply below_drew1) | exact HB.out))) : w.heap.size ≤ gb262)); clear HB; have HB := n0_; have BK262 := n1_; have GW262 := n2_; have GE262 := n3_; clear n0_ n1_ n2_ n3_; clear hb hbox hg; have hcz27_0 : w26.cell? ⟨gb262, 0, none⟩ = some (.string a0_0) := (blk_cell BK262.out 0).trans rfl; have hcz27_1 : w26.cell? ⟨gb262, 1, none⟩ = some (.int .i64 a0_1) := (blk_cell BK262.out 1).trans rfl; have hcz27_2 : w26.cell? ⟨gb262, 2, none⟩ = some (.int .i64 a0_2) := (blk_cell BK262.out 2).trans rfl; have hcz27_3 : w26.cell? ⟨gb262, 3, none⟩ = some (.bool a0_3) := (blk_cell BK262.out 3).trans rfl; have hcz27_4 : w26.cell? ⟨gb262, 4, none⟩ = some (.string a0_4) := (blk_cell BK262.out 4).trans rfl; have hcz27_5 : w26.cell? ⟨gb262, 5, none⟩ = some (.string a0_5) := (blk_cell BK262.out 5).trans rfl; have hfz27_0 := blk_frozen BK262.out 0; have hfz27_1 := blk_frozen BK262.out 1; have hfz27_2 := blk_frozen BK262.out 2; have hfz27_3 := blk_frozen BK262.out 3; have hfz27_4 := blk_frozen BK262.out 4; have hfz27_5 := blk_frozen BK262.out 5) | ((with_reducible refine gate_callee (f := 28) rfl ?_); refine gm_ (some 5) Tryd.func28 #[.string a0_0] ?_; (with_reducible refine (trystlaw18_address.calls k a0_0 true _ A2.out).mono ?_); rintro e w' ⟨rfl, ⟨nd, rfl⟩⟩; refine ⟨_, rfl, ?_⟩))
        go_ret
        exact ⟨by first | rfl | (simp [i64_w]; done) | (simp [errW_none, errW_some] <;> rfl) | (simp [*, errW_none, errW_some] <;> rfl), by repeat (first | (with_reducible first | exact HB.out | apply below_alloc | apply pw_below_drewN | apply below_drew1 | refine below_set ?_ GE262.out) | exact HB.out)⟩
       ·have czb0_ : (a0_4.toList == ([] : List UInt8)) = false := beq_eq_false_iff_ne.mpr cz_
        have czb1_ : (a0_4.toList != ([] : List UInt8)) = true := bne_iff_ne.mpr cz_
        have czz_ : (a0_1 == 4) = false := by simpa [czb1_] using c8b0
        clear cz_
        obtain rfl := Option.some.inj H
        go_enter Tryd.func29, Tryd.ntmps29
        go_wp2_with (first | ((with_reducible refine gate_dst (N := 1) rfl ?_); refine box_event ?hg (N := 1) ?hd (cs := #[.string a0_0, .int .i64 a0_1, .int .i64 a0_2, .bool a0_3, .string a0_4, .string a0_5]) (t := 46) ?hr ?_; (case hd => rfl); (case hg => rfl); (case hr => first | (go_simp; done) | (go_simp; rfl)); intro gb262 hg w26 hbox hb; have n0_ := Aside0.mk (below_step (by repeat (first | (with_reducible first | exact HB.out | apply below_alloc | apply pw_below_drewN | apply below_drew1) | exact HB.out)) hb); have n1_ := Aside0.mk (hbox); have n2_ := Aside0.mk ((by rw [hg]; exact (below_size (by repeat (first | (with_reducible first | exact HB.out | apply below_alloc | apply pw_below_drewN | apply below_drew1) | exact HB.out))) : w.heap.size ≤ gb262)); have n3_ := Aside0.mk ((by rw [hg]; exact (below_size (by repeat (first | (with_reducible first | exact HB.out | apply below_alloc | apply pw_below_drewN | apply below_drew1) | exact HB.out))) : w.heap.size ≤ gb262)); clear HB; have HB := n0_; have BK262 := n1_; have GW262 := n2_; have GE262 := n3_; clear n0_ n1_ n2_ n3_; clear hb hbox hg; have hcz27_0 : w26.cell? ⟨gb262, 0, none⟩ = some (.string a0_0) := (blk_cell BK262.out 0).trans rfl; have hcz27_1 : w26.cell? ⟨gb262, 1, none⟩ = some (.int .i64 a0_1) := (blk_cell BK262.out 1).trans rfl; have hcz27_2 : w26.cell? ⟨gb262, 2, none⟩ = some (.int .i64 a0_2) := (blk_cell BK262.out 2).trans rfl; have hcz27_3 : w26.cell? ⟨gb262, 3, none⟩ = some (.bool a0_3) := (blk_cell BK262.out 3).trans rfl; have hcz27_4 : w26.cell? ⟨gb262, 4, none⟩ = some (.string a0_4) := (blk_cell BK262.out 4).trans rfl; have hcz27_5 : w26.cell? ⟨gb262, 5, none⟩ = some (.string a0_5) := (blk_cell BK262.out 5).trans rfl; have hfz27_0 := blk_frozen BK262.out 0; have hfz27_1 := blk_frozen BK262.out 1; have hfz27_2 := blk_frozen BK262.out 2; have hfz27_3 := blk_frozen BK262.out 3; have hfz27_4 := blk_frozen BK262.out 4; have hfz27_5 := blk_frozen BK262.out 5) | ((with_reducible refine gate_callee (f := 28) rfl ?_); refine gm_ (some 5) Tryd.func28 #[.string a0_0] ?_; (with_reducible refine (trystlaw18_address.calls k a0_0 true _ A2.out).mono ?_); rintro e w' ⟨rfl, ⟨nd, rfl⟩⟩; refine ⟨_, rfl, ?_⟩))
        go_ret
        exact ⟨by first | rfl | (simp [i64_w]; done) | (simp [errW_none, errW_some] <;> rfl) | (simp [*, errW_none, errW_some] <;> rfl), by repeat (first | (with_reducible first | exact HB.out | apply below_alloc | apply pw_below_drewN | apply below_drew1 | refine below_set ?_ GE262.out) | exact HB.out)⟩
     ·rw [if_neg c7] at H
      have c7b0 : decide (a0_2 ≤ 3) = false := decide_eq_false c7
      clear c7
      obtain rfl := Option.some.inj H
      go_enter Tryd.func29, Tryd.ntmps29
      go_wp2_with (first | ((with_reducible refine gate_dst (N := 1) rfl ?_); refine box_event ?hg (N := 1) ?hd (cs := #[.string a0_0, .int .i64 a0_1, .int .i64 a0_2, .bool a0_3, .string a0_4, .string a0_5]) (t := 46) ?hr ?_; (case hd => rfl); (case hg => rfl); (case hr => first | (go_simp; done) | (go_simp; rfl)); intro gb262 hg w28 hbox hb; have n0_ := Aside0.mk (below_step (by repeat (first | (with_reducible first | exact HB.out | apply below_alloc | apply pw_below_drewN | apply below_drew1) | exact HB.out)) hb); have n1_ := Aside0.mk (hbox); have n2_ := Aside0.mk ((by rw [hg]; exact (below_size (by repeat (first | (with_reducible first | exact HB.out | apply below_alloc | apply pw_below_drewN | apply below_drew1) | exact HB.out))) : w.heap.size ≤ gb262)); have n3_ := Aside0.mk ((by rw [hg]; exact (below_size (by repeat (first | (with_reducible first | exact HB.out | apply below_alloc | apply pw_below_drewN | apply below_drew1) | exact HB.out))) : w.heap.size ≤ gb262)); clear HB; have HB := n0_; have BK262 := n1_; have GW262 := n2_; have GE262 := n3_; clear n0_ n1_ n2_ n3_; clear hb hbox hg; have hcz29_0 : w28.cell? ⟨gb262, 0, none⟩ = some (.string a0_0) := (blk_cell BK262.out 0).trans rfl; have hcz29_1 : w28.cell? ⟨gb262, 1, none⟩ = some (.int .i64 a0_1) := (blk_cell BK262.out 1).trans rfl; have hcz29_2 : w28.cell? ⟨gb262, 2, none⟩ = some (.int .i64 a0_2) := (blk_cell BK262.out 2).trans rfl; have hcz29_3 : w28.cell? ⟨gb262, 3, none⟩ = some (.bool a0_3) := (blk_cell BK262.out 3).trans rfl; have hcz29_4 : w28.cell? ⟨gb262, 4, none⟩ = some (.string a0_4) := (blk_cell BK262.out 4).trans rfl; have hcz29_5 : w28.cell? ⟨gb262, 5, none⟩ = some (.string a0_5) := (blk_cell BK262.out 5).trans rfl; have hfz29_0 := blk_frozen BK262.out 0; have hfz29_1 := blk_frozen BK262.out 1; have hfz29_2 := blk_frozen BK262.out 2; have hfz29_3 := blk_frozen BK262.out 3; have hfz29_4 := blk_frozen BK262.out 4; have hfz29_5 := blk_frozen BK262.out 5) | ((with_reducible refine gate_callee (f := 28) rfl ?_); refine gm_ (some 5) Tryd.func28 #[.string a0_0] ?_; (with_reducible refine (trystlaw18_address.calls k a0_0 true _ A2.out).mono ?_); rintro e w' ⟨rfl, ⟨nd, rfl⟩⟩; refine ⟨_, rfl, ?_⟩))
      go_ret
      exact ⟨by first | rfl | (simp [i64_w]; done) | (simp [errW_none, errW_some] <;> rfl) | (simp [*, errW_none, errW_some] <;> rfl), by repeat (first | (with_reducible first | exact HB.out | apply below_alloc | apply pw_below_drewN | apply below_drew1 | refine below_set ?_ GE262.out) | exact HB.out)⟩
    ·rw [if_neg c6] at H
     have c6b0 : decide (0 ≤ a0_2) = false := decide_eq_false c6
     clear c6
     obtain rfl := Option.some.inj H
     go_enter Tryd.func29, Tryd.ntmps29
     go_wp2_with (first | ((with_reducible refine gate_dst (N := 1) rfl ?_); refine box_event ?hg (N := 1) ?hd (cs := #[.string a0_0, .int .i64 a0_1, .int .i64 a0_2, .bool a0_3, .string a0_4, .string a0_5]) (t := 46) ?hr ?_; (case hd => rfl); (case hg => rfl); (case hr => first | (go_simp; done) | (go_simp; rfl)); intro gb262 hg w30 hbox hb; have n0_ := Aside0.mk (below_step (by repeat (first | (with_reducible first | exact HB.out | apply below_alloc | apply pw_below_drewN | apply below_drew1) | exact HB.out)) hb); have n1_ := Aside0.mk (hbox); have n2_ := Aside0.mk ((by rw [hg]; exact (below_size (by repeat (first | (with_reducible first | exact HB.out | apply below_alloc | apply pw_below_drewN | apply below_drew1) | exact HB.out))) : w.heap.size ≤ gb262)); have n3_ := Aside0.mk ((by rw [hg]; exact (below_size (by repeat (first | (with_reducible first | exact HB.out | apply below_alloc | apply pw_below_drewN | apply below_drew1) | exact HB.out))) : w.heap.size ≤ gb262)); clear HB; have HB := n0_; have BK262 := n1_; have GW262 := n2_; have GE262 := n3_; clear n0_ n1_ n2_ n3_; clear hb hbox hg; have hcz31_0 : w30.cell? ⟨gb262, 0, none⟩ = some (.string a0_0) := (blk_cell BK262.out 0).trans rfl; have hcz31_1 : w30.cell? ⟨gb262, 1, none⟩ = some (.int .i64 a0_1) := (blk_cell BK262.out 1).trans rfl; have hcz31_2 : w30.cell? ⟨gb262, 2, none⟩ = some (.int .i64 a0_2) := (blk_cell BK262.out 2).trans rfl; have hcz31_3 : w30.cell? ⟨gb262, 3, none⟩ = some (.bool a0_3) := (blk_cell BK262.out 3).trans rfl; have hcz31_4 : w30.cell? ⟨gb262, 4, none⟩ = some (.string a0_4) := (blk_cell BK262.out 4).trans rfl; have hcz31_5 : w30.cell? ⟨gb262, 5, none⟩ = some (.string a0_5) := (blk_cell BK262.out 5).trans rfl; have hfz31_0 := blk_frozen BK262.out 0; have hfz31_1 := blk_frozen BK262.out 1; have hfz31_2 := blk_frozen BK262.out 2; have hfz31_3 := blk_frozen BK262.out 3; have hfz31_4 := blk_frozen BK262.out 4; have hfz31_5 := blk_frozen BK262.out 5) | ((with_reducible refine gate_callee (f := 28) rfl ?_); refine gm_ (some 5) Tryd.func28 #[.string a0_0] ?_; (with_reducible refine (trystlaw18_address.calls k a0_0 true _ A2.out).mono ?_); rintro e w' ⟨rfl, ⟨nd, rfl⟩⟩; refine ⟨_, rfl, ?_⟩))
     go_ret
     exact ⟨by first | rfl | (simp [i64_w]; done) | (simp [errW_none, errW_some] <;> rfl) | (simp [*, errW_none, errW_some] <;> rfl), by repeat (first | (with_reducible first | exact HB.out | apply below_alloc | apply pw_below_drewN | apply below_drew1 | refine below_set ?_ GE262.out) | exact HB.out)⟩
   ·rw [if_neg c5] at H
    have c5b0 : decide (a0_1 ≤ 4) = false := decide_eq_false c5
    clear c5
    obtain rfl := Option.some.inj H
    go_enter Tryd.func29, Tryd.ntmps29
    go_wp2_with (first | ((with_reducible refine gate_dst (N := 1) rfl ?_); refine box_event ?hg (N := 1) ?hd (cs := #[.string a0_0, .int .i64 a0_1, .int .i64 a0_2, .bool a0_3, .string a0_4, .string a0_5]) (t := 46) ?hr ?_; (case hd => rfl); (case hg => rfl); (case hr => first | (go_simp; done) | (go_simp; rfl)); intro gb262 hg w32 hbox hb; have n0_ := Aside0.mk (below_step (by repeat (first | (with_reducible first | exact HB.out | apply below_alloc | apply pw_below_drewN | apply below_drew1) | exact HB.out)) hb); have n1_ := Aside0.mk (hbox); have n2_ := Aside0.mk ((by rw [hg]; exact (below_size (by repeat (first | (with_reducible first | exact HB.out | apply below_alloc | apply pw_below_drewN | apply below_drew1) | exact HB.out))) : w.heap.size ≤ gb262)); have n3_ := Aside0.mk ((by rw [hg]; exact (below_size (by repeat (first | (with_reducible first | exact HB.out | apply below_alloc | apply pw_below_drewN | apply below_drew1) | exact HB.out))) : w.heap.size ≤ gb262)); clear HB; have HB := n0_; have BK262 := n1_; have GW262 := n2_; have GE262 := n3_; clear n0_ n1_ n2_ n3_; clear hb hbox hg; have hcz33_0 : w32.cell? ⟨gb262, 0, none⟩ = some (.string a0_0) := (blk_cell BK262.out 0).trans rfl; have hcz33_1 : w32.cell? ⟨gb262, 1, none⟩ = some (.int .i64 a0_1) := (blk_cell BK262.out 1).trans rfl; have hcz33_2 : w32.cell? ⟨gb262, 2, none⟩ = some (.int .i64 a0_2) := (blk_cell BK262.out 2).trans rfl; have hcz33_3 : w32.cell? ⟨gb262, 3, none⟩ = some (.bool a0_3) := (blk_cell BK262.out 3).trans rfl; have hcz33_4 : w32.cell? ⟨gb262, 4, none⟩ = some (.string a0_4) := (blk_cell BK262.out 4).trans rfl; have hcz33_5 : w32.cell? ⟨gb262, 5, none⟩ = some (.string a0_5) := (blk_cell BK262.out 5).trans rfl; have hfz33_0 := blk_frozen BK262.out 0; have hfz33_1 := blk_frozen BK262.out 1; have hfz33_2 := blk_frozen BK262.out 2; have hfz33_3 := blk_frozen BK262.out 3; have hfz33_4 := blk_frozen BK262.out 4; have hfz33_5 := blk_frozen BK262.out 5) | ((with_reducible refine gate_callee (f := 28) rfl ?_); refine gm_ (some 5) Tryd.func28 #[.string a0_0] ?_; (with_reducible refine (trystlaw18_address.calls k a0_0 true _ A2.out).mono ?_); rintro e w' ⟨rfl, ⟨nd, rfl⟩⟩; refine ⟨_, rfl, ?_⟩))
    go_ret
    exact ⟨by first | rfl | (simp [i64_w]; done) | (simp [errW_none, errW_some] <;> rfl) | (simp [*, errW_none, errW_some] <;> rfl), by repeat (first | (with_reducible first | exact HB.out | apply below_alloc | apply pw_below_drewN | apply below_drew1 | refine below_set ?_ GE262.out) | exact HB.out)⟩
  ·rw [if_neg c4] at H
   have c4b0 : decide (0 ≤ a0_1) = false := decide_eq_false c4
   clear c4
   obtain rfl := Option.some.inj H
   go_enter Tryd.func29, Tryd.ntmps29
   go_wp2_with (first | ((with_reducible refine gate_dst (N := 1) rfl ?_); refine box_event ?hg (N := 1) ?hd (cs := #[.string a0_0, .int .i64 a0_1, .int .i64 a0_2, .bool a0_3, .string a0_4, .string a0_5]) (t := 46) ?hr ?_; (case hd => rfl); (case hg => rfl); (case hr => first | (go_simp; done) | (go_simp; rfl)); intro gb262 hg w34 hbox hb; have n0_ := Aside0.mk (below_step (by repeat (first | (with_reducible first | exact HB.out | apply below_alloc | apply pw_below_drewN | apply below_drew1) | exact HB.out)) hb); have n1_ := Aside0.mk (hbox); have n2_ := Aside0.mk ((by rw [hg]; exact (below_size (by repeat (first | (with_reducible first | exact HB.out | apply below_alloc | apply pw_below_drewN | apply below_drew1) | exact HB.out))) : w.heap.size ≤ gb262)); have n3_ := Aside0.mk ((by rw [hg]; exact (below_size (by repeat (first | (with_reducible first | exact HB.out | apply below_alloc | apply pw_below_drewN | apply below_drew1) | exact HB.out))) : w.heap.size ≤ gb262)); clear HB; have HB := n0_; have BK262 := n1_; have GW262 := n2_; have GE262 := n3_; clear n0_ n1_ n2_ n3_; clear hb hbox hg; have hcz35_0 : w34.cell? ⟨gb262, 0, none⟩ = some (.string a0_0) := (blk_cell BK262.out 0).trans rfl; have hcz35_1 : w34.cell? ⟨gb262, 1, none⟩ = some (.int .i64 a0_1) := (blk_cell BK262.out 1).trans rfl; have hcz35_2 : w34.cell? ⟨gb262, 2, none⟩ = some (.int .i64 a0_2) := (blk_cell BK262.out 2).trans rfl; have hcz35_3 : w34.cell? ⟨gb262, 3, none⟩ = some (.bool a0_3) := (blk_cell BK262.out 3).trans rfl; have hcz35_4 : w34.cell? ⟨gb262, 4, none⟩ = some (.string a0_4) := (blk_cell BK262.out 4).trans rfl; have hcz35_5 : w34.cell? ⟨gb262, 5, none⟩ = some (.string a0_5) := (blk_cell BK262.out 5).trans rfl; have hfz35_0 := blk_frozen BK262.out 0; have hfz35_1 := blk_frozen BK262.out 1; have hfz35_2 := blk_frozen BK262.out 2; have hfz35_3 := blk_frozen BK262.out 3; have hfz35_4 := blk_frozen BK262.out 4; have hfz35_5 := blk_frozen BK262.out 5) | ((with_reducible refine gate_callee (f := 28) rfl ?_); refine gm_ (some 5) Tryd.func28 #[.string a0_0] ?_; (with_reducible refine (trystlaw18_address.calls k a0_0 true _ A2.out).mono ?_); rintro e w' ⟨rfl, ⟨nd, rfl⟩⟩; refine ⟨_, rfl, ?_⟩))
   go_ret
   exact ⟨by first | rfl | (simp [i64_w]; done) | (simp [errW_none, errW_some] <;> rfl) | (simp [*, errW_none, errW_some] <;> rfl), by repeat (first | (with_reducible first | exact HB.out | apply below_alloc | apply pw_below_drewN | apply below_drew1 | refine below_set ?_ GE262.out) | exact HB.out)⟩
 ·replace c3 := Bool.eq_false_iff.mpr c3
  subst c3
  have H1 : (some false) = some r := by rw [if_neg (show ¬ (false = true) by decide)] at H; exact H
  clear H
  have H := H1
  clear H1
  obtain rfl := Option.some.inj H
  go_enter Tryd.func29, Tryd.ntmps29
  go_wp2_with (first | ((with_reducible refine gate_dst (N := 1) rfl ?_); refine box_event ?hg (N := 1) ?hd (cs := #[.string a0_0, .int .i64 a0_1, .int .i64 a0_2, .bool a0_3, .string a0_4, .string a0_5]) (t := 46) ?hr ?_; (case hd => rfl); (case hg => rfl); (case hr => first | (go_simp; done) | (go_simp; rfl)); intro gb262 hg w36 hbox hb; have n0_ := Aside0.mk (below_step (by repeat (first | (with_reducible first | exact HB.out | apply below_alloc | apply pw_below_drewN | apply below_drew1) | exact HB.out)) hb); have n1_ := Aside0.mk (hbox); have n2_ := Aside0.mk ((by rw [hg]; exact (below_size (by repeat (first | (with_reducible first | exact HB.out | apply below_alloc | apply pw_below_drewN | apply below_drew1) | exact HB.out))) : w.heap.size ≤ gb262)); have n3_ := Aside0.mk ((by rw [hg]; exact (below_size (by repeat (first | (with_reducible first | exact HB.out | apply below_alloc | apply pw_below_drewN | apply below_drew1) | exact HB.out))) : w.heap.size ≤ gb262)); clear HB; have HB := n0_; have BK262 := n1_; have GW262 := n2_; have GE262 := n3_; clear n0_ n1_ n2_ n3_; clear hb hbox hg; have hcz37_0 : w36.cell? ⟨gb262, 0, none⟩ = some (.string a0_0) := (blk_cell BK262.out 0).trans rfl; have hcz37_1 : w36.cell? ⟨gb262, 1, none⟩ = some (.int .i64 a0_1) := (blk_cell BK262.out 1).trans rfl; have hcz37_2 : w36.cell? ⟨gb262, 2, none⟩ = some (.int .i64 a0_2) := (blk_cell BK262.out 2).trans rfl; have hcz37_3 : w36.cell? ⟨gb262, 3, none⟩ = some (.bool a0_3) := (blk_cell BK262.out 3).trans rfl; have hcz37_4 : w36.cell? ⟨gb262, 4, none⟩ = some (.string a0_4) := (blk_cell BK262.out 4).trans rfl; have hcz37_5 : w36.cell? ⟨gb262, 5, none⟩ = some (.string a0_5) := (blk_cell BK262.out 5).trans rfl; have hfz37_0 := blk_frozen BK262.out 0; have hfz37_1 := blk_frozen BK262.out 1; have hfz37_2 := blk_frozen BK262.out 2; have hfz37_3 := blk_frozen BK262.out 3; have hfz37_4 := blk_frozen BK262.out 4; have hfz37_5 := blk_frozen BK262.out 5) | ((with_reducible refine gate_callee (f := 28) rfl ?_); refine gm_ (some 5) Tryd.func28 #[.string a0_0] ?_; (with_reducible refine (trystlaw18_address.calls k a0_0 false _ A2.out).mono ?_); rintro e w' ⟨rfl, ⟨nd, rfl⟩⟩; refine ⟨_, rfl, ?_⟩))
  go_ret
  exact ⟨by first | rfl | (simp [i64_w]; done) | (simp [errW_none, errW_some] <;> rfl) | (simp [*, errW_none, errW_some] <;> rfl), by repeat (first | (with_reducible first | exact HB.out | apply below_alloc | apply pw_below_drewN | apply below_drew1 | refine below_set ?_ GE262.out) | exact HB.out)⟩

end Go.Proofs.YtddoidcbpcmlaaaDoor.M
