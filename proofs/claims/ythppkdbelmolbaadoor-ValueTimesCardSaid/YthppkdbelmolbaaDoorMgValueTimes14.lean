/- Texts of this claim, merged: QtimR. -/
import Derived.Test.YthppkdbelmolbaaDoorMgValueTimes1
import Derived.Test.YthppkdbelmolbaaDoorMgValueTimes9
import Derived.Test.YthppkdbelmolbaaDoorMgValueTimes4
import Derived.Test.YthppkdbelmolbaaDoorMgValueTimes11
import Derived.Test.YthppkdbelmolbaaDoorMgValueTimes13
-- written by a program of this session (wip/own_print.sh)
namespace Go.Proofs.YthppkdbelmolbaaDoor.Q
open Go.RowKit Go.Proofs.YthppkdbelmolbaaDoorW.PrintWords Go.Proofs.YthppkdbelmolbaaDoorW.PrintLast Go.Proofs.YthppkdbelmolbaaDoorW.PrintMore
attribute [local go_sem] max2_int min2_int max_two min_two max_three min_three max_four min_four   -- for this text's walks alone
set_option linter.unusedVariables false
set_option linter.unusedSimpArgs false
/-! ### trystref12_ZoneName: function 35 -/
def trystref12_ZoneName.l0 : Nat → ByteArray → Int → Int → Option (Bool)
 | 0, _, _, _ => none
 | k + 1, x0, x6, x7 => if x7 < x6 then (if 0 ≤ x7 then (if x7 < (x0.size : Int) then (if (bt x0 x7) ≥ 97 then (if (bt x0 x7) ≤ 122 then (trystref12_ZoneName.l0 k x0 x6 (wrap64 (x7 + 1))) else (if (bt x0 x7) ≥ 65 then (if (bt x0 x7) ≤ 90 then (trystref12_ZoneName.l0 k x0 x6 (wrap64 (x7 + 1))) else (if (bt x0 x7) ≥ 48 then (if (bt x0 x7) ≤ 57 then (trystref12_ZoneName.l0 k x0 x6 (wrap64 (x7 + 1))) else (if (bt x0 x7) = 47 then (trystref12_ZoneName.l0 k x0 x6 (wrap64 (x7 + 1))) else (if (bt x0 x7) = 95 then (trystref12_ZoneName.l0 k x0 x6 (wrap64 (x7 + 1))) else (if (bt x0 x7) = 45 then (trystref12_ZoneName.l0 k x0 x6 (wrap64 (x7 + 1))) else (if ((bt x0 x7) = 43) then (trystref12_ZoneName.l0 k x0 x6 (wrap64 (x7 + 1))) else (some false)))))) else (if (bt x0 x7) = 47 then (trystref12_ZoneName.l0 k x0 x6 (wrap64 (x7 + 1))) else (if (bt x0 x7) = 95 then (trystref12_ZoneName.l0 k x0 x6 (wrap64 (x7 + 1))) else (if (bt x0 x7) = 45 then (trystref12_ZoneName.l0 k x0 x6 (wrap64 (x7 + 1))) else (if ((bt x0 x7) = 43) then (trystref12_ZoneName.l0 k x0 x6 (wrap64 (x7 + 1))) else (some false))))))) else (if (bt x0 x7) ≥ 48 then (if (bt x0 x7) ≤ 57 then (trystref12_ZoneName.l0 k x0 x6 (wrap64 (x7 + 1))) else (if (bt x0 x7) = 47 then (trystref12_ZoneName.l0 k x0 x6 (wrap64 (x7 + 1))) else (if (bt x0 x7) = 95 then (trystref12_ZoneName.l0 k x0 x6 (wrap64 (x7 + 1))) else (if (bt x0 x7) = 45 then (trystref12_ZoneName.l0 k x0 x6 (wrap64 (x7 + 1))) else (if ((bt x0 x7) = 43) then (trystref12_ZoneName.l0 k x0 x6 (wrap64 (x7 + 1))) else (some false)))))) else (if (bt x0 x7) = 47 then (trystref12_ZoneName.l0 k x0 x6 (wrap64 (x7 + 1))) else (if (bt x0 x7) = 95 then (trystref12_ZoneName.l0 k x0 x6 (wrap64 (x7 + 1))) else (if (bt x0 x7) = 45 then (trystref12_ZoneName.l0 k x0 x6 (wrap64 (x7 + 1))) else (if ((bt x0 x7) = 43) then (trystref12_ZoneName.l0 k x0 x6 (wrap64 (x7 + 1))) else (some false)))))))) else (if (bt x0 x7) ≥ 65 then (if (bt x0 x7) ≤ 90 then (trystref12_ZoneName.l0 k x0 x6 (wrap64 (x7 + 1))) else (if (bt x0 x7) ≥ 48 then (if (bt x0 x7) ≤ 57 then (trystref12_ZoneName.l0 k x0 x6 (wrap64 (x7 + 1))) else (if (bt x0 x7) = 47 then (trystref12_ZoneName.l0 k x0 x6 (wrap64 (x7 + 1))) else (if (bt x0 x7) = 95 then (trystref12_ZoneName.l0 k x0 x6 (wrap64 (x7 + 1))) else (if (bt x0 x7) = 45 then (trystref12_ZoneName.l0 k x0 x6 (wrap64 (x7 + 1))) else (if ((bt x0 x7) = 43) then (trystref12_ZoneName.l0 k x0 x6 (wrap64 (x7 + 1))) else (some false)))))) else (if (bt x0 x7) = 47 then (trystref12_ZoneName.l0 k x0 x6 (wrap64 (x7 + 1))) else (if (bt x0 x7) = 95 then (trystref12_ZoneName.l0 k x0 x6 (wrap64 (x7 + 1))) else (if (bt x0 x7) = 45 then (trystref12_ZoneName.l0 k x0 x6 (wrap64 (x7 + 1))) else (if ((bt x0 x7) = 43) then (trystref12_ZoneName.l0 k x0 x6 (wrap64 (x7 + 1))) else (some false))))))) else (if (bt x0 x7) ≥ 48 then (if (bt x0 x7) ≤ 57 then (trystref12_ZoneName.l0 k x0 x6 (wrap64 (x7 + 1))) else (if (bt x0 x7) = 47 then (trystref12_ZoneName.l0 k x0 x6 (wrap64 (x7 + 1))) else (if (bt x0 x7) = 95 then (trystref12_ZoneName.l0 k x0 x6 (wrap64 (x7 + 1))) else (if (bt x0 x7) = 45 then (trystref12_ZoneName.l0 k x0 x6 (wrap64 (x7 + 1))) else (if ((bt x0 x7) = 43) then (trystref12_ZoneName.l0 k x0 x6 (wrap64 (x7 + 1))) else (some false)))))) else (if (bt x0 x7) = 47 then (trystref12_ZoneName.l0 k x0 x6 (wrap64 (x7 + 1))) else (if (bt x0 x7) = 95 then (trystref12_ZoneName.l0 k x0 x6 (wrap64 (x7 + 1))) else (if (bt x0 x7) = 45 then (trystref12_ZoneName.l0 k x0 x6 (wrap64 (x7 + 1))) else (if ((bt x0 x7) = 43) then (trystref12_ZoneName.l0 k x0 x6 (wrap64 (x7 + 1))) else (some false)))))))) else (none)) else (none)) else (if (x0.size : Int) > 0 then (some (decide ((x0.size : Int) ≤ 60))) else (some false))
def trystref12_ZoneName.f (k : Nat) (a0 : ByteArray) : Option (Bool) := trystref12_ZoneName.l0 k a0 (a0.size : Int) 0
set_option maxHeartbeats 8000000 in
set_option maxRecDepth 100000 in
theorem trystref12_ZoneName.calls (k : Nat) (a0 : ByteArray) (r : Bool) (w : World) (h : trystref12_ZoneName.f k a0 = some r) :
  Calls Tryd.prog 35 #[.string a0] w fun e w' => e = .returned (.bool r) ∧ Drawn0 w w' := by
 have H : (trystref12_ZoneName.l0 k a0 (a0.size : Int) 0) = some r := h
 clear h
 have H' := Aside0.mk H
 clear H
 go_enter Tryd.func35, Tryd.ntmps35
 go_wp2
 go_loopg [7] k (fun kq v7 w' => ∃ (x7_1 : Int), v7 = .int .i64 x7_1 ∧ Aside0 (trystref12_ZoneName.l0 kq a0 (a0.size : Int) x7_1 = some r) ∧ Aside0 (kq ≤ k) ∧ Drawn0 w w')
 case atStart => exact ⟨(0), (by first | rfl | (simp; done) | (simp [*]; done)), H', ⟨Nat.le_refl _⟩, by repeat (first | exact Drawn0.refl _ | apply Drawn0.step)⟩
 case round =>
  clear H'
  obtain ⟨x7_1, rfl, HA, HK1, ⟨m1, rfl⟩⟩ := hrel
  cases gk with
  | zero => exact absurd HA.out (by simp [trystref12_ZoneName.l0])
  | succ k1 =>
   have H := HA.out
   clear HA
   simp only [trystref12_ZoneName.l0] at H
   by_cases c2 : x7_1 < (a0.size : Int)
   ·rw [if_pos c2] at H
    have c2b0 : decide (x7_1 < (a0.size : Int)) = true := decide_eq_true c2
    clear c2
    by_cases c3 : 0 ≤ x7_1
    ·rw [if_pos c3] at H
     have c3b0 : decide (0 ≤ x7_1) = true := decide_eq_true c3
     clear c3
     by_cases c4 : x7_1 < (a0.size : Int)
     ·rw [if_pos c4] at H
      have c4b0 : decide (x7_1 < (a0.size : Int)) = true := decide_eq_true c4
      clear c4
      by_cases c6 : (bt a0 x7_1) ≥ 97
      ·rw [if_pos c6] at H
       have c6b0 : decide (97 ≤ (bt a0 x7_1)) = true := decide_eq_true c6
       clear c6
       by_cases c7 : (bt a0 x7_1) ≤ 122
       ·rw [if_pos c7] at H
        have c7b0 : decide ((bt a0 x7_1) ≤ 122) = true := decide_eq_true c7
        clear c7
        have H' := Aside0.mk H
        clear H
        have p5 : 0 ≤ (x7_1 : Int) := of_decide_eq_true (by first | (with_reducible assumption) | assumption)
        have q5 : x7_1 < (a0.size : Int) := of_decide_eq_true (by first | (with_reducible assumption) | assumption)
        have hx5 := bt_at a0 x7_1
        replace p5 := eq_true p5
        replace q5 := eq_true q5
        go_wp2
        go_roundg k1
        case measure => have := HK1.out; omega
        case rel => exact ⟨(wrap64 (x7_1 + 1)), (by first | rfl | (simp; done) | (simp [*]; done)), H', ⟨by have := HK1.out; omega⟩, by repeat (first | exact Drawn0.refl _ | apply Drawn0.step)⟩
       ·rw [if_neg c7] at H
        have c7b0 : decide ((bt a0 x7_1) ≤ 122) = false := decide_eq_false c7
        clear c7
        by_cases c8 : (bt a0 x7_1) ≥ 65
        ·rw [if_pos c8] at H
         have c8b0 : decide (65 ≤ (bt a0 x7_1)) = true := decide_eq_true c8
         clear c8
         by_cases c9 : (bt a0 x7_1) ≤ 90
         ·rw [if_pos c9] at H
          have c9b0 : decide ((bt a0 x7_1) ≤ 90) = true := decide_eq_true c9
          clear c9
          have H' := Aside0.mk H
          clear H
          have p5 : 0 ≤ (x7_1 : Int) := of_decide_eq_true (by first | (with_reducible assumption) | assumption)
          have q5 : x7_1 < (a0.size : Int) := of_decide_eq_true (by first | (with_reducible assumption) | assumption)
          have hx5 := bt_at a0 x7_1
          replace p5 := eq_true p5
          replace q5 := eq_true q5
          go_wp2
          go_roundg k1
          case measure => have := HK1.out; omega
          case rel => exact ⟨(wrap64 (x7_1 + 1)), (by first | rfl | (simp; done) | (simp [*]; done)), H', ⟨by have := HK1.out; omega⟩, by repeat (first | exact Drawn0.refl _ | apply Drawn0.step)⟩
         ·rw [if_neg c9] at H
          have c9b0 : decide ((bt a0 x7_1) ≤ 90) = false := decide_eq_false c9
          clear c9
          by_cases c10 : (bt a0 x7_1) ≥ 48
          ·rw [if_pos c10] at H
           have c10b0 : decide (48 ≤ (bt a0 x7_1)) = true := decide_eq_true c10
           clear c10
           by_cases c11 : (bt a0 x7_1) ≤ 57
           ·rw [if_pos c11] at H
            have c11b0 : decide ((bt a0 x7_1) ≤ 57) = true := decide_eq_true c11
            clear c11
            have H' := Aside0.mk H
            clear H
            have p5 : 0 ≤ (x7_1 : Int) := of_decide_eq_true (by first | (with_reducible assumption) | assumption)
            have q5 : x7_1 < (a0.size : Int) := of_decide_eq_true (by first | (with_reducible assumption) | assumption)
            have hx5 := bt_at a0 x7_1
            replace p5 := eq_true p5
            replace q5 := eq_true q5
            go_wp2
            go_roundg k1
            case measure => have := HK1.out; omega
            case rel => exact ⟨(wrap64 (x7_1 + 1)), (by first | rfl | (simp; done) | (simp [*]; done)), H', ⟨by have := HK1.out; omega⟩, by repeat (first | exact Drawn0.refl _ | apply Drawn0.step)⟩
           ·rw [if_neg c11] at H
            have c11b0 : decide ((bt a0 x7_1) ≤ 57) = false := decide_eq_false c11
            clear c11
            by_cases c12 : (bt a0 x7_1) = 47
            ·rw [if_pos c12] at H
             have c12b0 : ((bt a0 x7_1) == 47) = true := beq_iff_eq.mpr c12
             have c12b1 : ((bt a0 x7_1) != 47) = false := bne_eq_false_iff_eq.mpr c12
             clear c12
             have H' := Aside0.mk H
             clear H
             have p5 : 0 ≤ (x7_1 : Int) := of_decide_eq_true (by first | (with_reducible assumption) | assumption)
             have q5 : x7_1 < (a0.size : Int) := of_decide_eq_true (by first | (with_reducible assumption) | assumption)
             have hx5 := bt_at a0 x7_1
             replace p5 := eq_true p5
             replace q5 := eq_true q5
             go_wp2
             go_roundg k1
             case measure => have := HK1.out; omega
             case rel => exact ⟨(wrap64 (x7_1 + 1)), (by first | rfl | (simp; done) | (simp [*]; done)), H', ⟨by have := HK1.out; omega⟩, by repeat (first | exact Drawn0.refl _ | apply Drawn0.step)⟩
            ·rw [if_neg c12] at H
             have c12b0 : ((bt a0 x7_1) == 47) = false := beq_eq_false_iff_ne.mpr c12
             have c12b1 : ((bt a0 x7_1) != 47) = true := bne_iff_ne.mpr c12
             by_cases c13 : (bt a0 x7_1) = 95
             ·rw [if_pos c13] at H
              have c13b0 : ((bt a0 x7_1) == 95) = true := beq_iff_eq.mpr c13
              have c13b1 : ((bt a0 x7_1) != 95) = false := bne_eq_false_iff_eq.mpr c13
              clear c13
              have H' := Aside0.mk H
              clear H
              have p5 : 0 ≤ (x7_1 : Int) := of_decide_eq_true (by first | (with_reducible assumption) | assumption)
              have q5 : x7_1 < (a0.size : Int) := of_decide_eq_true (by first | (with_reducible assumption) | assumption)
              have hx5 := bt_at a0 x7_1
              replace p5 := eq_true p5
              replace q5 := eq_true q5
              go_wp2
              go_roundg k1
              case measure => have := HK1.out; omega
              case rel => exact ⟨(wrap64 (x7_1 + 1)), (by first | rfl | (simp; done) | (simp [*]; done)), H', ⟨by have := HK1.out; omega⟩, by repeat (first | exact Drawn0.refl _ | apply Drawn0.step)⟩
             ·rw [if_neg c13] at H
              have c13b0 : ((bt a0 x7_1) == 95) = false := beq_eq_false_iff_ne.mpr c13
              have c13b1 : ((bt a0 x7_1) != 95) = true := bne_iff_ne.mpr c13
              by_cases c14 : (bt a0 x7_1) = 45
              ·rw [if_pos c14] at H
               have c14b0 : ((bt a0 x7_1) == 45) = true := beq_iff_eq.mpr c14
               have c14b1 : ((bt a0 x7_1) != 45) = false := bne_eq_false_iff_eq.mpr c14
               clear c14
               have H' := Aside0.mk H
               clear H
               have p5 : 0 ≤ (x7_1 : Int) := of_decide_eq_true (by first | (with_reducible assumption) | assumption)
               have q5 : x7_1 < (a0.size : Int) := of_decide_eq_true (by first | (with_reducible assumption) | assumption)
               have hx5 := bt_at a0 x7_1
               replace p5 := eq_true p5
               replace q5 := eq_true q5
               go_wp2
               go_roundg k1
               case measure => have := HK1.out; omega
               case rel => exact ⟨(wrap64 (x7_1 + 1)), (by first | rfl | (simp; done) | (simp [*]; done)), H', ⟨by have := HK1.out; omega⟩, by repeat (first | exact Drawn0.refl _ | apply Drawn0.step)⟩
              ·rw [if_neg c14] at H
               have c14b0 : ((bt a0 x7_1) == 45) = false := beq_eq_false_iff_ne.mpr c14
               have c14b1 : ((bt a0 x7_1) != 45) = true := bne_iff_ne.mpr c14
               by_cases c15 : ((bt a0 x7_1) = 43)
               ·rw [if_pos c15] at H
                have c15b0 : ((bt a0 x7_1) == 43) = true := beq_iff_eq.mpr c15
                have c15b1 : ((bt a0 x7_1) != 43) = false := bne_eq_false_iff_eq.mpr c15
                clear c15
                have H' := Aside0.mk H
                clear H
                have p5 : 0 ≤ (x7_1 : Int) := of_decide_eq_true (by first | (with_reducible assumption) | assumption)
                have q5 : x7_1 < (a0.size : Int) := of_decide_eq_true (by first | (with_reducible assumption) | assumption)
                have hx5 := bt_at a0 x7_1
                replace p5 := eq_true p5
                replace q5 := eq_true q5
                go_wp2
                go_roundg k1
                case measure => have := HK1.out; omega
                case rel => exact ⟨(wrap64 (x7_1 + 1)), (by first | rfl | (simp; done) | (simp [*]; done)), H', ⟨by have := HK1.out; omega⟩, by repeat (first | exact Drawn0.refl _ | apply Drawn0.step)⟩
               ·rw [if_neg c15] at H
                have c15b0 : ((bt a0 x7_1) == 43) = false := beq_eq_false_iff_ne.mpr c15
                have c15b1 : ((bt a0 x7_1) != 43) = true := bne_iff_ne.mpr c15
                obtain rfl := Option.some.inj H
                have p5 : 0 ≤ (x7_1 : Int) := of_decide_eq_true (by first | (with_reducible assumption) | assumption)
                have q5 : x7_1 < (a0.size : Int) := of_decide_eq_true (by first | (with_reducible assumption) | assumption)
                have hx5 := bt_at a0 x7_1
                replace p5 := eq_true p5
                replace q5 := eq_true q5
                go_wp2
                go_ret
                exact ⟨by first | rfl | (simp; done) | (simp [*]; done) | (simp [bne_nil_]; done), by repeat (first | exact Drawn0.refl _ | apply Drawn0.step)⟩
          ·rw [if_neg c10] at H
           have c10b0 : decide (48 ≤ (bt a0 x7_1)) = false := decide_eq_false c10
           clear c10
           by_cases c16 : (bt a0 x7_1) = 47
           ·rw [if_pos c16] at H
            have c16b0 : ((bt a0 x7_1) == 47) = true := beq_iff_eq.mpr c16
            have c16b1 : ((bt a0 x7_1) != 47) = false := bne_eq_false_iff_eq.mpr c16
            clear c16
            have H' := Aside0.mk H
            clear H
            have p5 : 0 ≤ (x7_1 : Int) := of_decide_eq_true (by first | (with_reducible assumption) | assumption)
            have q5 : x7_1 < (a0.size : Int) := of_decide_eq_true (by first | (with_reducible assumption) | assumption)
            have hx5 := bt_at a0 x7_1
            replace p5 := eq_true p5
            replace q5 := eq_true q5
            go_wp2
            go_roundg k1
            case measure => have := HK1.out; omega
            case rel => exact ⟨(wrap64 (x7_1 + 1)), (by first | rfl | (simp; done) | (simp [*]; done)), H', ⟨by have := HK1.out; omega⟩, by repeat (first | exact Drawn0.refl _ | apply Drawn0.step)⟩
           ·rw [if_neg c16] at H
            have c16b0 : ((bt a0 x7_1) == 47) = false := beq_eq_false_iff_ne.mpr c16
            have c16b1 : ((bt a0 x7_1) != 47) = true := bne_iff_ne.mpr c16
            by_cases c17 : (bt a0 x7_1) = 95
            ·rw [if_pos c17] at H
             have c17b0 : ((bt a0 x7_1) == 95) = true := beq_iff_eq.mpr c17
             have c17b1 : ((bt a0 x7_1) != 95) = false := bne_eq_false_iff_eq.mpr c17
             clear c17
             have H' := Aside0.mk H
             clear H
             have p5 : 0 ≤ (x7_1 : Int) := of_decide_eq_true (by first | (with_reducible assumption) | assumption)
             have q5 : x7_1 < (a0.size : Int) := of_decide_eq_true (by first | (with_reducible assumption) | assumption)
             have hx5 := bt_at a0 x7_1
             replace p5 := eq_true p5
             replace q5 := eq_true q5
             go_wp2
             go_roundg k1
             case measure => have := HK1.out; omega
             case rel => exact ⟨(wrap64 (x7_1 + 1)), (by first | rfl | (simp; done) | (simp [*]; done)), H', ⟨by have := HK1.out; omega⟩, by repeat (first | exact Drawn0.refl _ | apply Drawn0.step)⟩
            ·rw [if_neg c17] at H
             have c17b0 : ((bt a0 x7_1) == 95) = false := beq_eq_false_iff_ne.mpr c17
             have c17b1 : ((bt a0 x7_1) != 95) = true := bne_iff_ne.mpr c17
             by_cases c18 : (bt a0 x7_1) = 45
             ·rw [if_pos c18] at H
              have c18b0 : ((bt a0 x7_1) == 45) = true := beq_iff_eq.mpr c18
              have c18b1 : ((bt a0 x7_1) != 45) = false := bne_eq_false_iff_eq.mpr c18
              clear c18
              have H' := Aside0.mk H
              clear H
              have p5 : 0 ≤ (x7_1 : Int) := of_decide_eq_true (by first | (with_reducible assumption) | assumption)
              have q5 : x7_1 < (a0.size : Int) := of_decide_eq_true (by first | (with_reducible assumption) | assumption)
              have hx5 := bt_at a0 x7_1
              replace p5 := eq_true p5
              replace q5 := eq_true q5
              go_wp2
              go_roundg k1
              case measure => have := HK1.out; omega
              case rel => exact ⟨(wrap64 (x7_1 + 1)), (by first | rfl | (simp; done) | (simp [*]; done)), H', ⟨by have := HK1.out; omega⟩, by repeat (first | exact Drawn0.refl _ | apply Drawn0.step)⟩
             ·rw [if_neg c18] at H
              have c18b0 : ((bt a0 x7_1) == 45) = false := beq_eq_false_iff_ne.mpr c18
              have c18b1 : ((bt a0 x7_1) != 45) = true := bne_iff_ne.mpr c18
              by_cases c19 : ((bt a0 x7_1) = 43)
              ·rw [if_pos c19] at H
               have c19b0 : ((bt a0 x7_1) == 43) = true := beq_iff_eq.mpr c19
               have c19b1 : ((bt a0 x7_1) != 43) = false := bne_eq_false_iff_eq.mpr c19
               clear c19
               have H' := Aside0.mk H
               clear H
               have p5 : 0 ≤ (x7_1 : Int) := of_decide_eq_true (by first | (with_reducible assumption) | assumption)
               have q5 : x7_1 < (a0.size : Int) := of_decide_eq_true (by first | (with_reducible assumption) | assumption)
               have hx5 := bt_at a0 x7_1
               replace p5 := eq_true p5
               replace q5 := eq_true q5
               go_wp2
               go_roundg k1
               case measure => have := HK1.out; omega
               case rel => exact ⟨(wrap64 (x7_1 + 1)), (by first | rfl | (simp; done) | (simp [*]; done)), H', ⟨by have := HK1.out; omega⟩, by repeat (first | exact Drawn0.refl _ | apply Drawn0.step)⟩
              ·rw [if_neg c19] at H
               have c19b0 : ((bt a0 x7_1) == 43) = false := beq_eq_false_iff_ne.mpr c19
               have c19b1 : ((bt a0 x7_1) != 43) = true := bne_iff_ne.mpr c19
               obtain rfl := Option.some.inj H
               have p5 : 0 ≤ (x7_1 : Int) := of_decide_eq_true (by first | (with_reducible assumption) | assumption)
               have q5 : x7_1 < (a0.size : Int) := of_decide_eq_true (by first | (with_reducible assumption) | assumption)
               have hx5 := bt_at a0 x7_1
               replace p5 := eq_true p5
               replace q5 := eq_true q5
               go_wp2
               go_ret
               exact ⟨by first | rfl | (simp; done) | (simp [*]; done) | (simp [bne_nil_]; done), by repeat (first | exact Drawn0.refl _ | apply Drawn0.step)⟩
        ·rw [if_neg c8] at H
         have c8b0 : decide (65 ≤ (bt a0 x7_1)) = false := decide_eq_false c8
         clear c8
         by_cases c20 : (bt a0 x7_1) ≥ 48
         ·rw [if_pos c20] at H
          have c20b0 : decide (48 ≤ (bt a0 x7_1)) = true := decide_eq_true c20
          clear c20
          by_cases c21 : (bt a0 x7_1) ≤ 57
          ·rw [if_pos c21] at H
           have c21b0 : decide ((bt a0 x7_1) ≤ 57) = true := decide_eq_true c21
           clear c21
           have H' := Aside0.mk H
           clear H
           have p5 : 0 ≤ (x7_1 : Int) := of_decide_eq_true (by first | (with_reducible assumption) | assumption)
           have q5 : x7_1 < (a0.size : Int) := of_decide_eq_true (by first | (with_reducible assumption) | assumption)
           have hx5 := bt_at a0 x7_1
           replace p5 := eq_true p5
           replace q5 := eq_true q5
           go_wp2
           go_roundg k1
           case measure => have := HK1.out; omega
           case rel => exact ⟨(wrap64 (x7_1 + 1)), (by first | rfl | (simp; done) | (simp [*]; done)), H', ⟨by have := HK1.out; omega⟩, by repeat (first | exact Drawn0.refl _ | apply Drawn0.step)⟩
          ·rw [if_neg c21] at H
           have c21b0 : decide ((bt a0 x7_1) ≤ 57) = false := decide_eq_false c21
           clear c21
           by_cases c22 : (bt a0 x7_1) = 47
           ·rw [if_pos c22] at H
            have c22b0 : ((bt a0 x7_1) == 47) = true := beq_iff_eq.mpr c22
            have c22b1 : ((bt a0 x7_1) != 47) = false := bne_eq_false_iff_eq.mpr c22
            clear c22
            have H' := Aside0.mk H
            clear H
            have p5 : 0 ≤ (x7_1 : Int) := of_decide_eq_true (by first | (with_reducible assumption) | assumption)
            have q5 : x7_1 < (a0.size : Int) := of_decide_eq_true (by first | (with_reducible assumption) | assumption)
            have hx5 := bt_at a0 x7_1
            replace p5 := eq_true p5
            replace q5 := eq_true q5
            go_wp2
            go_roundg k1
            case measure => have := HK1.out; omega
            case rel => exact ⟨(wrap64 (x7_1 + 1)), (by first | rfl | (simp; done) | (simp [*]; done)), H', ⟨by have := HK1.out; omega⟩, by repeat (first | exact Drawn0.refl _ | apply Drawn0.step)⟩
           ·rw [if_neg c22] at H
            have c22b0 : ((bt a0 x7_1) == 47) = false := beq_eq_false_iff_ne.mpr c22
            have c22b1 : ((bt a0 x7_1) != 47) = true := bne_iff_ne.mpr c22
            by_cases c23 : (bt a0 x7_1) = 95
            ·rw [if_pos c23] at H
             have c23b0 : ((bt a0 x7_1) == 95) = true := beq_iff_eq.mpr c23
             have c23b1 : ((bt a0 x7_1) != 95) = false := bne_eq_false_iff_eq.mpr c23
             clear c23
             have H' := Aside0.mk H
             clear H
             have p5 : 0 ≤ (x7_1 : Int) := of_decide_eq_true (by first | (with_reducible assumption) | assumption)
             have q5 : x7_1 < (a0.size : Int) := of_decide_eq_true (by first | (with_reducible assumption) | assumption)
             have hx5 := bt_at a0 x7_1
             replace p5 := eq_true p5
             replace q5 := eq_true q5
             go_wp2
             go_roundg k1
             case measure => have := HK1.out; omega
             case rel => exact ⟨(wrap64 (x7_1 + 1)), (by first | rfl | (simp; done) | (simp [*]; done)), H', ⟨by have := HK1.out; omega⟩, by repeat (first | exact Drawn0.refl _ | apply Drawn0.step)⟩
            ·rw [if_neg c23] at H
             have c23b0 : ((bt a0 x7_1) == 95) = false := beq_eq_false_iff_ne.mpr c23
             have c23b1 : ((bt a0 x7_1) != 95) = true := bne_iff_ne.mpr c23
             by_cases c24 : (bt a0 x7_1) = 45
             ·rw [if_pos c24] at H
              have c24b0 : ((bt a0 x7_1) == 45) = true := beq_iff_eq.mpr c24
              have c24b1 : ((bt a0 x7_1) != 45) = false := bne_eq_false_iff_eq.mpr c24
              clear c24
              have H' := Aside0.mk H
              clear H
              have p5 : 0 ≤ (x7_1 : Int) := of_decide_eq_true (by first | (with_reducible assumption) | assumption)
              have q5 : x7_1 < (a0.size : Int) := of_decide_eq_true (by first | (with_reducible assumption) | assumption)
              have hx5 := bt_at a0 x7_1
              replace p5 := eq_true p5
              replace q5 := eq_true q5
              go_wp2
              go_roundg k1
              case measure => have := HK1.out; omega
              case rel => exact ⟨(wrap64 (x7_1 + 1)), (by first | rfl | (simp; done) | (simp [*]; done)), H', ⟨by have := HK1.out; omega⟩, by repeat (first | exact Drawn0.refl _ | apply Drawn0.step)⟩
             ·rw [if_neg c24] at H
              have c24b0 : ((bt a0 x7_1) == 45) = false := beq_eq_false_iff_ne.mpr c24
              have c24b1 : ((bt a0 x7_1) != 45) = true := bne_iff_ne.mpr c24
              by_cases c25 : ((bt a0 x7_1) = 43)
              ·rw [if_pos c25] at H
               have c25b0 : ((bt a0 x7_1) == 43) = true := beq_iff_eq.mpr c25
               have c25b1 : ((bt a0 x7_1) != 43) = false := bne_eq_false_iff_eq.mpr c25
               clear c25
               have H' := Aside0.mk H
               clear H
               have p5 : 0 ≤ (x7_1 : Int) := of_decide_eq_true (by first | (with_reducible assumption) | assumption)
               have q5 : x7_1 < (a0.size : Int) := of_decide_eq_true (by first | (with_reducible assumption) | assumption)
               have hx5 := bt_at a0 x7_1
               replace p5 := eq_true p5
               replace q5 := eq_true q5
               go_wp2
               go_roundg k1
               case measure => have := HK1.out; omega
               case rel => exact ⟨(wrap64 (x7_1 + 1)), (by first | rfl | (simp; done) | (simp [*]; done)), H', ⟨by have := HK1.out; omega⟩, by repeat (first | exact Drawn0.refl _ | apply Drawn0.step)⟩
              ·rw [if_neg c25] at H
               have c25b0 : ((bt a0 x7_1) == 43) = false := beq_eq_false_iff_ne.mpr c25
               have c25b1 : ((bt a0 x7_1) != 43) = true := bne_iff_ne.mpr c25
               obtain rfl := Option.some.inj H
               have p5 : 0 ≤ (x7_1 : Int) := of_decide_eq_true (by first | (with_reducible assumption) | assumption)
               have q5 : x7_1 < (a0.size : Int) := of_decide_eq_true (by first | (with_reducible assumption) | assumption)
               have hx5 := bt_at a0 x7_1
               replace p5 := eq_true p5
               replace q5 := eq_true q5
               go_wp2
               go_ret
               exact ⟨by first | rfl | (simp; done) | (simp [*]; done) | (simp [bne_nil_]; done), by repeat (first | exact Drawn0.refl _ | apply Drawn0.step)⟩
         ·rw [if_neg c20] at H
          have c20b0 : decide (48 ≤ (bt a0 x7_1)) = false := decide_eq_false c20
          clear c20
          by_cases c26 : (bt a0 x7_1) = 47
          ·rw [if_pos c26] at H
           have c26b0 : ((bt a0 x7_1) == 47) = true := beq_iff_eq.mpr c26
           have c26b1 : ((bt a0 x7_1) != 47) = false := bne_eq_false_iff_eq.mpr c26
           clear c26
           have H' := Aside0.mk H
           clear H
           have p5 : 0 ≤ (x7_1 : Int) := of_decide_eq_true (by first | (with_reducible assumption) | assumption)
           have q5 : x7_1 < (a0.size : Int) := of_decide_eq_true (by first | (with_reducible assumption) | assumption)
           have hx5 := bt_at a0 x7_1
           replace p5 := eq_true p5
           replace q5 := eq_true q5
           go_wp2
           go_roundg k1
           case measure => have := HK1.out; omega
           case rel => exact ⟨(wrap64 (x7_1 + 1)), (by first | rfl | (simp; done) | (simp [*]; done)), H', ⟨by have := HK1.out; omega⟩, by repeat (first | exact Drawn0.refl _ | apply Drawn0.step)⟩
          ·rw [if_neg c26] at H
           have c26b0 : ((bt a0 x7_1) == 47) = false := beq_eq_false_iff_ne.mpr c26
           have c26b1 : ((bt a0 x7_1) != 47) = true := bne_iff_ne.mpr c26
           by_cases c27 : (bt a0 x7_1) = 95
           ·rw [if_pos c27] at H
            have c27b0 : ((bt a0 x7_1) == 95) = true := beq_iff_eq.mpr c27
            have c27b1 : ((bt a0 x7_1) != 95) = false := bne_eq_false_iff_eq.mpr c27
            clear c27
            have H' := Aside0.mk H
            clear H
            have p5 : 0 ≤ (x7_1 : Int) := of_decide_eq_true (by first | (with_reducible assumption) | assumption)
            have q5 : x7_1 < (a0.size : Int) := of_decide_eq_true (by first | (with_reducible assumption) | assumption)
            have hx5 := bt_at a0 x7_1
            replace p5 := eq_true p5
            replace q5 := eq_true q5
            go_wp2
            go_roundg k1
            case measure => have := HK1.out; omega
            case rel => exact ⟨(wrap64 (x7_1 + 1)), (by first | rfl | (simp; done) | (simp [*]; done)), H', ⟨by have := HK1.out; omega⟩, by repeat (first | exact Drawn0.refl _ | apply Drawn0.step)⟩
           ·rw [if_neg c27] at H
            have c27b0 : ((bt a0 x7_1) == 95) = false := beq_eq_false_iff_ne.mpr c27
            have c27b1 : ((bt a0 x7_1) != 95) = true := bne_iff_ne.mpr c27
            by_cases c28 : (bt a0 x7_1) = 45
            ·rw [if_pos c28] at H
             have c28b0 : ((bt a0 x7_1) == 45) = true := beq_iff_eq.mpr c28
             have c28b1 : ((bt a0 x7_1) != 45) = false := bne_eq_false_iff_eq.mpr c28
             clear c28
             have H' := Aside0.mk H
             clear H
             have p5 : 0 ≤ (x7_1 : Int) := of_decide_eq_true (by first | (with_reducible assumption) | assumption)
             have q5 : x7_1 < (a0.size : Int) := of_decide_eq_true (by first | (with_reducible assumption) | assumption)
             have hx5 := bt_at a0 x7_1
             replace p5 := eq_true p5
             replace q5 := eq_true q5
             go_wp2
             go_roundg k1
             case measure => have := HK1.out; omega
             case rel => exact ⟨(wrap64 (x7_1 + 1)), (by first | rfl | (simp; done) | (simp [*]; done)), H', ⟨by have := HK1.out; omega⟩, by repeat (first | exact Drawn0.refl _ | apply Drawn0.step)⟩
            ·rw [if_neg c28] at H
             have c28b0 : ((bt a0 x7_1) == 45) = false := beq_eq_false_iff_ne.mpr c28
             have c28b1 : ((bt a0 x7_1) != 45) = true := bne_iff_ne.mpr c28
             by_cases c29 : ((bt a0 x7_1) = 43)
             ·rw [if_pos c29] at H
              have c29b0 : ((bt a0 x7_1) == 43) = true := beq_iff_eq.mpr c29
              have c29b1 : ((bt a0 x7_1) != 43) = false := bne_eq_false_iff_eq.mpr c29
              clear c29
              have H' := Aside0.mk H
              clear H
              have p5 : 0 ≤ (x7_1 : Int) := of_decide_eq_true (by first | (with_reducible assumption) | assumption)
              have q5 : x7_1 < (a0.size : Int) := of_decide_eq_true (by first | (with_reducible assumption) | assumption)
              have hx5 := bt_at a0 x7_1
              replace p5 := eq_true p5
              replace q5 := eq_true q5
              go_wp2
              go_roundg k1
              case measure => have := HK1.out; omega
              case rel => exact ⟨(wrap64 (x7_1 + 1)), (by first | rfl | (simp; done) | (simp [*]; done)), H', ⟨by have := HK1.out; omega⟩, by repeat (first | exact Drawn0.refl _ | apply Drawn0.step)⟩
             ·rw [if_neg c29] at H
              have c29b0 : ((bt a0 x7_1) == 43) = false := beq_eq_false_iff_ne.mpr c29
              have c29b1 : ((bt a0 x7_1) != 43) = true := bne_iff_ne.mpr c29
              obtain rfl := Option.some.inj H
              have p5 : 0 ≤ (x7_1 : Int) := of_decide_eq_true (by first | (with_reducible assumption) | assumption)
              have q5 : x7_1 < (a0.size : Int) := of_decide_eq_true (by first | (with_reducible assumption) | assumption)
              have hx5 := bt_at a0 x7_1
              replace p5 := eq_true p5
              replace q5 := eq_true q5
              go_wp2
              go_ret
              exact ⟨by first | rfl | (simp; done) | (simp [*]; done) | (simp [bne_nil_]; done), by repeat (first | exact Drawn0.refl _ | apply Drawn0.step)⟩
      ·rw [if_neg c6] at H
       have c6b0 : decide (97 ≤ (bt a0 x7_1)) = false := decide_eq_false c6
       clear c6
       by_cases c30 : (bt a0 x7_1) ≥ 65
       ·rw [if_pos c30] at H
        have c30b0 : decide (65 ≤ (bt a0 x7_1)) = true := decide_eq_true c30
        clear c30
        by_cases c31 : (bt a0 x7_1) ≤ 90
        ·rw [if_pos c31] at H
         have c31b0 : decide ((bt a0 x7_1) ≤ 90) = true := decide_eq_true c31
         clear c31
         have H' := Aside0.mk H
         clear H
         have p5 : 0 ≤ (x7_1 : Int) := of_decide_eq_true (by first | (with_reducible assumption) | assumption)
         have q5 : x7_1 < (a0.size : Int) := of_decide_eq_true (by first | (with_reducible assumption) | assumption)
         have hx5 := bt_at a0 x7_1
         replace p5 := eq_true p5
         replace q5 := eq_true q5
         go_wp2
         go_roundg k1
         case measure => have := HK1.out; omega
         case rel => exact ⟨(wrap64 (x7_1 + 1)), (by first | rfl | (simp; done) | (simp [*]; done)), H', ⟨by have := HK1.out; omega⟩, by repeat (first | exact Drawn0.refl _ | apply Drawn0.step)⟩
        ·rw [if_neg c31] at H
         have c31b0 : decide ((bt a0 x7_1) ≤ 90) = false := decide_eq_false c31
         clear c31
         by_cases c32 : (bt a0 x7_1) ≥ 48
         ·rw [if_pos c32] at H
          have c32b0 : decide (48 ≤ (bt a0 x7_1)) = true := decide_eq_true c32
          clear c32
          by_cases c33 : (bt a0 x7_1) ≤ 57
          ·rw [if_pos c33] at H
           have c33b0 : decide ((bt a0 x7_1) ≤ 57) = true := decide_eq_true c33
           clear c33
           have H' := Aside0.mk H
           clear H
           have p5 : 0 ≤ (x7_1 : Int) := of_decide_eq_true (by first | (with_reducible assumption) | assumption)
           have q5 : x7_1 < (a0.size : Int) := of_decide_eq_true (by first | (with_reducible assumption) | assumption)
           have hx5 := bt_at a0 x7_1
           replace p5 := eq_true p5
           replace q5 := eq_true q5
           go_wp2
           go_roundg k1
           case measure => have := HK1.out; omega
           case rel => exact ⟨(wrap64 (x7_1 + 1)), (by first | rfl | (simp; done) | (simp [*]; done)), H', ⟨by have := HK1.out; omega⟩, by repeat (first | exact Drawn0.refl _ | apply Drawn0.step)⟩
          ·rw [if_neg c33] at H
           have c33b0 : decide ((bt a0 x7_1) ≤ 57) = false := decide_eq_false c33
           clear c33
           by_cases c34 : (bt a0 x7_1) = 47
           ·rw [if_pos c34] at H
            have c34b0 : ((bt a0 x7_1) == 47) = true := beq_iff_eq.mpr c34
            have c34b1 : ((bt a0 x7_1) != 47) = false := bne_eq_false_iff_eq.mpr c34
            clear c34
            have H' := Aside0.mk H
            clear H
            have p5 : 0 ≤ (x7_1 : Int) := of_decide_eq_true (by first | (with_reducible assumption) | assumption)
            have q5 : x7_1 < (a0.size : Int) := of_decide_eq_true (by first | (with_reducible assumption) | assumption)
            have hx5 := bt_at a0 x7_1
            replace p5 := eq_true p5
            replace q5 := eq_true q5
            go_wp2
            go_roundg k1
            case measure => have := HK1.out; omega
            case rel => exact ⟨(wrap64 (x7_1 + 1)), (by first | rfl | (simp; done) | (simp [*]; done)), H', ⟨by have := HK1.out; omega⟩, by repeat (first | exact Drawn0.refl _ | apply Drawn0.step)⟩
           ·rw [if_neg c34] at H
            have c34b0 : ((bt a0 x7_1) == 47) = false := beq_eq_false_iff_ne.mpr c34
            have c34b1 : ((bt a0 x7_1) != 47) = true := bne_iff_ne.mpr c34
            by_cases c35 : (bt a0 x7_1) = 95
            ·rw [if_pos c35] at H
             have c35b0 : ((bt a0 x7_1) == 95) = true := beq_iff_eq.mpr c35
             have c35b1 : ((bt a0 x7_1) != 95) = false := bne_eq_false_iff_eq.mpr c35
             clear c35
             have H' := Aside0.mk H
             clear H
             have p5 : 0 ≤ (x7_1 : Int) := of_decide_eq_true (by first | (with_reducible assumption) | assumption)
             have q5 : x7_1 < (a0.size : Int) := of_decide_eq_true (by first | (with_reducible assumption) | assumption)
             have hx5 := bt_at a0 x7_1
             replace p5 := eq_true p5
             replace q5 := eq_true q5
             go_wp2
             go_roundg k1
             case measure => have := HK1.out; omega
             case rel => exact ⟨(wrap64 (x7_1 + 1)), (by first | rfl | (simp; done) | (simp [*]; done)), H', ⟨by have := HK1.out; omega⟩, by repeat (first | exact Drawn0.refl _ | apply Drawn0.step)⟩
            ·rw [if_neg c35] at H
             have c35b0 : ((bt a0 x7_1) == 95) = false := beq_eq_false_iff_ne.mpr c35
             have c35b1 : ((bt a0 x7_1) != 95) = true := bne_iff_ne.mpr c35
             by_cases c36 : (bt a0 x7_1) = 45
             ·rw [if_pos c36] at H
              have c36b0 : ((bt a0 x7_1) == 45) = true := beq_iff_eq.mpr c36
              have c36b1 : ((bt a0 x7_1) != 45) = false := bne_eq_false_iff_eq.mpr c36
              clear c36
              have H' := Aside0.mk H
              clear H
              have p5 : 0 ≤ (x7_1 : Int) := of_decide_eq_true (by first | (with_reducible assumption) | assumption)
              have q5 : x7_1 < (a0.size : Int) := of_decide_eq_true (by first | (with_reducible assumption) | assumption)
              have hx5 := bt_at a0 x7_1
              replace p5 := eq_true p5
              replace q5 := eq_true q5
              go_wp2
              go_roundg k1
              case measure => have := HK1.out; omega
              case rel => exact ⟨(wrap64 (x7_1 + 1)), (by first | rfl | (simp; done) | (simp [*]; done)), H', ⟨by have := HK1.out; omega⟩, by repeat (first | exact Drawn0.refl _ | apply Drawn0.step)⟩
             ·rw [if_neg c36] at H
              have c36b0 : ((bt a0 x7_1) == 45) = false := beq_eq_false_iff_ne.mpr c36
              have c36b1 : ((bt a0 x7_1) != 45) = true := bne_iff_ne.mpr c36
              by_cases c37 : ((bt a0 x7_1) = 43)
              ·rw [if_pos c37] at H
               have c37b0 : ((bt a0 x7_1) == 43) = true := beq_iff_eq.mpr c37
               have c37b1 : ((bt a0 x7_1) != 43) = false := bne_eq_false_iff_eq.mpr c37
               clear c37
               have H' := Aside0.mk H
               clear H
               have p5 : 0 ≤ (x7_1 : Int) := of_decide_eq_true (by first | (with_reducible assumption) | assumption)
               have q5 : x7_1 < (a0.size : Int) := of_decide_eq_true (by first | (with_reducible assumption) | assumption)
               have hx5 := bt_at a0 x7_1
               replace p5 := eq_true p5
               replace q5 := eq_true q5
               go_wp2
               go_roundg k1
               case measure => have := HK1.out; omega
               case rel => exact ⟨(wrap64 (x7_1 + 1)), (by first | rfl | (simp; done) | (simp [*]; done)), H', ⟨by have := HK1.out; omega⟩, by repeat (first | exact Drawn0.refl _ | apply Drawn0.step)⟩
              ·rw [if_neg c37] at H
               have c37b0 : ((bt a0 x7_1) == 43) = false := beq_eq_false_iff_ne.mpr c37
               have c37b1 : ((bt a0 x7_1) != 43) = true := bne_iff_ne.mpr c37
               obtain rfl := Option.some.inj H
               have p5 : 0 ≤ (x7_1 : Int) := of_decide_eq_true (by first | (with_reducible assumption) | assumption)
               have q5 : x7_1 < (a0.size : Int) := of_decide_eq_true (by first | (with_reducible assumption) | assumption)
               have hx5 := bt_at a0 x7_1
               replace p5 := eq_true p5
               replace q5 := eq_true q5
               go_wp2
               go_ret
               exact ⟨by first | rfl | (simp; done) | (simp [*]; done) | (simp [bne_nil_]; done), by repeat (first | exact Drawn0.refl _ | apply Drawn0.step)⟩
         ·rw [if_neg c32] at H
          have c32b0 : decide (48 ≤ (bt a0 x7_1)) = false := decide_eq_false c32
          clear c32
          by_cases c38 : (bt a0 x7_1) = 47
          ·rw [if_pos c38] at H
           have c38b0 : ((bt a0 x7_1) == 47) = true := beq_iff_eq.mpr c38
           have c38b1 : ((bt a0 x7_1) != 47) = false := bne_eq_false_iff_eq.mpr c38
           clear c38
           have H' := Aside0.mk H
           clear H
           have p5 : 0 ≤ (x7_1 : Int) := of_decide_eq_true (by first | (with_reducible assumption) | assumption)
           have q5 : x7_1 < (a0.size : Int) := of_decide_eq_true (by first | (with_reducible assumption) | assumption)
           have hx5 := bt_at a0 x7_1
           replace p5 := eq_true p5
           replace q5 := eq_true q5
           go_wp2
           go_roundg k1
           case measure => have := HK1.out; omega
           case rel => exact ⟨(wrap64 (x7_1 + 1)), (by first | rfl | (simp; done) | (simp [*]; done)), H', ⟨by have := HK1.out; omega⟩, by repeat (first | exact Drawn0.refl _ | apply Drawn0.step)⟩
          ·rw [if_neg c38] at H
           have c38b0 : ((bt a0 x7_1) == 47) = false := beq_eq_false_iff_ne.mpr c38
           have c38b1 : ((bt a0 x7_1) != 47) = true := bne_iff_ne.mpr c38
           by_cases c39 : (bt a0 x7_1) = 95
           ·rw [if_pos c39] at H
            have c39b0 : ((bt a0 x7_1) == 95) = true := beq_iff_eq.mpr c39
            have c39b1 : ((bt a0 x7_1) != 95) = false := bne_eq_false_iff_eq.mpr c39
            clear c39
            have H' := Aside0.mk H
            clear H
            have p5 : 0 ≤ (x7_1 : Int) := of_decide_eq_true (by first | (with_reducible assumption) | assumption)
            have q5 : x7_1 < (a0.size : Int) := of_decide_eq_true (by first | (with_reducible assumption) | assumption)
            have hx5 := bt_at a0 x7_1
            replace p5 := eq_true p5
            replace q5 := eq_true q5
            go_wp2
            go_roundg k1
            case measure => have := HK1.out; omega
            case rel => exact ⟨(wrap64 (x7_1 + 1)), (by first | rfl | (simp; done) | (simp [*]; done)), H', ⟨by have := HK1.out; omega⟩, by repeat (first | exact Drawn0.refl _ | apply Drawn0.step)⟩
           ·rw [if_neg c39] at H
            have c39b0 : ((bt a0 x7_1) == 95) = false := beq_eq_false_iff_ne.mpr c39
            have c39b1 : ((bt a0 x7_1) != 95) = true := bne_iff_ne.mpr c39
            by_cases c40 : (bt a0 x7_1) = 45
            ·rw [if_pos c40] at H
             have c40b0 : ((bt a0 x7_1) == 45) = true := beq_iff_eq.mpr c40
             have c40b1 : ((bt a0 x7_1) != 45) = false := bne_eq_false_iff_eq.mpr c40
             clear c40
             have H' := Aside0.mk H
             clear H
             have p5 : 0 ≤ (x7_1 : Int) := of_decide_eq_true (by first | (with_reducible assumption) | assumption)
             have q5 : x7_1 < (a0.size : Int) := of_decide_eq_true (by first | (with_reducible assumption) | assumption)
             have hx5 := bt_at a0 x7_1
             replace p5 := eq_true p5
             replace q5 := eq_true q5
             go_wp2
             go_roundg k1
             case measure => have := HK1.out; omega
             case rel => exact ⟨(wrap64 (x7_1 + 1)), (by first | rfl | (simp; done) | (simp [*]; done)), H', ⟨by have := HK1.out; omega⟩, by repeat (first | exact Drawn0.refl _ | apply Drawn0.step)⟩
            ·rw [if_neg c40] at H
             have c40b0 : ((bt a0 x7_1) == 45) = false := beq_eq_false_iff_ne.mpr c40
             have c40b1 : ((bt a0 x7_1) != 45) = true := bne_iff_ne.mpr c40
             by_cases c41 : ((bt a0 x7_1) = 43)
             ·rw [if_pos c41] at H
              have c41b0 : ((bt a0 x7_1) == 43) = true := beq_iff_eq.mpr c41
              have c41b1 : ((bt a0 x7_1) != 43) = false := bne_eq_false_iff_eq.mpr c41
              clear c41
              have H' := Aside0.mk H
              clear H
              have p5 : 0 ≤ (x7_1 : Int) := of_decide_eq_true (by first | (with_reducible assumption) | assumption)
              have q5 : x7_1 < (a0.size : Int) := of_decide_eq_true (by first | (with_reducible assumption) | assumption)
              have hx5 := bt_at a0 x7_1
              replace p5 := eq_true p5
              replace q5 := eq_true q5
              go_wp2
              go_roundg k1
              case measure => have := HK1.out; omega
              case rel => exact ⟨(wrap64 (x7_1 + 1)), (by first | rfl | (simp; done) | (simp [*]; done)), H', ⟨by have := HK1.out; omega⟩, by repeat (first | exact Drawn0.refl _ | apply Drawn0.step)⟩
             ·rw [if_neg c41] at H
              have c41b0 : ((bt a0 x7_1) == 43) = false := beq_eq_false_iff_ne.mpr c41
              have c41b1 : ((bt a0 x7_1) != 43) = true := bne_iff_ne.mpr c41
              obtain rfl := Option.some.inj H
              have p5 : 0 ≤ (x7_1 : Int) := of_decide_eq_true (by first | (with_reducible assumption) | assumption)
              have q5 : x7_1 < (a0.size : Int) := of_decide_eq_true (by first | (with_reducible assumption) | assumption)
              have hx5 := bt_at a0 x7_1
              replace p5 := eq_true p5
              replace q5 := eq_true q5
              go_wp2
              go_ret
              exact ⟨by first | rfl | (simp; done) | (simp [*]; done) | (simp [bne_nil_]; done), by repeat (first | exact Drawn0.refl _ | apply Drawn0.step)⟩
       ·rw [if_neg c30] at H
        have c30b0 : decide (65 ≤ (bt a0 x7_1)) = false := decide_eq_false c30
        clear c30
        by_cases c42 : (bt a0 x7_1) ≥ 48
        ·rw [if_pos c42] at H
         have c42b0 : decide (48 ≤ (bt a0 x7_1)) = true := decide_eq_true c42
         clear c42
         by_cases c43 : (bt a0 x7_1) ≤ 57
         ·rw [if_pos c43] at H
          have c43b0 : decide ((bt a0 x7_1) ≤ 57) = true := decide_eq_true c43
          clear c43
          have H' := Aside0.mk H
          clear H
          have p5 : 0 ≤ (x7_1 : Int) := of_decide_eq_true (by first | (with_reducible assumption) | assumption)
          have q5 : x7_1 < (a0.size : Int) := of_decide_eq_true (by first | (with_reducible assumption) | assumption)
          have hx5 := bt_at a0 x7_1
          replace p5 := eq_true p5
          replace q5 := eq_true q5
          go_wp2
          go_roundg k1
          case measure => have := HK1.out; omega
          case rel => exact ⟨(wrap64 (x7_1 + 1)), (by first | rfl | (simp; done) | (simp [*]; done)), H', ⟨by have := HK1.out; omega⟩, by repeat (first | exact Drawn0.refl _ | apply Drawn0.step)⟩
         ·rw [if_neg c43] at H
          have c43b0 : decide ((bt a0 x7_1) ≤ 57) = false := decide_eq_false c43
          clear c43
          by_cases c44 : (bt a0 x7_1) = 47
          ·rw [if_pos c44] at H
           have c44b0 : ((bt a0 x7_1) == 47) = true := beq_iff_eq.mpr c44
           have c44b1 : ((bt a0 x7_1) != 47) = false := bne_eq_false_iff_eq.mpr c44
           clear c44
           have H' := Aside0.mk H
           clear H
           have p5 : 0 ≤ (x7_1 : Int) := of_decide_eq_true (by first | (with_reducible assumption) | assumption)
           have q5 : x7_1 < (a0.size : Int) := of_decide_eq_true (by first | (with_reducible assumption) | assumption)
           have hx5 := bt_at a0 x7_1
           replace p5 := eq_true p5
           replace q5 := eq_true q5
           go_wp2
           go_roundg k1
           case measure => have := HK1.out; omega
           case rel => exact ⟨(wrap64 (x7_1 + 1)), (by first | rfl | (simp; done) | (simp [*]; done)), H', ⟨by have := HK1.out; omega⟩, by repeat (first | exact Drawn0.refl _ | apply Drawn0.step)⟩
          ·rw [if_neg c44] at H
           have c44b0 : ((bt a0 x7_1) == 47) = false := beq_eq_false_iff_ne.mpr c44
           have c44b1 : ((bt a0 x7_1) != 47) = true := bne_iff_ne.mpr c44
           by_cases c45 : (bt a0 x7_1) = 95
           ·rw [if_pos c45] at H
            have c45b0 : ((bt a0 x7_1) == 95) = true := beq_iff_eq.mpr c45
            have c45b1 : ((bt a0 x7_1) != 95) = false := bne_eq_false_iff_eq.mpr c45
            clear c45
            have H' := Aside0.mk H
            clear H
            have p5 : 0 ≤ (x7_1 : Int) := of_decide_eq_true (by first | (with_reducible assumption) | assumption)
            have q5 : x7_1 < (a0.size : Int) := of_decide_eq_true (by first | (with_reducible assumption) | assumption)
            have hx5 := bt_at a0 x7_1
            replace p5 := eq_true p5
            replace q5 := eq_true q5
            go_wp2
            go_roundg k1
            case measure => have := HK1.out; omega
            case rel => exact ⟨(wrap64 (x7_1 + 1)), (by first | rfl | (simp; done) | (simp [*]; done)), H', ⟨by have := HK1.out; omega⟩, by repeat (first | exact Drawn0.refl _ | apply Drawn0.step)⟩
           ·rw [if_neg c45] at H
            have c45b0 : ((bt a0 x7_1) == 95) = false := beq_eq_false_iff_ne.mpr c45
            have c45b1 : ((bt a0 x7_1) != 95) = true := bne_iff_ne.mpr c45
            by_cases c46 : (bt a0 x7_1) = 45
            ·rw [if_pos c46] at H
             have c46b0 : ((bt a0 x7_1) == 45) = true := beq_iff_eq.mpr c46
             have c46b1 : ((bt a0 x7_1) != 45) = false := bne_eq_false_iff_eq.mpr c46
             clear c46
             have H' := Aside0.mk H
             clear H
             have p5 : 0 ≤ (x7_1 : Int) := of_decide_eq_true (by first | (with_reducible assumption) | assumption)
             have q5 : x7_1 < (a0.size : Int) := of_decide_eq_true (by first | (with_reducible assumption) | assumption)
             have hx5 := bt_at a0 x7_1
             replace p5 := eq_true p5
             replace q5 := eq_true q5
             go_wp2
             go_roundg k1
             case measure => have := HK1.out; omega
             case rel => exact ⟨(wrap64 (x7_1 + 1)), (by first | rfl | (simp; done) | (simp [*]; done)), H', ⟨by have := HK1.out; omega⟩, by repeat (first | exact Drawn0.refl _ | apply Drawn0.step)⟩
            ·rw [if_neg c46] at H
             have c46b0 : ((bt a0 x7_1) == 45) = false := beq_eq_false_iff_ne.mpr c46
             have c46b1 : ((bt a0 x7_1) != 45) = true := bne_iff_ne.mpr c46
             by_cases c47 : ((bt a0 x7_1) = 43)
             ·rw [if_pos c47] at H
              have c47b0 : ((bt a0 x7_1) == 43) = true := beq_iff_eq.mpr c47
              have c47b1 : ((bt a0 x7_1) != 43) = false := bne_eq_false_iff_eq.mpr c47
              clear c47
              have H' := Aside0.mk H
              clear H
              have p5 : 0 ≤ (x7_1 : Int) := of_decide_eq_true (by first | (with_reducible assumption) | assumption)
              have q5 : x7_1 < (a0.size : Int) := of_decide_eq_true (by first | (with_reducible assumption) | assumption)
              have hx5 := bt_at a0 x7_1
              replace p5 := eq_true p5
              replace q5 := eq_true q5
              go_wp2
              go_roundg k1
              case measure => have := HK1.out; omega
              case rel => exact ⟨(wrap64 (x7_1 + 1)), (by first | rfl | (simp; done) | (simp [*]; done)), H', ⟨by have := HK1.out; omega⟩, by repeat (first | exact Drawn0.refl _ | apply Drawn0.step)⟩
             ·rw [if_neg c47] at H
              have c47b0 : ((bt a0 x7_1) == 43) = false := beq_eq_false_iff_ne.mpr c47
              have c47b1 : ((bt a0 x7_1) != 43) = true := bne_iff_ne.mpr c47
              obtain rfl := Option.some.inj H
              have p5 : 0 ≤ (x7_1 : Int) := of_decide_eq_true (by first | (with_reducible assumption) | assumption)
              have q5 : x7_1 < (a0.size : Int) := of_decide_eq_true (by first | (with_reducible assumption) | assumption)
              have hx5 := bt_at a0 x7_1
              replace p5 := eq_true p5
              replace q5 := eq_true q5
              go_wp2
              go_ret
              exact ⟨by first | rfl | (simp; done) | (simp [*]; done) | (simp [bne_nil_]; done), by repeat (first | exact Drawn0.refl _ | apply Drawn0.step)⟩
        ·rw [if_neg c42] at H
         have c42b0 : decide (48 ≤ (bt a0 x7_1)) = false := decide_eq_false c42
         clear c42
         by_cases c48 : (bt a0 x7_1) = 47
         ·rw [if_pos c48] at H
          have c48b0 : ((bt a0 x7_1) == 47) = true := beq_iff_eq.mpr c48
          have c48b1 : ((bt a0 x7_1) != 47) = false := bne_eq_false_iff_eq.mpr c48
          clear c48
          have H' := Aside0.mk H
          clear H
          have p5 : 0 ≤ (x7_1 : Int) := of_decide_eq_true (by first | (with_reducible assumption) | assumption)
          have q5 : x7_1 < (a0.size : Int) := of_decide_eq_true (by first | (with_reducible assumption) | assumption)
          have hx5 := bt_at a0 x7_1
          replace p5 := eq_true p5
          replace q5 := eq_true q5
          go_wp2
          go_roundg k1
          case measure => have := HK1.out; omega
          case rel => exact ⟨(wrap64 (x7_1 + 1)), (by first | rfl | (simp; done) | (simp [*]; done)), H', ⟨by have := HK1.out; omega⟩, by repeat (first | exact Drawn0.refl _ | apply Drawn0.step)⟩
         ·rw [if_neg c48] at H
          have c48b0 : ((bt a0 x7_1) == 47) = false := beq_eq_false_iff_ne.mpr c48
          have c48b1 : ((bt a0 x7_1) != 47) = true := bne_iff_ne.mpr c48
          by_cases c49 : (bt a0 x7_1) = 95
          ·rw [if_pos c49] at H
           have c49b0 : ((bt a0 x7_1) == 95) = true := beq_iff_eq.mpr c49
           have c49b1 : ((bt a0 x7_1) != 95) = false := bne_eq_false_iff_eq.mpr c49
           clear c49
           have H' := Aside0.mk H
           clear H
           have p5 : 0 ≤ (x7_1 : Int) := of_decide_eq_true (by first | (with_reducible assumption) | assumption)
           have q5 : x7_1 < (a0.size : Int) := of_decide_eq_true (by first | (with_reducible assumption) | assumption)
           have hx5 := bt_at a0 x7_1
           replace p5 := eq_true p5
           replace q5 := eq_true q5
           go_wp2
           go_roundg k1
           case measure => have := HK1.out; omega
           case rel => exact ⟨(wrap64 (x7_1 + 1)), (by first | rfl | (simp; done) | (simp [*]; done)), H', ⟨by have := HK1.out; omega⟩, by repeat (first | exact Drawn0.refl _ | apply Drawn0.step)⟩
          ·rw [if_neg c49] at H
           have c49b0 : ((bt a0 x7_1) == 95) = false := beq_eq_false_iff_ne.mpr c49
           have c49b1 : ((bt a0 x7_1) != 95) = true := bne_iff_ne.mpr c49
           by_cases c50 : (bt a0 x7_1) = 45
           ·rw [if_pos c50] at H
            have c50b0 : ((bt a0 x7_1) == 45) = true := beq_iff_eq.mpr c50
            have c50b1 : ((bt a0 x7_1) != 45) = false := bne_eq_false_iff_eq.mpr c50
            clear c50
            have H' := Aside0.mk H
            clear H
            have p5 : 0 ≤ (x7_1 : Int) := of_decide_eq_true (by first | (with_reducible assumption) | assumption)
            have q5 : x7_1 < (a0.size : Int) := of_decide_eq_true (by first | (with_reducible assumption) | assumption)
            have hx5 := bt_at a0 x7_1
            replace p5 := eq_true p5
            replace q5 := eq_true q5
            go_wp2
            go_roundg k1
            case measure => have := HK1.out; omega
            case rel => exact ⟨(wrap64 (x7_1 + 1)), (by first | rfl | (simp; done) | (simp [*]; done)), H', ⟨by have := HK1.out; omega⟩, by repeat (first | exact Drawn0.refl _ | apply Drawn0.step)⟩
           ·rw [if_neg c50] at H
            have c50b0 : ((bt a0 x7_1) == 45) = false := beq_eq_false_iff_ne.mpr c50
            have c50b1 : ((bt a0 x7_1) != 45) = true := bne_iff_ne.mpr c50
            by_cases c51 : ((bt a0 x7_1) = 43)
            ·rw [if_pos c51] at H
             have c51b0 : ((bt a0 x7_1) == 43) = true := beq_iff_eq.mpr c51
             have c51b1 : ((bt a0 x7_1) != 43) = false := bne_eq_false_iff_eq.mpr c51
             clear c51
             have H' := Aside0.mk H
             clear H
             have p5 : 0 ≤ (x7_1 : Int) := of_decide_eq_true (by first | (with_reducible assumption) | assumption)
             have q5 : x7_1 < (a0.size : Int) := of_decide_eq_true (by first | (with_reducible assumption) | assumption)
             have hx5 := bt_at a0 x7_1
             replace p5 := eq_true p5
             replace q5 := eq_true q5
             go_wp2
             go_roundg k1
             case measure => have := HK1.out; omega
             case rel => exact ⟨(wrap64 (x7_1 + 1)), (by first | rfl | (simp; done) | (simp [*]; done)), H', ⟨by have := HK1.out; omega⟩, by repeat (first | exact Drawn0.refl _ | apply Drawn0.step)⟩
            ·rw [if_neg c51] at H
             have c51b0 : ((bt a0 x7_1) == 43) = false := beq_eq_false_iff_ne.mpr c51
             have c51b1 : ((bt a0 x7_1) != 43) = true := bne_iff_ne.mpr c51
             obtain rfl := Option.some.inj H
             have p5 : 0 ≤ (x7_1 : Int) := of_decide_eq_true (by first | (with_reducible assumption) | assumption)
             have q5 : x7_1 < (a0.size : Int) := of_decide_eq_true (by first | (with_reducible assumption) | assumption)
             have hx5 := bt_at a0 x7_1
             replace p5 := eq_true p5
             replace q5 := eq_true q5
             go_wp2
             go_ret
             exact ⟨by first | rfl | (simp; done) | (simp [*]; done) | (simp [bne_nil_]; done), by repeat (first | exact Drawn0.refl _ | apply Drawn0.step)⟩
     ·rw [if_neg c4] at H
      exact absurd H (by simp)
    ·rw [if_neg c3] at H
     exact absurd H (by simp)
   ·rw [if_neg c2] at H
    have c2b0 : decide (x7_1 < (a0.size : Int)) = false := decide_eq_false c2
    clear c2
    by_cases c52 : (a0.size : Int) > 0
    ·rw [if_pos c52] at H
     have c52b0 : decide (0 < (a0.size : Int)) = true := decide_eq_true c52
     have c52b1 : decide (0 < a0.size) = true := decide_eq_true (by omega)
     clear c52
     obtain rfl := Option.some.inj H
     go_wp2
     go_ret
     exact ⟨by first | rfl | (simp; done) | (simp [*]; done) | (simp [bne_nil_]; done), by repeat (first | exact Drawn0.refl _ | apply Drawn0.step)⟩
    ·rw [if_neg c52] at H
     have c52b0 : decide (0 < (a0.size : Int)) = false := decide_eq_false c52
     have c52b1 : decide (0 < a0.size) = false := decide_eq_false (by omega)
     clear c52
     obtain rfl := Option.some.inj H
     go_wp2
     go_ret
     exact ⟨by first | rfl | (simp; done) | (simp [*]; done) | (simp [bne_nil_]; done), by repeat (first | exact Drawn0.refl _ | apply Drawn0.step)⟩

/-! ### trystref12_seconds: function 36 -/
/-! ### trystref12_ParseTime: function 17 -/
/-! ### trystref12_RightTime: function 19 -/
def trystref12_RightTime.j0 : Nat → Int → Bool → Int → Int → ByteArray → Option (Bool)
 | 0, _, _, _, _, _ => none
 | k + 1, x8, x20, x353000, x353001, x353002 => if x20 = true then (some (x353002.toList == ([] : List UInt8))) else (if x8 = 3 then ((trystref12_ZoneName.f k x353002).bind fun t354 => (some t354)) else (some false))
def trystref12_RightTime.f (k : Nat) (a0_0 : Int) (a0_1 : Int) (a0_2 : ByteArray) : Option (Bool) := (trystref01_Right.f a0_1).bind fun t353 => (if t353 = true then (if a0_0 = 0 then (if a0_2.toList = ([] : List UInt8) then (some ((Int.tmod a0_1 86400) == 0)) else (some false)) else (if a0_0 = 1 then (trystref12_RightTime.j0 k a0_0 (a0_0 == 1) a0_0 a0_1 a0_2) else (trystref12_RightTime.j0 k a0_0 (a0_0 == 2) a0_0 a0_1 a0_2))) else (some false))
set_option maxHeartbeats 8000000 in
set_option maxRecDepth 100000 in
theorem trystref12_RightTime.calls (k : Nat) (a0_0 : Int) (a0_1 : Int) (a0_2 : ByteArray) (r : Bool) (w : World) (h : trystref12_RightTime.f k a0_0 a0_1 a0_2 = some r) :
  Calls Tryd.prog 19 #[.agg #[.int .i64 a0_0, .int .i64 a0_1, .string a0_2]] w fun e w' => e = .returned (.bool r) ∧ Below w.heap.size w w' := by
 have hu31 := Tryd.underlying31
 have HB := Aside0.mk (Below.refl w.heap.size w)
 have H : ((trystref01_Right.f a0_1).bind fun t353 => (if t353 = true then (if a0_0 = 0 then (if a0_2.toList = ([] : List UInt8) then (some ((Int.tmod a0_1 86400) == 0)) else (some false)) else (if a0_0 = 1 then (trystref12_RightTime.j0 k a0_0 (a0_0 == 1) a0_0 a0_1 a0_2) else (trystref12_RightTime.j0 k a0_0 (a0_0 == 2) a0_0 a0_1 a0_2))) else (some false))) = some r := h
 clear h
 replace H := Option.bind_eq_some_iff.mp H
 obtain ⟨t353, A20, H⟩ := H
 replace H : (if t353 = true then (if a0_0 = 0 then (if a0_2.toList = ([] : List UInt8) then (some ((Int.tmod a0_1 86400) == 0)) else (some false)) else (if a0_0 = 1 then (trystref12_RightTime.j0 k a0_0 (a0_0 == 1) a0_0 a0_1 a0_2) else (trystref12_RightTime.j0 k a0_0 (a0_0 == 2) a0_0 a0_1 a0_2))) else (some false)) = some r := H
 have A2 := Aside0.mk A20
 clear A20
 by_cases c3 : t353 = true
 ·subst c3
  have H1 : (if a0_0 = 0 then (if a0_2.toList = ([] : List UInt8) then (some ((Int.tmod a0_1 86400) == 0)) else (some false)) else (if a0_0 = 1 then (trystref12_RightTime.j0 k a0_0 (a0_0 == 1) a0_0 a0_1 a0_2) else (trystref12_RightTime.j0 k a0_0 (a0_0 == 2) a0_0 a0_1 a0_2))) = some r := by rw [if_pos rfl] at H; exact H
  clear H
  have H := H1
  clear H1
  by_cases c4 : a0_0 = 0
  ·rw [if_pos c4] at H
   have c4b0 : (a0_0 == 0) = true := beq_iff_eq.mpr c4
   have c4b1 : (a0_0 != 0) = false := bne_eq_false_iff_eq.mpr c4
   clear c4
   by_cases c5 : a0_2.toList = ([] : List UInt8)
   ·rw [if_pos c5] at H
    have c5b0 : (a0_2.toList == ([] : List UInt8)) = true := beq_iff_eq.mpr c5
    have c5b1 : (a0_2.toList != ([] : List UInt8)) = false := bne_eq_false_iff_eq.mpr c5
    clear c5
    obtain rfl := Option.some.inj H
    go_enter Tryd.func19, Tryd.ntmps19
    go_wp2_with (first | ((with_reducible refine gate_dst (N := 1) rfl ?_); refine box_event ?hg (N := 1) ?hd (cs := #[.int .i64 a0_0, .int .i64 a0_1, .string a0_2]) (t := 31) ?hr ?_; (case hd => rfl); (case hg => rfl); (case hr => first | (go_simp; done) | (go_simp; rfl)); intro gb352 hg w6 hbox hb; have n0_ := Aside0.mk (below_step (by repeat (first | (with_reducible first | exact HB.out | apply below_alloc | apply pw_below_drewN | apply below_drew1) | exact HB.out)) hb); have n1_ := Aside0.mk (hbox); have n2_ := Aside0.mk ((by rw [hg]; exact (below_size (by repeat (first | (with_reducible first | exact HB.out | apply below_alloc | apply pw_below_drewN | apply below_drew1) | exact HB.out))) : w.heap.size ≤ gb352)); have n3_ := Aside0.mk ((by rw [hg]; exact (below_size (by repeat (first | (with_reducible first | exact HB.out | apply below_alloc | apply pw_below_drewN | apply below_drew1) | exact HB.out))) : w.heap.size ≤ gb352)); clear HB; have HB := n0_; have BK352 := n1_; have GW352 := n2_; have GE352 := n3_; clear n0_ n1_ n2_ n3_; clear hb hbox hg; have hcz7_0 : w6.cell? ⟨gb352, 0, none⟩ = some (.int .i64 a0_0) := (blk_cell BK352.out 0).trans rfl; have hcz7_1 : w6.cell? ⟨gb352, 1, none⟩ = some (.int .i64 a0_1) := (blk_cell BK352.out 1).trans rfl; have hcz7_2 : w6.cell? ⟨gb352, 2, none⟩ = some (.string a0_2) := (blk_cell BK352.out 2).trans rfl; have hfz7_0 := blk_frozen BK352.out 0; have hfz7_1 := blk_frozen BK352.out 1; have hfz7_2 := blk_frozen BK352.out 2) | ((with_reducible refine gate_callee (f := 40) rfl ?_); refine goesL_ (some 5) rfl rfl Tryd.func40 (by kernel_rfl) rfl #[.int .i64 a0_1] rfl (by (try simp only [List.map_toArray, List.map_cons, List.map_nil]); first | done | rfl | (simp only [List.length_drop, List.length_take]; rfl)) ?_; (with_reducible refine (trystref01_Right.calls a0_1 true _ A2.out).mono ?_); rintro e w' ⟨rfl, ⟨nd, rfl⟩⟩; refine ⟨_, rfl, ?_⟩))
    go_ret
    exact ⟨by first | rfl | (simp [errW_none, errW_some] <;> rfl) | (simp [*, errW_none, errW_some] <;> rfl), by repeat (first | (with_reducible first | exact HB.out | apply below_alloc | apply pw_below_drewN | apply below_drew1 | refine below_set ?_ GE352.out) | exact HB.out)⟩
   ·rw [if_neg c5] at H
    have c5b0 : (a0_2.toList == ([] : List UInt8)) = false := beq_eq_false_iff_ne.mpr c5
    have c5b1 : (a0_2.toList != ([] : List UInt8)) = true := bne_iff_ne.mpr c5
    obtain rfl := Option.some.inj H
    go_enter Tryd.func19, Tryd.ntmps19
    go_wp2_with (first | ((with_reducible refine gate_dst (N := 1) rfl ?_); refine box_event ?hg (N := 1) ?hd (cs := #[.int .i64 a0_0, .int .i64 a0_1, .string a0_2]) (t := 31) ?hr ?_; (case hd => rfl); (case hg => rfl); (case hr => first | (go_simp; done) | (go_simp; rfl)); intro gb352 hg w8 hbox hb; have n0_ := Aside0.mk (below_step (by repeat (first | (with_reducible first | exact HB.out | apply below_alloc | apply pw_below_drewN | apply below_drew1) | exact HB.out)) hb); have n1_ := Aside0.mk (hbox); have n2_ := Aside0.mk ((by rw [hg]; exact (below_size (by repeat (first | (with_reducible first | exact HB.out | apply below_alloc | apply pw_below_drewN | apply below_drew1) | exact HB.out))) : w.heap.size ≤ gb352)); have n3_ := Aside0.mk ((by rw [hg]; exact (below_size (by repeat (first | (with_reducible first | exact HB.out | apply below_alloc | apply pw_below_drewN | apply below_drew1) | exact HB.out))) : w.heap.size ≤ gb352)); clear HB; have HB := n0_; have BK352 := n1_; have GW352 := n2_; have GE352 := n3_; clear n0_ n1_ n2_ n3_; clear hb hbox hg; have hcz9_0 : w8.cell? ⟨gb352, 0, none⟩ = some (.int .i64 a0_0) := (blk_cell BK352.out 0).trans rfl; have hcz9_1 : w8.cell? ⟨gb352, 1, none⟩ = some (.int .i64 a0_1) := (blk_cell BK352.out 1).trans rfl; have hcz9_2 : w8.cell? ⟨gb352, 2, none⟩ = some (.string a0_2) := (blk_cell BK352.out 2).trans rfl; have hfz9_0 := blk_frozen BK352.out 0; have hfz9_1 := blk_frozen BK352.out 1; have hfz9_2 := blk_frozen BK352.out 2) | ((with_reducible refine gate_callee (f := 40) rfl ?_); refine goesL_ (some 5) rfl rfl Tryd.func40 (by kernel_rfl) rfl #[.int .i64 a0_1] rfl (by (try simp only [List.map_toArray, List.map_cons, List.map_nil]); first | done | rfl | (simp only [List.length_drop, List.length_take]; rfl)) ?_; (with_reducible refine (trystref01_Right.calls a0_1 true _ A2.out).mono ?_); rintro e w' ⟨rfl, ⟨nd, rfl⟩⟩; refine ⟨_, rfl, ?_⟩))
    go_ret
    exact ⟨by first | rfl | (simp [errW_none, errW_some] <;> rfl) | (simp [*, errW_none, errW_some] <;> rfl), by repeat (first | (with_reducible first | exact HB.out | apply below_alloc | apply pw_below_drewN | apply below_drew1 | refine below_set ?_ GE352.out) | exact HB.out)⟩
  ·rw [if_neg c4] at H
   have c4b0 : (a0_0 == 0) = false := beq_eq_false_iff_ne.mpr c4
   have c4b1 : (a0_0 != 0) = true := bne_iff_ne.mpr c4
   have HC10 := Aside0.mk H
   clear H
   go_enter Tryd.func19, Tryd.ntmps19
   go_upto_if 20 with (first | ((with_reducible refine gate_dst (N := 1) rfl ?_); refine box_event ?hg (N := 1) ?hd (cs := #[.int .i64 a0_0, .int .i64 a0_1, .string a0_2]) (t := 31) ?hr ?_; (case hd => rfl); (case hg => rfl); (case hr => first | (go_simp; done) | (go_simp; rfl)); intro gb352 hg w11 hbox hb; have n0_ := Aside0.mk (below_step (by repeat (first | (with_reducible first | exact HB.out | apply below_alloc | apply pw_below_drewN | apply below_drew1) | exact HB.out)) hb); have n1_ := Aside0.mk (hbox); have n2_ := Aside0.mk ((by rw [hg]; exact (below_size (by repeat (first | (with_reducible first | exact HB.out | apply below_alloc | apply pw_below_drewN | apply below_drew1) | exact HB.out))) : w.heap.size ≤ gb352)); have n3_ := Aside0.mk ((by rw [hg]; exact (below_size (by repeat (first | (with_reducible first | exact HB.out | apply below_alloc | apply pw_below_drewN | apply below_drew1) | exact HB.out))) : w.heap.size ≤ gb352)); clear HB; have HB := n0_; have BK352 := n1_; have GW352 := n2_; have GE352 := n3_; clear n0_ n1_ n2_ n3_; clear hb hbox hg; have hcz12_0 : w11.cell? ⟨gb352, 0, none⟩ = some (.int .i64 a0_0) := (blk_cell BK352.out 0).trans rfl; have hcz12_1 : w11.cell? ⟨gb352, 1, none⟩ = some (.int .i64 a0_1) := (blk_cell BK352.out 1).trans rfl; have hcz12_2 : w11.cell? ⟨gb352, 2, none⟩ = some (.string a0_2) := (blk_cell BK352.out 2).trans rfl; have hfz12_0 := blk_frozen BK352.out 0; have hfz12_1 := blk_frozen BK352.out 1; have hfz12_2 := blk_frozen BK352.out 2) | ((with_reducible refine gate_callee (f := 40) rfl ?_); refine goesL_ (some 5) rfl rfl Tryd.func40 (by kernel_rfl) rfl #[.int .i64 a0_1] rfl (by (try simp only [List.map_toArray, List.map_cons, List.map_nil]); first | done | rfl | (simp only [List.length_drop, List.length_take]; rfl)) ?_; (with_reducible refine (trystref01_Right.calls a0_1 true _ A2.out).mono ?_); rintro e w' ⟨rfl, ⟨nd, rfl⟩⟩; refine ⟨_, rfl, ?_⟩))
   (try simp only [Act.put, List.setIfInBounds_toArray, List.set_cons_zero, List.set_cons_succ])
   go_cut [20] (fun v20 wc => ∃ (kq : Nat) (x20_9 : Bool), v20 = .bool x20_9 ∧ Aside0 (trystref12_RightTime.j0 kq a0_0 x20_9 a0_0 a0_1 a0_2 = some r) ∧ Aside0 (kq ≤ k) ∧ Aside0 (wc.heap[gb352]? = some (.cells #[.int .i64 a0_0, .int .i64 a0_1, .string a0_2] 31 (0, 0))) ∧ Aside0 (Below w.heap.size w wc))
   case first =>
    have H := HC10.out
    clear HC10
    by_cases c13 : a0_0 = 1
    ·rw [if_pos c13] at H
     have c13b0 : (a0_0 == 1) = true := beq_iff_eq.mpr c13
     have c13b1 : (a0_0 != 1) = false := bne_eq_false_iff_eq.mpr c13
     clear c13
     (first | rw [c13b0] | (simp only [i64_w, i32_w]; rw [c13b0]) | skip)
     have H' := Aside0.mk H
     clear H
     go_wp2
     go_meet
     case rel => exact ⟨_, ((a0_0 == 1)), (by first | rfl | (simp; done) | (simp [*]; done)), H', ⟨by first | omega | exact Nat.le_refl _⟩, ⟨by (with_reducible repeat (first | refine blk_drewN ?_ _ | refine blk_drew ?_ | refine blk_alloc ?_ _)); exact BK352.out⟩, ⟨by repeat (first | (with_reducible first | exact HB.out | apply below_alloc | apply pw_below_drewN | apply below_drew1 | refine below_set ?_ GE352.out) | exact HB.out)⟩⟩
    ·rw [if_neg c13] at H
     have c13b0 : (a0_0 == 1) = false := beq_eq_false_iff_ne.mpr c13
     have c13b1 : (a0_0 != 1) = true := bne_iff_ne.mpr c13
     (first | rw [c13b0] | (simp only [i64_w, i32_w]; rw [c13b0]) | skip)
     have H' := Aside0.mk H
     clear H
     go_wp2
     go_meet
     case rel => exact ⟨_, ((a0_0 == 2)), (by first | rfl | (simp; done) | (simp [*]; done)), H', ⟨by first | omega | exact Nat.le_refl _⟩, ⟨by (with_reducible repeat (first | refine blk_drewN ?_ _ | refine blk_drew ?_ | refine blk_alloc ?_ _)); exact BK352.out⟩, ⟨by repeat (first | (with_reducible first | exact HB.out | apply below_alloc | apply pw_below_drewN | apply below_drew1 | refine below_set ?_ GE352.out) | exact HB.out)⟩⟩
   case rest =>
    clear HC10
    try clear c1
    try clear p2
    try clear c3
    try clear c4
    try clear c4b0
    try clear c4b1
    try clear c5
    try clear c5b0
    try clear c5b1
    try clear c13
    try clear c13b0
    try clear c13b1
    try clear hcz12_0
    try clear hcz12_1
    try clear hcz12_2
    try clear hcz7_0
    try clear hcz7_1
    try clear hcz7_2
    try clear hcz9_0
    try clear hcz9_1
    try clear hcz9_2
    try clear hfz12_0
    try clear hfz12_1
    try clear hfz12_2
    try clear hfz7_0
    try clear hfz7_1
    try clear hfz7_2
    try clear hfz9_0
    try clear hfz9_1
    try clear hfz9_2
    obtain ⟨kq, x20_9, rfl, HA, HJ9, BK352, HB⟩ := hcut
    cases kq with
    | zero => exact absurd HA.out (by simp [trystref12_RightTime.j0])
    | succ kj9 =>
     have H := HA.out
     clear HA
     simp only [trystref12_RightTime.j0] at H
     by_cases c14 : x20_9 = true
     ·subst c14
      have H1 : (some (a0_2.toList == ([] : List UInt8))) = some r := by rw [if_pos rfl] at H; exact H
      clear H
      have H := H1
      clear H1
      obtain rfl := Option.some.inj H
      have hcz15_0 : wc.cell? ⟨gb352, 0, none⟩ = some (.int .i64 a0_0) := (blk_cell BK352.out 0).trans rfl
      have hcz15_1 : wc.cell? ⟨gb352, 1, none⟩ = some (.int .i64 a0_1) := (blk_cell BK352.out 1).trans rfl
      have hcz15_2 : wc.cell? ⟨gb352, 2, none⟩ = some (.string a0_2) := (blk_cell BK352.out 2).trans rfl
      have hfz15_0 := blk_frozen BK352.out 0
      have hfz15_1 := blk_frozen BK352.out 1
      have hfz15_2 := blk_frozen BK352.out 2
      go_wp2
      go_ret
      exact ⟨by first | rfl | (simp [errW_none, errW_some] <;> rfl) | (simp [*, errW_none, errW_some] <;> rfl), by repeat (first | (with_reducible first | exact HB.out | apply below_alloc | apply pw_below_drewN | apply below_drew1 | refine below_set ?_ GE352.out) | exact HB.out)⟩
     ·replace c14 := Bool.eq_false_iff.mpr c14
      subst c14
      have H1 : (if a0_0 = 3 then ((trystref12_ZoneName.f kj9 a0_2).bind fun t354 => (some t354)) else (some false)) = some r := by rw [if_neg (show ¬ (false = true) by decide)] at H; exact H
      clear H
      have H := H1
      clear H1
      by_cases c16 : a0_0 = 3
      ·rw [if_pos c16] at H
       have c16b0 : (a0_0 == 3) = true := beq_iff_eq.mpr c16
       have c16b1 : (a0_0 != 3) = false := bne_eq_false_iff_eq.mpr c16
       clear c16
       replace H := Option.bind_eq_some_iff.mp H
       obtain ⟨t354, A170, H⟩ := H
       replace H : (some t354) = some r := H
       have A17 := Aside0.mk A170
       clear A170
       obtain rfl := Option.some.inj H
       have hcz18_0 : wc.cell? ⟨gb352, 0, none⟩ = some (.int .i64 a0_0) := (blk_cell BK352.out 0).trans rfl
       have hcz18_1 : wc.cell? ⟨gb352, 1, none⟩ = some (.int .i64 a0_1) := (blk_cell BK352.out 1).trans rfl
       have hcz18_2 : wc.cell? ⟨gb352, 2, none⟩ = some (.string a0_2) := (blk_cell BK352.out 2).trans rfl
       have hfz18_0 := blk_frozen BK352.out 0
       have hfz18_1 := blk_frozen BK352.out 1
       have hfz18_2 := blk_frozen BK352.out 2
       go_wp2_with (first | ((with_reducible refine gate_callee (f := 35) rfl ?_); refine goesL_ (some 30) rfl rfl Tryd.func35 (by kernel_rfl) rfl #[.string a0_2] rfl (by (try simp only [List.map_toArray, List.map_cons, List.map_nil]); first | done | rfl | (simp only [List.length_drop, List.length_take]; rfl)) ?_; (with_reducible refine (trystref12_ZoneName.calls kj9 a0_2 t354 _ A17.out).mono ?_); rintro e w' ⟨rfl, ⟨nd, rfl⟩⟩; refine ⟨_, rfl, ?_⟩))
       go_ret
       exact ⟨by first | rfl | (simp [errW_none, errW_some] <;> rfl) | (simp [*, errW_none, errW_some] <;> rfl), by repeat (first | (with_reducible first | exact HB.out | apply below_alloc | apply pw_below_drewN | apply below_drew1 | refine below_set ?_ GE352.out) | exact HB.out)⟩
      ·rw [if_neg c16] at H
       have c16b0 : (a0_0 == 3) = false := beq_eq_false_iff_ne.mpr c16
       have c16b1 : (a0_0 != 3) = true := bne_iff_ne.mpr c16
       obtain rfl := Option.some.inj H
       go_wp2
       go_ret
       exact ⟨by first | rfl | (simp [errW_none, errW_some] <;> rfl) | (simp [*, errW_none, errW_some] <;> rfl), by repeat (first | (with_reducible first | exact HB.out | apply below_alloc | apply pw_below_drewN | apply below_drew1 | refine below_set ?_ GE352.out) | exact HB.out)⟩
 ·replace c3 := Bool.eq_false_iff.mpr c3
  subst c3
  have H1 : (some false) = some r := by rw [if_neg (show ¬ (false = true) by decide)] at H; exact H
  clear H
  have H := H1
  clear H1
  obtain rfl := Option.some.inj H
  go_enter Tryd.func19, Tryd.ntmps19
  go_wp2_with (first | ((with_reducible refine gate_dst (N := 1) rfl ?_); refine box_event ?hg (N := 1) ?hd (cs := #[.int .i64 a0_0, .int .i64 a0_1, .string a0_2]) (t := 31) ?hr ?_; (case hd => rfl); (case hg => rfl); (case hr => first | (go_simp; done) | (go_simp; rfl)); intro gb352 hg w19 hbox hb; have n0_ := Aside0.mk (below_step (by repeat (first | (with_reducible first | exact HB.out | apply below_alloc | apply pw_below_drewN | apply below_drew1) | exact HB.out)) hb); have n1_ := Aside0.mk (hbox); have n2_ := Aside0.mk ((by rw [hg]; exact (below_size (by repeat (first | (with_reducible first | exact HB.out | apply below_alloc | apply pw_below_drewN | apply below_drew1) | exact HB.out))) : w.heap.size ≤ gb352)); have n3_ := Aside0.mk ((by rw [hg]; exact (below_size (by repeat (first | (with_reducible first | exact HB.out | apply below_alloc | apply pw_below_drewN | apply below_drew1) | exact HB.out))) : w.heap.size ≤ gb352)); clear HB; have HB := n0_; have BK352 := n1_; have GW352 := n2_; have GE352 := n3_; clear n0_ n1_ n2_ n3_; clear hb hbox hg; have hcz20_0 : w19.cell? ⟨gb352, 0, none⟩ = some (.int .i64 a0_0) := (blk_cell BK352.out 0).trans rfl; have hcz20_1 : w19.cell? ⟨gb352, 1, none⟩ = some (.int .i64 a0_1) := (blk_cell BK352.out 1).trans rfl; have hcz20_2 : w19.cell? ⟨gb352, 2, none⟩ = some (.string a0_2) := (blk_cell BK352.out 2).trans rfl; have hfz20_0 := blk_frozen BK352.out 0; have hfz20_1 := blk_frozen BK352.out 1; have hfz20_2 := blk_frozen BK352.out 2) | ((with_reducible refine gate_callee (f := 40) rfl ?_); refine goesL_ (some 5) rfl rfl Tryd.func40 (by kernel_rfl) rfl #[.int .i64 a0_1] rfl (by (try simp only [List.map_toArray, List.map_cons, List.map_nil]); first | done | rfl | (simp only [List.length_drop, List.length_take]; rfl)) ?_; (with_reducible refine (trystref01_Right.calls a0_1 false _ A2.out).mono ?_); rintro e w' ⟨rfl, ⟨nd, rfl⟩⟩; refine ⟨_, rfl, ?_⟩))
  go_ret
  exact ⟨by first | rfl | (simp [errW_none, errW_some] <;> rfl) | (simp [*, errW_none, errW_some] <;> rfl), by repeat (first | (with_reducible first | exact HB.out | apply below_alloc | apply pw_below_drewN | apply below_drew1 | refine below_set ?_ GE352.out) | exact HB.out)⟩

/-! ### trystref12_Time: function 21 -/
def trystref12_Time.f (k : Nat) (a0_0 : Int) (a0_1 : Int) (a0_2 : ByteArray) : Option (ByteArray) := (trystref01_Seconds.f k a0_1).bind fun t386 => (if a0_0 = 0 then (if 0 ≤ 8 then (if 8 ≤ (t386.size : Int) then (some (t386.extract 0 8)) else (none)) else (none)) else (if a0_0 = 2 then (if t386.size + 1 ≤ 9223372036854775807 then (some (t386 ++ (⟨#[90]⟩ : ByteArray))) else (none)) else (some t386)))
set_option maxHeartbeats 8000000 in
set_option maxRecDepth 100000 in
theorem trystref12_Time.calls (k : Nat) (a0_0 : Int) (a0_1 : Int) (a0_2 : ByteArray) (r : ByteArray) (w : World) (h : trystref12_Time.f k a0_0 a0_1 a0_2 = some r) :
  Calls Tryd.prog 21 #[.agg #[.int .i64 a0_0, .int .i64 a0_1, .string a0_2]] w fun e w' => e = .returned (.string r) ∧ Below w.heap.size w w' := by
 have hu31 := Tryd.underlying31
 have HB := Aside0.mk (Below.refl w.heap.size w)
 have H : ((trystref01_Seconds.f k a0_1).bind fun t386 => (if a0_0 = 0 then (if 0 ≤ 8 then (if 8 ≤ (t386.size : Int) then (some (t386.extract 0 8)) else (none)) else (none)) else (if a0_0 = 2 then (if t386.size + 1 ≤ 9223372036854775807 then (some (t386 ++ (⟨#[90]⟩ : ByteArray))) else (none)) else (some t386)))) = some r := h
 clear h
 replace H := Option.bind_eq_some_iff.mp H
 obtain ⟨t386, A20, H⟩ := H
 replace H : (if a0_0 = 0 then (if 0 ≤ 8 then (if 8 ≤ (t386.size : Int) then (some (t386.extract 0 8)) else (none)) else (none)) else (if a0_0 = 2 then (if t386.size + 1 ≤ 9223372036854775807 then (some (t386 ++ (⟨#[90]⟩ : ByteArray))) else (none)) else (some t386))) = some r := H
 have A2 := Aside0.mk A20
 clear A20
 by_cases c3 : a0_0 = 0
 ·rw [if_pos c3] at H
  have c3b0 : (a0_0 == 0) = true := beq_iff_eq.mpr c3
  have c3b1 : (a0_0 != 0) = false := bne_eq_false_iff_eq.mpr c3
  clear c3
  by_cases c4 : 0 ≤ 8
  ·rw [if_pos c4] at H
   have c4b0 := eq_true c4
   have c4b1 : decide (0 ≤ 8) = true := decide_eq_true c4
   clear c4
   by_cases c5 : 8 ≤ (t386.size : Int)
   ·rw [if_pos c5] at H
    have c5b0 := eq_true c5
    have c5b1 : decide (8 ≤ (t386.size : Int)) = true := decide_eq_true c5
    clear c5
    obtain rfl := Option.some.inj H
    go_enter Tryd.func21, Tryd.ntmps21
    go_wp2_with (first | ((with_reducible refine gate_dst (N := 1) rfl ?_); refine box_event ?hg (N := 1) ?hd (cs := #[.int .i64 a0_0, .int .i64 a0_1, .string a0_2]) (t := 31) ?hr ?_; (case hd => rfl); (case hg => rfl); (case hr => first | (go_simp; done) | (go_simp; rfl)); intro gb385 hg w6 hbox hb; have n0_ := Aside0.mk (below_step (by repeat (first | (with_reducible first | exact HB.out | apply below_alloc | apply pw_below_drewN | apply below_drew1) | exact HB.out)) hb); have n1_ := Aside0.mk (hbox); have n2_ := Aside0.mk ((by rw [hg]; exact (below_size (by repeat (first | (with_reducible first | exact HB.out | apply below_alloc | apply pw_below_drewN | apply below_drew1) | exact HB.out))) : w.heap.size ≤ gb385)); have n3_ := Aside0.mk ((by rw [hg]; exact (below_size (by repeat (first | (with_reducible first | exact HB.out | apply below_alloc | apply pw_below_drewN | apply below_drew1) | exact HB.out))) : w.heap.size ≤ gb385)); clear HB; have HB := n0_; have BK385 := n1_; have GW385 := n2_; have GE385 := n3_; clear n0_ n1_ n2_ n3_; clear hb hbox hg; have hcz7_0 : w6.cell? ⟨gb385, 0, none⟩ = some (.int .i64 a0_0) := (blk_cell BK385.out 0).trans rfl; have hcz7_1 : w6.cell? ⟨gb385, 1, none⟩ = some (.int .i64 a0_1) := (blk_cell BK385.out 1).trans rfl; have hcz7_2 : w6.cell? ⟨gb385, 2, none⟩ = some (.string a0_2) := (blk_cell BK385.out 2).trans rfl; have hfz7_0 := blk_frozen BK385.out 0; have hfz7_1 := blk_frozen BK385.out 1; have hfz7_2 := blk_frozen BK385.out 2) | ((with_reducible refine gate_callee (f := 43) rfl ?_); refine goesL_ (some 6) rfl rfl Tryd.func43 (by kernel_rfl) rfl #[.int .i64 a0_1] rfl (by (try simp only [List.map_toArray, List.map_cons, List.map_nil]); first | done | rfl | (simp only [List.length_drop, List.length_take]; rfl)) ?_; (with_reducible refine (trystref01_Seconds.calls k a0_1 t386 _ A2.out).mono ?_); rintro e w8 ⟨rfl, hb⟩; refine ⟨_, rfl, ?_⟩; have n0_ := Aside0.mk (blk_below (g := gb385) (o := .cells #[.int .i64 a0_0, .int .i64 a0_1, .string a0_2] 31 (0, 0)) (by (with_reducible repeat (first | refine blk_drewN ?_ _ | refine blk_drew ?_ | refine blk_alloc ?_ _)); exact BK385.out) hb); have n1_ := Aside0.mk (below_step (by repeat (first | (with_reducible first | exact HB.out | apply below_alloc | apply pw_below_drewN | apply below_drew1 | refine below_set ?_ GE385.out) | exact HB.out)) hb); clear BK385; clear HB; have BK385 := n0_; have HB := n1_; clear n0_ n1_; (try clear hb); (try clear hb2); (try clear hk); (try clear hi); have hcz9_0 : w8.cell? ⟨gb385, 0, none⟩ = some (.int .i64 a0_0) := (blk_cell BK385.out 0).trans rfl; have hcz9_1 : w8.cell? ⟨gb385, 1, none⟩ = some (.int .i64 a0_1) := (blk_cell BK385.out 1).trans rfl; have hcz9_2 : w8.cell? ⟨gb385, 2, none⟩ = some (.string a0_2) := (blk_cell BK385.out 2).trans rfl; have hfz9_0 := blk_frozen BK385.out 0; have hfz9_1 := blk_frozen BK385.out 1; have hfz9_2 := blk_frozen BK385.out 2))
    go_ret
    exact ⟨by first | rfl | (simp [errW_none, errW_some] <;> rfl) | (simp [*, errW_none, errW_some] <;> rfl), by repeat (first | (with_reducible first | exact HB.out | apply below_alloc | apply pw_below_drewN | apply below_drew1 | refine below_set ?_ GE385.out) | exact HB.out)⟩
   ·rw [if_neg c5] at H
    exact absurd H (by simp)
  ·rw [if_neg c4] at H
   exact absurd H (by simp)
 ·rw [if_neg c3] at H
  have c3b0 : (a0_0 == 0) = false := beq_eq_false_iff_ne.mpr c3
  have c3b1 : (a0_0 != 0) = true := bne_iff_ne.mpr c3
  by_cases c10 : a0_0 = 2
  ·rw [if_pos c10] at H
   have c10b0 : (a0_0 == 2) = true := beq_iff_eq.mpr c10
   have c10b1 : (a0_0 != 2) = false := bne_eq_false_iff_eq.mpr c10
   clear c10
   by_cases c11 : t386.size + 1 ≤ 9223372036854775807
   ·rw [if_pos c11] at H
    have c11b0 := eq_true c11
    have c11b1 : decide (t386.size + 1 ≤ 9223372036854775807) = true := decide_eq_true c11
    try have c11b2 : (9223372036854775807 < t386.size + 1) = False := eq_false (Nat.not_lt.2 c11)
    try (have c11b3 := c11b2; simp only [ByteArray.size_append, bs1_] at c11b3)
    obtain rfl := Option.some.inj H
    go_enter Tryd.func21, Tryd.ntmps21
    go_wp2_with (first | ((with_reducible refine gate_dst (N := 1) rfl ?_); refine box_event ?hg (N := 1) ?hd (cs := #[.int .i64 a0_0, .int .i64 a0_1, .string a0_2]) (t := 31) ?hr ?_; (case hd => rfl); (case hg => rfl); (case hr => first | (go_simp; done) | (go_simp; rfl)); intro gb385 hg w12 hbox hb; have n0_ := Aside0.mk (below_step (by repeat (first | (with_reducible first | exact HB.out | apply below_alloc | apply pw_below_drewN | apply below_drew1) | exact HB.out)) hb); have n1_ := Aside0.mk (hbox); have n2_ := Aside0.mk ((by rw [hg]; exact (below_size (by repeat (first | (with_reducible first | exact HB.out | apply below_alloc | apply pw_below_drewN | apply below_drew1) | exact HB.out))) : w.heap.size ≤ gb385)); have n3_ := Aside0.mk ((by rw [hg]; exact (below_size (by repeat (first | (with_reducible first | exact HB.out | apply below_alloc | apply pw_below_drewN | apply below_drew1) | exact HB.out))) : w.heap.size ≤ gb385)); clear HB; have HB := n0_; have BK385 := n1_; have GW385 := n2_; have GE385 := n3_; clear n0_ n1_ n2_ n3_; clear hb hbox hg; have hcz13_0 : w12.cell? ⟨gb385, 0, none⟩ = some (.int .i64 a0_0) := (blk_cell BK385.out 0).trans rfl; have hcz13_1 : w12.cell? ⟨gb385, 1, none⟩ = some (.int .i64 a0_1) := (blk_cell BK385.out 1).trans rfl; have hcz13_2 : w12.cell? ⟨gb385, 2, none⟩ = some (.string a0_2) := (blk_cell BK385.out 2).trans rfl; have hfz13_0 := blk_frozen BK385.out 0; have hfz13_1 := blk_frozen BK385.out 1; have hfz13_2 := blk_frozen BK385.out 2) | ((with_reducible refine gate_callee (f := 43) rfl ?_); refine goesL_ (some 6) rfl rfl Tryd.func43 (by kernel_rfl) rfl #[.int .i64 a0_1] rfl (by (try simp only [List.map_toArray, List.map_cons, List.map_nil]); first | done | rfl | (simp only [List.length_drop, List.length_take]; rfl)) ?_; (with_reducible refine (trystref01_Seconds.calls k a0_1 t386 _ A2.out).mono ?_); rintro e w14 ⟨rfl, hb⟩; refine ⟨_, rfl, ?_⟩; have n0_ := Aside0.mk (blk_below (g := gb385) (o := .cells #[.int .i64 a0_0, .int .i64 a0_1, .string a0_2] 31 (0, 0)) (by (with_reducible repeat (first | refine blk_drewN ?_ _ | refine blk_drew ?_ | refine blk_alloc ?_ _)); exact BK385.out) hb); have n1_ := Aside0.mk (below_step (by repeat (first | (with_reducible first | exact HB.out | apply below_alloc | apply pw_below_drewN | apply below_drew1 | refine below_set ?_ GE385.out) | exact HB.out)) hb); clear BK385; clear HB; have BK385 := n0_; have HB := n1_; clear n0_ n1_; (try clear hb); (try clear hb2); (try clear hk); (try clear hi); have hcz15_0 : w14.cell? ⟨gb385, 0, none⟩ = some (.int .i64 a0_0) := (blk_cell BK385.out 0).trans rfl; have hcz15_1 : w14.cell? ⟨gb385, 1, none⟩ = some (.int .i64 a0_1) := (blk_cell BK385.out 1).trans rfl; have hcz15_2 : w14.cell? ⟨gb385, 2, none⟩ = some (.string a0_2) := (blk_cell BK385.out 2).trans rfl; have hfz15_0 := blk_frozen BK385.out 0; have hfz15_1 := blk_frozen BK385.out 1; have hfz15_2 := blk_frozen BK385.out 2))
    go_ret
    exact ⟨by first | rfl | (simp [errW_none, errW_some] <;> rfl) | (simp [*, errW_none, errW_some] <;> rfl), by repeat (first | (with_reducible first | exact HB.out | apply below_alloc | apply pw_below_drewN | apply below_drew1 | refine below_set ?_ GE385.out) | exact HB.out)⟩
   ·rw [if_neg c11] at H
    exact absurd H (by simp)
  ·rw [if_neg c10] at H
   have c10b0 : (a0_0 == 2) = false := beq_eq_false_iff_ne.mpr c10
   have c10b1 : (a0_0 != 2) = true := bne_iff_ne.mpr c10
   obtain rfl := Option.some.inj H
   go_enter Tryd.func21, Tryd.ntmps21
   go_wp2_with (first | ((with_reducible refine gate_dst (N := 1) rfl ?_); refine box_event ?hg (N := 1) ?hd (cs := #[.int .i64 a0_0, .int .i64 a0_1, .string a0_2]) (t := 31) ?hr ?_; (case hd => rfl); (case hg => rfl); (case hr => first | (go_simp; done) | (go_simp; rfl)); intro gb385 hg w16 hbox hb; have n0_ := Aside0.mk (below_step (by repeat (first | (with_reducible first | exact HB.out | apply below_alloc | apply pw_below_drewN | apply below_drew1) | exact HB.out)) hb); have n1_ := Aside0.mk (hbox); have n2_ := Aside0.mk ((by rw [hg]; exact (below_size (by repeat (first | (with_reducible first | exact HB.out | apply below_alloc | apply pw_below_drewN | apply below_drew1) | exact HB.out))) : w.heap.size ≤ gb385)); have n3_ := Aside0.mk ((by rw [hg]; exact (below_size (by repeat (first | (with_reducible first | exact HB.out | apply below_alloc | apply pw_below_drewN | apply below_drew1) | exact HB.out))) : w.heap.size ≤ gb385)); clear HB; have HB := n0_; have BK385 := n1_; have GW385 := n2_; have GE385 := n3_; clear n0_ n1_ n2_ n3_; clear hb hbox hg; have hcz17_0 : w16.cell? ⟨gb385, 0, none⟩ = some (.int .i64 a0_0) := (blk_cell BK385.out 0).trans rfl; have hcz17_1 : w16.cell? ⟨gb385, 1, none⟩ = some (.int .i64 a0_1) := (blk_cell BK385.out 1).trans rfl; have hcz17_2 : w16.cell? ⟨gb385, 2, none⟩ = some (.string a0_2) := (blk_cell BK385.out 2).trans rfl; have hfz17_0 := blk_frozen BK385.out 0; have hfz17_1 := blk_frozen BK385.out 1; have hfz17_2 := blk_frozen BK385.out 2) | ((with_reducible refine gate_callee (f := 43) rfl ?_); refine goesL_ (some 6) rfl rfl Tryd.func43 (by kernel_rfl) rfl #[.int .i64 a0_1] rfl (by (try simp only [List.map_toArray, List.map_cons, List.map_nil]); first | done | rfl | (simp only [List.length_drop, List.length_take]; rfl)) ?_; (with_reducible refine (trystref01_Seconds.calls k a0_1 t386 _ A2.out).mono ?_); rintro e w18 ⟨rfl, hb⟩; refine ⟨_, rfl, ?_⟩; have n0_ := Aside0.mk (blk_below (g := gb385) (o := .cells #[.int .i64 a0_0, .int .i64 a0_1, .string a0_2] 31 (0, 0)) (by (with_reducible repeat (first | refine blk_drewN ?_ _ | refine blk_drew ?_ | refine blk_alloc ?_ _)); exact BK385.out) hb); have n1_ := Aside0.mk (below_step (by repeat (first | (with_reducible first | exact HB.out | apply below_alloc | apply pw_below_drewN | apply below_drew1 | refine below_set ?_ GE385.out) | exact HB.out)) hb); clear BK385; clear HB; have BK385 := n0_; have HB := n1_; clear n0_ n1_; (try clear hb); (try clear hb2); (try clear hk); (try clear hi); have hcz19_0 : w18.cell? ⟨gb385, 0, none⟩ = some (.int .i64 a0_0) := (blk_cell BK385.out 0).trans rfl; have hcz19_1 : w18.cell? ⟨gb385, 1, none⟩ = some (.int .i64 a0_1) := (blk_cell BK385.out 1).trans rfl; have hcz19_2 : w18.cell? ⟨gb385, 2, none⟩ = some (.string a0_2) := (blk_cell BK385.out 2).trans rfl; have hfz19_0 := blk_frozen BK385.out 0; have hfz19_1 := blk_frozen BK385.out 1; have hfz19_2 := blk_frozen BK385.out 2))
   go_ret
   exact ⟨by first | rfl | (simp [errW_none, errW_some] <;> rfl) | (simp [*, errW_none, errW_some] <;> rfl), by repeat (first | (with_reducible first | exact HB.out | apply below_alloc | apply pw_below_drewN | apply below_drew1 | refine below_set ?_ GE385.out) | exact HB.out)⟩

end Go.Proofs.YthppkdbelmolbaaDoor.Q
