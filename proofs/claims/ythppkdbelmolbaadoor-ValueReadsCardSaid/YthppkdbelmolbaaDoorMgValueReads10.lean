/- Texts of this claim, merged: QtimR. -/
import Derived.Test.YthppkdbelmolbaaDoorMgValueReads1
import Derived.Test.YthppkdbelmolbaaDoorMgValueReads7
import Derived.Test.YthppkdbelmolbaaDoorMgValueReads4
import Derived.Test.YthppkdbelmolbaaDoorMgValueReads9
-- written by a program of this session (wip/own_print.sh)
namespace Go.Proofs.YthppkdbelmolbaaDoor.Q
open Go.RowKit Go.Proofs.YthppkdbelmolbaaDoorW.PrintWords Go.Proofs.YthppkdbelmolbaaDoorW.PrintLast Go.Proofs.YthppkdbelmolbaaDoorW.PrintMore
attribute [local go_sem] max2_int min2_int max_two min_two max_three min_three max_four min_four   -- for this text's walks alone
set_option linter.unusedVariables false
set_option linter.unusedSimpArgs false
/-! ### trystref12_ZoneName: function 35 -/
def trystref12_ZoneName.l0 : Nat → ByteArray → Int → Int → Option (Bool)
  | 0, _, _, _ => none
  | k + 1, x0, x6, x7 => if x7 < x6 then (if 0 ≤ x7 then (if x7 < (x0.size : Int) then (if (bt x0 x7) ≥ 97 then (if (bt x0 x7) ≤ 122 then (trystref12_ZoneName.l0 k x0 x6 (wrap64 (x7 + 1))) else (if (bt x0 x7) ≥ 65 then (if (bt x0 x7) ≤ 90 then (trystref12_ZoneName.l0 k x0 x6 (wrap64 (x7 + 1))) else (if (bt x0 x7) ≥ 48 then (if (bt x0 x7) ≤ 57 then (trystref12_ZoneName.l0 k x0 x6 (wrap64 (x7 + 1))) else (if (bt x0 x7) = 47 then (trystref12_ZoneName.l0 k x0 x6 (wrap64 (x7 + 1))) else (if (bt x0 x7) = 95 then (trystref12_ZoneName.l0 k x0 x6 (wrap64 (x7 + 1))) else (if (bt x0 x7) = 45 then (trystref12_ZoneName.l0 k x0 x6 (wrap64 (x7 + 1))) else (if ((bt x0 x7) = 43) then (trystref12_ZoneName.l0 k x0 x6 (wrap64 (x7 + 1))) else (some false)))))) else (if (bt x0 x7) = 47 then (trystref12_ZoneName.l0 k x0 x6 (wrap64 (x7 + 1))) else (if (bt x0 x7) = 95 then (trystref12_ZoneName.l0 k x0 x6 (wrap64 (x7 + 1))) else (if (bt x0 x7) = 45 then (trystref12_ZoneName.l0 k x0 x6 (wrap64 (x7 + 1))) else (if ((bt x0 x7) = 43) then (trystref12_ZoneName.l0 k x0 x6 (wrap64 (x7 + 1))) else (some false))))))) else (if (bt x0 x7) ≥ 48 then (if (bt x0 x7) ≤ 57 then (trystref12_ZoneName.l0 k x0 x6 (wrap64 (x7 + 1))) else (if (bt x0 x7) = 47 then (trystref12_ZoneName.l0 k x0 x6 (wrap64 (x7 + 1))) else (if (bt x0 x7) = 95 then (trystref12_ZoneName.l0 k x0 x6 (wrap64 (x7 + 1))) else (if (bt x0 x7) = 45 then (trystref12_ZoneName.l0 k x0 x6 (wrap64 (x7 + 1))) else (if ((bt x0 x7) = 43) then (trystref12_ZoneName.l0 k x0 x6 (wrap64 (x7 + 1))) else (some false)))))) else (if (bt x0 x7) = 47 then (trystref12_ZoneName.l0 k x0 x6 (wrap64 (x7 + 1))) else (if (bt x0 x7) = 95 then (trystref12_ZoneName.l0 k x0 x6 (wrap64 (x7 + 1))) else (if (bt x0 x7) = 45 then (trystref12_ZoneName.l0 k x0 x6 (wrap64 (x7 + 1))) else (if ((bt x0 x7) = 43) then (trystref12_ZoneName.l0 k x0 x6 (wrap64 (x7 + 1))) else (some false)))))))) else (if (bt x0 x7) ≥ 65 then (if (bt x0 x7) ≤ 90 then (trystref12_ZoneName.l0 k x0 x6 (wrap64 (x7 + 1))) else (if (bt x0 x7) ≥ 48 then (if (bt x0 x7) ≤ 57 then (trystref12_ZoneName.l0 k x0 x6 (wrap64 (x7 + 1))) else (if (bt x0 x7) = 47 then (trystref12_ZoneName.l0 k x0 x6 (wrap64 (x7 + 1))) else (if (bt x0 x7) = 95 then (trystref12_ZoneName.l0 k x0 x6 (wrap64 (x7 + 1))) else (if (bt x0 x7) = 45 then (trystref12_ZoneName.l0 k x0 x6 (wrap64 (x7 + 1))) else (if ((bt x0 x7) = 43) then (trystref12_ZoneName.l0 k x0 x6 (wrap64 (x7 + 1))) else (some false)))))) else (if (bt x0 x7) = 47 then (trystref12_ZoneName.l0 k x0 x6 (wrap64 (x7 + 1))) else (if (bt x0 x7) = 95 then (trystref12_ZoneName.l0 k x0 x6 (wrap64 (x7 + 1))) else (if (bt x0 x7) = 45 then (trystref12_ZoneName.l0 k x0 x6 (wrap64 (x7 + 1))) else (if ((bt x0 x7) = 43) then (trystref12_ZoneName.l0 k x0 x6 (wrap64 (x7 + 1))) else (some false))))))) else (if (bt x0 x7) ≥ 48 then (if (bt x0 x7) ≤ 57 then (trystref12_ZoneName.l0 k x0 x6 (wrap64 (x7 + 1))) else (if (bt x0 x7) = 47 then (trystref12_ZoneName.l0 k x0 x6 (wrap64 (x7 + 1))) else (if (bt x0 x7) = 95 then (trystref12_ZoneName.l0 k x0 x6 (wrap64 (x7 + 1))) else (if (bt x0 x7) = 45 then (trystref12_ZoneName.l0 k x0 x6 (wrap64 (x7 + 1))) else (if ((bt x0 x7) = 43) then (trystref12_ZoneName.l0 k x0 x6 (wrap64 (x7 + 1))) else (some false)))))) else (if (bt x0 x7) = 47 then (trystref12_ZoneName.l0 k x0 x6 (wrap64 (x7 + 1))) else (if (bt x0 x7) = 95 then (trystref12_ZoneName.l0 k x0 x6 (wrap64 (x7 + 1))) else (if (bt x0 x7) = 45 then (trystref12_ZoneName.l0 k x0 x6 (wrap64 (x7 + 1))) else (if ((bt x0 x7) = 43) then (trystref12_ZoneName.l0 k x0 x6 (wrap64 (x7 + 1))) else (some false)))))))) else (none)) else (none)) else (if (x0.size : Int) > 0 then (some (decide ((x0.size : Int) ≤ 60))) else (some false))
def trystref12_ZoneName.f (k : Nat) (a0 : ByteArray) : Option (Bool) := trystref12_ZoneName.l0 k a0 (a0.size : Int) 0
set_option maxHeartbeats 8000000 in
set_option maxRecDepth 100000 in
theorem trystref12_ZoneName.calls (k : Nat) (a0 : ByteArray) (r : Bool) (w : World) (h : trystref12_ZoneName.f k a0 = some r) :
    Calls Tryd.prog 35 #[.string a0] w fun e w' => e = .returned (.bool r) ∧ Drawn0 w w' := by
  have H : (trystref12_ZoneName.l0 k a0 (a0.size : Int) 0) = some r := h
  clear h
  have H' := Aside0.mk H
  clear H
  go_enter Tryd.func35, Tryd.ntmps35
  go_wp2
  go_loopg [7] k (fun kq v7 w' => ∃ (x7_1 : Int), v7 = .int .i64 x7_1 ∧ Aside0 (trystref12_ZoneName.l0 kq a0 (a0.size : Int) x7_1 = some r) ∧ Aside0 (kq ≤ k) ∧ Drawn0 w w')
  case atStart => exact ⟨(0), (by first | rfl | (simp; done) | (simp [*]; done)), H', ⟨Nat.le_refl _⟩, by repeat (first | exact Drawn0.refl _ | apply Drawn0.step)⟩
  case round =>
    clear H'
    obtain ⟨x7_1, rfl, HA, HK1, ⟨m1, rfl⟩⟩ := hrel
    cases gk with
    | zero => exact absurd HA.out (by simp [trystref12_ZoneName.l0])
    | succ k1 =>
      have H := HA.out
      clear HA
      simp only [trystref12_ZoneName.l0] at H
      by_cases c2 : x7_1 < (a0.size : Int)
      · rw [if_pos c2] at H
        have c2b0 : decide (x7_1 < (a0.size : Int)) = true := decide_eq_true c2
        clear c2
        by_cases c3 : 0 ≤ x7_1
        · rw [if_pos c3] at H
          have c3b0 : decide (0 ≤ x7_1) = true := decide_eq_true c3
          clear c3
          by_cases c4 : x7_1 < (a0.size : Int)
          · rw [if_pos c4] at H
            have c4b0 : decide (x7_1 < (a0.size : Int)) = true := decide_eq_true c4
            clear c4
            by_cases c6 : (bt a0 x7_1) ≥ 97
            · rw [if_pos c6] at H
              have c6b0 : decide (97 ≤ (bt a0 x7_1)) = true := decide_eq_true c6
              clear c6
              by_cases c7 : (bt a0 x7_1) ≤ 122
              · rw [if_pos c7] at H
                have c7b0 : decide ((bt a0 x7_1) ≤ 122) = true := decide_eq_true c7
                clear c7
                have H' := Aside0.mk H
                clear H
                have p5 : 0 ≤ (x7_1 : Int) := of_decide_eq_true (by first | (with_reducible assumption) | assumption)
                have q5 : x7_1 < (a0.size : Int) := of_decide_eq_true (by first | (with_reducible assumption) | assumption)
                have hx5 := bt_at a0 x7_1
                replace p5 := eq_true p5
                replace q5 := eq_true q5
                go_wp2
                go_roundg k1
                case measure => have := HK1.out; omega
                case rel => exact ⟨(wrap64 (x7_1 + 1)), (by first | rfl | (simp; done) | (simp [*]; done)), H', ⟨by have := HK1.out; omega⟩, by repeat (first | exact Drawn0.refl _ | apply Drawn0.step)⟩
              · rw [if_neg c7] at H
                have c7b0 : decide ((bt a0 x7_1) ≤ 122) = false := decide_eq_false c7
                clear c7
                by_cases c8 : (bt a0 x7_1) ≥ 65
                · rw [if_pos c8] at H
                  have c8b0 : decide (65 ≤ (bt a0 x7_1)) = true := decide_eq_true c8
                  clear c8
                  by_cases c9 : (bt a0 x7_1) ≤ 90
                  · rw [if_pos c9] at H
                    have c9b0 : decide ((bt a0 x7_1) ≤ 90) = true := decide_eq_true c9
                    clear c9
                    have H' := Aside0.mk H
                    clear H
                    have p5 : 0 ≤ (x7_1 : Int) := of_decide_eq_true (by first | (with_reducible assumption) | assumption)
                    have q5 : x7_1 < (a0.size : Int) := of_decide_eq_true (by first | (with_reducible assumption) | assumption)
                    have hx5 := bt_at a0 x7_1
                    replace p5 := eq_true p5
                    replace q5 := eq_true q5
                    go_wp2
                    go_roundg k1
                    case measure => have := HK1.out; omega
                    case rel => exact ⟨(wrap64 (x7_1 + 1)), (by first | rfl | (simp; done) | (simp [*]; done)), H', ⟨by have := HK1.out; omega⟩, by repeat (first | exact Drawn0.refl _ | apply Drawn0.step)⟩
                  · rw [if_neg c9] at H
                    have c9b0 : decide ((bt a0 x7_1) ≤ 90) = false := decide_eq_false c9
                    clear c9
                    by_cases c10 : (bt a0 x7_1) ≥ 48
                    · rw [if_pos c10] at H
                      have c10b0 : decide (48 ≤ (bt a0 x7_1)) = true := decide_eq_true c10
                      clear c10
                      by_cases c11 : (bt a0 x7_1) ≤ 57
                      · rw [if_pos c11] at H
                        have c11b0 : decide ((bt a0 x7_1) ≤ 57) = true := decide_eq_true c11
                        clear c11
                        have H' := Aside0.mk H
                        clear H
                        have p5 : 0 ≤ (x7_1 : Int) := of_decide_eq_true (by first | (with_reducible assumption) | assumption)
                        have q5 : x7_1 < (a0.size : Int) := of_decide_eq_true (by first | (with_reducible assumption) | assumption)
                        have hx5 := bt_at a0 x7_1
                        replace p5 := eq_true p5
                        replace q5 := eq_true q5
                        go_wp2
                        go_roundg k1
                        case measure => have := HK1.out; omega
                        case rel => exact ⟨(wrap64 (x7_1 + 1)), (by first | rfl | (simp; done) | (simp [*]; done)), H', ⟨by have := HK1.out; omega⟩, by repeat (first | exact Drawn0.refl _ | apply Drawn0.step)⟩
                      · rw [if_neg c11] at H
                        have c11b0 : decide ((bt a0 x7_1) ≤ 57) = false := decide_eq_false c11
                        clear c11
                        by_cases c12 : (bt a0 x7_1) = 47
                        · rw [if_pos c12] at H
                          have c12b0 : ((bt a0 x7_1) == 47) = true := beq_iff_eq.mpr c12
                          have c12b1 : ((bt a0 x7_1) != 47) = false := bne_eq_false_iff_eq.mpr c12
                          clear c12
                          have H' := Aside0.mk H
                          clear H
                          have p5 : 0 ≤ (x7_1 : Int) := of_decide_eq_true (by first | (with_reducible assumption) | assumption)
                          have q5 : x7_1 < (a0.size : Int) := of_decide_eq_true (by first | (with_reducible assumption) | assumption)
                          have hx5 := bt_at a0 x7_1
                          replace p5 := eq_true p5
                          replace q5 := eq_true q5
                          go_wp2
                          go_roundg k1
                          case measure => have := HK1.out; omega
                          case rel => exact ⟨(wrap64 (x7_1 + 1)), (by first | rfl | (simp; done) | (simp [*]; done)), H', ⟨by have := HK1.out; omega⟩, by repeat (first | exact Drawn0.refl _ | apply Drawn0.step)⟩
                        · rw [if_neg c12] at H
                          have c12b0 : ((bt a0 x7_1) == 47) = false := beq_eq_false_iff_ne.mpr c12
                          have c12b1 : ((bt a0 x7_1) != 47) = true := bne_iff_ne.mpr c12
                          by_cases c13 : (bt a0 x7_1) = 95
                          · rw [if_pos c13] at H
                            have c13b0 : ((bt a0 x7_1) == 95) = true := beq_iff_eq.mpr c13
                            have c13b1 : ((bt a0 x7_1) != 95) = false := bne_eq_false_iff_eq.mpr c13
                            clear c13
                            have H' := Aside0.mk H
                            clear H
                            have p5 : 0 ≤ (x7_1 : Int) := of_decide_eq_true (by first | (with_reducible assumption) | assumption)
                            have q5 : x7_1 < (a0.size : Int) := of_decide_eq_true (by first | (with_reducible assumption) | assumption)
                            have hx5 := bt_at a0 x7_1
                            replace p5 := eq_true p5
                            replace q5 := eq_true q5
                            go_wp2
                            go_roundg k1
                            case measure => have := HK1.out; omega
                            case rel => exact ⟨(wrap64 (x7_1 + 1)), (by first | rfl | (simp; done) | (simp [*]; done)), H', ⟨by have := HK1.out; omega⟩, by repeat (first | exact Drawn0.refl _ | apply Drawn0.step)⟩
                          · rw [if_neg c13] at H
                            have c13b0 : ((bt a0 x7_1) == 95) = false := beq_eq_false_iff_ne.mpr c13
                            have c13b1 : ((bt a0 x7_1) != 95) = true := bne_iff_ne.mpr c13
                            by_cases c14 : (bt a0 x7_1) = 45
                            · rw [if_pos c14] at H
                              have c14b0 : ((bt a0 x7_1) == 45) = true := beq_iff_eq.mpr c14
                              have c14b1 : ((bt a0 x7_1) != 45) = false := bne_eq_false_iff_eq.mpr c14
                              clear c14
                              have H' := Aside0.mk H
                              clear H
                              have p5 : 0 ≤ (x7_1 : Int) := of_decide_eq_true (by first | (with_reducible assumption) | assumption)
                              have q5 : x7_1 < (a0.size : Int) := of_decide_eq_true (by first | (with_reducible assumption) | assumption)
                              have hx5 := bt_at a0 x7_1
                              replace p5 := eq_true p5
                              replace q5 := eq_true q5
                              go_wp2
                              go_roundg k1
                              case measure => have := HK1.out; omega
                              case rel => exact ⟨(wrap64 (x7_1 + 1)), (by first | rfl | (simp; done) | (simp [*]; done)), H', ⟨by have := HK1.out; omega⟩, by repeat (first | exact Drawn0.refl _ | apply Drawn0.step)⟩
                            · rw [if_neg c14] at H
                              have c14b0 : ((bt a0 x7_1) == 45) = false := beq_eq_false_iff_ne.mpr c14
                              have c14b1 : ((bt a0 x7_1) != 45) = true := bne_iff_ne.mpr c14
                              by_cases c15 : ((bt a0 x7_1) = 43)
                              · rw [if_pos c15] at H
                                have c15b0 : ((bt a0 x7_1) == 43) = true := beq_iff_eq.mpr c15
                                have c15b1 : ((bt a0 x7_1) != 43) = false := bne_eq_false_iff_eq.mpr c15
                                clear c15
                                have H' := Aside0.mk H
                                clear H
                                have p5 : 0 ≤ (x7_1 : Int) := of_decide_eq_true (by first | (with_reducible assumption) | assumption)
                                have q5 : x7_1 < (a0.size : Int) := of_decide_eq_true (by first | (with_reducible assumption) | assumption)
                                have hx5 := bt_at a0 x7_1
                                replace p5 := eq_true p5
                                replace q5 := eq_true q5
                                go_wp2
                                go_roundg k1
                                case measure => have := HK1.out; omega
                                case rel => exact ⟨(wrap64 (x7_1 + 1)), (by first | rfl | (simp; done) | (simp [*]; done)), H', ⟨by have := HK1.out; omega⟩, by repeat (first | exact Drawn0.refl _ | apply Drawn0.step)⟩
                              · rw [if_neg c15] at H
                                have c15b0 : ((bt a0 x7_1) == 43) = false := beq_eq_false_iff_ne.mpr c15
                                have c15b1 : ((bt a0 x7_1) != 43) = true := bne_iff_ne.mpr c15
                                obtain rfl := Option.some.inj H
                                have p5 : 0 ≤ (x7_1 : Int) := of_decide_eq_true (by first | (with_reducible assumption) | assumption)
                                have q5 : x7_1 < (a0.size : Int) := of_decide_eq_true (by first | (with_reducible assumption) | assumption)
                                have hx5 := bt_at a0 x7_1
                                replace p5 := eq_true p5
                                replace q5 := eq_true q5
                                go_wp2
                                go_ret
                                exact ⟨by first | rfl | (simp; done) | (simp [*]; done) | (simp [bne_nil_]; done), by repeat (first | exact Drawn0.refl _ | apply Drawn0.step)⟩
                    · rw [if_neg c10] at H
                      have c10b0 : decide (48 ≤ (bt a0 x7_1)) = false := decide_eq_false c10
                      clear c10
                      by_cases c16 : (bt a0 x7_1) = 47
                      · rw [if_pos c16] at H
                        have c16b0 : ((bt a0 x7_1) == 47) = true := beq_iff_eq.mpr c16
                        have c16b1 : ((bt a0 x7_1) != 47) = false := bne_eq_false_iff_eq.mpr c16
                        clear c16
                        have H' := Aside0.mk H
                        clear H
                        have p5 : 0 ≤ (x7_1 : Int) := of_decide_eq_true (by first | (with_reducible assumption) | assumption)
                        have q5 : x7_1 < (a0.size : Int) := of_decide_eq_true (by first | (with_reducible assumption) | assumption)
                        have hx5 := bt_at a0 x7_1
                        replace p5 := eq_true p5
                        replace q5 := eq_true q5
                        go_wp2
                        go_roundg k1
                        case measure => have := HK1.out; omega
                        case rel => exact ⟨(wrap64 (x7_1 + 1)), (by first | rfl | (simp; done) | (simp [*]; done)), H', ⟨by have := HK1.out; omega⟩, by repeat (first | exact Drawn0.refl _ | apply Drawn0.step)⟩
                      · rw [if_neg c16] at H
                        have c16b0 : ((bt a0 x7_1) == 47) = false := beq_eq_false_iff_ne.mpr c16
                        have c16b1 : ((bt a0 x7_1) != 47) = true := bne_iff_ne.mpr c16
                        by_cases c17 : (bt a0 x7_1) = 95
                        · rw [if_pos c17] at H
                          have c17b0 : ((bt a0 x7_1) == 95) = true := beq_iff_eq.mpr c17
                          have c17b1 : ((bt a0 x7_1) != 95) = false := bne_eq_false_iff_eq.mpr c17
                          clear c17
                          have H' := Aside0.mk H
                          clear H
                          have p5 : 0 ≤ (x7_1 : Int) := of_decide_eq_true (by first | (with_reducible assumption) | assumption)
                          have q5 : x7_1 < (a0.size : Int) := of_decide_eq_true (by first | (with_reducible assumption) | assumption)
                          have hx5 := bt_at a0 x7_1
                          replace p5 := eq_true p5
                          replace q5 := eq_true q5
                          go_wp2
                          go_roundg k1
                          case measure => have := HK1.out; omega
                          case rel => exact ⟨(wrap64 (x7_1 + 1)), (by first | rfl | (simp; done) | (simp [*]; done)), H', ⟨by have := HK1.out; omega⟩, by repeat (first | exact Drawn0.refl _ | apply Drawn0.step)⟩
                        · rw [if_neg c17] at H
                          have c17b0 : ((bt a0 x7_1) == 95) = false := beq_eq_false_iff_ne.mpr c17
                          have c17b1 : ((bt a0 x7_1) != 95) = true := bne_iff_ne.mpr c17
                          by_cases c18 : (bt a0 x7_1) = 45
                          · rw [if_pos c18] at H
                            have c18b0 : ((bt a0 x7_1) == 45) = true := beq_iff_eq.mpr c18
                            have c18b1 : ((bt a0 x7_1) != 45) = false := bne_eq_false_iff_eq.mpr c18
                            clear c18
                            have H' := Aside0.mk H
                            clear H
                            have p5 : 0 ≤ (x7_1 : Int) := of_decide_eq_true (by first | (with_reducible assumption) | assumption)
                            have q5 : x7_1 < (a0.size : Int) := of_decide_eq_true (by first | (with_reducible assumption) | assumption)
                            have hx5 := bt_at a0 x7_1
                            replace p5 := eq_true p5
                            replace q5 := eq_true q5
                            go_wp2
                            go_roundg k1
                            case measure => have := HK1.out; omega
                            case rel => exact ⟨(wrap64 (x7_1 + 1)), (by first | rfl | (simp; done) | (simp [*]; done)), H', ⟨by have := HK1.out; omega⟩, by repeat (first | exact Drawn0.refl _ | apply Drawn0.step)⟩
                          · rw [if_neg c18] at H
                            have c18b0 : ((bt a0 x7_1) == 45) = false := beq_eq_false_iff_ne.mpr c18
                            have c18b1 : ((bt a0 x7_1) != 45) = true := bne_iff_ne.mpr c18
                            by_cases c19 : ((bt a0 x7_1) = 43)
                            · rw [if_pos c19] at H
                              have c19b0 : ((bt a0 x7_1) == 43) = true := beq_iff_eq.mpr c19
                              have c19b1 : ((bt a0 x7_1) != 43) = false := bne_eq_false_iff_eq.mpr c19
                              clear c19
                              have H' := Aside0.mk H
                              clear H
                              have p5 : 0 ≤ (x7_1 : Int) := of_decide_eq_true (by first | (with_reducible assumption) | assumption)
                              have q5 : x7_1 < (a0.size : Int) := of_decide_eq_true (by first | (with_reducible assumption) | assumption)
                              have hx5 := bt_at a0 x7_1
                              replace p5 := eq_true p5
                              replace q5 := eq_true q5
                              go_wp2
                              go_roundg k1
                              case measure => have := HK1.out; omega
                              case rel => exact ⟨(wrap64 (x7_1 + 1)), (by first | rfl | (simp; done) | (simp [*]; done)), H', ⟨by have := HK1.out; omega⟩, by repeat (first | exact Drawn0.refl _ | apply Drawn0.step)⟩
                            · rw [if_neg c19] at H
                              have c19b0 : ((bt a0 x7_1) == 43) = false := beq_eq_false_iff_ne.mpr c19
                              have c19b1 : ((bt a0 x7_1) != 43) = true := bne_iff_ne.mpr c19
                              obtain rfl := Option.some.inj H
                              have p5 : 0 ≤ (x7_1 : Int) := of_decide_eq_true (by first | (with_reducible assumption) | assumption)
                              have q5 : x7_1 < (a0.size : Int) := of_decide_eq_true (by first | (with_reducible assumption) | assumption)
                              have hx5 := bt_at a0 x7_1
                              replace p5 := eq_true p5
                              replace q5 := eq_true q5
                              go_wp2
                              go_ret
                              exact ⟨by first | rfl | (simp; done) | (simp [*]; done) | (simp [bne_nil_]; done), by repeat (first | exact Drawn0.refl _ | apply Drawn0.step)⟩
                · rw [if_neg c8] at H
                  have c8b0 : decide (65 ≤ (bt a0 x7_1)) = false := decide_eq_false c8
                  clear c8
                  by_cases c20 : (bt a0 x7_1) ≥ 48
                  · rw [if_pos c20] at H
                    have c20b0 : decide (48 ≤ (bt a0 x7_1)) = true := decide_eq_true c20
                    clear c20
                    by_cases c21 : (bt a0 x7_1) ≤ 57
                    · rw [if_pos c21] at H
                      have c21b0 : decide ((bt a0 x7_1) ≤ 57) = true := decide_eq_true c21
                      clear c21
                      have H' := Aside0.mk H
                      clear H
                      have p5 : 0 ≤ (x7_1 : Int) := of_decide_eq_true (by first | (with_reducible assumption) | assumption)
                      have q5 : x7_1 < (a0.size : Int) := of_decide_eq_true (by first | (with_reducible assumption) | assumption)
                      have hx5 := bt_at a0 x7_1
                      replace p5 := eq_true p5
                      replace q5 := eq_true q5
                      go_wp2
                      go_roundg k1
                      case measure => have := HK1.out; omega
                      case rel => exact ⟨(wrap64 (x7_1 + 1)), (by first | rfl | (simp; done) | (simp [*]; done)), H', ⟨by have := HK1.out; omega⟩, by repeat (first | exact Drawn0.refl _ | apply Drawn0.step)⟩
                    · rw [if_neg c21] at H
                      have c21b0 : decide ((bt a0 x7_1) ≤ 57) = false := decide_eq_false c21
                      clear c21
                      by_cases c22 : (bt a0 x7_1) = 47
                      · rw [if_pos c22] at H
                        have c22b0 : ((bt a0 x7_1) == 47) = true := beq_iff_eq.mpr c22
                        have c22b1 : ((bt a0 x7_1) != 47) = false := bne_eq_false_iff_eq.mpr c22
                        clear c22
                        have H' := Aside0.mk H
                        clear H
                        have p5 : 0 ≤ (x7_1 : Int) := of_decide_eq_true (by first | (with_reducible assumption) | assumption)
                        have q5 : x7_1 < (a0.size : Int) := of_decide_eq_true (by first | (with_reducible assumption) | assumption)
                        have hx5 := bt_at a0 x7_1
                        replace p5 := eq_true p5
                        replace q5 := eq_true q5
                        go_wp2
                        go_roundg k1
                        case measure => have := HK1.out; omega
                        case rel => exact ⟨(wrap64 (x7_1 + 1)), (by first | rfl | (simp; done) | (simp [*]; done)), H', ⟨by have := HK1.out; omega⟩, by repeat (first | exact Drawn0.refl _ | apply Drawn0.step)⟩
                      · rw [if_neg c22] at H
                        have c22b0 : ((bt a0 x7_1) == 47) = false := beq_eq_false_iff_ne.mpr c22
                        have c22b1 : ((bt a0 x7_1) != 47) = true := bne_iff_ne.mpr c22
                        by_cases c23 : (bt a0 x7_1) = 95
                        · rw [if_pos c23] at H
                          have c23b0 : ((bt a0 x7_1) == 95) = true := beq_iff_eq.mpr c23
                          have c23b1 : ((bt a0 x7_1) != 95) = false := bne_eq_false_iff_eq.mpr c23
                          clear c23
                          have H' := Aside0.mk H
                          clear H
                          have p5 : 0 ≤ (x7_1 : Int) := of_decide_eq_true (by first | (with_reducible assumption) | assumption)
                          have q5 : x7_1 < (a0.size : Int) := of_decide_eq_true (by first | (with_reducible assumption) | assumption)
                          have hx5 := bt_at a0 x7_1
                          replace p5 := eq_true p5
                          replace q5 := eq_true q5
                          go_wp2
                          go_roundg k1
                          case measure => have := HK1.out; omega
                          case rel => exact ⟨(wrap64 (x7_1 + 1)), (by first | rfl | (simp; done) | (simp [*]; done)), H', ⟨by have := HK1.out; omega⟩, by repeat (first | exact Drawn0.refl _ | apply Drawn0.step)⟩
                        · rw [if_neg c23] at H
                          have c23b0 : ((bt a0 x7_1) == 95) = false := beq_eq_false_iff_ne.mpr c23
                          have c23b1 : ((bt a0 x7_1) != 95) = true := bne_iff_ne.mpr c23
                          by_cases c24 : (bt a0 x7_1) = 45
                          · rw [if_pos c24] at H
                            have c24b0 : ((bt a0 x7_1) == 45) = true := beq_iff_eq.mpr c24
                            have c24b1 : ((bt a0 x7_1) != 45) = false := bne_eq_false_iff_eq.mpr c24
                            clear c24
                            have H' := Aside0.mk H
                            clear H
                            have p5 : 0 ≤ (x7_1 : Int) := of_decide_eq_true (by first | (with_reducible assumption) | assumption)
                            have q5 : x7_1 < (a0.size : Int) := of_decide_eq_true (by first | (with_reducible assumption) | assumption)
                            have hx5 := bt_at a0 x7_1
                            replace p5 := eq_true p5
                            replace q5 := eq_true q5
                            go_wp2
                            go_roundg k1
                            case measure => have := HK1.out; omega
                            case rel => exact ⟨(wrap64 (x7_1 + 1)), (by first | rfl | (simp; done) | (simp [*]; done)), H', ⟨by have := HK1.out; omega⟩, by repeat (first | exact Drawn0.refl _ | apply Drawn0.step)⟩
                          · rw [if_neg c24] at H
                            have c24b0 : ((bt a0 x7_1) == 45) = false := beq_eq_false_iff_ne.mpr c24
                            have c24b1 : ((bt a0 x7_1) != 45) = true := bne_iff_ne.mpr c24
                            by_cases c25 : ((bt a0 x7_1) = 43)
                            · rw [if_pos c25] at H
                              have c25b0 : ((bt a0 x7_1) == 43) = true := beq_iff_eq.mpr c25
                              have c25b1 : ((bt a0 x7_1) != 43) = false := bne_eq_false_iff_eq.mpr c25
                              clear c25
                              have H' := Aside0.mk H
                              clear H
                              have p5 : 0 ≤ (x7_1 : Int) := of_decide_eq_true (by first | (with_reducible assumption) | assumption)
                              have q5 : x7_1 < (a0.size : Int) := of_decide_eq_true (by first | (with_reducible assumption) | assumption)
                              have hx5 := bt_at a0 x7_1
                              replace p5 := eq_true p5
                              replace q5 := eq_true q5
                              go_wp2
                              go_roundg k1
                              case measure => have := HK1.out; omega
                              case rel => exact ⟨(wrap64 (x7_1 + 1)), (by first | rfl | (simp; done) | (simp [*]; done)), H', ⟨by have := HK1.out; omega⟩, by repeat (first | exact Drawn0.refl _ | apply Drawn0.step)⟩
                            · rw [if_neg c25] at H
                              have c25b0 : ((bt a0 x7_1) == 43) = false := beq_eq_false_iff_ne.mpr c25
                              have c25b1 : ((bt a0 x7_1) != 43) = true := bne_iff_ne.mpr c25
                              obtain rfl := Option.some.inj H
                              have p5 : 0 ≤ (x7_1 : Int) := of_decide_eq_true (by first | (with_reducible assumption) | assumption)
                              have q5 : x7_1 < (a0.size : Int) := of_decide_eq_true (by first | (with_reducible assumption) | assumption)
                              have hx5 := bt_at a0 x7_1
                              replace p5 := eq_true p5
                              replace q5 := eq_true q5
                              go_wp2
                              go_ret
                              exact ⟨by first | rfl | (simp; done) | (simp [*]; done) | (simp [bne_nil_]; done), by repeat (first | exact Drawn0.refl _ | apply Drawn0.step)⟩
                  · rw [if_neg c20] at H
                    have c20b0 : decide (48 ≤ (bt a0 x7_1)) = false := decide_eq_false c20
                    clear c20
                    by_cases c26 : (bt a0 x7_1) = 47
                    · rw [if_pos c26] at H
                      have c26b0 : ((bt a0 x7_1) == 47) = true := beq_iff_eq.mpr c26
                      have c26b1 : ((bt a0 x7_1) != 47) = false := bne_eq_false_iff_eq.mpr c26
                      clear c26
                      have H' := Aside0.mk H
                      clear H
                      have p5 : 0 ≤ (x7_1 : Int) := of_decide_eq_true (by first | (with_reducible assumption) | assumption)
                      have q5 : x7_1 < (a0.size : Int) := of_decide_eq_true (by first | (with_reducible assumption) | assumption)
                      have hx5 := bt_at a0 x7_1
                      replace p5 := eq_true p5
                      replace q5 := eq_true q5
                      go_wp2
                      go_roundg k1
                      case measure => have := HK1.out; omega
                      case rel => exact ⟨(wrap64 (x7_1 + 1)), (by first | rfl | (simp; done) | (simp [*]; done)), H', ⟨by have := HK1.out; omega⟩, by repeat (first | exact Drawn0.refl _ | apply Drawn0.step)⟩
                    · rw [if_neg c26] at H
                      have c26b0 : ((bt a0 x7_1) == 47) = false := beq_eq_false_iff_ne.mpr c26
                      have c26b1 : ((bt a0 x7_1) != 47) = true := bne_iff_ne.mpr c26
                      by_cases c27 : (bt a0 x7_1) = 95
                      · rw [if_pos c27] at H
                        have c27b0 : ((bt a0 x7_1) == 95) = true := beq_iff_eq.mpr c27
                        have c27b1 : ((bt a0 x7_1) != 95) = false := bne_eq_false_iff_eq.mpr c27
                        clear c27
                        have H' := Aside0.mk H
                        clear H
                        have p5 : 0 ≤ (x7_1 : Int) := of_decide_eq_true (by first | (with_reducible assumption) | assumption)
                        have q5 : x7_1 < (a0.size : Int) := of_decide_eq_true (by first | (with_reducible assumption) | assumption)
                        have hx5 := bt_at a0 x7_1
                        replace p5 := eq_true p5
                        replace q5 := eq_true q5
                        go_wp2
                        go_roundg k1
                        case measure => have := HK1.out; omega
                        case rel => exact ⟨(wrap64 (x7_1 + 1)), (by first | rfl | (simp; done) | (simp [*]; done)), H', ⟨by have := HK1.out; omega⟩, by repeat (first | exact Drawn0.refl _ | apply Drawn0.step)⟩
                      · rw [if_neg c27] at H
                        have c27b0 : ((bt a0 x7_1) == 95) = false := beq_eq_false_iff_ne.mpr c27
                        have c27b1 : ((bt a0 x7_1) != 95) = true := bne_iff_ne.mpr c27
                        by_cases c28 : (bt a0 x7_1) = 45
                        · rw [if_pos c28] at H
                          have c28b0 : ((bt a0 x7_1) == 45) = true := beq_iff_eq.mpr c28
                          have c28b1 : ((bt a0 x7_1) != 45) = false := bne_eq_false_iff_eq.mpr c28
                          clear c28
                          have H' := Aside0.mk H
                          clear H
                          have p5 : 0 ≤ (x7_1 : Int) := of_decide_eq_true (by first | (with_reducible assumption) | assumption)
                          have q5 : x7_1 < (a0.size : Int) := of_decide_eq_true (by first | (with_reducible assumption) | assumption)
                          have hx5 := bt_at a0 x7_1
                          replace p5 := eq_true p5
                          replace q5 := eq_true q5
                          go_wp2
                          go_roundg k1
                          case measure => have := HK1.out; omega
                          case rel => exact ⟨(wrap64 (x7_1 + 1)), (by first | rfl | (simp; done) | (simp [*]; done)), H', ⟨by have := HK1.out; omega⟩, by repeat (first | exact Drawn0.refl _ | apply Drawn0.step)⟩
                        · rw [if_neg c28] at H
                          have c28b0 : ((bt a0 x7_1) == 45) = false := beq_eq_false_iff_ne.mpr c28
                          have c28b1 : ((bt a0 x7_1) != 45) = true := bne_iff_ne.mpr c28
                          by_cases c29 : ((bt a0 x7_1) = 43)
                          · rw [if_pos c29] at H
                            have c29b0 : ((bt a0 x7_1) == 43) = true := beq_iff_eq.mpr c29
                            have c29b1 : ((bt a0 x7_1) != 43) = false := bne_eq_false_iff_eq.mpr c29
                            clear c29
                            have H' := Aside0.mk H
                            clear H
                            have p5 : 0 ≤ (x7_1 : Int) := of_decide_eq_true (by first | (with_reducible assumption) | assumption)
                            have q5 : x7_1 < (a0.size : Int) := of_decide_eq_true (by first | (with_reducible assumption) | assumption)
                            have hx5 := bt_at a0 x7_1
                            replace p5 := eq_true p5
                            replace q5 := eq_true q5
                            go_wp2
                            go_roundg k1
                            case measure => have := HK1.out; omega
                            case rel => exact ⟨(wrap64 (x7_1 + 1)), (by first | rfl | (simp; done) | (simp [*]; done)), H', ⟨by have := HK1.out; omega⟩, by repeat (first | exact Drawn0.refl _ | apply Drawn0.step)⟩
                          · rw [if_neg c29] at H
                            have c29b0 : ((bt a0 x7_1) == 43) = false := beq_eq_false_iff_ne.mpr c29
                            have c29b1 : ((bt a0 x7_1) != 43) = true := bne_iff_ne.mpr c29
                            obtain rfl := Option.some.inj H
                            have p5 : 0 ≤ (x7_1 : Int) := of_decide_eq_true (by first | (with_reducible assumption) | assumption)
                            have q5 : x7_1 < (a0.size : Int) := of_decide_eq_true (by first | (with_reducible assumption) | assumption)
                            have hx5 := bt_at a0 x7_1
                            replace p5 := eq_true p5
                            replace q5 := eq_true q5
                            go_wp2
                            go_ret
                            exact ⟨by first | rfl | (simp; done) | (simp [*]; done) | (simp [bne_nil_]; done), by repeat (first | exact Drawn0.refl _ | apply Drawn0.step)⟩
            · rw [if_neg c6] at H
              have c6b0 : decide (97 ≤ (bt a0 x7_1)) = false := decide_eq_false c6
              clear c6
              by_cases c30 : (bt a0 x7_1) ≥ 65
              · rw [if_pos c30] at H
                have c30b0 : decide (65 ≤ (bt a0 x7_1)) = true := decide_eq_true c30
                clear c30
                by_cases c31 : (bt a0 x7_1) ≤ 90
                · rw [if_pos c31] at H
                  have c31b0 : decide ((bt a0 x7_1) ≤ 90) = true := decide_eq_true c31
                  clear c31
                  have H' := Aside0.mk H
                  clear H
                  have p5 : 0 ≤ (x7_1 : Int) := of_decide_eq_true (by first | (with_reducible assumption) | assumption)
                  have q5 : x7_1 < (a0.size : Int) := of_decide_eq_true (by first | (with_reducible assumption) | assumption)
                  have hx5 := bt_at a0 x7_1
                  replace p5 := eq_true p5
                  replace q5 := eq_true q5
                  go_wp2
                  go_roundg k1
                  case measure => have := HK1.out; omega
                  case rel => exact ⟨(wrap64 (x7_1 + 1)), (by first | rfl | (simp; done) | (simp [*]; done)), H', ⟨by have := HK1.out; omega⟩, by repeat (first | exact Drawn0.refl _ | apply Drawn0.step)⟩
                · rw [if_neg c31] at H
                  have c31b0 : decide ((bt a0 x7_1) ≤ 90) = false := decide_eq_false c31
                  clear c31
                  by_cases c32 : (bt a0 x7_1) ≥ 48
                  · rw [if_pos c32] at H
                    have c32b0 : decide (48 ≤ (bt a0 x7_1)) = true := decide_eq_true c32
                    clear c32
                    by_cases c33 : (bt a0 x7_1) ≤ 57
                    · rw [if_pos c33] at H
                      have c33b0 : decide ((bt a0 x7_1) ≤ 57) = true := decide_eq_true c33
                      clear c33
                      have H' := Aside0.mk H
                      clear H
                      have p5 : 0 ≤ (x7_1 : Int) := of_decide_eq_true (by first | (with_reducible assumption) | assumption)
                      have q5 : x7_1 < (a0.size : Int) := of_decide_eq_true (by first | (with_reducible assumption) | assumption)
                      have hx5 := bt_at a0 x7_1
                      replace p5 := eq_true p5
                      replace q5 := eq_true q5
                      go_wp2
                      go_roundg k1
                      case measure => have := HK1.out; omega
                      case rel => exact ⟨(wrap64 (x7_1 + 1)), (by first | rfl | (simp; done) | (simp [*]; done)), H', ⟨by have := HK1.out; omega⟩, by repeat (first | exact Drawn0.refl _ | apply Drawn0.step)⟩
                    · rw [if_neg c33] at H
                      have c33b0 : decide ((bt a0 x7_1) ≤ 57) = false := decide_eq_false c33
                      clear c33
                      by_cases c34 : (bt a0 x7_1) = 47
                      · rw [if_pos c34] at H
                        have c34b0 : ((bt a0 x7_1) == 47) = true := beq_iff_eq.mpr c34
                        have c34b1 : ((bt a0 x7_1) != 47) = false := bne_eq_false_iff_eq.mpr c34
                        clear c34
                        have H' := Aside0.mk H
                        clear H
                        have p5 : 0 ≤ (x7_1 : Int) := of_decide_eq_true (by first | (with_reducible assumption) | assumption)
                        have q5 : x7_1 < (a0.size : Int) := of_decide_eq_true (by first | (with_reducible assumption) | assumption)
                        have hx5 := bt_at a0 x7_1
                        replace p5 := eq_true p5
                        replace q5 := eq_true q5
                        go_wp2
                        go_roundg k1
                        case measure => have := HK1.out; omega
                        case rel => exact ⟨(wrap64 (x7_1 + 1)), (by first | rfl | (simp; done) | (simp [*]; done)), H', ⟨by have := HK1.out; omega⟩, by repeat (first | exact Drawn0.refl _ | apply Drawn0.step)⟩
                      · rw [if_neg c34] at H
                        have c34b0 : ((bt a0 x7_1) == 47) = false := beq_eq_false_iff_ne.mpr c34
                        have c34b1 : ((bt a0 x7_1) != 47) = true := bne_iff_ne.mpr c34
                        by_cases c35 : (bt a0 x7_1) = 95
                        · rw [if_pos c35] at H
                          have c35b0 : ((bt a0 x7_1) == 95) = true := beq_iff_eq.mpr c35
                          have c35b1 : ((bt a0 x7_1) != 95) = false := bne_eq_false_iff_eq.mpr c35
                          clear c35
                          have H' := Aside0.mk H
                          clear H
                          have p5 : 0 ≤ (x7_1 : Int) := of_decide_eq_true (by first | (with_reducible assumption) | assumption)
                          have q5 : x7_1 < (a0.size : Int) := of_decide_eq_true (by first | (with_reducible assumption) | assumption)
                          have hx5 := bt_at a0 x7_1
                          replace p5 := eq_true p5
                          replace q5 := eq_true q5
                          go_wp2
                          go_roundg k1
                          case measure => have := HK1.out; omega
                          case rel => exact ⟨(wrap64 (x7_1 + 1)), (by first | rfl | (simp; done) | (simp [*]; done)), H', ⟨by have := HK1.out; omega⟩, by repeat (first | exact Drawn0.refl _ | apply Drawn0.step)⟩
                        · rw [if_neg c35] at H
                          have c35b0 : ((bt a0 x7_1) == 95) = false := beq_eq_false_iff_ne.mpr c35
                          have c35b1 : ((bt a0 x7_1) != 95) = true := bne_iff_ne.mpr c35
                          by_cases c36 : (bt a0 x7_1) = 45
                          · rw [if_pos c36] at H
                            have c36b0 : ((bt a0 x7_1) == 45) = true := beq_iff_eq.mpr c36
                            have c36b1 : ((bt a0 x7_1) != 45) = false := bne_eq_false_iff_eq.mpr c36
                            clear c36
                            have H' := Aside0.mk H
                            clear H
                            have p5 : 0 ≤ (x7_1 : Int) := of_decide_eq_true (by first | (with_reducible assumption) | assumption)
                            have q5 : x7_1 < (a0.size : Int) := of_decide_eq_true (by first | (with_reducible assumption) | assumption)
                            have hx5 := bt_at a0 x7_1
                            replace p5 := eq_true p5
                            replace q5 := eq_true q5
                            go_wp2
                            go_roundg k1
                            case measure => have := HK1.out; omega
                            case rel => exact ⟨(wrap64 (x7_1 + 1)), (by first | rfl | (simp; done) | (simp [*]; done)), H', ⟨by have := HK1.out; omega⟩, by repeat (first | exact Drawn0.refl _ | apply Drawn0.step)⟩
                          · rw [if_neg c36] at H
                            have c36b0 : ((bt a0 x7_1) == 45) = false := beq_eq_false_iff_ne.mpr c36
                            have c36b1 : ((bt a0 x7_1) != 45) = true := bne_iff_ne.mpr c36
                            by_cases c37 : ((bt a0 x7_1) = 43)
                            · rw [if_pos c37] at H
                              have c37b0 : ((bt a0 x7_1) == 43) = true := beq_iff_eq.mpr c37
                              have c37b1 : ((bt a0 x7_1) != 43) = false := bne_eq_false_iff_eq.mpr c37
                              clear c37
                              have H' := Aside0.mk H
                              clear H
                              have p5 : 0 ≤ (x7_1 : Int) := of_decide_eq_true (by first | (with_reducible assumption) | assumption)
                              have q5 : x7_1 < (a0.size : Int) := of_decide_eq_true (by first | (with_reducible assumption) | assumption)
                              have hx5 := bt_at a0 x7_1
                              replace p5 := eq_true p5
                              replace q5 := eq_true q5
                              go_wp2
                              go_roundg k1
                              case measure => have := HK1.out; omega
                              case rel => exact ⟨(wrap64 (x7_1 + 1)), (by first | rfl | (simp; done) | (simp [*]; done)), H', ⟨by have := HK1.out; omega⟩, by repeat (first | exact Drawn0.refl _ | apply Drawn0.step)⟩
                            · rw [if_neg c37] at H
                              have c37b0 : ((bt a0 x7_1) == 43) = false := beq_eq_false_iff_ne.mpr c37
                              have c37b1 : ((bt a0 x7_1) != 43) = true := bne_iff_ne.mpr c37
                              obtain rfl := Option.some.inj H
                              have p5 : 0 ≤ (x7_1 : Int) := of_decide_eq_true (by first | (with_reducible assumption) | assumption)
                              have q5 : x7_1 < (a0.size : Int) := of_decide_eq_true (by first | (with_reducible assumption) | assumption)
                              have hx5 := bt_at a0 x7_1
                              replace p5 := eq_true p5
                              replace q5 := eq_true q5
                              go_wp2
                              go_ret
                              exact ⟨by first | rfl | (simp; done) | (simp [*]; done) | (simp [bne_nil_]; done), by repeat (first | exact Drawn0.refl _ | apply Drawn0.step)⟩
                  · rw [if_neg c32] at H
                    have c32b0 : decide (48 ≤ (bt a0 x7_1)) = false := decide_eq_false c32
                    clear c32
                    by_cases c38 : (bt a0 x7_1) = 47
                    · rw [if_pos c38] at H
                      have c38b0 : ((bt a0 x7_1) == 47) = true := beq_iff_eq.mpr c38
                      have c38b1 : ((bt a0 x7_1) != 47) = false := bne_eq_false_iff_eq.mpr c38
                      clear c38
                      have H' := Aside0.mk H
                      clear H
                      have p5 : 0 ≤ (x7_1 : Int) := of_decide_eq_true (by first | (with_reducible assumption) | assumption)
                      have q5 : x7_1 < (a0.size : Int) := of_decide_eq_true (by first | (with_reducible assumption) | assumption)
                      have hx5 := bt_at a0 x7_1
                      replace p5 := eq_true p5
                      replace q5 := eq_true q5
                      go_wp2
                      go_roundg k1
                      case measure => have := HK1.out; omega
                      case rel => exact ⟨(wrap64 (x7_1 + 1)), (by first | rfl | (simp; done) | (simp [*]; done)), H', ⟨by have := HK1.out; omega⟩, by repeat (first | exact Drawn0.refl _ | apply Drawn0.step)⟩
                    · rw [if_neg c38] at H
                      have c38b0 : ((bt a0 x7_1) == 47) = false := beq_eq_false_iff_ne.mpr c38
                      have c38b1 : ((bt a0 x7_1) != 47) = true := bne_iff_ne.mpr c38
                      by_cases c39 : (bt a0 x7_1) = 95
                      · rw [if_pos c39] at H
                        have c39b0 : ((bt a0 x7_1) == 95) = true := beq_iff_eq.mpr c39
                        have c39b1 : ((bt a0 x7_1) != 95) = false := bne_eq_false_iff_eq.mpr c39
                        clear c39
                        have H' := Aside0.mk H
                        clear H
                        have p5 : 0 ≤ (x7_1 : Int) := of_decide_eq_true (by first | (with_reducible assumption) | assumption)
                        have q5 : x7_1 < (a0.size : Int) := of_decide_eq_true (by first | (with_reducible assumption) | assumption)
                        have hx5 := bt_at a0 x7_1
                        replace p5 := eq_true p5
                        replace q5 := eq_true q5
                        go_wp2
                        go_roundg k1
                        case measure => have := HK1.out; omega
                        case rel => exact ⟨(wrap64 (x7_1 + 1)), (by first | rfl | (simp; done) | (simp [*]; done)), H', ⟨by have := HK1.out; omega⟩, by repeat (first | exact Drawn0.refl _ | apply Drawn0.step)⟩
                      · rw [if_neg c39] at H
                        have c39b0 : ((bt a0 x7_1) == 95) = false := beq_eq_false_iff_ne.mpr c39
                        have c39b1 : ((bt a0 x7_1) != 95) = true := bne_iff_ne.mpr c39
                        by_cases c40 : (bt a0 x7_1) = 45
                        · rw [if_pos c40] at H
                          have c40b0 : ((bt a0 x7_1) == 45) = true := beq_iff_eq.mpr c40
                          have c40b1 : ((bt a0 x7_1) != 45) = false := bne_eq_false_iff_eq.mpr c40
                          clear c40
                          have H' := Aside0.mk H
                          clear H
                          have p5 : 0 ≤ (x7_1 : Int) := of_decide_eq_true (by first | (with_reducible assumption) | assumption)
                          have q5 : x7_1 < (a0.size : Int) := of_decide_eq_true (by first | (with_reducible assumption) | assumption)
                          have hx5 := bt_at a0 x7_1
                          replace p5 := eq_true p5
                          replace q5 := eq_true q5
                          go_wp2
                          go_roundg k1
                          case measure => have := HK1.out; omega
                          case rel => exact ⟨(wrap64 (x7_1 + 1)), (by first | rfl | (simp; done) | (simp [*]; done)), H', ⟨by have := HK1.out; omega⟩, by repeat (first | exact Drawn0.refl _ | apply Drawn0.step)⟩
                        · rw [if_neg c40] at H
                          have c40b0 : ((bt a0 x7_1) == 45) = false := beq_eq_false_iff_ne.mpr c40
                          have c40b1 : ((bt a0 x7_1) != 45) = true := bne_iff_ne.mpr c40
                          by_cases c41 : ((bt a0 x7_1) = 43)
                          · rw [if_pos c41] at H
                            have c41b0 : ((bt a0 x7_1) == 43) = true := beq_iff_eq.mpr c41
                            have c41b1 : ((bt a0 x7_1) != 43) = false := bne_eq_false_iff_eq.mpr c41
                            clear c41
                            have H' := Aside0.mk H
                            clear H
                            have p5 : 0 ≤ (x7_1 : Int) := of_decide_eq_true (by first | (with_reducible assumption) | assumption)
                            have q5 : x7_1 < (a0.size : Int) := of_decide_eq_true (by first | (with_reducible assumption) | assumption)
                            have hx5 := bt_at a0 x7_1
                            replace p5 := eq_true p5
                            replace q5 := eq_true q5
                            go_wp2
                            go_roundg k1
                            case measure => have := HK1.out; omega
                            case rel => exact ⟨(wrap64 (x7_1 + 1)), (by first | rfl | (simp; done) | (simp [*]; done)), H', ⟨by have := HK1.out; omega⟩, by repeat (first | exact Drawn0.refl _ | apply Drawn0.step)⟩
                          · rw [if_neg c41] at H
                            have c41b0 : ((bt a0 x7_1) == 43) = false := beq_eq_false_iff_ne.mpr c41
                            have c41b1 : ((bt a0 x7_1) != 43) = true := bne_iff_ne.mpr c41
                            obtain rfl := Option.some.inj H
                            have p5 : 0 ≤ (x7_1 : Int) := of_decide_eq_true (by first | (with_reducible assumption) | assumption)
                            have q5 : x7_1 < (a0.size : Int) := of_decide_eq_true (by first | (with_reducible assumption) | assumption)
                            have hx5 := bt_at a0 x7_1
                            replace p5 := eq_true p5
                            replace q5 := eq_true q5
                            go_wp2
                            go_ret
                            exact ⟨by first | rfl | (simp; done) | (simp [*]; done) | (simp [bne_nil_]; done), by repeat (first | exact Drawn0.refl _ | apply Drawn0.step)⟩
              · rw [if_neg c30] at H
                have c30b0 : decide (65 ≤ (bt a0 x7_1)) = false := decide_eq_false c30
                clear c30
                by_cases c42 : (bt a0 x7_1) ≥ 48
                · rw [if_pos c42] at H
                  have c42b0 : decide (48 ≤ (bt a0 x7_1)) = true := decide_eq_true c42
                  clear c42
                  by_cases c43 : (bt a0 x7_1) ≤ 57
                  · rw [if_pos c43] at H
                    have c43b0 : decide ((bt a0 x7_1) ≤ 57) = true := decide_eq_true c43
                    clear c43
                    have H' := Aside0.mk H
                    clear H
                    have p5 : 0 ≤ (x7_1 : Int) := of_decide_eq_true (by first | (with_reducible assumption) | assumption)
                    have q5 : x7_1 < (a0.size : Int) := of_decide_eq_true (by first | (with_reducible assumption) | assumption)
                    have hx5 := bt_at a0 x7_1
                    replace p5 := eq_true p5
                    replace q5 := eq_true q5
                    go_wp2
                    go_roundg k1
                    case measure => have := HK1.out; omega
                    case rel => exact ⟨(wrap64 (x7_1 + 1)), (by first | rfl | (simp; done) | (simp [*]; done)), H', ⟨by have := HK1.out; omega⟩, by repeat (first | exact Drawn0.refl _ | apply Drawn0.step)⟩
                  · rw [if_neg c43] at H
                    have c43b0 : decide ((bt a0 x7_1) ≤ 57) = false := decide_eq_false c43
                    clear c43
                    by_cases c44 : (bt a0 x7_1) = 47
                    · rw [if_pos c44] at H
                      have c44b0 : ((bt a0 x7_1) == 47) = true := beq_iff_eq.mpr c44
                      have c44b1 : ((bt a0 x7_1) != 47) = false := bne_eq_false_iff_eq.mpr c44
                      clear c44
                      have H' := Aside0.mk H
                      clear H
                      have p5 : 0 ≤ (x7_1 : Int) := of_decide_eq_true (by first | (with_reducible assumption) | assumption)
                      have q5 : x7_1 < (a0.size : Int) := of_decide_eq_true (by first | (with_reducible assumption) | assumption)
                      have hx5 := bt_at a0 x7_1
                      replace p5 := eq_true p5
                      replace q5 := eq_true q5
                      go_wp2
                      go_roundg k1
                      case measure => have := HK1.out; omega
                      case rel => exact ⟨(wrap64 (x7_1 + 1)), (by first | rfl | (simp; done) | (simp [*]; done)), H', ⟨by have := HK1.out; omega⟩, by repeat (first | exact Drawn0.refl _ | apply Drawn0.step)⟩
                    · rw [if_neg c44] at H
                      have c44b0 : ((bt a0 x7_1) == 47) = false := beq_eq_false_iff_ne.mpr c44
                      have c44b1 : ((bt a0 x7_1) != 47) = true := bne_iff_ne.mpr c44
                      by_cases c45 : (bt a0 x7_1) = 95
                      · rw [if_pos c45] at H
                        have c45b0 : ((bt a0 x7_1) == 95) = true := beq_iff_eq.mpr c45
                        have c45b1 : ((bt a0 x7_1) != 95) = false := bne_eq_false_iff_eq.mpr c45
                        clear c45
                        have H' := Aside0.mk H
                        clear H
                        have p5 : 0 ≤ (x7_1 : Int) := of_decide_eq_true (by first | (with_reducible assumption) | assumption)
                        have q5 : x7_1 < (a0.size : Int) := of_decide_eq_true (by first | (with_reducible assumption) | assumption)
                        have hx5 := bt_at a0 x7_1
                        replace p5 := eq_true p5
                        replace q5 := eq_true q5
                        go_wp2
                        go_roundg k1
                        case measure => have := HK1.out; omega
                        case rel => exact ⟨(wrap64 (x7_1 + 1)), (by first | rfl | (simp; done) | (simp [*]; done)), H', ⟨by have := HK1.out; omega⟩, by repeat (first | exact Drawn0.refl _ | apply Drawn0.step)⟩
                      · rw [if_neg c45] at H
                        have c45b0 : ((bt a0 x7_1) == 95) = false := beq_eq_false_iff_ne.mpr c45
                        have c45b1 : ((bt a0 x7_1) != 95) = true := bne_iff_ne.mpr c45
                        by_cases c46 : (bt a0 x7_1) = 45
                        · rw [if_pos c46] at H
                          have c46b0 : ((bt a0 x7_1) == 45) = true := beq_iff_eq.mpr c46
                          have c46b1 : ((bt a0 x7_1) != 45) = false := bne_eq_false_iff_eq.mpr c46
                          clear c46
                          have H' := Aside0.mk H
                          clear H
                          have p5 : 0 ≤ (x7_1 : Int) := of_decide_eq_true (by first | (with_reducible assumption) | assumption)
                          have q5 : x7_1 < (a0.size : Int) := of_decide_eq_true (by first | (with_reducible assumption) | assumption)
                          have hx5 := bt_at a0 x7_1
                          replace p5 := eq_true p5
                          replace q5 := eq_true q5
                          go_wp2
                          go_roundg k1
                          case measure => have := HK1.out; omega
                          case rel => exact ⟨(wrap64 (x7_1 + 1)), (by first | rfl | (simp; done) | (simp [*]; done)), H', ⟨by have := HK1.out; omega⟩, by repeat (first | exact Drawn0.refl _ | apply Drawn0.step)⟩
                        · rw [if_neg c46] at H
                          have c46b0 : ((bt a0 x7_1) == 45) = false := beq_eq_false_iff_ne.mpr c46
                          have c46b1 : ((bt a0 x7_1) != 45) = true := bne_iff_ne.mpr c46
                          by_cases c47 : ((bt a0 x7_1) = 43)
                          · rw [if_pos c47] at H
                            have c47b0 : ((bt a0 x7_1) == 43) = true := beq_iff_eq.mpr c47
                            have c47b1 : ((bt a0 x7_1) != 43) = false := bne_eq_false_iff_eq.mpr c47
                            clear c47
                            have H' := Aside0.mk H
                            clear H
                            have p5 : 0 ≤ (x7_1 : Int) := of_decide_eq_true (by first | (with_reducible assumption) | assumption)
                            have q5 : x7_1 < (a0.size : Int) := of_decide_eq_true (by first | (with_reducible assumption) | assumption)
                            have hx5 := bt_at a0 x7_1
                            replace p5 := eq_true p5
                            replace q5 := eq_true q5
                            go_wp2
                            go_roundg k1
                            case measure => have := HK1.out; omega
                            case rel => exact ⟨(wrap64 (x7_1 + 1)), (by first | rfl | (simp; done) | (simp [*]; done)), H', ⟨by have := HK1.out; omega⟩, by repeat (first | exact Drawn0.refl _ | apply Drawn0.step)⟩
                          · rw [if_neg c47] at H
                            have c47b0 : ((bt a0 x7_1) == 43) = false := beq_eq_false_iff_ne.mpr c47
                            have c47b1 : ((bt a0 x7_1) != 43) = true := bne_iff_ne.mpr c47
                            obtain rfl := Option.some.inj H
                            have p5 : 0 ≤ (x7_1 : Int) := of_decide_eq_true (by first | (with_reducible assumption) | assumption)
                            have q5 : x7_1 < (a0.size : Int) := of_decide_eq_true (by first | (with_reducible assumption) | assumption)
                            have hx5 := bt_at a0 x7_1
                            replace p5 := eq_true p5
                            replace q5 := eq_true q5
                            go_wp2
                            go_ret
                            exact ⟨by first | rfl | (simp; done) | (simp [*]; done) | (simp [bne_nil_]; done), by repeat (first | exact Drawn0.refl _ | apply Drawn0.step)⟩
                · rw [if_neg c42] at H
                  have c42b0 : decide (48 ≤ (bt a0 x7_1)) = false := decide_eq_false c42
                  clear c42
                  by_cases c48 : (bt a0 x7_1) = 47
                  · rw [if_pos c48] at H
                    have c48b0 : ((bt a0 x7_1) == 47) = true := beq_iff_eq.mpr c48
                    have c48b1 : ((bt a0 x7_1) != 47) = false := bne_eq_false_iff_eq.mpr c48
                    clear c48
                    have H' := Aside0.mk H
                    clear H
                    have p5 : 0 ≤ (x7_1 : Int) := of_decide_eq_true (by first | (with_reducible assumption) | assumption)
                    have q5 : x7_1 < (a0.size : Int) := of_decide_eq_true (by first | (with_reducible assumption) | assumption)
                    have hx5 := bt_at a0 x7_1
                    replace p5 := eq_true p5
                    replace q5 := eq_true q5
                    go_wp2
                    go_roundg k1
                    case measure => have := HK1.out; omega
                    case rel => exact ⟨(wrap64 (x7_1 + 1)), (by first | rfl | (simp; done) | (simp [*]; done)), H', ⟨by have := HK1.out; omega⟩, by repeat (first | exact Drawn0.refl _ | apply Drawn0.step)⟩
                  · rw [if_neg c48] at H
                    have c48b0 : ((bt a0 x7_1) == 47) = false := beq_eq_false_iff_ne.mpr c48
                    have c48b1 : ((bt a0 x7_1) != 47) = true := bne_iff_ne.mpr c48
                    by_cases c49 : (bt a0 x7_1) = 95
                    · rw [if_pos c49] at H
                      have c49b0 : ((bt a0 x7_1) == 95) = true := beq_iff_eq.mpr c49
                      have c49b1 : ((bt a0 x7_1) != 95) = false := bne_eq_false_iff_eq.mpr c49
                      clear c49
                      have H' := Aside0.mk H
                      clear H
                      have p5 : 0 ≤ (x7_1 : Int) := of_decide_eq_true (by first | (with_reducible assumption) | assumption)
                      have q5 : x7_1 < (a0.size : Int) := of_decide_eq_true (by first | (with_reducible assumption) | assumption)
                      have hx5 := bt_at a0 x7_1
                      replace p5 := eq_true p5
                      replace q5 := eq_true q5
                      go_wp2
                      go_roundg k1
                      case measure => have := HK1.out; omega
                      case rel => exact ⟨(wrap64 (x7_1 + 1)), (by first | rfl | (simp; done) | (simp [*]; done)), H', ⟨by have := HK1.out; omega⟩, by repeat (first | exact Drawn0.refl _ | apply Drawn0.step)⟩
                    · rw [if_neg c49] at H
                      have c49b0 : ((bt a0 x7_1) == 95) = false := beq_eq_false_iff_ne.mpr c49
                      have c49b1 : ((bt a0 x7_1) != 95) = true := bne_iff_ne.mpr c49
                      by_cases c50 : (bt a0 x7_1) = 45
                      · rw [if_pos c50] at H
                        have c50b0 : ((bt a0 x7_1) == 45) = true := beq_iff_eq.mpr c50
                        have c50b1 : ((bt a0 x7_1) != 45) = false := bne_eq_false_iff_eq.mpr c50
                        clear c50
                        have H' := Aside0.mk H
                        clear H
                        have p5 : 0 ≤ (x7_1 : Int) := of_decide_eq_true (by first | (with_reducible assumption) | assumption)
                        have q5 : x7_1 < (a0.size : Int) := of_decide_eq_true (by first | (with_reducible assumption) | assumption)
                        have hx5 := bt_at a0 x7_1
                        replace p5 := eq_true p5
                        replace q5 := eq_true q5
                        go_wp2
                        go_roundg k1
                        case measure => have := HK1.out; omega
                        case rel => exact ⟨(wrap64 (x7_1 + 1)), (by first | rfl | (simp; done) | (simp [*]; done)), H', ⟨by have := HK1.out; omega⟩, by repeat (first | exact Drawn0.refl _ | apply Drawn0.step)⟩
                      · rw [if_neg c50] at H
                        have c50b0 : ((bt a0 x7_1) == 45) = false := beq_eq_false_iff_ne.mpr c50
                        have c50b1 : ((bt a0 x7_1) != 45) = true := bne_iff_ne.mpr c50
                        by_cases c51 : ((bt a0 x7_1) = 43)
                        · rw [if_pos c51] at H
                          have c51b0 : ((bt a0 x7_1) == 43) = true := beq_iff_eq.mpr c51
                          have c51b1 : ((bt a0 x7_1) != 43) = false := bne_eq_false_iff_eq.mpr c51
                          clear c51
                          have H' := Aside0.mk H
                          clear H
                          have p5 : 0 ≤ (x7_1 : Int) := of_decide_eq_true (by first | (with_reducible assumption) | assumption)
                          have q5 : x7_1 < (a0.size : Int) := of_decide_eq_true (by first | (with_reducible assumption) | assumption)
                          have hx5 := bt_at a0 x7_1
                          replace p5 := eq_true p5
                          replace q5 := eq_true q5
                          go_wp2
                          go_roundg k1
                          case measure => have := HK1.out; omega
                          case rel => exact ⟨(wrap64 (x7_1 + 1)), (by first | rfl | (simp; done) | (simp [*]; done)), H', ⟨by have := HK1.out; omega⟩, by repeat (first | exact Drawn0.refl _ | apply Drawn0.step)⟩
                        · rw [if_neg c51] at H
                          have c51b0 : ((bt a0 x7_1) == 43) = false := beq_eq_false_iff_ne.mpr c51
                          have c51b1 : ((bt a0 x7_1) != 43) = true := bne_iff_ne.mpr c51
                          obtain rfl := Option.some.inj H
                          have p5 : 0 ≤ (x7_1 : Int) := of_decide_eq_true (by first | (with_reducible assumption) | assumption)
                          have q5 : x7_1 < (a0.size : Int) := of_decide_eq_true (by first | (with_reducible assumption) | assumption)
                          have hx5 := bt_at a0 x7_1
                          replace p5 := eq_true p5
                          replace q5 := eq_true q5
                          go_wp2
                          go_ret
                          exact ⟨by first | rfl | (simp; done) | (simp [*]; done) | (simp [bne_nil_]; done), by repeat (first | exact Drawn0.refl _ | apply Drawn0.step)⟩
          · rw [if_neg c4] at H
            exact absurd H (by simp)
        · rw [if_neg c3] at H
          exact absurd H (by simp)
      · rw [if_neg c2] at H
        have c2b0 : decide (x7_1 < (a0.size : Int)) = false := decide_eq_false c2
        clear c2
        by_cases c52 : (a0.size : Int) > 0
        · rw [if_pos c52] at H
          have c52b0 : decide (0 < (a0.size : Int)) = true := decide_eq_true c52
          have c52b1 : decide (0 < a0.size) = true := decide_eq_true (by omega)
          clear c52
          obtain rfl := Option.some.inj H
          go_wp2
          go_ret
          exact ⟨by first | rfl | (simp; done) | (simp [*]; done) | (simp [bne_nil_]; done), by repeat (first | exact Drawn0.refl _ | apply Drawn0.step)⟩
        · rw [if_neg c52] at H
          have c52b0 : decide (0 < (a0.size : Int)) = false := decide_eq_false c52
          have c52b1 : decide (0 < a0.size) = false := decide_eq_false (by omega)
          clear c52
          obtain rfl := Option.some.inj H
          go_wp2
          go_ret
          exact ⟨by first | rfl | (simp; done) | (simp [*]; done) | (simp [bne_nil_]; done), by repeat (first | exact Drawn0.refl _ | apply Drawn0.step)⟩

/-! ### trystref12_seconds: function 36 -/
mutual
def trystref12_seconds.j0 : Nat → ByteArray → Bool → Option (Int)
  | 0, _, _ => none
  | k + 1, x0, x18 => if x18 = true then (some (-1)) else (if 0 ≤ 4 then (if 4 ≤ (x0.size : Int) then ((trystref12_Digits.f k (x0.extract 0 4)).bind fun t299 => (if 4 ≤ 6 then (if 6 ≤ (x0.size : Int) then ((trystref12_Digits.f k (x0.extract 4 6)).bind fun t300 => (if 6 ≤ 8 then (if 8 ≤ (x0.size : Int) then ((trystref12_Digits.f k (x0.extract 6 8)).bind fun t301 => (if 9 ≤ 11 then (if 11 ≤ (x0.size : Int) then ((trystref12_Digits.f k (x0.extract 9 11)).bind fun t302 => (if 11 ≤ 13 then (if 13 ≤ (x0.size : Int) then ((trystref12_Digits.f k (x0.extract 11 13)).bind fun t303 => ((trystref12_Digits.f k (x0.extract 13 x0.size)).bind fun t304 => (if t299 < 0 then (trystref12_seconds.j1 k t299 t300 t301 t302 t303 t304 true) else (if t300 < 0 then (trystref12_seconds.j1 k t299 t300 t301 t302 t303 t304 true) else (if t301 < 0 then (trystref12_seconds.j1 k t299 t300 t301 t302 t303 t304 true) else (if t302 < 0 then (trystref12_seconds.j1 k t299 t300 t301 t302 t303 t304 true) else (if t303 < 0 then (trystref12_seconds.j1 k t299 t300 t301 t302 t303 t304 true) else (if t304 < 0 then (trystref12_seconds.j1 k t299 t300 t301 t302 t303 t304 true) else (if t302 > 23 then (trystref12_seconds.j1 k t299 t300 t301 t302 t303 t304 true) else (if t303 > 59 then (trystref12_seconds.j1 k t299 t300 t301 t302 t303 t304 true) else (trystref12_seconds.j1 k t299 t300 t301 t302 t303 t304 (decide (t304 > 59))))))))))))) else (none)) else (none))) else (none)) else (none))) else (none)) else (none))) else (none)) else (none))) else (none)) else (none))
def trystref12_seconds.j1 : Nat → Int → Int → Int → Int → Int → Int → Bool → Option (Int)
  | 0, _, _, _, _, _, _, _ => none
  | k + 1, x3, x4, x5, x6, x7, x8, x70 => if x70 = true then (some (-1)) else ((trystref01_Day.f k 0 x3 x4 x5).bind fun bt305 => (if bt305.2 = 0 then (some (wrap64 ((wrap64 ((wrap64 ((wrap64 (86400 * bt305.1)) + (wrap64 (3600 * x6)))) + (wrap64 (60 * x7)))) + x8))) else (some (-1))))
end
def trystref12_seconds.f (k : Nat) (a0 : ByteArray) : Option (Int) := if (a0.size : Int) = 15 then (if 8 < (a0.size : Int) then (trystref12_seconds.j0 k a0 ((bt a0 8) != 84)) else (none)) else (trystref12_seconds.j0 k a0 true)
theorem trystref12_seconds.mono_l : ∀ k, (∀ y0 y1, LeO (trystref12_seconds.j0 k y0 y1) (trystref12_seconds.j0 (k + 1) y0 y1)) ∧ (∀ y0 y1 y2 y3 y4 y5 y6, LeO (trystref12_seconds.j1 k y0 y1 y2 y3 y4 y5 y6) (trystref12_seconds.j1 (k + 1) y0 y1 y2 y3 y4 y5 y6))
  | 0 => ⟨fun _ _ r h => by simp [trystref12_seconds.j0] at h, fun _ _ _ _ _ _ _ r h => by simp [trystref12_seconds.j1] at h⟩
  | k + 1 => by
    obtain ⟨ih0, ih1⟩ := trystref12_seconds.mono_l k
    refine ⟨?_, ?_⟩
    · intro y0 y1
      unfold trystref12_seconds.j0
      repeat' first
      | (with_reducible exact ih0 _ _)
      | (with_reducible exact ih1 _ _ _ _ _ _ _)
      | (with_reducible exact trystref01_Day.mono _ _ _ _ _)
      | (with_reducible exact trystref12_Digits.mono _ _)
      | (with_reducible exact LeO.refl _)
      | (with_reducible exact LeO.none _)
      | (with_reducible refine LeO.ite ?_ ?_)
      | (with_reducible refine LeO.bind ?_ (fun _ => ?_))
      | exact ih0 _ _
      | exact ih1 _ _ _ _ _ _ _
      | exact trystref01_Day.mono _ _ _ _ _
      | exact trystref12_Digits.mono _ _
      | exact LeO.none _
      | refine LeO.ite ?_ ?_
      | refine LeO.bind ?_ (fun _ => ?_)
    · intro y0 y1 y2 y3 y4 y5 y6
      unfold trystref12_seconds.j1
      repeat' first
      | (with_reducible exact ih0 _ _)
      | (with_reducible exact ih1 _ _ _ _ _ _ _)
      | (with_reducible exact trystref01_Day.mono _ _ _ _ _)
      | (with_reducible exact trystref12_Digits.mono _ _)
      | (with_reducible exact LeO.refl _)
      | (with_reducible exact LeO.none _)
      | (with_reducible refine LeO.ite ?_ ?_)
      | (with_reducible refine LeO.bind ?_ (fun _ => ?_))
      | exact ih0 _ _
      | exact ih1 _ _ _ _ _ _ _
      | exact trystref01_Day.mono _ _ _ _ _
      | exact trystref12_Digits.mono _ _
      | exact LeO.none _
      | refine LeO.ite ?_ ?_
      | refine LeO.bind ?_ (fun _ => ?_)
theorem trystref12_seconds.mono : ∀ a0 k, LeO (trystref12_seconds.f k a0) (trystref12_seconds.f (k + 1) a0) := by
  intro a0 k
  obtain ⟨ih0, ih1⟩ := trystref12_seconds.mono_l k
  unfold trystref12_seconds.f
  repeat' first
      | (with_reducible exact ih0 _ _)
      | (with_reducible exact ih1 _ _ _ _ _ _ _)
      | (with_reducible exact trystref01_Day.mono _ _ _ _ _)
      | (with_reducible exact trystref12_Digits.mono _ _)
      | (with_reducible exact LeO.refl _)
      | (with_reducible exact LeO.none _)
      | (with_reducible refine LeO.ite ?_ ?_)
      | (with_reducible refine LeO.bind ?_ (fun _ => ?_))
      | exact ih0 _ _
      | exact ih1 _ _ _ _ _ _ _
      | exact trystref01_Day.mono _ _ _ _ _
      | exact trystref12_Digits.mono _ _
      | exact LeO.none _
      | refine LeO.ite ?_ ?_
      | refine LeO.bind ?_ (fun _ => ?_)
set_option maxHeartbeats 8000000 in
set_option maxRecDepth 100000 in
theorem trystref12_seconds.calls (k : Nat) (a0 : ByteArray) (r : Int) (w : World) (h : trystref12_seconds.f k a0 = some r) :
    Calls Tryd.prog 36 #[.string a0] w fun e w' => e = .returned (.int .i64 r) ∧ Below w.heap.size w w' := by
  have hu68 := Tryd.underlying68
  have HB := Aside0.mk (Below.refl w.heap.size w)
  have H : (if (a0.size : Int) = 15 then (if 8 < (a0.size : Int) then (trystref12_seconds.j0 k a0 ((bt a0 8) != 84)) else (none)) else (trystref12_seconds.j0 k a0 true)) = some r := h
  clear h
  have HC2 := Aside0.mk H
  clear H
  go_enter Tryd.func36, Tryd.ntmps36
  go_upto_region 1 with (fail)
  repeat (go_quiet (fail); go_upto_region 1 with (fail))
  go_cut [18] (fun v18 wc => ∃ (kq : Nat) (x18_1 : Bool), v18 = .bool x18_1 ∧ Aside0 (trystref12_seconds.j0 kq a0 x18_1 = some r) ∧ Aside0 (kq ≤ k) ∧ Aside0 (Below w.heap.size w wc))
  case first =>
    have H := HC2.out
    clear HC2
    by_cases c3 : (a0.size : Int) = 15
    · rw [if_pos c3] at H
      have c3b0 : ((a0.size : Int) == 15) = true := beq_iff_eq.mpr c3
      have c3b1 : ((a0.size : Int) != 15) = false := bne_eq_false_iff_eq.mpr c3
      clear c3
      (first | rw [c3b0] | (simp only [i64_w, i32_w]; rw [c3b0]) | skip)
      by_cases c4 : 8 < (a0.size : Int)
      · rw [if_pos c4] at H
        have c4b0 : decide (8 < (a0.size : Int)) = true := decide_eq_true c4
        have c4b1 : decide (8 < a0.size) = true := decide_eq_true (by omega)
        clear c4
        have H' := Aside0.mk H
        clear H
        have p5 : 0 ≤ (8 : Int) := (by omega)
        have q5 : 8 < a0.size := (by have : (8 : Int) < (a0.size : Int) := of_decide_eq_true (by first | (with_reducible assumption) | assumption); omega)
        have hx5 : ∀ h : 8 < a0.size, ((a0[8]'h).toNat : Int) = bt a0 8 := bt_at a0 8
        clear p5
        have qi5 : (8 < (a0.size : Int)) = True := eq_true (of_decide_eq_true (by first | (with_reducible assumption) | assumption))
        replace q5 := eq_true q5
        go_wp2
        repeat (go_quiet (fail); try go_wp2)
        go_meet
        case rel => exact ⟨_, (((bt a0 8) != 84)), (by first | rfl | (simp; done) | (simp [*]; done)), H', ⟨by first | omega | exact Nat.le_refl _⟩, ⟨by repeat (first | (with_reducible first | exact HB.out | apply below_alloc | apply pw_below_drewN | apply below_drew1) | exact HB.out)⟩⟩
      · rw [if_neg c4] at H
        exact absurd H (by simp)
    · rw [if_neg c3] at H
      have c3b0 : ((a0.size : Int) == 15) = false := beq_eq_false_iff_ne.mpr c3
      have c3b1 : ((a0.size : Int) != 15) = true := bne_iff_ne.mpr c3
      (first | rw [c3b0] | (simp only [i64_w, i32_w]; rw [c3b0]) | skip)
      have H' := Aside0.mk H
      clear H
      go_wp2
      repeat (go_quiet (fail); try go_wp2)
      go_meet
      case rel => exact ⟨_, (true), (by first | rfl | (simp; done) | (simp [*]; done)), H', ⟨by first | omega | exact Nat.le_refl _⟩, ⟨by repeat (first | (with_reducible first | exact HB.out | apply below_alloc | apply pw_below_drewN | apply below_drew1) | exact HB.out)⟩⟩
  case rest =>
    clear HC2
    try clear p2
    try clear c3
    try clear c3b0
    try clear c3b1
    try clear c4
    try clear c4b0
    try clear c4b1
    try clear p5
    try clear q5
    try clear hx5
    try clear qi5
    try clear p5
    try clear q5
    obtain ⟨kq, x18_1, rfl, HA, HJ1, HB⟩ := hcut
    cases kq with
    | zero => exact absurd HA.out (by simp [trystref12_seconds.j0])
    | succ kj1 =>
      have H := HA.out
      clear HA
      simp only [trystref12_seconds.j0] at H
      by_cases c6 : x18_1 = true
      · subst c6
        have H1 : (some (-1)) = some r := by rw [if_pos rfl] at H; exact H
        clear H
        have H := H1
        clear H1
        obtain rfl := Option.some.inj H
        go_wp2
        repeat (go_quiet (fail); try go_wp2)
        go_ret
        exact ⟨by first | rfl | (simp [errW_none, errW_some] <;> rfl) | (simp [*, errW_none, errW_some] <;> rfl), by repeat (first | (with_reducible first | exact HB.out | apply below_alloc | apply pw_below_drewN | apply below_drew1) | exact HB.out)⟩
      · replace c6 := Bool.eq_false_iff.mpr c6
        subst c6
        have H1 : (if 0 ≤ 4 then (if 4 ≤ (a0.size : Int) then ((trystref12_Digits.f kj1 (a0.extract 0 4)).bind fun t299 => (if 4 ≤ 6 then (if 6 ≤ (a0.size : Int) then ((trystref12_Digits.f kj1 (a0.extract 4 6)).bind fun t300 => (if 6 ≤ 8 then (if 8 ≤ (a0.size : Int) then ((trystref12_Digits.f kj1 (a0.extract 6 8)).bind fun t301 => (if 9 ≤ 11 then (if 11 ≤ (a0.size : Int) then ((trystref12_Digits.f kj1 (a0.extract 9 11)).bind fun t302 => (if 11 ≤ 13 then (if 13 ≤ (a0.size : Int) then ((trystref12_Digits.f kj1 (a0.extract 11 13)).bind fun t303 => ((trystref12_Digits.f kj1 (a0.extract 13 a0.size)).bind fun t304 => (if t299 < 0 then (trystref12_seconds.j1 kj1 t299 t300 t301 t302 t303 t304 true) else (if t300 < 0 then (trystref12_seconds.j1 kj1 t299 t300 t301 t302 t303 t304 true) else (if t301 < 0 then (trystref12_seconds.j1 kj1 t299 t300 t301 t302 t303 t304 true) else (if t302 < 0 then (trystref12_seconds.j1 kj1 t299 t300 t301 t302 t303 t304 true) else (if t303 < 0 then (trystref12_seconds.j1 kj1 t299 t300 t301 t302 t303 t304 true) else (if t304 < 0 then (trystref12_seconds.j1 kj1 t299 t300 t301 t302 t303 t304 true) else (if t302 > 23 then (trystref12_seconds.j1 kj1 t299 t300 t301 t302 t303 t304 true) else (if t303 > 59 then (trystref12_seconds.j1 kj1 t299 t300 t301 t302 t303 t304 true) else (trystref12_seconds.j1 kj1 t299 t300 t301 t302 t303 t304 (decide (t304 > 59))))))))))))) else (none)) else (none))) else (none)) else (none))) else (none)) else (none))) else (none)) else (none))) else (none)) else (none)) = some r := by rw [if_neg (show ¬ (false = true) by decide)] at H; exact H
        clear H
        have H := H1
        clear H1
        by_cases c7 : 0 ≤ 4
        · rw [if_pos c7] at H
          have c7b0 := eq_true c7
          have c7b1 : decide (0 ≤ 4) = true := decide_eq_true c7
          clear c7
          by_cases c8 : 4 ≤ (a0.size : Int)
          · rw [if_pos c8] at H
            have c8b0 := eq_true c8
            have c8b1 : decide (4 ≤ (a0.size : Int)) = true := decide_eq_true c8
            clear c8
            replace H := Option.bind_eq_some_iff.mp H
            obtain ⟨t299, A90, H⟩ := H
            replace H : (if 4 ≤ 6 then (if 6 ≤ (a0.size : Int) then ((trystref12_Digits.f kj1 (a0.extract 4 6)).bind fun t300 => (if 6 ≤ 8 then (if 8 ≤ (a0.size : Int) then ((trystref12_Digits.f kj1 (a0.extract 6 8)).bind fun t301 => (if 9 ≤ 11 then (if 11 ≤ (a0.size : Int) then ((trystref12_Digits.f kj1 (a0.extract 9 11)).bind fun t302 => (if 11 ≤ 13 then (if 13 ≤ (a0.size : Int) then ((trystref12_Digits.f kj1 (a0.extract 11 13)).bind fun t303 => ((trystref12_Digits.f kj1 (a0.extract 13 a0.size)).bind fun t304 => (if t299 < 0 then (trystref12_seconds.j1 kj1 t299 t300 t301 t302 t303 t304 true) else (if t300 < 0 then (trystref12_seconds.j1 kj1 t299 t300 t301 t302 t303 t304 true) else (if t301 < 0 then (trystref12_seconds.j1 kj1 t299 t300 t301 t302 t303 t304 true) else (if t302 < 0 then (trystref12_seconds.j1 kj1 t299 t300 t301 t302 t303 t304 true) else (if t303 < 0 then (trystref12_seconds.j1 kj1 t299 t300 t301 t302 t303 t304 true) else (if t304 < 0 then (trystref12_seconds.j1 kj1 t299 t300 t301 t302 t303 t304 true) else (if t302 > 23 then (trystref12_seconds.j1 kj1 t299 t300 t301 t302 t303 t304 true) else (if t303 > 59 then (trystref12_seconds.j1 kj1 t299 t300 t301 t302 t303 t304 true) else (trystref12_seconds.j1 kj1 t299 t300 t301 t302 t303 t304 (decide (t304 > 59))))))))))))) else (none)) else (none))) else (none)) else (none))) else (none)) else (none))) else (none)) else (none)) = some r := H
            have A9 := Aside0.mk A90
            clear A90
            by_cases c10 : 4 ≤ 6
            · rw [if_pos c10] at H
              have c10b0 := eq_true c10
              have c10b1 : decide (4 ≤ 6) = true := decide_eq_true c10
              clear c10
              by_cases c11 : 6 ≤ (a0.size : Int)
              · rw [if_pos c11] at H
                have c11b0 := eq_true c11
                have c11b1 : decide (6 ≤ (a0.size : Int)) = true := decide_eq_true c11
                clear c11
                replace H := Option.bind_eq_some_iff.mp H
                obtain ⟨t300, A120, H⟩ := H
                replace H : (if 6 ≤ 8 then (if 8 ≤ (a0.size : Int) then ((trystref12_Digits.f kj1 (a0.extract 6 8)).bind fun t301 => (if 9 ≤ 11 then (if 11 ≤ (a0.size : Int) then ((trystref12_Digits.f kj1 (a0.extract 9 11)).bind fun t302 => (if 11 ≤ 13 then (if 13 ≤ (a0.size : Int) then ((trystref12_Digits.f kj1 (a0.extract 11 13)).bind fun t303 => ((trystref12_Digits.f kj1 (a0.extract 13 a0.size)).bind fun t304 => (if t299 < 0 then (trystref12_seconds.j1 kj1 t299 t300 t301 t302 t303 t304 true) else (if t300 < 0 then (trystref12_seconds.j1 kj1 t299 t300 t301 t302 t303 t304 true) else (if t301 < 0 then (trystref12_seconds.j1 kj1 t299 t300 t301 t302 t303 t304 true) else (if t302 < 0 then (trystref12_seconds.j1 kj1 t299 t300 t301 t302 t303 t304 true) else (if t303 < 0 then (trystref12_seconds.j1 kj1 t299 t300 t301 t302 t303 t304 true) else (if t304 < 0 then (trystref12_seconds.j1 kj1 t299 t300 t301 t302 t303 t304 true) else (if t302 > 23 then (trystref12_seconds.j1 kj1 t299 t300 t301 t302 t303 t304 true) else (if t303 > 59 then (trystref12_seconds.j1 kj1 t299 t300 t301 t302 t303 t304 true) else (trystref12_seconds.j1 kj1 t299 t300 t301 t302 t303 t304 (decide (t304 > 59))))))))))))) else (none)) else (none))) else (none)) else (none))) else (none)) else (none)) = some r := H
                have A12 := Aside0.mk A120
                clear A120
                by_cases c13 : 6 ≤ 8
                · rw [if_pos c13] at H
                  have c13b0 := eq_true c13
                  have c13b1 : decide (6 ≤ 8) = true := decide_eq_true c13
                  clear c13
                  by_cases c14 : 8 ≤ (a0.size : Int)
                  · rw [if_pos c14] at H
                    have c14b0 := eq_true c14
                    have c14b1 : decide (8 ≤ (a0.size : Int)) = true := decide_eq_true c14
                    clear c14
                    replace H := Option.bind_eq_some_iff.mp H
                    obtain ⟨t301, A150, H⟩ := H
                    replace H : (if 9 ≤ 11 then (if 11 ≤ (a0.size : Int) then ((trystref12_Digits.f kj1 (a0.extract 9 11)).bind fun t302 => (if 11 ≤ 13 then (if 13 ≤ (a0.size : Int) then ((trystref12_Digits.f kj1 (a0.extract 11 13)).bind fun t303 => ((trystref12_Digits.f kj1 (a0.extract 13 a0.size)).bind fun t304 => (if t299 < 0 then (trystref12_seconds.j1 kj1 t299 t300 t301 t302 t303 t304 true) else (if t300 < 0 then (trystref12_seconds.j1 kj1 t299 t300 t301 t302 t303 t304 true) else (if t301 < 0 then (trystref12_seconds.j1 kj1 t299 t300 t301 t302 t303 t304 true) else (if t302 < 0 then (trystref12_seconds.j1 kj1 t299 t300 t301 t302 t303 t304 true) else (if t303 < 0 then (trystref12_seconds.j1 kj1 t299 t300 t301 t302 t303 t304 true) else (if t304 < 0 then (trystref12_seconds.j1 kj1 t299 t300 t301 t302 t303 t304 true) else (if t302 > 23 then (trystref12_seconds.j1 kj1 t299 t300 t301 t302 t303 t304 true) else (if t303 > 59 then (trystref12_seconds.j1 kj1 t299 t300 t301 t302 t303 t304 true) else (trystref12_seconds.j1 kj1 t299 t300 t301 t302 t303 t304 (decide (t304 > 59))))))))))))) else (none)) else (none))) else (none)) else (none)) = some r := H
                    have A15 := Aside0.mk A150
                    clear A150
                    by_cases c16 : 9 ≤ 11
                    · rw [if_pos c16] at H
                      have c16b0 := eq_true c16
                      have c16b1 : decide (9 ≤ 11) = true := decide_eq_true c16
                      clear c16
                      by_cases c17 : 11 ≤ (a0.size : Int)
                      · rw [if_pos c17] at H
                        have c17b0 := eq_true c17
                        have c17b1 : decide (11 ≤ (a0.size : Int)) = true := decide_eq_true c17
                        clear c17
                        replace H := Option.bind_eq_some_iff.mp H
                        obtain ⟨t302, A180, H⟩ := H
                        replace H : (if 11 ≤ 13 then (if 13 ≤ (a0.size : Int) then ((trystref12_Digits.f kj1 (a0.extract 11 13)).bind fun t303 => ((trystref12_Digits.f kj1 (a0.extract 13 a0.size)).bind fun t304 => (if t299 < 0 then (trystref12_seconds.j1 kj1 t299 t300 t301 t302 t303 t304 true) else (if t300 < 0 then (trystref12_seconds.j1 kj1 t299 t300 t301 t302 t303 t304 true) else (if t301 < 0 then (trystref12_seconds.j1 kj1 t299 t300 t301 t302 t303 t304 true) else (if t302 < 0 then (trystref12_seconds.j1 kj1 t299 t300 t301 t302 t303 t304 true) else (if t303 < 0 then (trystref12_seconds.j1 kj1 t299 t300 t301 t302 t303 t304 true) else (if t304 < 0 then (trystref12_seconds.j1 kj1 t299 t300 t301 t302 t303 t304 true) else (if t302 > 23 then (trystref12_seconds.j1 kj1 t299 t300 t301 t302 t303 t304 true) else (if t303 > 59 then (trystref12_seconds.j1 kj1 t299 t300 t301 t302 t303 t304 true) else (trystref12_seconds.j1 kj1 t299 t300 t301 t302 t303 t304 (decide (t304 > 59))))))))))))) else (none)) else (none)) = some r := H
                        have A18 := Aside0.mk A180
                        clear A180
                        by_cases c19 : 11 ≤ 13
                        · rw [if_pos c19] at H
                          have c19b0 := eq_true c19
                          have c19b1 : decide (11 ≤ 13) = true := decide_eq_true c19
                          clear c19
                          by_cases c20 : 13 ≤ (a0.size : Int)
                          · rw [if_pos c20] at H
                            have c20b0 := eq_true c20
                            have c20b1 : decide (13 ≤ (a0.size : Int)) = true := decide_eq_true c20
                            clear c20
                            replace H := Option.bind_eq_some_iff.mp H
                            obtain ⟨t303, A210, H⟩ := H
                            replace H : ((trystref12_Digits.f kj1 (a0.extract 13 a0.size)).bind fun t304 => (if t299 < 0 then (trystref12_seconds.j1 kj1 t299 t300 t301 t302 t303 t304 true) else (if t300 < 0 then (trystref12_seconds.j1 kj1 t299 t300 t301 t302 t303 t304 true) else (if t301 < 0 then (trystref12_seconds.j1 kj1 t299 t300 t301 t302 t303 t304 true) else (if t302 < 0 then (trystref12_seconds.j1 kj1 t299 t300 t301 t302 t303 t304 true) else (if t303 < 0 then (trystref12_seconds.j1 kj1 t299 t300 t301 t302 t303 t304 true) else (if t304 < 0 then (trystref12_seconds.j1 kj1 t299 t300 t301 t302 t303 t304 true) else (if t302 > 23 then (trystref12_seconds.j1 kj1 t299 t300 t301 t302 t303 t304 true) else (if t303 > 59 then (trystref12_seconds.j1 kj1 t299 t300 t301 t302 t303 t304 true) else (trystref12_seconds.j1 kj1 t299 t300 t301 t302 t303 t304 (decide (t304 > 59)))))))))))) = some r := H
                            have A21 := Aside0.mk A210
                            clear A210
                            have c22b0 := eq_true (of_decide_eq_true (by first | (with_reducible assumption) | assumption) : 13 ≤ (a0.size : Int))
                            replace H := Option.bind_eq_some_iff.mp H
                            obtain ⟨t304, A230, H⟩ := H
                            replace H : (if t299 < 0 then (trystref12_seconds.j1 kj1 t299 t300 t301 t302 t303 t304 true) else (if t300 < 0 then (trystref12_seconds.j1 kj1 t299 t300 t301 t302 t303 t304 true) else (if t301 < 0 then (trystref12_seconds.j1 kj1 t299 t300 t301 t302 t303 t304 true) else (if t302 < 0 then (trystref12_seconds.j1 kj1 t299 t300 t301 t302 t303 t304 true) else (if t303 < 0 then (trystref12_seconds.j1 kj1 t299 t300 t301 t302 t303 t304 true) else (if t304 < 0 then (trystref12_seconds.j1 kj1 t299 t300 t301 t302 t303 t304 true) else (if t302 > 23 then (trystref12_seconds.j1 kj1 t299 t300 t301 t302 t303 t304 true) else (if t303 > 59 then (trystref12_seconds.j1 kj1 t299 t300 t301 t302 t303 t304 true) else (trystref12_seconds.j1 kj1 t299 t300 t301 t302 t303 t304 (decide (t304 > 59))))))))))) = some r := H
                            have A23 := Aside0.mk A230
                            clear A230
                            have HC24 := Aside0.mk H
                            clear H
                            go_upto_region 5 with (first | (go_at_call 28; (with_reducible refine (trystref12_Digits.calls kj1 (a0.extract 0 4) t299 _ A9.out).mono ?_); rintro e w' ⟨rfl, ⟨nd, rfl⟩⟩; (try first | exact ⟨rfl, _, World.drewN_drewN _ _ _⟩ | exact ⟨rfl, _, Eq.trans (World.drewN_drewN _ _ _) (congrArg (World.drewN _) (Nat.add_assoc _ _ _))⟩)) | (go_at_call 28; (with_reducible refine (trystref12_Digits.calls kj1 (a0.extract 4 6) t300 _ A12.out).mono ?_); rintro e w' ⟨rfl, ⟨nd, rfl⟩⟩; (try first | exact ⟨rfl, _, World.drewN_drewN _ _ _⟩ | exact ⟨rfl, _, Eq.trans (World.drewN_drewN _ _ _) (congrArg (World.drewN _) (Nat.add_assoc _ _ _))⟩)) | (go_at_call 28; (with_reducible refine (trystref12_Digits.calls kj1 (a0.extract 6 8) t301 _ A15.out).mono ?_); rintro e w' ⟨rfl, ⟨nd, rfl⟩⟩; (try first | exact ⟨rfl, _, World.drewN_drewN _ _ _⟩ | exact ⟨rfl, _, Eq.trans (World.drewN_drewN _ _ _) (congrArg (World.drewN _) (Nat.add_assoc _ _ _))⟩)) | (go_at_call 28; (with_reducible refine (trystref12_Digits.calls kj1 (a0.extract 9 11) t302 _ A18.out).mono ?_); rintro e w' ⟨rfl, ⟨nd, rfl⟩⟩; (try first | exact ⟨rfl, _, World.drewN_drewN _ _ _⟩ | exact ⟨rfl, _, Eq.trans (World.drewN_drewN _ _ _) (congrArg (World.drewN _) (Nat.add_assoc _ _ _))⟩)) | (go_at_call 28; (with_reducible refine (trystref12_Digits.calls kj1 (a0.extract 11 13) t303 _ A21.out).mono ?_); rintro e w' ⟨rfl, ⟨nd, rfl⟩⟩; (try first | exact ⟨rfl, _, World.drewN_drewN _ _ _⟩ | exact ⟨rfl, _, Eq.trans (World.drewN_drewN _ _ _) (congrArg (World.drewN _) (Nat.add_assoc _ _ _))⟩)) | (go_at_call 28; (with_reducible refine (trystref12_Digits.calls kj1 (a0.extract 13 a0.size) t304 _ A23.out).mono ?_); rintro e w' ⟨rfl, ⟨nd, rfl⟩⟩; (try first | exact ⟨rfl, _, World.drewN_drewN _ _ _⟩ | exact ⟨rfl, _, Eq.trans (World.drewN_drewN _ _ _) (congrArg (World.drewN _) (Nat.add_assoc _ _ _))⟩)))
                            repeat (go_quiet (first | (go_at_call 28; (with_reducible refine (trystref12_Digits.calls kj1 (a0.extract 0 4) t299 _ A9.out).mono ?_); rintro e w' ⟨rfl, ⟨nd, rfl⟩⟩; (try first | exact ⟨rfl, _, World.drewN_drewN _ _ _⟩ | exact ⟨rfl, _, Eq.trans (World.drewN_drewN _ _ _) (congrArg (World.drewN _) (Nat.add_assoc _ _ _))⟩)) | (go_at_call 28; (with_reducible refine (trystref12_Digits.calls kj1 (a0.extract 4 6) t300 _ A12.out).mono ?_); rintro e w' ⟨rfl, ⟨nd, rfl⟩⟩; (try first | exact ⟨rfl, _, World.drewN_drewN _ _ _⟩ | exact ⟨rfl, _, Eq.trans (World.drewN_drewN _ _ _) (congrArg (World.drewN _) (Nat.add_assoc _ _ _))⟩)) | (go_at_call 28; (with_reducible refine (trystref12_Digits.calls kj1 (a0.extract 6 8) t301 _ A15.out).mono ?_); rintro e w' ⟨rfl, ⟨nd, rfl⟩⟩; (try first | exact ⟨rfl, _, World.drewN_drewN _ _ _⟩ | exact ⟨rfl, _, Eq.trans (World.drewN_drewN _ _ _) (congrArg (World.drewN _) (Nat.add_assoc _ _ _))⟩)) | (go_at_call 28; (with_reducible refine (trystref12_Digits.calls kj1 (a0.extract 9 11) t302 _ A18.out).mono ?_); rintro e w' ⟨rfl, ⟨nd, rfl⟩⟩; (try first | exact ⟨rfl, _, World.drewN_drewN _ _ _⟩ | exact ⟨rfl, _, Eq.trans (World.drewN_drewN _ _ _) (congrArg (World.drewN _) (Nat.add_assoc _ _ _))⟩)) | (go_at_call 28; (with_reducible refine (trystref12_Digits.calls kj1 (a0.extract 11 13) t303 _ A21.out).mono ?_); rintro e w' ⟨rfl, ⟨nd, rfl⟩⟩; (try first | exact ⟨rfl, _, World.drewN_drewN _ _ _⟩ | exact ⟨rfl, _, Eq.trans (World.drewN_drewN _ _ _) (congrArg (World.drewN _) (Nat.add_assoc _ _ _))⟩)) | (go_at_call 28; (with_reducible refine (trystref12_Digits.calls kj1 (a0.extract 13 a0.size) t304 _ A23.out).mono ?_); rintro e w' ⟨rfl, ⟨nd, rfl⟩⟩; (try first | exact ⟨rfl, _, World.drewN_drewN _ _ _⟩ | exact ⟨rfl, _, Eq.trans (World.drewN_drewN _ _ _) (congrArg (World.drewN _) (Nat.add_assoc _ _ _))⟩))); go_upto_region 5 with (first | (go_at_call 28; (with_reducible refine (trystref12_Digits.calls kj1 (a0.extract 0 4) t299 _ A9.out).mono ?_); rintro e w' ⟨rfl, ⟨nd, rfl⟩⟩; (try first | exact ⟨rfl, _, World.drewN_drewN _ _ _⟩ | exact ⟨rfl, _, Eq.trans (World.drewN_drewN _ _ _) (congrArg (World.drewN _) (Nat.add_assoc _ _ _))⟩)) | (go_at_call 28; (with_reducible refine (trystref12_Digits.calls kj1 (a0.extract 4 6) t300 _ A12.out).mono ?_); rintro e w' ⟨rfl, ⟨nd, rfl⟩⟩; (try first | exact ⟨rfl, _, World.drewN_drewN _ _ _⟩ | exact ⟨rfl, _, Eq.trans (World.drewN_drewN _ _ _) (congrArg (World.drewN _) (Nat.add_assoc _ _ _))⟩)) | (go_at_call 28; (with_reducible refine (trystref12_Digits.calls kj1 (a0.extract 6 8) t301 _ A15.out).mono ?_); rintro e w' ⟨rfl, ⟨nd, rfl⟩⟩; (try first | exact ⟨rfl, _, World.drewN_drewN _ _ _⟩ | exact ⟨rfl, _, Eq.trans (World.drewN_drewN _ _ _) (congrArg (World.drewN _) (Nat.add_assoc _ _ _))⟩)) | (go_at_call 28; (with_reducible refine (trystref12_Digits.calls kj1 (a0.extract 9 11) t302 _ A18.out).mono ?_); rintro e w' ⟨rfl, ⟨nd, rfl⟩⟩; (try first | exact ⟨rfl, _, World.drewN_drewN _ _ _⟩ | exact ⟨rfl, _, Eq.trans (World.drewN_drewN _ _ _) (congrArg (World.drewN _) (Nat.add_assoc _ _ _))⟩)) | (go_at_call 28; (with_reducible refine (trystref12_Digits.calls kj1 (a0.extract 11 13) t303 _ A21.out).mono ?_); rintro e w' ⟨rfl, ⟨nd, rfl⟩⟩; (try first | exact ⟨rfl, _, World.drewN_drewN _ _ _⟩ | exact ⟨rfl, _, Eq.trans (World.drewN_drewN _ _ _) (congrArg (World.drewN _) (Nat.add_assoc _ _ _))⟩)) | (go_at_call 28; (with_reducible refine (trystref12_Digits.calls kj1 (a0.extract 13 a0.size) t304 _ A23.out).mono ?_); rintro e w' ⟨rfl, ⟨nd, rfl⟩⟩; (try first | exact ⟨rfl, _, World.drewN_drewN _ _ _⟩ | exact ⟨rfl, _, Eq.trans (World.drewN_drewN _ _ _) (congrArg (World.drewN _) (Nat.add_assoc _ _ _))⟩))))
                            (try simp only [Act.put, List.setIfInBounds_toArray, List.set_cons_zero, List.set_cons_succ])
                            go_cut [70] (fun v70 wc => ∃ (kq : Nat) (x70_23 : Bool), v70 = .bool x70_23 ∧ Aside0 (trystref12_seconds.j1 kq t299 t300 t301 t302 t303 t304 x70_23 = some r) ∧ Aside0 (kq ≤ kj1) ∧ Aside0 (Below w.heap.size w wc))
                            case first =>
                              have H := HC24.out
                              clear HC24
                              by_cases c25 : t299 < 0
                              · rw [if_pos c25] at H
                                have c25b0 : decide (t299 < 0) = true := decide_eq_true c25
                                clear c25
                                (first | rw [c25b0] | (simp only [i64_w, i32_w]; rw [c25b0]) | skip)
                                have H' := Aside0.mk H
                                clear H
                                go_wp2
                                repeat (go_quiet (fail); try go_wp2)
                                go_meet
                                case rel => exact ⟨_, (true), (by first | rfl | (simp; done) | (simp [*]; done)), H', ⟨by have := HJ1.out; first | omega | exact Nat.le_refl _⟩, ⟨by repeat (first | (with_reducible first | exact HB.out | apply below_alloc | apply pw_below_drewN | apply below_drew1) | exact HB.out)⟩⟩
                              · rw [if_neg c25] at H
                                have c25b0 : decide (t299 < 0) = false := decide_eq_false c25
                                clear c25
                                (first | rw [c25b0] | (simp only [i64_w, i32_w]; rw [c25b0]) | skip)
                                by_cases c26 : t300 < 0
                                · rw [if_pos c26] at H
                                  have c26b0 : decide (t300 < 0) = true := decide_eq_true c26
                                  clear c26
                                  have H' := Aside0.mk H
                                  clear H
                                  go_wp2
                                  repeat (go_quiet (fail); try go_wp2)
                                  go_meet
                                  case rel => exact ⟨_, (true), (by first | rfl | (simp; done) | (simp [*]; done)), H', ⟨by have := HJ1.out; first | omega | exact Nat.le_refl _⟩, ⟨by repeat (first | (with_reducible first | exact HB.out | apply below_alloc | apply pw_below_drewN | apply below_drew1) | exact HB.out)⟩⟩
                                · rw [if_neg c26] at H
                                  have c26b0 : decide (t300 < 0) = false := decide_eq_false c26
                                  clear c26
                                  by_cases c27 : t301 < 0
                                  · rw [if_pos c27] at H
                                    have c27b0 : decide (t301 < 0) = true := decide_eq_true c27
                                    clear c27
                                    have H' := Aside0.mk H
                                    clear H
                                    go_wp2
                                    repeat (go_quiet (fail); try go_wp2)
                                    go_meet
                                    case rel => exact ⟨_, (true), (by first | rfl | (simp; done) | (simp [*]; done)), H', ⟨by have := HJ1.out; first | omega | exact Nat.le_refl _⟩, ⟨by repeat (first | (with_reducible first | exact HB.out | apply below_alloc | apply pw_below_drewN | apply below_drew1) | exact HB.out)⟩⟩
                                  · rw [if_neg c27] at H
                                    have c27b0 : decide (t301 < 0) = false := decide_eq_false c27
                                    clear c27
                                    by_cases c28 : t302 < 0
                                    · rw [if_pos c28] at H
                                      have c28b0 : decide (t302 < 0) = true := decide_eq_true c28
                                      clear c28
                                      have H' := Aside0.mk H
                                      clear H
                                      go_wp2
                                      repeat (go_quiet (fail); try go_wp2)
                                      go_meet
                                      case rel => exact ⟨_, (true), (by first | rfl | (simp; done) | (simp [*]; done)), H', ⟨by have := HJ1.out; first | omega | exact Nat.le_refl _⟩, ⟨by repeat (first | (with_reducible first | exact HB.out | apply below_alloc | apply pw_below_drewN | apply below_drew1) | exact HB.out)⟩⟩
                                    · rw [if_neg c28] at H
                                      have c28b0 : decide (t302 < 0) = false := decide_eq_false c28
                                      clear c28
                                      by_cases c29 : t303 < 0
                                      · rw [if_pos c29] at H
                                        have c29b0 : decide (t303 < 0) = true := decide_eq_true c29
                                        clear c29
                                        have H' := Aside0.mk H
                                        clear H
                                        go_wp2
                                        repeat (go_quiet (fail); try go_wp2)
                                        go_meet
                                        case rel => exact ⟨_, (true), (by first | rfl | (simp; done) | (simp [*]; done)), H', ⟨by have := HJ1.out; first | omega | exact Nat.le_refl _⟩, ⟨by repeat (first | (with_reducible first | exact HB.out | apply below_alloc | apply pw_below_drewN | apply below_drew1) | exact HB.out)⟩⟩
                                      · rw [if_neg c29] at H
                                        have c29b0 : decide (t303 < 0) = false := decide_eq_false c29
                                        clear c29
                                        by_cases c30 : t304 < 0
                                        · rw [if_pos c30] at H
                                          have c30b0 : decide (t304 < 0) = true := decide_eq_true c30
                                          clear c30
                                          have H' := Aside0.mk H
                                          clear H
                                          go_wp2
                                          repeat (go_quiet (fail); try go_wp2)
                                          go_meet
                                          case rel => exact ⟨_, (true), (by first | rfl | (simp; done) | (simp [*]; done)), H', ⟨by have := HJ1.out; first | omega | exact Nat.le_refl _⟩, ⟨by repeat (first | (with_reducible first | exact HB.out | apply below_alloc | apply pw_below_drewN | apply below_drew1) | exact HB.out)⟩⟩
                                        · rw [if_neg c30] at H
                                          have c30b0 : decide (t304 < 0) = false := decide_eq_false c30
                                          clear c30
                                          by_cases c31 : t302 > 23
                                          · rw [if_pos c31] at H
                                            have c31b0 : decide (23 < t302) = true := decide_eq_true c31
                                            clear c31
                                            have H' := Aside0.mk H
                                            clear H
                                            go_wp2
                                            repeat (go_quiet (fail); try go_wp2)
                                            go_meet
                                            case rel => exact ⟨_, (true), (by first | rfl | (simp; done) | (simp [*]; done)), H', ⟨by have := HJ1.out; first | omega | exact Nat.le_refl _⟩, ⟨by repeat (first | (with_reducible first | exact HB.out | apply below_alloc | apply pw_below_drewN | apply below_drew1) | exact HB.out)⟩⟩
                                          · rw [if_neg c31] at H
                                            have c31b0 : decide (23 < t302) = false := decide_eq_false c31
                                            clear c31
                                            by_cases c32 : t303 > 59
                                            · rw [if_pos c32] at H
                                              have c32b0 : decide (59 < t303) = true := decide_eq_true c32
                                              clear c32
                                              have H' := Aside0.mk H
                                              clear H
                                              go_wp2
                                              repeat (go_quiet (fail); try go_wp2)
                                              go_meet
                                              case rel => exact ⟨_, (true), (by first | rfl | (simp; done) | (simp [*]; done)), H', ⟨by have := HJ1.out; first | omega | exact Nat.le_refl _⟩, ⟨by repeat (first | (with_reducible first | exact HB.out | apply below_alloc | apply pw_below_drewN | apply below_drew1) | exact HB.out)⟩⟩
                                            · rw [if_neg c32] at H
                                              have c32b0 : decide (59 < t303) = false := decide_eq_false c32
                                              clear c32
                                              have H' := Aside0.mk H
                                              clear H
                                              go_wp2
                                              repeat (go_quiet (fail); try go_wp2)
                                              go_meet
                                              case rel => exact ⟨_, (decide (t304 > 59)), (by first | rfl | (simp; done) | (simp [*]; done)), H', ⟨by have := HJ1.out; first | omega | exact Nat.le_refl _⟩, ⟨by repeat (first | (with_reducible first | exact HB.out | apply below_alloc | apply pw_below_drewN | apply below_drew1) | exact HB.out)⟩⟩
                            case rest =>
                              clear HC24
                              try clear c1
                              try clear c2
                              try clear p2
                              try clear c3
                              try clear c3b0
                              try clear c3b1
                              try clear c4
                              try clear c4b0
                              try clear c4b1
                              try clear p5
                              try clear q5
                              try clear hx5
                              try clear qi5
                              try clear c6
                              try clear c7
                              try clear c7b0
                              try clear c7b1
                              try clear c8
                              try clear c8b0
                              try clear c8b1
                              try clear c10
                              try clear c10b0
                              try clear c10b1
                              try clear c11
                              try clear c11b0
                              try clear c11b1
                              try clear c13
                              try clear c13b0
                              try clear c13b1
                              try clear c14
                              try clear c14b0
                              try clear c14b1
                              try clear c16
                              try clear c16b0
                              try clear c16b1
                              try clear c17
                              try clear c17b0
                              try clear c17b1
                              try clear c19
                              try clear c19b0
                              try clear c19b1
                              try clear c20
                              try clear c20b0
                              try clear c20b1
                              try clear c22
                              try clear c22b0
                              try clear c25
                              try clear c25b0
                              try clear c26
                              try clear c26b0
                              try clear c27
                              try clear c27b0
                              try clear c28
                              try clear c28b0
                              try clear c29
                              try clear c29b0
                              try clear c30
                              try clear c30b0
                              try clear c31
                              try clear c31b0
                              try clear c32
                              try clear c32b0
                              try clear p2
                              try clear p5
                              try clear q5
                              obtain ⟨kq, x70_23, rfl, HA, HJ23, HB⟩ := hcut
                              cases kq with
                              | zero => exact absurd HA.out (by simp [trystref12_seconds.j1])
                              | succ kj23 =>
                                have H := HA.out
                                clear HA
                                simp only [trystref12_seconds.j1] at H
                                by_cases c33 : x70_23 = true
                                · subst c33
                                  have H1 : (some (-1)) = some r := by rw [if_pos rfl] at H; exact H
                                  clear H
                                  have H := H1
                                  clear H1
                                  obtain rfl := Option.some.inj H
                                  go_wp2
                                  repeat (go_quiet (fail); try go_wp2)
                                  go_ret
                                  exact ⟨by first | rfl | (simp [errW_none, errW_some] <;> rfl) | (simp [*, errW_none, errW_some] <;> rfl), by repeat (first | (with_reducible first | exact HB.out | apply below_alloc | apply pw_below_drewN | apply below_drew1) | exact HB.out)⟩
                                · replace c33 := Bool.eq_false_iff.mpr c33
                                  subst c33
                                  have H1 : ((trystref01_Day.f kj23 0 t299 t300 t301).bind fun bt305 => (if bt305.2 = 0 then (some (wrap64 ((wrap64 ((wrap64 ((wrap64 (86400 * bt305.1)) + (wrap64 (3600 * t302)))) + (wrap64 (60 * t303)))) + t304))) else (some (-1)))) = some r := by rw [if_neg (show ¬ (false = true) by decide)] at H; exact H
                                  clear H
                                  have H := H1
                                  clear H1
                                  replace H := Option.bind_eq_some_iff.mp H
                                  obtain ⟨⟨t305, t306⟩, A340, H⟩ := H
                                  replace H : (if t306 = 0 then (some (wrap64 ((wrap64 ((wrap64 ((wrap64 (86400 * t305)) + (wrap64 (3600 * t302)))) + (wrap64 (60 * t303)))) + t304))) else (some (-1))) = some r := H
                                  have A34 := Aside0.mk A340
                                  clear A340
                                  by_cases c35 : t306 = 0
                                  · rw [if_pos c35] at H
                                    have c35b0 : (t306 == 0) = true := beq_iff_eq.mpr c35
                                    have c35b1 : (t306 != 0) = false := bne_eq_false_iff_eq.mpr c35
                                    clear c35
                                    obtain rfl := Option.some.inj H
                                    go_wp2_with (first | (go_at_call 57; (with_reducible refine (trystref01_Day.calls kj23 0 t299 t300 t301 t305 t306 _ A34.out).mono ?_); rintro e w36 ⟨rfl, hb⟩; have n0_ := Aside0.mk (below_step (by repeat (first | (with_reducible first | exact HB.out | apply below_alloc | apply pw_below_drewN | apply below_drew1) | exact HB.out)) hb); clear HB; have HB := n0_; clear n0_; (try clear hb); (try clear hb2); (try clear hk); (try clear hi)))
                                    repeat (go_quiet (first | (go_at_call 57; (with_reducible refine (trystref01_Day.calls kj23 0 t299 t300 t301 t305 t306 _ A34.out).mono ?_); rintro e w36 ⟨rfl, hb⟩; have n0_ := Aside0.mk (below_step (by repeat (first | (with_reducible first | exact HB.out | apply below_alloc | apply pw_below_drewN | apply below_drew1) | exact HB.out)) hb); clear HB; have HB := n0_; clear n0_; (try clear hb); (try clear hb2); (try clear hk); (try clear hi))); try go_wp2_with (first | (go_at_call 57; (with_reducible refine (trystref01_Day.calls kj23 0 t299 t300 t301 t305 t306 _ A34.out).mono ?_); rintro e w36 ⟨rfl, hb⟩; have n0_ := Aside0.mk (below_step (by repeat (first | (with_reducible first | exact HB.out | apply below_alloc | apply pw_below_drewN | apply below_drew1) | exact HB.out)) hb); clear HB; have HB := n0_; clear n0_; (try clear hb); (try clear hb2); (try clear hk); (try clear hi))))
                                    go_ret
                                    exact ⟨by first | rfl | (simp [errW_none, errW_some] <;> rfl) | (simp [*, errW_none, errW_some] <;> rfl), by repeat (first | (with_reducible first | exact HB.out | apply below_alloc | apply pw_below_drewN | apply below_drew1) | exact HB.out)⟩
                                  · rw [if_neg c35] at H
                                    have c35b0 : (t306 == 0) = false := beq_eq_false_iff_ne.mpr c35
                                    have c35b1 : (t306 != 0) = true := bne_iff_ne.mpr c35
                                    obtain rfl := Option.some.inj H
                                    go_wp2_with (first | (go_at_call 57; (with_reducible refine (trystref01_Day.calls kj23 0 t299 t300 t301 t305 t306 _ A34.out).mono ?_); rintro e w37 ⟨rfl, hb⟩; have n0_ := Aside0.mk (below_step (by repeat (first | (with_reducible first | exact HB.out | apply below_alloc | apply pw_below_drewN | apply below_drew1) | exact HB.out)) hb); clear HB; have HB := n0_; clear n0_; (try clear hb); (try clear hb2); (try clear hk); (try clear hi)))
                                    repeat (go_quiet (first | (go_at_call 57; (with_reducible refine (trystref01_Day.calls kj23 0 t299 t300 t301 t305 t306 _ A34.out).mono ?_); rintro e w37 ⟨rfl, hb⟩; have n0_ := Aside0.mk (below_step (by repeat (first | (with_reducible first | exact HB.out | apply below_alloc | apply pw_below_drewN | apply below_drew1) | exact HB.out)) hb); clear HB; have HB := n0_; clear n0_; (try clear hb); (try clear hb2); (try clear hk); (try clear hi))); try go_wp2_with (first | (go_at_call 57; (with_reducible refine (trystref01_Day.calls kj23 0 t299 t300 t301 t305 t306 _ A34.out).mono ?_); rintro e w37 ⟨rfl, hb⟩; have n0_ := Aside0.mk (below_step (by repeat (first | (with_reducible first | exact HB.out | apply below_alloc | apply pw_below_drewN | apply below_drew1) | exact HB.out)) hb); clear HB; have HB := n0_; clear n0_; (try clear hb); (try clear hb2); (try clear hk); (try clear hi))))
                                    go_ret
                                    exact ⟨by first | rfl | (simp [errW_none, errW_some] <;> rfl) | (simp [*, errW_none, errW_some] <;> rfl), by repeat (first | (with_reducible first | exact HB.out | apply below_alloc | apply pw_below_drewN | apply below_drew1) | exact HB.out)⟩
                          · rw [if_neg c20] at H
                            exact absurd H (by simp)
                        · rw [if_neg c19] at H
                          exact absurd H (by simp)
                      · rw [if_neg c17] at H
                        exact absurd H (by simp)
                    · rw [if_neg c16] at H
                      exact absurd H (by simp)
                  · rw [if_neg c14] at H
                    exact absurd H (by simp)
                · rw [if_neg c13] at H
                  exact absurd H (by simp)
              · rw [if_neg c11] at H
                exact absurd H (by simp)
            · rw [if_neg c10] at H
              exact absurd H (by simp)
          · rw [if_neg c8] at H
            exact absurd H (by simp)
        · rw [if_neg c7] at H
          exact absurd H (by simp)

/-! ### trystref12_ParseTime: function 17 -/
mutual
def trystref12_ParseTime.j0 : Nat → ByteArray → ByteArray → Bool → Bool → Int → Int → ByteArray → Option (Int × Int × ByteArray × Int)
  | 0, _, _, _, _, _, _, _ => none
  | k + 1, x0, x1, x2, x12, x309000, x309001, x309002 => if x12 = true then (some (0, 0, (⟨#[]⟩ : ByteArray), 7)) else (if x2 = true then (trystref12_ParseTime.j1 k x0 x1 x2 ((x0.size : Int) == 8) x309000 x309001 x309002) else (trystref12_ParseTime.j1 k x0 x1 x2 false x309000 x309001 x309002))
def trystref12_ParseTime.j1 : Nat → ByteArray → ByteArray → Bool → Bool → Int → Int → ByteArray → Option (Int × Int × ByteArray × Int)
  | 0, _, _, _, _, _, _, _ => none
  | k + 1, x0, x1, x2, x24, x309000, x309001, x309002 => if x24 = true then (if x0.size + 7 ≤ 9223372036854775807 then ((trystref12_seconds.f k (x0 ++ (⟨#[84, 48, 48, 48, 48, 48, 48]⟩ : ByteArray))).bind fun t310 => (if t310 < 0 then (some (0, 0, (⟨#[]⟩ : ByteArray), 7)) else (some (x309000, t310, x309002, 0)))) else (none)) else (if x2 = true then (some (0, 0, (⟨#[]⟩ : ByteArray), 7)) else (if x1.toList = ([] : List UInt8) then (if (x0.size : Int) > 0 then (if 0 ≤ (wrap64 ((x0.size : Int) - 1)) then (if (wrap64 ((x0.size : Int) - 1)) < (x0.size : Int) then (trystref12_ParseTime.j2 k x0 ((bt x0 (wrap64 ((x0.size : Int) - 1))) == 90) x309000 x309001 x309002) else (none)) else (none)) else (trystref12_ParseTime.j2 k x0 false x309000 x309001 x309002)) else ((trystref12_seconds.f k x0).bind fun t313 => (if t313 < 0 then (some (0, 0, (⟨#[]⟩ : ByteArray), 7)) else (some (3, t313, x309002, 0))))))
def trystref12_ParseTime.j2 : Nat → ByteArray → Bool → Int → Int → ByteArray → Option (Int × Int × ByteArray × Int)
  | 0, _, _, _, _, _ => none
  | k + 1, x0, x40, x309000, x309001, x309002 => if x40 = true then (if 0 ≤ (wrap64 ((x0.size : Int) - 1)) then (if (wrap64 ((x0.size : Int) - 1)) ≤ (x0.size : Int) then ((trystref12_seconds.f k (x0.extract 0 ((wrap64 ((x0.size : Int) - 1)) : Int).toNat)).bind fun t311 => (if t311 < 0 then (some (0, 0, (⟨#[]⟩ : ByteArray), 7)) else (some (2, t311, x309002, 0)))) else (none)) else (none)) else ((trystref12_seconds.f k x0).bind fun t312 => (if t312 < 0 then (some (0, 0, (⟨#[]⟩ : ByteArray), 7)) else (some (1, t312, x309002, 0))))
end
def trystref12_ParseTime.f (k : Nat) (a0 : ByteArray) (a1 : ByteArray) (a2 : Bool) : Option (Int × Int × ByteArray × Int) := if a1.toList = ([] : List UInt8) then (trystref12_ParseTime.j0 k a0 a1 a2 false 0 0 a1) else (if a2 = true then (trystref12_ParseTime.j0 k a0 a1 a2 true 0 0 a1) else ((trystref12_ZoneName.f k a1).bind fun t309 => (trystref12_ParseTime.j0 k a0 a1 a2 (!t309) 0 0 a1)))
set_option maxHeartbeats 8000000 in
set_option maxRecDepth 100000 in
theorem trystref12_ParseTime.calls (k : Nat) (a0 : ByteArray) (a1 : ByteArray) (a2 : Bool) (r1 : Int) (r2 : Int) (r3 : ByteArray) (r4 : Int) (w : World) (h : trystref12_ParseTime.f k a0 a1 a2 = some (r1, r2, r3, r4)) :
    Calls Tryd.prog 17 #[.string a0, .string a1, .bool a2] w fun e w' => e = .returned (.tuple #[.agg #[.int .i64 r1, .int .i64 r2, .string r3], .int .i64 r4]) ∧ Below w.heap.size w w' := by
  have hu31 := Tryd.underlying31
  have HB := Aside0.mk (Below.refl w.heap.size w)
  have H : (if a1.toList = ([] : List UInt8) then (trystref12_ParseTime.j0 k a0 a1 a2 false 0 0 a1) else (if a2 = true then (trystref12_ParseTime.j0 k a0 a1 a2 true 0 0 a1) else ((trystref12_ZoneName.f k a1).bind fun t309 => (trystref12_ParseTime.j0 k a0 a1 a2 (!t309) 0 0 a1)))) = some (r1, r2, r3, r4) := h
  clear h
  have HC4 := Aside0.mk H
  clear H
  go_enter Tryd.func17, Tryd.ntmps17
  go_upto_region 3 with (first | ((with_reducible refine gate_dst (N := 6) rfl ?_); (try (refine gate_guard (by rfl) ?_; dsimp only)); refine box_event ?hg (N := 6) ?hd (cs := #[.int .i64 0, .int .i64 0, .string (⟨#[]⟩ : ByteArray)]) (t := 31) ?hr ?_; (case hd => rfl); (case hg => rfl); (case hr => first | (go_simp; done) | (go_simp; rfl)); intro gb307 hg w5 hbox hb; have n0_ := Aside0.mk (below_step (by repeat (first | (with_reducible first | exact HB.out | apply below_alloc | apply pw_below_drewN | apply below_drew1) | exact HB.out)) hb); have n1_ := Aside0.mk (hbox); have n2_ := Aside0.mk ((by rw [hg]; exact (below_size (by repeat (first | (with_reducible first | exact HB.out | apply below_alloc | apply pw_below_drewN | apply below_drew1) | exact HB.out))) : w.heap.size ≤ gb307)); have n3_ := Aside0.mk ((by rw [hg]; exact (below_size (by repeat (first | (with_reducible first | exact HB.out | apply below_alloc | apply pw_below_drewN | apply below_drew1) | exact HB.out))) : w.heap.size ≤ gb307)); clear HB; have HB := n0_; have BK307 := n1_; have GW307 := n2_; have GE307 := n3_; clear n0_ n1_ n2_ n3_; clear hb hbox hg) | ((with_reducible refine gate_dst (N := 8) rfl ?_); (try (refine gate_guard (by rfl) ?_; dsimp only)); refine box_event ?hg (N := 8) ?hd (cs := #[.int .i64 0, .int .i64 0, .string (⟨#[]⟩ : ByteArray)]) (t := 31) ?hr ?_; (case hd => rfl); (case hg => rfl); (case hr => first | (go_simp; done) | (go_simp; rfl)); intro gb308 hg w6 hbox hb; have n0_ := Aside0.mk (blk_below (g := gb307) (o := .cells #[.int .i64 0, .int .i64 0, .string (⟨#[]⟩ : ByteArray)] 31 (0, 0)) (by (with_reducible repeat (first | refine blk_drewN ?_ _ | refine blk_drew ?_ | refine blk_alloc ?_ _)); exact BK307.out) hb); have n1_ := Aside0.mk (below_step (by repeat (first | (with_reducible first | exact HB.out | apply below_alloc | apply pw_below_drewN | apply below_drew1 | refine below_set ?_ GE307.out) | exact HB.out)) hb); have n2_ := Aside0.mk (hbox); have n3_ := Aside0.mk ((by rw [hg]; exact (below_size (by repeat (first | (with_reducible first | exact HB.out | apply below_alloc | apply pw_below_drewN | apply below_drew1 | refine below_set ?_ GE307.out) | exact HB.out))) : w.heap.size ≤ gb308)); have n4_ := Aside0.mk ((by rw [hg]; exact (below_size (by repeat (first | (with_reducible first | exact HB.out | apply below_alloc | apply pw_below_drewN | apply below_drew1 | refine below_set ?_ GE307.out) | exact HB.out))) : w.heap.size ≤ gb308)); have n5_ := Aside0.mk ((by rw [hg]; exact Nat.ne_of_lt (blk_lt (g := gb307) (o := .cells #[.int .i64 0, .int .i64 0, .string (⟨#[]⟩ : ByteArray)] 31 (0, 0)) (by (with_reducible repeat (first | refine blk_drewN ?_ _ | refine blk_drew ?_ | refine blk_alloc ?_ _)); exact BK307.out)) : gb307 ≠ gb308)); have n6_ := Aside0.mk ((by rw [hg]; exact Nat.ne_of_gt (blk_lt (g := gb307) (o := .cells #[.int .i64 0, .int .i64 0, .string (⟨#[]⟩ : ByteArray)] 31 (0, 0)) (by (with_reducible repeat (first | refine blk_drewN ?_ _ | refine blk_drew ?_ | refine blk_alloc ?_ _)); exact BK307.out)) : gb308 ≠ gb307)); clear BK307; clear HB; have BK307 := n0_; have HB := n1_; have BK308 := n2_; have GW308 := n3_; have GE308 := n4_; have NB307_308 := n5_; have NB308_307 := n6_; clear n0_ n1_ n2_ n3_ n4_ n5_ n6_; clear hb hbox hg; have hnb7 := NB308_307.out; have hnc7 := NB307_308.out; have hcz8_0 : w6.cell? ⟨gb308, 0, none⟩ = some (.int .i64 0) := (blk_cell BK308.out 0).trans rfl; have hcz8_1 : w6.cell? ⟨gb308, 1, none⟩ = some (.int .i64 0) := (blk_cell BK308.out 1).trans rfl; have hcz8_2 : w6.cell? ⟨gb308, 2, none⟩ = some (.string (⟨#[]⟩ : ByteArray)) := (blk_cell BK308.out 2).trans rfl; have hfz8_0 := blk_frozen BK308.out 0; have hfz8_1 := blk_frozen BK308.out 1; have hfz8_2 := blk_frozen BK308.out 2))
  (try simp only [Act.put, List.setIfInBounds_toArray, List.set_cons_zero, List.set_cons_succ])
  go_cut [12] (fun v12 wc => ∃ (kq : Nat) (x12_3 : Bool), v12 = .bool x12_3 ∧ Aside0 (trystref12_ParseTime.j0 kq a0 a1 a2 x12_3 0 0 a1 = some (r1, r2, r3, r4)) ∧ Aside0 (kq ≤ k) ∧ Aside0 (wc.heap[gb307]? = some (.cells #[.int .i64 0, .int .i64 0, .string (⟨#[]⟩ : ByteArray)] 31 (0, 0))) ∧ Aside0 (wc.heap[gb308]? = some (.cells #[.int .i64 0, .int .i64 0, .string a1] 31 (0, 0))) ∧ Aside0 (Below w.heap.size w wc))
  case first =>
    have H := HC4.out
    clear HC4
    by_cases c9 : a1.toList = ([] : List UInt8)
    · rw [if_pos c9] at H
      have c9b0 : (a1.toList == ([] : List UInt8)) = true := beq_iff_eq.mpr c9
      have c9b1 : (a1.toList != ([] : List UInt8)) = false := bne_eq_false_iff_eq.mpr c9
      clear c9
      (first | rw [c9b0] | (simp only [i64_w, i32_w]; rw [c9b0]) | skip)
      have H' := Aside0.mk H
      clear H
      go_wp2
      go_meet
      case rel => exact ⟨_, (false), (by first | rfl | (simp; done) | (simp [*]; done)), H', ⟨by first | omega | exact Nat.le_refl _⟩, ⟨by (with_reducible repeat (first | refine blk_drewN ?_ _ | refine blk_drew ?_ | refine blk_alloc ?_ _)); refine blk_far ?_ NB307_308.out _; (with_reducible repeat (first | refine blk_drewN ?_ _ | refine blk_drew ?_ | refine blk_alloc ?_ _)); refine blk_far ?_ NB307_308.out _; (with_reducible repeat (first | refine blk_drewN ?_ _ | refine blk_drew ?_ | refine blk_alloc ?_ _)); refine blk_far ?_ NB307_308.out _; (with_reducible repeat (first | refine blk_drewN ?_ _ | refine blk_drew ?_ | refine blk_alloc ?_ _)); exact BK307.out⟩, ⟨by (with_reducible repeat (first | refine blk_drewN ?_ _ | refine blk_drew ?_ | refine blk_alloc ?_ _)); refine blk_put (cs := #[.int .i64 0, .int .i64 0, .string (⟨#[]⟩ : ByteArray)]) ?_ 2 _ rfl; (with_reducible repeat (first | refine blk_drewN ?_ _ | refine blk_drew ?_ | refine blk_alloc ?_ _)); refine blk_put (cs := #[.int .i64 0, .int .i64 0, .string (⟨#[]⟩ : ByteArray)]) ?_ 1 _ rfl; (with_reducible repeat (first | refine blk_drewN ?_ _ | refine blk_drew ?_ | refine blk_alloc ?_ _)); refine blk_put (cs := #[.int .i64 0, .int .i64 0, .string (⟨#[]⟩ : ByteArray)]) ?_ 0 _ rfl; (with_reducible repeat (first | refine blk_drewN ?_ _ | refine blk_drew ?_ | refine blk_alloc ?_ _)); exact BK308.out⟩, ⟨by repeat (first | (with_reducible first | exact HB.out | apply below_alloc | apply pw_below_drewN | apply below_drew1 | refine below_set ?_ GE307.out | refine below_set ?_ GE308.out) | exact HB.out)⟩⟩
    · rw [if_neg c9] at H
      have c9b0 : (a1.toList == ([] : List UInt8)) = false := beq_eq_false_iff_ne.mpr c9
      have c9b1 : (a1.toList != ([] : List UInt8)) = true := bne_iff_ne.mpr c9
      (first | rw [c9b0] | (simp only [i64_w, i32_w]; rw [c9b0]) | skip)
      by_cases c10 : a2 = true
      · subst c10
        have H1 : (trystref12_ParseTime.j0 k a0 a1 true true 0 0 a1) = some (r1, r2, r3, r4) := by rw [if_pos rfl] at H; exact H
        clear H
        have H := H1
        clear H1
        have H' := Aside0.mk H
        clear H
        go_wp2
        go_meet
        case rel => exact ⟨_, (true), (by first | rfl | (simp; done) | (simp [*]; done)), H', ⟨by first | omega | exact Nat.le_refl _⟩, ⟨by (with_reducible repeat (first | refine blk_drewN ?_ _ | refine blk_drew ?_ | refine blk_alloc ?_ _)); refine blk_far ?_ NB307_308.out _; (with_reducible repeat (first | refine blk_drewN ?_ _ | refine blk_drew ?_ | refine blk_alloc ?_ _)); refine blk_far ?_ NB307_308.out _; (with_reducible repeat (first | refine blk_drewN ?_ _ | refine blk_drew ?_ | refine blk_alloc ?_ _)); refine blk_far ?_ NB307_308.out _; (with_reducible repeat (first | refine blk_drewN ?_ _ | refine blk_drew ?_ | refine blk_alloc ?_ _)); exact BK307.out⟩, ⟨by (with_reducible repeat (first | refine blk_drewN ?_ _ | refine blk_drew ?_ | refine blk_alloc ?_ _)); refine blk_put (cs := #[.int .i64 0, .int .i64 0, .string (⟨#[]⟩ : ByteArray)]) ?_ 2 _ rfl; (with_reducible repeat (first | refine blk_drewN ?_ _ | refine blk_drew ?_ | refine blk_alloc ?_ _)); refine blk_put (cs := #[.int .i64 0, .int .i64 0, .string (⟨#[]⟩ : ByteArray)]) ?_ 1 _ rfl; (with_reducible repeat (first | refine blk_drewN ?_ _ | refine blk_drew ?_ | refine blk_alloc ?_ _)); refine blk_put (cs := #[.int .i64 0, .int .i64 0, .string (⟨#[]⟩ : ByteArray)]) ?_ 0 _ rfl; (with_reducible repeat (first | refine blk_drewN ?_ _ | refine blk_drew ?_ | refine blk_alloc ?_ _)); exact BK308.out⟩, ⟨by repeat (first | (with_reducible first | exact HB.out | apply below_alloc | apply pw_below_drewN | apply below_drew1 | refine below_set ?_ GE307.out | refine below_set ?_ GE308.out) | exact HB.out)⟩⟩
      · replace c10 := Bool.eq_false_iff.mpr c10
        subst c10
        have H1 : ((trystref12_ZoneName.f k a1).bind fun t309 => (trystref12_ParseTime.j0 k a0 a1 false (!t309) 0 0 a1)) = some (r1, r2, r3, r4) := by rw [if_neg (show ¬ (false = true) by decide)] at H; exact H
        clear H
        have H := H1
        clear H1
        replace H := Option.bind_eq_some_iff.mp H
        obtain ⟨t309, A110, H⟩ := H
        replace H : (trystref12_ParseTime.j0 k a0 a1 false (!t309) 0 0 a1) = some (r1, r2, r3, r4) := H
        have A11 := Aside0.mk A110
        clear A110
        have H' := Aside0.mk H
        clear H
        go_wp2_with (first | (go_at_call 35; (with_reducible refine (trystref12_ZoneName.calls k a1 t309 _ A11.out).mono ?_); rintro e w' ⟨rfl, ⟨nd, rfl⟩⟩))
        go_meet
        case rel => exact ⟨_, (!t309), (by first | rfl | (simp; done) | (simp [*]; done)), H', ⟨by first | omega | exact Nat.le_refl _⟩, ⟨by (with_reducible repeat (first | refine blk_drewN ?_ _ | refine blk_drew ?_ | refine blk_alloc ?_ _)); refine blk_far ?_ NB307_308.out _; (with_reducible repeat (first | refine blk_drewN ?_ _ | refine blk_drew ?_ | refine blk_alloc ?_ _)); refine blk_far ?_ NB307_308.out _; (with_reducible repeat (first | refine blk_drewN ?_ _ | refine blk_drew ?_ | refine blk_alloc ?_ _)); refine blk_far ?_ NB307_308.out _; (with_reducible repeat (first | refine blk_drewN ?_ _ | refine blk_drew ?_ | refine blk_alloc ?_ _)); exact BK307.out⟩, ⟨by (with_reducible repeat (first | refine blk_drewN ?_ _ | refine blk_drew ?_ | refine blk_alloc ?_ _)); refine blk_put (cs := #[.int .i64 0, .int .i64 0, .string (⟨#[]⟩ : ByteArray)]) ?_ 2 _ rfl; (with_reducible repeat (first | refine blk_drewN ?_ _ | refine blk_drew ?_ | refine blk_alloc ?_ _)); refine blk_put (cs := #[.int .i64 0, .int .i64 0, .string (⟨#[]⟩ : ByteArray)]) ?_ 1 _ rfl; (with_reducible repeat (first | refine blk_drewN ?_ _ | refine blk_drew ?_ | refine blk_alloc ?_ _)); refine blk_put (cs := #[.int .i64 0, .int .i64 0, .string (⟨#[]⟩ : ByteArray)]) ?_ 0 _ rfl; (with_reducible repeat (first | refine blk_drewN ?_ _ | refine blk_drew ?_ | refine blk_alloc ?_ _)); exact BK308.out⟩, ⟨by repeat (first | (with_reducible first | exact HB.out | apply below_alloc | apply pw_below_drewN | apply below_drew1 | refine below_set ?_ GE307.out | refine below_set ?_ GE308.out) | exact HB.out)⟩⟩
  case rest =>
    clear HC4
    try clear c1
    try clear p2
    try clear c7
    try clear c9
    try clear c9b0
    try clear c9b1
    try clear c10
    try clear hcz8_0
    try clear hcz8_1
    try clear hcz8_2
    try clear hfz8_0
    try clear hfz8_1
    try clear hfz8_2
    obtain ⟨kq, x12_3, rfl, HA, HJ3, BK307, BK308, HB⟩ := hcut
    cases kq with
    | zero => exact absurd HA.out (by simp [trystref12_ParseTime.j0])
    | succ kj3 =>
      have H := HA.out
      clear HA
      simp only [trystref12_ParseTime.j0] at H
      by_cases c12 : x12_3 = true
      · subst c12
        have H1 : (some (0, 0, (⟨#[]⟩ : ByteArray), 7)) = some (r1, r2, r3, r4) := by rw [if_pos rfl] at H; exact H
        clear H
        have H := H1
        clear H1
        simp only [Option.some.injEq, Prod.mk.injEq] at H
        obtain ⟨rfl, rfl, rfl, rfl⟩ := H
        have hnb13 := NB307_308.out
        have hnc13 := NB308_307.out
        have hcz14_0 : wc.cell? ⟨gb307, 0, none⟩ = some (.int .i64 0) := (blk_cell BK307.out 0).trans rfl
        have hcz14_1 : wc.cell? ⟨gb307, 1, none⟩ = some (.int .i64 0) := (blk_cell BK307.out 1).trans rfl
        have hcz14_2 : wc.cell? ⟨gb307, 2, none⟩ = some (.string (⟨#[]⟩ : ByteArray)) := (blk_cell BK307.out 2).trans rfl
        have hfz14_0 := blk_frozen BK307.out 0
        have hfz14_1 := blk_frozen BK307.out 1
        have hfz14_2 := blk_frozen BK307.out 2
        go_wp2
        refine bodyPost_ret (results_ct rfl _ _ gb307 31 #[.int .i64 0, .int .i64 0, .string (⟨#[]⟩ : ByteArray)] (0, 0) _ rfl (by (with_reducible repeat (first | refine blk_drewN ?_ _ | refine blk_drew ?_ | refine blk_alloc ?_ _)); refine blk_put (cs := #[.int .i64 0, .int .i64 0, .string (⟨#[]⟩ : ByteArray)]) ?_ 2 _ rfl; (with_reducible repeat (first | refine blk_drewN ?_ _ | refine blk_drew ?_ | refine blk_alloc ?_ _)); refine blk_put (cs := #[.int .i64 0, .int .i64 0, .string (⟨#[]⟩ : ByteArray)]) ?_ 1 _ rfl; (with_reducible repeat (first | refine blk_drewN ?_ _ | refine blk_drew ?_ | refine blk_alloc ?_ _)); refine blk_put (cs := #[.int .i64 0, .int .i64 0, .string (⟨#[]⟩ : ByteArray)]) ?_ 0 _ rfl; (with_reducible repeat (first | refine blk_drewN ?_ _ | refine blk_drew ?_ | refine blk_alloc ?_ _)); exact BK307.out) Tryd.underlying31 rfl (by kernel_rfl)) rfl ?_
        exact ⟨by first | rfl | (simp [errW_none, errW_some] <;> rfl) | (simp [*, errW_none, errW_some] <;> rfl), by repeat (first | (with_reducible first | exact HB.out | apply below_alloc | apply pw_below_drewN | apply below_drew1 | refine below_set ?_ GE307.out | refine below_set ?_ GE308.out) | exact HB.out)⟩
      · replace c12 := Bool.eq_false_iff.mpr c12
        subst c12
        have H1 : (if a2 = true then (trystref12_ParseTime.j1 kj3 a0 a1 a2 ((a0.size : Int) == 8) 0 0 a1) else (trystref12_ParseTime.j1 kj3 a0 a1 a2 false 0 0 a1)) = some (r1, r2, r3, r4) := by rw [if_neg (show ¬ (false = true) by decide)] at H; exact H
        clear H
        have H := H1
        clear H1
        have HC15 := Aside0.mk H
        clear H
        go_upto_region 5 with (fail)
        go_cut [24] (fun v24 wc => ∃ (kq : Nat) (x24_14 : Bool), v24 = .bool x24_14 ∧ Aside0 (trystref12_ParseTime.j1 kq a0 a1 a2 x24_14 0 0 a1 = some (r1, r2, r3, r4)) ∧ Aside0 (kq ≤ kj3) ∧ Aside0 (wc.heap[gb307]? = some (.cells #[.int .i64 0, .int .i64 0, .string (⟨#[]⟩ : ByteArray)] 31 (0, 0))) ∧ Aside0 (wc.heap[gb308]? = some (.cells #[.int .i64 0, .int .i64 0, .string a1] 31 (0, 0))) ∧ Aside0 (Below w.heap.size w wc))
        case first =>
          have H := HC15.out
          clear HC15
          by_cases c16 : a2 = true
          · subst c16
            have H1 : (trystref12_ParseTime.j1 kj3 a0 a1 true ((a0.size : Int) == 8) 0 0 a1) = some (r1, r2, r3, r4) := by rw [if_pos rfl] at H; exact H
            clear H
            have H := H1
            clear H1
            have H' := Aside0.mk H
            clear H
            go_wp2
            go_meet
            case rel => exact ⟨_, (((a0.size : Int) == 8)), (by first | rfl | (simp; done) | (simp [*]; done)), H', ⟨by have := HJ3.out; first | omega | exact Nat.le_refl _⟩, ⟨by (with_reducible repeat (first | refine blk_drewN ?_ _ | refine blk_drew ?_ | refine blk_alloc ?_ _)); exact BK307.out⟩, ⟨by (with_reducible repeat (first | refine blk_drewN ?_ _ | refine blk_drew ?_ | refine blk_alloc ?_ _)); exact BK308.out⟩, ⟨by repeat (first | (with_reducible first | exact HB.out | apply below_alloc | apply pw_below_drewN | apply below_drew1 | refine below_set ?_ GE307.out | refine below_set ?_ GE308.out) | exact HB.out)⟩⟩
          · replace c16 := Bool.eq_false_iff.mpr c16
            subst c16
            have H1 : (trystref12_ParseTime.j1 kj3 a0 a1 false false 0 0 a1) = some (r1, r2, r3, r4) := by rw [if_neg (show ¬ (false = true) by decide)] at H; exact H
            clear H
            have H := H1
            clear H1
            have H' := Aside0.mk H
            clear H
            go_wp2
            go_meet
            case rel => exact ⟨_, (false), (by first | rfl | (simp; done) | (simp [*]; done)), H', ⟨by have := HJ3.out; first | omega | exact Nat.le_refl _⟩, ⟨by (with_reducible repeat (first | refine blk_drewN ?_ _ | refine blk_drew ?_ | refine blk_alloc ?_ _)); exact BK307.out⟩, ⟨by (with_reducible repeat (first | refine blk_drewN ?_ _ | refine blk_drew ?_ | refine blk_alloc ?_ _)); exact BK308.out⟩, ⟨by repeat (first | (with_reducible first | exact HB.out | apply below_alloc | apply pw_below_drewN | apply below_drew1 | refine below_set ?_ GE307.out | refine below_set ?_ GE308.out) | exact HB.out)⟩⟩
        case rest =>
          clear HC15
          try clear c1
          try clear p2
          try clear c7
          try clear c9
          try clear c9b0
          try clear c9b1
          try clear c10
          try clear c12
          try clear c13
          try clear c16
          try clear hcz14_0
          try clear hcz14_1
          try clear hcz14_2
          try clear hcz8_0
          try clear hcz8_1
          try clear hcz8_2
          try clear hfz14_0
          try clear hfz14_1
          try clear hfz14_2
          try clear hfz8_0
          try clear hfz8_1
          try clear hfz8_2
          try clear p2
          obtain ⟨kq, x24_14, rfl, HA, HJ14, BK307, BK308, HB⟩ := hcut
          cases kq with
          | zero => exact absurd HA.out (by simp [trystref12_ParseTime.j1])
          | succ kj14 =>
            have H := HA.out
            clear HA
            simp only [trystref12_ParseTime.j1] at H
            by_cases c17 : x24_14 = true
            · subst c17
              have H1 : (if a0.size + 7 ≤ 9223372036854775807 then ((trystref12_seconds.f kj14 (a0 ++ (⟨#[84, 48, 48, 48, 48, 48, 48]⟩ : ByteArray))).bind fun t310 => (if t310 < 0 then (some (0, 0, (⟨#[]⟩ : ByteArray), 7)) else (some (0, t310, a1, 0)))) else (none)) = some (r1, r2, r3, r4) := by rw [if_pos rfl] at H; exact H
              clear H
              have H := H1
              clear H1
              by_cases c18 : a0.size + 7 ≤ 9223372036854775807
              · rw [if_pos c18] at H
                have c18b0 := eq_true c18
                have c18b1 : decide (a0.size + 7 ≤ 9223372036854775807) = true := decide_eq_true c18
                try have c18b2 : (9223372036854775807 < a0.size + 7) = False := eq_false (Nat.not_lt.2 c18)
                try (have c18b3 := c18b2; simp only [ByteArray.size_append, bs1_] at c18b3)
                replace H := Option.bind_eq_some_iff.mp H
                obtain ⟨t310, A190, H⟩ := H
                replace H : (if t310 < 0 then (some (0, 0, (⟨#[]⟩ : ByteArray), 7)) else (some (0, t310, a1, 0))) = some (r1, r2, r3, r4) := H
                have A19 := Aside0.mk A190
                clear A190
                by_cases c20 : t310 < 0
                · rw [if_pos c20] at H
                  have c20b0 : decide (t310 < 0) = true := decide_eq_true c20
                  clear c20
                  simp only [Option.some.injEq, Prod.mk.injEq] at H
                  obtain ⟨rfl, rfl, rfl, rfl⟩ := H
                  go_wp2_with (first | ((with_reducible refine gate_callee (f := 36) rfl ?_); refine goesL_ (some 59) rfl rfl Tryd.func36 (by kernel_rfl) rfl #[.string (a0 ++ (⟨#[84, 48, 48, 48, 48, 48, 48]⟩ : ByteArray))] rfl (by (try simp only [List.map_toArray, List.map_cons, List.map_nil]); first | done | rfl | (simp only [List.length_drop, List.length_take]; rfl)) ?_; (with_reducible refine (trystref12_seconds.calls kj14 (a0 ++ (⟨#[84, 48, 48, 48, 48, 48, 48]⟩ : ByteArray)) t310 _ A19.out).mono ?_); rintro e w21 ⟨rfl, hb⟩; refine ⟨_, rfl, ?_⟩; have n0_ := Aside0.mk (blk_below (g := gb307) (o := .cells #[.int .i64 0, .int .i64 0, .string (⟨#[]⟩ : ByteArray)] 31 (0, 0)) (by (with_reducible repeat (first | refine blk_drewN ?_ _ | refine blk_drew ?_ | refine blk_alloc ?_ _)); exact BK307.out) hb); have n1_ := Aside0.mk (blk_below (g := gb308) (o := .cells #[.int .i64 0, .int .i64 0, .string a1] 31 (0, 0)) (by (with_reducible repeat (first | refine blk_drewN ?_ _ | refine blk_drew ?_ | refine blk_alloc ?_ _)); exact BK308.out) hb); have n2_ := Aside0.mk (below_step (by repeat (first | (with_reducible first | exact HB.out | apply below_alloc | apply pw_below_drewN | apply below_drew1 | refine below_set ?_ GE307.out | refine below_set ?_ GE308.out) | exact HB.out)) hb); clear BK307; clear BK308; clear HB; have BK307 := n0_; have BK308 := n1_; have HB := n2_; clear n0_ n1_ n2_; (try clear hb); (try clear hb2); (try clear hk); (try clear hi); have hnb22 := NB308_307.out; have hnc22 := NB307_308.out; have hcz23_0 : w21.cell? ⟨gb308, 0, none⟩ = some (.int .i64 0) := (blk_cell BK308.out 0).trans rfl; have hcz23_1 : w21.cell? ⟨gb308, 1, none⟩ = some (.int .i64 0) := (blk_cell BK308.out 1).trans rfl; have hcz23_2 : w21.cell? ⟨gb308, 2, none⟩ = some (.string a1) := (blk_cell BK308.out 2).trans rfl; have hfz23_0 := blk_frozen BK308.out 0; have hfz23_1 := blk_frozen BK308.out 1; have hfz23_2 := blk_frozen BK308.out 2; have hcz24_0 : w21.cell? ⟨gb307, 0, none⟩ = some (.int .i64 0) := (blk_cell BK307.out 0).trans rfl; have hcz24_1 : w21.cell? ⟨gb307, 1, none⟩ = some (.int .i64 0) := (blk_cell BK307.out 1).trans rfl; have hcz24_2 : w21.cell? ⟨gb307, 2, none⟩ = some (.string (⟨#[]⟩ : ByteArray)) := (blk_cell BK307.out 2).trans rfl; have hfz24_0 := blk_frozen BK307.out 0; have hfz24_1 := blk_frozen BK307.out 1; have hfz24_2 := blk_frozen BK307.out 2))
                  refine bodyPost_ret (results_ct rfl _ _ gb307 31 #[.int .i64 0, .int .i64 0, .string (⟨#[]⟩ : ByteArray)] (0, 0) _ rfl (by (with_reducible repeat (first | refine blk_drewN ?_ _ | refine blk_drew ?_ | refine blk_alloc ?_ _)); refine blk_put (cs := #[.int .i64 0, .int .i64 0, .string (⟨#[]⟩ : ByteArray)]) ?_ 2 _ rfl; (with_reducible repeat (first | refine blk_drewN ?_ _ | refine blk_drew ?_ | refine blk_alloc ?_ _)); refine blk_put (cs := #[.int .i64 0, .int .i64 0, .string (⟨#[]⟩ : ByteArray)]) ?_ 1 _ rfl; (with_reducible repeat (first | refine blk_drewN ?_ _ | refine blk_drew ?_ | refine blk_alloc ?_ _)); refine blk_put (cs := #[.int .i64 0, .int .i64 0, .string (⟨#[]⟩ : ByteArray)]) ?_ 0 _ rfl; (with_reducible repeat (first | refine blk_drewN ?_ _ | refine blk_drew ?_ | refine blk_alloc ?_ _)); refine blk_far ?_ NB307_308.out _; (with_reducible repeat (first | refine blk_drewN ?_ _ | refine blk_drew ?_ | refine blk_alloc ?_ _)); exact BK307.out) Tryd.underlying31 rfl (by kernel_rfl)) rfl ?_
                  exact ⟨by first | rfl | (simp [errW_none, errW_some] <;> rfl) | (simp [*, errW_none, errW_some] <;> rfl), by repeat (first | (with_reducible first | exact HB.out | apply below_alloc | apply pw_below_drewN | apply below_drew1 | refine below_set ?_ GE307.out | refine below_set ?_ GE308.out) | exact HB.out)⟩
                · rw [if_neg c20] at H
                  have c20b0 : decide (t310 < 0) = false := decide_eq_false c20
                  clear c20
                  simp only [Option.some.injEq, Prod.mk.injEq] at H
                  obtain ⟨rfl, rfl, rfl, rfl⟩ := H
                  go_wp2_with (first | ((with_reducible refine gate_callee (f := 36) rfl ?_); refine goesL_ (some 59) rfl rfl Tryd.func36 (by kernel_rfl) rfl #[.string (a0 ++ (⟨#[84, 48, 48, 48, 48, 48, 48]⟩ : ByteArray))] rfl (by (try simp only [List.map_toArray, List.map_cons, List.map_nil]); first | done | rfl | (simp only [List.length_drop, List.length_take]; rfl)) ?_; (with_reducible refine (trystref12_seconds.calls kj14 (a0 ++ (⟨#[84, 48, 48, 48, 48, 48, 48]⟩ : ByteArray)) t310 _ A19.out).mono ?_); rintro e w25 ⟨rfl, hb⟩; refine ⟨_, rfl, ?_⟩; have n0_ := Aside0.mk (blk_below (g := gb307) (o := .cells #[.int .i64 0, .int .i64 0, .string (⟨#[]⟩ : ByteArray)] 31 (0, 0)) (by (with_reducible repeat (first | refine blk_drewN ?_ _ | refine blk_drew ?_ | refine blk_alloc ?_ _)); exact BK307.out) hb); have n1_ := Aside0.mk (blk_below (g := gb308) (o := .cells #[.int .i64 0, .int .i64 0, .string a1] 31 (0, 0)) (by (with_reducible repeat (first | refine blk_drewN ?_ _ | refine blk_drew ?_ | refine blk_alloc ?_ _)); exact BK308.out) hb); have n2_ := Aside0.mk (below_step (by repeat (first | (with_reducible first | exact HB.out | apply below_alloc | apply pw_below_drewN | apply below_drew1 | refine below_set ?_ GE307.out | refine below_set ?_ GE308.out) | exact HB.out)) hb); clear BK307; clear BK308; clear HB; have BK307 := n0_; have BK308 := n1_; have HB := n2_; clear n0_ n1_ n2_; (try clear hb); (try clear hb2); (try clear hk); (try clear hi); have hnb26 := NB308_307.out; have hnc26 := NB307_308.out; have hcz27_0 : w25.cell? ⟨gb308, 0, none⟩ = some (.int .i64 0) := (blk_cell BK308.out 0).trans rfl; have hcz27_1 : w25.cell? ⟨gb308, 1, none⟩ = some (.int .i64 0) := (blk_cell BK308.out 1).trans rfl; have hcz27_2 : w25.cell? ⟨gb308, 2, none⟩ = some (.string a1) := (blk_cell BK308.out 2).trans rfl; have hfz27_0 := blk_frozen BK308.out 0; have hfz27_1 := blk_frozen BK308.out 1; have hfz27_2 := blk_frozen BK308.out 2; have hcz28_0 : w25.cell? ⟨gb307, 0, none⟩ = some (.int .i64 0) := (blk_cell BK307.out 0).trans rfl; have hcz28_1 : w25.cell? ⟨gb307, 1, none⟩ = some (.int .i64 0) := (blk_cell BK307.out 1).trans rfl; have hcz28_2 : w25.cell? ⟨gb307, 2, none⟩ = some (.string (⟨#[]⟩ : ByteArray)) := (blk_cell BK307.out 2).trans rfl; have hfz28_0 := blk_frozen BK307.out 0; have hfz28_1 := blk_frozen BK307.out 1; have hfz28_2 := blk_frozen BK307.out 2))
                  refine bodyPost_ret (results_ct rfl _ _ gb307 31 #[.int .i64 0, .int .i64 t310, .string a1] (0, 0) _ rfl (by (with_reducible repeat (first | refine blk_drewN ?_ _ | refine blk_drew ?_ | refine blk_alloc ?_ _)); refine blk_put (cs := #[.int .i64 0, .int .i64 t310, .string (⟨#[]⟩ : ByteArray)]) ?_ 2 _ rfl; (with_reducible repeat (first | refine blk_drewN ?_ _ | refine blk_drew ?_ | refine blk_alloc ?_ _)); refine blk_put (cs := #[.int .i64 0, .int .i64 0, .string (⟨#[]⟩ : ByteArray)]) ?_ 1 _ rfl; (with_reducible repeat (first | refine blk_drewN ?_ _ | refine blk_drew ?_ | refine blk_alloc ?_ _)); refine blk_put (cs := #[.int .i64 0, .int .i64 0, .string (⟨#[]⟩ : ByteArray)]) ?_ 0 _ rfl; (with_reducible repeat (first | refine blk_drewN ?_ _ | refine blk_drew ?_ | refine blk_alloc ?_ _)); refine blk_far ?_ NB307_308.out _; (with_reducible repeat (first | refine blk_drewN ?_ _ | refine blk_drew ?_ | refine blk_alloc ?_ _)); exact BK307.out) Tryd.underlying31 rfl (by kernel_rfl)) rfl ?_
                  exact ⟨by first | rfl | (simp [errW_none, errW_some] <;> rfl) | (simp [*, errW_none, errW_some] <;> rfl), by repeat (first | (with_reducible first | exact HB.out | apply below_alloc | apply pw_below_drewN | apply below_drew1 | refine below_set ?_ GE307.out | refine below_set ?_ GE308.out) | exact HB.out)⟩
              · rw [if_neg c18] at H
                exact absurd H (by simp)
            · replace c17 := Bool.eq_false_iff.mpr c17
              subst c17
              have H1 : (if a2 = true then (some (0, 0, (⟨#[]⟩ : ByteArray), 7)) else (if a1.toList = ([] : List UInt8) then (if (a0.size : Int) > 0 then (if 0 ≤ (wrap64 ((a0.size : Int) - 1)) then (if (wrap64 ((a0.size : Int) - 1)) < (a0.size : Int) then (trystref12_ParseTime.j2 kj14 a0 ((bt a0 (wrap64 ((a0.size : Int) - 1))) == 90) 0 0 a1) else (none)) else (none)) else (trystref12_ParseTime.j2 kj14 a0 false 0 0 a1)) else ((trystref12_seconds.f kj14 a0).bind fun t313 => (if t313 < 0 then (some (0, 0, (⟨#[]⟩ : ByteArray), 7)) else (some (3, t313, a1, 0)))))) = some (r1, r2, r3, r4) := by rw [if_neg (show ¬ (false = true) by decide)] at H; exact H
              clear H
              have H := H1
              clear H1
              by_cases c29 : a2 = true
              · subst c29
                have H1 : (some (0, 0, (⟨#[]⟩ : ByteArray), 7)) = some (r1, r2, r3, r4) := by rw [if_pos rfl] at H; exact H
                clear H
                have H := H1
                clear H1
                simp only [Option.some.injEq, Prod.mk.injEq] at H
                obtain ⟨rfl, rfl, rfl, rfl⟩ := H
                have hnb30 := NB307_308.out
                have hnc30 := NB308_307.out
                have hcz31_0 : wc.cell? ⟨gb307, 0, none⟩ = some (.int .i64 0) := (blk_cell BK307.out 0).trans rfl
                have hcz31_1 : wc.cell? ⟨gb307, 1, none⟩ = some (.int .i64 0) := (blk_cell BK307.out 1).trans rfl
                have hcz31_2 : wc.cell? ⟨gb307, 2, none⟩ = some (.string (⟨#[]⟩ : ByteArray)) := (blk_cell BK307.out 2).trans rfl
                have hfz31_0 := blk_frozen BK307.out 0
                have hfz31_1 := blk_frozen BK307.out 1
                have hfz31_2 := blk_frozen BK307.out 2
                go_wp2
                refine bodyPost_ret (results_ct rfl _ _ gb307 31 #[.int .i64 0, .int .i64 0, .string (⟨#[]⟩ : ByteArray)] (0, 0) _ rfl (by (with_reducible repeat (first | refine blk_drewN ?_ _ | refine blk_drew ?_ | refine blk_alloc ?_ _)); refine blk_put (cs := #[.int .i64 0, .int .i64 0, .string (⟨#[]⟩ : ByteArray)]) ?_ 2 _ rfl; (with_reducible repeat (first | refine blk_drewN ?_ _ | refine blk_drew ?_ | refine blk_alloc ?_ _)); refine blk_put (cs := #[.int .i64 0, .int .i64 0, .string (⟨#[]⟩ : ByteArray)]) ?_ 1 _ rfl; (with_reducible repeat (first | refine blk_drewN ?_ _ | refine blk_drew ?_ | refine blk_alloc ?_ _)); refine blk_put (cs := #[.int .i64 0, .int .i64 0, .string (⟨#[]⟩ : ByteArray)]) ?_ 0 _ rfl; (with_reducible repeat (first | refine blk_drewN ?_ _ | refine blk_drew ?_ | refine blk_alloc ?_ _)); exact BK307.out) Tryd.underlying31 rfl (by kernel_rfl)) rfl ?_
                exact ⟨by first | rfl | (simp [errW_none, errW_some] <;> rfl) | (simp [*, errW_none, errW_some] <;> rfl), by repeat (first | (with_reducible first | exact HB.out | apply below_alloc | apply pw_below_drewN | apply below_drew1 | refine below_set ?_ GE307.out | refine below_set ?_ GE308.out) | exact HB.out)⟩
              · replace c29 := Bool.eq_false_iff.mpr c29
                subst c29
                have H1 : (if a1.toList = ([] : List UInt8) then (if (a0.size : Int) > 0 then (if 0 ≤ (wrap64 ((a0.size : Int) - 1)) then (if (wrap64 ((a0.size : Int) - 1)) < (a0.size : Int) then (trystref12_ParseTime.j2 kj14 a0 ((bt a0 (wrap64 ((a0.size : Int) - 1))) == 90) 0 0 a1) else (none)) else (none)) else (trystref12_ParseTime.j2 kj14 a0 false 0 0 a1)) else ((trystref12_seconds.f kj14 a0).bind fun t313 => (if t313 < 0 then (some (0, 0, (⟨#[]⟩ : ByteArray), 7)) else (some (3, t313, a1, 0))))) = some (r1, r2, r3, r4) := by rw [if_neg (show ¬ (false = true) by decide)] at H; exact H
                clear H
                have H := H1
                clear H1
                by_cases c32 : a1.toList = ([] : List UInt8)
                · rw [if_pos c32] at H
                  have c32b0 : (a1.toList == ([] : List UInt8)) = true := beq_iff_eq.mpr c32
                  have c32b1 : (a1.toList != ([] : List UInt8)) = false := bne_eq_false_iff_eq.mpr c32
                  clear c32
                  have HC33 := Aside0.mk H
                  clear H
                  go_upto_region 11 with (fail)
                  go_cut [40] (fun v40 wc => ∃ (kq : Nat) (x40_32 : Bool), v40 = .bool x40_32 ∧ Aside0 (trystref12_ParseTime.j2 kq a0 x40_32 0 0 a1 = some (r1, r2, r3, r4)) ∧ Aside0 (kq ≤ kj14) ∧ Aside0 (wc.heap[gb307]? = some (.cells #[.int .i64 0, .int .i64 0, .string (⟨#[]⟩ : ByteArray)] 31 (0, 0))) ∧ Aside0 (wc.heap[gb308]? = some (.cells #[.int .i64 0, .int .i64 0, .string a1] 31 (0, 0))) ∧ Aside0 (Below w.heap.size w wc))
                  case first =>
                    have H := HC33.out
                    clear HC33
                    by_cases c34 : (a0.size : Int) > 0
                    · rw [if_pos c34] at H
                      have c34b0 : decide (0 < (a0.size : Int)) = true := decide_eq_true c34
                      have c34b1 : decide (0 < a0.size) = true := decide_eq_true (by omega)
                      clear c34
                      (first | rw [c34b0] | (simp only [i64_w, i32_w]; rw [c34b0]) | skip)
                      obtain ⟨ji35, hji35⟩ : ∃ j_ : Int, (wrap64 ((a0.size : Int) - 1)) = j_ := ⟨_, rfl⟩
                      replace H : (if 0 ≤ (ji35) then (if (ji35) < (a0.size : Int) then (trystref12_ParseTime.j2 kj14 a0 ((bt a0 (ji35)) == 90) 0 0 a1) else (none)) else (none)) = some (r1, r2, r3, r4) := by first | (rw [hji35] at H; exact H) | (simp only [hji35] at H ⊢; exact H)
                      have hji35w : (IntKind.i64.wrap ((a0.size : Int) - 1)) = ji35 := (i64_w _).trans hji35
                      by_cases c36 : 0 ≤ (ji35)
                      · rw [if_pos c36] at H
                        have c36b0 : decide (0 ≤ (ji35)) = true := decide_eq_true c36
                        clear c36
                        by_cases c37 : (ji35) < (a0.size : Int)
                        · rw [if_pos c37] at H
                          have c37b0 : decide ((ji35) < (a0.size : Int)) = true := decide_eq_true c37
                          clear c37
                          have H' := Aside0.mk H
                          clear H
                          have p38 : 0 ≤ ((ji35) : Int) := of_decide_eq_true (by first | (with_reducible assumption) | assumption)
                          have q38 : (ji35) < (a0.size : Int) := of_decide_eq_true (by first | (with_reducible assumption) | assumption)
                          have hx38 := bt_at a0 (ji35)
                          replace p38 := eq_true p38
                          replace q38 := eq_true q38
                          go_wp2
                          go_meet
                          case rel => exact ⟨_, (((bt a0 (ji35)) == 90)), (by first | rfl | (simp; done) | (simp only [← hji35] <;> (first | rfl | simp)) | (simp [*]; done)), H', ⟨by have := HJ3.out; have := HJ14.out; first | omega | exact Nat.le_refl _⟩, ⟨by (with_reducible repeat (first | refine blk_drewN ?_ _ | refine blk_drew ?_ | refine blk_alloc ?_ _)); exact BK307.out⟩, ⟨by (with_reducible repeat (first | refine blk_drewN ?_ _ | refine blk_drew ?_ | refine blk_alloc ?_ _)); exact BK308.out⟩, ⟨by repeat (first | (with_reducible first | exact HB.out | apply below_alloc | apply pw_below_drewN | apply below_drew1 | refine below_set ?_ GE307.out | refine below_set ?_ GE308.out) | exact HB.out)⟩⟩
                        · rw [if_neg c37] at H
                          exact absurd H (by simp)
                      · rw [if_neg c36] at H
                        exact absurd H (by simp)
                    · rw [if_neg c34] at H
                      have c34b0 : decide (0 < (a0.size : Int)) = false := decide_eq_false c34
                      have c34b1 : decide (0 < a0.size) = false := decide_eq_false (by omega)
                      clear c34
                      (first | rw [c34b0] | (simp only [i64_w, i32_w]; rw [c34b0]) | skip)
                      have H' := Aside0.mk H
                      clear H
                      go_wp2
                      go_meet
                      case rel => exact ⟨_, (false), (by first | rfl | (simp; done) | (simp [*]; done)), H', ⟨by have := HJ3.out; have := HJ14.out; first | omega | exact Nat.le_refl _⟩, ⟨by (with_reducible repeat (first | refine blk_drewN ?_ _ | refine blk_drew ?_ | refine blk_alloc ?_ _)); exact BK307.out⟩, ⟨by (with_reducible repeat (first | refine blk_drewN ?_ _ | refine blk_drew ?_ | refine blk_alloc ?_ _)); exact BK308.out⟩, ⟨by repeat (first | (with_reducible first | exact HB.out | apply below_alloc | apply pw_below_drewN | apply below_drew1 | refine below_set ?_ GE307.out | refine below_set ?_ GE308.out) | exact HB.out)⟩⟩
                  case rest =>
                    clear HC33
                    try clear c1
                    try clear c2
                    try clear p2
                    try clear c3
                    try clear p3
                    try clear q3
                    try clear hx3
                    try clear p6
                    try clear c7
                    try clear c9
                    try clear c9b0
                    try clear c9b1
                    try clear c10
                    try clear c12
                    try clear c13
                    try clear c16
                    try clear c17
                    try clear c18
                    try clear c18b0
                    try clear c18b1
                    try clear c18b2
                    try clear c20
                    try clear c20b0
                    try clear c22
                    try clear c26
                    try clear c29
                    try clear c30
                    try clear c32
                    try clear c32b0
                    try clear c32b1
                    try clear c34
                    try clear c34b0
                    try clear c34b1
                    try clear c36
                    try clear c36b0
                    try clear c37
                    try clear c37b0
                    try clear p38
                    try clear q38
                    try clear hx38
                    try clear hcz14_0
                    try clear hcz14_1
                    try clear hcz14_2
                    try clear hcz23_0
                    try clear hcz23_1
                    try clear hcz23_2
                    try clear hcz24_0
                    try clear hcz24_1
                    try clear hcz24_2
                    try clear hcz27_0
                    try clear hcz27_1
                    try clear hcz27_2
                    try clear hcz28_0
                    try clear hcz28_1
                    try clear hcz28_2
                    try clear hcz31_0
                    try clear hcz31_1
                    try clear hcz31_2
                    try clear hcz8_0
                    try clear hcz8_1
                    try clear hcz8_2
                    try clear hfz14_0
                    try clear hfz14_1
                    try clear hfz14_2
                    try clear hfz23_0
                    try clear hfz23_1
                    try clear hfz23_2
                    try clear hfz24_0
                    try clear hfz24_1
                    try clear hfz24_2
                    try clear hfz27_0
                    try clear hfz27_1
                    try clear hfz27_2
                    try clear hfz28_0
                    try clear hfz28_1
                    try clear hfz28_2
                    try clear hfz31_0
                    try clear hfz31_1
                    try clear hfz31_2
                    try clear hfz8_0
                    try clear hfz8_1
                    try clear hfz8_2
                    try clear p2
                    try clear p38
                    try clear q38
                    obtain ⟨kq, x40_32, rfl, HA, HJ32, BK307, BK308, HB⟩ := hcut
                    cases kq with
                    | zero => exact absurd HA.out (by simp [trystref12_ParseTime.j2])
                    | succ kj32 =>
                      have H := HA.out
                      clear HA
                      simp only [trystref12_ParseTime.j2] at H
                      by_cases c39 : x40_32 = true
                      · subst c39
                        have H1 : (if 0 ≤ (wrap64 ((a0.size : Int) - 1)) then (if (wrap64 ((a0.size : Int) - 1)) ≤ (a0.size : Int) then ((trystref12_seconds.f kj32 (a0.extract 0 ((wrap64 ((a0.size : Int) - 1)) : Int).toNat)).bind fun t311 => (if t311 < 0 then (some (0, 0, (⟨#[]⟩ : ByteArray), 7)) else (some (2, t311, a1, 0)))) else (none)) else (none)) = some (r1, r2, r3, r4) := by rw [if_pos rfl] at H; exact H
                        clear H
                        have H := H1
                        clear H1
                        obtain ⟨ji40, hji40⟩ : ∃ j_ : Int, (wrap64 ((a0.size : Int) - 1)) = j_ := ⟨_, rfl⟩
                        replace H : (if 0 ≤ (ji40) then (if (ji40) ≤ (a0.size : Int) then ((trystref12_seconds.f kj32 (a0.extract 0 ((ji40) : Int).toNat)).bind fun t311 => (if t311 < 0 then (some (0, 0, (⟨#[]⟩ : ByteArray), 7)) else (some (2, t311, a1, 0)))) else (none)) else (none)) = some (r1, r2, r3, r4) := by first | (rw [hji40] at H; exact H) | (simp only [hji40] at H ⊢; exact H)
                        have hji40w : (IntKind.i64.wrap ((a0.size : Int) - 1)) = ji40 := (i64_w _).trans hji40
                        by_cases c41 : 0 ≤ (ji40)
                        · rw [if_pos c41] at H
                          have c41b0 := eq_true c41
                          have c41b1 : decide (0 ≤ (ji40)) = true := decide_eq_true c41
                          clear c41
                          by_cases c42 : (ji40) ≤ (a0.size : Int)
                          · rw [if_pos c42] at H
                            have c42b0 := eq_true c42
                            have c42b1 : decide ((ji40) ≤ (a0.size : Int)) = true := decide_eq_true c42
                            clear c42
                            replace H := Option.bind_eq_some_iff.mp H
                            obtain ⟨t311, A430, H⟩ := H
                            replace H : (if t311 < 0 then (some (0, 0, (⟨#[]⟩ : ByteArray), 7)) else (some (2, t311, a1, 0))) = some (r1, r2, r3, r4) := H
                            have A43 := Aside0.mk A430
                            clear A430
                            by_cases c44 : t311 < 0
                            · rw [if_pos c44] at H
                              have c44b0 : decide (t311 < 0) = true := decide_eq_true c44
                              clear c44
                              simp only [Option.some.injEq, Prod.mk.injEq] at H
                              obtain ⟨rfl, rfl, rfl, rfl⟩ := H
                              have hnb45 := NB308_307.out
                              have hnc45 := NB307_308.out
                              have hcz46_0 : wc.cell? ⟨gb308, 0, none⟩ = some (.int .i64 0) := (blk_cell BK308.out 0).trans rfl
                              have hcz46_1 : wc.cell? ⟨gb308, 1, none⟩ = some (.int .i64 0) := (blk_cell BK308.out 1).trans rfl
                              have hcz46_2 : wc.cell? ⟨gb308, 2, none⟩ = some (.string a1) := (blk_cell BK308.out 2).trans rfl
                              have hfz46_0 := blk_frozen BK308.out 0
                              have hfz46_1 := blk_frozen BK308.out 1
                              have hfz46_2 := blk_frozen BK308.out 2
                              go_wp2_with (first | ((with_reducible refine gate_callee (f := 36) rfl ?_); refine goesL_ (some 59) rfl rfl Tryd.func36 (by kernel_rfl) rfl #[.string (a0.extract 0 ((ji40) : Int).toNat)] rfl (by (try simp only [List.map_toArray, List.map_cons, List.map_nil]); first | done | (simp only [hji40]; rfl) | rfl | (simp only [List.length_drop, List.length_take]; rfl)) ?_; (with_reducible refine (trystref12_seconds.calls kj32 (a0.extract 0 ((ji40) : Int).toNat) t311 _ A43.out).mono ?_); rintro e w47 ⟨rfl, hb⟩; refine ⟨_, rfl, ?_⟩; have n0_ := Aside0.mk (blk_below (g := gb307) (o := .cells #[.int .i64 0, .int .i64 0, .string (⟨#[]⟩ : ByteArray)] 31 (0, 0)) (by (with_reducible repeat (first | refine blk_drewN ?_ _ | refine blk_drew ?_ | refine blk_alloc ?_ _)); refine blk_far ?_ NB307_308.out _; (with_reducible repeat (first | refine blk_drewN ?_ _ | refine blk_drew ?_ | refine blk_alloc ?_ _)); exact BK307.out) hb); have n1_ := Aside0.mk (blk_below (g := gb308) (o := .cells #[.int .i64 2, .int .i64 0, .string a1] 31 (0, 0)) (by (with_reducible repeat (first | refine blk_drewN ?_ _ | refine blk_drew ?_ | refine blk_alloc ?_ _)); refine blk_put (cs := #[.int .i64 0, .int .i64 0, .string a1]) ?_ 0 _ rfl; (with_reducible repeat (first | refine blk_drewN ?_ _ | refine blk_drew ?_ | refine blk_alloc ?_ _)); exact BK308.out) hb); have n2_ := Aside0.mk (below_step (by repeat (first | (with_reducible first | exact HB.out | apply below_alloc | apply pw_below_drewN | apply below_drew1 | refine below_set ?_ GE307.out | refine below_set ?_ GE308.out) | exact HB.out)) hb); clear BK307; clear BK308; clear HB; have BK307 := n0_; have BK308 := n1_; have HB := n2_; clear n0_ n1_ n2_; (try clear hb); (try clear hb2); (try clear hk); (try clear hi); have hcz48_0 : w47.cell? ⟨gb308, 0, none⟩ = some (.int .i64 2) := (blk_cell BK308.out 0).trans rfl; have hcz48_1 : w47.cell? ⟨gb308, 1, none⟩ = some (.int .i64 0) := (blk_cell BK308.out 1).trans rfl; have hcz48_2 : w47.cell? ⟨gb308, 2, none⟩ = some (.string a1) := (blk_cell BK308.out 2).trans rfl; have hfz48_0 := blk_frozen BK308.out 0; have hfz48_1 := blk_frozen BK308.out 1; have hfz48_2 := blk_frozen BK308.out 2; have hcz49_0 : w47.cell? ⟨gb307, 0, none⟩ = some (.int .i64 0) := (blk_cell BK307.out 0).trans rfl; have hcz49_1 : w47.cell? ⟨gb307, 1, none⟩ = some (.int .i64 0) := (blk_cell BK307.out 1).trans rfl; have hcz49_2 : w47.cell? ⟨gb307, 2, none⟩ = some (.string (⟨#[]⟩ : ByteArray)) := (blk_cell BK307.out 2).trans rfl; have hfz49_0 := blk_frozen BK307.out 0; have hfz49_1 := blk_frozen BK307.out 1; have hfz49_2 := blk_frozen BK307.out 2))
                              refine bodyPost_ret (results_ct rfl _ _ gb307 31 #[.int .i64 0, .int .i64 0, .string (⟨#[]⟩ : ByteArray)] (0, 0) _ rfl (by (with_reducible repeat (first | refine blk_drewN ?_ _ | refine blk_drew ?_ | refine blk_alloc ?_ _)); refine blk_put (cs := #[.int .i64 0, .int .i64 0, .string (⟨#[]⟩ : ByteArray)]) ?_ 2 _ rfl; (with_reducible repeat (first | refine blk_drewN ?_ _ | refine blk_drew ?_ | refine blk_alloc ?_ _)); refine blk_put (cs := #[.int .i64 0, .int .i64 0, .string (⟨#[]⟩ : ByteArray)]) ?_ 1 _ rfl; (with_reducible repeat (first | refine blk_drewN ?_ _ | refine blk_drew ?_ | refine blk_alloc ?_ _)); refine blk_put (cs := #[.int .i64 0, .int .i64 0, .string (⟨#[]⟩ : ByteArray)]) ?_ 0 _ rfl; (with_reducible repeat (first | refine blk_drewN ?_ _ | refine blk_drew ?_ | refine blk_alloc ?_ _)); refine blk_far ?_ NB307_308.out _; (with_reducible repeat (first | refine blk_drewN ?_ _ | refine blk_drew ?_ | refine blk_alloc ?_ _)); exact BK307.out) Tryd.underlying31 rfl (by kernel_rfl)) rfl ?_
                              exact ⟨by first | rfl | (simp [errW_none, errW_some] <;> rfl) | (simp only [← hji40]; first | rfl | (simp [errW_none, errW_some] <;> rfl)) | (simp [*, errW_none, errW_some] <;> rfl), by repeat (first | (with_reducible first | exact HB.out | apply below_alloc | apply pw_below_drewN | apply below_drew1 | refine below_set ?_ GE307.out | refine below_set ?_ GE308.out) | exact HB.out)⟩
                            · rw [if_neg c44] at H
                              have c44b0 : decide (t311 < 0) = false := decide_eq_false c44
                              clear c44
                              simp only [Option.some.injEq, Prod.mk.injEq] at H
                              obtain ⟨rfl, rfl, rfl, rfl⟩ := H
                              have hnb50 := NB308_307.out
                              have hnc50 := NB307_308.out
                              have hcz51_0 : wc.cell? ⟨gb308, 0, none⟩ = some (.int .i64 0) := (blk_cell BK308.out 0).trans rfl
                              have hcz51_1 : wc.cell? ⟨gb308, 1, none⟩ = some (.int .i64 0) := (blk_cell BK308.out 1).trans rfl
                              have hcz51_2 : wc.cell? ⟨gb308, 2, none⟩ = some (.string a1) := (blk_cell BK308.out 2).trans rfl
                              have hfz51_0 := blk_frozen BK308.out 0
                              have hfz51_1 := blk_frozen BK308.out 1
                              have hfz51_2 := blk_frozen BK308.out 2
                              go_wp2_with (first | ((with_reducible refine gate_callee (f := 36) rfl ?_); refine goesL_ (some 59) rfl rfl Tryd.func36 (by kernel_rfl) rfl #[.string (a0.extract 0 ((ji40) : Int).toNat)] rfl (by (try simp only [List.map_toArray, List.map_cons, List.map_nil]); first | done | (simp only [hji40]; rfl) | rfl | (simp only [List.length_drop, List.length_take]; rfl)) ?_; (with_reducible refine (trystref12_seconds.calls kj32 (a0.extract 0 ((ji40) : Int).toNat) t311 _ A43.out).mono ?_); rintro e w52 ⟨rfl, hb⟩; refine ⟨_, rfl, ?_⟩; have n0_ := Aside0.mk (blk_below (g := gb307) (o := .cells #[.int .i64 0, .int .i64 0, .string (⟨#[]⟩ : ByteArray)] 31 (0, 0)) (by (with_reducible repeat (first | refine blk_drewN ?_ _ | refine blk_drew ?_ | refine blk_alloc ?_ _)); refine blk_far ?_ NB307_308.out _; (with_reducible repeat (first | refine blk_drewN ?_ _ | refine blk_drew ?_ | refine blk_alloc ?_ _)); exact BK307.out) hb); have n1_ := Aside0.mk (blk_below (g := gb308) (o := .cells #[.int .i64 2, .int .i64 0, .string a1] 31 (0, 0)) (by (with_reducible repeat (first | refine blk_drewN ?_ _ | refine blk_drew ?_ | refine blk_alloc ?_ _)); refine blk_put (cs := #[.int .i64 0, .int .i64 0, .string a1]) ?_ 0 _ rfl; (with_reducible repeat (first | refine blk_drewN ?_ _ | refine blk_drew ?_ | refine blk_alloc ?_ _)); exact BK308.out) hb); have n2_ := Aside0.mk (below_step (by repeat (first | (with_reducible first | exact HB.out | apply below_alloc | apply pw_below_drewN | apply below_drew1 | refine below_set ?_ GE307.out | refine below_set ?_ GE308.out) | exact HB.out)) hb); clear BK307; clear BK308; clear HB; have BK307 := n0_; have BK308 := n1_; have HB := n2_; clear n0_ n1_ n2_; (try clear hb); (try clear hb2); (try clear hk); (try clear hi); have hcz53_0 : w52.cell? ⟨gb308, 0, none⟩ = some (.int .i64 2) := (blk_cell BK308.out 0).trans rfl; have hcz53_1 : w52.cell? ⟨gb308, 1, none⟩ = some (.int .i64 0) := (blk_cell BK308.out 1).trans rfl; have hcz53_2 : w52.cell? ⟨gb308, 2, none⟩ = some (.string a1) := (blk_cell BK308.out 2).trans rfl; have hfz53_0 := blk_frozen BK308.out 0; have hfz53_1 := blk_frozen BK308.out 1; have hfz53_2 := blk_frozen BK308.out 2; have hcz54_0 : w52.cell? ⟨gb307, 0, none⟩ = some (.int .i64 0) := (blk_cell BK307.out 0).trans rfl; have hcz54_1 : w52.cell? ⟨gb307, 1, none⟩ = some (.int .i64 0) := (blk_cell BK307.out 1).trans rfl; have hcz54_2 : w52.cell? ⟨gb307, 2, none⟩ = some (.string (⟨#[]⟩ : ByteArray)) := (blk_cell BK307.out 2).trans rfl; have hfz54_0 := blk_frozen BK307.out 0; have hfz54_1 := blk_frozen BK307.out 1; have hfz54_2 := blk_frozen BK307.out 2))
                              refine bodyPost_ret (results_ct rfl _ _ gb307 31 #[.int .i64 2, .int .i64 t311, .string a1] (0, 0) _ rfl (by (with_reducible repeat (first | refine blk_drewN ?_ _ | refine blk_drew ?_ | refine blk_alloc ?_ _)); refine blk_put (cs := #[.int .i64 2, .int .i64 t311, .string (⟨#[]⟩ : ByteArray)]) ?_ 2 _ rfl; (with_reducible repeat (first | refine blk_drewN ?_ _ | refine blk_drew ?_ | refine blk_alloc ?_ _)); refine blk_put (cs := #[.int .i64 2, .int .i64 0, .string (⟨#[]⟩ : ByteArray)]) ?_ 1 _ rfl; (with_reducible repeat (first | refine blk_drewN ?_ _ | refine blk_drew ?_ | refine blk_alloc ?_ _)); refine blk_put (cs := #[.int .i64 0, .int .i64 0, .string (⟨#[]⟩ : ByteArray)]) ?_ 0 _ rfl; (with_reducible repeat (first | refine blk_drewN ?_ _ | refine blk_drew ?_ | refine blk_alloc ?_ _)); refine blk_far ?_ NB307_308.out _; (with_reducible repeat (first | refine blk_drewN ?_ _ | refine blk_drew ?_ | refine blk_alloc ?_ _)); exact BK307.out) Tryd.underlying31 rfl (by kernel_rfl)) rfl ?_
                              exact ⟨by first | rfl | (simp [errW_none, errW_some] <;> rfl) | (simp only [← hji40]; first | rfl | (simp [errW_none, errW_some] <;> rfl)) | (simp [*, errW_none, errW_some] <;> rfl), by repeat (first | (with_reducible first | exact HB.out | apply below_alloc | apply pw_below_drewN | apply below_drew1 | refine below_set ?_ GE307.out | refine below_set ?_ GE308.out) | exact HB.out)⟩
                          · rw [if_neg c42] at H
                            exact absurd H (by simp)
                        · rw [if_neg c41] at H
                          exact absurd H (by simp)
                      · replace c39 := Bool.eq_false_iff.mpr c39
                        subst c39
                        have H1 : ((trystref12_seconds.f kj32 a0).bind fun t312 => (if t312 < 0 then (some (0, 0, (⟨#[]⟩ : ByteArray), 7)) else (some (1, t312, a1, 0)))) = some (r1, r2, r3, r4) := by rw [if_neg (show ¬ (false = true) by decide)] at H; exact H
                        clear H
                        have H := H1
                        clear H1
                        replace H := Option.bind_eq_some_iff.mp H
                        obtain ⟨t312, A550, H⟩ := H
                        replace H : (if t312 < 0 then (some (0, 0, (⟨#[]⟩ : ByteArray), 7)) else (some (1, t312, a1, 0))) = some (r1, r2, r3, r4) := H
                        have A55 := Aside0.mk A550
                        clear A550
                        by_cases c56 : t312 < 0
                        · rw [if_pos c56] at H
                          have c56b0 : decide (t312 < 0) = true := decide_eq_true c56
                          clear c56
                          simp only [Option.some.injEq, Prod.mk.injEq] at H
                          obtain ⟨rfl, rfl, rfl, rfl⟩ := H
                          have hnb57 := NB308_307.out
                          have hnc57 := NB307_308.out
                          have hcz58_0 : wc.cell? ⟨gb308, 0, none⟩ = some (.int .i64 0) := (blk_cell BK308.out 0).trans rfl
                          have hcz58_1 : wc.cell? ⟨gb308, 1, none⟩ = some (.int .i64 0) := (blk_cell BK308.out 1).trans rfl
                          have hcz58_2 : wc.cell? ⟨gb308, 2, none⟩ = some (.string a1) := (blk_cell BK308.out 2).trans rfl
                          have hfz58_0 := blk_frozen BK308.out 0
                          have hfz58_1 := blk_frozen BK308.out 1
                          have hfz58_2 := blk_frozen BK308.out 2
                          go_wp2_with (first | ((with_reducible refine gate_callee (f := 36) rfl ?_); refine goesL_ (some 59) rfl rfl Tryd.func36 (by kernel_rfl) rfl #[.string a0] rfl (by (try simp only [List.map_toArray, List.map_cons, List.map_nil]); first | done | rfl | (simp only [List.length_drop, List.length_take]; rfl)) ?_; (with_reducible refine (trystref12_seconds.calls kj32 a0 t312 _ A55.out).mono ?_); rintro e w59 ⟨rfl, hb⟩; refine ⟨_, rfl, ?_⟩; have n0_ := Aside0.mk (blk_below (g := gb307) (o := .cells #[.int .i64 0, .int .i64 0, .string (⟨#[]⟩ : ByteArray)] 31 (0, 0)) (by (with_reducible repeat (first | refine blk_drewN ?_ _ | refine blk_drew ?_ | refine blk_alloc ?_ _)); refine blk_far ?_ NB307_308.out _; (with_reducible repeat (first | refine blk_drewN ?_ _ | refine blk_drew ?_ | refine blk_alloc ?_ _)); exact BK307.out) hb); have n1_ := Aside0.mk (blk_below (g := gb308) (o := .cells #[.int .i64 1, .int .i64 0, .string a1] 31 (0, 0)) (by (with_reducible repeat (first | refine blk_drewN ?_ _ | refine blk_drew ?_ | refine blk_alloc ?_ _)); refine blk_put (cs := #[.int .i64 0, .int .i64 0, .string a1]) ?_ 0 _ rfl; (with_reducible repeat (first | refine blk_drewN ?_ _ | refine blk_drew ?_ | refine blk_alloc ?_ _)); exact BK308.out) hb); have n2_ := Aside0.mk (below_step (by repeat (first | (with_reducible first | exact HB.out | apply below_alloc | apply pw_below_drewN | apply below_drew1 | refine below_set ?_ GE307.out | refine below_set ?_ GE308.out) | exact HB.out)) hb); clear BK307; clear BK308; clear HB; have BK307 := n0_; have BK308 := n1_; have HB := n2_; clear n0_ n1_ n2_; (try clear hb); (try clear hb2); (try clear hk); (try clear hi); have hcz60_0 : w59.cell? ⟨gb308, 0, none⟩ = some (.int .i64 1) := (blk_cell BK308.out 0).trans rfl; have hcz60_1 : w59.cell? ⟨gb308, 1, none⟩ = some (.int .i64 0) := (blk_cell BK308.out 1).trans rfl; have hcz60_2 : w59.cell? ⟨gb308, 2, none⟩ = some (.string a1) := (blk_cell BK308.out 2).trans rfl; have hfz60_0 := blk_frozen BK308.out 0; have hfz60_1 := blk_frozen BK308.out 1; have hfz60_2 := blk_frozen BK308.out 2; have hcz61_0 : w59.cell? ⟨gb307, 0, none⟩ = some (.int .i64 0) := (blk_cell BK307.out 0).trans rfl; have hcz61_1 : w59.cell? ⟨gb307, 1, none⟩ = some (.int .i64 0) := (blk_cell BK307.out 1).trans rfl; have hcz61_2 : w59.cell? ⟨gb307, 2, none⟩ = some (.string (⟨#[]⟩ : ByteArray)) := (blk_cell BK307.out 2).trans rfl; have hfz61_0 := blk_frozen BK307.out 0; have hfz61_1 := blk_frozen BK307.out 1; have hfz61_2 := blk_frozen BK307.out 2))
                          refine bodyPost_ret (results_ct rfl _ _ gb307 31 #[.int .i64 0, .int .i64 0, .string (⟨#[]⟩ : ByteArray)] (0, 0) _ rfl (by (with_reducible repeat (first | refine blk_drewN ?_ _ | refine blk_drew ?_ | refine blk_alloc ?_ _)); refine blk_put (cs := #[.int .i64 0, .int .i64 0, .string (⟨#[]⟩ : ByteArray)]) ?_ 2 _ rfl; (with_reducible repeat (first | refine blk_drewN ?_ _ | refine blk_drew ?_ | refine blk_alloc ?_ _)); refine blk_put (cs := #[.int .i64 0, .int .i64 0, .string (⟨#[]⟩ : ByteArray)]) ?_ 1 _ rfl; (with_reducible repeat (first | refine blk_drewN ?_ _ | refine blk_drew ?_ | refine blk_alloc ?_ _)); refine blk_put (cs := #[.int .i64 0, .int .i64 0, .string (⟨#[]⟩ : ByteArray)]) ?_ 0 _ rfl; (with_reducible repeat (first | refine blk_drewN ?_ _ | refine blk_drew ?_ | refine blk_alloc ?_ _)); refine blk_far ?_ NB307_308.out _; (with_reducible repeat (first | refine blk_drewN ?_ _ | refine blk_drew ?_ | refine blk_alloc ?_ _)); exact BK307.out) Tryd.underlying31 rfl (by kernel_rfl)) rfl ?_
                          exact ⟨by first | rfl | (simp [errW_none, errW_some] <;> rfl) | (simp [*, errW_none, errW_some] <;> rfl), by repeat (first | (with_reducible first | exact HB.out | apply below_alloc | apply pw_below_drewN | apply below_drew1 | refine below_set ?_ GE307.out | refine below_set ?_ GE308.out) | exact HB.out)⟩
                        · rw [if_neg c56] at H
                          have c56b0 : decide (t312 < 0) = false := decide_eq_false c56
                          clear c56
                          simp only [Option.some.injEq, Prod.mk.injEq] at H
                          obtain ⟨rfl, rfl, rfl, rfl⟩ := H
                          have hnb62 := NB308_307.out
                          have hnc62 := NB307_308.out
                          have hcz63_0 : wc.cell? ⟨gb308, 0, none⟩ = some (.int .i64 0) := (blk_cell BK308.out 0).trans rfl
                          have hcz63_1 : wc.cell? ⟨gb308, 1, none⟩ = some (.int .i64 0) := (blk_cell BK308.out 1).trans rfl
                          have hcz63_2 : wc.cell? ⟨gb308, 2, none⟩ = some (.string a1) := (blk_cell BK308.out 2).trans rfl
                          have hfz63_0 := blk_frozen BK308.out 0
                          have hfz63_1 := blk_frozen BK308.out 1
                          have hfz63_2 := blk_frozen BK308.out 2
                          go_wp2_with (first | ((with_reducible refine gate_callee (f := 36) rfl ?_); refine goesL_ (some 59) rfl rfl Tryd.func36 (by kernel_rfl) rfl #[.string a0] rfl (by (try simp only [List.map_toArray, List.map_cons, List.map_nil]); first | done | rfl | (simp only [List.length_drop, List.length_take]; rfl)) ?_; (with_reducible refine (trystref12_seconds.calls kj32 a0 t312 _ A55.out).mono ?_); rintro e w64 ⟨rfl, hb⟩; refine ⟨_, rfl, ?_⟩; have n0_ := Aside0.mk (blk_below (g := gb307) (o := .cells #[.int .i64 0, .int .i64 0, .string (⟨#[]⟩ : ByteArray)] 31 (0, 0)) (by (with_reducible repeat (first | refine blk_drewN ?_ _ | refine blk_drew ?_ | refine blk_alloc ?_ _)); refine blk_far ?_ NB307_308.out _; (with_reducible repeat (first | refine blk_drewN ?_ _ | refine blk_drew ?_ | refine blk_alloc ?_ _)); exact BK307.out) hb); have n1_ := Aside0.mk (blk_below (g := gb308) (o := .cells #[.int .i64 1, .int .i64 0, .string a1] 31 (0, 0)) (by (with_reducible repeat (first | refine blk_drewN ?_ _ | refine blk_drew ?_ | refine blk_alloc ?_ _)); refine blk_put (cs := #[.int .i64 0, .int .i64 0, .string a1]) ?_ 0 _ rfl; (with_reducible repeat (first | refine blk_drewN ?_ _ | refine blk_drew ?_ | refine blk_alloc ?_ _)); exact BK308.out) hb); have n2_ := Aside0.mk (below_step (by repeat (first | (with_reducible first | exact HB.out | apply below_alloc | apply pw_below_drewN | apply below_drew1 | refine below_set ?_ GE307.out | refine below_set ?_ GE308.out) | exact HB.out)) hb); clear BK307; clear BK308; clear HB; have BK307 := n0_; have BK308 := n1_; have HB := n2_; clear n0_ n1_ n2_; (try clear hb); (try clear hb2); (try clear hk); (try clear hi); have hcz65_0 : w64.cell? ⟨gb308, 0, none⟩ = some (.int .i64 1) := (blk_cell BK308.out 0).trans rfl; have hcz65_1 : w64.cell? ⟨gb308, 1, none⟩ = some (.int .i64 0) := (blk_cell BK308.out 1).trans rfl; have hcz65_2 : w64.cell? ⟨gb308, 2, none⟩ = some (.string a1) := (blk_cell BK308.out 2).trans rfl; have hfz65_0 := blk_frozen BK308.out 0; have hfz65_1 := blk_frozen BK308.out 1; have hfz65_2 := blk_frozen BK308.out 2; have hcz66_0 : w64.cell? ⟨gb307, 0, none⟩ = some (.int .i64 0) := (blk_cell BK307.out 0).trans rfl; have hcz66_1 : w64.cell? ⟨gb307, 1, none⟩ = some (.int .i64 0) := (blk_cell BK307.out 1).trans rfl; have hcz66_2 : w64.cell? ⟨gb307, 2, none⟩ = some (.string (⟨#[]⟩ : ByteArray)) := (blk_cell BK307.out 2).trans rfl; have hfz66_0 := blk_frozen BK307.out 0; have hfz66_1 := blk_frozen BK307.out 1; have hfz66_2 := blk_frozen BK307.out 2))
                          refine bodyPost_ret (results_ct rfl _ _ gb307 31 #[.int .i64 1, .int .i64 t312, .string a1] (0, 0) _ rfl (by (with_reducible repeat (first | refine blk_drewN ?_ _ | refine blk_drew ?_ | refine blk_alloc ?_ _)); refine blk_put (cs := #[.int .i64 1, .int .i64 t312, .string (⟨#[]⟩ : ByteArray)]) ?_ 2 _ rfl; (with_reducible repeat (first | refine blk_drewN ?_ _ | refine blk_drew ?_ | refine blk_alloc ?_ _)); refine blk_put (cs := #[.int .i64 1, .int .i64 0, .string (⟨#[]⟩ : ByteArray)]) ?_ 1 _ rfl; (with_reducible repeat (first | refine blk_drewN ?_ _ | refine blk_drew ?_ | refine blk_alloc ?_ _)); refine blk_put (cs := #[.int .i64 0, .int .i64 0, .string (⟨#[]⟩ : ByteArray)]) ?_ 0 _ rfl; (with_reducible repeat (first | refine blk_drewN ?_ _ | refine blk_drew ?_ | refine blk_alloc ?_ _)); refine blk_far ?_ NB307_308.out _; (with_reducible repeat (first | refine blk_drewN ?_ _ | refine blk_drew ?_ | refine blk_alloc ?_ _)); exact BK307.out) Tryd.underlying31 rfl (by kernel_rfl)) rfl ?_
                          exact ⟨by first | rfl | (simp [errW_none, errW_some] <;> rfl) | (simp [*, errW_none, errW_some] <;> rfl), by repeat (first | (with_reducible first | exact HB.out | apply below_alloc | apply pw_below_drewN | apply below_drew1 | refine below_set ?_ GE307.out | refine below_set ?_ GE308.out) | exact HB.out)⟩
                · rw [if_neg c32] at H
                  have c32b0 : (a1.toList == ([] : List UInt8)) = false := beq_eq_false_iff_ne.mpr c32
                  have c32b1 : (a1.toList != ([] : List UInt8)) = true := bne_iff_ne.mpr c32
                  replace H := Option.bind_eq_some_iff.mp H
                  obtain ⟨t313, A670, H⟩ := H
                  replace H : (if t313 < 0 then (some (0, 0, (⟨#[]⟩ : ByteArray), 7)) else (some (3, t313, a1, 0))) = some (r1, r2, r3, r4) := H
                  have A67 := Aside0.mk A670
                  clear A670
                  by_cases c68 : t313 < 0
                  · rw [if_pos c68] at H
                    have c68b0 : decide (t313 < 0) = true := decide_eq_true c68
                    clear c68
                    simp only [Option.some.injEq, Prod.mk.injEq] at H
                    obtain ⟨rfl, rfl, rfl, rfl⟩ := H
                    have hnb69 := NB308_307.out
                    have hnc69 := NB307_308.out
                    have hcz70_0 : wc.cell? ⟨gb308, 0, none⟩ = some (.int .i64 0) := (blk_cell BK308.out 0).trans rfl
                    have hcz70_1 : wc.cell? ⟨gb308, 1, none⟩ = some (.int .i64 0) := (blk_cell BK308.out 1).trans rfl
                    have hcz70_2 : wc.cell? ⟨gb308, 2, none⟩ = some (.string a1) := (blk_cell BK308.out 2).trans rfl
                    have hfz70_0 := blk_frozen BK308.out 0
                    have hfz70_1 := blk_frozen BK308.out 1
                    have hfz70_2 := blk_frozen BK308.out 2
                    go_wp2_with (first | ((with_reducible refine gate_callee (f := 36) rfl ?_); refine goesL_ (some 59) rfl rfl Tryd.func36 (by kernel_rfl) rfl #[.string a0] rfl (by (try simp only [List.map_toArray, List.map_cons, List.map_nil]); first | done | rfl | (simp only [List.length_drop, List.length_take]; rfl)) ?_; (with_reducible refine (trystref12_seconds.calls kj14 a0 t313 _ A67.out).mono ?_); rintro e w71 ⟨rfl, hb⟩; refine ⟨_, rfl, ?_⟩; have n0_ := Aside0.mk (blk_below (g := gb307) (o := .cells #[.int .i64 0, .int .i64 0, .string (⟨#[]⟩ : ByteArray)] 31 (0, 0)) (by (with_reducible repeat (first | refine blk_drewN ?_ _ | refine blk_drew ?_ | refine blk_alloc ?_ _)); refine blk_far ?_ NB307_308.out _; (with_reducible repeat (first | refine blk_drewN ?_ _ | refine blk_drew ?_ | refine blk_alloc ?_ _)); exact BK307.out) hb); have n1_ := Aside0.mk (blk_below (g := gb308) (o := .cells #[.int .i64 3, .int .i64 0, .string a1] 31 (0, 0)) (by (with_reducible repeat (first | refine blk_drewN ?_ _ | refine blk_drew ?_ | refine blk_alloc ?_ _)); refine blk_put (cs := #[.int .i64 0, .int .i64 0, .string a1]) ?_ 0 _ rfl; (with_reducible repeat (first | refine blk_drewN ?_ _ | refine blk_drew ?_ | refine blk_alloc ?_ _)); exact BK308.out) hb); have n2_ := Aside0.mk (below_step (by repeat (first | (with_reducible first | exact HB.out | apply below_alloc | apply pw_below_drewN | apply below_drew1 | refine below_set ?_ GE307.out | refine below_set ?_ GE308.out) | exact HB.out)) hb); clear BK307; clear BK308; clear HB; have BK307 := n0_; have BK308 := n1_; have HB := n2_; clear n0_ n1_ n2_; (try clear hb); (try clear hb2); (try clear hk); (try clear hi); have hcz72_0 : w71.cell? ⟨gb308, 0, none⟩ = some (.int .i64 3) := (blk_cell BK308.out 0).trans rfl; have hcz72_1 : w71.cell? ⟨gb308, 1, none⟩ = some (.int .i64 0) := (blk_cell BK308.out 1).trans rfl; have hcz72_2 : w71.cell? ⟨gb308, 2, none⟩ = some (.string a1) := (blk_cell BK308.out 2).trans rfl; have hfz72_0 := blk_frozen BK308.out 0; have hfz72_1 := blk_frozen BK308.out 1; have hfz72_2 := blk_frozen BK308.out 2; have hcz73_0 : w71.cell? ⟨gb307, 0, none⟩ = some (.int .i64 0) := (blk_cell BK307.out 0).trans rfl; have hcz73_1 : w71.cell? ⟨gb307, 1, none⟩ = some (.int .i64 0) := (blk_cell BK307.out 1).trans rfl; have hcz73_2 : w71.cell? ⟨gb307, 2, none⟩ = some (.string (⟨#[]⟩ : ByteArray)) := (blk_cell BK307.out 2).trans rfl; have hfz73_0 := blk_frozen BK307.out 0; have hfz73_1 := blk_frozen BK307.out 1; have hfz73_2 := blk_frozen BK307.out 2))
                    refine bodyPost_ret (results_ct rfl _ _ gb307 31 #[.int .i64 0, .int .i64 0, .string (⟨#[]⟩ : ByteArray)] (0, 0) _ rfl (by (with_reducible repeat (first | refine blk_drewN ?_ _ | refine blk_drew ?_ | refine blk_alloc ?_ _)); refine blk_put (cs := #[.int .i64 0, .int .i64 0, .string (⟨#[]⟩ : ByteArray)]) ?_ 2 _ rfl; (with_reducible repeat (first | refine blk_drewN ?_ _ | refine blk_drew ?_ | refine blk_alloc ?_ _)); refine blk_put (cs := #[.int .i64 0, .int .i64 0, .string (⟨#[]⟩ : ByteArray)]) ?_ 1 _ rfl; (with_reducible repeat (first | refine blk_drewN ?_ _ | refine blk_drew ?_ | refine blk_alloc ?_ _)); refine blk_put (cs := #[.int .i64 0, .int .i64 0, .string (⟨#[]⟩ : ByteArray)]) ?_ 0 _ rfl; (with_reducible repeat (first | refine blk_drewN ?_ _ | refine blk_drew ?_ | refine blk_alloc ?_ _)); refine blk_far ?_ NB307_308.out _; (with_reducible repeat (first | refine blk_drewN ?_ _ | refine blk_drew ?_ | refine blk_alloc ?_ _)); exact BK307.out) Tryd.underlying31 rfl (by kernel_rfl)) rfl ?_
                    exact ⟨by first | rfl | (simp [errW_none, errW_some] <;> rfl) | (simp [*, errW_none, errW_some] <;> rfl), by repeat (first | (with_reducible first | exact HB.out | apply below_alloc | apply pw_below_drewN | apply below_drew1 | refine below_set ?_ GE307.out | refine below_set ?_ GE308.out) | exact HB.out)⟩
                  · rw [if_neg c68] at H
                    have c68b0 : decide (t313 < 0) = false := decide_eq_false c68
                    clear c68
                    simp only [Option.some.injEq, Prod.mk.injEq] at H
                    obtain ⟨rfl, rfl, rfl, rfl⟩ := H
                    have hnb74 := NB308_307.out
                    have hnc74 := NB307_308.out
                    have hcz75_0 : wc.cell? ⟨gb308, 0, none⟩ = some (.int .i64 0) := (blk_cell BK308.out 0).trans rfl
                    have hcz75_1 : wc.cell? ⟨gb308, 1, none⟩ = some (.int .i64 0) := (blk_cell BK308.out 1).trans rfl
                    have hcz75_2 : wc.cell? ⟨gb308, 2, none⟩ = some (.string a1) := (blk_cell BK308.out 2).trans rfl
                    have hfz75_0 := blk_frozen BK308.out 0
                    have hfz75_1 := blk_frozen BK308.out 1
                    have hfz75_2 := blk_frozen BK308.out 2
                    go_wp2_with (first | ((with_reducible refine gate_callee (f := 36) rfl ?_); refine goesL_ (some 59) rfl rfl Tryd.func36 (by kernel_rfl) rfl #[.string a0] rfl (by (try simp only [List.map_toArray, List.map_cons, List.map_nil]); first | done | rfl | (simp only [List.length_drop, List.length_take]; rfl)) ?_; (with_reducible refine (trystref12_seconds.calls kj14 a0 t313 _ A67.out).mono ?_); rintro e w76 ⟨rfl, hb⟩; refine ⟨_, rfl, ?_⟩; have n0_ := Aside0.mk (blk_below (g := gb307) (o := .cells #[.int .i64 0, .int .i64 0, .string (⟨#[]⟩ : ByteArray)] 31 (0, 0)) (by (with_reducible repeat (first | refine blk_drewN ?_ _ | refine blk_drew ?_ | refine blk_alloc ?_ _)); refine blk_far ?_ NB307_308.out _; (with_reducible repeat (first | refine blk_drewN ?_ _ | refine blk_drew ?_ | refine blk_alloc ?_ _)); exact BK307.out) hb); have n1_ := Aside0.mk (blk_below (g := gb308) (o := .cells #[.int .i64 3, .int .i64 0, .string a1] 31 (0, 0)) (by (with_reducible repeat (first | refine blk_drewN ?_ _ | refine blk_drew ?_ | refine blk_alloc ?_ _)); refine blk_put (cs := #[.int .i64 0, .int .i64 0, .string a1]) ?_ 0 _ rfl; (with_reducible repeat (first | refine blk_drewN ?_ _ | refine blk_drew ?_ | refine blk_alloc ?_ _)); exact BK308.out) hb); have n2_ := Aside0.mk (below_step (by repeat (first | (with_reducible first | exact HB.out | apply below_alloc | apply pw_below_drewN | apply below_drew1 | refine below_set ?_ GE307.out | refine below_set ?_ GE308.out) | exact HB.out)) hb); clear BK307; clear BK308; clear HB; have BK307 := n0_; have BK308 := n1_; have HB := n2_; clear n0_ n1_ n2_; (try clear hb); (try clear hb2); (try clear hk); (try clear hi); have hcz77_0 : w76.cell? ⟨gb308, 0, none⟩ = some (.int .i64 3) := (blk_cell BK308.out 0).trans rfl; have hcz77_1 : w76.cell? ⟨gb308, 1, none⟩ = some (.int .i64 0) := (blk_cell BK308.out 1).trans rfl; have hcz77_2 : w76.cell? ⟨gb308, 2, none⟩ = some (.string a1) := (blk_cell BK308.out 2).trans rfl; have hfz77_0 := blk_frozen BK308.out 0; have hfz77_1 := blk_frozen BK308.out 1; have hfz77_2 := blk_frozen BK308.out 2; have hcz78_0 : w76.cell? ⟨gb307, 0, none⟩ = some (.int .i64 0) := (blk_cell BK307.out 0).trans rfl; have hcz78_1 : w76.cell? ⟨gb307, 1, none⟩ = some (.int .i64 0) := (blk_cell BK307.out 1).trans rfl; have hcz78_2 : w76.cell? ⟨gb307, 2, none⟩ = some (.string (⟨#[]⟩ : ByteArray)) := (blk_cell BK307.out 2).trans rfl; have hfz78_0 := blk_frozen BK307.out 0; have hfz78_1 := blk_frozen BK307.out 1; have hfz78_2 := blk_frozen BK307.out 2))
                    refine bodyPost_ret (results_ct rfl _ _ gb307 31 #[.int .i64 3, .int .i64 t313, .string a1] (0, 0) _ rfl (by (with_reducible repeat (first | refine blk_drewN ?_ _ | refine blk_drew ?_ | refine blk_alloc ?_ _)); refine blk_put (cs := #[.int .i64 3, .int .i64 t313, .string (⟨#[]⟩ : ByteArray)]) ?_ 2 _ rfl; (with_reducible repeat (first | refine blk_drewN ?_ _ | refine blk_drew ?_ | refine blk_alloc ?_ _)); refine blk_put (cs := #[.int .i64 3, .int .i64 0, .string (⟨#[]⟩ : ByteArray)]) ?_ 1 _ rfl; (with_reducible repeat (first | refine blk_drewN ?_ _ | refine blk_drew ?_ | refine blk_alloc ?_ _)); refine blk_put (cs := #[.int .i64 0, .int .i64 0, .string (⟨#[]⟩ : ByteArray)]) ?_ 0 _ rfl; (with_reducible repeat (first | refine blk_drewN ?_ _ | refine blk_drew ?_ | refine blk_alloc ?_ _)); refine blk_far ?_ NB307_308.out _; (with_reducible repeat (first | refine blk_drewN ?_ _ | refine blk_drew ?_ | refine blk_alloc ?_ _)); exact BK307.out) Tryd.underlying31 rfl (by kernel_rfl)) rfl ?_
                    exact ⟨by first | rfl | (simp [errW_none, errW_some] <;> rfl) | (simp [*, errW_none, errW_some] <;> rfl), by repeat (first | (with_reducible first | exact HB.out | apply below_alloc | apply pw_below_drewN | apply below_drew1 | refine below_set ?_ GE307.out | refine below_set ?_ GE308.out) | exact HB.out)⟩

/-! ### trystref12_RightTime: function 19 -/
/-! ### trystref12_Time: function 21 -/
-- NOT PRINTED: function 6 (trystlaw12_ValueTimes)
end Go.Proofs.YthppkdbelmolbaaDoor.Q
