/- Texts of this claim, merged: Zn, MclockA. -/
import Derived.Test.YtddoidcbpcmlaaaDoorMgEventForms13
import Derived.Test.YtddoidcbpcmlaaaDoorMgEventForms18
import Derived.Lib.Hide
import Derived.Deep.LoopGhost
/- Names of zones: value.ZoneName and the reference's, walked: one plain answer. (Written by gen_zn.py.) -/
namespace Go.Proofs.YtddoidcbpcmlaaaDoor.Zn
open Go.RowKit Go.Proofs.YtddoidcbpcmlaaaDoorW.PrintWords Go.Proofs.YtddoidcbpcmlaaaDoorW.PrintLast
set_option linter.unusedVariables false
set_option linter.unusedSimpArgs false
/-- The signs of zones' names. -/
def zc (z : Int) : Bool := (decide (97 ≤ z) && decide (z ≤ 122)) || (decide (65 ≤ z) && decide (z ≤ 90)) || (decide (48 ≤ z) && decide (z ≤ 57)) || decide (z = 47) || decide (z = 95) || decide (z = 45) || decide (z = 43)
def znB (s : ByteArray) : Bool := (List.range s.size).all (fun j => zc (bt s (j : Int))) && decide (1 ≤ s.size) && decide (s.size ≤ 60)
theorem zn_no {s : ByteArray} {j : Nat} (hj : j < s.size) (h : zc (bt s (j : Int)) = false) : znB s = false := by
 unfold znB
 have : (List.range s.size).all (fun j => zc (bt s (j : Int))) = false := by
  rw [← Bool.not_eq_true, List.all_eq_true]
  intro q
  rw [q j (List.mem_range.2 hj)] at h
  cases h
 rw [this]; rfl
theorem zn_all {s : ByteArray} (h : ∀ j : Nat, j < s.size → zc (bt s (j : Int)) = true) : znB s = (decide (1 ≤ s.size) && decide (s.size ≤ 60)) := by
 unfold znB
 rw [show (List.range s.size).all (fun j => zc (bt s (j : Int))) = true from List.all_eq_true.2 fun j hj => h j (List.mem_range.1 hj), Bool.true_and]
set_option maxRecDepth 100000 in
theorem idxN : ∀ n : Fin 256, decide (Lib.indexByte [47, 95, 45, 43] (n.val).toUInt8 < 0) = decide (¬ (n.val = 47 ∨ n.val = 95 ∨ n.val = 45 ∨ n.val = 43)) := by decide +kernel
theorem idx (z : Int) (h0 : 0 ≤ z) (h1 : z ≤ 255) : decide (Lib.indexByte [47, 95, 45, 43] z.toNat.toUInt8 < 0) = decide (¬ (z = 47 ∨ z = 95 ∨ z = 45 ∨ z = 43)) := by
 have h := idxN ⟨z.toNat, by omega⟩
 simp only at h
 rw [h]
 exact decide_eq_decide.2 (by omega)
set_option maxHeartbeats 8000000 in
set_option maxRecDepth 100000 in
theorem ref (s : ByteArray) (w : World) (hs : s.size ≤ 9223372036854775807) :
  Calls Tryd.prog 50 #[.string s] w fun e w' => e = .returned (.bool (znB s)) ∧ Drawn0 w w' := by
 have HS := Aside0.mk hs; clear hs
 go_enter Tryd.func50, Tryd.ntmps50
 go_wp2
 go_loopg [7] s.size (fun kq v w' => ∃ (i : Nat) (x : Int), v = .int .i64 x ∧ Aside0 (x = (i : Int)) ∧ Aside0 (i + kq = s.size) ∧ Aside0 (∀ j : Nat, j < i → zc (bt s (j : Int)) = true) ∧ Drawn0 w w')
 case atStart => exact ⟨0, 0, rfl, ⟨rfl⟩, ⟨by omega⟩, ⟨fun j hj => by omega⟩, Drawn0.refl _⟩
 case round =>
  obtain ⟨i, x, rfl, HX, HI, HU, ⟨m1, rfl⟩⟩ := hrel
  cases gk with
  | zero =>
   have ZA := Aside0.mk (zn_all (s := s) (fun j hj => HU.out j (by have := HI.out; omega)))
   have l1 : decide (x < (s.size : Int)) = false := decide_eq_false (by have := HX.out; have := HI.out; omega)
   by_cases n1 : 1 ≤ s.size
   ·have m2 : decide ((s.size : Int) > 0) = true := decide_eq_true (by omega)
    have m3 : decide ((s.size : Int) ≥ 1) = true := decide_eq_true (by omega)
    have m4 : decide (0 < s.size) = true := decide_eq_true (by omega)
    have m5 : decide (1 ≤ s.size) = true := decide_eq_true n1
    have M := Aside0.mk m5; clear n1
    by_cases n2 : s.size ≤ 60
    ·have m6 : decide ((s.size : Int) ≤ 60) = true := decide_eq_true (by omega)
     have m7 : decide (s.size ≤ 60) = true := decide_eq_true n2
     have M2 := Aside0.mk m7; clear n2
     go_wp2
     go_ret
     exact ⟨by rw [ZA.out, M.out, M2.out] <;> rfl, Drawn0.step (Drawn0.refl _) _⟩
    ·have m6 : decide ((s.size : Int) ≤ 60) = false := decide_eq_false (by omega)
     have m7 : decide (s.size ≤ 60) = false := decide_eq_false n2
     have M2 := Aside0.mk m7; clear n2
     go_wp2
     go_ret
     exact ⟨by rw [ZA.out, M.out, M2.out] <;> rfl, Drawn0.step (Drawn0.refl _) _⟩
   ·have m2 : decide ((s.size : Int) > 0) = false := decide_eq_false (by omega)
    have m3 : decide ((s.size : Int) ≥ 1) = false := decide_eq_false (by omega)
    have m4 : decide (0 < s.size) = false := decide_eq_false (by omega)
    have m5 : decide (1 ≤ s.size) = false := decide_eq_false n1
    have M := Aside0.mk m5; clear n1
    go_wp2
    go_ret
    exact ⟨by rw [ZA.out, M.out] <;> rfl, Drawn0.step (Drawn0.refl _) _⟩
  | succ k1 =>
   have l1 : decide (x < (s.size : Int)) = true := decide_eq_true (by have := HX.out; have := HI.out; omega)
   have p1 : (0 ≤ x) = True := eq_true (by have := HX.out; omega)
   have q1 : (x < (s.size : Int)) = True := eq_true (by have := HX.out; have := HI.out; omega)
   have hx := bt_at s x
   have hr := bt_range s x
   obtain ⟨z, hz⟩ : ∃ z, bt s x = z := ⟨_, rfl⟩
   have HZ := Aside0.mk hz
   rw [hz] at hx hr
   have HR := Aside0.mk hr
   clear hz hr
   by_cases a : z ≥ 97
   ·by_cases b : z ≤ 122
    ·have h := HR.out
     have HZC := Aside0.mk (show zc z = true by unfold zc; simp; omega)
     have t1 : decide (z ≥ 97) = true := decide_eq_true (by omega)
     have t2 : decide (z ≤ 122) = true := decide_eq_true (by omega)
     clear a b h
     go_wp2
     go_roundg k1
     case measure => omega
     case rel => exact ⟨i + 1, _, rfl, ⟨by have := HX.out; have := HS.out; have := HI.out; unfold wrap64; omega⟩, ⟨by have := HI.out; omega⟩, ⟨fun j hj => by by_cases e : j = i; subst e; rw [← HX.out, HZ.out]; exact HZC.out; exact HU.out j (by omega)⟩, by repeat (first | exact Drawn0.refl _ | apply Drawn0.step)⟩
    ·have h := HR.out
     have HZC := Aside0.mk (show zc z = false by unfold zc; simp; omega)
     have t3 : decide (z ≥ 97) = true := decide_eq_true (by omega)
     have t4 : decide (z ≤ 122) = false := decide_eq_false (by omega)
     have t5 : decide (z ≥ 65) = true := decide_eq_true (by omega)
     have t6 : decide (z ≤ 90) = false := decide_eq_false (by omega)
     have t7 : decide (z ≥ 48) = true := decide_eq_true (by omega)
     have t8 : decide (z ≤ 57) = false := decide_eq_false (by omega)
     have t9 : (z == 47) = false := beq_eq_false_iff_ne.2 (by omega)
     have t10 : (z == 95) = false := beq_eq_false_iff_ne.2 (by omega)
     have t11 : (z == 45) = false := beq_eq_false_iff_ne.2 (by omega)
     have t12 : (z == 43) = false := beq_eq_false_iff_ne.2 (by omega)
     clear a b h
     go_wp2
     go_ret
     exact ⟨by rw [zn_no (s := s) (j := i) (by have := HI.out; omega) (by rw [← HX.out, HZ.out]; exact HZC.out)] <;> rfl, by repeat (first | exact Drawn0.refl _ | apply Drawn0.step)⟩
   by_cases b : z ≥ 65
   ·by_cases c : z ≤ 90
    ·have h := HR.out
     have HZC := Aside0.mk (show zc z = true by unfold zc; simp; omega)
     have t13 : decide (z ≥ 97) = false := decide_eq_false (by omega)
     have t14 : decide (z ≥ 65) = true := decide_eq_true (by omega)
     have t15 : decide (z ≤ 90) = true := decide_eq_true (by omega)
     clear a b c h
     go_wp2
     go_roundg k1
     case measure => omega
     case rel => exact ⟨i + 1, _, rfl, ⟨by have := HX.out; have := HS.out; have := HI.out; unfold wrap64; omega⟩, ⟨by have := HI.out; omega⟩, ⟨fun j hj => by by_cases e : j = i; subst e; rw [← HX.out, HZ.out]; exact HZC.out; exact HU.out j (by omega)⟩, by repeat (first | exact Drawn0.refl _ | apply Drawn0.step)⟩
    by_cases c9 : z = 95
    ·have h := HR.out
     have HZC := Aside0.mk (show zc z = true by unfold zc; simp; omega)
     have t16 : decide (z ≥ 97) = false := decide_eq_false (by omega)
     have t17 : decide (z ≥ 65) = true := decide_eq_true (by omega)
     have t18 : decide (z ≤ 90) = false := decide_eq_false (by omega)
     have t19 : decide (z ≥ 48) = true := decide_eq_true (by omega)
     have t20 : decide (z ≤ 57) = false := decide_eq_false (by omega)
     have t21 : (z == 47) = false := beq_eq_false_iff_ne.2 (by omega)
     have t22 : (z == 95) = true := beq_iff_eq.2 (by omega)
     have t23 : (z == 45) = false := beq_eq_false_iff_ne.2 (by omega)
     have t24 : (z == 43) = false := beq_eq_false_iff_ne.2 (by omega)
     clear a b c c9 h
     go_wp2
     go_roundg k1
     case measure => omega
     case rel => exact ⟨i + 1, _, rfl, ⟨by have := HX.out; have := HS.out; have := HI.out; unfold wrap64; omega⟩, ⟨by have := HI.out; omega⟩, ⟨fun j hj => by by_cases e : j = i; subst e; rw [← HX.out, HZ.out]; exact HZC.out; exact HU.out j (by omega)⟩, by repeat (first | exact Drawn0.refl _ | apply Drawn0.step)⟩
    ·have h := HR.out
     have HZC := Aside0.mk (show zc z = false by unfold zc; simp; omega)
     have t25 : decide (z ≥ 97) = false := decide_eq_false (by omega)
     have t26 : decide (z ≥ 65) = true := decide_eq_true (by omega)
     have t27 : decide (z ≤ 90) = false := decide_eq_false (by omega)
     have t28 : decide (z ≥ 48) = true := decide_eq_true (by omega)
     have t29 : decide (z ≤ 57) = false := decide_eq_false (by omega)
     have t30 : (z == 47) = false := beq_eq_false_iff_ne.2 (by omega)
     have t31 : (z == 95) = false := beq_eq_false_iff_ne.2 (by omega)
     have t32 : (z == 45) = false := beq_eq_false_iff_ne.2 (by omega)
     have t33 : (z == 43) = false := beq_eq_false_iff_ne.2 (by omega)
     clear a b c c9 h
     go_wp2
     go_ret
     exact ⟨by rw [zn_no (s := s) (j := i) (by have := HI.out; omega) (by rw [← HX.out, HZ.out]; exact HZC.out)] <;> rfl, by repeat (first | exact Drawn0.refl _ | apply Drawn0.step)⟩
   by_cases c : z ≥ 48
   ·by_cases c9 : z ≤ 57
    ·have h := HR.out
     have HZC := Aside0.mk (show zc z = true by unfold zc; simp; omega)
     have t34 : decide (z ≥ 97) = false := decide_eq_false (by omega)
     have t35 : decide (z ≥ 65) = false := decide_eq_false (by omega)
     have t36 : decide (z ≥ 48) = true := decide_eq_true (by omega)
     have t37 : decide (z ≤ 57) = true := decide_eq_true (by omega)
     clear a b c c9 h
     go_wp2
     go_roundg k1
     case measure => omega
     case rel => exact ⟨i + 1, _, rfl, ⟨by have := HX.out; have := HS.out; have := HI.out; unfold wrap64; omega⟩, ⟨by have := HI.out; omega⟩, ⟨fun j hj => by by_cases e : j = i; subst e; rw [← HX.out, HZ.out]; exact HZC.out; exact HU.out j (by omega)⟩, by repeat (first | exact Drawn0.refl _ | apply Drawn0.step)⟩
    ·have h := HR.out
     have HZC := Aside0.mk (show zc z = false by unfold zc; simp; omega)
     have t38 : decide (z ≥ 97) = false := decide_eq_false (by omega)
     have t39 : decide (z ≥ 65) = false := decide_eq_false (by omega)
     have t40 : decide (z ≥ 48) = true := decide_eq_true (by omega)
     have t41 : decide (z ≤ 57) = false := decide_eq_false (by omega)
     have t42 : (z == 47) = false := beq_eq_false_iff_ne.2 (by omega)
     have t43 : (z == 95) = false := beq_eq_false_iff_ne.2 (by omega)
     have t44 : (z == 45) = false := beq_eq_false_iff_ne.2 (by omega)
     have t45 : (z == 43) = false := beq_eq_false_iff_ne.2 (by omega)
     clear a b c c9 h
     go_wp2
     go_ret
     exact ⟨by rw [zn_no (s := s) (j := i) (by have := HI.out; omega) (by rw [← HX.out, HZ.out]; exact HZC.out)] <;> rfl, by repeat (first | exact Drawn0.refl _ | apply Drawn0.step)⟩
   by_cases c47 : z = 47
   ·have h := HR.out
    have HZC := Aside0.mk (show zc z = true by unfold zc; simp; omega)
    have t46 : decide (z ≥ 97) = false := decide_eq_false (by omega)
    have t47 : decide (z ≥ 65) = false := decide_eq_false (by omega)
    have t48 : decide (z ≥ 48) = false := decide_eq_false (by omega)
    have t49 : (z == 47) = true := beq_iff_eq.2 (by omega)
    have t50 : (z == 95) = false := beq_eq_false_iff_ne.2 (by omega)
    have t51 : (z == 45) = false := beq_eq_false_iff_ne.2 (by omega)
    have t52 : (z == 43) = false := beq_eq_false_iff_ne.2 (by omega)
    clear a b c h c47
    go_wp2
    go_roundg k1
    case measure => omega
    case rel => exact ⟨i + 1, _, rfl, ⟨by have := HX.out; have := HS.out; have := HI.out; unfold wrap64; omega⟩, ⟨by have := HI.out; omega⟩, ⟨fun j hj => by by_cases e : j = i; subst e; rw [← HX.out, HZ.out]; exact HZC.out; exact HU.out j (by omega)⟩, by repeat (first | exact Drawn0.refl _ | apply Drawn0.step)⟩
   by_cases c45 : z = 45
   ·have h := HR.out
    have HZC := Aside0.mk (show zc z = true by unfold zc; simp; omega)
    have t53 : decide (z ≥ 97) = false := decide_eq_false (by omega)
    have t54 : decide (z ≥ 65) = false := decide_eq_false (by omega)
    have t55 : decide (z ≥ 48) = false := decide_eq_false (by omega)
    have t56 : (z == 47) = false := beq_eq_false_iff_ne.2 (by omega)
    have t57 : (z == 95) = false := beq_eq_false_iff_ne.2 (by omega)
    have t58 : (z == 45) = true := beq_iff_eq.2 (by omega)
    have t59 : (z == 43) = false := beq_eq_false_iff_ne.2 (by omega)
    clear a b c h c47 c45
    go_wp2
    go_roundg k1
    case measure => omega
    case rel => exact ⟨i + 1, _, rfl, ⟨by have := HX.out; have := HS.out; have := HI.out; unfold wrap64; omega⟩, ⟨by have := HI.out; omega⟩, ⟨fun j hj => by by_cases e : j = i; subst e; rw [← HX.out, HZ.out]; exact HZC.out; exact HU.out j (by omega)⟩, by repeat (first | exact Drawn0.refl _ | apply Drawn0.step)⟩
   by_cases c43 : z = 43
   ·have h := HR.out
    have HZC := Aside0.mk (show zc z = true by unfold zc; simp; omega)
    have t60 : decide (z ≥ 97) = false := decide_eq_false (by omega)
    have t61 : decide (z ≥ 65) = false := decide_eq_false (by omega)
    have t62 : decide (z ≥ 48) = false := decide_eq_false (by omega)
    have t63 : (z == 47) = false := beq_eq_false_iff_ne.2 (by omega)
    have t64 : (z == 95) = false := beq_eq_false_iff_ne.2 (by omega)
    have t65 : (z == 45) = false := beq_eq_false_iff_ne.2 (by omega)
    have t66 : (z == 43) = true := beq_iff_eq.2 (by omega)
    clear a b c h c47 c45 c43
    go_wp2
    go_roundg k1
    case measure => omega
    case rel => exact ⟨i + 1, _, rfl, ⟨by have := HX.out; have := HS.out; have := HI.out; unfold wrap64; omega⟩, ⟨by have := HI.out; omega⟩, ⟨fun j hj => by by_cases e : j = i; subst e; rw [← HX.out, HZ.out]; exact HZC.out; exact HU.out j (by omega)⟩, by repeat (first | exact Drawn0.refl _ | apply Drawn0.step)⟩
   have h := HR.out
   have HZC := Aside0.mk (show zc z = false by unfold zc; simp; omega)
   have t67 : decide (z ≥ 97) = false := decide_eq_false (by omega)
   have t68 : decide (z ≥ 65) = false := decide_eq_false (by omega)
   have t69 : decide (z ≥ 48) = false := decide_eq_false (by omega)
   have t70 : (z == 47) = false := beq_eq_false_iff_ne.2 (by omega)
   have t71 : (z == 95) = false := beq_eq_false_iff_ne.2 (by omega)
   have t72 : (z == 45) = false := beq_eq_false_iff_ne.2 (by omega)
   have t73 : (z == 43) = false := beq_eq_false_iff_ne.2 (by omega)
   clear a b c h c47 c45 c43
   go_wp2
   go_ret
   exact ⟨by rw [zn_no (s := s) (j := i) (by have := HI.out; omega) (by rw [← HX.out, HZ.out]; exact HZC.out)] <;> rfl, by repeat (first | exact Drawn0.refl _ | apply Drawn0.step)⟩
set_option maxHeartbeats 8000000 in
set_option maxRecDepth 100000 in
theorem val (s : ByteArray) (w : World) (hs : s.size ≤ 9223372036854775807) :
  Calls Tryd.prog 53 #[.string s] w fun e w' => e = .returned (.bool (znB s)) ∧ Drawn0 w w' := by
 have HS := Aside0.mk hs; clear hs
 go_enter Tryd.func53, Tryd.ntmps53
 go_wp2
 go_loopg [8] s.size (fun kq v w' => ∃ (i : Nat) (x : Int), v = .int .i64 x ∧ Aside0 (x = (i : Int)) ∧ Aside0 (i + kq = s.size) ∧ Aside0 (∀ j : Nat, j < i → zc (bt s (j : Int)) = true) ∧ Drawn0 w w')
 case atStart => exact ⟨0, 0, rfl, ⟨rfl⟩, ⟨by omega⟩, ⟨fun j hj => by omega⟩, Drawn0.refl _⟩
 case round =>
  obtain ⟨i, x, rfl, HX, HI, HU, ⟨m1, rfl⟩⟩ := hrel
  cases gk with
  | zero =>
   have ZA := Aside0.mk (zn_all (s := s) (fun j hj => HU.out j (by have := HI.out; omega)))
   have l1 : decide (x < (s.size : Int)) = false := decide_eq_false (by have := HX.out; have := HI.out; omega)
   by_cases n1 : 1 ≤ s.size
   ·have m2 : decide ((s.size : Int) > 0) = true := decide_eq_true (by omega)
    have m3 : decide ((s.size : Int) ≥ 1) = true := decide_eq_true (by omega)
    have m4 : decide (0 < s.size) = true := decide_eq_true (by omega)
    have m5 : decide (1 ≤ s.size) = true := decide_eq_true n1
    have M := Aside0.mk m5; clear n1
    by_cases n2 : s.size ≤ 60
    ·have m6 : decide ((s.size : Int) ≤ 60) = true := decide_eq_true (by omega)
     have m7 : decide (s.size ≤ 60) = true := decide_eq_true n2
     have M2 := Aside0.mk m7; clear n2
     go_wp2
     go_ret
     exact ⟨by rw [ZA.out, M.out, M2.out] <;> rfl, Drawn0.step (Drawn0.refl _) _⟩
    ·have m6 : decide ((s.size : Int) ≤ 60) = false := decide_eq_false (by omega)
     have m7 : decide (s.size ≤ 60) = false := decide_eq_false n2
     have M2 := Aside0.mk m7; clear n2
     go_wp2
     go_ret
     exact ⟨by rw [ZA.out, M.out, M2.out] <;> rfl, Drawn0.step (Drawn0.refl _) _⟩
   ·have m2 : decide ((s.size : Int) > 0) = false := decide_eq_false (by omega)
    have m3 : decide ((s.size : Int) ≥ 1) = false := decide_eq_false (by omega)
    have m4 : decide (0 < s.size) = false := decide_eq_false (by omega)
    have m5 : decide (1 ≤ s.size) = false := decide_eq_false n1
    have M := Aside0.mk m5; clear n1
    go_wp2
    go_ret
    exact ⟨by rw [ZA.out, M.out] <;> rfl, Drawn0.step (Drawn0.refl _) _⟩
  | succ k1 =>
   have l1 : decide (x < (s.size : Int)) = true := decide_eq_true (by have := HX.out; have := HI.out; omega)
   have p1 : (0 ≤ x) = True := eq_true (by have := HX.out; omega)
   have q1 : (x < (s.size : Int)) = True := eq_true (by have := HX.out; have := HI.out; omega)
   have hx := bt_at s x
   have hr := bt_range s x
   obtain ⟨z, hz⟩ : ∃ z, bt s x = z := ⟨_, rfl⟩
   have HZ := Aside0.mk hz
   rw [hz] at hx hr
   have HR := Aside0.mk hr
   clear hz hr
   by_cases a : z ≥ 97
   ·by_cases b : z ≤ 122
    ·have h := HR.out
     have HZC := Aside0.mk (show zc z = true by unfold zc; simp; omega)
     have t1 : decide (z ≥ 97) = true := decide_eq_true (by omega)
     have t2 : decide (z ≤ 122) = true := decide_eq_true (by omega)
     clear a b h
     go_wp2_with (go_at_call 77; refine (Shelf.strings_IndexByte ⟨#[47, 95, 45, 43]⟩ z _).mono ?_; rintro e w' ⟨rfl, rfl⟩)
     go_roundg k1
     case measure => omega
     case rel => exact ⟨i + 1, _, rfl, ⟨by have := HX.out; have := HS.out; have := HI.out; unfold wrap64; omega⟩, ⟨by have := HI.out; omega⟩, ⟨fun j hj => by by_cases e : j = i; subst e; rw [← HX.out, HZ.out]; exact HZC.out; exact HU.out j (by omega)⟩, by repeat (first | exact Drawn0.refl _ | apply Drawn0.step)⟩
    ·have h := HR.out
     have HZC := Aside0.mk (show zc z = false by unfold zc; simp; omega)
     have t3 : decide (z ≥ 97) = true := decide_eq_true (by omega)
     have t4 : decide (z ≤ 122) = false := decide_eq_false (by omega)
     have t5 : decide (z ≥ 65) = true := decide_eq_true (by omega)
     have t6 : decide (z ≤ 90) = false := decide_eq_false (by omega)
     have t7 : decide (z ≥ 48) = true := decide_eq_true (by omega)
     have t8 : decide (z ≤ 57) = false := decide_eq_false (by omega)
     have t_ := idx z HR.out.1 HR.out.2
     rw [show decide (¬ (z = 47 ∨ z = 95 ∨ z = 45 ∨ z = 43)) = true from decide_eq_true (by omega)] at t_
     clear a b h
     go_wp2_with (go_at_call 77; refine (Shelf.strings_IndexByte ⟨#[47, 95, 45, 43]⟩ z _).mono ?_; rintro e w' ⟨rfl, rfl⟩)
     go_ret
     exact ⟨by rw [zn_no (s := s) (j := i) (by have := HI.out; omega) (by rw [← HX.out, HZ.out]; exact HZC.out)] <;> rfl, by repeat (first | exact Drawn0.refl _ | apply Drawn0.step)⟩
   by_cases b : z ≥ 65
   ·by_cases c : z ≤ 90
    ·have h := HR.out
     have HZC := Aside0.mk (show zc z = true by unfold zc; simp; omega)
     have t9 : decide (z ≥ 97) = false := decide_eq_false (by omega)
     have t10 : decide (z ≥ 65) = true := decide_eq_true (by omega)
     have t11 : decide (z ≤ 90) = true := decide_eq_true (by omega)
     clear a b c h
     go_wp2_with (go_at_call 77; refine (Shelf.strings_IndexByte ⟨#[47, 95, 45, 43]⟩ z _).mono ?_; rintro e w' ⟨rfl, rfl⟩)
     go_roundg k1
     case measure => omega
     case rel => exact ⟨i + 1, _, rfl, ⟨by have := HX.out; have := HS.out; have := HI.out; unfold wrap64; omega⟩, ⟨by have := HI.out; omega⟩, ⟨fun j hj => by by_cases e : j = i; subst e; rw [← HX.out, HZ.out]; exact HZC.out; exact HU.out j (by omega)⟩, by repeat (first | exact Drawn0.refl _ | apply Drawn0.step)⟩
    by_cases c9 : z = 95
    ·have h := HR.out
     have HZC := Aside0.mk (show zc z = true by unfold zc; simp; omega)
     have t12 : decide (z ≥ 97) = false := decide_eq_false (by omega)
     have t13 : decide (z ≥ 65) = true := decide_eq_true (by omega)
     have t14 : decide (z ≤ 90) = false := decide_eq_false (by omega)
     have t15 : decide (z ≥ 48) = true := decide_eq_true (by omega)
     have t16 : decide (z ≤ 57) = false := decide_eq_false (by omega)
     have t_ := idx z HR.out.1 HR.out.2
     rw [show decide (¬ (z = 47 ∨ z = 95 ∨ z = 45 ∨ z = 43)) = false from decide_eq_false (by omega)] at t_
     clear a b c c9 h
     go_wp2_with (go_at_call 77; refine (Shelf.strings_IndexByte ⟨#[47, 95, 45, 43]⟩ z _).mono ?_; rintro e w' ⟨rfl, rfl⟩)
     go_roundg k1
     case measure => omega
     case rel => exact ⟨i + 1, _, rfl, ⟨by have := HX.out; have := HS.out; have := HI.out; unfold wrap64; omega⟩, ⟨by have := HI.out; omega⟩, ⟨fun j hj => by by_cases e : j = i; subst e; rw [← HX.out, HZ.out]; exact HZC.out; exact HU.out j (by omega)⟩, by repeat (first | exact Drawn0.refl _ | apply Drawn0.step)⟩
    ·have h := HR.out
     have HZC := Aside0.mk (show zc z = false by unfold zc; simp; omega)
     have t17 : decide (z ≥ 97) = false := decide_eq_false (by omega)
     have t18 : decide (z ≥ 65) = true := decide_eq_true (by omega)
     have t19 : decide (z ≤ 90) = false := decide_eq_false (by omega)
     have t20 : decide (z ≥ 48) = true := decide_eq_true (by omega)
     have t21 : decide (z ≤ 57) = false := decide_eq_false (by omega)
     have t_ := idx z HR.out.1 HR.out.2
     rw [show decide (¬ (z = 47 ∨ z = 95 ∨ z = 45 ∨ z = 43)) = true from decide_eq_true (by omega)] at t_
     clear a b c c9 h
     go_wp2_with (go_at_call 77; refine (Shelf.strings_IndexByte ⟨#[47, 95, 45, 43]⟩ z _).mono ?_; rintro e w' ⟨rfl, rfl⟩)
     go_ret
     exact ⟨by rw [zn_no (s := s) (j := i) (by have := HI.out; omega) (by rw [← HX.out, HZ.out]; exact HZC.out)] <;> rfl, by repeat (first | exact Drawn0.refl _ | apply Drawn0.step)⟩
   by_cases c : z ≥ 48
   ·by_cases c9 : z ≤ 57
    ·have h := HR.out
     have HZC := Aside0.mk (show zc z = true by unfold zc; simp; omega)
     have t22 : decide (z ≥ 97) = false := decide_eq_false (by omega)
     have t23 : decide (z ≥ 65) = false := decide_eq_false (by omega)
     have t24 : decide (z ≥ 48) = true := decide_eq_true (by omega)
     have t25 : decide (z ≤ 57) = true := decide_eq_true (by omega)
     clear a b c c9 h
     go_wp2_with (go_at_call 77; refine (Shelf.strings_IndexByte ⟨#[47, 95, 45, 43]⟩ z _).mono ?_; rintro e w' ⟨rfl, rfl⟩)
     go_roundg k1
     case measure => omega
     case rel => exact ⟨i + 1, _, rfl, ⟨by have := HX.out; have := HS.out; have := HI.out; unfold wrap64; omega⟩, ⟨by have := HI.out; omega⟩, ⟨fun j hj => by by_cases e : j = i; subst e; rw [← HX.out, HZ.out]; exact HZC.out; exact HU.out j (by omega)⟩, by repeat (first | exact Drawn0.refl _ | apply Drawn0.step)⟩
    ·have h := HR.out
     have HZC := Aside0.mk (show zc z = false by unfold zc; simp; omega)
     have t26 : decide (z ≥ 97) = false := decide_eq_false (by omega)
     have t27 : decide (z ≥ 65) = false := decide_eq_false (by omega)
     have t28 : decide (z ≥ 48) = true := decide_eq_true (by omega)
     have t29 : decide (z ≤ 57) = false := decide_eq_false (by omega)
     have t_ := idx z HR.out.1 HR.out.2
     rw [show decide (¬ (z = 47 ∨ z = 95 ∨ z = 45 ∨ z = 43)) = true from decide_eq_true (by omega)] at t_
     clear a b c c9 h
     go_wp2_with (go_at_call 77; refine (Shelf.strings_IndexByte ⟨#[47, 95, 45, 43]⟩ z _).mono ?_; rintro e w' ⟨rfl, rfl⟩)
     go_ret
     exact ⟨by rw [zn_no (s := s) (j := i) (by have := HI.out; omega) (by rw [← HX.out, HZ.out]; exact HZC.out)] <;> rfl, by repeat (first | exact Drawn0.refl _ | apply Drawn0.step)⟩
   by_cases c47 : z = 47
   ·have h := HR.out
    have HZC := Aside0.mk (show zc z = true by unfold zc; simp; omega)
    have t30 : decide (z ≥ 97) = false := decide_eq_false (by omega)
    have t31 : decide (z ≥ 65) = false := decide_eq_false (by omega)
    have t32 : decide (z ≥ 48) = false := decide_eq_false (by omega)
    have t_ := idx z HR.out.1 HR.out.2
    rw [show decide (¬ (z = 47 ∨ z = 95 ∨ z = 45 ∨ z = 43)) = false from decide_eq_false (by omega)] at t_
    clear a b c h c47
    go_wp2_with (go_at_call 77; refine (Shelf.strings_IndexByte ⟨#[47, 95, 45, 43]⟩ z _).mono ?_; rintro e w' ⟨rfl, rfl⟩)
    go_roundg k1
    case measure => omega
    case rel => exact ⟨i + 1, _, rfl, ⟨by have := HX.out; have := HS.out; have := HI.out; unfold wrap64; omega⟩, ⟨by have := HI.out; omega⟩, ⟨fun j hj => by by_cases e : j = i; subst e; rw [← HX.out, HZ.out]; exact HZC.out; exact HU.out j (by omega)⟩, by repeat (first | exact Drawn0.refl _ | apply Drawn0.step)⟩
   by_cases c45 : z = 45
   ·have h := HR.out
    have HZC := Aside0.mk (show zc z = true by unfold zc; simp; omega)
    have t33 : decide (z ≥ 97) = false := decide_eq_false (by omega)
    have t34 : decide (z ≥ 65) = false := decide_eq_false (by omega)
    have t35 : decide (z ≥ 48) = false := decide_eq_false (by omega)
    have t_ := idx z HR.out.1 HR.out.2
    rw [show decide (¬ (z = 47 ∨ z = 95 ∨ z = 45 ∨ z = 43)) = false from decide_eq_false (by omega)] at t_
    clear a b c h c47 c45
    go_wp2_with (go_at_call 77; refine (Shelf.strings_IndexByte ⟨#[47, 95, 45, 43]⟩ z _).mono ?_; rintro e w' ⟨rfl, rfl⟩)
    go_roundg k1
    case measure => omega
    case rel => exact ⟨i + 1, _, rfl, ⟨by have := HX.out; have := HS.out; have := HI.out; unfold wrap64; omega⟩, ⟨by have := HI.out; omega⟩, ⟨fun j hj => by by_cases e : j = i; subst e; rw [← HX.out, HZ.out]; exact HZC.out; exact HU.out j (by omega)⟩, by repeat (first | exact Drawn0.refl _ | apply Drawn0.step)⟩
   by_cases c43 : z = 43
   ·have h := HR.out
    have HZC := Aside0.mk (show zc z = true by unfold zc; simp; omega)
    have t36 : decide (z ≥ 97) = false := decide_eq_false (by omega)
    have t37 : decide (z ≥ 65) = false := decide_eq_false (by omega)
    have t38 : decide (z ≥ 48) = false := decide_eq_false (by omega)
    have t_ := idx z HR.out.1 HR.out.2
    rw [show decide (¬ (z = 47 ∨ z = 95 ∨ z = 45 ∨ z = 43)) = false from decide_eq_false (by omega)] at t_
    clear a b c h c47 c45 c43
    go_wp2_with (go_at_call 77; refine (Shelf.strings_IndexByte ⟨#[47, 95, 45, 43]⟩ z _).mono ?_; rintro e w' ⟨rfl, rfl⟩)
    go_roundg k1
    case measure => omega
    case rel => exact ⟨i + 1, _, rfl, ⟨by have := HX.out; have := HS.out; have := HI.out; unfold wrap64; omega⟩, ⟨by have := HI.out; omega⟩, ⟨fun j hj => by by_cases e : j = i; subst e; rw [← HX.out, HZ.out]; exact HZC.out; exact HU.out j (by omega)⟩, by repeat (first | exact Drawn0.refl _ | apply Drawn0.step)⟩
   have h := HR.out
   have HZC := Aside0.mk (show zc z = false by unfold zc; simp; omega)
   have t39 : decide (z ≥ 97) = false := decide_eq_false (by omega)
   have t40 : decide (z ≥ 65) = false := decide_eq_false (by omega)
   have t41 : decide (z ≥ 48) = false := decide_eq_false (by omega)
   have t_ := idx z HR.out.1 HR.out.2
   rw [show decide (¬ (z = 47 ∨ z = 95 ∨ z = 45 ∨ z = 43)) = true from decide_eq_true (by omega)] at t_
   clear a b c h c47 c45 c43
   go_wp2_with (go_at_call 77; refine (Shelf.strings_IndexByte ⟨#[47, 95, 45, 43]⟩ z _).mono ?_; rintro e w' ⟨rfl, rfl⟩)
   go_ret
   exact ⟨by rw [zn_no (s := s) (j := i) (by have := HI.out; omega) (by rw [← HX.out, HZ.out]; exact HZC.out)] <;> rfl, by repeat (first | exact Drawn0.refl _ | apply Drawn0.step)⟩
end Go.Proofs.YtddoidcbpcmlaaaDoor.Zn
namespace Go.Proofs.YtddoidcbpcmlaaaDoor.M
open Go.RowKit Go.Proofs.YtddoidcbpcmlaaaDoorW.PrintWords Go.Proofs.YtddoidcbpcmlaaaDoorW.PrintLast Go.Proofs.YtddoidcbpcmlaaaDoorW.PrintMore
attribute [local go_sem] max2_int min2_int max_two min_two
set_option linter.unusedVariables false
set_option linter.unusedSimpArgs false
/-! ### clock_Right: function 14 -/
def clock_Right.f (a0 : Int) : Option (Bool) := if a0 ≥ 86400 then (some (decide (a0 < 315537984000))) else (some false)
set_option maxHeartbeats 8000000 in
set_option maxRecDepth 100000 in
theorem clock_Right.calls (a0 : Int) (r : Bool) (w : World) (h : clock_Right.f a0 = some r) :
  Calls Tryd.prog 14 #[.int .i64 a0] w fun e w' => e = .returned (.bool r) ∧ Drawn0 w w' := by
 have H : (if a0 ≥ 86400 then (some (decide (a0 < 315537984000))) else (some false)) = some r := h
 clear h
 by_cases c2 : a0 ≥ 86400
 ·rw [if_pos c2] at H
  have c2b0 : decide (86400 ≤ a0) = true := decide_eq_true c2
  clear c2
  obtain rfl := Option.some.inj H
  go_enter Tryd.func14, Tryd.ntmps14
  go_wp2
  go_ret
  exact ⟨by first | rfl | simp | simp [*] | simp [bne_nil_], by repeat (first | exact Drawn0.refl _ | apply Drawn0.step)⟩
 ·rw [if_neg c2] at H
  have c2b0 : decide (86400 ≤ a0) = false := decide_eq_false c2
  clear c2
  obtain rfl := Option.some.inj H
  go_enter Tryd.func14, Tryd.ntmps14
  go_wp2
  go_ret
  exact ⟨by first | rfl | simp | simp [*] | simp [bne_nil_], by repeat (first | exact Drawn0.refl _ | apply Drawn0.step)⟩

/-! ### clock_split: function 76 -/
def clock_split.f (a0 : Int) : Option (Int × Int) := if (Int.tmod a0 86400) < 0 then (some (wrap64 ((wrap64 (Int.tdiv a0 86400)) - 1), wrap64 ((Int.tmod a0 86400) + 86400))) else (some (wrap64 (Int.tdiv a0 86400), Int.tmod a0 86400))
set_option maxHeartbeats 8000000 in
set_option maxRecDepth 100000 in
theorem clock_split.calls (a0 : Int) (r1 : Int) (r2 : Int) (w : World) (h : clock_split.f a0 = some (r1, r2)) :
  Calls Tryd.prog 76 #[.int .i64 a0] w fun e w' => e = .returned (.tuple #[.int .i64 r1, .int .i64 r2]) ∧ Drawn0 w w' := by
 have H : (if (Int.tmod a0 86400) < 0 then (some (wrap64 ((wrap64 (Int.tdiv a0 86400)) - 1), wrap64 ((Int.tmod a0 86400) + 86400))) else (some (wrap64 (Int.tdiv a0 86400), Int.tmod a0 86400))) = some (r1, r2) := h
 clear h
 by_cases c2 : (Int.tmod a0 86400) < 0
 ·rw [if_pos c2] at H
  have c2b0 : decide ((Int.tmod a0 86400) < 0) = true := decide_eq_true c2
  clear c2
  simp only [Option.some.injEq, Prod.mk.injEq] at H
  obtain ⟨rfl, rfl⟩ := H
  go_enter Tryd.func76, Tryd.ntmps76
  go_wp2
  go_ret2
  exact ⟨by first | rfl | simp | simp [*] | simp [bne_nil_], by repeat (first | exact Drawn0.refl _ | apply Drawn0.step)⟩
 ·rw [if_neg c2] at H
  have c2b0 : decide ((Int.tmod a0 86400) < 0) = false := decide_eq_false c2
  clear c2
  simp only [Option.some.injEq, Prod.mk.injEq] at H
  obtain ⟨rfl, rfl⟩ := H
  go_enter Tryd.func76, Tryd.ntmps76
  go_wp2
  go_ret2
  exact ⟨by first | rfl | simp | simp [*] | simp [bne_nil_], by repeat (first | exact Drawn0.refl _ | apply Drawn0.step)⟩

/-! ### clock_Second: function 52 -/
def clock_Second.f (a0 : Int) : Option (Int) := (clock_Right.f a0).bind fun t126 => (if t126 = true then ((clock_split.f a0).bind fun bt127 => (some bt127.2)) else (some 0))
set_option maxHeartbeats 8000000 in
set_option maxRecDepth 100000 in
theorem clock_Second.calls (a0 : Int) (r : Int) (w : World) (h : clock_Second.f a0 = some r) :
  Calls Tryd.prog 52 #[.int .i64 a0] w fun e w' => e = .returned (.int .i64 r) ∧ Drawn0 w w' := by
 have H : ((clock_Right.f a0).bind fun t126 => (if t126 = true then ((clock_split.f a0).bind fun bt127 => (some bt127.2)) else (some 0))) = some r := h
 clear h
 replace H := Option.bind_eq_some_iff.mp H
 obtain ⟨t126, A20, H⟩ := H
 replace H : (if t126 = true then ((clock_split.f a0).bind fun bt127 => (some bt127.2)) else (some 0)) = some r := H
 have A2 := Aside0.mk A20
 clear A20
 by_cases c3 : t126 = true
 ·subst c3
  have H1 : ((clock_split.f a0).bind fun bt127 => (some bt127.2)) = some r := by rw [if_pos rfl] at H; exact H
  clear H
  have H := H1
  clear H1
  replace H := Option.bind_eq_some_iff.mp H
  obtain ⟨⟨t127, t128⟩, A40, H⟩ := H
  replace H : (some t128) = some r := H
  have A4 := Aside0.mk A40
  clear A40
  obtain rfl := Option.some.inj H
  go_enter Tryd.func52, Tryd.ntmps52
  go_wp2_with (first | ((with_reducible refine gate_callee (f := 14) rfl ?_); refine gm_ (some 6) Tryd.func14 #[.int .i64 a0] ?_; (with_reducible refine (clock_Right.calls a0 true _ A2.out).mono ?_); rintro e w' ⟨rfl, ⟨nd, rfl⟩⟩; refine ⟨_, rfl, ?_⟩) | ((with_reducible refine gate_callee (f := 76) rfl ?_); refine gm_ (some 10) Tryd.func76 #[.int .i64 a0] ?_; (with_reducible refine (clock_split.calls a0 t127 t128 _ A4.out).mono ?_); rintro e w' ⟨rfl, ⟨nd, rfl⟩⟩; refine ⟨_, rfl, ?_⟩))
  go_ret
  exact ⟨by first | rfl | simp | simp [*] | simp [bne_nil_], by repeat (first | exact Drawn0.refl _ | apply Drawn0.step)⟩
 ·replace c3 := Bool.eq_false_iff.mpr c3
  subst c3
  have H1 : (some 0) = some r := by rw [if_neg (show ¬ (false = true) by decide)] at H; exact H
  clear H
  have H := H1
  clear H1
  obtain rfl := Option.some.inj H
  go_enter Tryd.func52, Tryd.ntmps52
  go_wp2_with (first | ((with_reducible refine gate_callee (f := 14) rfl ?_); refine gm_ (some 6) Tryd.func14 #[.int .i64 a0] ?_; (with_reducible refine (clock_Right.calls a0 false _ A2.out).mono ?_); rintro e w' ⟨rfl, ⟨nd, rfl⟩⟩; refine ⟨_, rfl, ?_⟩))
  go_ret
  exact ⟨by first | rfl | simp | simp [*] | simp [bne_nil_], by repeat (first | exact Drawn0.refl _ | apply Drawn0.step)⟩

/-! ### trystref01_Right: function 24 -/
def trystref01_Right.f (a0 : Int) : Option (Bool) := if a0 ≥ 86400 then (some (decide (a0 < 315537984000))) else (some false)
set_option maxHeartbeats 8000000 in
set_option maxRecDepth 100000 in
theorem trystref01_Right.calls (a0 : Int) (r : Bool) (w : World) (h : trystref01_Right.f a0 = some r) :
  Calls Tryd.prog 24 #[.int .i64 a0] w fun e w' => e = .returned (.bool r) ∧ Drawn0 w w' := by
 have H : (if a0 ≥ 86400 then (some (decide (a0 < 315537984000))) else (some false)) = some r := h
 clear h
 by_cases c2 : a0 ≥ 86400
 ·rw [if_pos c2] at H
  have c2b0 : decide (86400 ≤ a0) = true := decide_eq_true c2
  clear c2
  obtain rfl := Option.some.inj H
  go_enter Tryd.func24, Tryd.ntmps24
  go_wp2
  go_ret
  exact ⟨by first | rfl | simp | simp [*] | simp [bne_nil_], by repeat (first | exact Drawn0.refl _ | apply Drawn0.step)⟩
 ·rw [if_neg c2] at H
  have c2b0 : decide (86400 ≤ a0) = false := decide_eq_false c2
  clear c2
  obtain rfl := Option.some.inj H
  go_enter Tryd.func24, Tryd.ntmps24
  go_wp2
  go_ret
  exact ⟨by first | rfl | simp | simp [*] | simp [bne_nil_], by repeat (first | exact Drawn0.refl _ | apply Drawn0.step)⟩

end Go.Proofs.YtddoidcbpcmlaaaDoor.M
