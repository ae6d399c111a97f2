/- Texts of this claim, merged: Qisl, QrefDay, FunM, Qper, FunS, CalH. -/
import Derived.Test.YtgbbgcepcnklkaaDoorMgShowLines1
import Derived.Test.YtgbbgcepcnklkaaDoorMgShowLines4
import Derived.Test.YtgbbgcepcnklkaaDoorMgShowLines5
import Derived.BigQuiet
import Derived.Deep.QuietTactic
import Derived.Lib.Hide
import Derived.Test.YtgbbgcepcnklkaaDoorMgShowLines6
import Derived.Test.YtgbbgcepcnklkaaDoorMgShowLines3
-- written by a program of this session (wip/own_print.sh)
namespace Go.Proofs.YtgbbgcepcnklkaaDoor.Q
open Go.RowKit Go.Proofs.YtgbbgcepcnklkaaDoorW.PrintWords Go.Proofs.YtgbbgcepcnklkaaDoorW.PrintLast Go.Proofs.YtgbbgcepcnklkaaDoorW.PrintMore
attribute [local go_sem] max2_int min2_int max_two min_two
set_option linter.unusedVariables false
set_option linter.unusedSimpArgs false
/-! ### islam_first: function 62 -/
def islam_first.f (a0 : Int) : Option (Int) := (rata_Floor.f (wrap64 (3 + (wrap64 (11 * a0)))) 30).bind fun t168 => (some (wrap64 ((wrap64 (227015 + (wrap64 (354 * (wrap64 (a0 - 1)))))) + t168)))
set_option maxHeartbeats 8000000 in
set_option maxRecDepth 100000 in
theorem islam_first.calls (a0 : Int) (r : Int) (w : World) (h : islam_first.f a0 = some r) :
  Calls Tryd.prog 62 #[.int .i64 a0] w fun e w' => e = .returned (.int .i64 r) ∧ Drawn0 w w' := by
 have H : ((rata_Floor.f (wrap64 (3 + (wrap64 (11 * a0)))) 30).bind fun t168 => (some (wrap64 ((wrap64 (227015 + (wrap64 (354 * (wrap64 (a0 - 1)))))) + t168)))) = some r := h
 clear h
 replace H := Option.bind_eq_some_iff.mp H
 obtain ⟨t168, A20, H⟩ := H
 replace H : (some (wrap64 ((wrap64 (227015 + (wrap64 (354 * (wrap64 (a0 - 1)))))) + t168))) = some r := H
 have A2 := Aside0.mk A20
 clear A20
 obtain rfl := Option.some.inj H
 go_enter Tryd.func62, Tryd.ntmps62
 go_wp2_with (first | ((with_reducible refine gate_callee (f := 53) rfl ?_); refine goesL_ (some 10) rfl rfl Tryd.func53 (by kernel_rfl) rfl #[.int .i64 (wrap64 (3 + (wrap64 (11 * a0)))), .int .i64 30] rfl (by (try simp only [List.map_toArray, List.map_cons, List.map_nil]); first | done | rfl | (simp only [List.length_drop, List.length_take]; rfl)) ?_; (with_reducible refine (rata_Floor.calls (wrap64 (3 + (wrap64 (11 * a0)))) 30 t168 _ A2.out).mono ?_); rintro e w' ⟨rfl, ⟨nd, rfl⟩⟩; refine ⟨_, rfl, ?_⟩))
 go_ret
 exact ⟨by first | rfl | (simp; done) | (simp [*]; done) | (simp [bne_nil_]; done), by repeat (first | exact Drawn0.refl _ | apply Drawn0.step)⟩

/-! ### islam_Leap: function 96 -/
def islam_Leap.f (a0 : Int) : Option (Bool) := if a0 ≥ (-10000) then (if a0 ≤ 20000 then ((rata_Mod.f (wrap64 (14 + (wrap64 (11 * a0)))) 30).bind fun t169 => (some (decide (t169 < 11)))) else (some false)) else (some false)
set_option maxHeartbeats 8000000 in
set_option maxRecDepth 100000 in
theorem islam_Leap.calls (a0 : Int) (r : Bool) (w : World) (h : islam_Leap.f a0 = some r) :
  Calls Tryd.prog 96 #[.int .i64 a0] w fun e w' => e = .returned (.bool r) ∧ Drawn0 w w' := by
 have H : (if a0 ≥ (-10000) then (if a0 ≤ 20000 then ((rata_Mod.f (wrap64 (14 + (wrap64 (11 * a0)))) 30).bind fun t169 => (some (decide (t169 < 11)))) else (some false)) else (some false)) = some r := h
 clear h
 by_cases c2 : a0 ≥ (-10000)
 ·rw [if_pos c2] at H
  have c2b0 : decide ((-10000) ≤ a0) = true := decide_eq_true c2
  clear c2
  by_cases c3 : a0 ≤ 20000
  ·rw [if_pos c3] at H
   have c3b0 : decide (a0 ≤ 20000) = true := decide_eq_true c3
   clear c3
   replace H := Option.bind_eq_some_iff.mp H
   obtain ⟨t169, A40, H⟩ := H
   replace H : (some (decide (t169 < 11))) = some r := H
   have A4 := Aside0.mk A40
   clear A40
   obtain rfl := Option.some.inj H
   go_enter Tryd.func96, Tryd.ntmps96
   go_wp2_with (first | (go_at_call 57; (with_reducible refine (rata_Mod.calls (wrap64 (14 + (wrap64 (11 * a0)))) 30 t169 _ A4.out).mono ?_); rintro e w' ⟨rfl, ⟨nd, rfl⟩⟩))
   go_ret
   exact ⟨by first | rfl | (simp; done) | (simp [*]; done) | (simp [bne_nil_]; done), by repeat (first | exact Drawn0.refl _ | apply Drawn0.step)⟩
  ·rw [if_neg c3] at H
   have c3b0 : decide (a0 ≤ 20000) = false := decide_eq_false c3
   clear c3
   obtain rfl := Option.some.inj H
   go_enter Tryd.func96, Tryd.ntmps96
   go_wp2
   go_ret
   exact ⟨by first | rfl | (simp; done) | (simp [*]; done) | (simp [bne_nil_]; done), by repeat (first | exact Drawn0.refl _ | apply Drawn0.step)⟩
 ·rw [if_neg c2] at H
  have c2b0 : decide ((-10000) ≤ a0) = false := decide_eq_false c2
  clear c2
  obtain rfl := Option.some.inj H
  go_enter Tryd.func96, Tryd.ntmps96
  go_wp2
  go_ret
  exact ⟨by first | rfl | (simp; done) | (simp [*]; done) | (simp [bne_nil_]; done), by repeat (first | exact Drawn0.refl _ | apply Drawn0.step)⟩

/-! ### islam_length: function 63 -/
def islam_length.j0 : Nat → Int → Int → Bool → Option (Int)
 | 0, _, _, _ => none
 | k + 1, x0, x1, x5 => if x5 = true then (some 0) else (if (Int.tmod x1 2) = 1 then (some 30) else (if x1 = 12 then ((islam_Leap.f x0).bind fun t170 => (if t170 = true then (some 30) else (some 29))) else (some 29)))
def islam_length.f (k : Nat) (a0 : Int) (a1 : Int) : Option (Int) := if a1 < 1 then (islam_length.j0 k a0 a1 true) else (islam_length.j0 k a0 a1 (decide (a1 > 12)))
set_option maxHeartbeats 8000000 in
set_option maxRecDepth 100000 in
theorem islam_length.calls (k : Nat) (a0 : Int) (a1 : Int) (r : Int) (w : World) (h : islam_length.f k a0 a1 = some r) :
  Calls Tryd.prog 63 #[.int .i64 a0, .int .i64 a1] w fun e w' => e = .returned (.int .i64 r) ∧ Drawn0 w w' := by
 have H : (if a1 < 1 then (islam_length.j0 k a0 a1 true) else (islam_length.j0 k a0 a1 (decide (a1 > 12)))) = some r := h
 clear h
 have HC3 := Aside0.mk H
 clear H
 go_enter Tryd.func63, Tryd.ntmps63
 go_upto_region 1 with (fail)
 go_cut [5] (fun v5 wc => ∃ (kq : Nat) (x5_2 : Bool), v5 = .bool x5_2 ∧ Aside0 (islam_length.j0 kq a0 a1 x5_2 = some r) ∧ Aside0 (kq ≤ k) ∧ Drawn0 w wc)
 case first =>
  have H := HC3.out
  clear HC3
  by_cases c4 : a1 < 1
  ·rw [if_pos c4] at H
   have c4b0 : decide (a1 < 1) = true := decide_eq_true c4
   clear c4
   (first | rw [c4b0] | (simp only [i64_w, i32_w]; rw [c4b0]) | skip)
   have H' := Aside0.mk H
   clear H
   go_wp2
   go_meet
   case rel => exact ⟨_, (true), (by first | rfl | (simp; done) | (simp [*]; done)), H', ⟨by first | omega | exact Nat.le_refl _⟩, by repeat (first | exact Drawn0.refl _ | apply Drawn0.step)⟩
  ·rw [if_neg c4] at H
   have c4b0 : decide (a1 < 1) = false := decide_eq_false c4
   clear c4
   (first | rw [c4b0] | (simp only [i64_w, i32_w]; rw [c4b0]) | skip)
   have H' := Aside0.mk H
   clear H
   go_wp2
   go_meet
   case rel => exact ⟨_, (decide (a1 > 12)), (by first | rfl | (simp; done) | (simp [*]; done)), H', ⟨by first | omega | exact Nat.le_refl _⟩, by repeat (first | exact Drawn0.refl _ | apply Drawn0.step)⟩
 case rest =>
  clear HC3
  try clear p2
  try clear c4
  try clear c4b0
  obtain ⟨kq, x5_2, rfl, HA, HJ2, ⟨mc2, rfl⟩⟩ := hcut
  cases kq with
  | zero => exact absurd HA.out (by simp [islam_length.j0])
  | succ kj2 =>
   have H := HA.out
   clear HA
   simp only [islam_length.j0] at H
   by_cases c5 : x5_2 = true
   ·subst c5
    have H1 : (some 0) = some r := by rw [if_pos rfl] at H; exact H
    clear H
    have H := H1
    clear H1
    obtain rfl := Option.some.inj H
    go_wp2
    go_ret
    exact ⟨by first | rfl | (simp; done) | (simp [*]; done) | (simp [bne_nil_]; done), by repeat (first | exact Drawn0.refl _ | apply Drawn0.step)⟩
   ·replace c5 := Bool.eq_false_iff.mpr c5
    subst c5
    have H1 : (if (Int.tmod a1 2) = 1 then (some 30) else (if a1 = 12 then ((islam_Leap.f a0).bind fun t170 => (if t170 = true then (some 30) else (some 29))) else (some 29))) = some r := by rw [if_neg (show ¬ (false = true) by decide)] at H; exact H
    clear H
    have H := H1
    clear H1
    by_cases c6 : (Int.tmod a1 2) = 1
    ·rw [if_pos c6] at H
     have c6b0 : ((Int.tmod a1 2) == 1) = true := beq_iff_eq.mpr c6
     have c6b1 : ((Int.tmod a1 2) != 1) = false := bne_eq_false_iff_eq.mpr c6
     clear c6
     obtain rfl := Option.some.inj H
     go_wp2
     go_ret
     exact ⟨by first | rfl | (simp; done) | (simp [*]; done) | (simp [bne_nil_]; done), by repeat (first | exact Drawn0.refl _ | apply Drawn0.step)⟩
    ·rw [if_neg c6] at H
     have c6b0 : ((Int.tmod a1 2) == 1) = false := beq_eq_false_iff_ne.mpr c6
     have c6b1 : ((Int.tmod a1 2) != 1) = true := bne_iff_ne.mpr c6
     by_cases c7 : a1 = 12
     ·rw [if_pos c7] at H
      have c7b0 : (a1 == 12) = true := beq_iff_eq.mpr c7
      have c7b1 : (a1 != 12) = false := bne_eq_false_iff_eq.mpr c7
      clear c7
      replace H := Option.bind_eq_some_iff.mp H
      obtain ⟨t170, A80, H⟩ := H
      replace H : (if t170 = true then (some 30) else (some 29)) = some r := H
      have A8 := Aside0.mk A80
      clear A80
      by_cases c9 : t170 = true
      ·subst c9
       have H1 : (some 30) = some r := by rw [if_pos rfl] at H; exact H
       clear H
       have H := H1
       clear H1
       obtain rfl := Option.some.inj H
       go_wp2_with (first | (go_at_call 96; (with_reducible refine (islam_Leap.calls a0 true _ A8.out).mono ?_); rintro e w' ⟨rfl, ⟨nd, rfl⟩⟩))
       go_ret
       exact ⟨by first | rfl | (simp; done) | (simp [*]; done) | (simp [bne_nil_]; done), by repeat (first | exact Drawn0.refl _ | apply Drawn0.step)⟩
      ·replace c9 := Bool.eq_false_iff.mpr c9
       subst c9
       have H1 : (some 29) = some r := by rw [if_neg (show ¬ (false = true) by decide)] at H; exact H
       clear H
       have H := H1
       clear H1
       obtain rfl := Option.some.inj H
       go_wp2_with (first | (go_at_call 96; (with_reducible refine (islam_Leap.calls a0 false _ A8.out).mono ?_); rintro e w' ⟨rfl, ⟨nd, rfl⟩⟩))
       go_ret
       exact ⟨by first | rfl | (simp; done) | (simp [*]; done) | (simp [bne_nil_]; done), by repeat (first | exact Drawn0.refl _ | apply Drawn0.step)⟩
     ·rw [if_neg c7] at H
      have c7b0 : (a1 == 12) = false := beq_eq_false_iff_ne.mpr c7
      have c7b1 : (a1 != 12) = true := bne_iff_ne.mpr c7
      obtain rfl := Option.some.inj H
      go_wp2
      go_ret
      exact ⟨by first | rfl | (simp; done) | (simp [*]; done) | (simp [bne_nil_]; done), by repeat (first | exact Drawn0.refl _ | apply Drawn0.step)⟩

/-! ### islam_FromIslamic: function 44 -/
end Go.Proofs.YtgbbgcepcnklkaaDoor.Q
/- The reference's Day, walked: it tells a date's day, or an error, as trystref01_Day.f reckons it. -/
namespace Go.Proofs.YtgbbgcepcnklkaaDoor.Q
theorem kept_YtgbbgcepcnklkaaDoorQrefDay : True := trivial
open Go.RowKit Go.Proofs.YtgbbgcepcnklkaaDoorW.PrintWords Go.Proofs.YtgbbgcepcnklkaaDoorW.PrintLast
set_option linter.unusedVariables false
set_option linter.unusedSimpArgs false
end Go.Proofs.YtgbbgcepcnklkaaDoor.Q
/- The Islamic calendar: what the package islam and the reference reckon, in plain numbers. -/
namespace Go.Proofs.YtgbbgcepcnklkaaDoor.FunM
open Go.RowKit Go.Proofs.YtgbbgcepcnklkaaDoorW.PrintWords Go.Proofs.YtgbbgcepcnklkaaDoorW.PrintLast Go.Proofs.YtgbbgcepcnklkaaDoor.Q Go.Proofs.YtgbbgcepcnklkaaDoor.Cal Go.Proofs.YtgbbgcepcnklkaaDoor.FunA Go.Proofs.YtgbbgcepcnklkaaDoor.FunB Go.Proofs.YtgbbgcepcnklkaaDoor.FunJ Go.Proofs.YtgbbgcepcnklkaaDoor.Cal3
set_option linter.unusedVariables false
set_option linter.unusedSimpArgs false
theorem ibd (y : Int) (h : -40000 ≤ y) (h' : y ≤ 40000) : -15000000 ≤ ib y ∧ ib y ≤ 15000000 := by unfold ib; omega
theorem mLeap (y : Int) (h : -10000 ≤ y) (h' : y ≤ 20000) : islam_Leap.f y = some (decide (li y = 1)) := by
 unfold islam_Leap.f
 rw [if_pos h, if_pos h', w64 (x := 11 * y) (by omega) (by omega), w64 (x := 14 + 11 * y) (by omega) (by omega), rMod _ 30 (by omega) (by omega) ⟨by omega, by omega⟩, Option.bind_some]
 unfold li
 by_cases c : (14 + 11 * y) % 30 < 11
 ·simp [c]
 ·simp [c]
theorem mLength (k : Nat) (hk : 1 ≤ k) (y m : Int) (h : -10000 ≤ y) (h' : y ≤ 20000) : islam_length.f k y m = some (il (li y) m) := by
 obtain ⟨k, rfl⟩ : ∃ j, k = j + 1 := ⟨k - 1, by omega⟩
 unfold islam_length.f il
 by_cases a : m < 1
 ·rw [if_pos a, if_pos (Or.inl a)]; simp only [islam_length.j0, if_true]
 ·rw [if_neg a]
  by_cases b : m > 12
  ·rw [decide_eq_true b, if_pos (Or.inr (by omega))]; simp only [islam_length.j0, if_true]
  ·rw [decide_eq_false b, if_neg (by omega)]
   simp only [islam_length.j0]
   rw [if_neg (by simp), Int.tmod_eq_emod_of_nonneg (by omega)]
   by_cases c : m % 2 = 1
   ·rw [if_pos c, if_pos c]
   ·rw [if_neg c, if_neg c]
    by_cases e : m = 12
    ·rw [if_pos e, if_pos e, mLeap y h h', Option.bind_some]
     rcases li_01 y with q | q <;> rw [q] <;> simp
    ·rw [if_neg e, if_neg e]
theorem mFirst (y : Int) (h : -10000 ≤ y) (h' : y ≤ 20000) : islam_first.f y = some (ib y + 1) := by
 unfold islam_first.f
 rw [w64 (x := 11 * y) (by omega) (by omega), w64 (x := 3 + 11 * y) (by omega) (by omega), rFloor _ 30 (by omega) ⟨by omega, by omega⟩, Option.bind_some]
 unfold ib
 have q2 : -15000 ≤ (3 + 11 * y) / 30 ∧ (3 + 11 * y) / 30 ≤ 15000 := by omega
 generalize (3 + 11 * y) / 30 = b at q2 ⊢
 rw [w64 (x := y - 1) (by omega) (by omega), w64 (x := 354 * (y - 1)) (by omega) (by omega), w64 (x := 227015 + 354 * (y - 1)) (by omega) (by omega), w64 (by omega) (by omega)]
 congr 1; omega
theorem fIsl (y m d : Int) (h : -40000 ≤ y) (h' : y ≤ 40000) (hm : 1 ≤ m) (hm' : m ≤ 100) (hd : -100000 ≤ d) (hd' : d ≤ 100000) : trystref01_islamic.f y m d = some (ib y + ic m + d) := by
 unfold trystref01_islamic.f
 rw [w64 (x := 6 * m) (by omega) (by omega), w64 (x := 6 * m - 1) (by omega) (by omega), fFloor _ 11 (by omega) (by omega) ⟨by omega, by omega⟩, Option.bind_some, w64 (x := 11 * y) (by omega) (by omega), w64 (x := 3 + 11 * y) (by omega) (by omega), fFloor _ 30 (by omega) (by omega) ⟨by omega, by omega⟩, Option.bind_some]
 unfold ib ic
 have q1 : 0 ≤ (6 * m - 1) / 11 ∧ (6 * m - 1) / 11 ≤ 60 := by omega
 have q2 : -15000 ≤ (3 + 11 * y) / 30 ∧ (3 + 11 * y) / 30 ≤ 15000 := by omega
 generalize (6 * m - 1) / 11 = a at q1 ⊢
 generalize (3 + 11 * y) / 30 = b at q2 ⊢
 rw [w64 (x := m - 1) (by omega) (by omega), w64 (x := 29 * (m - 1)) (by omega) (by omega), w64 (x := d + 29 * (m - 1)) (by omega) (by omega), w64 (x := d + 29 * (m - 1) + a) (by omega) (by omega), w64 (x := y - 1) (by omega) (by omega), w64 (x := 354 * (y - 1)) (by omega) (by omega), w64 (x := d + 29 * (m - 1) + a + 354 * (y - 1)) (by omega) (by omega), w64 (x := d + 29 * (m - 1) + a + 354 * (y - 1) + b) (by omega) (by omega), w64 (by omega) (by omega)]
 congr 1; omega
theorem fFixed4 (k : Nat) (y m d : Int) (h : -40000 ≤ y) (h' : y ≤ 40000) (hm : 1 ≤ m) (hm' : m ≤ 100) (hd : -100000 ≤ d) (hd' : d ≤ 100000) : trystref01_Fixed.f k 4 y m d = some (ib y + ic m + d) := by
 unfold trystref01_Fixed.f
 rw [if_neg (by omega), if_neg (by omega), if_neg (by omega), if_neg (by omega), if_pos rfl, fIsl y m d h h' hm hm' hd hd', Option.bind_some]
end Go.Proofs.YtgbbgcepcnklkaaDoor.FunM
-- written by a program of this session (wip/own_print.sh)
namespace Go.Proofs.YtgbbgcepcnklkaaDoor.Q
open Go.RowKit Go.Proofs.YtgbbgcepcnklkaaDoorW.PrintWords Go.Proofs.YtgbbgcepcnklkaaDoorW.PrintLast Go.Proofs.YtgbbgcepcnklkaaDoorW.PrintMore
attribute [local go_sem] max2_int min2_int max_two min_two
set_option linter.unusedVariables false
set_option linter.unusedSimpArgs false
/-! ### persian_shifted: function 97 -/
def persian_shifted.f (a0 : Int) : Option (Int) := if a0 > 0 then (some (wrap64 (a0 - 474))) else (some (wrap64 ((wrap64 (a0 - 474)) + 1)))
set_option maxHeartbeats 8000000 in
set_option maxRecDepth 100000 in
theorem persian_shifted.calls (a0 : Int) (r : Int) (w : World) (h : persian_shifted.f a0 = some r) :
  Calls Tryd.prog 97 #[.int .i64 a0] w fun e w' => e = .returned (.int .i64 r) ∧ Drawn0 w w' := by
 have H : (if a0 > 0 then (some (wrap64 (a0 - 474))) else (some (wrap64 ((wrap64 (a0 - 474)) + 1)))) = some r := h
 clear h
 by_cases c2 : a0 > 0
 ·rw [if_pos c2] at H
  have c2b0 : decide (0 < a0) = true := decide_eq_true c2
  clear c2
  obtain rfl := Option.some.inj H
  go_enter Tryd.func97, Tryd.ntmps97
  go_wp2
  go_ret
  exact ⟨by first | rfl | (simp; done) | (simp [*]; done) | (simp [bne_nil_]; done), by repeat (first | exact Drawn0.refl _ | apply Drawn0.step)⟩
 ·rw [if_neg c2] at H
  have c2b0 : decide (0 < a0) = false := decide_eq_false c2
  clear c2
  obtain rfl := Option.some.inj H
  go_enter Tryd.func97, Tryd.ntmps97
  go_wp2
  go_ret
  exact ⟨by first | rfl | (simp; done) | (simp [*]; done) | (simp [bne_nil_]; done), by repeat (first | exact Drawn0.refl _ | apply Drawn0.step)⟩

/-! ### persian_first: function 64 -/
def persian_first.f (a0 : Int) : Option (Int) := (persian_shifted.f a0).bind fun t178 => ((rata_Mod.f t178 2820).bind fun t179 => ((rata_Floor.f t178 2820).bind fun t180 => ((rata_Floor.f (wrap64 ((wrap64 (31 * (wrap64 (t179 + 474)))) - 5)) 128).bind fun t181 => (some (wrap64 ((wrap64 ((wrap64 (226896 + (wrap64 (1029983 * t180)))) + (wrap64 (365 * (wrap64 ((wrap64 (t179 + 474)) - 1)))))) + t181))))))
set_option maxHeartbeats 8000000 in
set_option maxRecDepth 100000 in
theorem persian_first.calls (a0 : Int) (r : Int) (w : World) (h : persian_first.f a0 = some r) :
  Calls Tryd.prog 64 #[.int .i64 a0] w fun e w' => e = .returned (.int .i64 r) ∧ Drawn0 w w' := by
 have H : ((persian_shifted.f a0).bind fun t178 => ((rata_Mod.f t178 2820).bind fun t179 => ((rata_Floor.f t178 2820).bind fun t180 => ((rata_Floor.f (wrap64 ((wrap64 (31 * (wrap64 (t179 + 474)))) - 5)) 128).bind fun t181 => (some (wrap64 ((wrap64 ((wrap64 (226896 + (wrap64 (1029983 * t180)))) + (wrap64 (365 * (wrap64 ((wrap64 (t179 + 474)) - 1)))))) + t181))))))) = some r := h
 clear h
 replace H := Option.bind_eq_some_iff.mp H
 obtain ⟨t178, A20, H⟩ := H
 replace H : ((rata_Mod.f t178 2820).bind fun t179 => ((rata_Floor.f t178 2820).bind fun t180 => ((rata_Floor.f (wrap64 ((wrap64 (31 * (wrap64 (t179 + 474)))) - 5)) 128).bind fun t181 => (some (wrap64 ((wrap64 ((wrap64 (226896 + (wrap64 (1029983 * t180)))) + (wrap64 (365 * (wrap64 ((wrap64 (t179 + 474)) - 1)))))) + t181)))))) = some r := H
 have A2 := Aside0.mk A20
 clear A20
 replace H := Option.bind_eq_some_iff.mp H
 obtain ⟨t179, A30, H⟩ := H
 replace H : ((rata_Floor.f t178 2820).bind fun t180 => ((rata_Floor.f (wrap64 ((wrap64 (31 * (wrap64 (t179 + 474)))) - 5)) 128).bind fun t181 => (some (wrap64 ((wrap64 ((wrap64 (226896 + (wrap64 (1029983 * t180)))) + (wrap64 (365 * (wrap64 ((wrap64 (t179 + 474)) - 1)))))) + t181))))) = some r := H
 have A3 := Aside0.mk A30
 clear A30
 replace H := Option.bind_eq_some_iff.mp H
 obtain ⟨t180, A40, H⟩ := H
 replace H : ((rata_Floor.f (wrap64 ((wrap64 (31 * (wrap64 (t179 + 474)))) - 5)) 128).bind fun t181 => (some (wrap64 ((wrap64 ((wrap64 (226896 + (wrap64 (1029983 * t180)))) + (wrap64 (365 * (wrap64 ((wrap64 (t179 + 474)) - 1)))))) + t181)))) = some r := H
 have A4 := Aside0.mk A40
 clear A40
 replace H := Option.bind_eq_some_iff.mp H
 obtain ⟨t181, A50, H⟩ := H
 replace H : (some (wrap64 ((wrap64 ((wrap64 (226896 + (wrap64 (1029983 * t180)))) + (wrap64 (365 * (wrap64 ((wrap64 (t179 + 474)) - 1)))))) + t181))) = some r := H
 have A5 := Aside0.mk A50
 clear A50
 obtain rfl := Option.some.inj H
 go_enter Tryd.func64, Tryd.ntmps64
 go_wp2_with (first | ((with_reducible refine gate_callee (f := 97) rfl ?_); refine goesL_ (some 6) rfl rfl Tryd.func97 (by kernel_rfl) rfl #[.int .i64 a0] rfl (by (try simp only [List.map_toArray, List.map_cons, List.map_nil]); first | done | rfl | (simp only [List.length_drop, List.length_take]; rfl)) ?_; (with_reducible refine (persian_shifted.calls a0 t178 _ A2.out).mono ?_); rintro e w' ⟨rfl, ⟨nd, rfl⟩⟩; refine ⟨_, rfl, ?_⟩) | ((with_reducible refine gate_callee (f := 57) rfl ?_); refine goesL_ (some 8) rfl rfl Tryd.func57 (by kernel_rfl) rfl #[.int .i64 t178, .int .i64 2820] rfl (by (try simp only [List.map_toArray, List.map_cons, List.map_nil]); first | done | rfl | (simp only [List.length_drop, List.length_take]; rfl)) ?_; (with_reducible refine (rata_Mod.calls t178 2820 t179 _ A3.out).mono ?_); rintro e w' ⟨rfl, ⟨nd, rfl⟩⟩; refine ⟨_, rfl, ?_⟩) | ((with_reducible refine gate_callee (f := 53) rfl ?_); refine goesL_ (some 11) rfl rfl Tryd.func53 (by kernel_rfl) rfl #[.int .i64 t178, .int .i64 2820] rfl (by (try simp only [List.map_toArray, List.map_cons, List.map_nil]); first | done | rfl | (simp only [List.length_drop, List.length_take]; rfl)) ?_; (with_reducible refine (rata_Floor.calls t178 2820 t180 _ A4.out).mono ?_); rintro e w' ⟨rfl, ⟨nd, rfl⟩⟩; refine ⟨_, rfl, ?_⟩) | ((with_reducible refine gate_callee (f := 53) rfl ?_); refine goesL_ (some 21) rfl rfl Tryd.func53 (by kernel_rfl) rfl #[.int .i64 (wrap64 ((wrap64 (31 * (wrap64 (t179 + 474)))) - 5)), .int .i64 128] rfl (by (try simp only [List.map_toArray, List.map_cons, List.map_nil]); first | done | rfl | (simp only [List.length_drop, List.length_take]; rfl)) ?_; (with_reducible refine (rata_Floor.calls (wrap64 ((wrap64 (31 * (wrap64 (t179 + 474)))) - 5)) 128 t181 _ A5.out).mono ?_); rintro e w' ⟨rfl, ⟨nd, rfl⟩⟩; refine ⟨_, rfl, ?_⟩))
 go_ret
 exact ⟨by first | rfl | (simp; done) | (simp [*]; done) | (simp [bne_nil_]; done), by repeat (first | exact Drawn0.refl _ | apply Drawn0.step)⟩

/-! ### persian_next: function 65 -/
def persian_next.f (a0 : Int) : Option (Int) := if a0 = (-1) then (some 1) else (some (wrap64 (a0 + 1)))
set_option maxHeartbeats 8000000 in
set_option maxRecDepth 100000 in
theorem persian_next.calls (a0 : Int) (r : Int) (w : World) (h : persian_next.f a0 = some r) :
  Calls Tryd.prog 65 #[.int .i64 a0] w fun e w' => e = .returned (.int .i64 r) ∧ Drawn0 w w' := by
 have H : (if a0 = (-1) then (some 1) else (some (wrap64 (a0 + 1)))) = some r := h
 clear h
 by_cases c2 : a0 = (-1)
 ·rw [if_pos c2] at H
  have c2b0 : (a0 == (-1)) = true := beq_iff_eq.mpr c2
  have c2b1 : (a0 != (-1)) = false := bne_eq_false_iff_eq.mpr c2
  clear c2
  obtain rfl := Option.some.inj H
  go_enter Tryd.func65, Tryd.ntmps65
  go_wp2
  go_ret
  exact ⟨by first | rfl | (simp; done) | (simp [*]; done) | (simp [bne_nil_]; done), by repeat (first | exact Drawn0.refl _ | apply Drawn0.step)⟩
 ·rw [if_neg c2] at H
  have c2b0 : (a0 == (-1)) = false := beq_eq_false_iff_ne.mpr c2
  have c2b1 : (a0 != (-1)) = true := bne_iff_ne.mpr c2
  obtain rfl := Option.some.inj H
  go_enter Tryd.func65, Tryd.ntmps65
  go_wp2
  go_ret
  exact ⟨by first | rfl | (simp; done) | (simp [*]; done) | (simp [bne_nil_]; done), by repeat (first | exact Drawn0.refl _ | apply Drawn0.step)⟩

/-! ### persian_right: function 86 -/
def persian_right.f (a0 : Int) : Option (Bool) := if a0 ≥ (-10000) then (if a0 ≤ 20000 then (some (a0 != 0)) else (some false)) else (some false)
set_option maxHeartbeats 8000000 in
set_option maxRecDepth 100000 in
theorem persian_right.calls (a0 : Int) (r : Bool) (w : World) (h : persian_right.f a0 = some r) :
  Calls Tryd.prog 86 #[.int .i64 a0] w fun e w' => e = .returned (.bool r) ∧ Drawn0 w w' := by
 have H : (if a0 ≥ (-10000) then (if a0 ≤ 20000 then (some (a0 != 0)) else (some false)) else (some false)) = some r := h
 clear h
 by_cases c2 : a0 ≥ (-10000)
 ·rw [if_pos c2] at H
  have c2b0 : decide ((-10000) ≤ a0) = true := decide_eq_true c2
  clear c2
  by_cases c3 : a0 ≤ 20000
  ·rw [if_pos c3] at H
   have c3b0 : decide (a0 ≤ 20000) = true := decide_eq_true c3
   clear c3
   obtain rfl := Option.some.inj H
   go_enter Tryd.func86, Tryd.ntmps86
   go_wp2
   go_ret
   exact ⟨by first | rfl | (simp; done) | (simp [*]; done) | (simp [bne_nil_]; done), by repeat (first | exact Drawn0.refl _ | apply Drawn0.step)⟩
  ·rw [if_neg c3] at H
   have c3b0 : decide (a0 ≤ 20000) = false := decide_eq_false c3
   clear c3
   obtain rfl := Option.some.inj H
   go_enter Tryd.func86, Tryd.ntmps86
   go_wp2
   go_ret
   exact ⟨by first | rfl | (simp; done) | (simp [*]; done) | (simp [bne_nil_]; done), by repeat (first | exact Drawn0.refl _ | apply Drawn0.step)⟩
 ·rw [if_neg c2] at H
  have c2b0 : decide ((-10000) ≤ a0) = false := decide_eq_false c2
  clear c2
  obtain rfl := Option.some.inj H
  go_enter Tryd.func86, Tryd.ntmps86
  go_wp2
  go_ret
  exact ⟨by first | rfl | (simp; done) | (simp [*]; done) | (simp [bne_nil_]; done), by repeat (first | exact Drawn0.refl _ | apply Drawn0.step)⟩

/-! ### persian_Leap: function 98 -/
def persian_Leap.f (a0 : Int) : Option (Bool) := (persian_shifted.f a0).bind fun t182 => ((rata_Mod.f t182 2820).bind fun t183 => ((persian_right.f a0).bind fun t184 => (if t184 = true then ((rata_Mod.f (wrap64 ((wrap64 ((wrap64 (t183 + 474)) + 38)) * 31)) 128).bind fun t185 => (some (decide (t185 < 31)))) else (some false))))
set_option maxHeartbeats 8000000 in
set_option maxRecDepth 100000 in
theorem persian_Leap.calls (a0 : Int) (r : Bool) (w : World) (h : persian_Leap.f a0 = some r) :
  Calls Tryd.prog 98 #[.int .i64 a0] w fun e w' => e = .returned (.bool r) ∧ Drawn0 w w' := by
 have H : ((persian_shifted.f a0).bind fun t182 => ((rata_Mod.f t182 2820).bind fun t183 => ((persian_right.f a0).bind fun t184 => (if t184 = true then ((rata_Mod.f (wrap64 ((wrap64 ((wrap64 (t183 + 474)) + 38)) * 31)) 128).bind fun t185 => (some (decide (t185 < 31)))) else (some false))))) = some r := h
 clear h
 replace H := Option.bind_eq_some_iff.mp H
 obtain ⟨t182, A20, H⟩ := H
 replace H : ((rata_Mod.f t182 2820).bind fun t183 => ((persian_right.f a0).bind fun t184 => (if t184 = true then ((rata_Mod.f (wrap64 ((wrap64 ((wrap64 (t183 + 474)) + 38)) * 31)) 128).bind fun t185 => (some (decide (t185 < 31)))) else (some false)))) = some r := H
 have A2 := Aside0.mk A20
 clear A20
 replace H := Option.bind_eq_some_iff.mp H
 obtain ⟨t183, A30, H⟩ := H
 replace H : ((persian_right.f a0).bind fun t184 => (if t184 = true then ((rata_Mod.f (wrap64 ((wrap64 ((wrap64 (t183 + 474)) + 38)) * 31)) 128).bind fun t185 => (some (decide (t185 < 31)))) else (some false))) = some r := H
 have A3 := Aside0.mk A30
 clear A30
 replace H := Option.bind_eq_some_iff.mp H
 obtain ⟨t184, A40, H⟩ := H
 replace H : (if t184 = true then ((rata_Mod.f (wrap64 ((wrap64 ((wrap64 (t183 + 474)) + 38)) * 31)) 128).bind fun t185 => (some (decide (t185 < 31)))) else (some false)) = some r := H
 have A4 := Aside0.mk A40
 clear A40
 by_cases c5 : t184 = true
 ·subst c5
  have H1 : ((rata_Mod.f (wrap64 ((wrap64 ((wrap64 (t183 + 474)) + 38)) * 31)) 128).bind fun t185 => (some (decide (t185 < 31)))) = some r := by rw [if_pos rfl] at H; exact H
  clear H
  have H := H1
  clear H1
  replace H := Option.bind_eq_some_iff.mp H
  obtain ⟨t185, A60, H⟩ := H
  replace H : (some (decide (t185 < 31))) = some r := H
  have A6 := Aside0.mk A60
  clear A60
  obtain rfl := Option.some.inj H
  go_enter Tryd.func98, Tryd.ntmps98
  go_wp2_with (first | ((with_reducible refine gate_callee (f := 97) rfl ?_); refine goesL_ (some 5) rfl rfl Tryd.func97 (by kernel_rfl) rfl #[.int .i64 a0] rfl (by (try simp only [List.map_toArray, List.map_cons, List.map_nil]); first | done | rfl | (simp only [List.length_drop, List.length_take]; rfl)) ?_; (with_reducible refine (persian_shifted.calls a0 t182 _ A2.out).mono ?_); rintro e w' ⟨rfl, ⟨nd, rfl⟩⟩; refine ⟨_, rfl, ?_⟩) | ((with_reducible refine gate_callee (f := 57) rfl ?_); refine goesL_ (some 6) rfl rfl Tryd.func57 (by kernel_rfl) rfl #[.int .i64 t182, .int .i64 2820] rfl (by (try simp only [List.map_toArray, List.map_cons, List.map_nil]); first | done | rfl | (simp only [List.length_drop, List.length_take]; rfl)) ?_; (with_reducible refine (rata_Mod.calls t182 2820 t183 _ A3.out).mono ?_); rintro e w' ⟨rfl, ⟨nd, rfl⟩⟩; refine ⟨_, rfl, ?_⟩) | ((with_reducible refine gate_callee (f := 86) rfl ?_); refine goesL_ (some 9) rfl rfl Tryd.func86 (by kernel_rfl) rfl #[.int .i64 a0] rfl (by (try simp only [List.map_toArray, List.map_cons, List.map_nil]); first | done | rfl | (simp only [List.length_drop, List.length_take]; rfl)) ?_; (with_reducible refine (persian_right.calls a0 true _ A4.out).mono ?_); rintro e w' ⟨rfl, ⟨nd, rfl⟩⟩; refine ⟨_, rfl, ?_⟩) | (go_at_call 57; (with_reducible refine (rata_Mod.calls (wrap64 ((wrap64 ((wrap64 (t183 + 474)) + 38)) * 31)) 128 t185 _ A6.out).mono ?_); rintro e w' ⟨rfl, ⟨nd, rfl⟩⟩))
  go_ret
  exact ⟨by first | rfl | (simp; done) | (simp [*]; done) | (simp [bne_nil_]; done), by repeat (first | exact Drawn0.refl _ | apply Drawn0.step)⟩
 ·replace c5 := Bool.eq_false_iff.mpr c5
  subst c5
  have H1 : (some false) = some r := by rw [if_neg (show ¬ (false = true) by decide)] at H; exact H
  clear H
  have H := H1
  clear H1
  obtain rfl := Option.some.inj H
  go_enter Tryd.func98, Tryd.ntmps98
  go_wp2_with (first | ((with_reducible refine gate_callee (f := 97) rfl ?_); refine goesL_ (some 5) rfl rfl Tryd.func97 (by kernel_rfl) rfl #[.int .i64 a0] rfl (by (try simp only [List.map_toArray, List.map_cons, List.map_nil]); first | done | rfl | (simp only [List.length_drop, List.length_take]; rfl)) ?_; (with_reducible refine (persian_shifted.calls a0 t182 _ A2.out).mono ?_); rintro e w' ⟨rfl, ⟨nd, rfl⟩⟩; refine ⟨_, rfl, ?_⟩) | ((with_reducible refine gate_callee (f := 57) rfl ?_); refine goesL_ (some 6) rfl rfl Tryd.func57 (by kernel_rfl) rfl #[.int .i64 t182, .int .i64 2820] rfl (by (try simp only [List.map_toArray, List.map_cons, List.map_nil]); first | done | rfl | (simp only [List.length_drop, List.length_take]; rfl)) ?_; (with_reducible refine (rata_Mod.calls t182 2820 t183 _ A3.out).mono ?_); rintro e w' ⟨rfl, ⟨nd, rfl⟩⟩; refine ⟨_, rfl, ?_⟩) | ((with_reducible refine gate_callee (f := 86) rfl ?_); refine goesL_ (some 9) rfl rfl Tryd.func86 (by kernel_rfl) rfl #[.int .i64 a0] rfl (by (try simp only [List.map_toArray, List.map_cons, List.map_nil]); first | done | rfl | (simp only [List.length_drop, List.length_take]; rfl)) ?_; (with_reducible refine (persian_right.calls a0 false _ A4.out).mono ?_); rintro e w' ⟨rfl, ⟨nd, rfl⟩⟩; refine ⟨_, rfl, ?_⟩))
  go_ret
  exact ⟨by first | rfl | (simp; done) | (simp [*]; done) | (simp [bne_nil_]; done), by repeat (first | exact Drawn0.refl _ | apply Drawn0.step)⟩

/-! ### persian_length: function 66 -/
def persian_length.j0 : Nat → Int → Int → Bool → Option (Int)
 | 0, _, _, _ => none
 | k + 1, x0, x1, x5 => if x5 = true then (some 0) else (if x1 ≤ 6 then (some 31) else (if x1 < 12 then (some 30) else ((persian_Leap.f x0).bind fun t186 => (if t186 = true then (some 30) else (some 29)))))
def persian_length.f (k : Nat) (a0 : Int) (a1 : Int) : Option (Int) := if a1 < 1 then (persian_length.j0 k a0 a1 true) else (persian_length.j0 k a0 a1 (decide (a1 > 12)))
set_option maxHeartbeats 8000000 in
set_option maxRecDepth 100000 in
theorem persian_length.calls (k : Nat) (a0 : Int) (a1 : Int) (r : Int) (w : World) (h : persian_length.f k a0 a1 = some r) :
  Calls Tryd.prog 66 #[.int .i64 a0, .int .i64 a1] w fun e w' => e = .returned (.int .i64 r) ∧ Drawn0 w w' := by
 have H : (if a1 < 1 then (persian_length.j0 k a0 a1 true) else (persian_length.j0 k a0 a1 (decide (a1 > 12)))) = some r := h
 clear h
 have HC3 := Aside0.mk H
 clear H
 go_enter Tryd.func66, Tryd.ntmps66
 go_upto_region 1 with (fail)
 go_cut [5] (fun v5 wc => ∃ (kq : Nat) (x5_2 : Bool), v5 = .bool x5_2 ∧ Aside0 (persian_length.j0 kq a0 a1 x5_2 = some r) ∧ Aside0 (kq ≤ k) ∧ Drawn0 w wc)
 case first =>
  have H := HC3.out
  clear HC3
  by_cases c4 : a1 < 1
  ·rw [if_pos c4] at H
   have c4b0 : decide (a1 < 1) = true := decide_eq_true c4
   clear c4
   (first | rw [c4b0] | (simp only [i64_w, i32_w]; rw [c4b0]) | skip)
   have H' := Aside0.mk H
   clear H
   go_wp2
   go_meet
   case rel => exact ⟨_, (true), (by first | rfl | (simp; done) | (simp [*]; done)), H', ⟨by first | omega | exact Nat.le_refl _⟩, by repeat (first | exact Drawn0.refl _ | apply Drawn0.step)⟩
  ·rw [if_neg c4] at H
   have c4b0 : decide (a1 < 1) = false := decide_eq_false c4
   clear c4
   (first | rw [c4b0] | (simp only [i64_w, i32_w]; rw [c4b0]) | skip)
   have H' := Aside0.mk H
   clear H
   go_wp2
   go_meet
   case rel => exact ⟨_, (decide (a1 > 12)), (by first | rfl | (simp; done) | (simp [*]; done)), H', ⟨by first | omega | exact Nat.le_refl _⟩, by repeat (first | exact Drawn0.refl _ | apply Drawn0.step)⟩
 case rest =>
  clear HC3
  try clear p2
  try clear c4
  try clear c4b0
  obtain ⟨kq, x5_2, rfl, HA, HJ2, ⟨mc2, rfl⟩⟩ := hcut
  cases kq with
  | zero => exact absurd HA.out (by simp [persian_length.j0])
  | succ kj2 =>
   have H := HA.out
   clear HA
   simp only [persian_length.j0] at H
   by_cases c5 : x5_2 = true
   ·subst c5
    have H1 : (some 0) = some r := by rw [if_pos rfl] at H; exact H
    clear H
    have H := H1
    clear H1
    obtain rfl := Option.some.inj H
    go_wp2
    go_ret
    exact ⟨by first | rfl | (simp; done) | (simp [*]; done) | (simp [bne_nil_]; done), by repeat (first | exact Drawn0.refl _ | apply Drawn0.step)⟩
   ·replace c5 := Bool.eq_false_iff.mpr c5
    subst c5
    have H1 : (if a1 ≤ 6 then (some 31) else (if a1 < 12 then (some 30) else ((persian_Leap.f a0).bind fun t186 => (if t186 = true then (some 30) else (some 29))))) = some r := by rw [if_neg (show ¬ (false = true) by decide)] at H; exact H
    clear H
    have H := H1
    clear H1
    by_cases c6 : a1 ≤ 6
    ·rw [if_pos c6] at H
     have c6b0 : decide (a1 ≤ 6) = true := decide_eq_true c6
     clear c6
     obtain rfl := Option.some.inj H
     go_wp2
     go_ret
     exact ⟨by first | rfl | (simp; done) | (simp [*]; done) | (simp [bne_nil_]; done), by repeat (first | exact Drawn0.refl _ | apply Drawn0.step)⟩
    ·rw [if_neg c6] at H
     have c6b0 : decide (a1 ≤ 6) = false := decide_eq_false c6
     clear c6
     by_cases c7 : a1 < 12
     ·rw [if_pos c7] at H
      have c7b0 : decide (a1 < 12) = true := decide_eq_true c7
      clear c7
      obtain rfl := Option.some.inj H
      go_wp2
      go_ret
      exact ⟨by first | rfl | (simp; done) | (simp [*]; done) | (simp [bne_nil_]; done), by repeat (first | exact Drawn0.refl _ | apply Drawn0.step)⟩
     ·rw [if_neg c7] at H
      have c7b0 : decide (a1 < 12) = false := decide_eq_false c7
      clear c7
      replace H := Option.bind_eq_some_iff.mp H
      obtain ⟨t186, A80, H⟩ := H
      replace H : (if t186 = true then (some 30) else (some 29)) = some r := H
      have A8 := Aside0.mk A80
      clear A80
      by_cases c9 : t186 = true
      ·subst c9
       have H1 : (some 30) = some r := by rw [if_pos rfl] at H; exact H
       clear H
       have H := H1
       clear H1
       obtain rfl := Option.some.inj H
       go_wp2_with (first | (go_at_call 98; (with_reducible refine (persian_Leap.calls a0 true _ A8.out).mono ?_); rintro e w' ⟨rfl, ⟨nd, rfl⟩⟩))
       go_ret
       exact ⟨by first | rfl | (simp; done) | (simp [*]; done) | (simp [bne_nil_]; done), by repeat (first | exact Drawn0.refl _ | apply Drawn0.step)⟩
      ·replace c9 := Bool.eq_false_iff.mpr c9
       subst c9
       have H1 : (some 29) = some r := by rw [if_neg (show ¬ (false = true) by decide)] at H; exact H
       clear H
       have H := H1
       clear H1
       obtain rfl := Option.some.inj H
       go_wp2_with (first | (go_at_call 98; (with_reducible refine (persian_Leap.calls a0 false _ A8.out).mono ?_); rintro e w' ⟨rfl, ⟨nd, rfl⟩⟩))
       go_ret
       exact ⟨by first | rfl | (simp; done) | (simp [*]; done) | (simp [bne_nil_]; done), by repeat (first | exact Drawn0.refl _ | apply Drawn0.step)⟩

/-! ### persian_FromPersian: function 45 -/
end Go.Proofs.YtgbbgcepcnklkaaDoor.Q
/- The Persian calendar: what the package persian and the reference reckon, in plain numbers. -/
namespace Go.Proofs.YtgbbgcepcnklkaaDoor.FunS
open Go.RowKit Go.Proofs.YtgbbgcepcnklkaaDoorW.PrintWords Go.Proofs.YtgbbgcepcnklkaaDoorW.PrintLast Go.Proofs.YtgbbgcepcnklkaaDoor.Q Go.Proofs.YtgbbgcepcnklkaaDoor.Cal Go.Proofs.YtgbbgcepcnklkaaDoor.FunA Go.Proofs.YtgbbgcepcnklkaaDoor.FunB Go.Proofs.YtgbbgcepcnklkaaDoor.FunJ Go.Proofs.YtgbbgcepcnklkaaDoor.FunM Go.Proofs.YtgbbgcepcnklkaaDoor.Cal3
set_option linter.unusedVariables false
set_option linter.unusedSimpArgs false
theorem pzbd (z : Int) (h : -50000 ≤ z) (h' : z ≤ 50000) : -25000000 ≤ pz z ∧ pz z ≤ 25000000 := by
 unfold pz pc
 have q1 : -20 ≤ z / 2820 ∧ z / 2820 ≤ 20 := by omega
 have q2 : 0 ≤ z % 2820 ∧ z % 2820 < 2820 := by omega
 generalize z / 2820 = q at q1 ⊢
 generalize z % 2820 = r at q2 ⊢
 omega
theorem sShift (y : Int) (h : -40000 ≤ y) (h' : y ≤ 40000) : persian_shifted.f y = some (ps y) := by
 unfold persian_shifted.f ps
 by_cases c : y > 0
 ·rw [if_pos c, if_pos c, w64 (by omega) (by omega)]
 ·rw [if_neg c, if_neg c, w64 (x := y - 474) (by omega) (by omega), w64 (by omega) (by omega)]
  congr 1; omega
theorem psbd (y : Int) (h : -40000 ≤ y) (h' : y ≤ 40000) : -41000 ≤ ps y ∧ ps y ≤ 40000 := by unfold ps; split <;> omega
theorem sFirst (y : Int) (h : -40000 ≤ y) (h' : y ≤ 40000) : persian_first.f y = some (pz (ps y) + 1) := by
 have hb := psbd y h h'
 unfold persian_first.f
 rw [sShift y h h', Option.bind_some, rMod _ 2820 (by omega) (by omega) ⟨by omega, by omega⟩, Option.bind_some, rFloor _ 2820 (by omega) ⟨by omega, by omega⟩, Option.bind_some]
 unfold pz pc
 have q1 : -20 ≤ ps y / 2820 ∧ ps y / 2820 ≤ 20 := by omega
 have q2 : 0 ≤ ps y % 2820 ∧ ps y % 2820 < 2820 := by omega
 generalize ps y / 2820 = q at q1 ⊢
 generalize ps y % 2820 = r at q2 ⊢
 rw [w64 (x := r + 474) (by omega) (by omega), w64 (x := 31 * (r + 474)) (by omega) (by omega), w64 (x := 31 * (r + 474) - 5) (by omega) (by omega), rFloor _ 128 (by omega) ⟨by omega, by omega⟩, Option.bind_some]
 have q3 : 0 ≤ (31 * (r + 474) - 5) / 128 ∧ (31 * (r + 474) - 5) / 128 ≤ 1000 := by omega
 generalize (31 * (r + 474) - 5) / 128 = t at q3 ⊢
 rw [w64 (x := 1029983 * q) (by omega) (by omega), w64 (x := 226896 + 1029983 * q) (by omega) (by omega), w64 (x := r + 474 - 1) (by omega) (by omega), w64 (x := 365 * (r + 474 - 1)) (by omega) (by omega), w64 (x := 226896 + 1029983 * q + 365 * (r + 474 - 1)) (by omega) (by omega), w64 (by omega) (by omega)]
 congr 1; omega
theorem sRight (y : Int) : persian_right.f y = some (decide (-10000 ≤ y ∧ y ≤ 20000 ∧ y ≠ 0)) := by
 unfold persian_right.f
 by_cases a : y ≥ -10000
 ·rw [if_pos a]
  by_cases b : y ≤ 20000
  ·rw [if_pos b]
   by_cases c : y = 0
   ·subst c; rfl
   ·rw [decide_eq_true ⟨a, b, c⟩]; simp [c]
  ·rw [if_neg b, decide_eq_false (fun h => b h.2.1)]
 ·rw [if_neg a, decide_eq_false (fun h => a h.1)]
theorem sLeap (y : Int) (h : -10000 ≤ y) (h' : y ≤ 20000) (h0 : y ≠ 0) : persian_Leap.f y = some (decide (pl (ps y) = 1)) := by
 have hb := psbd y (by omega) (by omega)
 unfold persian_Leap.f
 rw [sShift y (by omega) (by omega), Option.bind_some, rMod _ 2820 (by omega) (by omega) ⟨by omega, by omega⟩, Option.bind_some, sRight, Option.bind_some, if_pos (by simp; exact ⟨h, h', h0⟩)]
 unfold pl pc
 have q2 : 0 ≤ ps y % 2820 ∧ ps y % 2820 < 2820 := by omega
 generalize ps y % 2820 = r at q2 ⊢
 rw [w64 (x := r + 474) (by omega) (by omega), w64 (x := r + 474 + 38) (by omega) (by omega), w64 (x := (r + 474 + 38) * 31) (by omega) (by omega), rMod _ 128 (by omega) (by omega) ⟨by omega, by omega⟩, Option.bind_some]
 by_cases c : (r + 474 + 38) * 31 % 128 < 31
 ·simp [c]
 ·simp [c]
theorem sLength (k : Nat) (hk : 1 ≤ k) (y m : Int) (h : -10000 ≤ y) (h' : y ≤ 20000) (h0 : y ≠ 0) : persian_length.f k y m = some (pdim (pl (ps y)) m) := by
 obtain ⟨k, rfl⟩ : ∃ j, k = j + 1 := ⟨k - 1, by omega⟩
 unfold persian_length.f pdim
 by_cases a : m < 1
 ·rw [if_pos a, if_pos (Or.inl a)]; simp only [persian_length.j0, if_true]
 ·rw [if_neg a]
  by_cases b : m > 12
  ·rw [decide_eq_true b, if_pos (Or.inr (by omega))]; simp only [persian_length.j0, if_true]
  ·rw [decide_eq_false b, if_neg (by omega)]
   simp only [persian_length.j0]
   rw [if_neg (by simp)]
   by_cases c : m ≤ 6
   ·rw [if_pos c, if_pos c]
   ·rw [if_neg c, if_neg c]
    by_cases e : m < 12
    ·rw [if_pos e, if_pos e]
    ·rw [if_neg e, if_neg e, sLeap y h h' h0, Option.bind_some]
     rcases pl_01 (ps y) with q | q <;> rw [q] <;> simp
theorem fPer (k : Nat) (hk : 1 ≤ k) (y m d : Int) (h : -40000 ≤ y) (h' : y ≤ 40000) (h0 : y ≠ 0) (hm : 1 ≤ m) (hm' : m ≤ 100) (hd : -100000 ≤ d) (hd' : d ≤ 100000) : trystref01_persian.f k y m d = some (pz (ps y) + pcum m + d) := by
 obtain ⟨k, rfl⟩ : ∃ j, k = j + 1 := ⟨k - 1, by omega⟩
 have hb := psbd y h h'
 have key : trystref01_persian.j0 (k + 1) m d (ps y) = some (pz (ps y) + pcum m + d) := by
  simp only [trystref01_persian.j0]
  rw [fMod _ 2820 (by omega) (by omega) ⟨by omega, by omega⟩, Option.bind_some, fFloor _ 2820 (by omega) (by omega) ⟨by omega, by omega⟩, Option.bind_some]
  unfold pz pc pcum
  have q1 : -20 ≤ ps y / 2820 ∧ ps y / 2820 ≤ 20 := by omega
  have q2 : 0 ≤ ps y % 2820 ∧ ps y % 2820 < 2820 := by omega
  generalize ps y / 2820 = q at q1 ⊢
  generalize ps y % 2820 = r at q2 ⊢
  rw [w64 (x := r + 474) (by omega) (by omega), w64 (x := 31 * (r + 474)) (by omega) (by omega), w64 (x := 31 * (r + 474) - 5) (by omega) (by omega), fFloor _ 128 (by omega) (by omega) ⟨by omega, by omega⟩, Option.bind_some]
  have q3 : 0 ≤ (31 * (r + 474) - 5) / 128 ∧ (31 * (r + 474) - 5) / 128 ≤ 1000 := by omega
  generalize (31 * (r + 474) - 5) / 128 = t at q3 ⊢
  rw [w64 (x := 1029983 * q) (by omega) (by omega), w64 (x := 226895 + 1029983 * q) (by omega) (by omega), w64 (x := r + 474 - 1) (by omega) (by omega), w64 (x := 365 * (r + 474 - 1)) (by omega) (by omega), w64 (x := 226895 + 1029983 * q + 365 * (r + 474 - 1)) (by omega) (by omega), w64 (x := 226895 + 1029983 * q + 365 * (r + 474 - 1) + t) (by omega) (by omega), w64 (x := 226895 + 1029983 * q + 365 * (r + 474 - 1) + t + d) (by omega) (by omega), w64 (x := m - 1) (by omega) (by omega)]
  by_cases c : m ≤ 7
  ·rw [if_pos c, if_pos c, w64 (x := 31 * (m - 1)) (by omega) (by omega), w64 (by omega) (by omega)]
   congr 1; omega
  ·rw [if_neg c, if_neg c, w64 (x := 30 * (m - 1)) (by omega) (by omega), w64 (x := 226895 + 1029983 * q + 365 * (r + 474 - 1) + t + d + 30 * (m - 1)) (by omega) (by omega), w64 (by omega) (by omega)]
   congr 1; omega
 unfold trystref01_persian.f
 by_cases c : y < 0
 ·have e : ps y = y - 473 := by unfold ps; rw [if_neg (by omega)]
  rw [if_pos c, w64 (x := y - 473) (by omega) (by omega), ← e, key]
 ·have e : ps y = y - 474 := by unfold ps; rw [if_pos (by omega)]
  rw [if_neg c, w64 (x := y - 474) (by omega) (by omega), ← e, key]
theorem fFixed5 (k : Nat) (hk : 1 ≤ k) (y m d : Int) (h : -40000 ≤ y) (h' : y ≤ 40000) (h0 : y ≠ 0) (hm : 1 ≤ m) (hm' : m ≤ 100) (hd : -100000 ≤ d) (hd' : d ≤ 100000) : trystref01_Fixed.f k 5 y m d = some (pz (ps y) + pcum m + d) := by
 unfold trystref01_Fixed.f
 rw [if_neg (by omega), if_neg (by omega), if_neg (by omega), if_neg (by omega), if_neg (by omega), if_pos rfl, fPer k hk y m d h h' h0 hm hm' hd hd', Option.bind_some]
theorem fNext5 (y : Int) (h : -40000 ≤ y) (h' : y < 40000) : trystref01_next.f 5 y = some (pn y) := by
 unfold trystref01_next.f pn
 rw [if_pos rfl]
 by_cases c : y = -1
 ·rw [if_pos c, if_pos c]
 ·rw [if_neg c, if_neg c, w64 (by omega) (by omega)]
end Go.Proofs.YtgbbgcepcnklkaaDoor.FunS
/- Plain laws of the Hebrew calendar over whole numbers: no program in sight. -/
namespace Go.Proofs.YtgbbgcepcnklkaaDoor.CalH
open Go.RowKit Go.Proofs.YtgbbgcepcnklkaaDoor.Cal
/-- Months, days ahead of a Hebrew year. -/
def hm (y : Int) : Int := (235 * y - 234) / 19
def h0 (y : Int) : Int := 29 * hm y + (12084 + 13753 * hm y) / 25920
def he (y : Int) : Int := if (3 * (h0 y + 1)) % 7 < 3 then h0 y + 1 else h0 y
/-- The day with which a Hebrew year begins, less one. -/
def hb (y : Int) : Int := (if he (y + 1) - he y = 356 then he y + 2 else if he y - he (y - 1) = 382 then he y + 1 else he y) - 1373428
/-- 1 in a leap year, else 0. -/
def hl (y : Int) : Int := if (7 * y + 1) % 19 < 7 then 1 else 0
theorem hl_01 (y : Int) : hl y = 0 ∨ hl y = 1 := by unfold hl; split <;> simp
def hd (y : Int) : Int := hb (y + 1) - hb y

def mN (y : Nat) : Nat := (235 * y + 4231) / 19
def dN (m : Nat) : Nat := 29 * m + (20129 + 13753 * m) / 25920 + 60
def pN (d : Nat) : Nat := bif Nat.blt (3 * (d + 1) % 7) 3 then d + 1 else d
def eN (y : Nat) : Nat := pN (dN (mN y))
def bN (a b c : Nat) : Nat := bif Nat.beq c (b + 356) then b + 2 else bif Nat.beq b (a + 382) then b + 1 else b
def sN (l : Bool) (n m : Nat) : Bool := bif l then (Nat.beq n (m + 383) || Nat.beq n (m + 384) || Nat.beq n (m + 385)) else (Nat.beq n (m + 353) || Nat.beq n (m + 354) || Nat.beq n (m + 355))
def cN (y a b c d : Nat) : Bool := sN (Nat.blt ((7 * (y + 1) + 1) % 19) 7) (bN b c d) (bN a b c)
def oN (y : Nat) : Bool := cN y (eN y) (eN (y + 1)) (eN (y + 2)) (eN (y + 3))
def run (f : Nat → Bool) : Nat → Nat → Bool
 | 0, lo => f lo
 | n + 1, lo => run f n lo && run f n (lo + 2 ^ n)
theorem run_all (f : Nat → Bool) : ∀ n lo, run f n lo = true → ∀ y, lo ≤ y → y < lo + 2 ^ n → f y = true := by
 intro n
 induction n with
 | zero =>
  intro lo h y h1 h2
  obtain rfl : y = lo := by simp at h2; omega
  exact h
 | succ n ih =>
  intro lo h y h1 h2
  simp only [run, Bool.and_eq_true] at h
  have e : 2 ^ (n + 1) = 2 ^ n + 2 ^ n := by rw [Nat.pow_succ]; omega
  by_cases c : y < lo + 2 ^ n
  ·exact ih lo h.1 y h1 c
  ·exact ih _ h.2 y (by omega) (by omega)
set_option maxRecDepth 100000 in
theorem run1 : run oN 14 0 = true := by decide +kernel
set_option maxRecDepth 100000 in
theorem run2 : run oN 12 16384 = true := by decide +kernel
theorem oN_all (y : Nat) (h : y < 20480) : oN y = true := by
 by_cases c : y < 16384
 ·exact run_all oN 14 0 run1 y (by omega) (by omega)
 ·exact run_all oN 12 16384 run2 y (by omega) (by omega)
theorem blt_dec (a b : Nat) : Nat.blt a b = decide (a < b) := by
 rw [Bool.eq_iff_iff]; simp only [Nat.blt_eq, decide_eq_true_eq]
theorem beq_dec (a b : Nat) : Nat.beq a b = decide (a = b) := by
 rw [Bool.eq_iff_iff]; simp only [decide_eq_true_eq]; exact ⟨Nat.eq_of_beq_eq_true, fun h => h ▸ Nat.beq_refl a⟩
theorem pN_int (d : Nat) (z : Int) (h : (d : Int) = z + 7000) : ((pN d : Nat) : Int) - 7000 = if (3 * (z + 1)) % 7 < 3 then z + 1 else z := by
 unfold pN
 rw [blt_dec]
 have e : ((3 * (d + 1) % 7 : Nat) : Int) = (3 * (z + 1) + 21000) % 7 := by omega
 have e2 : (3 * (z + 1) + 21000) % 7 = (3 * (z + 1)) % 7 := by
  generalize 3 * (z + 1) = t
  omega
 rw [e2] at e
 by_cases c : (3 * (z + 1)) % 7 < 3
 ·rw [if_pos c, decide_eq_true (by omega)]; simp only [cond_true]; omega
 ·rw [if_neg c, decide_eq_false (by omega)]; simp only [cond_false]; omega
theorem dN_int (m : Nat) (z : Int) (h : (m : Int) = z + 235) : ((dN m : Nat) : Int) = 29 * z + (12084 + 13753 * z) / 25920 + 7000 := by
 unfold dN
 obtain rfl : z = (m : Int) - 235 := by omega
 have e : (12084 + 13753 * ((m : Int) - 235)) = (20129 + 13753 * (m : Int)) - 3240000 := by omega
 rw [e]
 have e2 : (((20129 + 13753 * m) / 25920 : Nat) : Int) = (20129 + 13753 * (m : Int)) / 25920 := by omega
 have e3 : ((20129 + 13753 * (m : Int)) - 3240000) / 25920 = (20129 + 13753 * (m : Int)) / 25920 - 125 := by
  generalize 20129 + 13753 * (m : Int) = t
  omega
 rw [e3]
 omega
theorem eN_he (y : Nat) : he (y : Int) = ((eN y : Nat) : Int) - 7000 := by
 have h1 : ((mN y : Nat) : Int) = hm y + 235 := by
  unfold mN hm
  have e : ((235 * y + 4231 : Nat) : Int) = 235 * (y : Int) - 234 + 4465 := by omega
  have e2 : (((235 * y + 4231) / 19 : Nat) : Int) = (235 * (y : Int) - 234 + 4465) / 19 := by omega
  rw [e2]
  generalize 235 * (y : Int) - 234 = t
  omega
 exact (pN_int _ _ (dN_int _ _ h1)).symm
theorem bN_int (a b c : Nat) : ((bN a b c : Nat) : Int) = if (c : Int) - b = 356 then (b : Int) + 2 else if (b : Int) - a = 382 then (b : Int) + 1 else b := by
 unfold bN
 rw [beq_dec, beq_dec]
 by_cases k : c = b + 356
 ·rw [if_pos (by omega), decide_eq_true k]; simp only [cond_true]; omega
 ·rw [if_neg (by omega), decide_eq_false k]; simp only [cond_false]
  by_cases k2 : b = a + 382
  ·rw [if_pos (by omega), decide_eq_true k2]; simp only [cond_true]; omega
  ·rw [if_neg (by omega), decide_eq_false k2]; simp only [cond_false]
theorem hb_int (a b c : Nat) (x y z : Int) (h1 : x = (a : Int) - 7000) (h2 : y = (b : Int) - 7000) (h3 : z = (c : Int) - 7000) : (if z - y = 356 then y + 2 else if y - x = 382 then y + 1 else y) - 1373428 = ((bN a b c : Nat) : Int) - 7000 - 1373428 := by
 rw [bN_int]
 subst h1 h2 h3
 repeat' split
 all_goals omega
theorem bN_hb (y : Nat) : hb ((y : Int) + 1) = ((bN (eN y) (eN (y + 1)) (eN (y + 2)) : Nat) : Int) - 7000 - 1373428 := by
 unfold hb
 refine hb_int _ _ _ _ _ _ ?_ (eN_he (y + 1)) (eN_he (y + 2))
 rw [show (y : Int) + 1 - 1 = y by omega]
 exact eN_he y
theorem sN_int (l : Bool) (n m : Nat) (h : sN l n m = true) : (l = true ∧ ((n : Int) - m = 383 ∨ (n : Int) - m = 384 ∨ (n : Int) - m = 385)) ∨ (l = false ∧ ((n : Int) - m = 353 ∨ (n : Int) - m = 354 ∨ (n : Int) - m = 355)) := by
 unfold sN at h
 simp only [beq_dec] at h
 cases l
 ·right
  simp only [cond_false, Bool.or_eq_true, decide_eq_true_eq] at h
  exact ⟨rfl, by omega⟩
 ·left
  simp only [cond_true, Bool.or_eq_true, decide_eq_true_eq] at h
  exact ⟨rfl, by omega⟩
/-- How many days a Hebrew year has. -/
theorem hd_set (y : Int) (h1 : 1 ≤ y) (h2 : y ≤ 20480) : (hl y = 1 ∧ (hd y = 383 ∨ hd y = 384 ∨ hd y = 385)) ∨ (hl y = 0 ∧ (hd y = 353 ∨ hd y = 354 ∨ hd y = 355)) := by
 obtain ⟨n, rfl⟩ : ∃ n : Nat, y = (n : Int) + 1 := ⟨(y - 1).toNat, by omega⟩
 have k := sN_int _ _ _ (oN_all n (by omega))
 have b1 := bN_hb n
 have b2 := bN_hb (n + 1)
 have e : hd ((n : Int) + 1) = ((bN (eN (n + 1)) (eN (n + 2)) (eN (n + 3)) : Nat) : Int) - ((bN (eN n) (eN (n + 1)) (eN (n + 2)) : Nat) : Int) := by
  unfold hd
  rw [b1]
  have b3 : hb ((n : Int) + 1 + 1) = ((bN (eN (n + 1)) (eN (n + 2)) (eN (n + 3)) : Nat) : Int) - 7000 - 1373428 := b2
  rw [b3]
  omega
 rw [e]
 rw [blt_dec] at k
 have q : hl ((n : Int) + 1) = if decide ((7 * (n + 1) + 1) % 19 < 7) = true then 1 else 0 := by
  unfold hl
  have e : ((7 * (n + 1) + 1 : Nat) : Int) = 7 * ((n : Int) + 1) + 1 := by omega
  have e2 : (((7 * (n + 1) + 1) % 19 : Nat) : Int) = (7 * ((n : Int) + 1) + 1) % 19 := by omega
  rw [← e2]
  by_cases c : (7 * (n + 1) + 1) % 19 < 7
  ·rw [if_pos (by omega), decide_eq_true c, if_pos rfl]
  ·rw [if_neg (by omega), decide_eq_false c, if_neg (by simp)]
 rcases k with ⟨k1, k2⟩ | ⟨k1, k2⟩
 ·left; exact ⟨by rw [q, if_pos k1], k2⟩
 ·right; exact ⟨by rw [q, if_neg (by rw [k1]; simp)], k2⟩
theorem hb_mono (a : Int) (h : 1 ≤ a) : ∀ n : Nat, a + n ≤ 20480 → hb a + 353 * n ≤ hb (a + n)
 | 0, _ => by simp
 | n + 1, h2 => by
  have h3 := hb_mono a h n (by omega)
  have h4 := hd_set (a + n) (by omega) (by omega)
  have e : a + ((n + 1 : Nat) : Int) = a + n + 1 := by omega
  unfold hd at h4
  rw [e]; omega
theorem hb_le {a b : Int} (h : a ≤ b) (h1 : 1 ≤ a) (h2 : b ≤ 20480) : hb a + 353 * (b - a) ≤ hb b := by
 have := hb_mono a h1 (b - a).toNat (by omega)
 have e : a + ((b - a).toNat : Int) = b := by omega
 rw [e] at this; omega
/-- Days of a Hebrew month; l: 1 in a leap year; n: days of the year. -/
def hx (l n m : Int) : Int := if m = 2 ∨ m = 4 ∨ m = 6 ∨ m = 10 ∨ m = 13 ∨ (m = 12 ∧ l = 0) ∨ (m = 8 ∧ n ≠ 355 ∧ n ≠ 385) ∨ (m = 9 ∧ (n = 353 ∨ n = 383)) then 29 else 30
theorem hx_bd (l n m : Int) : 29 ≤ hx l n m ∧ hx l n m ≤ 30 := by unfold hx; split <;> omega
/-- Days of the months from 7 on, ahead of one. -/
def ha (l n m : Int) : Int := if m ≤ 7 then 0 else if m ≤ 8 then 30 else if m ≤ 9 then 30 + hx l n 8 else if m ≤ 10 then 30 + hx l n 8 + hx l n 9 else if m ≤ 11 then 59 + hx l n 8 + hx l n 9 else if m ≤ 12 then 89 + hx l n 8 + hx l n 9 else if m ≤ 13 then 89 + hx l n 8 + hx l n 9 + hx l n 12 else 118 + hx l n 8 + hx l n 9 + hx l n 12
theorem ha_succ (l n m : Int) (h1 : 7 ≤ m) (h2 : m ≤ 13) : ha l n (m + 1) = ha l n m + hx l n m := by
 have h7 : hx l n 7 = 30 := by simp [hx]
 have h10 : hx l n 10 = 29 := by simp [hx]
 have h11 : hx l n 11 = 30 := by simp [hx]
 have h13 : hx l n 13 = 29 := by simp [hx]
 rcases (by omega : m = 7 ∨ m = 8 ∨ m = 9 ∨ m = 10 ∨ m = 11 ∨ m = 12 ∨ m = 13) with h | h | h | h | h | h | h <;> subst h <;> simp [ha] <;> omega
/-- Days of the months from 1 on, ahead of one. -/
def hz (m : Int) : Int := if m ≤ 1 then 0 else if m ≤ 2 then 30 else if m ≤ 3 then 59 else if m ≤ 4 then 89 else if m ≤ 5 then 118 else if m ≤ 6 then 148 else 177
theorem hz_succ (l n m : Int) (h1 : 1 ≤ m) (h2 : m ≤ 6) : hz (m + 1) = hz m + hx l n m := by
 rcases (by omega : m = 1 ∨ m = 2 ∨ m = 3 ∨ m = 4 ∨ m = 5 ∨ m = 6) with h | h | h | h | h | h <;> subst h <;> simp [hz, hx]
/-- Days of a Hebrew year ahead of a month. -/
def hc (l n m : Int) : Int := if m < 7 then ha l n (13 + l) + hz m else ha l n m
/-- All months together are the year. -/
theorem hc_all (l n : Int) (h : (l = 1 ∧ (n = 383 ∨ n = 384 ∨ n = 385)) ∨ (l = 0 ∧ (n = 353 ∨ n = 354 ∨ n = 355))) : ha l n (13 + l) + 177 = n := by
 rcases h with ⟨rfl, rfl | rfl | rfl⟩ | ⟨rfl, rfl | rfl | rfl⟩ <;> decide
/-- The month behind one. -/
def hn (l m : Int) : Int := if m = 12 + l then 1 else m + 1
end Go.Proofs.YtgbbgcepcnklkaaDoor.CalH
