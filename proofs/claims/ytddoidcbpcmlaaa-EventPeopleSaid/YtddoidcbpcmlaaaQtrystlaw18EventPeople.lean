-- written by a program of this session (wip/own_print.sh)
import Derived.Test.YtddoidcbpcmlaaaQ0
import Derived.Test.YtddoidcbpcmlaaaQ2
import Derived.Test.YtddoidcbpcmlaaaQaddr
import Derived.Test.YtddoidcbpcmlaaaQpers
import Derived.Test.YtddoidcbpcmlaaaQawake
import Derived.Test.YtddoidcbpcmlaaaQfind
import Derived.Test.YtddoidcbpcmlaaaEvp
import Derived.Test.YtddoidcbpcmlaaaQaddrR
import Derived.Test.YtddoidcbpcmlaaaQpersR
namespace Go.Proofs.Ytddoidcbpcmlaaa.Q
open Go.RowKit Go.Proofs.YtddoidcbpcmlaaaW.PrintWords Go.Proofs.YtddoidcbpcmlaaaW.PrintLast Go.Proofs.YtddoidcbpcmlaaaW.PrintMore
attribute [local go_sem] max2_int min2_int max_two min_two max_three min_three max_four min_four   -- for this text's walks alone
set_option linter.unusedVariables false
set_option linter.unusedSimpArgs false

attribute [local go_sem high] eqA40
/-! ### trystlaw18_EventPeople: function 4 -/
mutual
def trystlaw18_EventPeople.j0 : Nat → List (S40) → ByteArray → Bool → Option (Bool)
  | 0, _, _, _ => none
  | k + 1, x0, x1, x21 => if x21 = true then ((trystlaw18_awake.f k).bind fun t124 => (some t124)) else ((event_Find.f k (⟨#[]⟩ : ByteArray) 0 0 0 0 (⟨#[]⟩ : ByteArray) false 0 0 0 0 0 (⟨#[]⟩ : ByteArray) false 0 ([] : List Int) ([] : List Int) ([] : List Int) ([] : List (S139)) ([] : List Int) ([] : List Int) ([] : List Int) ([] : List Int) ([] : List Int) ([] : List (S25)) ([] : List (S25)) 0 (⟨#[]⟩ : ByteArray) (⟨#[]⟩ : ByteArray) 0 (⟨#[]⟩ : ByteArray) x0 false 0 0 (⟨#[]⟩ : ByteArray) false ([] : List (S55)) x1).bind fun bt126 => (trystlaw18_EventPeople.l0 k x0 x1 bt126.2.2.2.2.2.2 (-1) (x0.length : Int) 0 bt126.1 bt126.2.1 bt126.2.2.1 bt126.2.2.2.1 bt126.2.2.2.2.1 bt126.2.2.2.2.2.1))
def trystlaw18_EventPeople.l0 : Nat → List (S40) → ByteArray → Bool → Int → Int → Int → ByteArray → Int → Int → Bool → ByteArray → ByteArray → Option (Bool)
  | 0, _, _, _, _, _, _, _, _, _, _, _, _ => none
  | k + 1, x0, x1, x7, x8, x32, x33, x134000, x134001, x134002, x134003, x134004, x134005 => if x33 < x32 then (if 0 ≤ x33 then (if x33 < (x0.length : Int) then (if (wrap64 ((wrap64 ((((rd_T40 x0 x33).f0).size : Int) + (((rd_T40 x0 x33).f4).size : Int))) + (((rd_T40 x0 x33).f5).size : Int))) > 1000 then (trystlaw18_EventPeople.j2 k x0 x1 x7 x8 x33 x32 x33 true x134000 x134001 x134002 x134003 x134004 x134005) else ((event_RightPerson.f k ((rd_T40 x0 x33).f0) ((rd_T40 x0 x33).f1) ((rd_T40 x0 x33).f2) ((rd_T40 x0 x33).f3) ((rd_T40 x0 x33).f4) ((rd_T40 x0 x33).f5)).bind fun t138 => ((trystlaw18_person.f k ((rd_T40 x0 x33).f0) ((rd_T40 x0 x33).f1) ((rd_T40 x0 x33).f2) ((rd_T40 x0 x33).f3) ((rd_T40 x0 x33).f4) ((rd_T40 x0 x33).f5)).bind fun t140 => (trystlaw18_EventPeople.j2 k x0 x1 x7 x8 x33 x32 x33 (t138 != t140) x134000 x134001 x134002 x134003 x134004 x134005)))) else (none)) else (none)) else ((event_Address.f k x1).bind fun t145 => ((trystlaw18_address.f k x1).bind fun t146 => (if (t145 != t146) = true then (some false) else (if x8 < 0 then (if x7 = true then (some false) else (some (x134000.toList == ([] : List UInt8) && (x134001 == 0 && (x134002 == 0 && (!x134003 && (x134004.toList == ([] : List UInt8) && (x134005.toList == ([] : List UInt8))))))))) else (if x7 = true then (if 0 ≤ x8 then (if x8 < (x0.length : Int) then (some (x134000.toList == (((rd_T40 x0 x8).f0).toList) && (x134001 == ((rd_T40 x0 x8).f1) && (x134002 == ((rd_T40 x0 x8).f2) && (x134003 == ((rd_T40 x0 x8).f3) && (x134004.toList == (((rd_T40 x0 x8).f4).toList) && (x134005.toList == (((rd_T40 x0 x8).f5).toList)))))))) else (none)) else (none)) else (some false))))))
def trystlaw18_EventPeople.j2 : Nat → List (S40) → ByteArray → Bool → Int → Int → Int → Int → Bool → ByteArray → Int → Int → Bool → ByteArray → ByteArray → Option (Bool)
  | 0, _, _, _, _, _, _, _, _, _, _, _, _, _, _ => none
  | k + 1, x0, x1, x7, x8, x9, x32, x33, x69, x134000, x134001, x134002, x134003, x134004, x134005 => if x69 = true then (if 0 ≤ x9 then (if x9 < (x0.length : Int) then (some (decide ((wrap64 ((wrap64 ((((rd_T40 x0 x9).f0).size : Int) + (((rd_T40 x0 x9).f4).size : Int))) + (((rd_T40 x0 x9).f5).size : Int))) > 1000))) else (none)) else (none)) else (if x8 < 0 then (if 0 ≤ x9 then (if x9 < (x0.length : Int) then (if ((rd_T40 x0 x9).f0).toList = x1.toList then (trystlaw18_EventPeople.l0 k x0 x1 x7 x9 x32 (wrap64 (x33 + 1)) x134000 x134001 x134002 x134003 x134004 x134005) else (trystlaw18_EventPeople.l0 k x0 x1 x7 x8 x32 (wrap64 (x33 + 1)) x134000 x134001 x134002 x134003 x134004 x134005)) else (none)) else (none)) else (trystlaw18_EventPeople.l0 k x0 x1 x7 x8 x32 (wrap64 (x33 + 1)) x134000 x134001 x134002 x134003 x134004 x134005))
end
def trystlaw18_EventPeople.f (k : Nat) (l0 : List (S40)) (a1 : ByteArray) : Option (Bool) := (trystlaw18_awake.f k).bind fun t123 => (if t123 = true then (if (l0.length : Int) > 50 then (trystlaw18_EventPeople.j0 k l0 a1 true) else (trystlaw18_EventPeople.j0 k l0 a1 (decide ((a1.size : Int) > 500)))) else (trystlaw18_EventPeople.j0 k l0 a1 true))
theorem trystlaw18_EventPeople.mono_l : ∀ k, (∀ y0 y1 y2, LeO (trystlaw18_EventPeople.j0 k y0 y1 y2) (trystlaw18_EventPeople.j0 (k + 1) y0 y1 y2)) ∧ (∀ y0 y1 y2 y3 y4 y5 y6 y7 y8 y9 y10 y11, LeO (trystlaw18_EventPeople.l0 k y0 y1 y2 y3 y4 y5 y6 y7 y8 y9 y10 y11) (trystlaw18_EventPeople.l0 (k + 1) y0 y1 y2 y3 y4 y5 y6 y7 y8 y9 y10 y11)) ∧ (∀ y0 y1 y2 y3 y4 y5 y6 y7 y8 y9 y10 y11 y12 y13, LeO (trystlaw18_EventPeople.j2 k y0 y1 y2 y3 y4 y5 y6 y7 y8 y9 y10 y11 y12 y13) (trystlaw18_EventPeople.j2 (k + 1) y0 y1 y2 y3 y4 y5 y6 y7 y8 y9 y10 y11 y12 y13))
  | 0 => ⟨fun _ _ _ r h => by simp [trystlaw18_EventPeople.j0] at h, fun _ _ _ _ _ _ _ _ _ _ _ _ r h => by simp [trystlaw18_EventPeople.l0] at h, fun _ _ _ _ _ _ _ _ _ _ _ _ _ _ r h => by simp [trystlaw18_EventPeople.j2] at h⟩
  | k + 1 => by
    obtain ⟨ih0, ih1, ih2⟩ := trystlaw18_EventPeople.mono_l k
    refine ⟨?_, ?_, ?_⟩
    · intro y0 y1 y2
      unfold trystlaw18_EventPeople.j0
      repeat' first
      | (with_reducible exact ih0 _ _ _)
      | (with_reducible exact ih1 _ _ _ _ _ _ _ _ _ _ _ _)
      | (with_reducible exact ih2 _ _ _ _ _ _ _ _ _ _ _ _ _ _)
      | (with_reducible exact event_Address.mono _ _)
      | (with_reducible exact event_Find.mono _ _ _ _ _ _ _ _ _ _ _ _ _ _ _ _ _ _ _ _ _ _ _ _ _ _ _ _ _ _ _ _ _ _ _ _ _ _ _ _)
      | (with_reducible exact event_RightPerson.mono _ _ _ _ _ _ _)
      | (with_reducible exact trystlaw18_address.mono _ _)
      | (with_reducible exact trystlaw18_awake.mono _)
      | (with_reducible exact trystlaw18_person.mono _ _ _ _ _ _ _)
      | (with_reducible exact LeO.refl _)
      | (with_reducible exact LeO.none _)
      | (with_reducible refine LeO.ite ?_ ?_)
      | (with_reducible refine LeO.bind ?_ (fun _ => ?_))
      | exact ih0 _ _ _
      | exact ih1 _ _ _ _ _ _ _ _ _ _ _ _
      | exact ih2 _ _ _ _ _ _ _ _ _ _ _ _ _ _
      | exact event_Address.mono _ _
      | exact event_Find.mono _ _ _ _ _ _ _ _ _ _ _ _ _ _ _ _ _ _ _ _ _ _ _ _ _ _ _ _ _ _ _ _ _ _ _ _ _ _ _ _
      | exact event_RightPerson.mono _ _ _ _ _ _ _
      | exact trystlaw18_address.mono _ _
      | exact trystlaw18_awake.mono _
      | exact trystlaw18_person.mono _ _ _ _ _ _ _
      | exact LeO.none _
      | refine LeO.ite ?_ ?_
      | refine LeO.bind ?_ (fun _ => ?_)
    · intro y0 y1 y2 y3 y4 y5 y6 y7 y8 y9 y10 y11
      unfold trystlaw18_EventPeople.l0
      repeat' first
      | (with_reducible exact ih0 _ _ _)
      | (with_reducible exact ih1 _ _ _ _ _ _ _ _ _ _ _ _)
      | (with_reducible exact ih2 _ _ _ _ _ _ _ _ _ _ _ _ _ _)
      | (with_reducible exact event_Address.mono _ _)
      | (with_reducible exact event_Find.mono _ _ _ _ _ _ _ _ _ _ _ _ _ _ _ _ _ _ _ _ _ _ _ _ _ _ _ _ _ _ _ _ _ _ _ _ _ _ _ _)
      | (with_reducible exact event_RightPerson.mono _ _ _ _ _ _ _)
      | (with_reducible exact trystlaw18_address.mono _ _)
      | (with_reducible exact trystlaw18_awake.mono _)
      | (with_reducible exact trystlaw18_person.mono _ _ _ _ _ _ _)
      | (with_reducible exact LeO.refl _)
      | (with_reducible exact LeO.none _)
      | (with_reducible refine LeO.ite ?_ ?_)
      | (with_reducible refine LeO.bind ?_ (fun _ => ?_))
      | exact ih0 _ _ _
      | exact ih1 _ _ _ _ _ _ _ _ _ _ _ _
      | exact ih2 _ _ _ _ _ _ _ _ _ _ _ _ _ _
      | exact event_Address.mono _ _
      | exact event_Find.mono _ _ _ _ _ _ _ _ _ _ _ _ _ _ _ _ _ _ _ _ _ _ _ _ _ _ _ _ _ _ _ _ _ _ _ _ _ _ _ _
      | exact event_RightPerson.mono _ _ _ _ _ _ _
      | exact trystlaw18_address.mono _ _
      | exact trystlaw18_awake.mono _
      | exact trystlaw18_person.mono _ _ _ _ _ _ _
      | exact LeO.none _
      | refine LeO.ite ?_ ?_
      | refine LeO.bind ?_ (fun _ => ?_)
    · intro y0 y1 y2 y3 y4 y5 y6 y7 y8 y9 y10 y11 y12 y13
      unfold trystlaw18_EventPeople.j2
      repeat' first
      | (with_reducible exact ih0 _ _ _)
      | (with_reducible exact ih1 _ _ _ _ _ _ _ _ _ _ _ _)
      | (with_reducible exact ih2 _ _ _ _ _ _ _ _ _ _ _ _ _ _)
      | (with_reducible exact event_Address.mono _ _)
      | (with_reducible exact event_Find.mono _ _ _ _ _ _ _ _ _ _ _ _ _ _ _ _ _ _ _ _ _ _ _ _ _ _ _ _ _ _ _ _ _ _ _ _ _ _ _ _)
      | (with_reducible exact event_RightPerson.mono _ _ _ _ _ _ _)
      | (with_reducible exact trystlaw18_address.mono _ _)
      | (with_reducible exact trystlaw18_awake.mono _)
      | (with_reducible exact trystlaw18_person.mono _ _ _ _ _ _ _)
      | (with_reducible exact LeO.refl _)
      | (with_reducible exact LeO.none _)
      | (with_reducible refine LeO.ite ?_ ?_)
      | (with_reducible refine LeO.bind ?_ (fun _ => ?_))
      | exact ih0 _ _ _
      | exact ih1 _ _ _ _ _ _ _ _ _ _ _ _
      | exact ih2 _ _ _ _ _ _ _ _ _ _ _ _ _ _
      | exact event_Address.mono _ _
      | exact event_Find.mono _ _ _ _ _ _ _ _ _ _ _ _ _ _ _ _ _ _ _ _ _ _ _ _ _ _ _ _ _ _ _ _ _ _ _ _ _ _ _ _
      | exact event_RightPerson.mono _ _ _ _ _ _ _
      | exact trystlaw18_address.mono _ _
      | exact trystlaw18_awake.mono _
      | exact trystlaw18_person.mono _ _ _ _ _ _ _
      | exact LeO.none _
      | refine LeO.ite ?_ ?_
      | refine LeO.bind ?_ (fun _ => ?_)
theorem trystlaw18_EventPeople.mono : ∀ a0 a1 k, LeO (trystlaw18_EventPeople.f k a0 a1) (trystlaw18_EventPeople.f (k + 1) a0 a1) := by
  intro a0 a1 k
  obtain ⟨ih0, ih1, ih2⟩ := trystlaw18_EventPeople.mono_l k
  unfold trystlaw18_EventPeople.f
  repeat' first
      | (with_reducible exact ih0 _ _ _)
      | (with_reducible exact ih1 _ _ _ _ _ _ _ _ _ _ _ _)
      | (with_reducible exact ih2 _ _ _ _ _ _ _ _ _ _ _ _ _ _)
      | (with_reducible exact event_Address.mono _ _)
      | (with_reducible exact event_Find.mono _ _ _ _ _ _ _ _ _ _ _ _ _ _ _ _ _ _ _ _ _ _ _ _ _ _ _ _ _ _ _ _ _ _ _ _ _ _ _ _)
      | (with_reducible exact event_RightPerson.mono _ _ _ _ _ _ _)
      | (with_reducible exact trystlaw18_address.mono _ _)
      | (with_reducible exact trystlaw18_awake.mono _)
      | (with_reducible exact trystlaw18_person.mono _ _ _ _ _ _ _)
      | (with_reducible exact LeO.refl _)
      | (with_reducible exact LeO.none _)
      | (with_reducible refine LeO.ite ?_ ?_)
      | (with_reducible refine LeO.bind ?_ (fun _ => ?_))
      | exact ih0 _ _ _
      | exact ih1 _ _ _ _ _ _ _ _ _ _ _ _
      | exact ih2 _ _ _ _ _ _ _ _ _ _ _ _ _ _
      | exact event_Address.mono _ _
      | exact event_Find.mono _ _ _ _ _ _ _ _ _ _ _ _ _ _ _ _ _ _ _ _ _ _ _ _ _ _ _ _ _ _ _ _ _ _ _ _ _ _ _ _
      | exact event_RightPerson.mono _ _ _ _ _ _ _
      | exact trystlaw18_address.mono _ _
      | exact trystlaw18_awake.mono _
      | exact trystlaw18_person.mono _ _ _ _ _ _ _
      | exact LeO.none _
      | refine LeO.ite ?_ ?_
      | refine LeO.bind ?_ (fun _ => ?_)
def trystlaw18_EventPeople.T9 : Bool × List (List Nat × List Nat) := (true, [([], []), ([], []), ([0, 1], [0, 1]), ([2], [2]), ([3], [3]), ([4], [4]), ([], []), ([], []), ([6, 7], [6, 7]), ([8], [8]), ([9], [9]), ([10], [10]), ([5, 11], [5, 11]), ([], []), ([], []), ([13, 14], [13, 14]), ([15], [15]), ([16], [16]), ([17], [17]), ([12, 18], [12, 18]), ([19], [19]), ([20], [20]), ([21], [21]), ([21], [21]), ([22, 23, 21], [21, 22, 23]), ([24, 21], [21, 24]), ([25, 21, 21], [21, 25]), ([21], [21]), ([21], [21]), ([27, 28, 21], [21, 27, 28]), ([29, 21], [21, 29]), ([30, 26, 21], [21, 30]), ([26, 31, 21], [21, 26, 31]), ([21, 32], [21, 32])])
def trystlaw18_EventPeople.B9 : List Nat := [0, 0, 3, 7, 15, 31, 0, 0, 192, 448, 960, 1984, 4095, 0, 0, 24576, 57344, 122880, 253952, 524287, 1048575, 2097151, 4194303, 4194303, 16777215, 33554431, 67108863, 4194303, 4194303, 406847487, 943718399, 2147483647, 4294967295, 8589934591]
theorem trystlaw18_EventPeople.tab9 : rtab .any (opsOf Try.f4 9) = trystlaw18_EventPeople.T9 := by kernel_rfl
theorem trystlaw18_EventPeople.bits9 : waitsOk trystlaw18_EventPeople.T9.2 trystlaw18_EventPeople.B9 = true := by kernel_rfl
def trystlaw18_EventPeople.T10 : Bool × List (List Nat × List Nat) := (true, [([], []), ([], []), ([0, 1], [0, 1]), ([2], [2]), ([3], [3]), ([4], [4]), ([], []), ([], []), ([6, 7], [6, 7]), ([8], [8]), ([9], [9]), ([10], [10]), ([5, 11], [5, 11]), ([], []), ([], []), ([13, 14], [13, 14]), ([15], [15]), ([16], [16]), ([17], [17]), ([12, 18], [12, 18]), ([19], [19]), ([20, 0, 1, 2, 3, 4, 5, 6, 7, 8, 9, 10, 11, 12, 13, 14, 15, 16, 17, 18, 19, 20], [20])])
def trystlaw18_EventPeople.B10 : List Nat := [0, 0, 3, 7, 15, 31, 0, 0, 192, 448, 960, 1984, 4095, 0, 0, 24576, 57344, 122880, 253952, 524287, 1048575, 2097151]
theorem trystlaw18_EventPeople.tab10 : rtab .any (opsOf Try.f4 10) = trystlaw18_EventPeople.T10 := by kernel_rfl
theorem trystlaw18_EventPeople.bits10 : waitsOk trystlaw18_EventPeople.T10.2 trystlaw18_EventPeople.B10 = true := by kernel_rfl
def trystlaw18_EventPeople.T18 : Bool × List (List Nat × List Nat) := (true, [([], []), ([0], [0]), ([1], [1]), ([1], [1]), ([1], [1]), ([3, 4, 1], [1, 3, 4]), ([5, 1], [1, 5]), ([2, 6, 1], [1, 2, 6]), ([1, 7], [1, 7]), ([8, 1, 0, 1, 2, 3, 4, 5, 6, 7, 8], [8])])
def trystlaw18_EventPeople.B18 : List Nat := [0, 1, 3, 3, 3, 27, 59, 127, 255, 511]
theorem trystlaw18_EventPeople.tab18 : rtab .any (opsOf Try.f4 18) = trystlaw18_EventPeople.T18 := by kernel_rfl
theorem trystlaw18_EventPeople.bits18 : waitsOk trystlaw18_EventPeople.T18.2 trystlaw18_EventPeople.B18 = true := by kernel_rfl
set_option maxHeartbeats 8000000 in
set_option maxRecDepth 100000 in
theorem trystlaw18_EventPeople.calls (k : Nat) (A0 : Option Addr) (c0 : Nat) (l0 : List (S40)) (a1 : ByteArray) (r : Bool) (w : World) (hr0 : Kd.C k40 w A0 l0.length l0) (hc0 : l0.length ≤ c0) (h : trystlaw18_EventPeople.f k l0 a1 = some r) :
    Calls Try.prog 4 #[.slice A0 l0.length c0, .string a1] w fun e w' => e = .returned (.bool r) ∧ Below w.heap.size w w' := by
  have hu36 := Try.underlying36
  have hu40 := Try.underlying40
  have HR0 := Aside0.mk hr0
  have HC0 := Aside0.mk hc0
  clear hr0 hc0
  have HB := Aside0.mk (Below.refl w.heap.size w)
  have H : ((trystlaw18_awake.f k).bind fun t123 => (if t123 = true then (if (l0.length : Int) > 50 then (trystlaw18_EventPeople.j0 k l0 a1 true) else (trystlaw18_EventPeople.j0 k l0 a1 (decide ((a1.size : Int) > 500)))) else (trystlaw18_EventPeople.j0 k l0 a1 true))) = some r := h
  clear h
  have HC3 := Aside0.mk H
  clear H
  go_enter Try.func4, Try.ntmps4
  go_upto_region 1 with (fail)
  go_cut [21] (fun v21 wc => ∃ (kq : Nat) (x21_2 : Bool), v21 = .bool x21_2 ∧ Aside0 (trystlaw18_EventPeople.j0 kq l0 a1 x21_2 = some r) ∧ Aside0 (kq ≤ k) ∧ Aside0 (Below w.heap.size w wc))
  case first =>
    have H := HC3.out
    clear HC3
    replace H := Option.bind_eq_some_iff.mp H
    obtain ⟨t123, A40, H⟩ := H
    replace H : (if t123 = true then (if (l0.length : Int) > 50 then (trystlaw18_EventPeople.j0 k l0 a1 true) else (trystlaw18_EventPeople.j0 k l0 a1 (decide ((a1.size : Int) > 500)))) else (trystlaw18_EventPeople.j0 k l0 a1 true)) = some r := H
    have A4 := Aside0.mk A40
    clear A40
    by_cases c5 : t123 = true
    · subst c5
      have H1 : (if (l0.length : Int) > 50 then (trystlaw18_EventPeople.j0 k l0 a1 true) else (trystlaw18_EventPeople.j0 k l0 a1 (decide ((a1.size : Int) > 500)))) = some r := by rw [if_pos rfl] at H; exact H
      clear H
      have H := H1
      clear H1
      by_cases c6 : (l0.length : Int) > 50
      · rw [if_pos c6] at H
        have c6b0 : decide (50 < (l0.length : Int)) = true := decide_eq_true c6
        have c6b1 : decide (50 < l0.length) = true := decide_eq_true (by omega)
        clear c6
        (first | rw [c6b0] | (simp only [i64_w, i32_w]; rw [c6b0]) | skip)
        have H' := Aside0.mk H
        clear H
        go_wp2_with (first | ((with_reducible refine gate_callee (f := 9) rfl ?_); refine goesL_ (some 10) rfl rfl Try.func9 (by kernel_rfl) rfl #[] rfl (by (try simp only [List.map_toArray, List.map_cons, List.map_nil]); first | done | rfl | (simp only [List.length_drop, List.length_take]; rfl)) ?_; (with_reducible refine (trystlaw18_awake.calls k  true _ A4.out).mono ?_); rintro e w7 ⟨rfl, hb⟩; refine ⟨_, rfl, ?_⟩; have n0_ := Aside0.mk (below_step (by repeat (first | (with_reducible first | exact HB.out | apply below_alloc | apply pw_below_drewN | apply below_drew1) | exact HB.out)) hb); clear HB; have HB := n0_; clear n0_; (try clear hb); (try clear hb2); (try clear hk); (try clear hi)))
        go_meet
        case rel => exact ⟨_, (true), (by first | rfl | (simp; done) | (simp [*]; done)), H', ⟨by first | omega | exact Nat.le_refl _⟩, ⟨by repeat (first | (with_reducible first | exact HB.out | apply below_alloc | apply pw_below_drewN | apply below_drew1) | exact HB.out)⟩⟩
      · rw [if_neg c6] at H
        have c6b0 : decide (50 < (l0.length : Int)) = false := decide_eq_false c6
        have c6b1 : decide (50 < l0.length) = false := decide_eq_false (by omega)
        clear c6
        (first | rw [c6b0] | (simp only [i64_w, i32_w]; rw [c6b0]) | skip)
        have H' := Aside0.mk H
        clear H
        go_wp2_with (first | ((with_reducible refine gate_callee (f := 9) rfl ?_); refine goesL_ (some 10) rfl rfl Try.func9 (by kernel_rfl) rfl #[] rfl (by (try simp only [List.map_toArray, List.map_cons, List.map_nil]); first | done | rfl | (simp only [List.length_drop, List.length_take]; rfl)) ?_; (with_reducible refine (trystlaw18_awake.calls k  true _ A4.out).mono ?_); rintro e w8 ⟨rfl, hb⟩; refine ⟨_, rfl, ?_⟩; have n0_ := Aside0.mk (below_step (by repeat (first | (with_reducible first | exact HB.out | apply below_alloc | apply pw_below_drewN | apply below_drew1) | exact HB.out)) hb); clear HB; have HB := n0_; clear n0_; (try clear hb); (try clear hb2); (try clear hk); (try clear hi)))
        go_meet
        case rel => exact ⟨_, (decide ((a1.size : Int) > 500)), (by first | rfl | (simp; done) | (simp [*]; done)), H', ⟨by first | omega | exact Nat.le_refl _⟩, ⟨by repeat (first | (with_reducible first | exact HB.out | apply below_alloc | apply pw_below_drewN | apply below_drew1) | exact HB.out)⟩⟩
    · replace c5 := Bool.eq_false_iff.mpr c5
      subst c5
      have H1 : (trystlaw18_EventPeople.j0 k l0 a1 true) = some r := by rw [if_neg (show ¬ (false = true) by decide)] at H; exact H
      clear H
      have H := H1
      clear H1
      have H' := Aside0.mk H
      clear H
      go_wp2_with (first | ((with_reducible refine gate_callee (f := 9) rfl ?_); refine goesL_ (some 10) rfl rfl Try.func9 (by kernel_rfl) rfl #[] rfl (by (try simp only [List.map_toArray, List.map_cons, List.map_nil]); first | done | rfl | (simp only [List.length_drop, List.length_take]; rfl)) ?_; (with_reducible refine (trystlaw18_awake.calls k  false _ A4.out).mono ?_); rintro e w9 ⟨rfl, hb⟩; refine ⟨_, rfl, ?_⟩; have n0_ := Aside0.mk (below_step (by repeat (first | (with_reducible first | exact HB.out | apply below_alloc | apply pw_below_drewN | apply below_drew1) | exact HB.out)) hb); clear HB; have HB := n0_; clear n0_; (try clear hb); (try clear hb2); (try clear hk); (try clear hi)))
      go_meet
      case rel => exact ⟨_, (true), (by first | rfl | (simp; done) | (simp [*]; done)), H', ⟨by first | omega | exact Nat.le_refl _⟩, ⟨by repeat (first | (with_reducible first | exact HB.out | apply below_alloc | apply pw_below_drewN | apply below_drew1) | exact HB.out)⟩⟩
  case rest =>
    clear HC3
    try clear p2
    try clear c4
    try clear c5
    try clear c6
    try clear c6b0
    try clear c6b1
    try clear c9
    obtain ⟨kq, x21_2, rfl, HA, HJ2, HB⟩ := hcut
    cases kq with
    | zero => exact absurd HA.out (by simp [trystlaw18_EventPeople.j0])
    | succ kj2 =>
      have H := HA.out
      clear HA
      simp only [trystlaw18_EventPeople.j0] at H
      by_cases c10 : x21_2 = true
      · subst c10
        have H1 : ((trystlaw18_awake.f kj2).bind fun t124 => (some t124)) = some r := by rw [if_pos rfl] at H; exact H
        clear H
        have H := H1
        clear H1
        replace H := Option.bind_eq_some_iff.mp H
        obtain ⟨t124, A110, H⟩ := H
        replace H : (some t124) = some r := H
        have A11 := Aside0.mk A110
        clear A110
        obtain rfl := Option.some.inj H
        go_wp2_with (first | ((with_reducible refine gate_callee (f := 9) rfl ?_); refine goesL_ (some 22) rfl rfl Try.func9 (by kernel_rfl) rfl #[] rfl (by (try simp only [List.map_toArray, List.map_cons, List.map_nil]); first | done | rfl | (simp only [List.length_drop, List.length_take]; rfl)) ?_; (with_reducible refine (trystlaw18_awake.calls kj2  t124 _ A11.out).mono ?_); rintro e w12 ⟨rfl, hb⟩; refine ⟨_, rfl, ?_⟩; have n0_ := Aside0.mk (below_step (by repeat (first | (with_reducible first | exact HB.out | apply below_alloc | apply pw_below_drewN | apply below_drew1) | exact HB.out)) hb); clear HB; have HB := n0_; clear n0_; (try clear hb); (try clear hb2); (try clear hk); (try clear hi)))
        go_ret
        exact ⟨by first | rfl | (simp [errW_none, errW_some] <;> rfl) | (simp [*, errW_none, errW_some] <;> rfl), by repeat (first | (with_reducible first | exact HB.out | apply below_alloc | apply pw_below_drewN | apply below_drew1) | exact HB.out)⟩
      · replace c10 := Bool.eq_false_iff.mpr c10
        subst c10
        have H1 : ((event_Find.f kj2 (⟨#[]⟩ : ByteArray) 0 0 0 0 (⟨#[]⟩ : ByteArray) false 0 0 0 0 0 (⟨#[]⟩ : ByteArray) false 0 ([] : List Int) ([] : List Int) ([] : List Int) ([] : List (S139)) ([] : List Int) ([] : List Int) ([] : List Int) ([] : List Int) ([] : List Int) ([] : List (S25)) ([] : List (S25)) 0 (⟨#[]⟩ : ByteArray) (⟨#[]⟩ : ByteArray) 0 (⟨#[]⟩ : ByteArray) l0 false 0 0 (⟨#[]⟩ : ByteArray) false ([] : List (S55)) a1).bind fun bt126 => (trystlaw18_EventPeople.l0 kj2 l0 a1 bt126.2.2.2.2.2.2 (-1) (l0.length : Int) 0 bt126.1 bt126.2.1 bt126.2.2.1 bt126.2.2.2.1 bt126.2.2.2.2.1 bt126.2.2.2.2.2.1)) = some r := by rw [if_neg (show ¬ (false = true) by decide)] at H; exact H
        clear H
        have H := H1
        clear H1
        replace H := Option.bind_eq_some_iff.mp H
        obtain ⟨⟨t126, t127, t128, t129, t130, t131, t132⟩, A130, H⟩ := H
        replace H : (trystlaw18_EventPeople.l0 kj2 l0 a1 t132 (-1) (l0.length : Int) 0 t126 t127 t128 t129 t130 t131) = some r := H
        have A13 := Aside0.mk A130
        clear A130
        have H' := Aside0.mk H
        clear H
        go_wp2_with (first | (with_reducible refine Evp.wpList_alloc rfl rfl ?_) | (with_reducible refine Evp.wpList_buildE rfl _ rfl A0 l0.length c0 rfl ?_) | (with_reducible refine Evp.wpList_store rfl _ _ rfl _ A0 l0.length c0 rfl rfl (heap_alloc_new _ _) ?_) | (with_reducible refine Evp.wpList_load rfl _ rfl _ A0 l0.length c0 rfl (setRow_heap _ _ _ _ _ _ (heap_alloc_new _ _)) ?_))
        have X0 := Aside0.mk (below_setRow (below_alloc HB.out (.cells (Evp.evp none 0 0) 36)) (Below.size HB.out) (Evp.evp A0 l0.length c0))
        have X1 := Aside0.mk (setRow_heap _ _ _ (Evp.evp A0 l0.length c0) _ _ (heap_alloc_new wc (.cells (Evp.evp none 0 0) 36)))
        have X2 := Aside0.mk (Below.size HB.out)
        refine (Evp.find kj2 A0 c0 l0 a1 t126 t127 t128 t129 t130 t131 t132 _ (Kd.C_below HR0.out X0.out) HC0.out A13.out).mono ?_
        rintro e w16 ⟨rfl, hb⟩
        have BK125 := Aside0.mk (blk_below X1.out hb)
        have n0_ := Aside0.mk (below_step X0.out hb)
        clear HB X0 X1
        have HB := n0_
        clear n0_ hb
        have GE125 := X2
        clear X2
        go_wp2
        have BK133 := Aside0.mk (heap_alloc_new w16 (.cells #[.string t126, .int .i64 t127, .int .i64 t128, .bool t129, .string t130, .string t131] 40))
        have GE133 := Aside0.mk (Below.size HB.out)
        have BL := Aside0.mk (blk_alloc BK125.out (.cells #[.string t126, .int .i64 t127, .int .i64 t128, .bool t129, .string t130, .string t131] 40))
        have n1_ := Aside0.mk (below_alloc HB.out (.cells #[.string t126, .int .i64 t127, .int .i64 t128, .bool t129, .string t130, .string t131] 40))
        have NB133_125 := Aside0.mk (Nat.ne_of_gt (blk_lt BK125.out))
        have NB125_133 := Aside0.mk (Nat.ne_of_lt (blk_lt BK125.out))
        clear HB BK125
        have HB := n1_
        have BK125 := BL
        clear n1_ BL
        generalize hgb : w16.heap.size = gb133 at *
        have HGB := Aside0.mk hgb
        clear hgb
        generalize hga : wc.heap.size = gb125 at *
        have HGA := Aside0.mk hga
        clear hga
        go_loopg [8, 33] kj2 (fun kq v8 v33 w' => ∃ (x8_2 : Int) (x33_2 : Int), v8 = .int .i64 x8_2 ∧ v33 = .int .i64 x33_2 ∧ Aside0 (trystlaw18_EventPeople.l0 kq l0 a1 t132 x8_2 (l0.length : Int) x33_2 t126 t127 t128 t129 t130 t131 = some r) ∧ Aside0 (kq ≤ kj2) ∧ Aside0 (w'.heap[gb125]? = some (.cells (Evp.evp A0 l0.length c0) 36 (0, 0))) ∧ Aside0 (w'.heap[gb133]? = some (.cells #[.string t126, .int .i64 t127, .int .i64 t128, .bool t129, .string t130, .string t131] 40 (0, 0))) ∧ Aside0 (Below w.heap.size w w'))
        case atStart => exact ⟨((-1)), (0), (by first | rfl | (simp; done) | (simp [*]; done)), (by first | rfl | (simp; done) | (simp [*]; done)), H', ⟨Nat.le_refl _⟩, BK125, BK133, HB⟩
        case round =>
          clear H'
          try clear c1
          try clear p2
          try clear c4
          try clear c5
          try clear c6
          try clear c6b0
          try clear c6b1
          try clear c9
          try clear c10
          try clear c11
          try clear c18
          try clear hcz19_0
          try clear hcz19_1
          try clear hcz19_2
          try clear hcz19_3
          try clear hcz19_4
          try clear hcz19_5
          try clear hfz19_0
          try clear hfz19_1
          try clear hfz19_2
          try clear hfz19_3
          try clear hfz19_4
          try clear hfz19_5
          try clear p2
          obtain ⟨x8_2, x33_2, rfl, rfl, HA, HK2, BK125, BK133, HB⟩ := hrel
          cases gk with
          | zero => exact absurd HA.out (by simp [trystlaw18_EventPeople.l0])
          | succ k2 =>
            have H := HA.out
            clear HA
            simp only [trystlaw18_EventPeople.l0] at H
            by_cases c20 : x33_2 < (l0.length : Int)
            · rw [if_pos c20] at H
              have c20b0 : decide (x33_2 < (l0.length : Int)) = true := decide_eq_true c20
              clear c20
              have HC21 := Aside0.mk H
              clear H
              go_upto_region 9 with (fail)
              go_cut [69] (fun v69 wc => ∃ (kq : Nat) (x69_20 : Bool), v69 = .bool x69_20 ∧ Aside0 (trystlaw18_EventPeople.j2 kq l0 a1 t132 x8_2 x33_2 (l0.length : Int) x33_2 x69_20 t126 t127 t128 t129 t130 t131 = some r) ∧ Aside0 (kq ≤ k2) ∧ Aside0 (wc.heap[gb125]? = some (.cells (Evp.evp A0 l0.length c0) 36 (0, 0))) ∧ Aside0 (wc.heap[gb133]? = some (.cells #[.string t126, .int .i64 t127, .int .i64 t128, .bool t129, .string t130, .string t131] 40 (0, 0))) ∧ Aside0 (Below w.heap.size w wc))
              case first =>
                have H := HC21.out
                clear HC21
                by_cases c22 : 0 ≤ x33_2
                · rw [if_pos c22] at H
                  have c22b0 : decide (0 ≤ x33_2) = true := decide_eq_true c22
                  clear c22
                  (first | rw [c22b0] | (simp only [i64_w, i32_w]; rw [c22b0]) | skip)
                  by_cases c23 : x33_2 < (l0.length : Int)
                  · rw [if_pos c23] at H
                    have c23b0 : decide (x33_2 < (l0.length : Int)) = true := decide_eq_true c23
                    clear c23
                    by_cases c24 : (wrap64 ((wrap64 ((((rd_T40 l0 x33_2).f0).size : Int) + (((rd_T40 l0 x33_2).f4).size : Int))) + (((rd_T40 l0 x33_2).f5).size : Int))) > 1000
                    · rw [if_pos c24] at H
                      have c24b0 : decide (1000 < (wrap64 ((wrap64 ((((rd_T40 l0 x33_2).f0).size : Int) + (((rd_T40 l0 x33_2).f4).size : Int))) + (((rd_T40 l0 x33_2).f5).size : Int)))) = true := decide_eq_true c24
                      clear c24
                      have H' := Aside0.mk H
                      clear H
                      try go_wp2
                      have n0_ := Aside0.mk (blk_drew BK125.out)
                      have n1_ := Aside0.mk (blk_drew BK133.out)
                      have n2_ := Aside0.mk (below_drew1 HB.out)
                      clear BK125
                      clear BK133
                      clear HB
                      have BK125 := n0_
                      have BK133 := n1_
                      have HB := n2_
                      clear n0_ n1_ n2_
                      have p134 : 0 ≤ (x33_2 : Int) := of_decide_eq_true (by first | (with_reducible assumption) | assumption)
                      have q134 : x33_2 < (l0.length : Int) := of_decide_eq_true (by first | (with_reducible assumption) | assumption)
                      obtain ⟨ad134, e134, hx134_0, hx134_1, hx134_2, hx134_3, hx134_4, hx134_5⟩ := at_T40 HR0.out x33_2 p134 q134
                      have hw134_5 := hx134_5
                      have hw134_4 := hx134_4
                      have hw134_3 := hx134_3
                      have hw134_2 := hx134_2
                      have hw134_1 := hx134_1
                      have hw134_0 := hx134_0
                      cases e134
                      replace hx134_0 := (HB.out.cell (World.block_lt_of_cell? w _ hx134_0)).trans hx134_0
                      replace hx134_1 := (HB.out.cell (World.block_lt_of_cell? w _ hx134_1)).trans hx134_1
                      replace hx134_2 := (HB.out.cell (World.block_lt_of_cell? w _ hx134_2)).trans hx134_2
                      replace hx134_3 := (HB.out.cell (World.block_lt_of_cell? w _ hx134_3)).trans hx134_3
                      replace hx134_4 := (HB.out.cell (World.block_lt_of_cell? w _ hx134_4)).trans hx134_4
                      replace hx134_5 := (HB.out.cell (World.block_lt_of_cell? w _ hx134_5)).trans hx134_5
                      replace p134 := eq_true p134
                      replace q134 := eq_true q134
                      have p135 : 0 ≤ (x33_2 : Int) := of_decide_eq_true (by first | (with_reducible assumption) | assumption)
                      have q135 : x33_2 < (l0.length : Int) := of_decide_eq_true (by first | (with_reducible assumption) | assumption)
                      obtain ⟨ad135, e135, hx135_0, hx135_1, hx135_2, hx135_3, hx135_4, hx135_5⟩ := at_T40 HR0.out x33_2 p135 q135
                      have hw135_5 := hx135_5
                      have hw135_4 := hx135_4
                      have hw135_3 := hx135_3
                      have hw135_2 := hx135_2
                      have hw135_1 := hx135_1
                      have hw135_0 := hx135_0
                      obtain rfl : ad134 = ad135 := (by injection e135)
                      replace hx135_0 := (HB.out.cell (World.block_lt_of_cell? w _ hx135_0)).trans hx135_0
                      replace hx135_1 := (HB.out.cell (World.block_lt_of_cell? w _ hx135_1)).trans hx135_1
                      replace hx135_2 := (HB.out.cell (World.block_lt_of_cell? w _ hx135_2)).trans hx135_2
                      replace hx135_3 := (HB.out.cell (World.block_lt_of_cell? w _ hx135_3)).trans hx135_3
                      replace hx135_4 := (HB.out.cell (World.block_lt_of_cell? w _ hx135_4)).trans hx135_4
                      replace hx135_5 := (HB.out.cell (World.block_lt_of_cell? w _ hx135_5)).trans hx135_5
                      replace p135 := eq_true p135
                      replace q135 := eq_true q135
                      have p136 : 0 ≤ (x33_2 : Int) := of_decide_eq_true (by first | (with_reducible assumption) | assumption)
                      have q136 : x33_2 < (l0.length : Int) := of_decide_eq_true (by first | (with_reducible assumption) | assumption)
                      obtain ⟨ad136, e136, hx136_0, hx136_1, hx136_2, hx136_3, hx136_4, hx136_5⟩ := at_T40 HR0.out x33_2 p136 q136
                      have hw136_5 := hx136_5
                      have hw136_4 := hx136_4
                      have hw136_3 := hx136_3
                      have hw136_2 := hx136_2
                      have hw136_1 := hx136_1
                      have hw136_0 := hx136_0
                      obtain rfl : ad134 = ad136 := (by injection e136)
                      replace hx136_0 := (HB.out.cell (World.block_lt_of_cell? w _ hx136_0)).trans hx136_0
                      replace hx136_1 := (HB.out.cell (World.block_lt_of_cell? w _ hx136_1)).trans hx136_1
                      replace hx136_2 := (HB.out.cell (World.block_lt_of_cell? w _ hx136_2)).trans hx136_2
                      replace hx136_3 := (HB.out.cell (World.block_lt_of_cell? w _ hx136_3)).trans hx136_3
                      replace hx136_4 := (HB.out.cell (World.block_lt_of_cell? w _ hx136_4)).trans hx136_4
                      replace hx136_5 := (HB.out.cell (World.block_lt_of_cell? w _ hx136_5)).trans hx136_5
                      replace p136 := eq_true p136
                      replace q136 := eq_true q136
                      refine start_ (n := 34) (S := fun w' => w'.cell? (ad134.add ((x33_2).toNat * 6)) = some (.string ((rd_T40 l0 x33_2).f0)) ∧ w'.cell? ⟨(ad134.add ((x33_2).toNat * 6)).block, (ad134.add ((x33_2).toNat * 6)).off + 1, none⟩ = some (.int .i64 ((rd_T40 l0 x33_2).f1)) ∧ w'.cell? ⟨(ad134.add ((x33_2).toNat * 6)).block, (ad134.add ((x33_2).toNat * 6)).off + 2, none⟩ = some (.int .i64 ((rd_T40 l0 x33_2).f2)) ∧ w'.cell? ⟨(ad134.add ((x33_2).toNat * 6)).block, (ad134.add ((x33_2).toNat * 6)).off + 3, none⟩ = some (.bool ((rd_T40 l0 x33_2).f3)) ∧ w'.cell? ⟨(ad134.add ((x33_2).toNat * 6)).block, (ad134.add ((x33_2).toNat * 6)).off + 4, none⟩ = some (.string ((rd_T40 l0 x33_2).f4)) ∧ w'.cell? ⟨(ad134.add ((x33_2).toNat * 6)).block, (ad134.add ((x33_2).toNat * 6)).off + 5, none⟩ = some (.string ((rd_T40 l0 x33_2).f5)) ∧ w'.cell? (ad134.add ((x33_2).toNat * 6)) = some (.string ((rd_T40 l0 x33_2).f0)) ∧ w'.cell? ⟨(ad134.add ((x33_2).toNat * 6)).block, (ad134.add ((x33_2).toNat * 6)).off + 1, none⟩ = some (.int .i64 ((rd_T40 l0 x33_2).f1)) ∧ w'.cell? ⟨(ad134.add ((x33_2).toNat * 6)).block, (ad134.add ((x33_2).toNat * 6)).off + 2, none⟩ = some (.int .i64 ((rd_T40 l0 x33_2).f2)) ∧ w'.cell? ⟨(ad134.add ((x33_2).toNat * 6)).block, (ad134.add ((x33_2).toNat * 6)).off + 3, none⟩ = some (.bool ((rd_T40 l0 x33_2).f3)) ∧ w'.cell? ⟨(ad134.add ((x33_2).toNat * 6)).block, (ad134.add ((x33_2).toNat * 6)).off + 4, none⟩ = some (.string ((rd_T40 l0 x33_2).f4)) ∧ w'.cell? ⟨(ad134.add ((x33_2).toNat * 6)).block, (ad134.add ((x33_2).toNat * 6)).off + 5, none⟩ = some (.string ((rd_T40 l0 x33_2).f5)) ∧ w'.cell? (ad134.add ((x33_2).toNat * 6)) = some (.string ((rd_T40 l0 x33_2).f0)) ∧ w'.cell? ⟨(ad134.add ((x33_2).toNat * 6)).block, (ad134.add ((x33_2).toNat * 6)).off + 1, none⟩ = some (.int .i64 ((rd_T40 l0 x33_2).f1)) ∧ w'.cell? ⟨(ad134.add ((x33_2).toNat * 6)).block, (ad134.add ((x33_2).toNat * 6)).off + 2, none⟩ = some (.int .i64 ((rd_T40 l0 x33_2).f2)) ∧ w'.cell? ⟨(ad134.add ((x33_2).toNat * 6)).block, (ad134.add ((x33_2).toNat * 6)).off + 3, none⟩ = some (.bool ((rd_T40 l0 x33_2).f3)) ∧ w'.cell? ⟨(ad134.add ((x33_2).toNat * 6)).block, (ad134.add ((x33_2).toNat * 6)).off + 4, none⟩ = some (.string ((rd_T40 l0 x33_2).f4)) ∧ w'.cell? ⟨(ad134.add ((x33_2).toNat * 6)).block, (ad134.add ((x33_2).toNat * 6)).off + 5, none⟩ = some (.string ((rd_T40 l0 x33_2).f5))) (ds := []) #[false, false, false, false, false, false, false, false, false, false, false, false, false, false, false, false, false, false, false, false, false, false, false, false, false, false, false, false, false, false, false, false, false, false] (by kernel_rfl) rfl rfl ⟨((HB.out.cell (World.block_lt_of_cell? w _ hw134_0)).trans hw134_0), ((HB.out.cell (World.block_lt_of_cell? w _ hw134_1)).trans hw134_1), ((HB.out.cell (World.block_lt_of_cell? w _ hw134_2)).trans hw134_2), ((HB.out.cell (World.block_lt_of_cell? w _ hw134_3)).trans hw134_3), ((HB.out.cell (World.block_lt_of_cell? w _ hw134_4)).trans hw134_4), ((HB.out.cell (World.block_lt_of_cell? w _ hw134_5)).trans hw134_5), ((HB.out.cell (World.block_lt_of_cell? w _ hw135_0)).trans hw135_0), ((HB.out.cell (World.block_lt_of_cell? w _ hw135_1)).trans hw135_1), ((HB.out.cell (World.block_lt_of_cell? w _ hw135_2)).trans hw135_2), ((HB.out.cell (World.block_lt_of_cell? w _ hw135_3)).trans hw135_3), ((HB.out.cell (World.block_lt_of_cell? w _ hw135_4)).trans hw135_4), ((HB.out.cell (World.block_lt_of_cell? w _ hw135_5)).trans hw135_5), ((HB.out.cell (World.block_lt_of_cell? w _ hw136_0)).trans hw136_0), ((HB.out.cell (World.block_lt_of_cell? w _ hw136_1)).trans hw136_1), ((HB.out.cell (World.block_lt_of_cell? w _ hw136_2)).trans hw136_2), ((HB.out.cell (World.block_lt_of_cell? w _ hw136_3)).trans hw136_3), ((HB.out.cell (World.block_lt_of_cell? w _ hw136_4)).trans hw136_4), ((HB.out.cell (World.block_lt_of_cell? w _ hw136_5)).trans hw136_5)⟩ (fun hHeld => ?_); refine with_tabW trystlaw18_EventPeople.tab9 trystlaw18_EventPeople.bits9 (fun HT_ HW_ => ?_)
                      generalize wr.drew = w25 at BK125 BK133 HB hx134_0 hx134_1 hx134_2 hx134_3 hx134_4 hx134_5 hx135_0 hx135_1 hx135_2 hx135_3 hx135_4 hx135_5 hx136_0 hx136_1 hx136_2 hx136_3 hx136_4 hx136_5 hHeld ⊢
                      refine pure_ (i := 0) (N := some 36) (v := ?_) (a' := ?_) #[true, false, false, false, false, false, false, false, false, false, false, false, false, false, false, false, false, false, false, false, false, false, false, false, false, false, false, false, false, false, false, false, false, false] rfl rfl (any_of HT_.out (by kernel_rfl)) (fun _ _ _ h => h) (Or.inl ⟨by rfl, ?_⟩) ?_ ?_
                      rotate_left
                      · intro w'
                        go_simp
                        with_reducible rfl
                      rotate_left
                      · simp only [Act.put, List.setIfInBounds_toArray, List.set_cons_zero, List.set_cons_succ, i64_w, i32_w]
                        rfl
                      refine pure_ (i := 1) (N := some 37) (v := ?_) (a' := ?_) #[true, true, false, false, false, false, false, false, false, false, false, false, false, false, false, false, false, false, false, false, false, false, false, false, false, false, false, false, false, false, false, false, false, false] rfl rfl (any_of HT_.out (by kernel_rfl)) (fun _ _ _ h => h) (Or.inl ⟨by rfl, ?_⟩) ?_ ?_
                      rotate_left
                      · intro w'
                        go_simp
                        with_reducible rfl
                      rotate_left
                      · simp only [Act.put, List.setIfInBounds_toArray, List.set_cons_zero, List.set_cons_succ, i64_w, i32_w]
                        rfl
                      refine pure_ (i := 2) (N := some 38) (v := ?_) (a' := ?_) #[true, true, true, false, false, false, false, false, false, false, false, false, false, false, false, false, false, false, false, false, false, false, false, false, false, false, false, false, false, false, false, false, false, false] rfl rfl (any_of HT_.out (by kernel_rfl)) (fun _ _ _ h => h) (Or.inl ⟨by rfl, ?_⟩) ?_ ?_
                      rotate_left
                      · intro w'
                        go_simp
                        with_reducible rfl
                      rotate_left
                      · simp only [Act.put, List.setIfInBounds_toArray, List.set_cons_zero, List.set_cons_succ, i64_w, i32_w]
                        rfl
                      refine pure_ (i := 3) (N := some 39) (v := ?_) (a' := ?_) #[true, true, true, true, false, false, false, false, false, false, false, false, false, false, false, false, false, false, false, false, false, false, false, false, false, false, false, false, false, false, false, false, false, false] rfl rfl (any_of HT_.out (by kernel_rfl)) (fun _ _ _ h => h) (Or.inl ⟨by rfl, ?_⟩) ?_ ?_
                      rotate_left
                      · intro w'
                        go_simp
                        with_reducible rfl
                      rotate_left
                      · simp only [Act.put, List.setIfInBounds_toArray, List.set_cons_zero, List.set_cons_succ, i64_w, i32_w]
                        rfl
                      refine pure_ (i := 6) (N := some 42) (v := ?_) (a' := ?_) #[true, true, true, true, false, false, true, false, false, false, false, false, false, false, false, false, false, false, false, false, false, false, false, false, false, false, false, false, false, false, false, false, false, false] rfl rfl (any_of HT_.out (by kernel_rfl)) (fun _ _ _ h => h) (Or.inl ⟨by rfl, ?_⟩) ?_ ?_
                      rotate_left
                      · intro w'
                        go_simp
                        with_reducible rfl
                      rotate_left
                      · simp only [Act.put, List.setIfInBounds_toArray, List.set_cons_zero, List.set_cons_succ, i64_w, i32_w]
                        rfl
                      refine pure_ (i := 7) (N := some 43) (v := ?_) (a' := ?_) #[true, true, true, true, false, false, true, true, false, false, false, false, false, false, false, false, false, false, false, false, false, false, false, false, false, false, false, false, false, false, false, false, false, false] rfl rfl (any_of HT_.out (by kernel_rfl)) (fun _ _ _ h => h) (Or.inl ⟨by rfl, ?_⟩) ?_ ?_
                      rotate_left
                      · intro w'
                        go_simp
                        with_reducible rfl
                      rotate_left
                      · simp only [Act.put, List.setIfInBounds_toArray, List.set_cons_zero, List.set_cons_succ, i64_w, i32_w]
                        rfl
                      refine pure_ (i := 8) (N := some 44) (v := ?_) (a' := ?_) #[true, true, true, true, false, false, true, true, true, false, false, false, false, false, false, false, false, false, false, false, false, false, false, false, false, false, false, false, false, false, false, false, false, false] rfl rfl (any_of HT_.out (by kernel_rfl)) (fun _ _ _ h => h) (Or.inl ⟨by rfl, ?_⟩) ?_ ?_
                      rotate_left
                      · intro w'
                        go_simp
                        with_reducible rfl
                      rotate_left
                      · simp only [Act.put, List.setIfInBounds_toArray, List.set_cons_zero, List.set_cons_succ, i64_w, i32_w]
                        rfl
                      refine pure_ (i := 9) (N := some 45) (v := ?_) (a' := ?_) #[true, true, true, true, false, false, true, true, true, true, false, false, false, false, false, false, false, false, false, false, false, false, false, false, false, false, false, false, false, false, false, false, false, false] rfl rfl (any_of HT_.out (by kernel_rfl)) (fun _ _ _ h => h) (Or.inl ⟨by rfl, ?_⟩) ?_ ?_
                      rotate_left
                      · intro w'
                        go_simp
                        with_reducible rfl
                      rotate_left
                      · simp only [Act.put, List.setIfInBounds_toArray, List.set_cons_zero, List.set_cons_succ, i64_w, i32_w]
                        rfl
                      refine pure_ (i := 13) (N := some 49) (v := ?_) (a' := ?_) #[true, true, true, true, false, false, true, true, true, true, false, false, false, true, false, false, false, false, false, false, false, false, false, false, false, false, false, false, false, false, false, false, false, false] rfl rfl (any_of HT_.out (by kernel_rfl)) (fun _ _ _ h => h) (Or.inl ⟨by rfl, ?_⟩) ?_ ?_
                      rotate_left
                      · intro w'
                        go_simp
                        with_reducible rfl
                      rotate_left
                      · simp only [Act.put, List.setIfInBounds_toArray, List.set_cons_zero, List.set_cons_succ, i64_w, i32_w]
                        rfl
                      refine pure_ (i := 14) (N := some 50) (v := ?_) (a' := ?_) #[true, true, true, true, false, false, true, true, true, true, false, false, false, true, true, false, false, false, false, false, false, false, false, false, false, false, false, false, false, false, false, false, false, false] rfl rfl (any_of HT_.out (by kernel_rfl)) (fun _ _ _ h => h) (Or.inl ⟨by rfl, ?_⟩) ?_ ?_
                      rotate_left
                      · intro w'
                        go_simp
                        with_reducible rfl
                      rotate_left
                      · simp only [Act.put, List.setIfInBounds_toArray, List.set_cons_zero, List.set_cons_succ, i64_w, i32_w]
                        rfl
                      refine pure_ (i := 15) (N := some 51) (v := ?_) (a' := ?_) #[true, true, true, true, false, false, true, true, true, true, false, false, false, true, true, true, false, false, false, false, false, false, false, false, false, false, false, false, false, false, false, false, false, false] rfl rfl (any_of HT_.out (by kernel_rfl)) (fun _ _ _ h => h) (Or.inl ⟨by rfl, ?_⟩) ?_ ?_
                      rotate_left
                      · intro w'
                        go_simp
                        with_reducible rfl
                      rotate_left
                      · simp only [Act.put, List.setIfInBounds_toArray, List.set_cons_zero, List.set_cons_succ, i64_w, i32_w]
                        rfl
                      refine pure_ (i := 16) (N := some 52) (v := ?_) (a' := ?_) #[true, true, true, true, false, false, true, true, true, true, false, false, false, true, true, true, true, false, false, false, false, false, false, false, false, false, false, false, false, false, false, false, false, false] rfl rfl (any_of HT_.out (by kernel_rfl)) (fun _ _ _ h => h) (Or.inl ⟨by rfl, ?_⟩) ?_ ?_
                      rotate_left
                      · intro w'
                        go_simp
                        with_reducible rfl
                      rotate_left
                      · simp only [Act.put, List.setIfInBounds_toArray, List.set_cons_zero, List.set_cons_succ, i64_w, i32_w]
                        rfl
                      refine take_ (i := 4) (N := some 40) (v := ?_) (a' := ?_) #[true, true, true, true, true, false, true, true, true, true, false, false, false, true, true, true, true, false, false, false, false, false, false, false, false, false, false, false, false, false, false, false, false, false] rfl rfl (take_ofW HT_.out HW_.out (by kernel_rfl)) (fun _ _ _ h => h) (Or.inl ⟨by rfl, ?_⟩) hHeld ?_ ?_
                      rotate_left
                      · rintro w' ⟨s0, s1, s2, s3, s4, s5, s6, s7, s8, s9, s10, s11, s12, s13, s14, s15, s16, s17⟩
                        go_simp
                        with_reducible rfl
                      rotate_left
                      · simp only [Act.put, List.setIfInBounds_toArray, List.set_cons_zero, List.set_cons_succ, i64_w, i32_w]
                        rfl
                      refine pure_ (i := 5) (N := some 41) (v := ?_) (a' := ?_) #[true, true, true, true, true, true, true, true, true, true, false, false, false, true, true, true, true, false, false, false, false, false, false, false, false, false, false, false, false, false, false, false, false, false] rfl rfl (any_of HT_.out (by kernel_rfl)) (fun _ _ _ h => h) (Or.inl ⟨by rfl, ?_⟩) ?_ ?_
                      rotate_left
                      · intro w'
                        go_simp
                        with_reducible rfl
                      rotate_left
                      · simp only [Act.put, List.setIfInBounds_toArray, List.set_cons_zero, List.set_cons_succ, i64_w, i32_w]
                        rfl
                      refine take_ (i := 10) (N := some 46) (v := ?_) (a' := ?_) #[true, true, true, true, true, true, true, true, true, true, true, false, false, true, true, true, true, false, false, false, false, false, false, false, false, false, false, false, false, false, false, false, false, false] rfl rfl (take_ofW HT_.out HW_.out (by kernel_rfl)) (fun _ _ _ h => h) (Or.inl ⟨by rfl, ?_⟩) hHeld ?_ ?_
                      rotate_left
                      · rintro w' ⟨s0, s1, s2, s3, s4, s5, s6, s7, s8, s9, s10, s11, s12, s13, s14, s15, s16, s17⟩
                        go_simp
                        with_reducible rfl
                      rotate_left
                      · simp only [Act.put, List.setIfInBounds_toArray, List.set_cons_zero, List.set_cons_succ, i64_w, i32_w]
                        rfl
                      refine pure_ (i := 11) (N := some 47) (v := ?_) (a' := ?_) #[true, true, true, true, true, true, true, true, true, true, true, true, false, true, true, true, true, false, false, false, false, false, false, false, false, false, false, false, false, false, false, false, false, false] rfl rfl (any_of HT_.out (by kernel_rfl)) (fun _ _ _ h => h) (Or.inl ⟨by rfl, ?_⟩) ?_ ?_
                      rotate_left
                      · intro w'
                        go_simp
                        with_reducible rfl
                      rotate_left
                      · simp only [Act.put, List.setIfInBounds_toArray, List.set_cons_zero, List.set_cons_succ, i64_w, i32_w]
                        rfl
                      refine pure_ (i := 12) (N := some 48) (v := ?_) (a' := ?_) #[true, true, true, true, true, true, true, true, true, true, true, true, true, true, true, true, true, false, false, false, false, false, false, false, false, false, false, false, false, false, false, false, false, false] rfl rfl (any_of HT_.out (by kernel_rfl)) (fun _ _ _ h => h) (Or.inl ⟨by rfl, ?_⟩) ?_ ?_
                      rotate_left
                      · intro w'
                        go_simp
                        with_reducible rfl
                      rotate_left
                      · simp only [Act.put, List.setIfInBounds_toArray, List.set_cons_zero, List.set_cons_succ, i64_w, i32_w]
                        rfl
                      refine take_ (i := 17) (N := some 53) (v := ?_) (a' := ?_) #[true, true, true, true, true, true, true, true, true, true, true, true, true, true, true, true, true, true, false, false, false, false, false, false, false, false, false, false, false, false, false, false, false, false] rfl rfl (take_ofW HT_.out HW_.out (by kernel_rfl)) (fun _ _ _ h => h) (Or.inl ⟨by rfl, ?_⟩) hHeld ?_ ?_
                      rotate_left
                      · rintro w' ⟨s0, s1, s2, s3, s4, s5, s6, s7, s8, s9, s10, s11, s12, s13, s14, s15, s16, s17⟩
                        go_simp
                        with_reducible rfl
                      rotate_left
                      · simp only [Act.put, List.setIfInBounds_toArray, List.set_cons_zero, List.set_cons_succ, i64_w, i32_w]
                        rfl
                      refine pure_ (i := 18) (N := some 54) (v := ?_) (a' := ?_) #[true, true, true, true, true, true, true, true, true, true, true, true, true, true, true, true, true, true, true, false, false, false, false, false, false, false, false, false, false, false, false, false, false, false] rfl rfl (any_of HT_.out (by kernel_rfl)) (fun _ _ _ h => h) (Or.inl ⟨by rfl, ?_⟩) ?_ ?_
                      rotate_left
                      · intro w'
                        go_simp
                        with_reducible rfl
                      rotate_left
                      · simp only [Act.put, List.setIfInBounds_toArray, List.set_cons_zero, List.set_cons_succ, i64_w, i32_w]
                        rfl
                      refine pure_ (i := 19) (N := some 55) (v := ?_) (a' := ?_) #[true, true, true, true, true, true, true, true, true, true, true, true, true, true, true, true, true, true, true, true, false, false, false, false, false, false, false, false, false, false, false, false, false, false] rfl rfl (any_of HT_.out (by kernel_rfl)) (fun _ _ _ h => h) (Or.inl ⟨by rfl, ?_⟩) ?_ ?_
                      rotate_left
                      · intro w'
                        go_simp
                        with_reducible rfl
                      rotate_left
                      · simp only [Act.put, List.setIfInBounds_toArray, List.set_cons_zero, List.set_cons_succ, i64_w, i32_w]
                        rfl
                      refine pure_ (i := 20) (N := some 56) (v := ?_) (a' := ?_) #[true, true, true, true, true, true, true, true, true, true, true, true, true, true, true, true, true, true, true, true, true, false, false, false, false, false, false, false, false, false, false, false, false, false] rfl rfl (any_of HT_.out (by kernel_rfl)) (fun _ _ _ h => h) (Or.inl ⟨by rfl, ?_⟩) ?_ ?_
                      rotate_left
                      · intro w'
                        go_simp
                        with_reducible rfl
                      rotate_left
                      · simp only [Act.put, List.setIfInBounds_toArray, List.set_cons_zero, List.set_cons_succ, i64_w, i32_w]
                        rfl
                      refine pure_ (i := 21) (N := some 57) (v := ?_) (a' := ?_) #[true, true, true, true, true, true, true, true, true, true, true, true, true, true, true, true, true, true, true, true, true, true, false, false, false, false, false, false, false, false, false, false, false, false] rfl rfl (any_of HT_.out (by kernel_rfl)) (fun _ _ _ h => h) (Or.inl ⟨by rfl, ?_⟩) ?_ ?_
                      rotate_left
                      · intro w'
                        go_simp
                        with_reducible rfl
                      rotate_left
                      · simp only [Act.put, List.setIfInBounds_toArray, List.set_cons_zero, List.set_cons_succ, i64_w, i32_w]
                        rfl
                      refine pure_ (i := 22) (N := some 58) (v := undef) (a' := ?_) #[true, true, true, true, true, true, true, true, true, true, true, true, true, true, true, true, true, true, true, true, true, true, true, false, false, false, false, false, false, false, false, false, false, false] rfl rfl (any_of HT_.out (by kernel_rfl)) (fun _ _ _ h => h) (Or.inr ⟨by rfl, rfl⟩) ?_ ?_
                      rotate_left
                      · simp only [Act.put, List.setIfInBounds_toArray, List.set_cons_zero, List.set_cons_succ, i64_w, i32_w]
                        rfl
                      refine pure_ (i := 23) (N := some 59) (v := undef) (a' := ?_) #[true, true, true, true, true, true, true, true, true, true, true, true, true, true, true, true, true, true, true, true, true, true, true, true, false, false, false, false, false, false, false, false, false, false] rfl rfl (any_of HT_.out (by kernel_rfl)) (fun _ _ _ h => h) (Or.inr ⟨by rfl, rfl⟩) ?_ ?_
                      rotate_left
                      · simp only [Act.put, List.setIfInBounds_toArray, List.set_cons_zero, List.set_cons_succ, i64_w, i32_w]
                        rfl
                      refine pure_ (i := 24) (N := some 60) (v := undef) (a' := ?_) #[true, true, true, true, true, true, true, true, true, true, true, true, true, true, true, true, true, true, true, true, true, true, true, true, true, false, false, false, false, false, false, false, false, false] rfl rfl (any_of HT_.out (by kernel_rfl)) (fun _ _ _ h => h) (Or.inr ⟨by rfl, rfl⟩) ?_ ?_
                      rotate_left
                      · simp only [Act.put, List.setIfInBounds_toArray, List.set_cons_zero, List.set_cons_succ, i64_w, i32_w]
                        rfl
                      refine pure_ (i := 25) (N := some 61) (v := undef) (a' := ?_) #[true, true, true, true, true, true, true, true, true, true, true, true, true, true, true, true, true, true, true, true, true, true, true, true, true, true, false, false, false, false, false, false, false, false] rfl rfl (any_of HT_.out (by kernel_rfl)) (fun _ _ _ h => h) (Or.inr ⟨by rfl, rfl⟩) ?_ ?_
                      rotate_left
                      · simp only [Act.put, List.setIfInBounds_toArray, List.set_cons_zero, List.set_cons_succ, i64_w, i32_w]
                        rfl
                      refine pure_ (i := 26) (N := some 62) (v := undef) (a' := ?_) #[true, true, true, true, true, true, true, true, true, true, true, true, true, true, true, true, true, true, true, true, true, true, true, true, true, true, true, false, false, false, false, false, false, false] rfl rfl (any_of HT_.out (by kernel_rfl)) (fun _ _ _ h => h) (Or.inr ⟨by rfl, rfl⟩) ?_ ?_
                      rotate_left
                      · simp only [Act.put, List.setIfInBounds_toArray, List.set_cons_zero, List.set_cons_succ, i64_w, i32_w]
                        rfl
                      refine pure_ (i := 27) (N := some 63) (v := undef) (a' := ?_) #[true, true, true, true, true, true, true, true, true, true, true, true, true, true, true, true, true, true, true, true, true, true, true, true, true, true, true, true, false, false, false, false, false, false] rfl rfl (any_of HT_.out (by kernel_rfl)) (fun _ _ _ h => h) (Or.inr ⟨by rfl, rfl⟩) ?_ ?_
                      rotate_left
                      · simp only [Act.put, List.setIfInBounds_toArray, List.set_cons_zero, List.set_cons_succ, i64_w, i32_w]
                        rfl
                      refine pure_ (i := 28) (N := some 64) (v := undef) (a' := ?_) #[true, true, true, true, true, true, true, true, true, true, true, true, true, true, true, true, true, true, true, true, true, true, true, true, true, true, true, true, true, false, false, false, false, false] rfl rfl (any_of HT_.out (by kernel_rfl)) (fun _ _ _ h => h) (Or.inr ⟨by rfl, rfl⟩) ?_ ?_
                      rotate_left
                      · simp only [Act.put, List.setIfInBounds_toArray, List.set_cons_zero, List.set_cons_succ, i64_w, i32_w]
                        rfl
                      refine pure_ (i := 29) (N := some 65) (v := undef) (a' := ?_) #[true, true, true, true, true, true, true, true, true, true, true, true, true, true, true, true, true, true, true, true, true, true, true, true, true, true, true, true, true, true, false, false, false, false] rfl rfl (any_of HT_.out (by kernel_rfl)) (fun _ _ _ h => h) (Or.inr ⟨by rfl, rfl⟩) ?_ ?_
                      rotate_left
                      · simp only [Act.put, List.setIfInBounds_toArray, List.set_cons_zero, List.set_cons_succ, i64_w, i32_w]
                        rfl
                      refine pure_ (i := 30) (N := some 66) (v := undef) (a' := ?_) #[true, true, true, true, true, true, true, true, true, true, true, true, true, true, true, true, true, true, true, true, true, true, true, true, true, true, true, true, true, true, true, false, false, false] rfl rfl (any_of HT_.out (by kernel_rfl)) (fun _ _ _ h => h) (Or.inr ⟨by rfl, rfl⟩) ?_ ?_
                      rotate_left
                      · simp only [Act.put, List.setIfInBounds_toArray, List.set_cons_zero, List.set_cons_succ, i64_w, i32_w]
                        rfl
                      refine pure_ (i := 31) (N := some 67) (v := undef) (a' := ?_) #[true, true, true, true, true, true, true, true, true, true, true, true, true, true, true, true, true, true, true, true, true, true, true, true, true, true, true, true, true, true, true, true, false, false] rfl rfl (any_of HT_.out (by kernel_rfl)) (fun _ _ _ h => h) (Or.inr ⟨by rfl, rfl⟩) ?_ ?_
                      rotate_left
                      · simp only [Act.put, List.setIfInBounds_toArray, List.set_cons_zero, List.set_cons_succ, i64_w, i32_w]
                        rfl
                      refine pure_ (i := 32) (N := some 68) (v := undef) (a' := ?_) #[true, true, true, true, true, true, true, true, true, true, true, true, true, true, true, true, true, true, true, true, true, true, true, true, true, true, true, true, true, true, true, true, true, false] rfl rfl (any_of HT_.out (by kernel_rfl)) (fun _ _ _ h => h) (Or.inr ⟨by rfl, rfl⟩) ?_ ?_
                      rotate_left
                      · simp only [Act.put, List.setIfInBounds_toArray, List.set_cons_zero, List.set_cons_succ, i64_w, i32_w]
                        rfl
                      refine pure_ (i := 33) (N := some 69) (v := ?_) (a' := ?_) #[true, true, true, true, true, true, true, true, true, true, true, true, true, true, true, true, true, true, true, true, true, true, true, true, true, true, true, true, true, true, true, true, true, true] rfl rfl (any_of HT_.out (by kernel_rfl)) (fun _ _ _ h => h) (Or.inl ⟨by rfl, ?_⟩) ?_ ?_
                      rotate_left
                      · intro w'
                        go_simp
                        with_reducible rfl
                      rotate_left
                      · simp only [Act.put, List.setIfInBounds_toArray, List.set_cons_zero, List.set_cons_succ, i64_w, i32_w]
                        rfl
                      refine done_ (done_of HT_.out (by kernel_rfl)) ?_
                      try go_wp2
                      go_meet
                      case rel => exact ⟨_, (true), (by first | rfl | (simp; done) | (simp [*]; done)), H', ⟨by have := HJ2.out; have := HK2.out; first | omega | exact Nat.le_refl _⟩, ⟨by (with_reducible repeat (first | refine blk_drewN ?_ _ | refine blk_drew ?_ | refine blk_alloc ?_ _)); exact BK125.out⟩, ⟨by (with_reducible repeat (first | refine blk_drewN ?_ _ | refine blk_drew ?_ | refine blk_alloc ?_ _)); exact BK133.out⟩, ⟨by repeat (first | (with_reducible first | exact HB.out | apply below_alloc | apply pw_below_drewN | apply below_drew1 | refine below_set ?_ GE125.out | refine below_set ?_ GE133.out) | exact HB.out)⟩⟩
                    · rw [if_neg c24] at H
                      have c24b0 : decide (1000 < (wrap64 ((wrap64 ((((rd_T40 l0 x33_2).f0).size : Int) + (((rd_T40 l0 x33_2).f4).size : Int))) + (((rd_T40 l0 x33_2).f5).size : Int)))) = false := decide_eq_false c24
                      clear c24
                      replace H := Option.bind_eq_some_iff.mp H
                      obtain ⟨t138, A260, H⟩ := H
                      replace H : ((trystlaw18_person.f k2 ((rd_T40 l0 x33_2).f0) ((rd_T40 l0 x33_2).f1) ((rd_T40 l0 x33_2).f2) ((rd_T40 l0 x33_2).f3) ((rd_T40 l0 x33_2).f4) ((rd_T40 l0 x33_2).f5)).bind fun t140 => (trystlaw18_EventPeople.j2 k2 l0 a1 t132 x8_2 x33_2 (l0.length : Int) x33_2 (t138 != t140) t126 t127 t128 t129 t130 t131)) = some r := H
                      have A26 := Aside0.mk A260
                      clear A260
                      replace H := Option.bind_eq_some_iff.mp H
                      obtain ⟨t140, A270, H⟩ := H
                      replace H : (trystlaw18_EventPeople.j2 k2 l0 a1 t132 x8_2 x33_2 (l0.length : Int) x33_2 (t138 != t140) t126 t127 t128 t129 t130 t131) = some r := H
                      have A27 := Aside0.mk A270
                      clear A270
                      have H' := Aside0.mk H
                      clear H
                      try go_wp2
                      have n0_ := Aside0.mk (blk_drew BK125.out)
                      have n1_ := Aside0.mk (blk_drew BK133.out)
                      have n2_ := Aside0.mk (below_drew1 HB.out)
                      clear BK125
                      clear BK133
                      clear HB
                      have BK125 := n0_
                      have BK133 := n1_
                      have HB := n2_
                      clear n0_ n1_ n2_
                      have p134 : 0 ≤ (x33_2 : Int) := of_decide_eq_true (by first | (with_reducible assumption) | assumption)
                      have q134 : x33_2 < (l0.length : Int) := of_decide_eq_true (by first | (with_reducible assumption) | assumption)
                      obtain ⟨ad134, e134, hx134_0, hx134_1, hx134_2, hx134_3, hx134_4, hx134_5⟩ := at_T40 HR0.out x33_2 p134 q134
                      have hw134_5 := hx134_5
                      have hw134_4 := hx134_4
                      have hw134_3 := hx134_3
                      have hw134_2 := hx134_2
                      have hw134_1 := hx134_1
                      have hw134_0 := hx134_0
                      cases e134
                      replace hx134_0 := (HB.out.cell (World.block_lt_of_cell? w _ hx134_0)).trans hx134_0
                      replace hx134_1 := (HB.out.cell (World.block_lt_of_cell? w _ hx134_1)).trans hx134_1
                      replace hx134_2 := (HB.out.cell (World.block_lt_of_cell? w _ hx134_2)).trans hx134_2
                      replace hx134_3 := (HB.out.cell (World.block_lt_of_cell? w _ hx134_3)).trans hx134_3
                      replace hx134_4 := (HB.out.cell (World.block_lt_of_cell? w _ hx134_4)).trans hx134_4
                      replace hx134_5 := (HB.out.cell (World.block_lt_of_cell? w _ hx134_5)).trans hx134_5
                      replace p134 := eq_true p134
                      replace q134 := eq_true q134
                      have p135 : 0 ≤ (x33_2 : Int) := of_decide_eq_true (by first | (with_reducible assumption) | assumption)
                      have q135 : x33_2 < (l0.length : Int) := of_decide_eq_true (by first | (with_reducible assumption) | assumption)
                      obtain ⟨ad135, e135, hx135_0, hx135_1, hx135_2, hx135_3, hx135_4, hx135_5⟩ := at_T40 HR0.out x33_2 p135 q135
                      have hw135_5 := hx135_5
                      have hw135_4 := hx135_4
                      have hw135_3 := hx135_3
                      have hw135_2 := hx135_2
                      have hw135_1 := hx135_1
                      have hw135_0 := hx135_0
                      obtain rfl : ad134 = ad135 := (by injection e135)
                      replace hx135_0 := (HB.out.cell (World.block_lt_of_cell? w _ hx135_0)).trans hx135_0
                      replace hx135_1 := (HB.out.cell (World.block_lt_of_cell? w _ hx135_1)).trans hx135_1
                      replace hx135_2 := (HB.out.cell (World.block_lt_of_cell? w _ hx135_2)).trans hx135_2
                      replace hx135_3 := (HB.out.cell (World.block_lt_of_cell? w _ hx135_3)).trans hx135_3
                      replace hx135_4 := (HB.out.cell (World.block_lt_of_cell? w _ hx135_4)).trans hx135_4
                      replace hx135_5 := (HB.out.cell (World.block_lt_of_cell? w _ hx135_5)).trans hx135_5
                      replace p135 := eq_true p135
                      replace q135 := eq_true q135
                      have p136 : 0 ≤ (x33_2 : Int) := of_decide_eq_true (by first | (with_reducible assumption) | assumption)
                      have q136 : x33_2 < (l0.length : Int) := of_decide_eq_true (by first | (with_reducible assumption) | assumption)
                      obtain ⟨ad136, e136, hx136_0, hx136_1, hx136_2, hx136_3, hx136_4, hx136_5⟩ := at_T40 HR0.out x33_2 p136 q136
                      have hw136_5 := hx136_5
                      have hw136_4 := hx136_4
                      have hw136_3 := hx136_3
                      have hw136_2 := hx136_2
                      have hw136_1 := hx136_1
                      have hw136_0 := hx136_0
                      obtain rfl : ad134 = ad136 := (by injection e136)
                      replace hx136_0 := (HB.out.cell (World.block_lt_of_cell? w _ hx136_0)).trans hx136_0
                      replace hx136_1 := (HB.out.cell (World.block_lt_of_cell? w _ hx136_1)).trans hx136_1
                      replace hx136_2 := (HB.out.cell (World.block_lt_of_cell? w _ hx136_2)).trans hx136_2
                      replace hx136_3 := (HB.out.cell (World.block_lt_of_cell? w _ hx136_3)).trans hx136_3
                      replace hx136_4 := (HB.out.cell (World.block_lt_of_cell? w _ hx136_4)).trans hx136_4
                      replace hx136_5 := (HB.out.cell (World.block_lt_of_cell? w _ hx136_5)).trans hx136_5
                      replace p136 := eq_true p136
                      replace q136 := eq_true q136
                      have p137 : 0 ≤ (x33_2 : Int) := of_decide_eq_true (by first | (with_reducible assumption) | assumption)
                      have q137 : x33_2 < (l0.length : Int) := of_decide_eq_true (by first | (with_reducible assumption) | assumption)
                      obtain ⟨ad137, e137, hx137_0, hx137_1, hx137_2, hx137_3, hx137_4, hx137_5⟩ := at_T40 HR0.out x33_2 p137 q137
                      have hw137_5 := hx137_5
                      have hw137_4 := hx137_4
                      have hw137_3 := hx137_3
                      have hw137_2 := hx137_2
                      have hw137_1 := hx137_1
                      have hw137_0 := hx137_0
                      obtain rfl : ad134 = ad137 := (by injection e137)
                      replace hx137_0 := (HB.out.cell (World.block_lt_of_cell? w _ hx137_0)).trans hx137_0
                      replace hx137_1 := (HB.out.cell (World.block_lt_of_cell? w _ hx137_1)).trans hx137_1
                      replace hx137_2 := (HB.out.cell (World.block_lt_of_cell? w _ hx137_2)).trans hx137_2
                      replace hx137_3 := (HB.out.cell (World.block_lt_of_cell? w _ hx137_3)).trans hx137_3
                      replace hx137_4 := (HB.out.cell (World.block_lt_of_cell? w _ hx137_4)).trans hx137_4
                      replace hx137_5 := (HB.out.cell (World.block_lt_of_cell? w _ hx137_5)).trans hx137_5
                      replace p137 := eq_true p137
                      replace q137 := eq_true q137
                      have p139 : 0 ≤ (x33_2 : Int) := of_decide_eq_true (by first | (with_reducible assumption) | assumption)
                      have q139 : x33_2 < (l0.length : Int) := of_decide_eq_true (by first | (with_reducible assumption) | assumption)
                      obtain ⟨ad139, e139, hx139_0, hx139_1, hx139_2, hx139_3, hx139_4, hx139_5⟩ := at_T40 HR0.out x33_2 p139 q139
                      have hw139_5 := hx139_5
                      have hw139_4 := hx139_4
                      have hw139_3 := hx139_3
                      have hw139_2 := hx139_2
                      have hw139_1 := hx139_1
                      have hw139_0 := hx139_0
                      obtain rfl : ad134 = ad139 := (by injection e139)
                      replace hx139_0 := (HB.out.cell (World.block_lt_of_cell? w _ hx139_0)).trans hx139_0
                      replace hx139_1 := (HB.out.cell (World.block_lt_of_cell? w _ hx139_1)).trans hx139_1
                      replace hx139_2 := (HB.out.cell (World.block_lt_of_cell? w _ hx139_2)).trans hx139_2
                      replace hx139_3 := (HB.out.cell (World.block_lt_of_cell? w _ hx139_3)).trans hx139_3
                      replace hx139_4 := (HB.out.cell (World.block_lt_of_cell? w _ hx139_4)).trans hx139_4
                      replace hx139_5 := (HB.out.cell (World.block_lt_of_cell? w _ hx139_5)).trans hx139_5
                      replace p139 := eq_true p139
                      replace q139 := eq_true q139
                      refine start_ (n := 34) (S := fun w' => w'.cell? (ad134.add ((x33_2).toNat * 6)) = some (.string ((rd_T40 l0 x33_2).f0)) ∧ w'.cell? ⟨(ad134.add ((x33_2).toNat * 6)).block, (ad134.add ((x33_2).toNat * 6)).off + 1, none⟩ = some (.int .i64 ((rd_T40 l0 x33_2).f1)) ∧ w'.cell? ⟨(ad134.add ((x33_2).toNat * 6)).block, (ad134.add ((x33_2).toNat * 6)).off + 2, none⟩ = some (.int .i64 ((rd_T40 l0 x33_2).f2)) ∧ w'.cell? ⟨(ad134.add ((x33_2).toNat * 6)).block, (ad134.add ((x33_2).toNat * 6)).off + 3, none⟩ = some (.bool ((rd_T40 l0 x33_2).f3)) ∧ w'.cell? ⟨(ad134.add ((x33_2).toNat * 6)).block, (ad134.add ((x33_2).toNat * 6)).off + 4, none⟩ = some (.string ((rd_T40 l0 x33_2).f4)) ∧ w'.cell? ⟨(ad134.add ((x33_2).toNat * 6)).block, (ad134.add ((x33_2).toNat * 6)).off + 5, none⟩ = some (.string ((rd_T40 l0 x33_2).f5)) ∧ w'.cell? (ad134.add ((x33_2).toNat * 6)) = some (.string ((rd_T40 l0 x33_2).f0)) ∧ w'.cell? ⟨(ad134.add ((x33_2).toNat * 6)).block, (ad134.add ((x33_2).toNat * 6)).off + 1, none⟩ = some (.int .i64 ((rd_T40 l0 x33_2).f1)) ∧ w'.cell? ⟨(ad134.add ((x33_2).toNat * 6)).block, (ad134.add ((x33_2).toNat * 6)).off + 2, none⟩ = some (.int .i64 ((rd_T40 l0 x33_2).f2)) ∧ w'.cell? ⟨(ad134.add ((x33_2).toNat * 6)).block, (ad134.add ((x33_2).toNat * 6)).off + 3, none⟩ = some (.bool ((rd_T40 l0 x33_2).f3)) ∧ w'.cell? ⟨(ad134.add ((x33_2).toNat * 6)).block, (ad134.add ((x33_2).toNat * 6)).off + 4, none⟩ = some (.string ((rd_T40 l0 x33_2).f4)) ∧ w'.cell? ⟨(ad134.add ((x33_2).toNat * 6)).block, (ad134.add ((x33_2).toNat * 6)).off + 5, none⟩ = some (.string ((rd_T40 l0 x33_2).f5)) ∧ w'.cell? (ad134.add ((x33_2).toNat * 6)) = some (.string ((rd_T40 l0 x33_2).f0)) ∧ w'.cell? ⟨(ad134.add ((x33_2).toNat * 6)).block, (ad134.add ((x33_2).toNat * 6)).off + 1, none⟩ = some (.int .i64 ((rd_T40 l0 x33_2).f1)) ∧ w'.cell? ⟨(ad134.add ((x33_2).toNat * 6)).block, (ad134.add ((x33_2).toNat * 6)).off + 2, none⟩ = some (.int .i64 ((rd_T40 l0 x33_2).f2)) ∧ w'.cell? ⟨(ad134.add ((x33_2).toNat * 6)).block, (ad134.add ((x33_2).toNat * 6)).off + 3, none⟩ = some (.bool ((rd_T40 l0 x33_2).f3)) ∧ w'.cell? ⟨(ad134.add ((x33_2).toNat * 6)).block, (ad134.add ((x33_2).toNat * 6)).off + 4, none⟩ = some (.string ((rd_T40 l0 x33_2).f4)) ∧ w'.cell? ⟨(ad134.add ((x33_2).toNat * 6)).block, (ad134.add ((x33_2).toNat * 6)).off + 5, none⟩ = some (.string ((rd_T40 l0 x33_2).f5)) ∧ w'.cell? (ad134.add ((x33_2).toNat * 6)) = some (.string ((rd_T40 l0 x33_2).f0)) ∧ w'.cell? ⟨(ad134.add ((x33_2).toNat * 6)).block, (ad134.add ((x33_2).toNat * 6)).off + 1, none⟩ = some (.int .i64 ((rd_T40 l0 x33_2).f1)) ∧ w'.cell? ⟨(ad134.add ((x33_2).toNat * 6)).block, (ad134.add ((x33_2).toNat * 6)).off + 2, none⟩ = some (.int .i64 ((rd_T40 l0 x33_2).f2)) ∧ w'.cell? ⟨(ad134.add ((x33_2).toNat * 6)).block, (ad134.add ((x33_2).toNat * 6)).off + 3, none⟩ = some (.bool ((rd_T40 l0 x33_2).f3)) ∧ w'.cell? ⟨(ad134.add ((x33_2).toNat * 6)).block, (ad134.add ((x33_2).toNat * 6)).off + 4, none⟩ = some (.string ((rd_T40 l0 x33_2).f4)) ∧ w'.cell? ⟨(ad134.add ((x33_2).toNat * 6)).block, (ad134.add ((x33_2).toNat * 6)).off + 5, none⟩ = some (.string ((rd_T40 l0 x33_2).f5)) ∧ w'.cell? (ad134.add ((x33_2).toNat * 6)) = some (.string ((rd_T40 l0 x33_2).f0)) ∧ w'.cell? ⟨(ad134.add ((x33_2).toNat * 6)).block, (ad134.add ((x33_2).toNat * 6)).off + 1, none⟩ = some (.int .i64 ((rd_T40 l0 x33_2).f1)) ∧ w'.cell? ⟨(ad134.add ((x33_2).toNat * 6)).block, (ad134.add ((x33_2).toNat * 6)).off + 2, none⟩ = some (.int .i64 ((rd_T40 l0 x33_2).f2)) ∧ w'.cell? ⟨(ad134.add ((x33_2).toNat * 6)).block, (ad134.add ((x33_2).toNat * 6)).off + 3, none⟩ = some (.bool ((rd_T40 l0 x33_2).f3)) ∧ w'.cell? ⟨(ad134.add ((x33_2).toNat * 6)).block, (ad134.add ((x33_2).toNat * 6)).off + 4, none⟩ = some (.string ((rd_T40 l0 x33_2).f4)) ∧ w'.cell? ⟨(ad134.add ((x33_2).toNat * 6)).block, (ad134.add ((x33_2).toNat * 6)).off + 5, none⟩ = some (.string ((rd_T40 l0 x33_2).f5))) (ds := []) #[false, false, false, false, false, false, false, false, false, false, false, false, false, false, false, false, false, false, false, false, false, false, false, false, false, false, false, false, false, false, false, false, false, false] (by kernel_rfl) rfl rfl ⟨((HB.out.cell (World.block_lt_of_cell? w _ hw134_0)).trans hw134_0), ((HB.out.cell (World.block_lt_of_cell? w _ hw134_1)).trans hw134_1), ((HB.out.cell (World.block_lt_of_cell? w _ hw134_2)).trans hw134_2), ((HB.out.cell (World.block_lt_of_cell? w _ hw134_3)).trans hw134_3), ((HB.out.cell (World.block_lt_of_cell? w _ hw134_4)).trans hw134_4), ((HB.out.cell (World.block_lt_of_cell? w _ hw134_5)).trans hw134_5), ((HB.out.cell (World.block_lt_of_cell? w _ hw135_0)).trans hw135_0), ((HB.out.cell (World.block_lt_of_cell? w _ hw135_1)).trans hw135_1), ((HB.out.cell (World.block_lt_of_cell? w _ hw135_2)).trans hw135_2), ((HB.out.cell (World.block_lt_of_cell? w _ hw135_3)).trans hw135_3), ((HB.out.cell (World.block_lt_of_cell? w _ hw135_4)).trans hw135_4), ((HB.out.cell (World.block_lt_of_cell? w _ hw135_5)).trans hw135_5), ((HB.out.cell (World.block_lt_of_cell? w _ hw136_0)).trans hw136_0), ((HB.out.cell (World.block_lt_of_cell? w _ hw136_1)).trans hw136_1), ((HB.out.cell (World.block_lt_of_cell? w _ hw136_2)).trans hw136_2), ((HB.out.cell (World.block_lt_of_cell? w _ hw136_3)).trans hw136_3), ((HB.out.cell (World.block_lt_of_cell? w _ hw136_4)).trans hw136_4), ((HB.out.cell (World.block_lt_of_cell? w _ hw136_5)).trans hw136_5), ((HB.out.cell (World.block_lt_of_cell? w _ hw137_0)).trans hw137_0), ((HB.out.cell (World.block_lt_of_cell? w _ hw137_1)).trans hw137_1), ((HB.out.cell (World.block_lt_of_cell? w _ hw137_2)).trans hw137_2), ((HB.out.cell (World.block_lt_of_cell? w _ hw137_3)).trans hw137_3), ((HB.out.cell (World.block_lt_of_cell? w _ hw137_4)).trans hw137_4), ((HB.out.cell (World.block_lt_of_cell? w _ hw137_5)).trans hw137_5), ((HB.out.cell (World.block_lt_of_cell? w _ hw139_0)).trans hw139_0), ((HB.out.cell (World.block_lt_of_cell? w _ hw139_1)).trans hw139_1), ((HB.out.cell (World.block_lt_of_cell? w _ hw139_2)).trans hw139_2), ((HB.out.cell (World.block_lt_of_cell? w _ hw139_3)).trans hw139_3), ((HB.out.cell (World.block_lt_of_cell? w _ hw139_4)).trans hw139_4), ((HB.out.cell (World.block_lt_of_cell? w _ hw139_5)).trans hw139_5)⟩ (fun hHeld => ?_); refine with_tabW trystlaw18_EventPeople.tab9 trystlaw18_EventPeople.bits9 (fun HT_ HW_ => ?_)
                      generalize wr.drew = w28 at BK125 BK133 HB hx134_0 hx134_1 hx134_2 hx134_3 hx134_4 hx134_5 hx135_0 hx135_1 hx135_2 hx135_3 hx135_4 hx135_5 hx136_0 hx136_1 hx136_2 hx136_3 hx136_4 hx136_5 hx137_0 hx137_1 hx137_2 hx137_3 hx137_4 hx137_5 hx139_0 hx139_1 hx139_2 hx139_3 hx139_4 hx139_5 hHeld ⊢
                      refine pure_ (i := 0) (N := some 36) (v := ?_) (a' := ?_) #[true, false, false, false, false, false, false, false, false, false, false, false, false, false, false, false, false, false, false, false, false, false, false, false, false, false, false, false, false, false, false, false, false, false] rfl rfl (any_of HT_.out (by kernel_rfl)) (fun _ _ _ h => h) (Or.inl ⟨by rfl, ?_⟩) ?_ ?_
                      rotate_left
                      · intro w'
                        go_simp
                        with_reducible rfl
                      rotate_left
                      · simp only [Act.put, List.setIfInBounds_toArray, List.set_cons_zero, List.set_cons_succ, i64_w, i32_w]
                        rfl
                      refine pure_ (i := 1) (N := some 37) (v := ?_) (a' := ?_) #[true, true, false, false, false, false, false, false, false, false, false, false, false, false, false, false, false, false, false, false, false, false, false, false, false, false, false, false, false, false, false, false, false, false] rfl rfl (any_of HT_.out (by kernel_rfl)) (fun _ _ _ h => h) (Or.inl ⟨by rfl, ?_⟩) ?_ ?_
                      rotate_left
                      · intro w'
                        go_simp
                        with_reducible rfl
                      rotate_left
                      · simp only [Act.put, List.setIfInBounds_toArray, List.set_cons_zero, List.set_cons_succ, i64_w, i32_w]
                        rfl
                      refine pure_ (i := 2) (N := some 38) (v := ?_) (a' := ?_) #[true, true, true, false, false, false, false, false, false, false, false, false, false, false, false, false, false, false, false, false, false, false, false, false, false, false, false, false, false, false, false, false, false, false] rfl rfl (any_of HT_.out (by kernel_rfl)) (fun _ _ _ h => h) (Or.inl ⟨by rfl, ?_⟩) ?_ ?_
                      rotate_left
                      · intro w'
                        go_simp
                        with_reducible rfl
                      rotate_left
                      · simp only [Act.put, List.setIfInBounds_toArray, List.set_cons_zero, List.set_cons_succ, i64_w, i32_w]
                        rfl
                      refine pure_ (i := 3) (N := some 39) (v := ?_) (a' := ?_) #[true, true, true, true, false, false, false, false, false, false, false, false, false, false, false, false, false, false, false, false, false, false, false, false, false, false, false, false, false, false, false, false, false, false] rfl rfl (any_of HT_.out (by kernel_rfl)) (fun _ _ _ h => h) (Or.inl ⟨by rfl, ?_⟩) ?_ ?_
                      rotate_left
                      · intro w'
                        go_simp
                        with_reducible rfl
                      rotate_left
                      · simp only [Act.put, List.setIfInBounds_toArray, List.set_cons_zero, List.set_cons_succ, i64_w, i32_w]
                        rfl
                      refine pure_ (i := 6) (N := some 42) (v := ?_) (a' := ?_) #[true, true, true, true, false, false, true, false, false, false, false, false, false, false, false, false, false, false, false, false, false, false, false, false, false, false, false, false, false, false, false, false, false, false] rfl rfl (any_of HT_.out (by kernel_rfl)) (fun _ _ _ h => h) (Or.inl ⟨by rfl, ?_⟩) ?_ ?_
                      rotate_left
                      · intro w'
                        go_simp
                        with_reducible rfl
                      rotate_left
                      · simp only [Act.put, List.setIfInBounds_toArray, List.set_cons_zero, List.set_cons_succ, i64_w, i32_w]
                        rfl
                      refine pure_ (i := 7) (N := some 43) (v := ?_) (a' := ?_) #[true, true, true, true, false, false, true, true, false, false, false, false, false, false, false, false, false, false, false, false, false, false, false, false, false, false, false, false, false, false, false, false, false, false] rfl rfl (any_of HT_.out (by kernel_rfl)) (fun _ _ _ h => h) (Or.inl ⟨by rfl, ?_⟩) ?_ ?_
                      rotate_left
                      · intro w'
                        go_simp
                        with_reducible rfl
                      rotate_left
                      · simp only [Act.put, List.setIfInBounds_toArray, List.set_cons_zero, List.set_cons_succ, i64_w, i32_w]
                        rfl
                      refine pure_ (i := 8) (N := some 44) (v := ?_) (a' := ?_) #[true, true, true, true, false, false, true, true, true, false, false, false, false, false, false, false, false, false, false, false, false, false, false, false, false, false, false, false, false, false, false, false, false, false] rfl rfl (any_of HT_.out (by kernel_rfl)) (fun _ _ _ h => h) (Or.inl ⟨by rfl, ?_⟩) ?_ ?_
                      rotate_left
                      · intro w'
                        go_simp
                        with_reducible rfl
                      rotate_left
                      · simp only [Act.put, List.setIfInBounds_toArray, List.set_cons_zero, List.set_cons_succ, i64_w, i32_w]
                        rfl
                      refine pure_ (i := 9) (N := some 45) (v := ?_) (a' := ?_) #[true, true, true, true, false, false, true, true, true, true, false, false, false, false, false, false, false, false, false, false, false, false, false, false, false, false, false, false, false, false, false, false, false, false] rfl rfl (any_of HT_.out (by kernel_rfl)) (fun _ _ _ h => h) (Or.inl ⟨by rfl, ?_⟩) ?_ ?_
                      rotate_left
                      · intro w'
                        go_simp
                        with_reducible rfl
                      rotate_left
                      · simp only [Act.put, List.setIfInBounds_toArray, List.set_cons_zero, List.set_cons_succ, i64_w, i32_w]
                        rfl
                      refine pure_ (i := 13) (N := some 49) (v := ?_) (a' := ?_) #[true, true, true, true, false, false, true, true, true, true, false, false, false, true, false, false, false, false, false, false, false, false, false, false, false, false, false, false, false, false, false, false, false, false] rfl rfl (any_of HT_.out (by kernel_rfl)) (fun _ _ _ h => h) (Or.inl ⟨by rfl, ?_⟩) ?_ ?_
                      rotate_left
                      · intro w'
                        go_simp
                        with_reducible rfl
                      rotate_left
                      · simp only [Act.put, List.setIfInBounds_toArray, List.set_cons_zero, List.set_cons_succ, i64_w, i32_w]
                        rfl
                      refine pure_ (i := 14) (N := some 50) (v := ?_) (a' := ?_) #[true, true, true, true, false, false, true, true, true, true, false, false, false, true, true, false, false, false, false, false, false, false, false, false, false, false, false, false, false, false, false, false, false, false] rfl rfl (any_of HT_.out (by kernel_rfl)) (fun _ _ _ h => h) (Or.inl ⟨by rfl, ?_⟩) ?_ ?_
                      rotate_left
                      · intro w'
                        go_simp
                        with_reducible rfl
                      rotate_left
                      · simp only [Act.put, List.setIfInBounds_toArray, List.set_cons_zero, List.set_cons_succ, i64_w, i32_w]
                        rfl
                      refine pure_ (i := 15) (N := some 51) (v := ?_) (a' := ?_) #[true, true, true, true, false, false, true, true, true, true, false, false, false, true, true, true, false, false, false, false, false, false, false, false, false, false, false, false, false, false, false, false, false, false] rfl rfl (any_of HT_.out (by kernel_rfl)) (fun _ _ _ h => h) (Or.inl ⟨by rfl, ?_⟩) ?_ ?_
                      rotate_left
                      · intro w'
                        go_simp
                        with_reducible rfl
                      rotate_left
                      · simp only [Act.put, List.setIfInBounds_toArray, List.set_cons_zero, List.set_cons_succ, i64_w, i32_w]
                        rfl
                      refine pure_ (i := 16) (N := some 52) (v := ?_) (a' := ?_) #[true, true, true, true, false, false, true, true, true, true, false, false, false, true, true, true, true, false, false, false, false, false, false, false, false, false, false, false, false, false, false, false, false, false] rfl rfl (any_of HT_.out (by kernel_rfl)) (fun _ _ _ h => h) (Or.inl ⟨by rfl, ?_⟩) ?_ ?_
                      rotate_left
                      · intro w'
                        go_simp
                        with_reducible rfl
                      rotate_left
                      · simp only [Act.put, List.setIfInBounds_toArray, List.set_cons_zero, List.set_cons_succ, i64_w, i32_w]
                        rfl
                      refine take_ (i := 4) (N := some 40) (v := ?_) (a' := ?_) #[true, true, true, true, true, false, true, true, true, true, false, false, false, true, true, true, true, false, false, false, false, false, false, false, false, false, false, false, false, false, false, false, false, false] rfl rfl (take_ofW HT_.out HW_.out (by kernel_rfl)) (fun _ _ _ h => h) (Or.inl ⟨by rfl, ?_⟩) hHeld ?_ ?_
                      rotate_left
                      · rintro w' ⟨s0, s1, s2, s3, s4, s5, s6, s7, s8, s9, s10, s11, s12, s13, s14, s15, s16, s17, s18, s19, s20, s21, s22, s23, s24, s25, s26, s27, s28, s29⟩
                        go_simp
                        with_reducible rfl
                      rotate_left
                      · simp only [Act.put, List.setIfInBounds_toArray, List.set_cons_zero, List.set_cons_succ, i64_w, i32_w]
                        rfl
                      refine pure_ (i := 5) (N := some 41) (v := ?_) (a' := ?_) #[true, true, true, true, true, true, true, true, true, true, false, false, false, true, true, true, true, false, false, false, false, false, false, false, false, false, false, false, false, false, false, false, false, false] rfl rfl (any_of HT_.out (by kernel_rfl)) (fun _ _ _ h => h) (Or.inl ⟨by rfl, ?_⟩) ?_ ?_
                      rotate_left
                      · intro w'
                        go_simp
                        with_reducible rfl
                      rotate_left
                      · simp only [Act.put, List.setIfInBounds_toArray, List.set_cons_zero, List.set_cons_succ, i64_w, i32_w]
                        rfl
                      refine take_ (i := 10) (N := some 46) (v := ?_) (a' := ?_) #[true, true, true, true, true, true, true, true, true, true, true, false, false, true, true, true, true, false, false, false, false, false, false, false, false, false, false, false, false, false, false, false, false, false] rfl rfl (take_ofW HT_.out HW_.out (by kernel_rfl)) (fun _ _ _ h => h) (Or.inl ⟨by rfl, ?_⟩) hHeld ?_ ?_
                      rotate_left
                      · rintro w' ⟨s0, s1, s2, s3, s4, s5, s6, s7, s8, s9, s10, s11, s12, s13, s14, s15, s16, s17, s18, s19, s20, s21, s22, s23, s24, s25, s26, s27, s28, s29⟩
                        go_simp
                        with_reducible rfl
                      rotate_left
                      · simp only [Act.put, List.setIfInBounds_toArray, List.set_cons_zero, List.set_cons_succ, i64_w, i32_w]
                        rfl
                      refine pure_ (i := 11) (N := some 47) (v := ?_) (a' := ?_) #[true, true, true, true, true, true, true, true, true, true, true, true, false, true, true, true, true, false, false, false, false, false, false, false, false, false, false, false, false, false, false, false, false, false] rfl rfl (any_of HT_.out (by kernel_rfl)) (fun _ _ _ h => h) (Or.inl ⟨by rfl, ?_⟩) ?_ ?_
                      rotate_left
                      · intro w'
                        go_simp
                        with_reducible rfl
                      rotate_left
                      · simp only [Act.put, List.setIfInBounds_toArray, List.set_cons_zero, List.set_cons_succ, i64_w, i32_w]
                        rfl
                      refine pure_ (i := 12) (N := some 48) (v := ?_) (a' := ?_) #[true, true, true, true, true, true, true, true, true, true, true, true, true, true, true, true, true, false, false, false, false, false, false, false, false, false, false, false, false, false, false, false, false, false] rfl rfl (any_of HT_.out (by kernel_rfl)) (fun _ _ _ h => h) (Or.inl ⟨by rfl, ?_⟩) ?_ ?_
                      rotate_left
                      · intro w'
                        go_simp
                        with_reducible rfl
                      rotate_left
                      · simp only [Act.put, List.setIfInBounds_toArray, List.set_cons_zero, List.set_cons_succ, i64_w, i32_w]
                        rfl
                      refine take_ (i := 17) (N := some 53) (v := ?_) (a' := ?_) #[true, true, true, true, true, true, true, true, true, true, true, true, true, true, true, true, true, true, false, false, false, false, false, false, false, false, false, false, false, false, false, false, false, false] rfl rfl (take_ofW HT_.out HW_.out (by kernel_rfl)) (fun _ _ _ h => h) (Or.inl ⟨by rfl, ?_⟩) hHeld ?_ ?_
                      rotate_left
                      · rintro w' ⟨s0, s1, s2, s3, s4, s5, s6, s7, s8, s9, s10, s11, s12, s13, s14, s15, s16, s17, s18, s19, s20, s21, s22, s23, s24, s25, s26, s27, s28, s29⟩
                        go_simp
                        with_reducible rfl
                      rotate_left
                      · simp only [Act.put, List.setIfInBounds_toArray, List.set_cons_zero, List.set_cons_succ, i64_w, i32_w]
                        rfl
                      refine pure_ (i := 18) (N := some 54) (v := ?_) (a' := ?_) #[true, true, true, true, true, true, true, true, true, true, true, true, true, true, true, true, true, true, true, false, false, false, false, false, false, false, false, false, false, false, false, false, false, false] rfl rfl (any_of HT_.out (by kernel_rfl)) (fun _ _ _ h => h) (Or.inl ⟨by rfl, ?_⟩) ?_ ?_
                      rotate_left
                      · intro w'
                        go_simp
                        with_reducible rfl
                      rotate_left
                      · simp only [Act.put, List.setIfInBounds_toArray, List.set_cons_zero, List.set_cons_succ, i64_w, i32_w]
                        rfl
                      refine pure_ (i := 19) (N := some 55) (v := ?_) (a' := ?_) #[true, true, true, true, true, true, true, true, true, true, true, true, true, true, true, true, true, true, true, true, false, false, false, false, false, false, false, false, false, false, false, false, false, false] rfl rfl (any_of HT_.out (by kernel_rfl)) (fun _ _ _ h => h) (Or.inl ⟨by rfl, ?_⟩) ?_ ?_
                      rotate_left
                      · intro w'
                        go_simp
                        with_reducible rfl
                      rotate_left
                      · simp only [Act.put, List.setIfInBounds_toArray, List.set_cons_zero, List.set_cons_succ, i64_w, i32_w]
                        rfl
                      refine pure_ (i := 20) (N := some 56) (v := ?_) (a' := ?_) #[true, true, true, true, true, true, true, true, true, true, true, true, true, true, true, true, true, true, true, true, true, false, false, false, false, false, false, false, false, false, false, false, false, false] rfl rfl (any_of HT_.out (by kernel_rfl)) (fun _ _ _ h => h) (Or.inl ⟨by rfl, ?_⟩) ?_ ?_
                      rotate_left
                      · intro w'
                        go_simp
                        with_reducible rfl
                      rotate_left
                      · simp only [Act.put, List.setIfInBounds_toArray, List.set_cons_zero, List.set_cons_succ, i64_w, i32_w]
                        rfl
                      refine pure_ (i := 21) (N := some 57) (v := ?_) (a' := ?_) #[true, true, true, true, true, true, true, true, true, true, true, true, true, true, true, true, true, true, true, true, true, true, false, false, false, false, false, false, false, false, false, false, false, false] rfl rfl (any_of HT_.out (by kernel_rfl)) (fun _ _ _ h => h) (Or.inl ⟨by rfl, ?_⟩) ?_ ?_
                      rotate_left
                      · intro w'
                        go_simp
                        with_reducible rfl
                      rotate_left
                      · simp only [Act.put, List.setIfInBounds_toArray, List.set_cons_zero, List.set_cons_succ, i64_w, i32_w]
                        rfl
                      refine pure_ (i := 22) (N := some 58) (v := ?_) (a' := ?_) #[true, true, true, true, true, true, true, true, true, true, true, true, true, true, true, true, true, true, true, true, true, true, true, false, false, false, false, false, false, false, false, false, false, false] rfl rfl (any_of HT_.out (by kernel_rfl)) (fun _ _ _ h => h) (Or.inl ⟨by rfl, ?_⟩) ?_ ?_
                      rotate_left
                      · intro w'
                        go_simp
                        with_reducible rfl
                      rotate_left
                      · simp only [Act.put, List.setIfInBounds_toArray, List.set_cons_zero, List.set_cons_succ, i64_w, i32_w]
                        rfl
                      refine pure_ (i := 23) (N := some 59) (v := ?_) (a' := ?_) #[true, true, true, true, true, true, true, true, true, true, true, true, true, true, true, true, true, true, true, true, true, true, true, true, false, false, false, false, false, false, false, false, false, false] rfl rfl (any_of HT_.out (by kernel_rfl)) (fun _ _ _ h => h) (Or.inl ⟨by rfl, ?_⟩) ?_ ?_
                      rotate_left
                      · intro w'
                        go_simp
                        with_reducible rfl
                      rotate_left
                      · simp only [Act.put, List.setIfInBounds_toArray, List.set_cons_zero, List.set_cons_succ, i64_w, i32_w]
                        rfl
                      refine pure_ (i := 24) (N := some 60) (v := ?_) (a' := ?_) #[true, true, true, true, true, true, true, true, true, true, true, true, true, true, true, true, true, true, true, true, true, true, true, true, true, false, false, false, false, false, false, false, false, false] rfl rfl (any_of HT_.out (by kernel_rfl)) (fun _ _ _ h => h) (Or.inl ⟨by rfl, ?_⟩) ?_ ?_
                      rotate_left
                      · intro w'
                        go_simp
                        with_reducible rfl
                      rotate_left
                      · simp only [Act.put, List.setIfInBounds_toArray, List.set_cons_zero, List.set_cons_succ, i64_w, i32_w]
                        rfl
                      refine pure_ (i := 27) (N := some 63) (v := ?_) (a' := ?_) #[true, true, true, true, true, true, true, true, true, true, true, true, true, true, true, true, true, true, true, true, true, true, true, true, true, false, false, true, false, false, false, false, false, false] rfl rfl (any_of HT_.out (by kernel_rfl)) (fun _ _ _ h => h) (Or.inl ⟨by rfl, ?_⟩) ?_ ?_
                      rotate_left
                      · intro w'
                        go_simp
                        with_reducible rfl
                      rotate_left
                      · simp only [Act.put, List.setIfInBounds_toArray, List.set_cons_zero, List.set_cons_succ, i64_w, i32_w]
                        rfl
                      refine pure_ (i := 28) (N := some 64) (v := ?_) (a' := ?_) #[true, true, true, true, true, true, true, true, true, true, true, true, true, true, true, true, true, true, true, true, true, true, true, true, true, false, false, true, true, false, false, false, false, false] rfl rfl (any_of HT_.out (by kernel_rfl)) (fun _ _ _ h => h) (Or.inl ⟨by rfl, ?_⟩) ?_ ?_
                      rotate_left
                      · intro w'
                        go_simp
                        with_reducible rfl
                      rotate_left
                      · simp only [Act.put, List.setIfInBounds_toArray, List.set_cons_zero, List.set_cons_succ, i64_w, i32_w]
                        rfl
                      refine pure_ (i := 29) (N := some 65) (v := ?_) (a' := ?_) #[true, true, true, true, true, true, true, true, true, true, true, true, true, true, true, true, true, true, true, true, true, true, true, true, true, false, false, true, true, true, false, false, false, false] rfl rfl (any_of HT_.out (by kernel_rfl)) (fun _ _ _ h => h) (Or.inl ⟨by rfl, ?_⟩) ?_ ?_
                      rotate_left
                      · intro w'
                        go_simp
                        with_reducible rfl
                      rotate_left
                      · simp only [Act.put, List.setIfInBounds_toArray, List.set_cons_zero, List.set_cons_succ, i64_w, i32_w]
                        rfl
                      refine take_ (i := 25) (N := some 61) (v := ?_) (a' := ?_) #[true, true, true, true, true, true, true, true, true, true, true, true, true, true, true, true, true, true, true, true, true, true, true, true, true, true, false, true, true, true, false, false, false, false] rfl rfl (take_ofW HT_.out HW_.out (by kernel_rfl)) (fun _ _ _ h => h) (Or.inl ⟨by rfl, ?_⟩) hHeld ?_ ?_
                      rotate_left
                      · rintro w' ⟨s0, s1, s2, s3, s4, s5, s6, s7, s8, s9, s10, s11, s12, s13, s14, s15, s16, s17, s18, s19, s20, s21, s22, s23, s24, s25, s26, s27, s28, s29⟩
                        go_simp
                        with_reducible rfl
                      rotate_left
                      · simp only [Act.put, List.setIfInBounds_toArray, List.set_cons_zero, List.set_cons_succ, i64_w, i32_w]
                        rfl
                      refine take_ (i := 30) (N := some 66) (v := ?_) (a' := ?_) #[true, true, true, true, true, true, true, true, true, true, true, true, true, true, true, true, true, true, true, true, true, true, true, true, true, true, false, true, true, true, true, false, false, false] rfl rfl (take_ofW HT_.out HW_.out (by kernel_rfl)) (fun _ _ _ h => h) (Or.inl ⟨by rfl, ?_⟩) hHeld ?_ ?_
                      rotate_left
                      · rintro w' ⟨s0, s1, s2, s3, s4, s5, s6, s7, s8, s9, s10, s11, s12, s13, s14, s15, s16, s17, s18, s19, s20, s21, s22, s23, s24, s25, s26, s27, s28, s29⟩
                        go_simp
                        with_reducible rfl
                      rotate_left
                      · simp only [Act.put, List.setIfInBounds_toArray, List.set_cons_zero, List.set_cons_succ, i64_w, i32_w]
                        rfl
                      refine one_ (i := 26) (N := some 62) #[true, true, true, true, true, true, true, true, true, true, true, true, true, true, true, true, true, true, true, true, true, true, true, true, true, true, true, true, true, true, true, false, false, false] rfl rfl (one_of HT_.out (by kernel_rfl)) (by decide) (fun K hK => ?_)
                      refine goes_ Try.func12 (by kernel_rfl) rfl #[.agg #[.string ((rd_T40 l0 x33_2).f0), .int .i64 ((rd_T40 l0 x33_2).f1), .int .i64 ((rd_T40 l0 x33_2).f2), .bool ((rd_T40 l0 x33_2).f3), .string ((rd_T40 l0 x33_2).f4), .string ((rd_T40 l0 x33_2).f5)]] (by rfl) rfl rfl (by (try simp only [List.map_toArray, List.map_cons, List.map_nil]); first | done | rfl | (simp only [List.length_drop, List.length_take]; rfl)) ?_
                      with_reducible refine (event_RightPerson.calls k2 ((rd_T40 l0 x33_2).f0) ((rd_T40 l0 x33_2).f1) ((rd_T40 l0 x33_2).f2) ((rd_T40 l0 x33_2).f3) ((rd_T40 l0 x33_2).f4) ((rd_T40 l0 x33_2).f5) t138 _ A26.out).mono ?_
                      rintro e w29 ⟨rfl, hb⟩
                      refine ⟨_, rfl, ?_⟩
                      have n0_ := Aside0.mk (blk_below (g := gb125) (o := .cells (Evp.evp (some ad134) l0.length c0) 36 (0, 0)) (by (with_reducible repeat (first | refine blk_drewN ?_ _ | refine blk_drew ?_ | refine blk_alloc ?_ _)); exact BK125.out) hb)
                      have n1_ := Aside0.mk (blk_below (g := gb133) (o := .cells #[.string t126, .int .i64 t127, .int .i64 t128, .bool t129, .string t130, .string t131] 40 (0, 0)) (by (with_reducible repeat (first | refine blk_drewN ?_ _ | refine blk_drew ?_ | refine blk_alloc ?_ _)); exact BK133.out) hb)
                      have n2_ := Aside0.mk (below_step (by repeat (first | (with_reducible first | exact HB.out | apply below_alloc | apply pw_below_drewN | apply below_drew1 | refine below_set ?_ GE125.out | refine below_set ?_ GE133.out) | exact HB.out)) hb)
                      clear BK125
                      clear BK133
                      clear HB
                      have BK125 := n0_
                      have BK133 := n1_
                      have HB := n2_
                      clear n0_ n1_ n2_
                      (try clear hb)
                      (try clear hb2)
                      (try clear hk)
                      (try clear hi)
                      refine hK.out _ _ ⟨((HB.out.cell (World.block_lt_of_cell? w _ hw134_0)).trans hw134_0), ((HB.out.cell (World.block_lt_of_cell? w _ hw134_1)).trans hw134_1), ((HB.out.cell (World.block_lt_of_cell? w _ hw134_2)).trans hw134_2), ((HB.out.cell (World.block_lt_of_cell? w _ hw134_3)).trans hw134_3), ((HB.out.cell (World.block_lt_of_cell? w _ hw134_4)).trans hw134_4), ((HB.out.cell (World.block_lt_of_cell? w _ hw134_5)).trans hw134_5), ((HB.out.cell (World.block_lt_of_cell? w _ hw135_0)).trans hw135_0), ((HB.out.cell (World.block_lt_of_cell? w _ hw135_1)).trans hw135_1), ((HB.out.cell (World.block_lt_of_cell? w _ hw135_2)).trans hw135_2), ((HB.out.cell (World.block_lt_of_cell? w _ hw135_3)).trans hw135_3), ((HB.out.cell (World.block_lt_of_cell? w _ hw135_4)).trans hw135_4), ((HB.out.cell (World.block_lt_of_cell? w _ hw135_5)).trans hw135_5), ((HB.out.cell (World.block_lt_of_cell? w _ hw136_0)).trans hw136_0), ((HB.out.cell (World.block_lt_of_cell? w _ hw136_1)).trans hw136_1), ((HB.out.cell (World.block_lt_of_cell? w _ hw136_2)).trans hw136_2), ((HB.out.cell (World.block_lt_of_cell? w _ hw136_3)).trans hw136_3), ((HB.out.cell (World.block_lt_of_cell? w _ hw136_4)).trans hw136_4), ((HB.out.cell (World.block_lt_of_cell? w _ hw136_5)).trans hw136_5), ((HB.out.cell (World.block_lt_of_cell? w _ hw137_0)).trans hw137_0), ((HB.out.cell (World.block_lt_of_cell? w _ hw137_1)).trans hw137_1), ((HB.out.cell (World.block_lt_of_cell? w _ hw137_2)).trans hw137_2), ((HB.out.cell (World.block_lt_of_cell? w _ hw137_3)).trans hw137_3), ((HB.out.cell (World.block_lt_of_cell? w _ hw137_4)).trans hw137_4), ((HB.out.cell (World.block_lt_of_cell? w _ hw137_5)).trans hw137_5), ((HB.out.cell (World.block_lt_of_cell? w _ hw139_0)).trans hw139_0), ((HB.out.cell (World.block_lt_of_cell? w _ hw139_1)).trans hw139_1), ((HB.out.cell (World.block_lt_of_cell? w _ hw139_2)).trans hw139_2), ((HB.out.cell (World.block_lt_of_cell? w _ hw139_3)).trans hw139_3), ((HB.out.cell (World.block_lt_of_cell? w _ hw139_4)).trans hw139_4), ((HB.out.cell (World.block_lt_of_cell? w _ hw139_5)).trans hw139_5)⟩ (fun hHeld => ?_)
                      clear hK K
                      refine norm_ (a' := ?_) ?_ ?_
                      rotate_left
                      · show Act.put _ (some 62) _ = _
                        simp only [Act.put, List.setIfInBounds_toArray, List.set_cons_zero, List.set_cons_succ, i64_w, i32_w]
                        rfl
                      refine one_ (i := 31) (N := some 67) #[true, true, true, true, true, true, true, true, true, true, true, true, true, true, true, true, true, true, true, true, true, true, true, true, true, true, true, true, true, true, true, true, false, false] rfl rfl (one_of HT_.out (by kernel_rfl)) (by decide) (fun K hK => ?_)
                      refine goes_ Try.func13 (by kernel_rfl) rfl #[.agg #[.string ((rd_T40 l0 x33_2).f0), .int .i64 ((rd_T40 l0 x33_2).f1), .int .i64 ((rd_T40 l0 x33_2).f2), .bool ((rd_T40 l0 x33_2).f3), .string ((rd_T40 l0 x33_2).f4), .string ((rd_T40 l0 x33_2).f5)]] (by rfl) rfl rfl (by (try simp only [List.map_toArray, List.map_cons, List.map_nil]); first | done | rfl | (simp only [List.length_drop, List.length_take]; rfl)) ?_
                      with_reducible refine (trystlaw18_person.calls k2 ((rd_T40 l0 x33_2).f0) ((rd_T40 l0 x33_2).f1) ((rd_T40 l0 x33_2).f2) ((rd_T40 l0 x33_2).f3) ((rd_T40 l0 x33_2).f4) ((rd_T40 l0 x33_2).f5) t140 _ A27.out).mono ?_
                      rintro e w30 ⟨rfl, hb⟩
                      refine ⟨_, rfl, ?_⟩
                      have n0_ := Aside0.mk (blk_below (g := gb125) (o := .cells (Evp.evp (some ad134) l0.length c0) 36 (0, 0)) (by (with_reducible repeat (first | refine blk_drewN ?_ _ | refine blk_drew ?_ | refine blk_alloc ?_ _)); exact BK125.out) hb)
                      have n1_ := Aside0.mk (blk_below (g := gb133) (o := .cells #[.string t126, .int .i64 t127, .int .i64 t128, .bool t129, .string t130, .string t131] 40 (0, 0)) (by (with_reducible repeat (first | refine blk_drewN ?_ _ | refine blk_drew ?_ | refine blk_alloc ?_ _)); exact BK133.out) hb)
                      have n2_ := Aside0.mk (below_step (by repeat (first | (with_reducible first | exact HB.out | apply below_alloc | apply pw_below_drewN | apply below_drew1 | refine below_set ?_ GE125.out | refine below_set ?_ GE133.out) | exact HB.out)) hb)
                      clear BK125
                      clear BK133
                      clear HB
                      have BK125 := n0_
                      have BK133 := n1_
                      have HB := n2_
                      clear n0_ n1_ n2_
                      (try clear hb)
                      (try clear hb2)
                      (try clear hk)
                      (try clear hi)
                      refine hK.out _ _ ⟨((HB.out.cell (World.block_lt_of_cell? w _ hw134_0)).trans hw134_0), ((HB.out.cell (World.block_lt_of_cell? w _ hw134_1)).trans hw134_1), ((HB.out.cell (World.block_lt_of_cell? w _ hw134_2)).trans hw134_2), ((HB.out.cell (World.block_lt_of_cell? w _ hw134_3)).trans hw134_3), ((HB.out.cell (World.block_lt_of_cell? w _ hw134_4)).trans hw134_4), ((HB.out.cell (World.block_lt_of_cell? w _ hw134_5)).trans hw134_5), ((HB.out.cell (World.block_lt_of_cell? w _ hw135_0)).trans hw135_0), ((HB.out.cell (World.block_lt_of_cell? w _ hw135_1)).trans hw135_1), ((HB.out.cell (World.block_lt_of_cell? w _ hw135_2)).trans hw135_2), ((HB.out.cell (World.block_lt_of_cell? w _ hw135_3)).trans hw135_3), ((HB.out.cell (World.block_lt_of_cell? w _ hw135_4)).trans hw135_4), ((HB.out.cell (World.block_lt_of_cell? w _ hw135_5)).trans hw135_5), ((HB.out.cell (World.block_lt_of_cell? w _ hw136_0)).trans hw136_0), ((HB.out.cell (World.block_lt_of_cell? w _ hw136_1)).trans hw136_1), ((HB.out.cell (World.block_lt_of_cell? w _ hw136_2)).trans hw136_2), ((HB.out.cell (World.block_lt_of_cell? w _ hw136_3)).trans hw136_3), ((HB.out.cell (World.block_lt_of_cell? w _ hw136_4)).trans hw136_4), ((HB.out.cell (World.block_lt_of_cell? w _ hw136_5)).trans hw136_5), ((HB.out.cell (World.block_lt_of_cell? w _ hw137_0)).trans hw137_0), ((HB.out.cell (World.block_lt_of_cell? w _ hw137_1)).trans hw137_1), ((HB.out.cell (World.block_lt_of_cell? w _ hw137_2)).trans hw137_2), ((HB.out.cell (World.block_lt_of_cell? w _ hw137_3)).trans hw137_3), ((HB.out.cell (World.block_lt_of_cell? w _ hw137_4)).trans hw137_4), ((HB.out.cell (World.block_lt_of_cell? w _ hw137_5)).trans hw137_5), ((HB.out.cell (World.block_lt_of_cell? w _ hw139_0)).trans hw139_0), ((HB.out.cell (World.block_lt_of_cell? w _ hw139_1)).trans hw139_1), ((HB.out.cell (World.block_lt_of_cell? w _ hw139_2)).trans hw139_2), ((HB.out.cell (World.block_lt_of_cell? w _ hw139_3)).trans hw139_3), ((HB.out.cell (World.block_lt_of_cell? w _ hw139_4)).trans hw139_4), ((HB.out.cell (World.block_lt_of_cell? w _ hw139_5)).trans hw139_5)⟩ (fun hHeld => ?_)
                      clear hK K
                      refine norm_ (a' := ?_) ?_ ?_
                      rotate_left
                      · show Act.put _ (some 67) _ = _
                        simp only [Act.put, List.setIfInBounds_toArray, List.set_cons_zero, List.set_cons_succ, i64_w, i32_w]
                        rfl
                      refine pure_ (i := 32) (N := some 68) (v := ?_) (a' := ?_) #[true, true, true, true, true, true, true, true, true, true, true, true, true, true, true, true, true, true, true, true, true, true, true, true, true, true, true, true, true, true, true, true, true, false] rfl rfl (any_of HT_.out (by kernel_rfl)) (fun _ _ _ h => h) (Or.inl ⟨by rfl, ?_⟩) ?_ ?_
                      rotate_left
                      · intro w'
                        go_simp
                        with_reducible rfl
                      rotate_left
                      · simp only [Act.put, List.setIfInBounds_toArray, List.set_cons_zero, List.set_cons_succ, i64_w, i32_w]
                        rfl
                      refine pure_ (i := 33) (N := some 69) (v := ?_) (a' := ?_) #[true, true, true, true, true, true, true, true, true, true, true, true, true, true, true, true, true, true, true, true, true, true, true, true, true, true, true, true, true, true, true, true, true, true] rfl rfl (any_of HT_.out (by kernel_rfl)) (fun _ _ _ h => h) (Or.inl ⟨by rfl, ?_⟩) ?_ ?_
                      rotate_left
                      · intro w'
                        go_simp
                        with_reducible rfl
                      rotate_left
                      · simp only [Act.put, List.setIfInBounds_toArray, List.set_cons_zero, List.set_cons_succ, i64_w, i32_w]
                        rfl
                      refine done_ (done_of HT_.out (by kernel_rfl)) ?_
                      try go_wp2
                      go_meet
                      case rel => exact ⟨_, ((t138 != t140)), (by first | rfl | (simp; done) | (simp [*]; done)), H', ⟨by have := HJ2.out; have := HK2.out; first | omega | exact Nat.le_refl _⟩, ⟨by (with_reducible repeat (first | refine blk_drewN ?_ _ | refine blk_drew ?_ | refine blk_alloc ?_ _)); exact BK125.out⟩, ⟨by (with_reducible repeat (first | refine blk_drewN ?_ _ | refine blk_drew ?_ | refine blk_alloc ?_ _)); exact BK133.out⟩, ⟨by repeat (first | (with_reducible first | exact HB.out | apply below_alloc | apply pw_below_drewN | apply below_drew1 | refine below_set ?_ GE125.out | refine below_set ?_ GE133.out) | exact HB.out)⟩⟩
                  · rw [if_neg c23] at H
                    exact absurd H (by simp)
                · rw [if_neg c22] at H
                  exact absurd H (by simp)
              case rest =>
                clear HC21
                try clear c1
                try clear p1
                try clear q1
                try clear hx1
                try clear c2
                try clear p2
                try clear p6
                try clear c12
                try clear c13
                try clear p13
                try clear q13
                try clear hx13
                try clear c22
                try clear c23
                try clear c24
                try clear c24b0
                try clear hx134_0
                try clear hx134_1
                try clear hx134_2
                try clear hx134_3
                try clear hx134_4
                try clear hx134_5
                try clear hx135_0
                try clear hx135_1
                try clear hx135_2
                try clear hx135_3
                try clear hx135_4
                try clear hx135_5
                try clear hx136_0
                try clear hx136_1
                try clear hx136_2
                try clear hx136_3
                try clear hx136_4
                try clear hx136_5
                try clear hx137_0
                try clear hx137_1
                try clear hx137_2
                try clear hx137_3
                try clear hx137_4
                try clear hx137_5
                try clear hx139_0
                try clear hx139_1
                try clear hx139_2
                try clear hx139_3
                try clear hx139_4
                try clear hx139_5
                try clear p134
                try clear p135
                try clear p136
                try clear p137
                try clear p139
                try clear q134
                try clear q135
                try clear q136
                try clear q137
                try clear q139
                obtain ⟨kq, x69_20, rfl, HA, HJ20, BK125, BK133, HB⟩ := hcut
                cases kq with
                | zero => exact absurd HA.out (by simp [trystlaw18_EventPeople.j2])
                | succ kj20 =>
                  have H := HA.out
                  clear HA
                  simp only [trystlaw18_EventPeople.j2] at H
                  by_cases c31 : x69_20 = true
                  · subst c31
                    have H1 : (if 0 ≤ x33_2 then (if x33_2 < (l0.length : Int) then (some (decide ((wrap64 ((wrap64 ((((rd_T40 l0 x33_2).f0).size : Int) + (((rd_T40 l0 x33_2).f4).size : Int))) + (((rd_T40 l0 x33_2).f5).size : Int))) > 1000))) else (none)) else (none)) = some r := by rw [if_pos rfl] at H; exact H
                    clear H
                    have H := H1
                    clear H1
                    by_cases c32 : 0 ≤ x33_2
                    · rw [if_pos c32] at H
                      have c32b0 : decide (0 ≤ x33_2) = true := decide_eq_true c32
                      clear c32
                      by_cases c33 : x33_2 < (l0.length : Int)
                      · rw [if_pos c33] at H
                        have c33b0 : decide (x33_2 < (l0.length : Int)) = true := decide_eq_true c33
                        clear c33
                        obtain rfl := Option.some.inj H
                        try go_wp2
                        have n0_ := Aside0.mk (blk_drew BK125.out)
                        have n1_ := Aside0.mk (blk_drew BK133.out)
                        have n2_ := Aside0.mk (below_drew1 HB.out)
                        clear BK125
                        clear BK133
                        clear HB
                        have BK125 := n0_
                        have BK133 := n1_
                        have HB := n2_
                        clear n0_ n1_ n2_
                        have p141 : 0 ≤ (x33_2 : Int) := of_decide_eq_true (by first | (with_reducible assumption) | assumption)
                        have q141 : x33_2 < (l0.length : Int) := of_decide_eq_true (by first | (with_reducible assumption) | assumption)
                        obtain ⟨ad141, e141, hx141_0, hx141_1, hx141_2, hx141_3, hx141_4, hx141_5⟩ := at_T40 HR0.out x33_2 p141 q141
                        have hw141_5 := hx141_5
                        have hw141_4 := hx141_4
                        have hw141_3 := hx141_3
                        have hw141_2 := hx141_2
                        have hw141_1 := hx141_1
                        have hw141_0 := hx141_0
                        cases e141
                        replace hx141_0 := (HB.out.cell (World.block_lt_of_cell? w _ hx141_0)).trans hx141_0
                        replace hx141_1 := (HB.out.cell (World.block_lt_of_cell? w _ hx141_1)).trans hx141_1
                        replace hx141_2 := (HB.out.cell (World.block_lt_of_cell? w _ hx141_2)).trans hx141_2
                        replace hx141_3 := (HB.out.cell (World.block_lt_of_cell? w _ hx141_3)).trans hx141_3
                        replace hx141_4 := (HB.out.cell (World.block_lt_of_cell? w _ hx141_4)).trans hx141_4
                        replace hx141_5 := (HB.out.cell (World.block_lt_of_cell? w _ hx141_5)).trans hx141_5
                        replace p141 := eq_true p141
                        replace q141 := eq_true q141
                        have p142 : 0 ≤ (x33_2 : Int) := of_decide_eq_true (by first | (with_reducible assumption) | assumption)
                        have q142 : x33_2 < (l0.length : Int) := of_decide_eq_true (by first | (with_reducible assumption) | assumption)
                        obtain ⟨ad142, e142, hx142_0, hx142_1, hx142_2, hx142_3, hx142_4, hx142_5⟩ := at_T40 HR0.out x33_2 p142 q142
                        have hw142_5 := hx142_5
                        have hw142_4 := hx142_4
                        have hw142_3 := hx142_3
                        have hw142_2 := hx142_2
                        have hw142_1 := hx142_1
                        have hw142_0 := hx142_0
                        obtain rfl : ad141 = ad142 := (by injection e142)
                        replace hx142_0 := (HB.out.cell (World.block_lt_of_cell? w _ hx142_0)).trans hx142_0
                        replace hx142_1 := (HB.out.cell (World.block_lt_of_cell? w _ hx142_1)).trans hx142_1
                        replace hx142_2 := (HB.out.cell (World.block_lt_of_cell? w _ hx142_2)).trans hx142_2
                        replace hx142_3 := (HB.out.cell (World.block_lt_of_cell? w _ hx142_3)).trans hx142_3
                        replace hx142_4 := (HB.out.cell (World.block_lt_of_cell? w _ hx142_4)).trans hx142_4
                        replace hx142_5 := (HB.out.cell (World.block_lt_of_cell? w _ hx142_5)).trans hx142_5
                        replace p142 := eq_true p142
                        replace q142 := eq_true q142
                        have p143 : 0 ≤ (x33_2 : Int) := of_decide_eq_true (by first | (with_reducible assumption) | assumption)
                        have q143 : x33_2 < (l0.length : Int) := of_decide_eq_true (by first | (with_reducible assumption) | assumption)
                        obtain ⟨ad143, e143, hx143_0, hx143_1, hx143_2, hx143_3, hx143_4, hx143_5⟩ := at_T40 HR0.out x33_2 p143 q143
                        have hw143_5 := hx143_5
                        have hw143_4 := hx143_4
                        have hw143_3 := hx143_3
                        have hw143_2 := hx143_2
                        have hw143_1 := hx143_1
                        have hw143_0 := hx143_0
                        obtain rfl : ad141 = ad143 := (by injection e143)
                        replace hx143_0 := (HB.out.cell (World.block_lt_of_cell? w _ hx143_0)).trans hx143_0
                        replace hx143_1 := (HB.out.cell (World.block_lt_of_cell? w _ hx143_1)).trans hx143_1
                        replace hx143_2 := (HB.out.cell (World.block_lt_of_cell? w _ hx143_2)).trans hx143_2
                        replace hx143_3 := (HB.out.cell (World.block_lt_of_cell? w _ hx143_3)).trans hx143_3
                        replace hx143_4 := (HB.out.cell (World.block_lt_of_cell? w _ hx143_4)).trans hx143_4
                        replace hx143_5 := (HB.out.cell (World.block_lt_of_cell? w _ hx143_5)).trans hx143_5
                        replace p143 := eq_true p143
                        replace q143 := eq_true q143
                        refine start_ (n := 22) (S := fun w' => w'.cell? (ad141.add ((x33_2).toNat * 6)) = some (.string ((rd_T40 l0 x33_2).f0)) ∧ w'.cell? ⟨(ad141.add ((x33_2).toNat * 6)).block, (ad141.add ((x33_2).toNat * 6)).off + 1, none⟩ = some (.int .i64 ((rd_T40 l0 x33_2).f1)) ∧ w'.cell? ⟨(ad141.add ((x33_2).toNat * 6)).block, (ad141.add ((x33_2).toNat * 6)).off + 2, none⟩ = some (.int .i64 ((rd_T40 l0 x33_2).f2)) ∧ w'.cell? ⟨(ad141.add ((x33_2).toNat * 6)).block, (ad141.add ((x33_2).toNat * 6)).off + 3, none⟩ = some (.bool ((rd_T40 l0 x33_2).f3)) ∧ w'.cell? ⟨(ad141.add ((x33_2).toNat * 6)).block, (ad141.add ((x33_2).toNat * 6)).off + 4, none⟩ = some (.string ((rd_T40 l0 x33_2).f4)) ∧ w'.cell? ⟨(ad141.add ((x33_2).toNat * 6)).block, (ad141.add ((x33_2).toNat * 6)).off + 5, none⟩ = some (.string ((rd_T40 l0 x33_2).f5)) ∧ w'.cell? (ad141.add ((x33_2).toNat * 6)) = some (.string ((rd_T40 l0 x33_2).f0)) ∧ w'.cell? ⟨(ad141.add ((x33_2).toNat * 6)).block, (ad141.add ((x33_2).toNat * 6)).off + 1, none⟩ = some (.int .i64 ((rd_T40 l0 x33_2).f1)) ∧ w'.cell? ⟨(ad141.add ((x33_2).toNat * 6)).block, (ad141.add ((x33_2).toNat * 6)).off + 2, none⟩ = some (.int .i64 ((rd_T40 l0 x33_2).f2)) ∧ w'.cell? ⟨(ad141.add ((x33_2).toNat * 6)).block, (ad141.add ((x33_2).toNat * 6)).off + 3, none⟩ = some (.bool ((rd_T40 l0 x33_2).f3)) ∧ w'.cell? ⟨(ad141.add ((x33_2).toNat * 6)).block, (ad141.add ((x33_2).toNat * 6)).off + 4, none⟩ = some (.string ((rd_T40 l0 x33_2).f4)) ∧ w'.cell? ⟨(ad141.add ((x33_2).toNat * 6)).block, (ad141.add ((x33_2).toNat * 6)).off + 5, none⟩ = some (.string ((rd_T40 l0 x33_2).f5)) ∧ w'.cell? (ad141.add ((x33_2).toNat * 6)) = some (.string ((rd_T40 l0 x33_2).f0)) ∧ w'.cell? ⟨(ad141.add ((x33_2).toNat * 6)).block, (ad141.add ((x33_2).toNat * 6)).off + 1, none⟩ = some (.int .i64 ((rd_T40 l0 x33_2).f1)) ∧ w'.cell? ⟨(ad141.add ((x33_2).toNat * 6)).block, (ad141.add ((x33_2).toNat * 6)).off + 2, none⟩ = some (.int .i64 ((rd_T40 l0 x33_2).f2)) ∧ w'.cell? ⟨(ad141.add ((x33_2).toNat * 6)).block, (ad141.add ((x33_2).toNat * 6)).off + 3, none⟩ = some (.bool ((rd_T40 l0 x33_2).f3)) ∧ w'.cell? ⟨(ad141.add ((x33_2).toNat * 6)).block, (ad141.add ((x33_2).toNat * 6)).off + 4, none⟩ = some (.string ((rd_T40 l0 x33_2).f4)) ∧ w'.cell? ⟨(ad141.add ((x33_2).toNat * 6)).block, (ad141.add ((x33_2).toNat * 6)).off + 5, none⟩ = some (.string ((rd_T40 l0 x33_2).f5))) (ds := []) #[false, false, false, false, false, false, false, false, false, false, false, false, false, false, false, false, false, false, false, false, false, false] (by kernel_rfl) rfl rfl ⟨((HB.out.cell (World.block_lt_of_cell? w _ hw141_0)).trans hw141_0), ((HB.out.cell (World.block_lt_of_cell? w _ hw141_1)).trans hw141_1), ((HB.out.cell (World.block_lt_of_cell? w _ hw141_2)).trans hw141_2), ((HB.out.cell (World.block_lt_of_cell? w _ hw141_3)).trans hw141_3), ((HB.out.cell (World.block_lt_of_cell? w _ hw141_4)).trans hw141_4), ((HB.out.cell (World.block_lt_of_cell? w _ hw141_5)).trans hw141_5), ((HB.out.cell (World.block_lt_of_cell? w _ hw142_0)).trans hw142_0), ((HB.out.cell (World.block_lt_of_cell? w _ hw142_1)).trans hw142_1), ((HB.out.cell (World.block_lt_of_cell? w _ hw142_2)).trans hw142_2), ((HB.out.cell (World.block_lt_of_cell? w _ hw142_3)).trans hw142_3), ((HB.out.cell (World.block_lt_of_cell? w _ hw142_4)).trans hw142_4), ((HB.out.cell (World.block_lt_of_cell? w _ hw142_5)).trans hw142_5), ((HB.out.cell (World.block_lt_of_cell? w _ hw143_0)).trans hw143_0), ((HB.out.cell (World.block_lt_of_cell? w _ hw143_1)).trans hw143_1), ((HB.out.cell (World.block_lt_of_cell? w _ hw143_2)).trans hw143_2), ((HB.out.cell (World.block_lt_of_cell? w _ hw143_3)).trans hw143_3), ((HB.out.cell (World.block_lt_of_cell? w _ hw143_4)).trans hw143_4), ((HB.out.cell (World.block_lt_of_cell? w _ hw143_5)).trans hw143_5)⟩ (fun hHeld => ?_); refine with_tabW trystlaw18_EventPeople.tab10 trystlaw18_EventPeople.bits10 (fun HT_ HW_ => ?_)
                        generalize wc.drew = w34 at BK125 BK133 HB hx141_0 hx141_1 hx141_2 hx141_3 hx141_4 hx141_5 hx142_0 hx142_1 hx142_2 hx142_3 hx142_4 hx142_5 hx143_0 hx143_1 hx143_2 hx143_3 hx143_4 hx143_5 hHeld ⊢
                        refine pure_ (i := 0) (N := some 70) (v := ?_) (a' := ?_) #[true, false, false, false, false, false, false, false, false, false, false, false, false, false, false, false, false, false, false, false, false, false] rfl rfl (any_of HT_.out (by kernel_rfl)) (fun _ _ _ h => h) (Or.inl ⟨by rfl, ?_⟩) ?_ ?_
                        rotate_left
                        · intro w'
                          go_simp
                          with_reducible rfl
                        rotate_left
                        · simp only [Act.put, List.setIfInBounds_toArray, List.set_cons_zero, List.set_cons_succ, i64_w, i32_w]
                          rfl
                        refine pure_ (i := 1) (N := some 71) (v := ?_) (a' := ?_) #[true, true, false, false, false, false, false, false, false, false, false, false, false, false, false, false, false, false, false, false, false, false] rfl rfl (any_of HT_.out (by kernel_rfl)) (fun _ _ _ h => h) (Or.inl ⟨by rfl, ?_⟩) ?_ ?_
                        rotate_left
                        · intro w'
                          go_simp
                          with_reducible rfl
                        rotate_left
                        · simp only [Act.put, List.setIfInBounds_toArray, List.set_cons_zero, List.set_cons_succ, i64_w, i32_w]
                          rfl
                        refine pure_ (i := 2) (N := some 72) (v := ?_) (a' := ?_) #[true, true, true, false, false, false, false, false, false, false, false, false, false, false, false, false, false, false, false, false, false, false] rfl rfl (any_of HT_.out (by kernel_rfl)) (fun _ _ _ h => h) (Or.inl ⟨by rfl, ?_⟩) ?_ ?_
                        rotate_left
                        · intro w'
                          go_simp
                          with_reducible rfl
                        rotate_left
                        · simp only [Act.put, List.setIfInBounds_toArray, List.set_cons_zero, List.set_cons_succ, i64_w, i32_w]
                          rfl
                        refine pure_ (i := 3) (N := some 73) (v := ?_) (a' := ?_) #[true, true, true, true, false, false, false, false, false, false, false, false, false, false, false, false, false, false, false, false, false, false] rfl rfl (any_of HT_.out (by kernel_rfl)) (fun _ _ _ h => h) (Or.inl ⟨by rfl, ?_⟩) ?_ ?_
                        rotate_left
                        · intro w'
                          go_simp
                          with_reducible rfl
                        rotate_left
                        · simp only [Act.put, List.setIfInBounds_toArray, List.set_cons_zero, List.set_cons_succ, i64_w, i32_w]
                          rfl
                        refine pure_ (i := 6) (N := some 76) (v := ?_) (a' := ?_) #[true, true, true, true, false, false, true, false, false, false, false, false, false, false, false, false, false, false, false, false, false, false] rfl rfl (any_of HT_.out (by kernel_rfl)) (fun _ _ _ h => h) (Or.inl ⟨by rfl, ?_⟩) ?_ ?_
                        rotate_left
                        · intro w'
                          go_simp
                          with_reducible rfl
                        rotate_left
                        · simp only [Act.put, List.setIfInBounds_toArray, List.set_cons_zero, List.set_cons_succ, i64_w, i32_w]
                          rfl
                        refine pure_ (i := 7) (N := some 77) (v := ?_) (a' := ?_) #[true, true, true, true, false, false, true, true, false, false, false, false, false, false, false, false, false, false, false, false, false, false] rfl rfl (any_of HT_.out (by kernel_rfl)) (fun _ _ _ h => h) (Or.inl ⟨by rfl, ?_⟩) ?_ ?_
                        rotate_left
                        · intro w'
                          go_simp
                          with_reducible rfl
                        rotate_left
                        · simp only [Act.put, List.setIfInBounds_toArray, List.set_cons_zero, List.set_cons_succ, i64_w, i32_w]
                          rfl
                        refine pure_ (i := 8) (N := some 78) (v := ?_) (a' := ?_) #[true, true, true, true, false, false, true, true, true, false, false, false, false, false, false, false, false, false, false, false, false, false] rfl rfl (any_of HT_.out (by kernel_rfl)) (fun _ _ _ h => h) (Or.inl ⟨by rfl, ?_⟩) ?_ ?_
                        rotate_left
                        · intro w'
                          go_simp
                          with_reducible rfl
                        rotate_left
                        · simp only [Act.put, List.setIfInBounds_toArray, List.set_cons_zero, List.set_cons_succ, i64_w, i32_w]
                          rfl
                        refine pure_ (i := 9) (N := some 79) (v := ?_) (a' := ?_) #[true, true, true, true, false, false, true, true, true, true, false, false, false, false, false, false, false, false, false, false, false, false] rfl rfl (any_of HT_.out (by kernel_rfl)) (fun _ _ _ h => h) (Or.inl ⟨by rfl, ?_⟩) ?_ ?_
                        rotate_left
                        · intro w'
                          go_simp
                          with_reducible rfl
                        rotate_left
                        · simp only [Act.put, List.setIfInBounds_toArray, List.set_cons_zero, List.set_cons_succ, i64_w, i32_w]
                          rfl
                        refine pure_ (i := 13) (N := some 83) (v := ?_) (a' := ?_) #[true, true, true, true, false, false, true, true, true, true, false, false, false, true, false, false, false, false, false, false, false, false] rfl rfl (any_of HT_.out (by kernel_rfl)) (fun _ _ _ h => h) (Or.inl ⟨by rfl, ?_⟩) ?_ ?_
                        rotate_left
                        · intro w'
                          go_simp
                          with_reducible rfl
                        rotate_left
                        · simp only [Act.put, List.setIfInBounds_toArray, List.set_cons_zero, List.set_cons_succ, i64_w, i32_w]
                          rfl
                        refine pure_ (i := 14) (N := some 84) (v := ?_) (a' := ?_) #[true, true, true, true, false, false, true, true, true, true, false, false, false, true, true, false, false, false, false, false, false, false] rfl rfl (any_of HT_.out (by kernel_rfl)) (fun _ _ _ h => h) (Or.inl ⟨by rfl, ?_⟩) ?_ ?_
                        rotate_left
                        · intro w'
                          go_simp
                          with_reducible rfl
                        rotate_left
                        · simp only [Act.put, List.setIfInBounds_toArray, List.set_cons_zero, List.set_cons_succ, i64_w, i32_w]
                          rfl
                        refine pure_ (i := 15) (N := some 85) (v := ?_) (a' := ?_) #[true, true, true, true, false, false, true, true, true, true, false, false, false, true, true, true, false, false, false, false, false, false] rfl rfl (any_of HT_.out (by kernel_rfl)) (fun _ _ _ h => h) (Or.inl ⟨by rfl, ?_⟩) ?_ ?_
                        rotate_left
                        · intro w'
                          go_simp
                          with_reducible rfl
                        rotate_left
                        · simp only [Act.put, List.setIfInBounds_toArray, List.set_cons_zero, List.set_cons_succ, i64_w, i32_w]
                          rfl
                        refine pure_ (i := 16) (N := some 86) (v := ?_) (a' := ?_) #[true, true, true, true, false, false, true, true, true, true, false, false, false, true, true, true, true, false, false, false, false, false] rfl rfl (any_of HT_.out (by kernel_rfl)) (fun _ _ _ h => h) (Or.inl ⟨by rfl, ?_⟩) ?_ ?_
                        rotate_left
                        · intro w'
                          go_simp
                          with_reducible rfl
                        rotate_left
                        · simp only [Act.put, List.setIfInBounds_toArray, List.set_cons_zero, List.set_cons_succ, i64_w, i32_w]
                          rfl
                        refine take_ (i := 4) (N := some 74) (v := ?_) (a' := ?_) #[true, true, true, true, true, false, true, true, true, true, false, false, false, true, true, true, true, false, false, false, false, false] rfl rfl (take_ofW HT_.out HW_.out (by kernel_rfl)) (fun _ _ _ h => h) (Or.inl ⟨by rfl, ?_⟩) hHeld ?_ ?_
                        rotate_left
                        · rintro w' ⟨s0, s1, s2, s3, s4, s5, s6, s7, s8, s9, s10, s11, s12, s13, s14, s15, s16, s17⟩
                          go_simp
                          with_reducible rfl
                        rotate_left
                        · simp only [Act.put, List.setIfInBounds_toArray, List.set_cons_zero, List.set_cons_succ, i64_w, i32_w]
                          rfl
                        refine pure_ (i := 5) (N := some 75) (v := ?_) (a' := ?_) #[true, true, true, true, true, true, true, true, true, true, false, false, false, true, true, true, true, false, false, false, false, false] rfl rfl (any_of HT_.out (by kernel_rfl)) (fun _ _ _ h => h) (Or.inl ⟨by rfl, ?_⟩) ?_ ?_
                        rotate_left
                        · intro w'
                          go_simp
                          with_reducible rfl
                        rotate_left
                        · simp only [Act.put, List.setIfInBounds_toArray, List.set_cons_zero, List.set_cons_succ, i64_w, i32_w]
                          rfl
                        refine take_ (i := 10) (N := some 80) (v := ?_) (a' := ?_) #[true, true, true, true, true, true, true, true, true, true, true, false, false, true, true, true, true, false, false, false, false, false] rfl rfl (take_ofW HT_.out HW_.out (by kernel_rfl)) (fun _ _ _ h => h) (Or.inl ⟨by rfl, ?_⟩) hHeld ?_ ?_
                        rotate_left
                        · rintro w' ⟨s0, s1, s2, s3, s4, s5, s6, s7, s8, s9, s10, s11, s12, s13, s14, s15, s16, s17⟩
                          go_simp
                          with_reducible rfl
                        rotate_left
                        · simp only [Act.put, List.setIfInBounds_toArray, List.set_cons_zero, List.set_cons_succ, i64_w, i32_w]
                          rfl
                        refine pure_ (i := 11) (N := some 81) (v := ?_) (a' := ?_) #[true, true, true, true, true, true, true, true, true, true, true, true, false, true, true, true, true, false, false, false, false, false] rfl rfl (any_of HT_.out (by kernel_rfl)) (fun _ _ _ h => h) (Or.inl ⟨by rfl, ?_⟩) ?_ ?_
                        rotate_left
                        · intro w'
                          go_simp
                          with_reducible rfl
                        rotate_left
                        · simp only [Act.put, List.setIfInBounds_toArray, List.set_cons_zero, List.set_cons_succ, i64_w, i32_w]
                          rfl
                        refine pure_ (i := 12) (N := some 82) (v := ?_) (a' := ?_) #[true, true, true, true, true, true, true, true, true, true, true, true, true, true, true, true, true, false, false, false, false, false] rfl rfl (any_of HT_.out (by kernel_rfl)) (fun _ _ _ h => h) (Or.inl ⟨by rfl, ?_⟩) ?_ ?_
                        rotate_left
                        · intro w'
                          go_simp
                          with_reducible rfl
                        rotate_left
                        · simp only [Act.put, List.setIfInBounds_toArray, List.set_cons_zero, List.set_cons_succ, i64_w, i32_w]
                          rfl
                        refine take_ (i := 17) (N := some 87) (v := ?_) (a' := ?_) #[true, true, true, true, true, true, true, true, true, true, true, true, true, true, true, true, true, true, false, false, false, false] rfl rfl (take_ofW HT_.out HW_.out (by kernel_rfl)) (fun _ _ _ h => h) (Or.inl ⟨by rfl, ?_⟩) hHeld ?_ ?_
                        rotate_left
                        · rintro w' ⟨s0, s1, s2, s3, s4, s5, s6, s7, s8, s9, s10, s11, s12, s13, s14, s15, s16, s17⟩
                          go_simp
                          with_reducible rfl
                        rotate_left
                        · simp only [Act.put, List.setIfInBounds_toArray, List.set_cons_zero, List.set_cons_succ, i64_w, i32_w]
                          rfl
                        refine pure_ (i := 18) (N := some 88) (v := ?_) (a' := ?_) #[true, true, true, true, true, true, true, true, true, true, true, true, true, true, true, true, true, true, true, false, false, false] rfl rfl (any_of HT_.out (by kernel_rfl)) (fun _ _ _ h => h) (Or.inl ⟨by rfl, ?_⟩) ?_ ?_
                        rotate_left
                        · intro w'
                          go_simp
                          with_reducible rfl
                        rotate_left
                        · simp only [Act.put, List.setIfInBounds_toArray, List.set_cons_zero, List.set_cons_succ, i64_w, i32_w]
                          rfl
                        refine pure_ (i := 19) (N := some 89) (v := ?_) (a' := ?_) #[true, true, true, true, true, true, true, true, true, true, true, true, true, true, true, true, true, true, true, true, false, false] rfl rfl (any_of HT_.out (by kernel_rfl)) (fun _ _ _ h => h) (Or.inl ⟨by rfl, ?_⟩) ?_ ?_
                        rotate_left
                        · intro w'
                          go_simp
                          with_reducible rfl
                        rotate_left
                        · simp only [Act.put, List.setIfInBounds_toArray, List.set_cons_zero, List.set_cons_succ, i64_w, i32_w]
                          rfl
                        refine pure_ (i := 20) (N := some 90) (v := ?_) (a' := ?_) #[true, true, true, true, true, true, true, true, true, true, true, true, true, true, true, true, true, true, true, true, true, false] rfl rfl (any_of HT_.out (by kernel_rfl)) (fun _ _ _ h => h) (Or.inl ⟨by rfl, ?_⟩) ?_ ?_
                        rotate_left
                        · intro w'
                          go_simp
                          with_reducible rfl
                        rotate_left
                        · simp only [Act.put, List.setIfInBounds_toArray, List.set_cons_zero, List.set_cons_succ, i64_w, i32_w]
                          rfl
                        refine pure_ (i := 21) (N := some 4) (v := ?_) (a' := ?_) #[true, true, true, true, true, true, true, true, true, true, true, true, true, true, true, true, true, true, true, true, true, true] rfl rfl (any_of HT_.out (by kernel_rfl)) (fun _ _ _ h => h) (Or.inl ⟨by rfl, ?_⟩) ?_ ?_
                        rotate_left
                        · intro w'
                          go_simp
                          with_reducible rfl
                        rotate_left
                        · simp only [Act.put, List.setIfInBounds_toArray, List.set_cons_zero, List.set_cons_succ, i64_w, i32_w]
                          rfl
                        refine done_ (done_of HT_.out (by kernel_rfl)) ?_
                        try go_wp2
                        go_ret
                        exact ⟨by first | rfl | (simp [errW_none, errW_some] <;> rfl) | (simp [*, errW_none, errW_some] <;> rfl), by repeat (first | (with_reducible first | exact HB.out | apply below_alloc | apply pw_below_drewN | apply below_drew1 | refine below_set ?_ GE125.out | refine below_set ?_ GE133.out) | exact HB.out)⟩
                      · rw [if_neg c33] at H
                        exact absurd H (by simp)
                    · rw [if_neg c32] at H
                      exact absurd H (by simp)
                  · replace c31 := Bool.eq_false_iff.mpr c31
                    subst c31
                    have H1 : (if x8_2 < 0 then (if 0 ≤ x33_2 then (if x33_2 < (l0.length : Int) then (if ((rd_T40 l0 x33_2).f0).toList = a1.toList then (trystlaw18_EventPeople.l0 kj20 l0 a1 t132 x33_2 (l0.length : Int) (wrap64 (x33_2 + 1)) t126 t127 t128 t129 t130 t131) else (trystlaw18_EventPeople.l0 kj20 l0 a1 t132 x8_2 (l0.length : Int) (wrap64 (x33_2 + 1)) t126 t127 t128 t129 t130 t131)) else (none)) else (none)) else (trystlaw18_EventPeople.l0 kj20 l0 a1 t132 x8_2 (l0.length : Int) (wrap64 (x33_2 + 1)) t126 t127 t128 t129 t130 t131)) = some r := by rw [if_neg (show ¬ (false = true) by decide)] at H; exact H
                    clear H
                    have H := H1
                    clear H1
                    by_cases c35 : x8_2 < 0
                    · rw [if_pos c35] at H
                      have c35b0 : decide (x8_2 < 0) = true := decide_eq_true c35
                      clear c35
                      by_cases c36 : 0 ≤ x33_2
                      · rw [if_pos c36] at H
                        have c36b0 : decide (0 ≤ x33_2) = true := decide_eq_true c36
                        clear c36
                        by_cases c37 : x33_2 < (l0.length : Int)
                        · rw [if_pos c37] at H
                          have c37b0 : decide (x33_2 < (l0.length : Int)) = true := decide_eq_true c37
                          clear c37
                          by_cases c38 : ((rd_T40 l0 x33_2).f0).toList = a1.toList
                          · rw [if_pos c38] at H
                            have c38b0 : (((rd_T40 l0 x33_2).f0).toList == a1.toList) = true := beq_iff_eq.mpr c38
                            have c38b1 : (((rd_T40 l0 x33_2).f0).toList != a1.toList) = false := bne_eq_false_iff_eq.mpr c38
                            clear c38
                            have H' := Aside0.mk H
                            clear H
                            have p144 : 0 ≤ (x33_2 : Int) := of_decide_eq_true (by first | (with_reducible assumption) | assumption)
                            have q144 : x33_2 < (l0.length : Int) := of_decide_eq_true (by first | (with_reducible assumption) | assumption)
                            obtain ⟨ad144, e144, hx144_0, hx144_1, hx144_2, hx144_3, hx144_4, hx144_5⟩ := at_T40 HR0.out x33_2 p144 q144
                            cases e144
                            replace hx144_0 := (HB.out.cell (World.block_lt_of_cell? w _ hx144_0)).trans hx144_0
                            replace hx144_1 := (HB.out.cell (World.block_lt_of_cell? w _ hx144_1)).trans hx144_1
                            replace hx144_2 := (HB.out.cell (World.block_lt_of_cell? w _ hx144_2)).trans hx144_2
                            replace hx144_3 := (HB.out.cell (World.block_lt_of_cell? w _ hx144_3)).trans hx144_3
                            replace hx144_4 := (HB.out.cell (World.block_lt_of_cell? w _ hx144_4)).trans hx144_4
                            replace hx144_5 := (HB.out.cell (World.block_lt_of_cell? w _ hx144_5)).trans hx144_5
                            replace p144 := eq_true p144
                            replace q144 := eq_true q144
                            go_wp2
                            go_roundg kj20
                            case measure => have := HJ2.out; have := HK2.out; have := HJ20.out; omega
                            case rel => exact ⟨(x33_2), (wrap64 (x33_2 + 1)), (by first | rfl | (simp; done) | (simp [*]; done)), (by first | rfl | (simp; done) | (simp [*]; done)), H', ⟨by have := HJ2.out; have := HK2.out; have := HJ20.out; omega⟩, ⟨by (with_reducible repeat (first | refine blk_drewN ?_ _ | refine blk_drew ?_ | refine blk_alloc ?_ _)); exact BK125.out⟩, ⟨by (with_reducible repeat (first | refine blk_drewN ?_ _ | refine blk_drew ?_ | refine blk_alloc ?_ _)); exact BK133.out⟩, ⟨by repeat (first | (with_reducible first | exact HB.out | apply below_alloc | apply pw_below_drewN | apply below_drew1 | refine below_set ?_ GE125.out | refine below_set ?_ GE133.out) | exact HB.out)⟩⟩
                          · rw [if_neg c38] at H
                            have c38b0 : (((rd_T40 l0 x33_2).f0).toList == a1.toList) = false := beq_eq_false_iff_ne.mpr c38
                            have c38b1 : (((rd_T40 l0 x33_2).f0).toList != a1.toList) = true := bne_iff_ne.mpr c38
                            have H' := Aside0.mk H
                            clear H
                            have p144 : 0 ≤ (x33_2 : Int) := of_decide_eq_true (by first | (with_reducible assumption) | assumption)
                            have q144 : x33_2 < (l0.length : Int) := of_decide_eq_true (by first | (with_reducible assumption) | assumption)
                            obtain ⟨ad144, e144, hx144_0, hx144_1, hx144_2, hx144_3, hx144_4, hx144_5⟩ := at_T40 HR0.out x33_2 p144 q144
                            cases e144
                            replace hx144_0 := (HB.out.cell (World.block_lt_of_cell? w _ hx144_0)).trans hx144_0
                            replace hx144_1 := (HB.out.cell (World.block_lt_of_cell? w _ hx144_1)).trans hx144_1
                            replace hx144_2 := (HB.out.cell (World.block_lt_of_cell? w _ hx144_2)).trans hx144_2
                            replace hx144_3 := (HB.out.cell (World.block_lt_of_cell? w _ hx144_3)).trans hx144_3
                            replace hx144_4 := (HB.out.cell (World.block_lt_of_cell? w _ hx144_4)).trans hx144_4
                            replace hx144_5 := (HB.out.cell (World.block_lt_of_cell? w _ hx144_5)).trans hx144_5
                            replace p144 := eq_true p144
                            replace q144 := eq_true q144
                            go_wp2
                            go_roundg kj20
                            case measure => have := HJ2.out; have := HK2.out; have := HJ20.out; omega
                            case rel => exact ⟨(x8_2), (wrap64 (x33_2 + 1)), (by first | rfl | (simp; done) | (simp [*]; done)), (by first | rfl | (simp; done) | (simp [*]; done)), H', ⟨by have := HJ2.out; have := HK2.out; have := HJ20.out; omega⟩, ⟨by (with_reducible repeat (first | refine blk_drewN ?_ _ | refine blk_drew ?_ | refine blk_alloc ?_ _)); exact BK125.out⟩, ⟨by (with_reducible repeat (first | refine blk_drewN ?_ _ | refine blk_drew ?_ | refine blk_alloc ?_ _)); exact BK133.out⟩, ⟨by repeat (first | (with_reducible first | exact HB.out | apply below_alloc | apply pw_below_drewN | apply below_drew1 | refine below_set ?_ GE125.out | refine below_set ?_ GE133.out) | exact HB.out)⟩⟩
                        · rw [if_neg c37] at H
                          exact absurd H (by simp)
                      · rw [if_neg c36] at H
                        exact absurd H (by simp)
                    · rw [if_neg c35] at H
                      have c35b0 : decide (x8_2 < 0) = false := decide_eq_false c35
                      clear c35
                      have H' := Aside0.mk H
                      clear H
                      go_wp2
                      go_roundg kj20
                      case measure => have := HJ2.out; have := HK2.out; have := HJ20.out; omega
                      case rel => exact ⟨(x8_2), (wrap64 (x33_2 + 1)), (by first | rfl | (simp; done) | (simp [*]; done)), (by first | rfl | (simp; done) | (simp [*]; done)), H', ⟨by have := HJ2.out; have := HK2.out; have := HJ20.out; omega⟩, ⟨by (with_reducible repeat (first | refine blk_drewN ?_ _ | refine blk_drew ?_ | refine blk_alloc ?_ _)); exact BK125.out⟩, ⟨by (with_reducible repeat (first | refine blk_drewN ?_ _ | refine blk_drew ?_ | refine blk_alloc ?_ _)); exact BK133.out⟩, ⟨by repeat (first | (with_reducible first | exact HB.out | apply below_alloc | apply pw_below_drewN | apply below_drew1 | refine below_set ?_ GE125.out | refine below_set ?_ GE133.out) | exact HB.out)⟩⟩
            · rw [if_neg c20] at H
              have c20b0 : decide (x33_2 < (l0.length : Int)) = false := decide_eq_false c20
              clear c20
              replace H := Option.bind_eq_some_iff.mp H
              obtain ⟨t145, A390, H⟩ := H
              replace H : ((trystlaw18_address.f k2 a1).bind fun t146 => (if (t145 != t146) = true then (some false) else (if x8_2 < 0 then (if t132 = true then (some false) else (some (t126.toList == ([] : List UInt8) && (t127 == 0 && (t128 == 0 && (!t129 && (t130.toList == ([] : List UInt8) && (t131.toList == ([] : List UInt8))))))))) else (if t132 = true then (if 0 ≤ x8_2 then (if x8_2 < (l0.length : Int) then (some (t126.toList == (((rd_T40 l0 x8_2).f0).toList) && (t127 == ((rd_T40 l0 x8_2).f1) && (t128 == ((rd_T40 l0 x8_2).f2) && (t129 == ((rd_T40 l0 x8_2).f3) && (t130.toList == (((rd_T40 l0 x8_2).f4).toList) && (t131.toList == (((rd_T40 l0 x8_2).f5).toList)))))))) else (none)) else (none)) else (some false))))) = some r := H
              have A39 := Aside0.mk A390
              clear A390
              replace H := Option.bind_eq_some_iff.mp H
              obtain ⟨t146, A400, H⟩ := H
              replace H : (if (t145 != t146) = true then (some false) else (if x8_2 < 0 then (if t132 = true then (some false) else (some (t126.toList == ([] : List UInt8) && (t127 == 0 && (t128 == 0 && (!t129 && (t130.toList == ([] : List UInt8) && (t131.toList == ([] : List UInt8))))))))) else (if t132 = true then (if 0 ≤ x8_2 then (if x8_2 < (l0.length : Int) then (some (t126.toList == (((rd_T40 l0 x8_2).f0).toList) && (t127 == ((rd_T40 l0 x8_2).f1) && (t128 == ((rd_T40 l0 x8_2).f2) && (t129 == ((rd_T40 l0 x8_2).f3) && (t130.toList == (((rd_T40 l0 x8_2).f4).toList) && (t131.toList == (((rd_T40 l0 x8_2).f5).toList)))))))) else (none)) else (none)) else (some false)))) = some r := H
              have A40 := Aside0.mk A400
              clear A400
              by_cases c41 : (t145 != t146) = true
              · rw [if_pos c41] at H
                have c41b0 : (t145 != t146) = true := c41
                (try (have c41b1 : decide (t145 = t146) = false := by simpa using c41))
                (try (have c41b2 : (t145 == t146) = false := by simpa using c41))
                (try (have c41b3 : ¬ (t145 = t146) := by simpa using c41))
                clear c41
                obtain rfl := Option.some.inj H
                go_wp2_with (first | ((with_reducible refine gate_callee (f := 14) rfl ?_); refine goesL_ (some 105) rfl rfl Try.func14 (by kernel_rfl) rfl #[.string a1] rfl (by (try simp only [List.map_toArray, List.map_cons, List.map_nil]); first | done | rfl | (simp only [List.length_drop, List.length_take]; rfl)) ?_; (with_reducible refine (event_Address.calls k2 a1 t145 _ A39.out).mono ?_); rintro e w42 ⟨rfl, hb⟩; refine ⟨_, rfl, ?_⟩; have n0_ := Aside0.mk (blk_below (g := gb125) (o := .cells (Evp.evp A0 l0.length c0) 36 (0, 0)) (by (with_reducible repeat (first | refine blk_drewN ?_ _ | refine blk_drew ?_ | refine blk_alloc ?_ _)); exact BK125.out) hb); have n1_ := Aside0.mk (blk_below (g := gb133) (o := .cells #[.string t126, .int .i64 t127, .int .i64 t128, .bool t129, .string t130, .string t131] 40 (0, 0)) (by (with_reducible repeat (first | refine blk_drewN ?_ _ | refine blk_drew ?_ | refine blk_alloc ?_ _)); exact BK133.out) hb); have n2_ := Aside0.mk (below_step (by repeat (first | (with_reducible first | exact HB.out | apply below_alloc | apply pw_below_drewN | apply below_drew1 | refine below_set ?_ GE125.out | refine below_set ?_ GE133.out) | exact HB.out)) hb); clear BK125; clear BK133; clear HB; have BK125 := n0_; have BK133 := n1_; have HB := n2_; clear n0_ n1_ n2_; (try clear hb); (try clear hb2); (try clear hk); (try clear hi)) | ((with_reducible refine gate_callee (f := 15) rfl ?_); refine goesL_ (some 107) rfl rfl Try.func15 (by kernel_rfl) rfl #[.string a1] rfl (by (try simp only [List.map_toArray, List.map_cons, List.map_nil]); first | done | rfl | (simp only [List.length_drop, List.length_take]; rfl)) ?_; (with_reducible refine (trystlaw18_address.calls k2 a1 t146 _ A40.out).mono ?_); rintro e w' ⟨rfl, ⟨nd, rfl⟩⟩; refine ⟨_, rfl, ?_⟩))
                go_ret
                exact ⟨by first | rfl | (simp [errW_none, errW_some] <;> rfl) | (simp [*, errW_none, errW_some] <;> rfl), by repeat (first | (with_reducible first | exact HB.out | apply below_alloc | apply pw_below_drewN | apply below_drew1 | refine below_set ?_ GE125.out | refine below_set ?_ GE133.out) | exact HB.out)⟩
              · rw [if_neg c41] at H
                have c41b0 : (t145 != t146) = false := by simpa using c41
                (try (have c41b1 : decide (t145 = t146) = true := by simpa using c41))
                (try (have c41b2 : (t145 == t146) = true := by simpa using c41))
                clear c41
                by_cases c43 : x8_2 < 0
                · rw [if_pos c43] at H
                  have c43b0 : decide (x8_2 < 0) = true := decide_eq_true c43
                  clear c43
                  by_cases c44 : t132 = true
                  · subst c44
                    have H1 : (some false) = some r := by rw [if_pos rfl] at H; exact H
                    clear H
                    have H := H1
                    clear H1
                    obtain rfl := Option.some.inj H
                    go_wp2_with (first | ((with_reducible refine gate_callee (f := 14) rfl ?_); refine goesL_ (some 105) rfl rfl Try.func14 (by kernel_rfl) rfl #[.string a1] rfl (by (try simp only [List.map_toArray, List.map_cons, List.map_nil]); first | done | rfl | (simp only [List.length_drop, List.length_take]; rfl)) ?_; (with_reducible refine (event_Address.calls k2 a1 t145 _ A39.out).mono ?_); rintro e w45 ⟨rfl, hb⟩; refine ⟨_, rfl, ?_⟩; have n0_ := Aside0.mk (blk_below (g := gb125) (o := .cells (Evp.evp A0 l0.length c0) 36 (0, 0)) (by (with_reducible repeat (first | refine blk_drewN ?_ _ | refine blk_drew ?_ | refine blk_alloc ?_ _)); exact BK125.out) hb); have n1_ := Aside0.mk (blk_below (g := gb133) (o := .cells #[.string t126, .int .i64 t127, .int .i64 t128, .bool t129, .string t130, .string t131] 40 (0, 0)) (by (with_reducible repeat (first | refine blk_drewN ?_ _ | refine blk_drew ?_ | refine blk_alloc ?_ _)); exact BK133.out) hb); have n2_ := Aside0.mk (below_step (by repeat (first | (with_reducible first | exact HB.out | apply below_alloc | apply pw_below_drewN | apply below_drew1 | refine below_set ?_ GE125.out | refine below_set ?_ GE133.out) | exact HB.out)) hb); clear BK125; clear BK133; clear HB; have BK125 := n0_; have BK133 := n1_; have HB := n2_; clear n0_ n1_ n2_; (try clear hb); (try clear hb2); (try clear hk); (try clear hi)) | ((with_reducible refine gate_callee (f := 15) rfl ?_); refine goesL_ (some 107) rfl rfl Try.func15 (by kernel_rfl) rfl #[.string a1] rfl (by (try simp only [List.map_toArray, List.map_cons, List.map_nil]); first | done | rfl | (simp only [List.length_drop, List.length_take]; rfl)) ?_; (with_reducible refine (trystlaw18_address.calls k2 a1 t146 _ A40.out).mono ?_); rintro e w' ⟨rfl, ⟨nd, rfl⟩⟩; refine ⟨_, rfl, ?_⟩))
                    go_ret
                    exact ⟨by first | rfl | (simp [errW_none, errW_some] <;> rfl) | (simp [*, errW_none, errW_some] <;> rfl), by repeat (first | (with_reducible first | exact HB.out | apply below_alloc | apply pw_below_drewN | apply below_drew1 | refine below_set ?_ GE125.out | refine below_set ?_ GE133.out) | exact HB.out)⟩
                  · replace c44 := Bool.eq_false_iff.mpr c44
                    subst c44
                    have H1 : (some (t126.toList == ([] : List UInt8) && (t127 == 0 && (t128 == 0 && (!t129 && (t130.toList == ([] : List UInt8) && (t131.toList == ([] : List UInt8)))))))) = some r := by rw [if_neg (show ¬ (false = true) by decide)] at H; exact H
                    clear H
                    have H := H1
                    clear H1
                    obtain rfl := Option.some.inj H
                    go_wp2_with (first | ((with_reducible refine gate_callee (f := 14) rfl ?_); refine goesL_ (some 105) rfl rfl Try.func14 (by kernel_rfl) rfl #[.string a1] rfl (by (try simp only [List.map_toArray, List.map_cons, List.map_nil]); first | done | rfl | (simp only [List.length_drop, List.length_take]; rfl)) ?_; (with_reducible refine (event_Address.calls k2 a1 t145 _ A39.out).mono ?_); rintro e w46 ⟨rfl, hb⟩; refine ⟨_, rfl, ?_⟩; have n0_ := Aside0.mk (blk_below (g := gb125) (o := .cells (Evp.evp A0 l0.length c0) 36 (0, 0)) (by (with_reducible repeat (first | refine blk_drewN ?_ _ | refine blk_drew ?_ | refine blk_alloc ?_ _)); exact BK125.out) hb); have n1_ := Aside0.mk (blk_below (g := gb133) (o := .cells #[.string t126, .int .i64 t127, .int .i64 t128, .bool t129, .string t130, .string t131] 40 (0, 0)) (by (with_reducible repeat (first | refine blk_drewN ?_ _ | refine blk_drew ?_ | refine blk_alloc ?_ _)); exact BK133.out) hb); have n2_ := Aside0.mk (below_step (by repeat (first | (with_reducible first | exact HB.out | apply below_alloc | apply pw_below_drewN | apply below_drew1 | refine below_set ?_ GE125.out | refine below_set ?_ GE133.out) | exact HB.out)) hb); clear BK125; clear BK133; clear HB; have BK125 := n0_; have BK133 := n1_; have HB := n2_; clear n0_ n1_ n2_; (try clear hb); (try clear hb2); (try clear hk); (try clear hi)) | ((with_reducible refine gate_callee (f := 15) rfl ?_); refine goesL_ (some 107) rfl rfl Try.func15 (by kernel_rfl) rfl #[.string a1] rfl (by (try simp only [List.map_toArray, List.map_cons, List.map_nil]); first | done | rfl | (simp only [List.length_drop, List.length_take]; rfl)) ?_; (with_reducible refine (trystlaw18_address.calls k2 a1 t146 _ A40.out).mono ?_); rintro e w' ⟨rfl, ⟨nd, rfl⟩⟩; refine ⟨_, rfl, ?_⟩; have hnb47 := NB133_125.out; have hnc47 := NB125_133.out; have hcz48_0 : w46.cell? ⟨gb133, 0, none⟩ = some (.string t126) := (blk_cell BK133.out 0).trans rfl; have hcz48_1 : w46.cell? ⟨gb133, 1, none⟩ = some (.int .i64 t127) := (blk_cell BK133.out 1).trans rfl; have hcz48_2 : w46.cell? ⟨gb133, 2, none⟩ = some (.int .i64 t128) := (blk_cell BK133.out 2).trans rfl; have hcz48_3 : w46.cell? ⟨gb133, 3, none⟩ = some (.bool t129) := (blk_cell BK133.out 3).trans rfl; have hcz48_4 : w46.cell? ⟨gb133, 4, none⟩ = some (.string t130) := (blk_cell BK133.out 4).trans rfl; have hcz48_5 : w46.cell? ⟨gb133, 5, none⟩ = some (.string t131) := (blk_cell BK133.out 5).trans rfl; have hfz48_0 := blk_frozen BK133.out 0; have hfz48_1 := blk_frozen BK133.out 1; have hfz48_2 := blk_frozen BK133.out 2; have hfz48_3 := blk_frozen BK133.out 3; have hfz48_4 := blk_frozen BK133.out 4; have hfz48_5 := blk_frozen BK133.out 5))
                    go_ret
                    exact ⟨by first | rfl | (simp [errW_none, errW_some] <;> rfl) | (simp [*, errW_none, errW_some] <;> rfl), by repeat (first | (with_reducible first | exact HB.out | apply below_alloc | apply pw_below_drewN | apply below_drew1 | refine below_set ?_ GE125.out | refine below_set ?_ GE133.out) | exact HB.out)⟩
                · rw [if_neg c43] at H
                  have c43b0 : decide (x8_2 < 0) = false := decide_eq_false c43
                  clear c43
                  by_cases c49 : t132 = true
                  · subst c49
                    have H1 : (if 0 ≤ x8_2 then (if x8_2 < (l0.length : Int) then (some (t126.toList == (((rd_T40 l0 x8_2).f0).toList) && (t127 == ((rd_T40 l0 x8_2).f1) && (t128 == ((rd_T40 l0 x8_2).f2) && (t129 == ((rd_T40 l0 x8_2).f3) && (t130.toList == (((rd_T40 l0 x8_2).f4).toList) && (t131.toList == (((rd_T40 l0 x8_2).f5).toList)))))))) else (none)) else (none)) = some r := by rw [if_pos rfl] at H; exact H
                    clear H
                    have H := H1
                    clear H1
                    by_cases c50 : 0 ≤ x8_2
                    · rw [if_pos c50] at H
                      have c50b0 : decide (0 ≤ x8_2) = true := decide_eq_true c50
                      clear c50
                      by_cases c51 : x8_2 < (l0.length : Int)
                      · rw [if_pos c51] at H
                        have c51b0 : decide (x8_2 < (l0.length : Int)) = true := decide_eq_true c51
                        clear c51
                        obtain rfl := Option.some.inj H
                        try go_wp2_with (first | ((with_reducible refine gate_callee (f := 14) rfl ?_); refine goesL_ (some 105) rfl rfl Try.func14 (by kernel_rfl) rfl #[.string a1] rfl (by (try simp only [List.map_toArray, List.map_cons, List.map_nil]); first | done | rfl | (simp only [List.length_drop, List.length_take]; rfl)) ?_; (with_reducible refine (event_Address.calls k2 a1 t145 _ A39.out).mono ?_); rintro e w52 ⟨rfl, hb⟩; refine ⟨_, rfl, ?_⟩; have n0_ := Aside0.mk (blk_below (g := gb125) (o := .cells (Evp.evp A0 l0.length c0) 36 (0, 0)) (by (with_reducible repeat (first | refine blk_drewN ?_ _ | refine blk_drew ?_ | refine blk_alloc ?_ _)); exact BK125.out) hb); have n1_ := Aside0.mk (blk_below (g := gb133) (o := .cells #[.string t126, .int .i64 t127, .int .i64 t128, .bool t129, .string t130, .string t131] 40 (0, 0)) (by (with_reducible repeat (first | refine blk_drewN ?_ _ | refine blk_drew ?_ | refine blk_alloc ?_ _)); exact BK133.out) hb); have n2_ := Aside0.mk (below_step (by repeat (first | (with_reducible first | exact HB.out | apply below_alloc | apply pw_below_drewN | apply below_drew1 | refine below_set ?_ GE125.out | refine below_set ?_ GE133.out) | exact HB.out)) hb); clear BK125; clear BK133; clear HB; have BK125 := n0_; have BK133 := n1_; have HB := n2_; clear n0_ n1_ n2_; (try clear hb); (try clear hb2); (try clear hk); (try clear hi)) | ((with_reducible refine gate_callee (f := 15) rfl ?_); refine goesL_ (some 107) rfl rfl Try.func15 (by kernel_rfl) rfl #[.string a1] rfl (by (try simp only [List.map_toArray, List.map_cons, List.map_nil]); first | done | rfl | (simp only [List.length_drop, List.length_take]; rfl)) ?_; (with_reducible refine (trystlaw18_address.calls k2 a1 t146 _ A40.out).mono ?_); rintro e w' ⟨rfl, ⟨nd, rfl⟩⟩; refine ⟨_, rfl, ?_⟩))
                        (try (rw [drewN_self w52]; generalize hq_ : World.drewN w52 _ = w52; have n0_ : Aside0 (w52.heap[gb125]? = some (.cells (Evp.evp A0 l0.length c0) 36 (0, 0))) := ⟨by rw [← hq_]; exact (by (with_reducible repeat (first | refine blk_drewN ?_ _ | refine blk_drew ?_ | refine blk_alloc ?_ _)); exact BK125.out)⟩; have n1_ : Aside0 (w52.heap[gb133]? = some (.cells #[.string t126, .int .i64 t127, .int .i64 t128, .bool t129, .string t130, .string t131] 40 (0, 0))) := ⟨by rw [← hq_]; exact (by (with_reducible repeat (first | refine blk_drewN ?_ _ | refine blk_drew ?_ | refine blk_alloc ?_ _)); exact BK133.out)⟩; have n2_ : Aside0 (Below w.heap.size w w52) := ⟨by rw [← hq_]; exact (by repeat (first | (with_reducible first | exact HB.out | apply below_alloc | apply pw_below_drewN | apply below_drew1 | refine below_set ?_ GE125.out | refine below_set ?_ GE133.out) | exact HB.out))⟩; clear BK125 BK133 HB hq_; have BK125 := n0_; have BK133 := n1_; have HB := n2_; clear n0_ n1_ n2_))
                        (try (have hcz54_0 : w52.cell? ⟨gb133, 0, none⟩ = some (.string t126) := (blk_cell BK133.out 0).trans rfl; have hcz54_1 : w52.cell? ⟨gb133, 1, none⟩ = some (.int .i64 t127) := (blk_cell BK133.out 1).trans rfl; have hcz54_2 : w52.cell? ⟨gb133, 2, none⟩ = some (.int .i64 t128) := (blk_cell BK133.out 2).trans rfl; have hcz54_3 : w52.cell? ⟨gb133, 3, none⟩ = some (.bool t129) := (blk_cell BK133.out 3).trans rfl; have hcz54_4 : w52.cell? ⟨gb133, 4, none⟩ = some (.string t130) := (blk_cell BK133.out 4).trans rfl; have hcz54_5 : w52.cell? ⟨gb133, 5, none⟩ = some (.string t131) := (blk_cell BK133.out 5).trans rfl; have hfz54_0 := blk_frozen BK133.out 0; have hfz54_1 := blk_frozen BK133.out 1; have hfz54_2 := blk_frozen BK133.out 2; have hfz54_3 := blk_frozen BK133.out 3; have hfz54_4 := blk_frozen BK133.out 4; have hfz54_5 := blk_frozen BK133.out 5))
                        have n0_ := Aside0.mk (blk_drew BK125.out)
                        have n1_ := Aside0.mk (blk_drew BK133.out)
                        have n2_ := Aside0.mk (below_drew1 HB.out)
                        clear BK125
                        clear BK133
                        clear HB
                        have BK125 := n0_
                        have BK133 := n1_
                        have HB := n2_
                        clear n0_ n1_ n2_
                        have p147 : 0 ≤ (x8_2 : Int) := of_decide_eq_true (by first | (with_reducible assumption) | assumption)
                        have q147 : x8_2 < (l0.length : Int) := of_decide_eq_true (by first | (with_reducible assumption) | assumption)
                        obtain ⟨ad147, e147, hx147_0, hx147_1, hx147_2, hx147_3, hx147_4, hx147_5⟩ := at_T40 HR0.out x8_2 p147 q147
                        have hw147_5 := hx147_5
                        have hw147_4 := hx147_4
                        have hw147_3 := hx147_3
                        have hw147_2 := hx147_2
                        have hw147_1 := hx147_1
                        have hw147_0 := hx147_0
                        cases e147
                        replace hx147_0 := (HB.out.cell (World.block_lt_of_cell? w _ hx147_0)).trans hx147_0
                        replace hx147_1 := (HB.out.cell (World.block_lt_of_cell? w _ hx147_1)).trans hx147_1
                        replace hx147_2 := (HB.out.cell (World.block_lt_of_cell? w _ hx147_2)).trans hx147_2
                        replace hx147_3 := (HB.out.cell (World.block_lt_of_cell? w _ hx147_3)).trans hx147_3
                        replace hx147_4 := (HB.out.cell (World.block_lt_of_cell? w _ hx147_4)).trans hx147_4
                        replace hx147_5 := (HB.out.cell (World.block_lt_of_cell? w _ hx147_5)).trans hx147_5
                        replace p147 := eq_true p147
                        replace q147 := eq_true q147
                        refine start_ (n := 10) (S := fun w' => w'.cell? ⟨gb133, 0, none⟩ = some (.string t126) ∧ w'.cell? ⟨gb133, 1, none⟩ = some (.int .i64 t127) ∧ w'.cell? ⟨gb133, 2, none⟩ = some (.int .i64 t128) ∧ w'.cell? ⟨gb133, 3, none⟩ = some (.bool t129) ∧ w'.cell? ⟨gb133, 4, none⟩ = some (.string t130) ∧ w'.cell? ⟨gb133, 5, none⟩ = some (.string t131) ∧ w'.cell? (ad147.add ((x8_2).toNat * 6)) = some (.string ((rd_T40 l0 x8_2).f0)) ∧ w'.cell? ⟨(ad147.add ((x8_2).toNat * 6)).block, (ad147.add ((x8_2).toNat * 6)).off + 1, none⟩ = some (.int .i64 ((rd_T40 l0 x8_2).f1)) ∧ w'.cell? ⟨(ad147.add ((x8_2).toNat * 6)).block, (ad147.add ((x8_2).toNat * 6)).off + 2, none⟩ = some (.int .i64 ((rd_T40 l0 x8_2).f2)) ∧ w'.cell? ⟨(ad147.add ((x8_2).toNat * 6)).block, (ad147.add ((x8_2).toNat * 6)).off + 3, none⟩ = some (.bool ((rd_T40 l0 x8_2).f3)) ∧ w'.cell? ⟨(ad147.add ((x8_2).toNat * 6)).block, (ad147.add ((x8_2).toNat * 6)).off + 4, none⟩ = some (.string ((rd_T40 l0 x8_2).f4)) ∧ w'.cell? ⟨(ad147.add ((x8_2).toNat * 6)).block, (ad147.add ((x8_2).toNat * 6)).off + 5, none⟩ = some (.string ((rd_T40 l0 x8_2).f5))) (ds := []) #[false, false, false, false, false, false, false, false, false, false] (by kernel_rfl) rfl rfl ⟨(blk_cell BK133.out 0).trans rfl, (blk_cell BK133.out 1).trans rfl, (blk_cell BK133.out 2).trans rfl, (blk_cell BK133.out 3).trans rfl, (blk_cell BK133.out 4).trans rfl, (blk_cell BK133.out 5).trans rfl, ((HB.out.cell (World.block_lt_of_cell? w _ hw147_0)).trans hw147_0), ((HB.out.cell (World.block_lt_of_cell? w _ hw147_1)).trans hw147_1), ((HB.out.cell (World.block_lt_of_cell? w _ hw147_2)).trans hw147_2), ((HB.out.cell (World.block_lt_of_cell? w _ hw147_3)).trans hw147_3), ((HB.out.cell (World.block_lt_of_cell? w _ hw147_4)).trans hw147_4), ((HB.out.cell (World.block_lt_of_cell? w _ hw147_5)).trans hw147_5)⟩ (fun hHeld => ?_); refine with_tabW trystlaw18_EventPeople.tab18 trystlaw18_EventPeople.bits18 (fun HT_ HW_ => ?_)
                        generalize w52.drew = w55 at BK125 BK133 HB hx147_0 hx147_1 hx147_2 hx147_3 hx147_4 hx147_5 hHeld ⊢
                        refine pure_ (i := 0) (N := some 118) (v := ?_) (a' := ?_) #[true, false, false, false, false, false, false, false, false, false] rfl rfl (any_of HT_.out (by kernel_rfl)) (fun _ _ _ h => h) (Or.inl ⟨by rfl, ?_⟩) ?_ ?_
                        rotate_left
                        · intro w'
                          go_simp
                          with_reducible rfl
                        rotate_left
                        · simp only [Act.put, List.setIfInBounds_toArray, List.set_cons_zero, List.set_cons_succ, i64_w, i32_w]
                          rfl
                        refine pure_ (i := 1) (N := some 119) (v := ?_) (a' := ?_) #[true, true, false, false, false, false, false, false, false, false] rfl rfl (any_of HT_.out (by kernel_rfl)) (fun _ _ _ h => h) (Or.inl ⟨by rfl, ?_⟩) ?_ ?_
                        rotate_left
                        · intro w'
                          go_simp
                          with_reducible rfl
                        rotate_left
                        · simp only [Act.put, List.setIfInBounds_toArray, List.set_cons_zero, List.set_cons_succ, i64_w, i32_w]
                          rfl
                        refine pure_ (i := 3) (N := some 121) (v := ?_) (a' := ?_) #[true, true, false, true, false, false, false, false, false, false] rfl rfl (any_of HT_.out (by kernel_rfl)) (fun _ _ _ h => h) (Or.inl ⟨by rfl, ?_⟩) ?_ ?_
                        rotate_left
                        · intro w'
                          go_simp
                          with_reducible rfl
                        rotate_left
                        · simp only [Act.put, List.setIfInBounds_toArray, List.set_cons_zero, List.set_cons_succ, i64_w, i32_w]
                          rfl
                        refine pure_ (i := 4) (N := some 122) (v := ?_) (a' := ?_) #[true, true, false, true, true, false, false, false, false, false] rfl rfl (any_of HT_.out (by kernel_rfl)) (fun _ _ _ h => h) (Or.inl ⟨by rfl, ?_⟩) ?_ ?_
                        rotate_left
                        · intro w'
                          go_simp
                          with_reducible rfl
                        rotate_left
                        · simp only [Act.put, List.setIfInBounds_toArray, List.set_cons_zero, List.set_cons_succ, i64_w, i32_w]
                          rfl
                        refine pure_ (i := 5) (N := some 123) (v := ?_) (a' := ?_) #[true, true, false, true, true, true, false, false, false, false] rfl rfl (any_of HT_.out (by kernel_rfl)) (fun _ _ _ h => h) (Or.inl ⟨by rfl, ?_⟩) ?_ ?_
                        rotate_left
                        · intro w'
                          go_simp
                          with_reducible rfl
                        rotate_left
                        · simp only [Act.put, List.setIfInBounds_toArray, List.set_cons_zero, List.set_cons_succ, i64_w, i32_w]
                          rfl
                        refine take_ (i := 2) (N := some 120) (v := ?_) (a' := ?_) #[true, true, true, true, true, true, false, false, false, false] rfl rfl (take_ofW HT_.out HW_.out (by kernel_rfl)) (fun _ _ _ h => h) (Or.inl ⟨by rfl, ?_⟩) hHeld ?_ ?_
                        rotate_left
                        · rintro w' ⟨s0, s1, s2, s3, s4, s5, s6, s7, s8, s9, s10, s11⟩
                          go_simp
                          with_reducible rfl
                        rotate_left
                        · simp only [Act.put, List.setIfInBounds_toArray, List.set_cons_zero, List.set_cons_succ, i64_w, i32_w]
                          rfl
                        refine take_ (i := 6) (N := some 124) (v := ?_) (a' := ?_) #[true, true, true, true, true, true, true, false, false, false] rfl rfl (take_ofW HT_.out HW_.out (by kernel_rfl)) (fun _ _ _ h => h) (Or.inl ⟨by rfl, ?_⟩) hHeld ?_ ?_
                        rotate_left
                        · rintro w' ⟨s0, s1, s2, s3, s4, s5, s6, s7, s8, s9, s10, s11⟩
                          go_simp
                          with_reducible rfl
                        rotate_left
                        · simp only [Act.put, List.setIfInBounds_toArray, List.set_cons_zero, List.set_cons_succ, i64_w, i32_w]
                          rfl
                        refine pure_ (i := 7) (N := some 125) (v := ?_) (a' := ?_) #[true, true, true, true, true, true, true, true, false, false] rfl rfl (any_of HT_.out (by kernel_rfl)) (fun _ _ _ h => h) (Or.inl ⟨by rfl, ?_⟩) ?_ ?_
                        rotate_left
                        · intro w'
                          go_simp
                          with_reducible rfl
                        rotate_left
                        · simp only [Act.put, List.setIfInBounds_toArray, List.set_cons_zero, List.set_cons_succ, i64_w, i32_w]
                          rfl
                        refine pure_ (i := 8) (N := some 126) (v := ?_) (a' := ?_) #[true, true, true, true, true, true, true, true, true, false] rfl rfl (any_of HT_.out (by kernel_rfl)) (fun _ _ _ h => h) (Or.inl ⟨by rfl, ?_⟩) ?_ ?_
                        rotate_left
                        · intro w'
                          go_simp
                          with_reducible rfl
                        rotate_left
                        · simp only [Act.put, List.setIfInBounds_toArray, List.set_cons_zero, List.set_cons_succ, i64_w, i32_w]
                          rfl
                        refine pure_ (i := 9) (N := some 4) (v := ?_) (a' := ?_) #[true, true, true, true, true, true, true, true, true, true] rfl rfl (any_of HT_.out (by kernel_rfl)) (fun _ _ _ h => h) (Or.inl ⟨by rfl, ?_⟩) ?_ ?_
                        rotate_left
                        · intro w'
                          go_simp
                          with_reducible rfl
                        rotate_left
                        · simp only [Act.put, List.setIfInBounds_toArray, List.set_cons_zero, List.set_cons_succ, i64_w, i32_w]
                          rfl
                        refine done_ (done_of HT_.out (by kernel_rfl)) ?_
                        try go_wp2
                        go_ret
                        exact ⟨by first | rfl | (simp [errW_none, errW_some] <;> rfl) | (simp [*, errW_none, errW_some] <;> rfl), by repeat (first | (with_reducible first | exact HB.out | apply below_alloc | apply pw_below_drewN | apply below_drew1 | refine below_set ?_ GE125.out | refine below_set ?_ GE133.out) | exact HB.out)⟩
                      · rw [if_neg c51] at H
                        exact absurd H (by simp)
                    · rw [if_neg c50] at H
                      exact absurd H (by simp)
                  · replace c49 := Bool.eq_false_iff.mpr c49
                    subst c49
                    have H1 : (some false) = some r := by rw [if_neg (show ¬ (false = true) by decide)] at H; exact H
                    clear H
                    have H := H1
                    clear H1
                    obtain rfl := Option.some.inj H
                    try go_wp2_with (first | ((with_reducible refine gate_callee (f := 14) rfl ?_); refine goesL_ (some 105) rfl rfl Try.func14 (by kernel_rfl) rfl #[.string a1] rfl (by (try simp only [List.map_toArray, List.map_cons, List.map_nil]); first | done | rfl | (simp only [List.length_drop, List.length_take]; rfl)) ?_; (with_reducible refine (event_Address.calls k2 a1 t145 _ A39.out).mono ?_); rintro e w56 ⟨rfl, hb⟩; refine ⟨_, rfl, ?_⟩; have n0_ := Aside0.mk (blk_below (g := gb125) (o := .cells (Evp.evp A0 l0.length c0) 36 (0, 0)) (by (with_reducible repeat (first | refine blk_drewN ?_ _ | refine blk_drew ?_ | refine blk_alloc ?_ _)); exact BK125.out) hb); have n1_ := Aside0.mk (blk_below (g := gb133) (o := .cells #[.string t126, .int .i64 t127, .int .i64 t128, .bool t129, .string t130, .string t131] 40 (0, 0)) (by (with_reducible repeat (first | refine blk_drewN ?_ _ | refine blk_drew ?_ | refine blk_alloc ?_ _)); exact BK133.out) hb); have n2_ := Aside0.mk (below_step (by repeat (first | (with_reducible first | exact HB.out | apply below_alloc | apply pw_below_drewN | apply below_drew1 | refine below_set ?_ GE125.out | refine below_set ?_ GE133.out) | exact HB.out)) hb); clear BK125; clear BK133; clear HB; have BK125 := n0_; have BK133 := n1_; have HB := n2_; clear n0_ n1_ n2_; (try clear hb); (try clear hb2); (try clear hk); (try clear hi)) | ((with_reducible refine gate_callee (f := 15) rfl ?_); refine goesL_ (some 107) rfl rfl Try.func15 (by kernel_rfl) rfl #[.string a1] rfl (by (try simp only [List.map_toArray, List.map_cons, List.map_nil]); first | done | rfl | (simp only [List.length_drop, List.length_take]; rfl)) ?_; (with_reducible refine (trystlaw18_address.calls k2 a1 t146 _ A40.out).mono ?_); rintro e w' ⟨rfl, ⟨nd, rfl⟩⟩; refine ⟨_, rfl, ?_⟩))
                    (try (rw [drewN_self w56]; generalize hq_ : World.drewN w56 _ = w56; have n0_ : Aside0 (w56.heap[gb125]? = some (.cells (Evp.evp A0 l0.length c0) 36 (0, 0))) := ⟨by rw [← hq_]; exact (by (with_reducible repeat (first | refine blk_drewN ?_ _ | refine blk_drew ?_ | refine blk_alloc ?_ _)); exact BK125.out)⟩; have n1_ : Aside0 (w56.heap[gb133]? = some (.cells #[.string t126, .int .i64 t127, .int .i64 t128, .bool t129, .string t130, .string t131] 40 (0, 0))) := ⟨by rw [← hq_]; exact (by (with_reducible repeat (first | refine blk_drewN ?_ _ | refine blk_drew ?_ | refine blk_alloc ?_ _)); exact BK133.out)⟩; have n2_ : Aside0 (Below w.heap.size w w56) := ⟨by rw [← hq_]; exact (by repeat (first | (with_reducible first | exact HB.out | apply below_alloc | apply pw_below_drewN | apply below_drew1 | refine below_set ?_ GE125.out | refine below_set ?_ GE133.out) | exact HB.out))⟩; clear BK125 BK133 HB hq_; have BK125 := n0_; have BK133 := n1_; have HB := n2_; clear n0_ n1_ n2_))
                    (try (have hcz58_0 : w56.cell? ⟨gb133, 0, none⟩ = some (.string t126) := (blk_cell BK133.out 0).trans rfl; have hcz58_1 : w56.cell? ⟨gb133, 1, none⟩ = some (.int .i64 t127) := (blk_cell BK133.out 1).trans rfl; have hcz58_2 : w56.cell? ⟨gb133, 2, none⟩ = some (.int .i64 t128) := (blk_cell BK133.out 2).trans rfl; have hcz58_3 : w56.cell? ⟨gb133, 3, none⟩ = some (.bool t129) := (blk_cell BK133.out 3).trans rfl; have hcz58_4 : w56.cell? ⟨gb133, 4, none⟩ = some (.string t130) := (blk_cell BK133.out 4).trans rfl; have hcz58_5 : w56.cell? ⟨gb133, 5, none⟩ = some (.string t131) := (blk_cell BK133.out 5).trans rfl; have hfz58_0 := blk_frozen BK133.out 0; have hfz58_1 := blk_frozen BK133.out 1; have hfz58_2 := blk_frozen BK133.out 2; have hfz58_3 := blk_frozen BK133.out 3; have hfz58_4 := blk_frozen BK133.out 4; have hfz58_5 := blk_frozen BK133.out 5))
                    have n0_ := Aside0.mk (blk_drew BK125.out)
                    have n1_ := Aside0.mk (blk_drew BK133.out)
                    have n2_ := Aside0.mk (below_drew1 HB.out)
                    clear BK125
                    clear BK133
                    clear HB
                    have BK125 := n0_
                    have BK133 := n1_
                    have HB := n2_
                    clear n0_ n1_ n2_
                    refine start_ (n := 10) (S := fun w' => True) (ds := []) #[false, false, false, false, false, false, false, false, false, false] (by kernel_rfl) rfl rfl trivial (fun hHeld => ?_); refine with_tabW trystlaw18_EventPeople.tab18 trystlaw18_EventPeople.bits18 (fun HT_ HW_ => ?_)
                    generalize w56.drew = w59 at BK125 BK133 HB hHeld ⊢
                    refine pure_ (i := 0) (N := some 118) (v := ?_) (a' := ?_) #[true, false, false, false, false, false, false, false, false, false] rfl rfl (any_of HT_.out (by kernel_rfl)) (fun _ _ _ h => h) (Or.inl ⟨by rfl, ?_⟩) ?_ ?_
                    rotate_left
                    · intro w'
                      go_simp
                      with_reducible rfl
                    rotate_left
                    · simp only [Act.put, List.setIfInBounds_toArray, List.set_cons_zero, List.set_cons_succ, i64_w, i32_w]
                      rfl
                    refine pure_ (i := 1) (N := some 119) (v := ?_) (a' := ?_) #[true, true, false, false, false, false, false, false, false, false] rfl rfl (any_of HT_.out (by kernel_rfl)) (fun _ _ _ h => h) (Or.inl ⟨by rfl, ?_⟩) ?_ ?_
                    rotate_left
                    · intro w'
                      go_simp
                      with_reducible rfl
                    rotate_left
                    · simp only [Act.put, List.setIfInBounds_toArray, List.set_cons_zero, List.set_cons_succ, i64_w, i32_w]
                      rfl
                    refine pure_ (i := 2) (N := some 120) (v := undef) (a' := ?_) #[true, true, true, false, false, false, false, false, false, false] rfl rfl (any_of HT_.out (by kernel_rfl)) (fun _ _ _ h => h) (Or.inr ⟨by rfl, rfl⟩) ?_ ?_
                    rotate_left
                    · simp only [Act.put, List.setIfInBounds_toArray, List.set_cons_zero, List.set_cons_succ, i64_w, i32_w]
                      rfl
                    refine pure_ (i := 3) (N := some 121) (v := undef) (a' := ?_) #[true, true, true, true, false, false, false, false, false, false] rfl rfl (any_of HT_.out (by kernel_rfl)) (fun _ _ _ h => h) (Or.inr ⟨by rfl, rfl⟩) ?_ ?_
                    rotate_left
                    · simp only [Act.put, List.setIfInBounds_toArray, List.set_cons_zero, List.set_cons_succ, i64_w, i32_w]
                      rfl
                    refine pure_ (i := 4) (N := some 122) (v := undef) (a' := ?_) #[true, true, true, true, true, false, false, false, false, false] rfl rfl (any_of HT_.out (by kernel_rfl)) (fun _ _ _ h => h) (Or.inr ⟨by rfl, rfl⟩) ?_ ?_
                    rotate_left
                    · simp only [Act.put, List.setIfInBounds_toArray, List.set_cons_zero, List.set_cons_succ, i64_w, i32_w]
                      rfl
                    refine pure_ (i := 5) (N := some 123) (v := undef) (a' := ?_) #[true, true, true, true, true, true, false, false, false, false] rfl rfl (any_of HT_.out (by kernel_rfl)) (fun _ _ _ h => h) (Or.inr ⟨by rfl, rfl⟩) ?_ ?_
                    rotate_left
                    · simp only [Act.put, List.setIfInBounds_toArray, List.set_cons_zero, List.set_cons_succ, i64_w, i32_w]
                      rfl
                    refine pure_ (i := 6) (N := some 124) (v := undef) (a' := ?_) #[true, true, true, true, true, true, true, false, false, false] rfl rfl (any_of HT_.out (by kernel_rfl)) (fun _ _ _ h => h) (Or.inr ⟨by rfl, rfl⟩) ?_ ?_
                    rotate_left
                    · simp only [Act.put, List.setIfInBounds_toArray, List.set_cons_zero, List.set_cons_succ, i64_w, i32_w]
                      rfl
                    refine pure_ (i := 7) (N := some 125) (v := undef) (a' := ?_) #[true, true, true, true, true, true, true, true, false, false] rfl rfl (any_of HT_.out (by kernel_rfl)) (fun _ _ _ h => h) (Or.inr ⟨by rfl, rfl⟩) ?_ ?_
                    rotate_left
                    · simp only [Act.put, List.setIfInBounds_toArray, List.set_cons_zero, List.set_cons_succ, i64_w, i32_w]
                      rfl
                    refine pure_ (i := 8) (N := some 126) (v := ?_) (a' := ?_) #[true, true, true, true, true, true, true, true, true, false] rfl rfl (any_of HT_.out (by kernel_rfl)) (fun _ _ _ h => h) (Or.inl ⟨by rfl, ?_⟩) ?_ ?_
                    rotate_left
                    · intro w'
                      go_simp
                      with_reducible rfl
                    rotate_left
                    · simp only [Act.put, List.setIfInBounds_toArray, List.set_cons_zero, List.set_cons_succ, i64_w, i32_w]
                      rfl
                    refine pure_ (i := 9) (N := some 4) (v := ?_) (a' := ?_) #[true, true, true, true, true, true, true, true, true, true] rfl rfl (any_of HT_.out (by kernel_rfl)) (fun _ _ _ h => h) (Or.inl ⟨by rfl, ?_⟩) ?_ ?_
                    rotate_left
                    · intro w'
                      go_simp
                      with_reducible rfl
                    rotate_left
                    · simp only [Act.put, List.setIfInBounds_toArray, List.set_cons_zero, List.set_cons_succ, i64_w, i32_w]
                      rfl
                    refine done_ (done_of HT_.out (by kernel_rfl)) ?_
                    try go_wp2
                    go_ret
                    exact ⟨by first | rfl | (simp [errW_none, errW_some] <;> rfl) | (simp [*, errW_none, errW_some] <;> rfl), by repeat (first | (with_reducible first | exact HB.out | apply below_alloc | apply pw_below_drewN | apply below_drew1 | refine below_set ?_ GE125.out | refine below_set ?_ GE133.out) | exact HB.out)⟩

-- NOT PRINTED: function 68 (trystref12_Lists)

-- NOT PRINTED: function 49 (trystlaw13_Few)

end Go.Proofs.Ytddoidcbpcmlaaa.Q
