/- Texts of this claim, merged: RecM, RefL, ShelfIdx. -/
import Derived.Test.YtfdcldjoncednaaMgExpandCounts6
import Derived.Deep.LoopGhost
import Derived.Test.YtfdcldjoncednaaWWords
import Derived.Test.YtfdcldjoncednaaWLast
import Derived.Test.YtfdcldjoncednaaMgExpandCounts1
import Derived.Shelf.Small.Strs
import Derived.Shelf.Small.Wraps
import Derived.Shelf.Strings.Search1
import Derived.Shelf.Slices.Turned
import Derived.Ground.Names2Prog
import Derived.Shelf.Slices.SearchI
import Derived.Test.YtfdcldjoncednaaProg
/- (list).may and (list).formed: which numbers may stand in a list, and in which order. -/
namespace Go.Proofs.Ytfdcldjoncednaa.RecM
open Go.RowKit Go.Proofs.YtfdcldjoncednaaW.PrintWords Go.Proofs.YtfdcldjoncednaaW.PrintLast
set_option linter.unusedVariables false
set_option linter.unusedSimpArgs false
/-- May a number be in a list? -/
def mayF (lo hi : Int) (z : Bool) (n : Int) : Bool := decide (lo ≤ n) && decide (n ≤ hi) && (decide (n ≠ 0) || !z)
/-- Is a list as it should be, as far as so many? -/
def upto (lo hi : Int) (z : Bool) (l : List Int) (i : Nat) : Prop := ∀ j, j < i → mayF lo hi z (rd l (j : Int)) = true ∧ (0 < j → rd l ((j - 1 : Nat) : Int) < rd l (j : Int))
def formedF (lo hi : Int) (z : Bool) (l : List Int) : Bool := decide (l.length ≤ 40) && (List.range l.length).all fun j => mayF lo hi z (rd l (j : Int)) && (decide (j = 0) || decide (rd l ((j - 1 : Nat) : Int) < rd l (j : Int)))
theorem formedF_iff (lo hi : Int) (z : Bool) (l : List Int) : formedF lo hi z l = true ↔ l.length ≤ 40 ∧ upto lo hi z l l.length := by
 unfold formedF upto
 simp only [Bool.and_eq_true, decide_eq_true_eq, List.all_eq_true, List.mem_range, Bool.or_eq_true]
 constructor
 ·rintro ⟨h1, h2⟩
  exact ⟨h1, fun j hj => ⟨(h2 j hj).1, fun q => by rcases (h2 j hj).2 with e | e; omega; exact e⟩⟩
 ·rintro ⟨h1, h2⟩
  exact ⟨h1, fun j hj => ⟨(h2 j hj).1, by by_cases q : j = 0; exact Or.inl q; exact Or.inr ((h2 j hj).2 (by omega))⟩⟩
abbrev lv (nm : ByteArray) (p : Option Addr) (lo hi : Int) (z : Bool) : Value := .agg #[.string nm, .pointer p, .int .i64 lo, .int .i64 hi, .bool z]
set_option maxHeartbeats 4000000 in
set_option maxRecDepth 100000 in
theorem may (nm : ByteArray) (p : Option Addr) (lo hi n : Int) (z : Bool) (w : World) :
  Calls Try.prog 103 #[lv nm p lo hi z, .int .i64 n] w fun e w' => e = .returned (.bool (mayF lo hi z n)) ∧ Below w.heap.size w w' := by
 unfold mayF
 by_cases a : lo ≤ n
 ·have a1 : decide (lo ≤ n) = true := decide_eq_true a
  by_cases b : n ≤ hi
  ·have b1 : decide (n ≤ hi) = true := decide_eq_true b
   by_cases c : n = 0
   ·have c1 : (n != 0) = false := bne_eq_false_iff_eq.2 c
    have c2 : decide (n ≠ 0) = false := decide_eq_false (by simpa using c)
    rw [a1, b1, c2]
    clear a b c c2
    cases z
    all_goals
     go_enter Try.func103, Try.ntmps103
     go_wp2_with fail
     go_ret
     exact ⟨by simp, by repeat (with_reducible first | exact Below.refl _ _ | apply below_drew | apply pw_below_drewN | apply below_alloc)⟩
   ·have c1 : (n != 0) = true := bne_iff_ne.2 c
    have c2 : decide (n ≠ 0) = true := decide_eq_true c
    rw [a1, b1, c2]
    clear a b c c2
    go_enter Try.func103, Try.ntmps103
    go_wp2_with fail
    go_ret
    exact ⟨by simp, by repeat (with_reducible first | exact Below.refl _ _ | apply below_drew | apply pw_below_drewN | apply below_alloc)⟩
  ·have b1 : decide (n ≤ hi) = false := decide_eq_false b
   rw [a1, b1]
   clear a b
   go_enter Try.func103, Try.ntmps103
   go_wp2_with fail
   go_ret
   exact ⟨by simp, by repeat (with_reducible first | exact Below.refl _ _ | apply below_drew | apply pw_below_drewN | apply below_alloc)⟩
 ·have a1 : decide (lo ≤ n) = false := decide_eq_false a
  rw [a1]
  clear a
  go_enter Try.func103, Try.ntmps103
  go_wp2_with fail
  go_ret
  exact ⟨by simp, by repeat (with_reducible first | exact Below.refl _ _ | apply below_drew | apply pw_below_drewN | apply below_alloc)⟩
theorem upto_succ {lo hi : Int} {z : Bool} {l : List Int} {i : Nat} (h : upto lo hi z l i) (h1 : mayF lo hi z (rd l (i : Int)) = true) (h2 : 0 < i → rd l ((i - 1 : Nat) : Int) < rd l (i : Int)) : upto lo hi z l (i + 1) := fun j hj => by
 by_cases e : j = i
 ·subst e; exact ⟨h1, h2⟩
 ·exact h j (by omega)
theorem formed_yes {lo hi : Int} {z : Bool} {l : List Int} (h : l.length ≤ 40) (hu : upto lo hi z l l.length) : formedF lo hi z l = true := (formedF_iff lo hi z l).2 ⟨h, hu⟩
theorem not_true {b : Bool} (h : ¬ b = true) : b = false := by simpa using h
theorem formed_long {lo hi : Int} {z : Bool} {l : List Int} (h : ¬ l.length ≤ 40) : formedF lo hi z l = false := not_true fun q => h ((formedF_iff lo hi z l).1 q).1
theorem formed_not {lo hi : Int} {z : Bool} {l : List Int} {i : Nat} (hi' : i < l.length) (h : ¬ (mayF lo hi z (rd l (i : Int)) = true ∧ (0 < i → rd l ((i - 1 : Nat) : Int) < rd l (i : Int)))) : formedF lo hi z l = false :=
 not_true fun q => h (((formedF_iff lo hi z l).1 q).2 i hi')
set_option maxHeartbeats 4000000 in
set_option maxRecDepth 100000 in
theorem formed (nm : ByteArray) (ad : Addr) (lo hi : Int) (z : Bool) (A : Option Addr) (c : Nat) (l : List Int) (w : World) (hp : w.cell? ad = some (.slice A l.length c)) (hC : Kd.C (Kd.int .i64) w A l.length l) :
  Calls Try.prog 76 #[lv nm (some ad) lo hi z] w fun e w' => e = .returned (.bool (formedF lo hi z l)) ∧ Below w.heap.size w w' := by
 have HR := Aside0.mk hC
 have kept : ∀ o, (w.alloc o).cell? ad = some (.slice A l.length c) := fun o => pw_cell_below (below_alloc (Below.refl _ _) o) hp
 have hB0 : ∀ o, Below w.heap.size w (w.alloc o) := fun o => below_alloc (Below.refl _ _) o
 have hK0 : (w.alloc (.cells #[.string nm, .pointer (some ad), .int .i64 lo, .int .i64 hi, .bool z] 96 (0, 0))).heap[w.heap.size]? = some (.cells #[.string nm, .pointer (some ad), .int .i64 lo, .int .i64 hi, .bool z] 96 (0, 0)) := blk_new w _
 have HB := Aside0.mk (hB0 (.cells #[.string nm, .pointer (some ad), .int .i64 lo, .int .i64 hi, .bool z] 96 (0, 0)))
 have HK := Aside0.mk hK0
 clear hp hC hB0 hK0
 go_enter Try.func76, Try.ntmps76
 by_cases big : l.length ≤ 40
 ·have b1 : decide ((l.length : Int) > 40) = false := decide_eq_false (by omega)
  have BG := Aside0.mk big
  clear big
  go_wp2_with fail
  clear kept
  generalize w.alloc (.cells #[.string nm, .pointer (some ad), .int .i64 lo, .int .i64 hi, .bool z] 96 (0, 0)) = w0 at HB HK ⊢
  generalize hg : w.heap.size = g at HK HB ⊢
  go_loopg [15] l.length (fun kq v w' => ∃ (i : Nat) (x : Int), v = .int .i64 x ∧ Aside0 (x = (i : Int)) ∧ Aside0 (i + kq = l.length) ∧ Aside0 (upto lo hi z l i) ∧ Aside0 (w'.heap[g]? = some (.cells #[.string nm, .pointer (some ad), .int .i64 lo, .int .i64 hi, .bool z] 96 (0, 0))) ∧ Aside0 (Below g w w'))
  case atStart => exact ⟨0, 0, rfl, ⟨rfl⟩, ⟨by omega⟩, ⟨fun j hj => by omega⟩, HK, HB⟩
  case round =>
   clear HK HB
   obtain ⟨i, x, rfl, HX, HI, HU, HK, HB⟩ := hrel
   cases gk with
   | zero =>
    have e := HI.out
    obtain rfl : i = l.length := by omega
    have l1 : decide (x < (l.length : Int)) = false := decide_eq_false (by have := HX.out; omega)
    go_wp2_with fail
    go_ret
    exact ⟨by rw [formed_yes BG.out HU.out] <;> rfl, hg ▸ HB.out⟩
   | succ k1 =>
    have l1 : decide (x < (l.length : Int)) = true := decide_eq_true (by have := HX.out; have := HI.out; omega)
    have p1 : (0 ≤ x) = True := eq_true (by have := HX.out; omega)
    have q1 : (x < (l.length : Int)) = True := eq_true (by have := HX.out; have := HI.out; omega)
    obtain ⟨ab, eA, hx⟩ := Kd.at_int HR.out x (by have := HX.out; omega) (by have := HX.out; have := HI.out; omega)
    have hxw : wr.cell? (ab.add x.toNat) = some (.int .i64 (rd l x)) := by have := HB.out; rw [← hg] at this; exact pw_cell_below this hx
    have k0 := (blk_cell HK.out 0).trans rfl
    have k1_ := (blk_cell HK.out 1).trans rfl
    have k2 := (blk_cell HK.out 2).trans rfl
    have k3 := (blk_cell HK.out 3).trans rfl
    have k4 := (blk_cell HK.out 4).trans rfl
    subst eA
    go_wp2_with fail
    refine (may nm (some ad) lo hi (rd l x) z _).mono ?_
    rintro e w2 ⟨rfl, hB⟩
    have B1 : Below w.heap.size w wr := hg ▸ HB.out
    have B2 := Aside0.mk (below_then B1 B1.size hB)
    have HK2 := Aside0.mk (blk_below HK.out hB)
    replace hxw := pw_cell_below hB hxw
    clear hB B1 HK HB k0 k1_ k2 k3 k4
    by_cases m : mayF lo hi z (rd l x) = true
    ·rw [m]
     have HM := Aside0.mk (show mayF lo hi z (rd l (i : Int)) = true by rw [← HX.out]; exact m)
     clear m
     by_cases i0 : x > 0
     ·have c0 : decide (x > 0) = true := decide_eq_true i0
      obtain ⟨y, hy⟩ : ∃ y, y = wrap64 (x - 1) := ⟨_, rfl⟩
      have e3 : y = ((i - 1 : Nat) : Int) := by have := HX.out; have := BG.out; have := HI.out; rw [hy]; unfold wrap64; omega
      have l3 : wrap64 (x - 1) = y := hy.symm
      have p2 : (0 ≤ y) = True := eq_true (by omega)
      have q2 : (y < (l.length : Int)) = True := eq_true (by have := HI.out; omega)
      obtain ⟨ab2, eA2, hx2⟩ := Kd.at_int HR.out y (by omega) (by have := HI.out; omega)
      obtain rfl : ab = ab2 := Option.some.inj eA2
      have hxw2 := pw_cell_below B2.out hx2
      have HJ := Aside0.mk e3
      have HZ := Aside0.mk i0
      clear i0 hx hx2 eA2 e3 hy
      by_cases c : rd l y ≥ rd l x
      ·have c1 : decide (rd l y ≥ rd l x) = true := decide_eq_true c
       have HC := Aside0.mk c
       clear c
       go_wp2_with fail
       go_ret
       exact ⟨by rw [formed_not (i := i) (by have := HI.out; omega) (fun q => by have h1 := HZ.out; have h2 := q.2 (by have := HX.out; omega); rw [← HJ.out, ← HX.out] at h2; have := HC.out; omega)] <;> rfl, B2.out⟩
      ·have c1 : decide (rd l y ≥ rd l x) = false := decide_eq_false c
       have HC := Aside0.mk c
       clear c
       go_wp2_with fail
       go_roundg k1
       case measure => omega
       case rel => exact ⟨i + 1, _, rfl, ⟨by have := HX.out; have := BG.out; have := HI.out; unfold wrap64; omega⟩, ⟨by have := HI.out; omega⟩, ⟨upto_succ HU.out HM.out (fun _ => by have := HC.out; rw [← HJ.out, ← HX.out]; omega)⟩, HK2, ⟨hg ▸ B2.out⟩⟩
     ·have c0 : decide (x > 0) = false := decide_eq_false i0
      have HZ := Aside0.mk i0
      clear i0
      go_wp2_with fail
      go_roundg k1
      case measure => omega
      case rel => exact ⟨i + 1, _, rfl, ⟨by have := HX.out; have := BG.out; have := HI.out; unfold wrap64; omega⟩, ⟨by have := HI.out; omega⟩, ⟨upto_succ HU.out HM.out (fun q => absurd HZ.out (by have := HX.out; omega))⟩, HK2, ⟨hg ▸ B2.out⟩⟩
    ·have m1 : mayF lo hi z (rd l x) = false := by simpa using m
     rw [m1]
     have HM := Aside0.mk (show ¬ mayF lo hi z (rd l (i : Int)) = true by rw [← HX.out]; exact m)
     clear m m1
     go_wp2_with fail
     go_ret
     exact ⟨by rw [formed_not (i := i) (by have := HI.out; omega) (fun q => HM.out q.1)] <;> rfl, B2.out⟩
 ·have b1 : decide ((l.length : Int) > 40) = true := decide_eq_true (by omega)
  rw [formed_long big]
  clear big
  go_wp2_with fail
  go_ret
  exact ⟨rfl, HB.out⟩
end Go.Proofs.Ytfdcldjoncednaa.RecM
/- trystref12.Lists: a rule's eight lists of numbers. (Written by gen_refl.py.) -/
namespace Go.Proofs.Ytfdcldjoncednaa.RefL
open Go.RowKit Go.Proofs.YtfdcldjoncednaaW.PrintWords Go.Proofs.YtfdcldjoncednaaW.PrintLast Go.Proofs.YtfdcldjoncednaaW.PrintMore Go.Proofs.Ytfdcldjoncednaa.M
set_option linter.unusedVariables false
set_option linter.unusedSimpArgs false
set_option maxHeartbeats 2000000 in
set_option maxRecDepth 100000 in
theorem lists_ (a0 : Int) (a1 : Int) (a2 : Int) (a3 : Int) (a4 : Int) (a5 : ByteArray) (a6 : Bool) (a7 : Int) (A8 : Option Addr) (c8 : Nat) (l8 : List Int) (A9 : Option Addr) (c9 : Nat) (l9 : List Int) (A10 : Option Addr) (c10 : Nat) (l10 : List Int) (A11 : Option Addr) (c11 : Nat) (l11 : List S73) (A12 : Option Addr) (c12 : Nat) (l12 : List Int) (A13 : Option Addr) (c13 : Nat) (l13 : List Int) (A14 : Option Addr) (c14 : Nat) (l14 : List Int) (A15 : Option Addr) (c15 : Nat) (l15 : List Int) (A16 : Option Addr) (c16 : Nat) (l16 : List Int) (w : World) :
  Calls Try.prog 18 #[.agg #[.int .i64 a0, .int .i64 a1, .int .i64 a2, .int .i64 a3, .int .i64 a4, .string a5, .bool a6, .int .i64 a7, .slice A8 l8.length c8, .slice A9 l9.length c9, .slice A10 l10.length c10, .slice A11 l11.length c11, .slice A12 l12.length c12, .slice A13 l13.length c13, .slice A14 l14.length c14, .slice A15 l15.length c15, .slice A16 l16.length c16]] w fun e w' => e = .returned (.agg #[.slice A8 l8.length c8, .slice A9 l9.length c9, .slice A10 l10.length c10, .slice A12 l12.length c12, .slice A13 l13.length c13, .slice A14 l14.length c14, .slice A15 l15.length c15, .slice A16 l16.length c16]) ∧ Below w.heap.size w w' := by
 have HB := Aside0.mk (below_alloc (Below.refl w.heap.size w) (.cells #[.int .i64 a0, .int .i64 a1, .int .i64 a2, .int .i64 a3, .int .i64 a4, .string a5, .bool a6, .int .i64 a7, .slice A8 l8.length c8, .slice A9 l9.length c9, .slice A10 l10.length c10, .slice A11 l11.length c11, .slice A12 l12.length c12, .slice A13 l13.length c13, .slice A14 l14.length c14, .slice A15 l15.length c15, .slice A16 l16.length c16] 27 (0, 0)))
 go_enter Try.func18, Try.ntmps18
 go_wp2_with fail
 have k8 : ∀ ob, ((w.alloc (.cells #[.int .i64 a0, .int .i64 a1, .int .i64 a2, .int .i64 a3, .int .i64 a4, .string a5, .bool a6, .int .i64 a7, .slice A8 l8.length c8, .slice A9 l9.length c9, .slice A10 l10.length c10, .slice A11 l11.length c11, .slice A12 l12.length c12, .slice A13 l13.length c13, .slice A14 l14.length c14, .slice A15 l15.length c15, .slice A16 l16.length c16] 27 (0, 0))).alloc ob).cell? ⟨w.heap.size, 8, none⟩ = some (.slice A8 l8.length c8) := fun ob => pw_cell_below (below_alloc (Below.refl _ _) ob) ((blk_cell (blk_new w (.cells #[.int .i64 a0, .int .i64 a1, .int .i64 a2, .int .i64 a3, .int .i64 a4, .string a5, .bool a6, .int .i64 a7, .slice A8 l8.length c8, .slice A9 l9.length c9, .slice A10 l10.length c10, .slice A11 l11.length c11, .slice A12 l12.length c12, .slice A13 l13.length c13, .slice A14 l14.length c14, .slice A15 l15.length c15, .slice A16 l16.length c16] 27 (0, 0))) 8).trans rfl)
 have k9 : ∀ ob, ((w.alloc (.cells #[.int .i64 a0, .int .i64 a1, .int .i64 a2, .int .i64 a3, .int .i64 a4, .string a5, .bool a6, .int .i64 a7, .slice A8 l8.length c8, .slice A9 l9.length c9, .slice A10 l10.length c10, .slice A11 l11.length c11, .slice A12 l12.length c12, .slice A13 l13.length c13, .slice A14 l14.length c14, .slice A15 l15.length c15, .slice A16 l16.length c16] 27 (0, 0))).alloc ob).cell? ⟨w.heap.size, 9, none⟩ = some (.slice A9 l9.length c9) := fun ob => pw_cell_below (below_alloc (Below.refl _ _) ob) ((blk_cell (blk_new w (.cells #[.int .i64 a0, .int .i64 a1, .int .i64 a2, .int .i64 a3, .int .i64 a4, .string a5, .bool a6, .int .i64 a7, .slice A8 l8.length c8, .slice A9 l9.length c9, .slice A10 l10.length c10, .slice A11 l11.length c11, .slice A12 l12.length c12, .slice A13 l13.length c13, .slice A14 l14.length c14, .slice A15 l15.length c15, .slice A16 l16.length c16] 27 (0, 0))) 9).trans rfl)
 have k10 : ∀ ob, ((w.alloc (.cells #[.int .i64 a0, .int .i64 a1, .int .i64 a2, .int .i64 a3, .int .i64 a4, .string a5, .bool a6, .int .i64 a7, .slice A8 l8.length c8, .slice A9 l9.length c9, .slice A10 l10.length c10, .slice A11 l11.length c11, .slice A12 l12.length c12, .slice A13 l13.length c13, .slice A14 l14.length c14, .slice A15 l15.length c15, .slice A16 l16.length c16] 27 (0, 0))).alloc ob).cell? ⟨w.heap.size, 10, none⟩ = some (.slice A10 l10.length c10) := fun ob => pw_cell_below (below_alloc (Below.refl _ _) ob) ((blk_cell (blk_new w (.cells #[.int .i64 a0, .int .i64 a1, .int .i64 a2, .int .i64 a3, .int .i64 a4, .string a5, .bool a6, .int .i64 a7, .slice A8 l8.length c8, .slice A9 l9.length c9, .slice A10 l10.length c10, .slice A11 l11.length c11, .slice A12 l12.length c12, .slice A13 l13.length c13, .slice A14 l14.length c14, .slice A15 l15.length c15, .slice A16 l16.length c16] 27 (0, 0))) 10).trans rfl)
 have k12 : ∀ ob, ((w.alloc (.cells #[.int .i64 a0, .int .i64 a1, .int .i64 a2, .int .i64 a3, .int .i64 a4, .string a5, .bool a6, .int .i64 a7, .slice A8 l8.length c8, .slice A9 l9.length c9, .slice A10 l10.length c10, .slice A11 l11.length c11, .slice A12 l12.length c12, .slice A13 l13.length c13, .slice A14 l14.length c14, .slice A15 l15.length c15, .slice A16 l16.length c16] 27 (0, 0))).alloc ob).cell? ⟨w.heap.size, 12, none⟩ = some (.slice A12 l12.length c12) := fun ob => pw_cell_below (below_alloc (Below.refl _ _) ob) ((blk_cell (blk_new w (.cells #[.int .i64 a0, .int .i64 a1, .int .i64 a2, .int .i64 a3, .int .i64 a4, .string a5, .bool a6, .int .i64 a7, .slice A8 l8.length c8, .slice A9 l9.length c9, .slice A10 l10.length c10, .slice A11 l11.length c11, .slice A12 l12.length c12, .slice A13 l13.length c13, .slice A14 l14.length c14, .slice A15 l15.length c15, .slice A16 l16.length c16] 27 (0, 0))) 12).trans rfl)
 have k13 : ∀ ob, ((w.alloc (.cells #[.int .i64 a0, .int .i64 a1, .int .i64 a2, .int .i64 a3, .int .i64 a4, .string a5, .bool a6, .int .i64 a7, .slice A8 l8.length c8, .slice A9 l9.length c9, .slice A10 l10.length c10, .slice A11 l11.length c11, .slice A12 l12.length c12, .slice A13 l13.length c13, .slice A14 l14.length c14, .slice A15 l15.length c15, .slice A16 l16.length c16] 27 (0, 0))).alloc ob).cell? ⟨w.heap.size, 13, none⟩ = some (.slice A13 l13.length c13) := fun ob => pw_cell_below (below_alloc (Below.refl _ _) ob) ((blk_cell (blk_new w (.cells #[.int .i64 a0, .int .i64 a1, .int .i64 a2, .int .i64 a3, .int .i64 a4, .string a5, .bool a6, .int .i64 a7, .slice A8 l8.length c8, .slice A9 l9.length c9, .slice A10 l10.length c10, .slice A11 l11.length c11, .slice A12 l12.length c12, .slice A13 l13.length c13, .slice A14 l14.length c14, .slice A15 l15.length c15, .slice A16 l16.length c16] 27 (0, 0))) 13).trans rfl)
 have k14 : ∀ ob, ((w.alloc (.cells #[.int .i64 a0, .int .i64 a1, .int .i64 a2, .int .i64 a3, .int .i64 a4, .string a5, .bool a6, .int .i64 a7, .slice A8 l8.length c8, .slice A9 l9.length c9, .slice A10 l10.length c10, .slice A11 l11.length c11, .slice A12 l12.length c12, .slice A13 l13.length c13, .slice A14 l14.length c14, .slice A15 l15.length c15, .slice A16 l16.length c16] 27 (0, 0))).alloc ob).cell? ⟨w.heap.size, 14, none⟩ = some (.slice A14 l14.length c14) := fun ob => pw_cell_below (below_alloc (Below.refl _ _) ob) ((blk_cell (blk_new w (.cells #[.int .i64 a0, .int .i64 a1, .int .i64 a2, .int .i64 a3, .int .i64 a4, .string a5, .bool a6, .int .i64 a7, .slice A8 l8.length c8, .slice A9 l9.length c9, .slice A10 l10.length c10, .slice A11 l11.length c11, .slice A12 l12.length c12, .slice A13 l13.length c13, .slice A14 l14.length c14, .slice A15 l15.length c15, .slice A16 l16.length c16] 27 (0, 0))) 14).trans rfl)
 have k15 : ∀ ob, ((w.alloc (.cells #[.int .i64 a0, .int .i64 a1, .int .i64 a2, .int .i64 a3, .int .i64 a4, .string a5, .bool a6, .int .i64 a7, .slice A8 l8.length c8, .slice A9 l9.length c9, .slice A10 l10.length c10, .slice A11 l11.length c11, .slice A12 l12.length c12, .slice A13 l13.length c13, .slice A14 l14.length c14, .slice A15 l15.length c15, .slice A16 l16.length c16] 27 (0, 0))).alloc ob).cell? ⟨w.heap.size, 15, none⟩ = some (.slice A15 l15.length c15) := fun ob => pw_cell_below (below_alloc (Below.refl _ _) ob) ((blk_cell (blk_new w (.cells #[.int .i64 a0, .int .i64 a1, .int .i64 a2, .int .i64 a3, .int .i64 a4, .string a5, .bool a6, .int .i64 a7, .slice A8 l8.length c8, .slice A9 l9.length c9, .slice A10 l10.length c10, .slice A11 l11.length c11, .slice A12 l12.length c12, .slice A13 l13.length c13, .slice A14 l14.length c14, .slice A15 l15.length c15, .slice A16 l16.length c16] 27 (0, 0))) 15).trans rfl)
 have k16 : ∀ ob, ((w.alloc (.cells #[.int .i64 a0, .int .i64 a1, .int .i64 a2, .int .i64 a3, .int .i64 a4, .string a5, .bool a6, .int .i64 a7, .slice A8 l8.length c8, .slice A9 l9.length c9, .slice A10 l10.length c10, .slice A11 l11.length c11, .slice A12 l12.length c12, .slice A13 l13.length c13, .slice A14 l14.length c14, .slice A15 l15.length c15, .slice A16 l16.length c16] 27 (0, 0))).alloc ob).cell? ⟨w.heap.size, 16, none⟩ = some (.slice A16 l16.length c16) := fun ob => pw_cell_below (below_alloc (Below.refl _ _) ob) ((blk_cell (blk_new w (.cells #[.int .i64 a0, .int .i64 a1, .int .i64 a2, .int .i64 a3, .int .i64 a4, .string a5, .bool a6, .int .i64 a7, .slice A8 l8.length c8, .slice A9 l9.length c9, .slice A10 l10.length c10, .slice A11 l11.length c11, .slice A12 l12.length c12, .slice A13 l13.length c13, .slice A14 l14.length c14, .slice A15 l15.length c15, .slice A16 l16.length c16] 27 (0, 0))) 16).trans rfl)
 go_wp2_with fail
 refine bodyPost_ret (v := .agg #[.slice A8 l8.length c8, .slice A9 l9.length c9, .slice A10 l10.length c10, .slice A12 l12.length c12, .slice A13 l13.length c13, .slice A14 l14.length c14, .slice A15 l15.length c15, .slice A16 l16.length c16]) ?_ rfl ⟨rfl, below_alloc HB.out _⟩
 clear HB k8 k9 k10 k12 k13 k14 k15 k16
 simp [results, Try.f18, go_sem]

/-- How many numbers and days. -/
def sm (d : Nat) (l : List Nat) : Int := l.foldl (fun (a : Int) (n : Nat) => wrap64 (a + (n : Int))) (d : Int)
def few (d : Nat) (l : List Nat) : Bool := decide (sm d l ≤ 500)
set_option maxHeartbeats 4000000 in
set_option maxRecDepth 100000 in
theorem few0 (a0 : Int) (a1 : Int) (a2 : Int) (a3 : Int) (a4 : Int) (a5 : ByteArray) (a6 : Bool) (a7 : Int) (A8 : Option Addr) (c8 : Nat) (l8 : List Int) (A9 : Option Addr) (c9 : Nat) (l9 : List Int) (A10 : Option Addr) (c10 : Nat) (l10 : List Int) (A11 : Option Addr) (c11 : Nat) (l11 : List S73) (A12 : Option Addr) (c12 : Nat) (l12 : List Int) (A13 : Option Addr) (c13 : Nat) (l13 : List Int) (A14 : Option Addr) (c14 : Nat) (l14 : List Int) (A15 : Option Addr) (c15 : Nat) (l15 : List Int) (A16 : Option Addr) (c16 : Nat) (l16 : List Int) (f : Nat → Int) (hf : f 0 = (l11.length : Int)) (hf0 : f 1 = wrap64 (f 0 + (l8.length : Int))) (hf1 : f 2 = wrap64 (f 1 + (l9.length : Int))) (hf2 : f 3 = wrap64 (f 2 + (l10.length : Int))) (hf3 : f 4 = wrap64 (f 3 + (l12.length : Int))) (hf4 : f 5 = wrap64 (f 4 + (l13.length : Int))) (hf5 : f 6 = wrap64 (f 5 + (l14.length : Int))) (hf6 : f 7 = wrap64 (f 6 + (l15.length : Int))) (hf7 : f 8 = wrap64 (f 7 + (l16.length : Int))) (w : World) :
  Calls Try.prog 8 #[.agg #[.int .i64 a0, .int .i64 a1, .int .i64 a2, .int .i64 a3, .int .i64 a4, .string a5, .bool a6, .int .i64 a7, .slice A8 l8.length c8, .slice A9 l9.length c9, .slice A10 l10.length c10, .slice A11 l11.length c11, .slice A12 l12.length c12, .slice A13 l13.length c13, .slice A14 l14.length c14, .slice A15 l15.length c15, .slice A16 l16.length c16]] w fun e w' => e = .returned (.bool (decide (f 8 ≤ 500))) ∧ Below w.heap.size w w' := by
 have HF := Aside0.mk hf
 clear hf
 have HF0 := Aside0.mk hf0; clear hf0
 have HF1 := Aside0.mk hf1; clear hf1
 have HF2 := Aside0.mk hf2; clear hf2
 have HF3 := Aside0.mk hf3; clear hf3
 have HF4 := Aside0.mk hf4; clear hf4
 have HF5 := Aside0.mk hf5; clear hf5
 have HF6 := Aside0.mk hf6; clear hf6
 have HF7 := Aside0.mk hf7; clear hf7
 have hK0 : (w.alloc (.cells #[.int .i64 a0, .int .i64 a1, .int .i64 a2, .int .i64 a3, .int .i64 a4, .string a5, .bool a6, .int .i64 a7, .slice A8 l8.length c8, .slice A9 l9.length c9, .slice A10 l10.length c10, .slice A11 l11.length c11, .slice A12 l12.length c12, .slice A13 l13.length c13, .slice A14 l14.length c14, .slice A15 l15.length c15, .slice A16 l16.length c16] 27 (0, 0))).heap[w.heap.size]? = some (.cells #[.int .i64 a0, .int .i64 a1, .int .i64 a2, .int .i64 a3, .int .i64 a4, .string a5, .bool a6, .int .i64 a7, .slice A8 l8.length c8, .slice A9 l9.length c9, .slice A10 l10.length c10, .slice A11 l11.length c11, .slice A12 l12.length c12, .slice A13 l13.length c13, .slice A14 l14.length c14, .slice A15 l15.length c15, .slice A16 l16.length c16] 27 (0, 0)) := blk_new w _
 have HK := Aside0.mk hK0
 have HB := Aside0.mk (below_alloc (Below.refl w.heap.size w) (.cells #[.int .i64 a0, .int .i64 a1, .int .i64 a2, .int .i64 a3, .int .i64 a4, .string a5, .bool a6, .int .i64 a7, .slice A8 l8.length c8, .slice A9 l9.length c9, .slice A10 l10.length c10, .slice A11 l11.length c11, .slice A12 l12.length c12, .slice A13 l13.length c13, .slice A14 l14.length c14, .slice A15 l15.length c15, .slice A16 l16.length c16] 27 (0, 0)))
 clear hK0
 go_enter Try.func8, Try.ntmps8
 go_wp2_with fail
 generalize w.alloc (.cells #[.int .i64 a0, .int .i64 a1, .int .i64 a2, .int .i64 a3, .int .i64 a4, .string a5, .bool a6, .int .i64 a7, .slice A8 l8.length c8, .slice A9 l9.length c9, .slice A10 l10.length c10, .slice A11 l11.length c11, .slice A12 l12.length c12, .slice A13 l13.length c13, .slice A14 l14.length c14, .slice A15 l15.length c15, .slice A16 l16.length c16] 27 (0, 0)) = w0 at HK HB ⊢
 generalize hB : w.heap.size = B at HK ⊢
 refine (lists_ a0 a1 a2 a3 a4 a5 a6 a7 A8 c8 l8 A9 c9 l9 A10 c10 l10 A11 c11 l11 A12 c12 l12 A13 c13 l13 A14 c14 l14 A15 c15 l15 A16 c16 l16 w0).mono ?_
 rintro e w1 ⟨rfl, hb⟩
 replace HK := Aside0.mk (blk_below HK.out hb)
 replace HB := Aside0.mk (below_then HB.out HB.out.size hb)
 clear hb
 have k11 : ∀ ob, (w1.alloc ob).cell? ⟨B, 11, none⟩ = some (.slice A11 l11.length c11) := fun ob => pw_cell_below (below_alloc (Below.refl _ _) ob) ((blk_cell HK.out 11).trans rfl)
 have HA0 : (w1.alloc (.cells #[.slice A8 l8.length c8, .slice A9 l9.length c9, .slice A10 l10.length c10, .slice A12 l12.length c12, .slice A13 l13.length c13, .slice A14 l14.length c14, .slice A15 l15.length c15, .slice A16 l16.length c16] 45 (0, 0))).heap[w1.heap.size]? = some (.cells #[.slice A8 l8.length c8, .slice A9 l9.length c9, .slice A10 l10.length c10, .slice A12 l12.length c12, .slice A13 l13.length c13, .slice A14 l14.length c14, .slice A15 l15.length c15, .slice A16 l16.length c16] 45 (0, 0)) := blk_new w1 _
 have HA := Aside0.mk HA0
 clear HA0
 replace HB := Aside0.mk (below_alloc HB.out (.cells #[.slice A8 l8.length c8, .slice A9 l9.length c9, .slice A10 l10.length c10, .slice A12 l12.length c12, .slice A13 l13.length c13, .slice A14 l14.length c14, .slice A15 l15.length c15, .slice A16 l16.length c16] 45 (0, 0)))
 clear HK
 go_wp2_with fail
 generalize w1.alloc (.cells #[.slice A8 l8.length c8, .slice A9 l9.length c9, .slice A10 l10.length c10, .slice A12 l12.length c12, .slice A13 l13.length c13, .slice A14 l14.length c14, .slice A15 l15.length c15, .slice A16 l16.length c16] 45 (0, 0)) = w2 at HA HB ⊢
 generalize w1.heap.size = g at HA ⊢
 go_loopg [4, 11] 8 (fun kq vn vi w' => ∃ (i : Nat) (n x : Int), vn = .int .i64 n ∧ vi = .int .i64 x ∧ Aside0 (n = f i) ∧ Aside0 (x = (i : Int)) ∧ Aside0 (i + kq = 8) ∧ Aside0 (w'.heap[g]? = some (.cells #[.slice A8 l8.length c8, .slice A9 l9.length c9, .slice A10 l10.length c10, .slice A12 l12.length c12, .slice A13 l13.length c13, .slice A14 l14.length c14, .slice A15 l15.length c15, .slice A16 l16.length c16] 45 (0, 0))) ∧ Aside0 (Below w.heap.size w w'))
 case atStart => exact ⟨0, _, 0, rfl, rfl, ⟨HF.out.symm⟩, ⟨rfl⟩, ⟨rfl⟩, HA, HB⟩
 case round =>
  clear HA HB k11
  obtain ⟨i, n, x, rfl, rfl, HN, HX, HI, HA, HB⟩ := hrel
  cases gk with
  | zero =>
   obtain rfl : i = 8 := by have := HI.out; omega
   obtain rfl : x = 8 := HX.out
   go_wp2_with fail
   go_ret
   exact ⟨by rw [← HN.out]; rfl, hB ▸ HB.out⟩
  | succ k1 =>
   have hi : i = 0 ∨ i = 1 ∨ i = 2 ∨ i = 3 ∨ i = 4 ∨ i = 5 ∨ i = 6 ∨ i = 7 := by have := HI.out; omega
   rcases hi with rfl | rfl | rfl | rfl | rfl | rfl | rfl | rfl
   ·obtain rfl : x = 0 := HX.out
    have kk : wr.cell? ⟨g, 0, none⟩ = some (.slice A8 l8.length c8) := (blk_cell HA.out 0).trans rfl
    go_wp2_with fail
    go_roundg k1
    case measure => omega
    case rel => exact ⟨1, _, _, rfl, rfl, ⟨by rw [HN.out]; exact HF0.out.symm⟩, ⟨rfl⟩, ⟨by have := HI.out; omega⟩, HA, HB⟩
   ·obtain rfl : x = 1 := HX.out
    have kk : wr.cell? ⟨g, 1, none⟩ = some (.slice A9 l9.length c9) := (blk_cell HA.out 1).trans rfl
    go_wp2_with fail
    go_roundg k1
    case measure => omega
    case rel => exact ⟨2, _, _, rfl, rfl, ⟨by rw [HN.out]; exact HF1.out.symm⟩, ⟨rfl⟩, ⟨by have := HI.out; omega⟩, HA, HB⟩
   ·obtain rfl : x = 2 := HX.out
    have kk : wr.cell? ⟨g, 2, none⟩ = some (.slice A10 l10.length c10) := (blk_cell HA.out 2).trans rfl
    go_wp2_with fail
    go_roundg k1
    case measure => omega
    case rel => exact ⟨3, _, _, rfl, rfl, ⟨by rw [HN.out]; exact HF2.out.symm⟩, ⟨rfl⟩, ⟨by have := HI.out; omega⟩, HA, HB⟩
   ·obtain rfl : x = 3 := HX.out
    have kk : wr.cell? ⟨g, 3, none⟩ = some (.slice A12 l12.length c12) := (blk_cell HA.out 3).trans rfl
    go_wp2_with fail
    go_roundg k1
    case measure => omega
    case rel => exact ⟨4, _, _, rfl, rfl, ⟨by rw [HN.out]; exact HF3.out.symm⟩, ⟨rfl⟩, ⟨by have := HI.out; omega⟩, HA, HB⟩
   ·obtain rfl : x = 4 := HX.out
    have kk : wr.cell? ⟨g, 4, none⟩ = some (.slice A13 l13.length c13) := (blk_cell HA.out 4).trans rfl
    go_wp2_with fail
    go_roundg k1
    case measure => omega
    case rel => exact ⟨5, _, _, rfl, rfl, ⟨by rw [HN.out]; exact HF4.out.symm⟩, ⟨rfl⟩, ⟨by have := HI.out; omega⟩, HA, HB⟩
   ·obtain rfl : x = 5 := HX.out
    have kk : wr.cell? ⟨g, 5, none⟩ = some (.slice A14 l14.length c14) := (blk_cell HA.out 5).trans rfl
    go_wp2_with fail
    go_roundg k1
    case measure => omega
    case rel => exact ⟨6, _, _, rfl, rfl, ⟨by rw [HN.out]; exact HF5.out.symm⟩, ⟨rfl⟩, ⟨by have := HI.out; omega⟩, HA, HB⟩
   ·obtain rfl : x = 6 := HX.out
    have kk : wr.cell? ⟨g, 6, none⟩ = some (.slice A15 l15.length c15) := (blk_cell HA.out 6).trans rfl
    go_wp2_with fail
    go_roundg k1
    case measure => omega
    case rel => exact ⟨7, _, _, rfl, rfl, ⟨by rw [HN.out]; exact HF6.out.symm⟩, ⟨rfl⟩, ⟨by have := HI.out; omega⟩, HA, HB⟩
   ·obtain rfl : x = 7 := HX.out
    have kk : wr.cell? ⟨g, 7, none⟩ = some (.slice A16 l16.length c16) := (blk_cell HA.out 7).trans rfl
    go_wp2_with fail
    go_roundg k1
    case measure => omega
    case rel => exact ⟨8, _, _, rfl, rfl, ⟨by rw [HN.out]; exact HF7.out.symm⟩, ⟨rfl⟩, ⟨by have := HI.out; omega⟩, HA, HB⟩
end Go.Proofs.Ytfdcldjoncednaa.RefL
/- Contracts of Go's library at this seat: written by the kit's lay-shelf.mjs and lay-plain.mjs, picked by shelf_pick.py. -/
namespace Go.Proofs.Ytfdcldjoncednaa.Shelf
open Go.Shelf Go.Proofs
set_option linter.unusedVariables false
def lays137_ren : Go.Shelf.Ren := ⟨fun | 137 => 120 | 217 => 124 | 266 => 125 | n => n, fun | 9 => 9 | 5 => 5 | 3 => 3 | n => n, fun | n => n⟩
theorem lays137 : Go.Proofs.Lays.n137 Try.prog lays137_ren := {
 mixed := by kernel_rfl
 f137 := Try.func120.trans (congrArg some (by kernel_rfl))
 f217 := Try.func124.trans (congrArg some (by kernel_rfl))
 f266 := Try.func125.trans (congrArg some (by kernel_rfl))
 t3 := Try.underlying3
 a3 := Try.isAgg3
 z3 := Try.sizeOf3
 v3 := Try.zeroValue3
 t5 := Try.underlying5
 a5 := Try.isAgg5
 z5 := Try.sizeOf5
 v5 := Try.zeroValue5
 t9 := Try.underlying9
 a9 := Try.isAgg9
 z9 := Try.sizeOf9
 v9 := Try.zeroValue9 }
open Go.RowKit in
theorem strings_IndexByte (s : ByteArray) (c : Int) (w : World) :
  Calls Try.prog 120 #[.string s, .int .u8 c] w fun e w' => e = .returned (.int .i64 (Lib.indexByte s.data.toList c.toNat.toUInt8)) ∧ w' = w := Any.strings_IndexByte lays137 s c w
end Go.Proofs.Ytfdcldjoncednaa.Shelf
