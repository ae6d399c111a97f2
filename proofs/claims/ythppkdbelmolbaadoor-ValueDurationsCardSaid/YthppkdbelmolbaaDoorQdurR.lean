-- written by a program of this session (wip/own_print.sh)
import Derived.Test.YthppkdbelmolbaaDoorQ0
import Derived.Test.YthppkdbelmolbaaDoorQdurT
namespace Go.Proofs.YthppkdbelmolbaaDoor.Q
open Go.RowKit Go.Proofs.YthppkdbelmolbaaDoorW.PrintWords Go.Proofs.YthppkdbelmolbaaDoorW.PrintLast Go.Proofs.YthppkdbelmolbaaDoorW.PrintMore
attribute [local go_sem] max2_int min2_int max_two min_two max_three min_three max_four min_four   -- for this text's walks alone
set_option linter.unusedVariables false
set_option linter.unusedSimpArgs false

/-! ### trystref12_ParseDuration: function 25 -/
mutual
def trystref12_ParseDuration.j0 : Nat → ByteArray → Int → Bool → Option (Int × Int)
  | 0, _, _, _ => none
  | k + 1, x0, x4, x27 => if x27 = true then (if 0 < (x0.size : Int) then (if (bt x0 0) = 45 then (if 1 ≤ (x0.size : Int) then (trystref12_ParseDuration.j1 k (x0.extract 1 x0.size) (-1)) else (none)) else (if 1 ≤ (x0.size : Int) then (trystref12_ParseDuration.j1 k (x0.extract 1 x0.size) x4) else (none))) else (none)) else (trystref12_ParseDuration.j1 k x0 x4)
def trystref12_ParseDuration.j1 : Nat → ByteArray → Int → Option (Int × Int)
  | 0, _, _ => none
  | k + 1, x0, x4 => if (x0.size : Int) = 0 then (trystref12_ParseDuration.j2 k x0 x4 true) else (if 0 < (x0.size : Int) then (trystref12_ParseDuration.j2 k x0 x4 ((bt x0 0) != 80)) else (none))
def trystref12_ParseDuration.j2 : Nat → ByteArray → Int → Bool → Option (Int × Int)
  | 0, _, _, _ => none
  | k + 1, x0, x4, x40 => if x40 = true then (some (0, 7)) else (if 1 ≤ (x0.size : Int) then (trystref12_ParseDuration.l0 k (x0.extract 1 x0.size) x4 (-1) ((x0.extract 1 x0.size).size : Int) 0) else (none))
def trystref12_ParseDuration.l0 : Nat → ByteArray → Int → Int → Int → Int → Option (Int × Int)
  | 0, _, _, _, _, _ => none
  | k + 1, x0, x4, x5, x44, x45 => if x45 < x44 then (if 0 ≤ x45 then (if x45 < (x0.size : Int) then (if (bt x0 x45) = 84 then (if x5 < 0 then (trystref12_ParseDuration.l0 k x0 x4 x45 x44 (wrap64 (x45 + 1))) else (trystref12_ParseDuration.l0 k x0 x4 x5 x44 (wrap64 (x45 + 1)))) else (trystref12_ParseDuration.l0 k x0 x4 x5 x44 (wrap64 (x45 + 1)))) else (none)) else (none)) else (if x5 ≥ 0 then (if 0 ≤ x5 then (if x5 ≤ (x0.size : Int) then (trystref12_ParseDuration.j4 k x0 x4 x5 0 (x0.extract 0 (x5 : Int).toNat)) else (none)) else (none)) else (trystref12_ParseDuration.j4 k x0 x4 x5 0 x0))
def trystref12_ParseDuration.j4 : Nat → ByteArray → Int → Int → Int → ByteArray → Option (Int × Int)
  | 0, _, _, _, _, _ => none
  | k + 1, x0, x4, x5, x7, x8 => if x8.toList = ([] : List UInt8) then (trystref12_ParseDuration.j6 k x0 x4 x5 x7 x8) else ((trystref12_terms.f k x8).bind fun bt468 => (if bt468.2 = true then (if (bt468.1.length : Int) = 1 then (if 0 < (bt468.1.length : Int) then (if ((rd_T61 bt468.1 0).f1) = 68 then (trystref12_ParseDuration.j5 k x0 x4 x5 x8 bt468.1 false) else (if ((rd_T61 bt468.1 0).f1) = 87 then (trystref12_ParseDuration.j5 k x0 x4 x5 x8 bt468.1 (decide (x5 ≥ 0))) else (trystref12_ParseDuration.j5 k x0 x4 x5 x8 bt468.1 true))) else (none)) else (trystref12_ParseDuration.j5 k x0 x4 x5 x8 bt468.1 true)) else (trystref12_ParseDuration.j5 k x0 x4 x5 x8 bt468.1 true)))
def trystref12_ParseDuration.j6 : Nat → ByteArray → Int → Int → Int → ByteArray → Option (Int × Int)
  | 0, _, _, _, _, _ => none
  | k + 1, x0, x4, x5, x7, x8 => if x8.toList = ([] : List UInt8) then (trystref12_ParseDuration.j7 k x0 x4 x5 x7 (decide (x5 < 0))) else (trystref12_ParseDuration.j7 k x0 x4 x5 x7 false)
def trystref12_ParseDuration.j7 : Nat → ByteArray → Int → Int → Int → Bool → Option (Int × Int)
  | 0, _, _, _, _, _ => none
  | k + 1, x0, x4, x5, x7, x116 => if x116 = true then (some (0, 7)) else (if x5 ≥ 0 then (if 0 ≤ (wrap64 (x5 + 1)) then (if (wrap64 (x5 + 1)) ≤ (x0.size : Int) then ((trystref12_terms.f k (x0.extract ((wrap64 (x5 + 1)) : Int).toNat x0.size)).bind fun bt477 => (if bt477.2 = true then (trystref12_ParseDuration.l1 k x4 x7 bt477.1 (⟨#[]⟩ : ByteArray) (bt477.1.length : Int) 0) else (some (0, 7)))) else (none)) else (none)) else (if x7 > 10000000000 then (some (0, 7)) else (some (wrap64 (x4 * x7), 0))))
def trystref12_ParseDuration.l1 : Nat → Int → Int → List (S61) → ByteArray → Int → Int → Option (Int × Int)
  | 0, _, _, _, _, _, _ => none
  | k + 1, x4, x7, x11, x13, x130, x131 => if x131 < x130 then (if 0 ≤ x131 then (if x131 < (x11.length : Int) then ((some (([(rd_T61 x11 x131).f1] : List Int) : List Int)).bind fun y482 => (if x13.size + (strOfNums y482).size ≤ 9223372036854775807 then (if ((rd_T61 x11 x131).f1) = 72 then (trystref12_ParseDuration.l1 k x4 (wrap64 (x7 + (wrap64 (3600 * ((rd_T61 x11 x131).f0))))) x11 (x13 ++ (strOfNums y482)) x130 (wrap64 (x131 + 1))) else (if ((rd_T61 x11 x131).f1) = 77 then (trystref12_ParseDuration.l1 k x4 (wrap64 (x7 + (wrap64 (60 * ((rd_T61 x11 x131).f0))))) x11 (x13 ++ (strOfNums y482)) x130 (wrap64 (x131 + 1))) else (if ((rd_T61 x11 x131).f1) = 83 then (trystref12_ParseDuration.l1 k x4 (wrap64 (x7 + ((rd_T61 x11 x131).f0))) x11 (x13 ++ (strOfNums y482)) x130 (wrap64 (x131 + 1))) else (trystref12_ParseDuration.l1 k x4 x7 x11 (x13 ++ (strOfNums y482)) x130 (wrap64 (x131 + 1)))))) else (none))) else (none)) else (none)) else (if x13.toList = ([72] : List UInt8) then (trystref12_ParseDuration.j9 k x4 x7 false) else (if x13.toList = ([72, 77] : List UInt8) then (trystref12_ParseDuration.j9 k x4 x7 false) else (if x13.toList = ([72, 77, 83] : List UInt8) then (trystref12_ParseDuration.j9 k x4 x7 false) else (if x13.toList = ([77] : List UInt8) then (trystref12_ParseDuration.j9 k x4 x7 false) else (if x13.toList = ([77, 83] : List UInt8) then (trystref12_ParseDuration.j9 k x4 x7 false) else (trystref12_ParseDuration.j9 k x4 x7 (x13.toList != ([83] : List UInt8))))))))
def trystref12_ParseDuration.j9 : Nat → Int → Int → Bool → Option (Int × Int)
  | 0, _, _, _ => none
  | k + 1, x4, x7, x199 => if x199 = true then (some (0, 7)) else (if x7 > 10000000000 then (some (0, 7)) else (some (wrap64 (x4 * x7), 0)))
def trystref12_ParseDuration.j5 : Nat → ByteArray → Int → Int → ByteArray → List (S61) → Bool → Option (Int × Int)
  | 0, _, _, _, _, _, _ => none
  | k + 1, x0, x4, x5, x8, x9, x95 => if x95 = true then (some (0, 7)) else (if 0 < (x9.length : Int) then (if ((rd_T61 x9 0).f1) = 87 then (trystref12_ParseDuration.j6 k x0 x4 x5 (wrap64 (604800 * ((rd_T61 x9 0).f0))) x8) else (trystref12_ParseDuration.j6 k x0 x4 x5 (wrap64 (86400 * ((rd_T61 x9 0).f0))) x8)) else (none))
end
def trystref12_ParseDuration.f (k : Nat) (a0 : ByteArray) : Option (Int × Int) := if (a0.size : Int) > 0 then (if 0 < (a0.size : Int) then (if (bt a0 0) = 45 then (trystref12_ParseDuration.j0 k a0 1 true) else (trystref12_ParseDuration.j0 k a0 1 ((bt a0 0) == 43))) else (none)) else (trystref12_ParseDuration.j0 k a0 1 false)
theorem trystref12_ParseDuration.mono_l : ∀ k, (∀ y0 y1 y2, LeO (trystref12_ParseDuration.j0 k y0 y1 y2) (trystref12_ParseDuration.j0 (k + 1) y0 y1 y2)) ∧ (∀ y0 y1, LeO (trystref12_ParseDuration.j1 k y0 y1) (trystref12_ParseDuration.j1 (k + 1) y0 y1)) ∧ (∀ y0 y1 y2, LeO (trystref12_ParseDuration.j2 k y0 y1 y2) (trystref12_ParseDuration.j2 (k + 1) y0 y1 y2)) ∧ (∀ y0 y1 y2 y3 y4, LeO (trystref12_ParseDuration.l0 k y0 y1 y2 y3 y4) (trystref12_ParseDuration.l0 (k + 1) y0 y1 y2 y3 y4)) ∧ (∀ y0 y1 y2 y3 y4, LeO (trystref12_ParseDuration.j4 k y0 y1 y2 y3 y4) (trystref12_ParseDuration.j4 (k + 1) y0 y1 y2 y3 y4)) ∧ (∀ y0 y1 y2 y3 y4, LeO (trystref12_ParseDuration.j6 k y0 y1 y2 y3 y4) (trystref12_ParseDuration.j6 (k + 1) y0 y1 y2 y3 y4)) ∧ (∀ y0 y1 y2 y3 y4, LeO (trystref12_ParseDuration.j7 k y0 y1 y2 y3 y4) (trystref12_ParseDuration.j7 (k + 1) y0 y1 y2 y3 y4)) ∧ (∀ y0 y1 y2 y3 y4 y5, LeO (trystref12_ParseDuration.l1 k y0 y1 y2 y3 y4 y5) (trystref12_ParseDuration.l1 (k + 1) y0 y1 y2 y3 y4 y5)) ∧ (∀ y0 y1 y2, LeO (trystref12_ParseDuration.j9 k y0 y1 y2) (trystref12_ParseDuration.j9 (k + 1) y0 y1 y2)) ∧ (∀ y0 y1 y2 y3 y4 y5, LeO (trystref12_ParseDuration.j5 k y0 y1 y2 y3 y4 y5) (trystref12_ParseDuration.j5 (k + 1) y0 y1 y2 y3 y4 y5))
  | 0 => ⟨fun _ _ _ r h => by simp [trystref12_ParseDuration.j0] at h, fun _ _ r h => by simp [trystref12_ParseDuration.j1] at h, fun _ _ _ r h => by simp [trystref12_ParseDuration.j2] at h, fun _ _ _ _ _ r h => by simp [trystref12_ParseDuration.l0] at h, fun _ _ _ _ _ r h => by simp [trystref12_ParseDuration.j4] at h, fun _ _ _ _ _ r h => by simp [trystref12_ParseDuration.j6] at h, fun _ _ _ _ _ r h => by simp [trystref12_ParseDuration.j7] at h, fun _ _ _ _ _ _ r h => by simp [trystref12_ParseDuration.l1] at h, fun _ _ _ r h => by simp [trystref12_ParseDuration.j9] at h, fun _ _ _ _ _ _ r h => by simp [trystref12_ParseDuration.j5] at h⟩
  | k + 1 => by
    obtain ⟨ih0, ih1, ih2, ih3, ih4, ih5, ih6, ih7, ih8, ih9⟩ := trystref12_ParseDuration.mono_l k
    refine ⟨?_, ?_, ?_, ?_, ?_, ?_, ?_, ?_, ?_, ?_⟩
    · as_aux_lemma =>
        intro y0 y1 y2
        unfold trystref12_ParseDuration.j0
        repeat' first
        | (with_reducible exact ih0 _ _ _)
        | (with_reducible exact ih1 _ _)
        | (with_reducible exact ih2 _ _ _)
        | (with_reducible exact ih3 _ _ _ _ _)
        | (with_reducible exact ih4 _ _ _ _ _)
        | (with_reducible exact ih5 _ _ _ _ _)
        | (with_reducible exact ih6 _ _ _ _ _)
        | (with_reducible exact ih7 _ _ _ _ _ _)
        | (with_reducible exact ih8 _ _ _)
        | (with_reducible exact ih9 _ _ _ _ _ _)
        | (with_reducible exact trystref12_terms.mono _ _)
        | (with_reducible exact LeO.refl _)
        | (with_reducible exact LeO.none _)
        | (with_reducible refine LeO.ite ?_ ?_)
        | (with_reducible refine LeO.bind ?_ (fun _ => ?_))
        | exact ih0 _ _ _
        | exact ih1 _ _
        | exact ih2 _ _ _
        | exact ih3 _ _ _ _ _
        | exact ih4 _ _ _ _ _
        | exact ih5 _ _ _ _ _
        | exact ih6 _ _ _ _ _
        | exact ih7 _ _ _ _ _ _
        | exact ih8 _ _ _
        | exact ih9 _ _ _ _ _ _
        | exact trystref12_terms.mono _ _
        | exact LeO.none _
        | refine LeO.ite ?_ ?_
        | refine LeO.bind ?_ (fun _ => ?_)
    · as_aux_lemma =>
        intro y0 y1
        unfold trystref12_ParseDuration.j1
        repeat' first
        | (with_reducible exact ih0 _ _ _)
        | (with_reducible exact ih1 _ _)
        | (with_reducible exact ih2 _ _ _)
        | (with_reducible exact ih3 _ _ _ _ _)
        | (with_reducible exact ih4 _ _ _ _ _)
        | (with_reducible exact ih5 _ _ _ _ _)
        | (with_reducible exact ih6 _ _ _ _ _)
        | (with_reducible exact ih7 _ _ _ _ _ _)
        | (with_reducible exact ih8 _ _ _)
        | (with_reducible exact ih9 _ _ _ _ _ _)
        | (with_reducible exact trystref12_terms.mono _ _)
        | (with_reducible exact LeO.refl _)
        | (with_reducible exact LeO.none _)
        | (with_reducible refine LeO.ite ?_ ?_)
        | (with_reducible refine LeO.bind ?_ (fun _ => ?_))
        | exact ih0 _ _ _
        | exact ih1 _ _
        | exact ih2 _ _ _
        | exact ih3 _ _ _ _ _
        | exact ih4 _ _ _ _ _
        | exact ih5 _ _ _ _ _
        | exact ih6 _ _ _ _ _
        | exact ih7 _ _ _ _ _ _
        | exact ih8 _ _ _
        | exact ih9 _ _ _ _ _ _
        | exact trystref12_terms.mono _ _
        | exact LeO.none _
        | refine LeO.ite ?_ ?_
        | refine LeO.bind ?_ (fun _ => ?_)
    · as_aux_lemma =>
        intro y0 y1 y2
        unfold trystref12_ParseDuration.j2
        repeat' first
        | (with_reducible exact ih0 _ _ _)
        | (with_reducible exact ih1 _ _)
        | (with_reducible exact ih2 _ _ _)
        | (with_reducible exact ih3 _ _ _ _ _)
        | (with_reducible exact ih4 _ _ _ _ _)
        | (with_reducible exact ih5 _ _ _ _ _)
        | (with_reducible exact ih6 _ _ _ _ _)
        | (with_reducible exact ih7 _ _ _ _ _ _)
        | (with_reducible exact ih8 _ _ _)
        | (with_reducible exact ih9 _ _ _ _ _ _)
        | (with_reducible exact trystref12_terms.mono _ _)
        | (with_reducible exact LeO.refl _)
        | (with_reducible exact LeO.none _)
        | (with_reducible refine LeO.ite ?_ ?_)
        | (with_reducible refine LeO.bind ?_ (fun _ => ?_))
        | exact ih0 _ _ _
        | exact ih1 _ _
        | exact ih2 _ _ _
        | exact ih3 _ _ _ _ _
        | exact ih4 _ _ _ _ _
        | exact ih5 _ _ _ _ _
        | exact ih6 _ _ _ _ _
        | exact ih7 _ _ _ _ _ _
        | exact ih8 _ _ _
        | exact ih9 _ _ _ _ _ _
        | exact trystref12_terms.mono _ _
        | exact LeO.none _
        | refine LeO.ite ?_ ?_
        | refine LeO.bind ?_ (fun _ => ?_)
    · as_aux_lemma =>
        intro y0 y1 y2 y3 y4
        unfold trystref12_ParseDuration.l0
        repeat' first
        | (with_reducible exact ih0 _ _ _)
        | (with_reducible exact ih1 _ _)
        | (with_reducible exact ih2 _ _ _)
        | (with_reducible exact ih3 _ _ _ _ _)
        | (with_reducible exact ih4 _ _ _ _ _)
        | (with_reducible exact ih5 _ _ _ _ _)
        | (with_reducible exact ih6 _ _ _ _ _)
        | (with_reducible exact ih7 _ _ _ _ _ _)
        | (with_reducible exact ih8 _ _ _)
        | (with_reducible exact ih9 _ _ _ _ _ _)
        | (with_reducible exact trystref12_terms.mono _ _)
        | (with_reducible exact LeO.refl _)
        | (with_reducible exact LeO.none _)
        | (with_reducible refine LeO.ite ?_ ?_)
        | (with_reducible refine LeO.bind ?_ (fun _ => ?_))
        | exact ih0 _ _ _
        | exact ih1 _ _
        | exact ih2 _ _ _
        | exact ih3 _ _ _ _ _
        | exact ih4 _ _ _ _ _
        | exact ih5 _ _ _ _ _
        | exact ih6 _ _ _ _ _
        | exact ih7 _ _ _ _ _ _
        | exact ih8 _ _ _
        | exact ih9 _ _ _ _ _ _
        | exact trystref12_terms.mono _ _
        | exact LeO.none _
        | refine LeO.ite ?_ ?_
        | refine LeO.bind ?_ (fun _ => ?_)
    · as_aux_lemma =>
        intro y0 y1 y2 y3 y4
        unfold trystref12_ParseDuration.j4
        repeat' first
        | (with_reducible exact ih0 _ _ _)
        | (with_reducible exact ih1 _ _)
        | (with_reducible exact ih2 _ _ _)
        | (with_reducible exact ih3 _ _ _ _ _)
        | (with_reducible exact ih4 _ _ _ _ _)
        | (with_reducible exact ih5 _ _ _ _ _)
        | (with_reducible exact ih6 _ _ _ _ _)
        | (with_reducible exact ih7 _ _ _ _ _ _)
        | (with_reducible exact ih8 _ _ _)
        | (with_reducible exact ih9 _ _ _ _ _ _)
        | (with_reducible exact trystref12_terms.mono _ _)
        | (with_reducible exact LeO.refl _)
        | (with_reducible exact LeO.none _)
        | (with_reducible refine LeO.ite ?_ ?_)
        | (with_reducible refine LeO.bind ?_ (fun _ => ?_))
        | exact ih0 _ _ _
        | exact ih1 _ _
        | exact ih2 _ _ _
        | exact ih3 _ _ _ _ _
        | exact ih4 _ _ _ _ _
        | exact ih5 _ _ _ _ _
        | exact ih6 _ _ _ _ _
        | exact ih7 _ _ _ _ _ _
        | exact ih8 _ _ _
        | exact ih9 _ _ _ _ _ _
        | exact trystref12_terms.mono _ _
        | exact LeO.none _
        | refine LeO.ite ?_ ?_
        | refine LeO.bind ?_ (fun _ => ?_)
    · as_aux_lemma =>
        intro y0 y1 y2 y3 y4
        unfold trystref12_ParseDuration.j6
        repeat' first
        | (with_reducible exact ih0 _ _ _)
        | (with_reducible exact ih1 _ _)
        | (with_reducible exact ih2 _ _ _)
        | (with_reducible exact ih3 _ _ _ _ _)
        | (with_reducible exact ih4 _ _ _ _ _)
        | (with_reducible exact ih5 _ _ _ _ _)
        | (with_reducible exact ih6 _ _ _ _ _)
        | (with_reducible exact ih7 _ _ _ _ _ _)
        | (with_reducible exact ih8 _ _ _)
        | (with_reducible exact ih9 _ _ _ _ _ _)
        | (with_reducible exact trystref12_terms.mono _ _)
        | (with_reducible exact LeO.refl _)
        | (with_reducible exact LeO.none _)
        | (with_reducible refine LeO.ite ?_ ?_)
        | (with_reducible refine LeO.bind ?_ (fun _ => ?_))
        | exact ih0 _ _ _
        | exact ih1 _ _
        | exact ih2 _ _ _
        | exact ih3 _ _ _ _ _
        | exact ih4 _ _ _ _ _
        | exact ih5 _ _ _ _ _
        | exact ih6 _ _ _ _ _
        | exact ih7 _ _ _ _ _ _
        | exact ih8 _ _ _
        | exact ih9 _ _ _ _ _ _
        | exact trystref12_terms.mono _ _
        | exact LeO.none _
        | refine LeO.ite ?_ ?_
        | refine LeO.bind ?_ (fun _ => ?_)
    · as_aux_lemma =>
        intro y0 y1 y2 y3 y4
        unfold trystref12_ParseDuration.j7
        repeat' first
        | (with_reducible exact ih0 _ _ _)
        | (with_reducible exact ih1 _ _)
        | (with_reducible exact ih2 _ _ _)
        | (with_reducible exact ih3 _ _ _ _ _)
        | (with_reducible exact ih4 _ _ _ _ _)
        | (with_reducible exact ih5 _ _ _ _ _)
        | (with_reducible exact ih6 _ _ _ _ _)
        | (with_reducible exact ih7 _ _ _ _ _ _)
        | (with_reducible exact ih8 _ _ _)
        | (with_reducible exact ih9 _ _ _ _ _ _)
        | (with_reducible exact trystref12_terms.mono _ _)
        | (with_reducible exact LeO.refl _)
        | (with_reducible exact LeO.none _)
        | (with_reducible refine LeO.ite ?_ ?_)
        | (with_reducible refine LeO.bind ?_ (fun _ => ?_))
        | exact ih0 _ _ _
        | exact ih1 _ _
        | exact ih2 _ _ _
        | exact ih3 _ _ _ _ _
        | exact ih4 _ _ _ _ _
        | exact ih5 _ _ _ _ _
        | exact ih6 _ _ _ _ _
        | exact ih7 _ _ _ _ _ _
        | exact ih8 _ _ _
        | exact ih9 _ _ _ _ _ _
        | exact trystref12_terms.mono _ _
        | exact LeO.none _
        | refine LeO.ite ?_ ?_
        | refine LeO.bind ?_ (fun _ => ?_)
    · as_aux_lemma =>
        intro y0 y1 y2 y3 y4 y5
        unfold trystref12_ParseDuration.l1
        repeat' first
        | (with_reducible exact ih0 _ _ _)
        | (with_reducible exact ih1 _ _)
        | (with_reducible exact ih2 _ _ _)
        | (with_reducible exact ih3 _ _ _ _ _)
        | (with_reducible exact ih4 _ _ _ _ _)
        | (with_reducible exact ih5 _ _ _ _ _)
        | (with_reducible exact ih6 _ _ _ _ _)
        | (with_reducible exact ih7 _ _ _ _ _ _)
        | (with_reducible exact ih8 _ _ _)
        | (with_reducible exact ih9 _ _ _ _ _ _)
        | (with_reducible exact trystref12_terms.mono _ _)
        | (with_reducible exact LeO.refl _)
        | (with_reducible exact LeO.none _)
        | (with_reducible refine LeO.ite ?_ ?_)
        | (with_reducible refine LeO.bind ?_ (fun _ => ?_))
        | exact ih0 _ _ _
        | exact ih1 _ _
        | exact ih2 _ _ _
        | exact ih3 _ _ _ _ _
        | exact ih4 _ _ _ _ _
        | exact ih5 _ _ _ _ _
        | exact ih6 _ _ _ _ _
        | exact ih7 _ _ _ _ _ _
        | exact ih8 _ _ _
        | exact ih9 _ _ _ _ _ _
        | exact trystref12_terms.mono _ _
        | exact LeO.none _
        | refine LeO.ite ?_ ?_
        | refine LeO.bind ?_ (fun _ => ?_)
    · as_aux_lemma =>
        intro y0 y1 y2
        unfold trystref12_ParseDuration.j9
        repeat' first
        | (with_reducible exact ih0 _ _ _)
        | (with_reducible exact ih1 _ _)
        | (with_reducible exact ih2 _ _ _)
        | (with_reducible exact ih3 _ _ _ _ _)
        | (with_reducible exact ih4 _ _ _ _ _)
        | (with_reducible exact ih5 _ _ _ _ _)
        | (with_reducible exact ih6 _ _ _ _ _)
        | (with_reducible exact ih7 _ _ _ _ _ _)
        | (with_reducible exact ih8 _ _ _)
        | (with_reducible exact ih9 _ _ _ _ _ _)
        | (with_reducible exact trystref12_terms.mono _ _)
        | (with_reducible exact LeO.refl _)
        | (with_reducible exact LeO.none _)
        | (with_reducible refine LeO.ite ?_ ?_)
        | (with_reducible refine LeO.bind ?_ (fun _ => ?_))
        | exact ih0 _ _ _
        | exact ih1 _ _
        | exact ih2 _ _ _
        | exact ih3 _ _ _ _ _
        | exact ih4 _ _ _ _ _
        | exact ih5 _ _ _ _ _
        | exact ih6 _ _ _ _ _
        | exact ih7 _ _ _ _ _ _
        | exact ih8 _ _ _
        | exact ih9 _ _ _ _ _ _
        | exact trystref12_terms.mono _ _
        | exact LeO.none _
        | refine LeO.ite ?_ ?_
        | refine LeO.bind ?_ (fun _ => ?_)
    · as_aux_lemma =>
        intro y0 y1 y2 y3 y4 y5
        unfold trystref12_ParseDuration.j5
        repeat' first
        | (with_reducible exact ih0 _ _ _)
        | (with_reducible exact ih1 _ _)
        | (with_reducible exact ih2 _ _ _)
        | (with_reducible exact ih3 _ _ _ _ _)
        | (with_reducible exact ih4 _ _ _ _ _)
        | (with_reducible exact ih5 _ _ _ _ _)
        | (with_reducible exact ih6 _ _ _ _ _)
        | (with_reducible exact ih7 _ _ _ _ _ _)
        | (with_reducible exact ih8 _ _ _)
        | (with_reducible exact ih9 _ _ _ _ _ _)
        | (with_reducible exact trystref12_terms.mono _ _)
        | (with_reducible exact LeO.refl _)
        | (with_reducible exact LeO.none _)
        | (with_reducible refine LeO.ite ?_ ?_)
        | (with_reducible refine LeO.bind ?_ (fun _ => ?_))
        | exact ih0 _ _ _
        | exact ih1 _ _
        | exact ih2 _ _ _
        | exact ih3 _ _ _ _ _
        | exact ih4 _ _ _ _ _
        | exact ih5 _ _ _ _ _
        | exact ih6 _ _ _ _ _
        | exact ih7 _ _ _ _ _ _
        | exact ih8 _ _ _
        | exact ih9 _ _ _ _ _ _
        | exact trystref12_terms.mono _ _
        | exact LeO.none _
        | refine LeO.ite ?_ ?_
        | refine LeO.bind ?_ (fun _ => ?_)
theorem trystref12_ParseDuration.mono : ∀ a0 k, LeO (trystref12_ParseDuration.f k a0) (trystref12_ParseDuration.f (k + 1) a0) := by
  intro a0 k
  obtain ⟨ih0, ih1, ih2, ih3, ih4, ih5, ih6, ih7, ih8, ih9⟩ := trystref12_ParseDuration.mono_l k
  unfold trystref12_ParseDuration.f
  repeat' first
      | (with_reducible exact ih0 _ _ _)
      | (with_reducible exact ih1 _ _)
      | (with_reducible exact ih2 _ _ _)
      | (with_reducible exact ih3 _ _ _ _ _)
      | (with_reducible exact ih4 _ _ _ _ _)
      | (with_reducible exact ih5 _ _ _ _ _)
      | (with_reducible exact ih6 _ _ _ _ _)
      | (with_reducible exact ih7 _ _ _ _ _ _)
      | (with_reducible exact ih8 _ _ _)
      | (with_reducible exact ih9 _ _ _ _ _ _)
      | (with_reducible exact trystref12_terms.mono _ _)
      | (with_reducible exact LeO.refl _)
      | (with_reducible exact LeO.none _)
      | (with_reducible refine LeO.ite ?_ ?_)
      | (with_reducible refine LeO.bind ?_ (fun _ => ?_))
      | exact ih0 _ _ _
      | exact ih1 _ _
      | exact ih2 _ _ _
      | exact ih3 _ _ _ _ _
      | exact ih4 _ _ _ _ _
      | exact ih5 _ _ _ _ _
      | exact ih6 _ _ _ _ _
      | exact ih7 _ _ _ _ _ _
      | exact ih8 _ _ _
      | exact ih9 _ _ _ _ _ _
      | exact trystref12_terms.mono _ _
      | exact LeO.none _
      | refine LeO.ite ?_ ?_
      | refine LeO.bind ?_ (fun _ => ?_)
set_option maxHeartbeats 8000000 in
set_option maxRecDepth 100000 in
theorem trystref12_ParseDuration.calls (k : Nat) (a0 : ByteArray) (r1 : Int) (r2 : Int) (w : World) (h : trystref12_ParseDuration.f k a0 = some (r1, r2)) :
    Calls Tryd.prog 25 #[.string a0] w fun e w' => e = .returned (.tuple #[.int .i64 r1, .int .i64 r2]) ∧ Below w.heap.size w w' := by
  have HB := Aside0.mk (Below.refl w.heap.size w)
  have H : (if (a0.size : Int) > 0 then (if 0 < (a0.size : Int) then (if (bt a0 0) = 45 then (trystref12_ParseDuration.j0 k a0 1 true) else (trystref12_ParseDuration.j0 k a0 1 ((bt a0 0) == 43))) else (none)) else (trystref12_ParseDuration.j0 k a0 1 false)) = some (r1, r2) := h
  clear h
  have HC2 := Aside0.mk H
  clear H
  go_enter Tryd.func25, Tryd.ntmps25
  go_upto_region 2 with (fail)
  go_cut [27] (fun v27 wc => ∃ (kq : Nat) (x27_1 : Bool), v27 = .bool x27_1 ∧ Aside0 (trystref12_ParseDuration.j0 kq a0 1 x27_1 = some (r1, r2)) ∧ Aside0 (kq ≤ k) ∧ Aside0 (Below w.heap.size w wc))
  case first =>
    have H := HC2.out
    clear HC2
    by_cases c3 : (a0.size : Int) > 0
    · as_aux_lemma =>
        rw [if_pos c3] at H
        have c3b0 : decide (0 < (a0.size : Int)) = true := decide_eq_true c3
        have c3b1 : decide (0 < a0.size) = true := decide_eq_true (by omega)
        clear c3
        (first | rw [c3b0] | (simp only [i64_w, i32_w]; rw [c3b0]) | skip)
        by_cases c4 : 0 < (a0.size : Int)
        · rw [if_pos c4] at H
          have c4b0 : decide (0 < (a0.size : Int)) = true := decide_eq_true c4
          have c4b1 : decide (0 < a0.size) = true := decide_eq_true (by omega)
          clear c4
          by_cases c6 : (bt a0 0) = 45
          · rw [if_pos c6] at H
            have c6b0 : ((bt a0 0) == 45) = true := beq_iff_eq.mpr c6
            have c6b1 : ((bt a0 0) != 45) = false := bne_eq_false_iff_eq.mpr c6
            clear c6
            have H' := Aside0.mk H
            clear H
            have p5 : 0 ≤ (0 : Int) := (by omega)
            have q5 : 0 < a0.size := (by have : (0 : Int) < (a0.size : Int) := of_decide_eq_true (by first | (with_reducible assumption) | assumption); omega)
            have hx5 : ∀ h : 0 < a0.size, ((a0[0]'h).toNat : Int) = bt a0 0 := bt_at a0 0
            clear p5
            have qi5 : (0 < (a0.size : Int)) = True := eq_true (of_decide_eq_true (by first | (with_reducible assumption) | assumption))
            replace q5 := eq_true q5
            go_wp2
            go_meet
            case rel => exact ⟨_, (true), (by first | rfl | (simp; done) | (simp [*]; done)), H', ⟨by first | omega | exact Nat.le_refl _⟩, ⟨by repeat (first | (with_reducible first | exact HB.out | apply below_alloc | apply pw_below_drewN | apply below_drew1) | exact HB.out)⟩⟩
          · rw [if_neg c6] at H
            have c6b0 : ((bt a0 0) == 45) = false := beq_eq_false_iff_ne.mpr c6
            have c6b1 : ((bt a0 0) != 45) = true := bne_iff_ne.mpr c6
            have H' := Aside0.mk H
            clear H
            have p5 : 0 ≤ (0 : Int) := (by omega)
            have q5 : 0 < a0.size := (by have : (0 : Int) < (a0.size : Int) := of_decide_eq_true (by first | (with_reducible assumption) | assumption); omega)
            have hx5 : ∀ h : 0 < a0.size, ((a0[0]'h).toNat : Int) = bt a0 0 := bt_at a0 0
            clear p5
            have qi5 : (0 < (a0.size : Int)) = True := eq_true (of_decide_eq_true (by first | (with_reducible assumption) | assumption))
            replace q5 := eq_true q5
            have p7 : 0 ≤ (0 : Int) := (by omega)
            have q7 : 0 < a0.size := (by have : (0 : Int) < (a0.size : Int) := of_decide_eq_true (by first | (with_reducible assumption) | assumption); omega)
            have hx7 : ∀ h : 0 < a0.size, ((a0[0]'h).toNat : Int) = bt a0 0 := bt_at a0 0
            clear p7
            have qi7 : (0 < (a0.size : Int)) = True := eq_true (of_decide_eq_true (by first | (with_reducible assumption) | assumption))
            replace q7 := eq_true q7
            go_wp2
            go_meet
            case rel => exact ⟨_, (((bt a0 0) == 43)), (by first | rfl | (simp; done) | (simp [*]; done)), H', ⟨by first | omega | exact Nat.le_refl _⟩, ⟨by repeat (first | (with_reducible first | exact HB.out | apply below_alloc | apply pw_below_drewN | apply below_drew1) | exact HB.out)⟩⟩
        · rw [if_neg c4] at H
          exact absurd H (by simp)
    · as_aux_lemma =>
        rw [if_neg c3] at H
        have c3b0 : decide (0 < (a0.size : Int)) = false := decide_eq_false c3
        have c3b1 : decide (0 < a0.size) = false := decide_eq_false (by omega)
        clear c3
        (first | rw [c3b0] | (simp only [i64_w, i32_w]; rw [c3b0]) | skip)
        have H' := Aside0.mk H
        clear H
        go_wp2
        go_meet
        case rel => exact ⟨_, (false), (by first | rfl | (simp; done) | (simp [*]; done)), H', ⟨by first | omega | exact Nat.le_refl _⟩, ⟨by repeat (first | (with_reducible first | exact HB.out | apply below_alloc | apply pw_below_drewN | apply below_drew1) | exact HB.out)⟩⟩
  case rest =>
    clear HC2
    try clear c2
    try clear p2
    try clear c3
    try clear c3b0
    try clear c3b1
    try clear c4
    try clear c4b0
    try clear c4b1
    try clear p5
    try clear q5
    try clear hx5
    try clear qi5
    try clear c6
    try clear c6b0
    try clear c6b1
    try clear p7
    try clear q7
    try clear hx7
    try clear qi7
    try clear p5
    try clear p7
    try clear q5
    try clear q7
    obtain ⟨kq, x27_1, rfl, HA, HJ1, HB⟩ := hcut
    cases kq with
    | zero => exact absurd HA.out (by simp [trystref12_ParseDuration.j0])
    | succ kj1 =>
      have H := HA.out
      clear HA
      simp only [trystref12_ParseDuration.j0] at H
      have HC8 := Aside0.mk H
      clear H
      go_upto_if 27 with (fail)
      go_cut [0, 4] (fun v0 v4 wc => ∃ (kq : Nat) (x0_7 : ByteArray) (x4_7 : Int), v0 = .string x0_7 ∧ v4 = .int .i64 x4_7 ∧ Aside0 (trystref12_ParseDuration.j1 kq x0_7 x4_7 = some (r1, r2)) ∧ Aside0 (kq ≤ kj1) ∧ Aside0 (Below w.heap.size w wc))
      case first =>
        have H := HC8.out
        clear HC8
        by_cases c9 : x27_1 = true
        · as_aux_lemma =>
            subst c9
            have H1 : (if 0 < (a0.size : Int) then (if (bt a0 0) = 45 then (if 1 ≤ (a0.size : Int) then (trystref12_ParseDuration.j1 kj1 (a0.extract 1 a0.size) (-1)) else (none)) else (if 1 ≤ (a0.size : Int) then (trystref12_ParseDuration.j1 kj1 (a0.extract 1 a0.size) 1) else (none))) else (none)) = some (r1, r2) := by rw [if_pos rfl] at H; exact H
            clear H
            have H := H1
            clear H1
            by_cases c10 : 0 < (a0.size : Int)
            · rw [if_pos c10] at H
              have c10b0 : decide (0 < (a0.size : Int)) = true := decide_eq_true c10
              have c10b1 : decide (0 < a0.size) = true := decide_eq_true (by omega)
              clear c10
              (first | rw [c10b0] | (simp only [i64_w, i32_w]; rw [c10b0]) | skip)
              by_cases c12 : (bt a0 0) = 45
              · rw [if_pos c12] at H
                have c12b0 : ((bt a0 0) == 45) = true := beq_iff_eq.mpr c12
                have c12b1 : ((bt a0 0) != 45) = false := bne_eq_false_iff_eq.mpr c12
                clear c12
                by_cases c13 : 1 ≤ (a0.size : Int)
                · rw [if_pos c13] at H
                  have c13b0 := eq_true c13
                  have c13b1 : decide (1 ≤ (a0.size : Int)) = true := decide_eq_true c13
                  clear c13
                  have H' := Aside0.mk H
                  clear H
                  have p11 : 0 ≤ (0 : Int) := (by omega)
                  have q11 : 0 < a0.size := (by have : (0 : Int) < (a0.size : Int) := of_decide_eq_true (by first | (with_reducible assumption) | assumption); omega)
                  have hx11 : ∀ h : 0 < a0.size, ((a0[0]'h).toNat : Int) = bt a0 0 := bt_at a0 0
                  clear p11
                  have qi11 : (0 < (a0.size : Int)) = True := eq_true (of_decide_eq_true (by first | (with_reducible assumption) | assumption))
                  replace q11 := eq_true q11
                  go_wp2
                  go_meet
                  case rel => exact ⟨_, (a0.extract 1 a0.size), ((-1)), (by first | rfl | (simp; done) | (simp [*]; done)), (by first | rfl | (simp; done) | (simp [*]; done)), H', ⟨by have := HJ1.out; first | omega | exact Nat.le_refl _⟩, ⟨by repeat (first | (with_reducible first | exact HB.out | apply below_alloc | apply pw_below_drewN | apply below_drew1) | exact HB.out)⟩⟩
                · rw [if_neg c13] at H
                  exact absurd H (by simp)
              · rw [if_neg c12] at H
                have c12b0 : ((bt a0 0) == 45) = false := beq_eq_false_iff_ne.mpr c12
                have c12b1 : ((bt a0 0) != 45) = true := bne_iff_ne.mpr c12
                by_cases c14 : 1 ≤ (a0.size : Int)
                · rw [if_pos c14] at H
                  have c14b0 := eq_true c14
                  have c14b1 : decide (1 ≤ (a0.size : Int)) = true := decide_eq_true c14
                  clear c14
                  have H' := Aside0.mk H
                  clear H
                  have p11 : 0 ≤ (0 : Int) := (by omega)
                  have q11 : 0 < a0.size := (by have : (0 : Int) < (a0.size : Int) := of_decide_eq_true (by first | (with_reducible assumption) | assumption); omega)
                  have hx11 : ∀ h : 0 < a0.size, ((a0[0]'h).toNat : Int) = bt a0 0 := bt_at a0 0
                  clear p11
                  have qi11 : (0 < (a0.size : Int)) = True := eq_true (of_decide_eq_true (by first | (with_reducible assumption) | assumption))
                  replace q11 := eq_true q11
                  go_wp2
                  go_meet
                  case rel => exact ⟨_, (a0.extract 1 a0.size), (1), (by first | rfl | (simp; done) | (simp [*]; done)), (by first | rfl | (simp; done) | (simp [*]; done)), H', ⟨by have := HJ1.out; first | omega | exact Nat.le_refl _⟩, ⟨by repeat (first | (with_reducible first | exact HB.out | apply below_alloc | apply pw_below_drewN | apply below_drew1) | exact HB.out)⟩⟩
                · rw [if_neg c14] at H
                  exact absurd H (by simp)
            · rw [if_neg c10] at H
              exact absurd H (by simp)
        · as_aux_lemma =>
            replace c9 := Bool.eq_false_iff.mpr c9
            subst c9
            have H1 : (trystref12_ParseDuration.j1 kj1 a0 1) = some (r1, r2) := by rw [if_neg (show ¬ (false = true) by decide)] at H; exact H
            clear H
            have H := H1
            clear H1
            have H' := Aside0.mk H
            clear H
            go_wp2
            go_meet
            case rel => exact ⟨_, (a0), (1), (by first | rfl | (simp; done) | (simp [*]; done)), (by first | rfl | (simp; done) | (simp [*]; done)), H', ⟨by have := HJ1.out; first | omega | exact Nat.le_refl _⟩, ⟨by repeat (first | (with_reducible first | exact HB.out | apply below_alloc | apply pw_below_drewN | apply below_drew1) | exact HB.out)⟩⟩
      case rest =>
        clear HC8
        try clear c1
        try clear p1
        try clear q1
        try clear hx1
        try clear qi1
        try clear c2
        try clear p2
        try clear c3
        try clear c3b0
        try clear c3b1
        try clear c4
        try clear c4b0
        try clear c4b1
        try clear p5
        try clear q5
        try clear hx5
        try clear qi5
        try clear c6
        try clear c6b0
        try clear c6b1
        try clear p7
        try clear q7
        try clear hx7
        try clear qi7
        try clear c9
        try clear c10
        try clear c10b0
        try clear c10b1
        try clear p11
        try clear q11
        try clear hx11
        try clear qi11
        try clear c12
        try clear c12b0
        try clear c12b1
        try clear c13
        try clear c13b0
        try clear c13b1
        try clear c14
        try clear c14b0
        try clear c14b1
        try clear p11
        try clear p2
        try clear p5
        try clear p7
        try clear q11
        try clear q5
        try clear q7
        obtain ⟨kq, x0_7, x4_7, rfl, rfl, HA, HJ7, HB⟩ := hcut
        cases kq with
        | zero => exact absurd HA.out (by simp [trystref12_ParseDuration.j1])
        | succ kj7 =>
          have H := HA.out
          clear HA
          simp only [trystref12_ParseDuration.j1] at H
          have HC15 := Aside0.mk H
          clear H
          go_upto_region 6 with (fail)
          go_cut [40] (fun v40 wc => ∃ (kq : Nat) (x40_14 : Bool), v40 = .bool x40_14 ∧ Aside0 (trystref12_ParseDuration.j2 kq x0_7 x4_7 x40_14 = some (r1, r2)) ∧ Aside0 (kq ≤ kj7) ∧ Aside0 (Below w.heap.size w wc))
          case first =>
            have H := HC15.out
            clear HC15
            by_cases c16 : (x0_7.size : Int) = 0
            · as_aux_lemma =>
                rw [if_pos c16] at H
                have c16b0 : ((x0_7.size : Int) == 0) = true := beq_iff_eq.mpr c16
                have c16b1 : ((x0_7.size : Int) != 0) = false := bne_eq_false_iff_eq.mpr c16
                clear c16
                (first | rw [c16b0] | (simp only [i64_w, i32_w]; rw [c16b0]) | skip)
                have H' := Aside0.mk H
                clear H
                go_wp2
                go_meet
                case rel => exact ⟨_, (true), (by first | rfl | (simp; done) | (simp [*]; done)), H', ⟨by have := HJ1.out; have := HJ7.out; first | omega | exact Nat.le_refl _⟩, ⟨by repeat (first | (with_reducible first | exact HB.out | apply below_alloc | apply pw_below_drewN | apply below_drew1) | exact HB.out)⟩⟩
            · as_aux_lemma =>
                rw [if_neg c16] at H
                have c16b0 : ((x0_7.size : Int) == 0) = false := beq_eq_false_iff_ne.mpr c16
                have c16b1 : ((x0_7.size : Int) != 0) = true := bne_iff_ne.mpr c16
                (first | rw [c16b0] | (simp only [i64_w, i32_w]; rw [c16b0]) | skip)
                by_cases c17 : 0 < (x0_7.size : Int)
                · rw [if_pos c17] at H
                  have c17b0 : decide (0 < (x0_7.size : Int)) = true := decide_eq_true c17
                  have c17b1 : decide (0 < x0_7.size) = true := decide_eq_true (by omega)
                  clear c17
                  have H' := Aside0.mk H
                  clear H
                  have p18 : 0 ≤ (0 : Int) := (by omega)
                  have q18 : 0 < x0_7.size := (by have : (0 : Int) < (x0_7.size : Int) := of_decide_eq_true (by first | (with_reducible assumption) | assumption); omega)
                  have hx18 : ∀ h : 0 < x0_7.size, ((x0_7[0]'h).toNat : Int) = bt x0_7 0 := bt_at x0_7 0
                  clear p18
                  have qi18 : (0 < (x0_7.size : Int)) = True := eq_true (of_decide_eq_true (by first | (with_reducible assumption) | assumption))
                  replace q18 := eq_true q18
                  go_wp2
                  go_meet
                  case rel => exact ⟨_, (((bt x0_7 0) != 80)), (by first | rfl | (simp; done) | (simp [*]; done)), H', ⟨by have := HJ1.out; have := HJ7.out; first | omega | exact Nat.le_refl _⟩, ⟨by repeat (first | (with_reducible first | exact HB.out | apply below_alloc | apply pw_below_drewN | apply below_drew1) | exact HB.out)⟩⟩
                · rw [if_neg c17] at H
                  exact absurd H (by simp)
          case rest =>
            clear HC15
            try clear c1
            try clear p1
            try clear q1
            try clear hx1
            try clear qi1
            try clear c2
            try clear p2
            try clear c3
            try clear c3b0
            try clear c3b1
            try clear c4
            try clear c4b0
            try clear c4b1
            try clear p5
            try clear q5
            try clear hx5
            try clear qi5
            try clear c6
            try clear c6b0
            try clear c6b1
            try clear p7
            try clear q7
            try clear hx7
            try clear qi7
            try clear c9
            try clear c10
            try clear c10b0
            try clear c10b1
            try clear p11
            try clear q11
            try clear hx11
            try clear qi11
            try clear c12
            try clear c12b0
            try clear c12b1
            try clear c13
            try clear c13b0
            try clear c13b1
            try clear c14
            try clear c14b0
            try clear c14b1
            try clear c16
            try clear c16b0
            try clear c16b1
            try clear c17
            try clear c17b0
            try clear c17b1
            try clear p18
            try clear q18
            try clear hx18
            try clear qi18
            try clear p1
            try clear p11
            try clear p18
            try clear p2
            try clear p5
            try clear p7
            try clear q1
            try clear q11
            try clear q18
            try clear q5
            try clear q7
            obtain ⟨kq, x40_14, rfl, HA, HJ14, HB⟩ := hcut
            cases kq with
            | zero => exact absurd HA.out (by simp [trystref12_ParseDuration.j2])
            | succ kj14 =>
              have H := HA.out
              clear HA
              simp only [trystref12_ParseDuration.j2] at H
              by_cases c19 : x40_14 = true
              · as_aux_lemma =>
                  subst c19
                  have H1 : (some (0, 7)) = some (r1, r2) := by rw [if_pos rfl] at H; exact H
                  clear H
                  have H := H1
                  clear H1
                  simp only [Option.some.injEq, Prod.mk.injEq] at H
                  obtain ⟨rfl, rfl⟩ := H
                  go_wp2
                  go_ret2
                  exact ⟨by first | rfl | (simp [errW_none, errW_some] <;> rfl) | (simp [*, errW_none, errW_some] <;> rfl), by repeat (first | (with_reducible first | exact HB.out | apply below_alloc | apply pw_below_drewN | apply below_drew1) | exact HB.out)⟩
              · replace c19 := Bool.eq_false_iff.mpr c19
                subst c19
                have H1 : (if 1 ≤ (x0_7.size : Int) then (trystref12_ParseDuration.l0 kj14 (x0_7.extract 1 x0_7.size) x4_7 (-1) ((x0_7.extract 1 x0_7.size).size : Int) 0) else (none)) = some (r1, r2) := by rw [if_neg (show ¬ (false = true) by decide)] at H; exact H
                clear H
                have H := H1
                clear H1
                by_cases c20 : 1 ≤ (x0_7.size : Int)
                · rw [if_pos c20] at H
                  have c20b0 := eq_true c20
                  have c20b1 : decide (1 ≤ (x0_7.size : Int)) = true := decide_eq_true c20
                  clear c20
                  obtain ⟨y0_7, hy0_7⟩ : ∃ y, x0_7.extract 1 x0_7.size = y := ⟨_, rfl⟩
                  rw [hy0_7] at H
                  have H' := Aside0.mk H
                  clear H
                  go_wp2
                  go_loopg [5, 45] kj14 (fun kq v5 v45 w' => ∃ (x5_4 : Int) (x45_4 : Int), v5 = .int .i64 x5_4 ∧ v45 = .int .i64 x45_4 ∧ Aside0 (trystref12_ParseDuration.l0 kq y0_7 x4_7 x5_4 (y0_7.size : Int) x45_4 = some (r1, r2)) ∧ Aside0 (kq ≤ kj14) ∧ Aside0 (Below w.heap.size w w'))
                  case atStart => exact ⟨((-1)), (0), (by first | rfl | (simp; done) | (simp [*]; done)), (by first | rfl | (simp; done) | (simp [*]; done)), H', ⟨Nat.le_refl _⟩, ⟨by repeat (first | (with_reducible first | exact HB.out | apply below_alloc | apply pw_below_drewN | apply below_drew1) | exact HB.out)⟩⟩
                  case round =>
                    clear H'
                    try clear c1
                    try clear p1
                    try clear q1
                    try clear hx1
                    try clear qi1
                    try clear c2
                    try clear p2
                    try clear c3
                    try clear c3b0
                    try clear c3b1
                    try clear c4
                    try clear c4b0
                    try clear c4b1
                    try clear p5
                    try clear q5
                    try clear hx5
                    try clear qi5
                    try clear c6
                    try clear c6b0
                    try clear c6b1
                    try clear p7
                    try clear q7
                    try clear hx7
                    try clear qi7
                    try clear c9
                    try clear c10
                    try clear c10b0
                    try clear c10b1
                    try clear p11
                    try clear q11
                    try clear hx11
                    try clear qi11
                    try clear c12
                    try clear c12b0
                    try clear c12b1
                    try clear c13
                    try clear c13b0
                    try clear c13b1
                    try clear c14
                    try clear c14b0
                    try clear c14b1
                    try clear c16
                    try clear c16b0
                    try clear c16b1
                    try clear c17
                    try clear c17b0
                    try clear c17b1
                    try clear p18
                    try clear q18
                    try clear hx18
                    try clear qi18
                    try clear c19
                    try clear c20
                    try clear c20b0
                    try clear c20b1
                    try clear p1
                    try clear p11
                    try clear p18
                    try clear p2
                    try clear p5
                    try clear p7
                    try clear q1
                    try clear q11
                    try clear q18
                    try clear q5
                    try clear q7
                    obtain ⟨x5_4, x45_4, rfl, rfl, HA, HK4, HB⟩ := hrel
                    cases gk with
                    | zero => exact absurd HA.out (by simp [trystref12_ParseDuration.l0])
                    | succ k4 =>
                      have H := HA.out
                      clear HA
                      simp only [trystref12_ParseDuration.l0] at H
                      by_cases c21 : x45_4 < (y0_7.size : Int)
                      · rw [if_pos c21] at H
                        have c21b0 : decide (x45_4 < (y0_7.size : Int)) = true := decide_eq_true c21
                        (try (have c21b0x := c21b0; simp only [ByteArray.size_extract, Nat.min_self] at c21b0x))
                        clear c21
                        by_cases c22 : 0 ≤ x45_4
                        · as_aux_lemma =>
                            rw [if_pos c22] at H
                            have c22b0 : decide (0 ≤ x45_4) = true := decide_eq_true c22
                            clear c22
                            by_cases c23 : x45_4 < (y0_7.size : Int)
                            · rw [if_pos c23] at H
                              have c23b0 : decide (x45_4 < (y0_7.size : Int)) = true := decide_eq_true c23
                              (try (have c23b0x := c23b0; simp only [ByteArray.size_extract, Nat.min_self] at c23b0x))
                              clear c23
                              by_cases c25 : (bt y0_7 x45_4) = 84
                              · rw [if_pos c25] at H
                                have c25b0 : ((bt y0_7 x45_4) == 84) = true := beq_iff_eq.mpr c25
                                have c25b1 : ((bt y0_7 x45_4) != 84) = false := bne_eq_false_iff_eq.mpr c25
                                clear c25
                                by_cases c26 : x5_4 < 0
                                · rw [if_pos c26] at H
                                  have c26b0 : decide (x5_4 < 0) = true := decide_eq_true c26
                                  clear c26
                                  have H' := Aside0.mk H
                                  clear H
                                  have p24 : 0 ≤ (x45_4 : Int) := of_decide_eq_true (by first | (with_reducible assumption) | assumption)
                                  have q24 : x45_4 < (y0_7.size : Int) := of_decide_eq_true (by first | (with_reducible assumption) | assumption)
                                  have hx24 := bt_at y0_7 x45_4
                                  replace p24 := eq_true p24
                                  replace q24 := eq_true q24
                                  go_wp2
                                  go_roundg k4
                                  case measure => have := HJ1.out; have := HJ7.out; have := HJ14.out; have := HK4.out; omega
                                  case rel => exact ⟨(x45_4), (wrap64 (x45_4 + 1)), (by first | rfl | (simp; done) | (simp [*]; done)), (by first | rfl | (simp; done) | (simp [*]; done)), H', ⟨by have := HJ1.out; have := HJ7.out; have := HJ14.out; have := HK4.out; omega⟩, ⟨by repeat (first | (with_reducible first | exact HB.out | apply below_alloc | apply pw_below_drewN | apply below_drew1) | exact HB.out)⟩⟩
                                · rw [if_neg c26] at H
                                  have c26b0 : decide (x5_4 < 0) = false := decide_eq_false c26
                                  clear c26
                                  have H' := Aside0.mk H
                                  clear H
                                  have p24 : 0 ≤ (x45_4 : Int) := of_decide_eq_true (by first | (with_reducible assumption) | assumption)
                                  have q24 : x45_4 < (y0_7.size : Int) := of_decide_eq_true (by first | (with_reducible assumption) | assumption)
                                  have hx24 := bt_at y0_7 x45_4
                                  replace p24 := eq_true p24
                                  replace q24 := eq_true q24
                                  go_wp2
                                  go_roundg k4
                                  case measure => have := HJ1.out; have := HJ7.out; have := HJ14.out; have := HK4.out; omega
                                  case rel => exact ⟨(x5_4), (wrap64 (x45_4 + 1)), (by first | rfl | (simp; done) | (simp [*]; done)), (by first | rfl | (simp; done) | (simp [*]; done)), H', ⟨by have := HJ1.out; have := HJ7.out; have := HJ14.out; have := HK4.out; omega⟩, ⟨by repeat (first | (with_reducible first | exact HB.out | apply below_alloc | apply pw_below_drewN | apply below_drew1) | exact HB.out)⟩⟩
                              · rw [if_neg c25] at H
                                have c25b0 : ((bt y0_7 x45_4) == 84) = false := beq_eq_false_iff_ne.mpr c25
                                have c25b1 : ((bt y0_7 x45_4) != 84) = true := bne_iff_ne.mpr c25
                                have H' := Aside0.mk H
                                clear H
                                have p24 : 0 ≤ (x45_4 : Int) := of_decide_eq_true (by first | (with_reducible assumption) | assumption)
                                have q24 : x45_4 < (y0_7.size : Int) := of_decide_eq_true (by first | (with_reducible assumption) | assumption)
                                have hx24 := bt_at y0_7 x45_4
                                replace p24 := eq_true p24
                                replace q24 := eq_true q24
                                go_wp2
                                go_roundg k4
                                case measure => have := HJ1.out; have := HJ7.out; have := HJ14.out; have := HK4.out; omega
                                case rel => exact ⟨(x5_4), (wrap64 (x45_4 + 1)), (by first | rfl | (simp; done) | (simp [*]; done)), (by first | rfl | (simp; done) | (simp [*]; done)), H', ⟨by have := HJ1.out; have := HJ7.out; have := HJ14.out; have := HK4.out; omega⟩, ⟨by repeat (first | (with_reducible first | exact HB.out | apply below_alloc | apply pw_below_drewN | apply below_drew1) | exact HB.out)⟩⟩
                            · rw [if_neg c23] at H
                              exact absurd H (by simp)
                        · rw [if_neg c22] at H
                          exact absurd H (by simp)
                      · rw [if_neg c21] at H
                        have c21b0 : decide (x45_4 < (y0_7.size : Int)) = false := decide_eq_false c21
                        (try (have c21b0x := c21b0; simp only [ByteArray.size_extract, Nat.min_self] at c21b0x))
                        clear c21
                        have HC27 := Aside0.mk H
                        clear H
                        go_upto_if 60 with (fail)
                        go_cut [8] (fun v8 wc => ∃ (kq : Nat) (x8_26 : ByteArray), v8 = .string x8_26 ∧ Aside0 (trystref12_ParseDuration.j4 kq y0_7 x4_7 x5_4 0 x8_26 = some (r1, r2)) ∧ Aside0 (kq ≤ k4) ∧ Aside0 (Below w.heap.size w wc))
                        case first =>
                          have H := HC27.out
                          clear HC27
                          by_cases c28 : x5_4 ≥ 0
                          · as_aux_lemma =>
                              rw [if_pos c28] at H
                              have c28b0 : decide (0 ≤ x5_4) = true := decide_eq_true c28
                              clear c28
                              (first | rw [c28b0] | (simp only [i64_w, i32_w]; rw [c28b0]) | skip)
                              by_cases c29 : 0 ≤ x5_4
                              · rw [if_pos c29] at H
                                have c29b0 := eq_true c29
                                have c29b1 : decide (0 ≤ x5_4) = true := decide_eq_true c29
                                clear c29
                                by_cases c30 : x5_4 ≤ (y0_7.size : Int)
                                · rw [if_pos c30] at H
                                  have c30b0 := eq_true c30
                                  have c30b1 : decide (x5_4 ≤ (y0_7.size : Int)) = true := decide_eq_true c30
                                  (try (have c30b1x := c30b1; simp only [ByteArray.size_extract, Nat.min_self] at c30b1x))
                                  clear c30
                                  have H' := Aside0.mk H
                                  clear H
                                  go_wp2
                                  go_meet
                                  case rel => exact ⟨_, (y0_7.extract 0 (x5_4 : Int).toNat), (by first | rfl | (simp; done) | (simp [*]; done)), H', ⟨by have := HJ1.out; have := HJ7.out; have := HJ14.out; have := HK4.out; first | omega | exact Nat.le_refl _⟩, ⟨by repeat (first | (with_reducible first | exact HB.out | apply below_alloc | apply pw_below_drewN | apply below_drew1) | exact HB.out)⟩⟩
                                · rw [if_neg c30] at H
                                  exact absurd H (by simp)
                              · rw [if_neg c29] at H
                                exact absurd H (by simp)
                          · as_aux_lemma =>
                              rw [if_neg c28] at H
                              have c28b0 : decide (0 ≤ x5_4) = false := decide_eq_false c28
                              clear c28
                              (first | rw [c28b0] | (simp only [i64_w, i32_w]; rw [c28b0]) | skip)
                              have H' := Aside0.mk H
                              clear H
                              go_wp2
                              go_meet
                              case rel => exact ⟨_, (y0_7), (by first | rfl | (simp; done) | (simp [*]; done)), H', ⟨by have := HJ1.out; have := HJ7.out; have := HJ14.out; have := HK4.out; first | omega | exact Nat.le_refl _⟩, ⟨by repeat (first | (with_reducible first | exact HB.out | apply below_alloc | apply pw_below_drewN | apply below_drew1) | exact HB.out)⟩⟩
                        case rest =>
                          clear HC27
                          try clear c1
                          try clear p1
                          try clear q1
                          try clear hx1
                          try clear qi1
                          try clear c2
                          try clear p2
                          try clear q2
                          try clear hx2
                          try clear c3
                          try clear c3b0
                          try clear c3b1
                          try clear c4
                          try clear c4b0
                          try clear c4b1
                          try clear p5
                          try clear q5
                          try clear hx5
                          try clear qi5
                          try clear c6
                          try clear c6b0
                          try clear c6b1
                          try clear p6
                          try clear p7
                          try clear q7
                          try clear hx7
                          try clear qi7
                          try clear c9
                          try clear c10
                          try clear c10b0
                          try clear c10b1
                          try clear p11
                          try clear q11
                          try clear hx11
                          try clear qi11
                          try clear c12
                          try clear c12b0
                          try clear c12b1
                          try clear c13
                          try clear c13b0
                          try clear c13b1
                          try clear c14
                          try clear c14b0
                          try clear c14b1
                          try clear c16
                          try clear c16b0
                          try clear c16b1
                          try clear c17
                          try clear c17b0
                          try clear c17b1
                          try clear p18
                          try clear q18
                          try clear hx18
                          try clear qi18
                          try clear c19
                          try clear c20
                          try clear c20b0
                          try clear c20b1
                          try clear c21
                          try clear c21b0
                          try clear c22
                          try clear c22b0
                          try clear c23
                          try clear c23b0
                          try clear p24
                          try clear q24
                          try clear hx24
                          try clear c25
                          try clear c25b0
                          try clear c25b1
                          try clear c26
                          try clear c26b0
                          try clear c28
                          try clear c28b0
                          try clear c29
                          try clear c29b0
                          try clear c29b1
                          try clear c30
                          try clear c30b0
                          try clear c30b1
                          try clear p1
                          try clear p11
                          try clear p18
                          try clear p2
                          try clear p24
                          try clear p5
                          try clear p7
                          try clear q1
                          try clear q11
                          try clear q18
                          try clear q24
                          try clear q5
                          try clear q7
                          obtain ⟨kq, x8_26, rfl, HA, HJ26, HB⟩ := hcut
                          cases kq with
                          | zero => exact absurd HA.out (by simp [trystref12_ParseDuration.j4])
                          | succ kj26 =>
                            have H := HA.out
                            clear HA
                            simp only [trystref12_ParseDuration.j4] at H
                            have HC31 := Aside0.mk H
                            clear H
                            go_upto_if 65 with (fail)
                            go_cut [7] (fun v7 wc => ∃ (kq : Nat) (x7_30 : Int), v7 = .int .i64 x7_30 ∧ Aside0 (trystref12_ParseDuration.j6 kq y0_7 x4_7 x5_4 x7_30 x8_26 = some (r1, r2)) ∧ Aside0 (kq ≤ kj26) ∧ Aside0 (Below w.heap.size w wc))
                            case first =>
                              have H := HC31.out
                              clear HC31
                              by_cases c32 : x8_26.toList = ([] : List UInt8)
                              · as_aux_lemma =>
                                  rw [if_pos c32] at H
                                  have c32b0 : (x8_26.toList == ([] : List UInt8)) = true := beq_iff_eq.mpr c32
                                  have c32e0 : (x8_26).toList.isEmpty = true := List.isEmpty_iff.mpr c32
                                  have c32b1 : (x8_26.toList != ([] : List UInt8)) = false := bne_eq_false_iff_eq.mpr c32
                                  clear c32
                                  (first | rw [c32b0] | (simp only [i64_w, i32_w]; rw [c32b0]) | skip) <;> (try rw [c32e0])
                                  have H' := Aside0.mk H
                                  clear H
                                  go_wp2
                                  go_meet
                                  case rel => exact ⟨_, (0), (by first | rfl | (simp; done) | (simp [*]; done)), H', ⟨by have := HJ1.out; have := HJ7.out; have := HJ14.out; have := HK4.out; have := HJ26.out; first | omega | exact Nat.le_refl _⟩, ⟨by repeat (first | (with_reducible first | exact HB.out | apply below_alloc | apply pw_below_drewN | apply below_drew1) | exact HB.out)⟩⟩
                              · rw [if_neg c32] at H
                                have c32b0 : (x8_26.toList == ([] : List UInt8)) = false := beq_eq_false_iff_ne.mpr c32
                                have c32e0 : (x8_26).toList.isEmpty = false := by
                                  rw [← Bool.not_eq_true, List.isEmpty_iff]; exact c32
                                have c32b1 : (x8_26.toList != ([] : List UInt8)) = true := bne_iff_ne.mpr c32
                                (first | rw [c32b0] | (simp only [i64_w, i32_w]; rw [c32b0]) | skip) <;> (try rw [c32e0])
                                replace H := Option.bind_eq_some_iff.mp H
                                obtain ⟨⟨t468, t469⟩, A330, H⟩ := H
                                replace H : (if t469 = true then (if (t468.length : Int) = 1 then (if 0 < (t468.length : Int) then (if ((rd_T61 t468 0).f1) = 68 then (trystref12_ParseDuration.j5 kj26 y0_7 x4_7 x5_4 x8_26 t468 false) else (if ((rd_T61 t468 0).f1) = 87 then (trystref12_ParseDuration.j5 kj26 y0_7 x4_7 x5_4 x8_26 t468 (decide (x5_4 ≥ 0))) else (trystref12_ParseDuration.j5 kj26 y0_7 x4_7 x5_4 x8_26 t468 true))) else (none)) else (trystref12_ParseDuration.j5 kj26 y0_7 x4_7 x5_4 x8_26 t468 true)) else (trystref12_ParseDuration.j5 kj26 y0_7 x4_7 x5_4 x8_26 t468 true)) = some (r1, r2) := H
                                have A33 := Aside0.mk A330
                                clear A330
                                have HC34 := Aside0.mk H
                                clear H
                                go_upto_region 22 with (first | ((with_reducible refine gate_callee (f := 49) rfl ?_); refine goesL_ (some 68) rfl rfl Tryd.func49 (by kernel_rfl) rfl #[.string x8_26] rfl (by (try simp only [List.map_toArray, List.map_cons, List.map_nil]); first | done | rfl | (simp only [List.length_drop, List.length_take]; rfl)) ?_; (with_reducible refine (trystref12_terms.calls kj26 x8_26 t468 t469 _ A33.out).mono ?_); rintro e w35 ⟨v470, rfl, ho0, hb⟩; refine ⟨_, rfl, ?_⟩; have n0_ := Aside0.mk (Kd.R_lower ho0 (below_size (by repeat (first | (with_reducible first | exact HB.out | apply below_alloc | apply pw_below_drewN | apply below_drew1) | exact HB.out)))); have n1_ := Aside0.mk (below_step (by repeat (first | (with_reducible first | exact HB.out | apply below_alloc | apply pw_below_drewN | apply below_drew1) | exact HB.out)) hb); clear HB; have HO471 := n0_; have HB := n1_; clear n0_ n1_; (try clear hb); (try clear hb2); (try clear hk); (try clear hi); (try clear ho0)))
                                (try simp only [Act.put, List.setIfInBounds_toArray, List.set_cons_zero, List.set_cons_succ])
                                go_cut [95] (fun v95 wc => ∃ (kq : Nat) (x95_33 : Bool), v95 = .bool x95_33 ∧ Aside0 (trystref12_ParseDuration.j5 kq y0_7 x4_7 x5_4 x8_26 t468 x95_33 = some (r1, r2)) ∧ Aside0 (kq ≤ kj26) ∧ Aside0 (Kd.R k61 61 wc w.heap.size (fun _ => True) v470 t468) ∧ Aside0 (Below w.heap.size w wc))
                                case first =>
                                  have H := HC34.out
                                  clear HC34
                                  by_cases c36 : t469 = true
                                  · subst c36
                                    have H1 : (if (t468.length : Int) = 1 then (if 0 < (t468.length : Int) then (if ((rd_T61 t468 0).f1) = 68 then (trystref12_ParseDuration.j5 kj26 y0_7 x4_7 x5_4 x8_26 t468 false) else (if ((rd_T61 t468 0).f1) = 87 then (trystref12_ParseDuration.j5 kj26 y0_7 x4_7 x5_4 x8_26 t468 (decide (x5_4 ≥ 0))) else (trystref12_ParseDuration.j5 kj26 y0_7 x4_7 x5_4 x8_26 t468 true))) else (none)) else (trystref12_ParseDuration.j5 kj26 y0_7 x4_7 x5_4 x8_26 t468 true)) = some (r1, r2) := by rw [if_pos rfl] at H; exact H
                                    clear H
                                    have H := H1
                                    clear H1
                                    by_cases c37 : (t468.length : Int) = 1
                                    · rw [if_pos c37] at H
                                      have c37b0 : ((t468.length : Int) == 1) = true := beq_iff_eq.mpr c37
                                      have c37b1 : ((t468.length : Int) != 1) = false := bne_eq_false_iff_eq.mpr c37
                                      clear c37
                                      (first | rw [c37b0] | (simp only [i64_w, i32_w]; rw [c37b0]) | skip)
                                      by_cases c38 : 0 < (t468.length : Int)
                                      · rw [if_pos c38] at H
                                        have c38b0 : decide (0 < (t468.length : Int)) = true := decide_eq_true c38
                                        have c38b1 : decide (0 < t468.length) = true := decide_eq_true (by omega)
                                        clear c38
                                        by_cases c39 : ((rd_T61 t468 0).f1) = 68
                                        · as_aux_lemma =>
                                            rw [if_pos c39] at H
                                            have c39b0 : (((rd_T61 t468 0).f1) == 68) = true := beq_iff_eq.mpr c39
                                            have c39b1 : (((rd_T61 t468 0).f1) != 68) = false := bne_eq_false_iff_eq.mpr c39
                                            clear c39
                                            have H' := Aside0.mk H
                                            clear H
                                            obtain ⟨Ao40, co40, eo40⟩ := Kd.R_slice HO471.out
                                            subst eo40
                                            have p472 : 0 ≤ (0 : Int) := (by omega)
                                            have q472 : 0 < (t468.length : Int) := of_decide_eq_true (by first | (with_reducible assumption) | assumption)
                                            obtain ⟨ad472, e472, hx472_0, hx472_1⟩ := at_T61 (Kd.R_reads' HO471.out).2.2 0 p472 q472
                                            cases e472
                                            have qi472 : (0 < t468.length) = True := eq_true (by omega)
                                            (try rw [show ((0 : Int)).toNat = 0 from rfl] at hx472_0)
                                            (try rw [show 0 * 2 = 0 from rfl] at hx472_0)
                                            (try rw [Addr.add_zero'] at hx472_0)
                                            (try rw [show ((0 : Int)).toNat = 0 from rfl] at hx472_1)
                                            (try rw [show 0 * 2 = 0 from rfl] at hx472_1)
                                            (try rw [Addr.add_zero'] at hx472_1)
                                            replace p472 := eq_true p472
                                            replace q472 := eq_true q472
                                            go_wp2
                                            go_meet
                                            case rel => exact ⟨_, (false), (by first | rfl | (simp; done) | (simp [*]; done)), H', ⟨by have := HJ1.out; have := HJ7.out; have := HJ14.out; have := HK4.out; have := HJ26.out; first | omega | exact Nat.le_refl _⟩, ⟨by (with_reducible repeat (first | apply Kd.R_alloc | apply Kd.R_drewN | apply Kd.R_drew)); exact HO471.out⟩, ⟨by repeat (first | (with_reducible first | exact HB.out | apply below_alloc | apply pw_below_drewN | apply below_drew1) | exact HB.out)⟩⟩
                                        · rw [if_neg c39] at H
                                          have c39b0 : (((rd_T61 t468 0).f1) == 68) = false := beq_eq_false_iff_ne.mpr c39
                                          have c39b1 : (((rd_T61 t468 0).f1) != 68) = true := bne_iff_ne.mpr c39
                                          by_cases c41 : ((rd_T61 t468 0).f1) = 87
                                          · as_aux_lemma =>
                                              rw [if_pos c41] at H
                                              have c41b0 : (((rd_T61 t468 0).f1) == 87) = true := beq_iff_eq.mpr c41
                                              have c41b1 : (((rd_T61 t468 0).f1) != 87) = false := bne_eq_false_iff_eq.mpr c41
                                              clear c41
                                              have H' := Aside0.mk H
                                              clear H
                                              obtain ⟨Ao42, co42, eo42⟩ := Kd.R_slice HO471.out
                                              subst eo42
                                              have p472 : 0 ≤ (0 : Int) := (by omega)
                                              have q472 : 0 < (t468.length : Int) := of_decide_eq_true (by first | (with_reducible assumption) | assumption)
                                              obtain ⟨ad472, e472, hx472_0, hx472_1⟩ := at_T61 (Kd.R_reads' HO471.out).2.2 0 p472 q472
                                              cases e472
                                              have qi472 : (0 < t468.length) = True := eq_true (by omega)
                                              (try rw [show ((0 : Int)).toNat = 0 from rfl] at hx472_0)
                                              (try rw [show 0 * 2 = 0 from rfl] at hx472_0)
                                              (try rw [Addr.add_zero'] at hx472_0)
                                              (try rw [show ((0 : Int)).toNat = 0 from rfl] at hx472_1)
                                              (try rw [show 0 * 2 = 0 from rfl] at hx472_1)
                                              (try rw [Addr.add_zero'] at hx472_1)
                                              replace p472 := eq_true p472
                                              replace q472 := eq_true q472
                                              have p473 : 0 ≤ (0 : Int) := (by omega)
                                              have q473 : 0 < (t468.length : Int) := of_decide_eq_true (by first | (with_reducible assumption) | assumption)
                                              obtain ⟨ad473, e473, hx473_0, hx473_1⟩ := at_T61 (Kd.R_reads' HO471.out).2.2 0 p473 q473
                                              obtain rfl : ad472 = ad473 := (by injection e473)
                                              have qi473 : (0 < t468.length) = True := eq_true (by omega)
                                              (try rw [show ((0 : Int)).toNat = 0 from rfl] at hx473_0)
                                              (try rw [show 0 * 2 = 0 from rfl] at hx473_0)
                                              (try rw [Addr.add_zero'] at hx473_0)
                                              (try rw [show ((0 : Int)).toNat = 0 from rfl] at hx473_1)
                                              (try rw [show 0 * 2 = 0 from rfl] at hx473_1)
                                              (try rw [Addr.add_zero'] at hx473_1)
                                              replace p473 := eq_true p473
                                              replace q473 := eq_true q473
                                              go_wp2
                                              go_meet
                                              case rel => exact ⟨_, (decide (x5_4 ≥ 0)), (by first | rfl | (simp; done) | (simp [*]; done)), H', ⟨by have := HJ1.out; have := HJ7.out; have := HJ14.out; have := HK4.out; have := HJ26.out; first | omega | exact Nat.le_refl _⟩, ⟨by (with_reducible repeat (first | apply Kd.R_alloc | apply Kd.R_drewN | apply Kd.R_drew)); exact HO471.out⟩, ⟨by repeat (first | (with_reducible first | exact HB.out | apply below_alloc | apply pw_below_drewN | apply below_drew1) | exact HB.out)⟩⟩
                                          · as_aux_lemma =>
                                              rw [if_neg c41] at H
                                              have c41b0 : (((rd_T61 t468 0).f1) == 87) = false := beq_eq_false_iff_ne.mpr c41
                                              have c41b1 : (((rd_T61 t468 0).f1) != 87) = true := bne_iff_ne.mpr c41
                                              have H' := Aside0.mk H
                                              clear H
                                              obtain ⟨Ao43, co43, eo43⟩ := Kd.R_slice HO471.out
                                              subst eo43
                                              have p472 : 0 ≤ (0 : Int) := (by omega)
                                              have q472 : 0 < (t468.length : Int) := of_decide_eq_true (by first | (with_reducible assumption) | assumption)
                                              obtain ⟨ad472, e472, hx472_0, hx472_1⟩ := at_T61 (Kd.R_reads' HO471.out).2.2 0 p472 q472
                                              cases e472
                                              have qi472 : (0 < t468.length) = True := eq_true (by omega)
                                              (try rw [show ((0 : Int)).toNat = 0 from rfl] at hx472_0)
                                              (try rw [show 0 * 2 = 0 from rfl] at hx472_0)
                                              (try rw [Addr.add_zero'] at hx472_0)
                                              (try rw [show ((0 : Int)).toNat = 0 from rfl] at hx472_1)
                                              (try rw [show 0 * 2 = 0 from rfl] at hx472_1)
                                              (try rw [Addr.add_zero'] at hx472_1)
                                              replace p472 := eq_true p472
                                              replace q472 := eq_true q472
                                              have p473 : 0 ≤ (0 : Int) := (by omega)
                                              have q473 : 0 < (t468.length : Int) := of_decide_eq_true (by first | (with_reducible assumption) | assumption)
                                              obtain ⟨ad473, e473, hx473_0, hx473_1⟩ := at_T61 (Kd.R_reads' HO471.out).2.2 0 p473 q473
                                              obtain rfl : ad472 = ad473 := (by injection e473)
                                              have qi473 : (0 < t468.length) = True := eq_true (by omega)
                                              (try rw [show ((0 : Int)).toNat = 0 from rfl] at hx473_0)
                                              (try rw [show 0 * 2 = 0 from rfl] at hx473_0)
                                              (try rw [Addr.add_zero'] at hx473_0)
                                              (try rw [show ((0 : Int)).toNat = 0 from rfl] at hx473_1)
                                              (try rw [show 0 * 2 = 0 from rfl] at hx473_1)
                                              (try rw [Addr.add_zero'] at hx473_1)
                                              replace p473 := eq_true p473
                                              replace q473 := eq_true q473
                                              go_wp2
                                              go_meet
                                              case rel => exact ⟨_, (true), (by first | rfl | (simp; done) | (simp [*]; done)), H', ⟨by have := HJ1.out; have := HJ7.out; have := HJ14.out; have := HK4.out; have := HJ26.out; first | omega | exact Nat.le_refl _⟩, ⟨by (with_reducible repeat (first | apply Kd.R_alloc | apply Kd.R_drewN | apply Kd.R_drew)); exact HO471.out⟩, ⟨by repeat (first | (with_reducible first | exact HB.out | apply below_alloc | apply pw_below_drewN | apply below_drew1) | exact HB.out)⟩⟩
                                      · rw [if_neg c38] at H
                                        exact absurd H (by simp)
                                    · as_aux_lemma =>
                                        rw [if_neg c37] at H
                                        have c37b0 : ((t468.length : Int) == 1) = false := beq_eq_false_iff_ne.mpr c37
                                        have c37b1 : ((t468.length : Int) != 1) = true := bne_iff_ne.mpr c37
                                        (first | rw [c37b0] | (simp only [i64_w, i32_w]; rw [c37b0]) | skip)
                                        have H' := Aside0.mk H
                                        clear H
                                        obtain ⟨Ao44, co44, eo44⟩ := Kd.R_slice HO471.out
                                        subst eo44
                                        go_wp2
                                        go_meet
                                        case rel => exact ⟨_, (true), (by first | rfl | (simp; done) | (simp [*]; done)), H', ⟨by have := HJ1.out; have := HJ7.out; have := HJ14.out; have := HK4.out; have := HJ26.out; first | omega | exact Nat.le_refl _⟩, ⟨by (with_reducible repeat (first | apply Kd.R_alloc | apply Kd.R_drewN | apply Kd.R_drew)); exact HO471.out⟩, ⟨by repeat (first | (with_reducible first | exact HB.out | apply below_alloc | apply pw_below_drewN | apply below_drew1) | exact HB.out)⟩⟩
                                  · as_aux_lemma =>
                                      replace c36 := Bool.eq_false_iff.mpr c36
                                      subst c36
                                      have H1 : (trystref12_ParseDuration.j5 kj26 y0_7 x4_7 x5_4 x8_26 t468 true) = some (r1, r2) := by rw [if_neg (show ¬ (false = true) by decide)] at H; exact H
                                      clear H
                                      have H := H1
                                      clear H1
                                      have H' := Aside0.mk H
                                      clear H
                                      go_wp2
                                      go_meet
                                      case rel => exact ⟨_, (true), (by first | rfl | (simp; done) | (simp [*]; done)), H', ⟨by have := HJ1.out; have := HJ7.out; have := HJ14.out; have := HK4.out; have := HJ26.out; first | omega | exact Nat.le_refl _⟩, ⟨by (with_reducible repeat (first | apply Kd.R_alloc | apply Kd.R_drewN | apply Kd.R_drew)); exact HO471.out⟩, ⟨by repeat (first | (with_reducible first | exact HB.out | apply below_alloc | apply pw_below_drewN | apply below_drew1) | exact HB.out)⟩⟩
                                case rest =>
                                  clear HC34
                                  try clear c1
                                  try clear p1
                                  try clear q1
                                  try clear hx1
                                  try clear qi1
                                  try clear c2
                                  try clear p2
                                  try clear q2
                                  try clear hx2
                                  try clear c3
                                  try clear c3b0
                                  try clear c3b1
                                  try clear c4
                                  try clear c4b0
                                  try clear c4b1
                                  try clear p4
                                  try clear q4
                                  try clear hx4
                                  try clear qi4
                                  try clear p5
                                  try clear q5
                                  try clear hx5
                                  try clear qi5
                                  try clear c6
                                  try clear c6b0
                                  try clear c6b1
                                  try clear p6
                                  try clear p7
                                  try clear q7
                                  try clear hx7
                                  try clear qi7
                                  try clear c9
                                  try clear c10
                                  try clear c10b0
                                  try clear c10b1
                                  try clear p11
                                  try clear q11
                                  try clear hx11
                                  try clear qi11
                                  try clear c12
                                  try clear c12b0
                                  try clear c12b1
                                  try clear c13
                                  try clear c13b0
                                  try clear c13b1
                                  try clear c14
                                  try clear c14b0
                                  try clear c14b1
                                  try clear c16
                                  try clear c16b0
                                  try clear c16b1
                                  try clear c17
                                  try clear c17b0
                                  try clear c17b1
                                  try clear p18
                                  try clear q18
                                  try clear hx18
                                  try clear qi18
                                  try clear c19
                                  try clear c20
                                  try clear c20b0
                                  try clear c20b1
                                  try clear c21
                                  try clear c21b0
                                  try clear c22
                                  try clear c22b0
                                  try clear c23
                                  try clear c23b0
                                  try clear p24
                                  try clear q24
                                  try clear hx24
                                  try clear c25
                                  try clear c25b0
                                  try clear c25b1
                                  try clear c26
                                  try clear c26b0
                                  try clear c28
                                  try clear c28b0
                                  try clear c29
                                  try clear c29b0
                                  try clear c29b1
                                  try clear c30
                                  try clear c30b0
                                  try clear c30b1
                                  try clear c32
                                  try clear c32b0
                                  try clear c32b1
                                  try clear c36
                                  try clear c37
                                  try clear c37b0
                                  try clear c37b1
                                  try clear c38
                                  try clear c38b0
                                  try clear c38b1
                                  try clear c39
                                  try clear c39b0
                                  try clear c39b1
                                  try clear c41
                                  try clear c41b0
                                  try clear c41b1
                                  try clear hx472_0
                                  try clear hx472_1
                                  try clear hx473_0
                                  try clear hx473_1
                                  try clear p1
                                  try clear p11
                                  try clear p18
                                  try clear p2
                                  try clear p24
                                  try clear p472
                                  try clear p473
                                  try clear p5
                                  try clear p6
                                  try clear p7
                                  try clear q1
                                  try clear q11
                                  try clear q18
                                  try clear q2
                                  try clear q24
                                  try clear q472
                                  try clear q473
                                  try clear q5
                                  try clear q7
                                  obtain ⟨kq, x95_33, rfl, HA, HJ33, HO_9, HB⟩ := hcut
                                  cases kq with
                                  | zero => exact absurd HA.out (by simp [trystref12_ParseDuration.j5])
                                  | succ kj33 =>
                                    have H := HA.out
                                    clear HA
                                    simp only [trystref12_ParseDuration.j5] at H
                                    by_cases c45 : x95_33 = true
                                    · as_aux_lemma =>
                                        subst c45
                                        have H1 : (some (0, 7)) = some (r1, r2) := by rw [if_pos rfl] at H; exact H
                                        clear H
                                        have H := H1
                                        clear H1
                                        simp only [Option.some.injEq, Prod.mk.injEq] at H
                                        obtain ⟨rfl, rfl⟩ := H
                                        go_wp2
                                        go_ret2
                                        exact ⟨by first | rfl | (simp [errW_none, errW_some] <;> rfl) | (simp [*, errW_none, errW_some] <;> rfl), by repeat (first | (with_reducible first | exact HB.out | apply below_alloc | apply pw_below_drewN | apply below_drew1) | exact HB.out)⟩
                                    · replace c45 := Bool.eq_false_iff.mpr c45
                                      subst c45
                                      have H1 : (if 0 < (t468.length : Int) then (if ((rd_T61 t468 0).f1) = 87 then (trystref12_ParseDuration.j6 kj33 y0_7 x4_7 x5_4 (wrap64 (604800 * ((rd_T61 t468 0).f0))) x8_26) else (trystref12_ParseDuration.j6 kj33 y0_7 x4_7 x5_4 (wrap64 (86400 * ((rd_T61 t468 0).f0))) x8_26)) else (none)) = some (r1, r2) := by rw [if_neg (show ¬ (false = true) by decide)] at H; exact H
                                      clear H
                                      have H := H1
                                      clear H1
                                      by_cases c46 : 0 < (t468.length : Int)
                                      · rw [if_pos c46] at H
                                        have c46b0 : decide (0 < (t468.length : Int)) = true := decide_eq_true c46
                                        have c46b1 : decide (0 < t468.length) = true := decide_eq_true (by omega)
                                        clear c46
                                        by_cases c47 : ((rd_T61 t468 0).f1) = 87
                                        · as_aux_lemma =>
                                            rw [if_pos c47] at H
                                            have c47b0 : (((rd_T61 t468 0).f1) == 87) = true := beq_iff_eq.mpr c47
                                            have c47b1 : (((rd_T61 t468 0).f1) != 87) = false := bne_eq_false_iff_eq.mpr c47
                                            clear c47
                                            have H' := Aside0.mk H
                                            clear H
                                            obtain ⟨Ao48, co48, eo48⟩ := Kd.R_slice HO_9.out
                                            subst eo48
                                            have p474 : 0 ≤ (0 : Int) := (by omega)
                                            have q474 : 0 < (t468.length : Int) := of_decide_eq_true (by first | (with_reducible assumption) | assumption)
                                            obtain ⟨ad474, e474, hx474_0, hx474_1⟩ := at_T61 (Kd.R_reads' HO_9.out).2.2 0 p474 q474
                                            cases e474
                                            have qi474 : (0 < t468.length) = True := eq_true (by omega)
                                            (try rw [show ((0 : Int)).toNat = 0 from rfl] at hx474_0)
                                            (try rw [show 0 * 2 = 0 from rfl] at hx474_0)
                                            (try rw [Addr.add_zero'] at hx474_0)
                                            (try rw [show ((0 : Int)).toNat = 0 from rfl] at hx474_1)
                                            (try rw [show 0 * 2 = 0 from rfl] at hx474_1)
                                            (try rw [Addr.add_zero'] at hx474_1)
                                            replace p474 := eq_true p474
                                            replace q474 := eq_true q474
                                            have p475 : 0 ≤ (0 : Int) := (by omega)
                                            have q475 : 0 < (t468.length : Int) := of_decide_eq_true (by first | (with_reducible assumption) | assumption)
                                            obtain ⟨ad475, e475, hx475_0, hx475_1⟩ := at_T61 (Kd.R_reads' HO_9.out).2.2 0 p475 q475
                                            obtain rfl : ad474 = ad475 := (by injection e475)
                                            have qi475 : (0 < t468.length) = True := eq_true (by omega)
                                            (try rw [show ((0 : Int)).toNat = 0 from rfl] at hx475_0)
                                            (try rw [show 0 * 2 = 0 from rfl] at hx475_0)
                                            (try rw [Addr.add_zero'] at hx475_0)
                                            (try rw [show ((0 : Int)).toNat = 0 from rfl] at hx475_1)
                                            (try rw [show 0 * 2 = 0 from rfl] at hx475_1)
                                            (try rw [Addr.add_zero'] at hx475_1)
                                            replace p475 := eq_true p475
                                            replace q475 := eq_true q475
                                            go_wp2
                                            go_meet
                                            case rel => exact ⟨_, (wrap64 (604800 * ((rd_T61 t468 0).f0))), (by first | rfl | (simp; done) | (simp [*]; done)), H', ⟨by have := HJ1.out; have := HJ7.out; have := HJ14.out; have := HK4.out; have := HJ26.out; have := HJ33.out; first | omega | exact Nat.le_refl _⟩, ⟨by repeat (first | (with_reducible first | exact HB.out | apply below_alloc | apply pw_below_drewN | apply below_drew1) | exact HB.out)⟩⟩
                                        · as_aux_lemma =>
                                            rw [if_neg c47] at H
                                            have c47b0 : (((rd_T61 t468 0).f1) == 87) = false := beq_eq_false_iff_ne.mpr c47
                                            have c47b1 : (((rd_T61 t468 0).f1) != 87) = true := bne_iff_ne.mpr c47
                                            have H' := Aside0.mk H
                                            clear H
                                            obtain ⟨Ao49, co49, eo49⟩ := Kd.R_slice HO_9.out
                                            subst eo49
                                            have p474 : 0 ≤ (0 : Int) := (by omega)
                                            have q474 : 0 < (t468.length : Int) := of_decide_eq_true (by first | (with_reducible assumption) | assumption)
                                            obtain ⟨ad474, e474, hx474_0, hx474_1⟩ := at_T61 (Kd.R_reads' HO_9.out).2.2 0 p474 q474
                                            cases e474
                                            have qi474 : (0 < t468.length) = True := eq_true (by omega)
                                            (try rw [show ((0 : Int)).toNat = 0 from rfl] at hx474_0)
                                            (try rw [show 0 * 2 = 0 from rfl] at hx474_0)
                                            (try rw [Addr.add_zero'] at hx474_0)
                                            (try rw [show ((0 : Int)).toNat = 0 from rfl] at hx474_1)
                                            (try rw [show 0 * 2 = 0 from rfl] at hx474_1)
                                            (try rw [Addr.add_zero'] at hx474_1)
                                            replace p474 := eq_true p474
                                            replace q474 := eq_true q474
                                            have p476 : 0 ≤ (0 : Int) := (by omega)
                                            have q476 : 0 < (t468.length : Int) := of_decide_eq_true (by first | (with_reducible assumption) | assumption)
                                            obtain ⟨ad476, e476, hx476_0, hx476_1⟩ := at_T61 (Kd.R_reads' HO_9.out).2.2 0 p476 q476
                                            obtain rfl : ad474 = ad476 := (by injection e476)
                                            have qi476 : (0 < t468.length) = True := eq_true (by omega)
                                            (try rw [show ((0 : Int)).toNat = 0 from rfl] at hx476_0)
                                            (try rw [show 0 * 2 = 0 from rfl] at hx476_0)
                                            (try rw [Addr.add_zero'] at hx476_0)
                                            (try rw [show ((0 : Int)).toNat = 0 from rfl] at hx476_1)
                                            (try rw [show 0 * 2 = 0 from rfl] at hx476_1)
                                            (try rw [Addr.add_zero'] at hx476_1)
                                            replace p476 := eq_true p476
                                            replace q476 := eq_true q476
                                            go_wp2
                                            go_meet
                                            case rel => exact ⟨_, (wrap64 (86400 * ((rd_T61 t468 0).f0))), (by first | rfl | (simp; done) | (simp [*]; done)), H', ⟨by have := HJ1.out; have := HJ7.out; have := HJ14.out; have := HK4.out; have := HJ26.out; have := HJ33.out; first | omega | exact Nat.le_refl _⟩, ⟨by repeat (first | (with_reducible first | exact HB.out | apply below_alloc | apply pw_below_drewN | apply below_drew1) | exact HB.out)⟩⟩
                                      · rw [if_neg c46] at H
                                        exact absurd H (by simp)
                            case rest =>
                              clear HC31
                              try clear c1
                              try clear p1
                              try clear q1
                              try clear hx1
                              try clear qi1
                              try clear c2
                              try clear p2
                              try clear q2
                              try clear hx2
                              try clear c3
                              try clear c3b0
                              try clear c3b1
                              try clear c4
                              try clear c4b0
                              try clear c4b1
                              try clear p4
                              try clear q4
                              try clear hx4
                              try clear qi4
                              try clear p5
                              try clear q5
                              try clear hx5
                              try clear qi5
                              try clear c6
                              try clear c6b0
                              try clear c6b1
                              try clear p6
                              try clear p7
                              try clear q7
                              try clear hx7
                              try clear qi7
                              try clear c9
                              try clear c10
                              try clear c10b0
                              try clear c10b1
                              try clear p11
                              try clear q11
                              try clear hx11
                              try clear qi11
                              try clear c12
                              try clear c12b0
                              try clear c12b1
                              try clear c13
                              try clear c13b0
                              try clear c13b1
                              try clear c14
                              try clear c14b0
                              try clear c14b1
                              try clear c16
                              try clear c16b0
                              try clear c16b1
                              try clear c17
                              try clear c17b0
                              try clear c17b1
                              try clear p18
                              try clear q18
                              try clear hx18
                              try clear qi18
                              try clear c19
                              try clear c20
                              try clear c20b0
                              try clear c20b1
                              try clear c21
                              try clear c21b0
                              try clear c22
                              try clear c22b0
                              try clear c23
                              try clear c23b0
                              try clear p24
                              try clear q24
                              try clear hx24
                              try clear c25
                              try clear c25b0
                              try clear c25b1
                              try clear c26
                              try clear c26b0
                              try clear c28
                              try clear c28b0
                              try clear c29
                              try clear c29b0
                              try clear c29b1
                              try clear c30
                              try clear c30b0
                              try clear c30b1
                              try clear c32
                              try clear c32b0
                              try clear c32b1
                              try clear c36
                              try clear c37
                              try clear c37b0
                              try clear c37b1
                              try clear c38
                              try clear c38b0
                              try clear c38b1
                              try clear c39
                              try clear c39b0
                              try clear c39b1
                              try clear c41
                              try clear c41b0
                              try clear c41b1
                              try clear c45
                              try clear c46
                              try clear c46b0
                              try clear c46b1
                              try clear c47
                              try clear c47b0
                              try clear c47b1
                              try clear p47
                              try clear q47
                              try clear hx47
                              try clear qi47
                              try clear c49
                              try clear hx472_0
                              try clear hx472_1
                              try clear hx473_0
                              try clear hx473_1
                              try clear hx474_0
                              try clear hx474_1
                              try clear hx475_0
                              try clear hx475_1
                              try clear hx476_0
                              try clear hx476_1
                              try clear p1
                              try clear p11
                              try clear p18
                              try clear p2
                              try clear p24
                              try clear p4
                              try clear p472
                              try clear p473
                              try clear p474
                              try clear p475
                              try clear p476
                              try clear p5
                              try clear p6
                              try clear p7
                              try clear q1
                              try clear q11
                              try clear q18
                              try clear q2
                              try clear q24
                              try clear q4
                              try clear q472
                              try clear q473
                              try clear q474
                              try clear q475
                              try clear q476
                              try clear q5
                              try clear q7
                              obtain ⟨kq, x7_30, rfl, HA, HJ30, HB⟩ := hcut
                              cases kq with
                              | zero => exact absurd HA.out (by simp [trystref12_ParseDuration.j6])
                              | succ kj30 =>
                                have H := HA.out
                                clear HA
                                simp only [trystref12_ParseDuration.j6] at H
                                have HC50 := Aside0.mk H
                                clear H
                                go_upto_region 27 with (fail)
                                go_cut [116] (fun v116 wc => ∃ (kq : Nat) (x116_49 : Bool), v116 = .bool x116_49 ∧ Aside0 (trystref12_ParseDuration.j7 kq y0_7 x4_7 x5_4 x7_30 x116_49 = some (r1, r2)) ∧ Aside0 (kq ≤ kj30) ∧ Aside0 (Below w.heap.size w wc))
                                case first =>
                                  have H := HC50.out
                                  clear HC50
                                  by_cases c51 : x8_26.toList = ([] : List UInt8)
                                  · as_aux_lemma =>
                                      rw [if_pos c51] at H
                                      have c51b0 : (x8_26.toList == ([] : List UInt8)) = true := beq_iff_eq.mpr c51
                                      have c51e0 : (x8_26).toList.isEmpty = true := List.isEmpty_iff.mpr c51
                                      have c51b1 : (x8_26.toList != ([] : List UInt8)) = false := bne_eq_false_iff_eq.mpr c51
                                      clear c51
                                      (first | rw [c51b0] | (simp only [i64_w, i32_w]; rw [c51b0]) | skip) <;> (try rw [c51e0])
                                      have H' := Aside0.mk H
                                      clear H
                                      go_wp2
                                      go_meet
                                      case rel => exact ⟨_, (decide (x5_4 < 0)), (by first | rfl | (simp; done) | (simp [*]; done)), H', ⟨by have := HJ1.out; have := HJ7.out; have := HJ14.out; have := HK4.out; have := HJ26.out; have := HJ30.out; first | omega | exact Nat.le_refl _⟩, ⟨by repeat (first | (with_reducible first | exact HB.out | apply below_alloc | apply pw_below_drewN | apply below_drew1) | exact HB.out)⟩⟩
                                  · as_aux_lemma =>
                                      rw [if_neg c51] at H
                                      have c51b0 : (x8_26.toList == ([] : List UInt8)) = false := beq_eq_false_iff_ne.mpr c51
                                      have c51e0 : (x8_26).toList.isEmpty = false := by
                                        rw [← Bool.not_eq_true, List.isEmpty_iff]; exact c51
                                      have c51b1 : (x8_26.toList != ([] : List UInt8)) = true := bne_iff_ne.mpr c51
                                      (first | rw [c51b0] | (simp only [i64_w, i32_w]; rw [c51b0]) | skip) <;> (try rw [c51e0])
                                      have H' := Aside0.mk H
                                      clear H
                                      go_wp2
                                      go_meet
                                      case rel => exact ⟨_, (false), (by first | rfl | (simp; done) | (simp [*]; done)), H', ⟨by have := HJ1.out; have := HJ7.out; have := HJ14.out; have := HK4.out; have := HJ26.out; have := HJ30.out; first | omega | exact Nat.le_refl _⟩, ⟨by repeat (first | (with_reducible first | exact HB.out | apply below_alloc | apply pw_below_drewN | apply below_drew1) | exact HB.out)⟩⟩
                                case rest =>
                                  clear HC50
                                  try clear c1
                                  try clear p1
                                  try clear q1
                                  try clear hx1
                                  try clear qi1
                                  try clear c2
                                  try clear p2
                                  try clear q2
                                  try clear hx2
                                  try clear c3
                                  try clear c3b0
                                  try clear c3b1
                                  try clear c4
                                  try clear c4b0
                                  try clear c4b1
                                  try clear p4
                                  try clear q4
                                  try clear hx4
                                  try clear qi4
                                  try clear c5
                                  try clear p5
                                  try clear q5
                                  try clear hx5
                                  try clear qi5
                                  try clear c6
                                  try clear c6b0
                                  try clear c6b1
                                  try clear p6
                                  try clear p7
                                  try clear q7
                                  try clear hx7
                                  try clear qi7
                                  try clear c9
                                  try clear c10
                                  try clear c10b0
                                  try clear c10b1
                                  try clear p11
                                  try clear q11
                                  try clear hx11
                                  try clear qi11
                                  try clear c12
                                  try clear c12b0
                                  try clear c12b1
                                  try clear c13
                                  try clear c13b0
                                  try clear c13b1
                                  try clear c14
                                  try clear c14b0
                                  try clear c14b1
                                  try clear c16
                                  try clear c16b0
                                  try clear c16b1
                                  try clear c17
                                  try clear c17b0
                                  try clear c17b1
                                  try clear p18
                                  try clear q18
                                  try clear hx18
                                  try clear qi18
                                  try clear c19
                                  try clear c20
                                  try clear c20b0
                                  try clear c20b1
                                  try clear c21
                                  try clear c21b0
                                  try clear c22
                                  try clear c22b0
                                  try clear c23
                                  try clear c23b0
                                  try clear p24
                                  try clear q24
                                  try clear hx24
                                  try clear c25
                                  try clear c25b0
                                  try clear c25b1
                                  try clear c26
                                  try clear c26b0
                                  try clear c28
                                  try clear c28b0
                                  try clear c29
                                  try clear c29b0
                                  try clear c29b1
                                  try clear c30
                                  try clear c30b0
                                  try clear c30b1
                                  try clear c32
                                  try clear c32b0
                                  try clear c32b1
                                  try clear c36
                                  try clear c37
                                  try clear c37b0
                                  try clear c37b1
                                  try clear c38
                                  try clear c38b0
                                  try clear c38b1
                                  try clear c39
                                  try clear c39b0
                                  try clear c39b1
                                  try clear c41
                                  try clear c41b0
                                  try clear c41b1
                                  try clear c45
                                  try clear c46
                                  try clear c46b0
                                  try clear c46b1
                                  try clear c47
                                  try clear c47b0
                                  try clear c47b1
                                  try clear p47
                                  try clear q47
                                  try clear hx47
                                  try clear qi47
                                  try clear c49
                                  try clear c51
                                  try clear c51b0
                                  try clear c51b1
                                  try clear hx472_0
                                  try clear hx472_1
                                  try clear hx473_0
                                  try clear hx473_1
                                  try clear hx474_0
                                  try clear hx474_1
                                  try clear hx475_0
                                  try clear hx475_1
                                  try clear hx476_0
                                  try clear hx476_1
                                  try clear p1
                                  try clear p11
                                  try clear p18
                                  try clear p2
                                  try clear p24
                                  try clear p4
                                  try clear p47
                                  try clear p472
                                  try clear p473
                                  try clear p474
                                  try clear p475
                                  try clear p476
                                  try clear p5
                                  try clear p6
                                  try clear p7
                                  try clear q1
                                  try clear q11
                                  try clear q18
                                  try clear q2
                                  try clear q24
                                  try clear q4
                                  try clear q47
                                  try clear q472
                                  try clear q473
                                  try clear q474
                                  try clear q475
                                  try clear q476
                                  try clear q5
                                  try clear q7
                                  obtain ⟨kq, x116_49, rfl, HA, HJ49, HB⟩ := hcut
                                  cases kq with
                                  | zero => exact absurd HA.out (by simp [trystref12_ParseDuration.j7])
                                  | succ kj49 =>
                                    have H := HA.out
                                    clear HA
                                    simp only [trystref12_ParseDuration.j7] at H
                                    by_cases c52 : x116_49 = true
                                    · as_aux_lemma =>
                                        subst c52
                                        have H1 : (some (0, 7)) = some (r1, r2) := by rw [if_pos rfl] at H; exact H
                                        clear H
                                        have H := H1
                                        clear H1
                                        simp only [Option.some.injEq, Prod.mk.injEq] at H
                                        obtain ⟨rfl, rfl⟩ := H
                                        go_wp2
                                        go_ret2
                                        exact ⟨by first | rfl | (simp [errW_none, errW_some] <;> rfl) | (simp [*, errW_none, errW_some] <;> rfl), by repeat (first | (with_reducible first | exact HB.out | apply below_alloc | apply pw_below_drewN | apply below_drew1) | exact HB.out)⟩
                                    · replace c52 := Bool.eq_false_iff.mpr c52
                                      subst c52
                                      have H1 : (if x5_4 ≥ 0 then (if 0 ≤ (wrap64 (x5_4 + 1)) then (if (wrap64 (x5_4 + 1)) ≤ (y0_7.size : Int) then ((trystref12_terms.f kj49 (y0_7.extract ((wrap64 (x5_4 + 1)) : Int).toNat y0_7.size)).bind fun bt477 => (if bt477.2 = true then (trystref12_ParseDuration.l1 kj49 x4_7 x7_30 bt477.1 (⟨#[]⟩ : ByteArray) (bt477.1.length : Int) 0) else (some (0, 7)))) else (none)) else (none)) else (if x7_30 > 10000000000 then (some (0, 7)) else (some (wrap64 (x4_7 * x7_30), 0)))) = some (r1, r2) := by rw [if_neg (show ¬ (false = true) by decide)] at H; exact H
                                      clear H
                                      have H := H1
                                      clear H1
                                      by_cases c53 : x5_4 ≥ 0
                                      · rw [if_pos c53] at H
                                        have c53b0 : decide (0 ≤ x5_4) = true := decide_eq_true c53
                                        clear c53
                                        obtain ⟨ji54, hji54⟩ : ∃ j_ : Int, (wrap64 (x5_4 + 1)) = j_ := ⟨_, rfl⟩
                                        replace H : (if 0 ≤ (ji54) then (if (ji54) ≤ (y0_7.size : Int) then ((trystref12_terms.f kj49 (y0_7.extract ((ji54) : Int).toNat y0_7.size)).bind fun bt477 => (if bt477.2 = true then (trystref12_ParseDuration.l1 kj49 x4_7 x7_30 bt477.1 (⟨#[]⟩ : ByteArray) (bt477.1.length : Int) 0) else (some (0, 7)))) else (none)) else (none)) = some (r1, r2) := by first | (rw [hji54] at H; exact H) | (simp only [hji54] at H ⊢; exact H)
                                        have hji54w : (IntKind.i64.wrap (x5_4 + 1)) = ji54 := (i64_w _).trans hji54
                                        by_cases c55 : 0 ≤ (ji54)
                                        · rw [if_pos c55] at H
                                          have c55b0 := eq_true c55
                                          have c55b1 : decide (0 ≤ (ji54)) = true := decide_eq_true c55
                                          clear c55
                                          by_cases c56 : (ji54) ≤ (y0_7.size : Int)
                                          · rw [if_pos c56] at H
                                            have c56b0 := eq_true c56
                                            have c56b1 : decide ((ji54) ≤ (y0_7.size : Int)) = true := decide_eq_true c56
                                            (try (have c56b1x := c56b1; simp only [ByteArray.size_extract, Nat.min_self] at c56b1x))
                                            clear c56
                                            replace H := Option.bind_eq_some_iff.mp H
                                            obtain ⟨⟨t477, t478⟩, A570, H⟩ := H
                                            replace H : (if t478 = true then (trystref12_ParseDuration.l1 kj49 x4_7 x7_30 t477 (⟨#[]⟩ : ByteArray) (t477.length : Int) 0) else (some (0, 7))) = some (r1, r2) := H
                                            have A57 := Aside0.mk A570
                                            clear A570
                                            by_cases c58 : t478 = true
                                            · subst c58
                                              have H1 : (trystref12_ParseDuration.l1 kj49 x4_7 x7_30 t477 (⟨#[]⟩ : ByteArray) (t477.length : Int) 0) = some (r1, r2) := by rw [if_pos rfl] at H; exact H
                                              clear H
                                              have H := H1
                                              clear H1
                                              have H' := Aside0.mk H
                                              clear H
                                              go_wp2_with (first | ((with_reducible refine gate_callee (f := 49) rfl ?_); refine goesL_ (some 124) rfl rfl Tryd.func49 (by kernel_rfl) rfl #[.string (y0_7.extract ((ji54) : Int).toNat y0_7.size)] rfl (by (try simp only [List.map_toArray, List.map_cons, List.map_nil]); first | done | (simp only [hji54]; rfl) | rfl | (simp only [List.length_drop, List.length_take]; rfl)) ?_; (with_reducible refine (trystref12_terms.calls kj49 (y0_7.extract ((ji54) : Int).toNat y0_7.size) t477 true _ A57.out).mono ?_); rintro e w59 ⟨v479, rfl, ho0, hb⟩; refine ⟨_, rfl, ?_⟩; have n0_ := Aside0.mk (Kd.R_lower ho0 (below_size (by repeat (first | (with_reducible first | exact HB.out | apply below_alloc | apply pw_below_drewN | apply below_drew1) | exact HB.out)))); have n1_ := Aside0.mk (below_step (by repeat (first | (with_reducible first | exact HB.out | apply below_alloc | apply pw_below_drewN | apply below_drew1) | exact HB.out)) hb); clear HB; have HO480 := n0_; have HB := n1_; clear n0_ n1_; (try clear hb); (try clear hb2); (try clear hk); (try clear hi); (try clear ho0); obtain ⟨Ao60, co60, eo60⟩ := Kd.R_slice HO480.out; subst eo60))
                                              go_loopg [7, 13, 131] kj49 (fun kq v7 v13 v131 w' => ∃ (x7_8 : Int) (x13_8 : ByteArray) (x131_8 : Int), v7 = .int .i64 x7_8 ∧ v13 = .string x13_8 ∧ v131 = .int .i64 x131_8 ∧ Aside0 (trystref12_ParseDuration.l1 kq x4_7 x7_8 t477 x13_8 (t477.length : Int) x131_8 = some (r1, r2)) ∧ Aside0 (kq ≤ kj49) ∧ Aside0 (Kd.R k61 61 w' w.heap.size (fun _ => True) (.slice Ao60 t477.length co60) t477) ∧ Aside0 (Below w.heap.size w w'))
                                              case atStart => exact ⟨(x7_30), ((⟨#[]⟩ : ByteArray)), (0), (by first | rfl | (simp; done) | (simp [*]; done)), (by first | rfl | (simp; done) | (simp [*]; done)), (by first | rfl | (simp; done) | (simp [*]; done)), H', ⟨Nat.le_refl _⟩, ⟨by (with_reducible repeat (first | apply Kd.R_alloc | apply Kd.R_drewN | apply Kd.R_drew)); exact HO480.out⟩, ⟨by repeat (first | (with_reducible first | exact HB.out | apply below_alloc | apply pw_below_drewN | apply below_drew1) | exact HB.out)⟩⟩
                                              case round =>
                                                clear H'
                                                try clear c1
                                                try clear p1
                                                try clear q1
                                                try clear hx1
                                                try clear qi1
                                                try clear c2
                                                try clear p2
                                                try clear q2
                                                try clear hx2
                                                try clear c3
                                                try clear c3b0
                                                try clear c3b1
                                                try clear c4
                                                try clear c4b0
                                                try clear c4b1
                                                try clear p4
                                                try clear q4
                                                try clear hx4
                                                try clear qi4
                                                try clear c5
                                                try clear p5
                                                try clear q5
                                                try clear hx5
                                                try clear qi5
                                                try clear c6
                                                try clear c6b0
                                                try clear c6b1
                                                try clear p6
                                                try clear p7
                                                try clear q7
                                                try clear hx7
                                                try clear qi7
                                                try clear c9
                                                try clear c10
                                                try clear c10b0
                                                try clear c10b1
                                                try clear p11
                                                try clear q11
                                                try clear hx11
                                                try clear qi11
                                                try clear c12
                                                try clear c12b0
                                                try clear c12b1
                                                try clear c13
                                                try clear c13b0
                                                try clear c13b1
                                                try clear c14
                                                try clear c14b0
                                                try clear c14b1
                                                try clear c16
                                                try clear c16b0
                                                try clear c16b1
                                                try clear c17
                                                try clear c17b0
                                                try clear c17b1
                                                try clear p18
                                                try clear q18
                                                try clear hx18
                                                try clear qi18
                                                try clear c19
                                                try clear c20
                                                try clear c20b0
                                                try clear c20b1
                                                try clear c21
                                                try clear c21b0
                                                try clear c22
                                                try clear c22b0
                                                try clear c23
                                                try clear c23b0
                                                try clear p24
                                                try clear q24
                                                try clear hx24
                                                try clear c25
                                                try clear c25b0
                                                try clear c25b1
                                                try clear c26
                                                try clear c26b0
                                                try clear c28
                                                try clear c28b0
                                                try clear c29
                                                try clear c29b0
                                                try clear c29b1
                                                try clear c30
                                                try clear c30b0
                                                try clear c30b1
                                                try clear c32
                                                try clear c32b0
                                                try clear c32b1
                                                try clear c36
                                                try clear c37
                                                try clear c37b0
                                                try clear c37b1
                                                try clear c38
                                                try clear c38b0
                                                try clear c38b1
                                                try clear c39
                                                try clear c39b0
                                                try clear c39b1
                                                try clear c41
                                                try clear c41b0
                                                try clear c41b1
                                                try clear c45
                                                try clear c46
                                                try clear c46b0
                                                try clear c46b1
                                                try clear c47
                                                try clear c47b0
                                                try clear c47b1
                                                try clear p47
                                                try clear q47
                                                try clear hx47
                                                try clear qi47
                                                try clear c49
                                                try clear c51
                                                try clear c51b0
                                                try clear c51b1
                                                try clear c52
                                                try clear c53
                                                try clear c53b0
                                                try clear c55
                                                try clear c55b0
                                                try clear c55b1
                                                try clear c56
                                                try clear c56b0
                                                try clear c56b1
                                                try clear c58
                                                try clear hx472_0
                                                try clear hx472_1
                                                try clear hx473_0
                                                try clear hx473_1
                                                try clear hx474_0
                                                try clear hx474_1
                                                try clear hx475_0
                                                try clear hx475_1
                                                try clear hx476_0
                                                try clear hx476_1
                                                try clear p1
                                                try clear p11
                                                try clear p18
                                                try clear p2
                                                try clear p24
                                                try clear p4
                                                try clear p47
                                                try clear p472
                                                try clear p473
                                                try clear p474
                                                try clear p475
                                                try clear p476
                                                try clear p5
                                                try clear p6
                                                try clear p7
                                                try clear q1
                                                try clear q11
                                                try clear q18
                                                try clear q2
                                                try clear q24
                                                try clear q4
                                                try clear q47
                                                try clear q472
                                                try clear q473
                                                try clear q474
                                                try clear q475
                                                try clear q476
                                                try clear q5
                                                try clear q7
                                                obtain ⟨x7_8, x13_8, x131_8, rfl, rfl, rfl, HA, HK8, HO_11, HB⟩ := hrel
                                                cases gk with
                                                | zero => exact absurd HA.out (by simp [trystref12_ParseDuration.l1])
                                                | succ k8 =>
                                                  have H := HA.out
                                                  clear HA
                                                  simp only [trystref12_ParseDuration.l1] at H
                                                  by_cases c61 : x131_8 < (t477.length : Int)
                                                  · rw [if_pos c61] at H
                                                    have c61b0 : decide (x131_8 < (t477.length : Int)) = true := decide_eq_true c61
                                                    clear c61
                                                    by_cases c62 : 0 ≤ x131_8
                                                    · rw [if_pos c62] at H
                                                      have c62b0 : decide (0 ≤ x131_8) = true := decide_eq_true c62
                                                      clear c62
                                                      by_cases c63 : x131_8 < (t477.length : Int)
                                                      · rw [if_pos c63] at H
                                                        have c63b0 : decide (x131_8 < (t477.length : Int)) = true := decide_eq_true c63
                                                        clear c63
                                                        obtain ⟨y482, hy482⟩ : ∃ y_ : List Int, y_ = (([(rd_T61 t477 x131_8).f1] : List Int)) := ⟨_, rfl⟩
                                                        replace H : (if x13_8.size + (strOfNums y482).size ≤ 9223372036854775807 then (if ((rd_T61 t477 x131_8).f1) = 72 then (trystref12_ParseDuration.l1 k8 x4_7 (wrap64 (x7_8 + (wrap64 (3600 * ((rd_T61 t477 x131_8).f0))))) t477 (x13_8 ++ (strOfNums y482)) (t477.length : Int) (wrap64 (x131_8 + 1))) else (if ((rd_T61 t477 x131_8).f1) = 77 then (trystref12_ParseDuration.l1 k8 x4_7 (wrap64 (x7_8 + (wrap64 (60 * ((rd_T61 t477 x131_8).f0))))) t477 (x13_8 ++ (strOfNums y482)) (t477.length : Int) (wrap64 (x131_8 + 1))) else (if ((rd_T61 t477 x131_8).f1) = 83 then (trystref12_ParseDuration.l1 k8 x4_7 (wrap64 (x7_8 + ((rd_T61 t477 x131_8).f0))) t477 (x13_8 ++ (strOfNums y482)) (t477.length : Int) (wrap64 (x131_8 + 1))) else (trystref12_ParseDuration.l1 k8 x4_7 x7_8 t477 (x13_8 ++ (strOfNums y482)) (t477.length : Int) (wrap64 (x131_8 + 1)))))) else (none)) = some (r1, r2) := by first | (rw [hy482]; with_reducible exact H) | (have H2_ := (Option.bind_some _ _).symm.trans H; rw [hy482]; with_reducible exact H2_) | (have H2_ := (Option.bind_some _ _).symm.trans H; with_reducible exact H2_) | with_reducible exact H | (rw [hy482]; exact H) | exact H
                                                        have Ny482 := Aside0.mk hy482
                                                        clear hy482
                                                        by_cases c64 : x13_8.size + (strOfNums y482).size ≤ 9223372036854775807
                                                        · rw [if_pos c64] at H
                                                          have c64b0 := eq_true c64
                                                          have c64b1 : decide (x13_8.size + (strOfNums y482).size ≤ 9223372036854775807) = true := decide_eq_true c64
                                                          try have c64b2 : (9223372036854775807 < x13_8.size + (strOfNums y482).size) = False := eq_false (Nat.not_lt.2 c64)
                                                          try (have c64b3 := c64b2; simp only [ByteArray.size_append, bs1_] at c64b3)
                                                          by_cases c65 : ((rd_T61 t477 x131_8).f1) = 72
                                                          · as_aux_lemma =>
                                                              rw [if_pos c65] at H
                                                              have c65b0 : (((rd_T61 t477 x131_8).f1) == 72) = true := beq_iff_eq.mpr c65
                                                              have c65b1 : (((rd_T61 t477 x131_8).f1) != 72) = false := bne_eq_false_iff_eq.mpr c65
                                                              clear c65
                                                              have H' := Aside0.mk H
                                                              clear H
                                                              have p481 : 0 ≤ (x131_8 : Int) := of_decide_eq_true (by first | (with_reducible assumption) | assumption)
                                                              have q481 : x131_8 < (t477.length : Int) := of_decide_eq_true (by first | (with_reducible assumption) | assumption)
                                                              obtain ⟨ad481, e481, hx481_0, hx481_1⟩ := at_T61 (Kd.R_reads' HO_11.out).2.2 x131_8 p481 q481
                                                              cases e481
                                                              replace p481 := eq_true p481
                                                              replace q481 := eq_true q481
                                                              go_wp2_with (first | ((with_reducible refine gate_dst (N := 140) rfl ?_); (try (refine gate_guard (by rfl) ?_; dsimp only)); refine Kd.R_lit (Kd.int .u8) _ 5 ?hg (N := 140) ?hd (xs := ([(rd_T61 t477 x131_8).f1] : List Int)) (inner := [.int .u8 ((rd_T61 t477 x131_8).f1)]) (ok := fun _ => True) (okp := fun _ => True) ?hr ?hp (fun _ hk => hk) trivial (Below.refl _ _) (Nat.le_refl _) (by simp) ?_; (case hd => rfl); (case hg => rfl); (case hr => first | (go_simp; done) | (go_simp; rfl)); (case hp => exact (Reps.one (show Kd.M (Kd.int .u8) _ _ _ ((rd_T61 t477 x131_8).f1) [.int .u8 ((rd_T61 t477 x131_8).f1)] from rfl) (Reps.none _ _))); intro v483 w66 ho67 hb hg_ hnew_; clear hg_ hnew_; (first | rw [← Ny482.out] at ho67 | (simp only [Int.reduceToNat] at ho67; rw [← Ny482.out] at ho67)); have n0_ := Aside0.mk (Kd.R_below (by (with_reducible repeat (first | apply Kd.R_alloc | apply Kd.R_drewN | apply Kd.R_drew)); exact HO_11.out) hb); have n1_ := Aside0.mk (Kd.R_lower ho67 (below_size (by repeat (first | (with_reducible first | exact HB.out | apply below_alloc | apply pw_below_drewN | apply below_drew1) | exact HB.out)))); have n2_ := Aside0.mk (below_step (by repeat (first | (with_reducible first | exact HB.out | apply below_alloc | apply pw_below_drewN | apply below_drew1) | exact HB.out)) hb); clear HO_11; clear HB; have HO_11 := n0_; have HO484 := n1_; have HB := n2_; clear n0_ n1_ n2_; clear hb ho67; have hcv68 := own_string (P := Tryd.prog) Tryd.underlying62 Tryd.underlying5 Tryd.underlying9 (Kd.own_of_R HO484.out); have p485 : 0 ≤ (x131_8 : Int) := of_decide_eq_true (by first | (with_reducible assumption) | assumption); have q485 : x131_8 < (t477.length : Int) := of_decide_eq_true (by first | (with_reducible assumption) | assumption); obtain ⟨ad485, e485, hx485_0, hx485_1⟩ := at_T61 (Kd.R_reads' HO_11.out).2.2 x131_8 p485 q485; obtain rfl : ad481 = ad485 := (by injection e485); replace p485 := eq_true p485; replace q485 := eq_true q485; have p486 : 0 ≤ (x131_8 : Int) := of_decide_eq_true (by first | (with_reducible assumption) | assumption); have q486 : x131_8 < (t477.length : Int) := of_decide_eq_true (by first | (with_reducible assumption) | assumption); obtain ⟨ad486, e486, hx486_0, hx486_1⟩ := at_T61 (Kd.R_reads' HO_11.out).2.2 x131_8 p486 q486; obtain rfl : ad481 = ad486 := (by injection e486); replace p486 := eq_true p486; replace q486 := eq_true q486))
                                                              go_roundg k8
                                                              case measure => have := HJ1.out; have := HJ7.out; have := HJ14.out; have := HK4.out; have := HJ26.out; have := HJ30.out; have := HJ49.out; have := HK8.out; omega
                                                              case rel => exact ⟨(wrap64 (x7_8 + (wrap64 (3600 * ((rd_T61 t477 x131_8).f0))))), (x13_8 ++ (strOfNums y482)), (wrap64 (x131_8 + 1)), (by first | rfl | (simp; done) | (simp [*]; done)), (by first | rfl | (simp; done) | (simp [*]; done)), (by first | rfl | (simp; done) | (simp [*]; done)), H', ⟨by have := HJ1.out; have := HJ7.out; have := HJ14.out; have := HK4.out; have := HJ26.out; have := HJ30.out; have := HJ49.out; have := HK8.out; omega⟩, ⟨by (with_reducible repeat (first | apply Kd.R_alloc | apply Kd.R_drewN | apply Kd.R_drew)); exact HO_11.out⟩, ⟨by repeat (first | (with_reducible first | exact HB.out | apply below_alloc | apply pw_below_drewN | apply below_drew1) | exact HB.out)⟩⟩
                                                          · as_aux_lemma =>
                                                              rw [if_neg c65] at H
                                                              have c65b0 : (((rd_T61 t477 x131_8).f1) == 72) = false := beq_eq_false_iff_ne.mpr c65
                                                              have c65b1 : (((rd_T61 t477 x131_8).f1) != 72) = true := bne_iff_ne.mpr c65
                                                              by_cases c69 : ((rd_T61 t477 x131_8).f1) = 77
                                                              · rw [if_pos c69] at H
                                                                have c69b0 : (((rd_T61 t477 x131_8).f1) == 77) = true := beq_iff_eq.mpr c69
                                                                have c69b1 : (((rd_T61 t477 x131_8).f1) != 77) = false := bne_eq_false_iff_eq.mpr c69
                                                                clear c69
                                                                have H' := Aside0.mk H
                                                                clear H
                                                                have p481 : 0 ≤ (x131_8 : Int) := of_decide_eq_true (by first | (with_reducible assumption) | assumption)
                                                                have q481 : x131_8 < (t477.length : Int) := of_decide_eq_true (by first | (with_reducible assumption) | assumption)
                                                                obtain ⟨ad481, e481, hx481_0, hx481_1⟩ := at_T61 (Kd.R_reads' HO_11.out).2.2 x131_8 p481 q481
                                                                cases e481
                                                                replace p481 := eq_true p481
                                                                replace q481 := eq_true q481
                                                                go_wp2_with (first | ((with_reducible refine gate_dst (N := 140) rfl ?_); (try (refine gate_guard (by rfl) ?_; dsimp only)); refine Kd.R_lit (Kd.int .u8) _ 5 ?hg (N := 140) ?hd (xs := ([(rd_T61 t477 x131_8).f1] : List Int)) (inner := [.int .u8 ((rd_T61 t477 x131_8).f1)]) (ok := fun _ => True) (okp := fun _ => True) ?hr ?hp (fun _ hk => hk) trivial (Below.refl _ _) (Nat.le_refl _) (by simp) ?_; (case hd => rfl); (case hg => rfl); (case hr => first | (go_simp; done) | (go_simp; rfl)); (case hp => exact (Reps.one (show Kd.M (Kd.int .u8) _ _ _ ((rd_T61 t477 x131_8).f1) [.int .u8 ((rd_T61 t477 x131_8).f1)] from rfl) (Reps.none _ _))); intro v483 w70 ho71 hb hg_ hnew_; clear hg_ hnew_; (first | rw [← Ny482.out] at ho71 | (simp only [Int.reduceToNat] at ho71; rw [← Ny482.out] at ho71)); have n0_ := Aside0.mk (Kd.R_below (by (with_reducible repeat (first | apply Kd.R_alloc | apply Kd.R_drewN | apply Kd.R_drew)); exact HO_11.out) hb); have n1_ := Aside0.mk (Kd.R_lower ho71 (below_size (by repeat (first | (with_reducible first | exact HB.out | apply below_alloc | apply pw_below_drewN | apply below_drew1) | exact HB.out)))); have n2_ := Aside0.mk (below_step (by repeat (first | (with_reducible first | exact HB.out | apply below_alloc | apply pw_below_drewN | apply below_drew1) | exact HB.out)) hb); clear HO_11; clear HB; have HO_11 := n0_; have HO484 := n1_; have HB := n2_; clear n0_ n1_ n2_; clear hb ho71; have hcv72 := own_string (P := Tryd.prog) Tryd.underlying62 Tryd.underlying5 Tryd.underlying9 (Kd.own_of_R HO484.out); have p485 : 0 ≤ (x131_8 : Int) := of_decide_eq_true (by first | (with_reducible assumption) | assumption); have q485 : x131_8 < (t477.length : Int) := of_decide_eq_true (by first | (with_reducible assumption) | assumption); obtain ⟨ad485, e485, hx485_0, hx485_1⟩ := at_T61 (Kd.R_reads' HO_11.out).2.2 x131_8 p485 q485; obtain rfl : ad481 = ad485 := (by injection e485); replace p485 := eq_true p485; replace q485 := eq_true q485; have p487 : 0 ≤ (x131_8 : Int) := of_decide_eq_true (by first | (with_reducible assumption) | assumption); have q487 : x131_8 < (t477.length : Int) := of_decide_eq_true (by first | (with_reducible assumption) | assumption); obtain ⟨ad487, e487, hx487_0, hx487_1⟩ := at_T61 (Kd.R_reads' HO_11.out).2.2 x131_8 p487 q487; obtain rfl : ad481 = ad487 := (by injection e487); replace p487 := eq_true p487; replace q487 := eq_true q487))
                                                                go_roundg k8
                                                                case measure => have := HJ1.out; have := HJ7.out; have := HJ14.out; have := HK4.out; have := HJ26.out; have := HJ30.out; have := HJ49.out; have := HK8.out; omega
                                                                case rel => exact ⟨(wrap64 (x7_8 + (wrap64 (60 * ((rd_T61 t477 x131_8).f0))))), (x13_8 ++ (strOfNums y482)), (wrap64 (x131_8 + 1)), (by first | rfl | (simp; done) | (simp [*]; done)), (by first | rfl | (simp; done) | (simp [*]; done)), (by first | rfl | (simp; done) | (simp [*]; done)), H', ⟨by have := HJ1.out; have := HJ7.out; have := HJ14.out; have := HK4.out; have := HJ26.out; have := HJ30.out; have := HJ49.out; have := HK8.out; omega⟩, ⟨by (with_reducible repeat (first | apply Kd.R_alloc | apply Kd.R_drewN | apply Kd.R_drew)); exact HO_11.out⟩, ⟨by repeat (first | (with_reducible first | exact HB.out | apply below_alloc | apply pw_below_drewN | apply below_drew1) | exact HB.out)⟩⟩
                                                              · rw [if_neg c69] at H
                                                                have c69b0 : (((rd_T61 t477 x131_8).f1) == 77) = false := beq_eq_false_iff_ne.mpr c69
                                                                have c69b1 : (((rd_T61 t477 x131_8).f1) != 77) = true := bne_iff_ne.mpr c69
                                                                by_cases c73 : ((rd_T61 t477 x131_8).f1) = 83
                                                                · rw [if_pos c73] at H
                                                                  have c73b0 : (((rd_T61 t477 x131_8).f1) == 83) = true := beq_iff_eq.mpr c73
                                                                  have c73b1 : (((rd_T61 t477 x131_8).f1) != 83) = false := bne_eq_false_iff_eq.mpr c73
                                                                  clear c73
                                                                  have H' := Aside0.mk H
                                                                  clear H
                                                                  have p481 : 0 ≤ (x131_8 : Int) := of_decide_eq_true (by first | (with_reducible assumption) | assumption)
                                                                  have q481 : x131_8 < (t477.length : Int) := of_decide_eq_true (by first | (with_reducible assumption) | assumption)
                                                                  obtain ⟨ad481, e481, hx481_0, hx481_1⟩ := at_T61 (Kd.R_reads' HO_11.out).2.2 x131_8 p481 q481
                                                                  cases e481
                                                                  replace p481 := eq_true p481
                                                                  replace q481 := eq_true q481
                                                                  go_wp2_with (first | ((with_reducible refine gate_dst (N := 140) rfl ?_); (try (refine gate_guard (by rfl) ?_; dsimp only)); refine Kd.R_lit (Kd.int .u8) _ 5 ?hg (N := 140) ?hd (xs := ([(rd_T61 t477 x131_8).f1] : List Int)) (inner := [.int .u8 ((rd_T61 t477 x131_8).f1)]) (ok := fun _ => True) (okp := fun _ => True) ?hr ?hp (fun _ hk => hk) trivial (Below.refl _ _) (Nat.le_refl _) (by simp) ?_; (case hd => rfl); (case hg => rfl); (case hr => first | (go_simp; done) | (go_simp; rfl)); (case hp => exact (Reps.one (show Kd.M (Kd.int .u8) _ _ _ ((rd_T61 t477 x131_8).f1) [.int .u8 ((rd_T61 t477 x131_8).f1)] from rfl) (Reps.none _ _))); intro v483 w74 ho75 hb hg_ hnew_; clear hg_ hnew_; (first | rw [← Ny482.out] at ho75 | (simp only [Int.reduceToNat] at ho75; rw [← Ny482.out] at ho75)); have n0_ := Aside0.mk (Kd.R_below (by (with_reducible repeat (first | apply Kd.R_alloc | apply Kd.R_drewN | apply Kd.R_drew)); exact HO_11.out) hb); have n1_ := Aside0.mk (Kd.R_lower ho75 (below_size (by repeat (first | (with_reducible first | exact HB.out | apply below_alloc | apply pw_below_drewN | apply below_drew1) | exact HB.out)))); have n2_ := Aside0.mk (below_step (by repeat (first | (with_reducible first | exact HB.out | apply below_alloc | apply pw_below_drewN | apply below_drew1) | exact HB.out)) hb); clear HO_11; clear HB; have HO_11 := n0_; have HO484 := n1_; have HB := n2_; clear n0_ n1_ n2_; clear hb ho75; have hcv76 := own_string (P := Tryd.prog) Tryd.underlying62 Tryd.underlying5 Tryd.underlying9 (Kd.own_of_R HO484.out); have p485 : 0 ≤ (x131_8 : Int) := of_decide_eq_true (by first | (with_reducible assumption) | assumption); have q485 : x131_8 < (t477.length : Int) := of_decide_eq_true (by first | (with_reducible assumption) | assumption); obtain ⟨ad485, e485, hx485_0, hx485_1⟩ := at_T61 (Kd.R_reads' HO_11.out).2.2 x131_8 p485 q485; obtain rfl : ad481 = ad485 := (by injection e485); replace p485 := eq_true p485; replace q485 := eq_true q485; have p488 : 0 ≤ (x131_8 : Int) := of_decide_eq_true (by first | (with_reducible assumption) | assumption); have q488 : x131_8 < (t477.length : Int) := of_decide_eq_true (by first | (with_reducible assumption) | assumption); obtain ⟨ad488, e488, hx488_0, hx488_1⟩ := at_T61 (Kd.R_reads' HO_11.out).2.2 x131_8 p488 q488; obtain rfl : ad481 = ad488 := (by injection e488); replace p488 := eq_true p488; replace q488 := eq_true q488))
                                                                  go_roundg k8
                                                                  case measure => have := HJ1.out; have := HJ7.out; have := HJ14.out; have := HK4.out; have := HJ26.out; have := HJ30.out; have := HJ49.out; have := HK8.out; omega
                                                                  case rel => exact ⟨(wrap64 (x7_8 + ((rd_T61 t477 x131_8).f0))), (x13_8 ++ (strOfNums y482)), (wrap64 (x131_8 + 1)), (by first | rfl | (simp; done) | (simp [*]; done)), (by first | rfl | (simp; done) | (simp [*]; done)), (by first | rfl | (simp; done) | (simp [*]; done)), H', ⟨by have := HJ1.out; have := HJ7.out; have := HJ14.out; have := HK4.out; have := HJ26.out; have := HJ30.out; have := HJ49.out; have := HK8.out; omega⟩, ⟨by (with_reducible repeat (first | apply Kd.R_alloc | apply Kd.R_drewN | apply Kd.R_drew)); exact HO_11.out⟩, ⟨by repeat (first | (with_reducible first | exact HB.out | apply below_alloc | apply pw_below_drewN | apply below_drew1) | exact HB.out)⟩⟩
                                                                · rw [if_neg c73] at H
                                                                  have c73b0 : (((rd_T61 t477 x131_8).f1) == 83) = false := beq_eq_false_iff_ne.mpr c73
                                                                  have c73b1 : (((rd_T61 t477 x131_8).f1) != 83) = true := bne_iff_ne.mpr c73
                                                                  have H' := Aside0.mk H
                                                                  clear H
                                                                  have p481 : 0 ≤ (x131_8 : Int) := of_decide_eq_true (by first | (with_reducible assumption) | assumption)
                                                                  have q481 : x131_8 < (t477.length : Int) := of_decide_eq_true (by first | (with_reducible assumption) | assumption)
                                                                  obtain ⟨ad481, e481, hx481_0, hx481_1⟩ := at_T61 (Kd.R_reads' HO_11.out).2.2 x131_8 p481 q481
                                                                  cases e481
                                                                  replace p481 := eq_true p481
                                                                  replace q481 := eq_true q481
                                                                  go_wp2_with (first | ((with_reducible refine gate_dst (N := 140) rfl ?_); (try (refine gate_guard (by rfl) ?_; dsimp only)); refine Kd.R_lit (Kd.int .u8) _ 5 ?hg (N := 140) ?hd (xs := ([(rd_T61 t477 x131_8).f1] : List Int)) (inner := [.int .u8 ((rd_T61 t477 x131_8).f1)]) (ok := fun _ => True) (okp := fun _ => True) ?hr ?hp (fun _ hk => hk) trivial (Below.refl _ _) (Nat.le_refl _) (by simp) ?_; (case hd => rfl); (case hg => rfl); (case hr => first | (go_simp; done) | (go_simp; rfl)); (case hp => exact (Reps.one (show Kd.M (Kd.int .u8) _ _ _ ((rd_T61 t477 x131_8).f1) [.int .u8 ((rd_T61 t477 x131_8).f1)] from rfl) (Reps.none _ _))); intro v483 w77 ho78 hb hg_ hnew_; clear hg_ hnew_; (first | rw [← Ny482.out] at ho78 | (simp only [Int.reduceToNat] at ho78; rw [← Ny482.out] at ho78)); have n0_ := Aside0.mk (Kd.R_below (by (with_reducible repeat (first | apply Kd.R_alloc | apply Kd.R_drewN | apply Kd.R_drew)); exact HO_11.out) hb); have n1_ := Aside0.mk (Kd.R_lower ho78 (below_size (by repeat (first | (with_reducible first | exact HB.out | apply below_alloc | apply pw_below_drewN | apply below_drew1) | exact HB.out)))); have n2_ := Aside0.mk (below_step (by repeat (first | (with_reducible first | exact HB.out | apply below_alloc | apply pw_below_drewN | apply below_drew1) | exact HB.out)) hb); clear HO_11; clear HB; have HO_11 := n0_; have HO484 := n1_; have HB := n2_; clear n0_ n1_ n2_; clear hb ho78; have hcv79 := own_string (P := Tryd.prog) Tryd.underlying62 Tryd.underlying5 Tryd.underlying9 (Kd.own_of_R HO484.out); have p485 : 0 ≤ (x131_8 : Int) := of_decide_eq_true (by first | (with_reducible assumption) | assumption); have q485 : x131_8 < (t477.length : Int) := of_decide_eq_true (by first | (with_reducible assumption) | assumption); obtain ⟨ad485, e485, hx485_0, hx485_1⟩ := at_T61 (Kd.R_reads' HO_11.out).2.2 x131_8 p485 q485; obtain rfl : ad481 = ad485 := (by injection e485); replace p485 := eq_true p485; replace q485 := eq_true q485))
                                                                  go_roundg k8
                                                                  case measure => have := HJ1.out; have := HJ7.out; have := HJ14.out; have := HK4.out; have := HJ26.out; have := HJ30.out; have := HJ49.out; have := HK8.out; omega
                                                                  case rel => exact ⟨(x7_8), (x13_8 ++ (strOfNums y482)), (wrap64 (x131_8 + 1)), (by first | rfl | (simp; done) | (simp [*]; done)), (by first | rfl | (simp; done) | (simp [*]; done)), (by first | rfl | (simp; done) | (simp [*]; done)), H', ⟨by have := HJ1.out; have := HJ7.out; have := HJ14.out; have := HK4.out; have := HJ26.out; have := HJ30.out; have := HJ49.out; have := HK8.out; omega⟩, ⟨by (with_reducible repeat (first | apply Kd.R_alloc | apply Kd.R_drewN | apply Kd.R_drew)); exact HO_11.out⟩, ⟨by repeat (first | (with_reducible first | exact HB.out | apply below_alloc | apply pw_below_drewN | apply below_drew1) | exact HB.out)⟩⟩
                                                        · rw [if_neg c64] at H
                                                          exact absurd H (by simp)
                                                      · rw [if_neg c63] at H
                                                        exact absurd H (by simp)
                                                    · rw [if_neg c62] at H
                                                      exact absurd H (by simp)
                                                  · rw [if_neg c61] at H
                                                    have c61b0 : decide (x131_8 < (t477.length : Int)) = false := decide_eq_false c61
                                                    clear c61
                                                    have HC80 := Aside0.mk H
                                                    clear H
                                                    go_upto_region 46 with (fail)
                                                    go_cut [199] (fun v199 wc => ∃ (kq : Nat) (x199_79 : Bool), v199 = .bool x199_79 ∧ Aside0 (trystref12_ParseDuration.j9 kq x4_7 x7_8 x199_79 = some (r1, r2)) ∧ Aside0 (kq ≤ k8) ∧ Aside0 (Below w.heap.size w wc))
                                                    case first =>
                                                      have H := HC80.out
                                                      clear HC80
                                                      by_cases c81 : x13_8.toList = ([72] : List UInt8)
                                                      · as_aux_lemma =>
                                                          rw [if_pos c81] at H
                                                          have c81b0 : (x13_8.toList == ([72] : List UInt8)) = true := beq_iff_eq.mpr c81
                                                          have c81b1 : (x13_8.toList != ([72] : List UInt8)) = false := bne_eq_false_iff_eq.mpr c81
                                                          clear c81
                                                          (first | rw [c81b0] | (simp only [i64_w, i32_w]; rw [c81b0]) | skip)
                                                          have H' := Aside0.mk H
                                                          clear H
                                                          go_wp2
                                                          go_meet
                                                          case rel => exact ⟨_, (false), (by first | rfl | (simp; done) | (simp [*]; done)), H', ⟨by have := HJ1.out; have := HJ7.out; have := HJ14.out; have := HK4.out; have := HJ26.out; have := HJ30.out; have := HJ49.out; have := HK8.out; first | omega | exact Nat.le_refl _⟩, ⟨by repeat (first | (with_reducible first | exact HB.out | apply below_alloc | apply pw_below_drewN | apply below_drew1) | exact HB.out)⟩⟩
                                                      · rw [if_neg c81] at H
                                                        have c81b0 : (x13_8.toList == ([72] : List UInt8)) = false := beq_eq_false_iff_ne.mpr c81
                                                        have c81b1 : (x13_8.toList != ([72] : List UInt8)) = true := bne_iff_ne.mpr c81
                                                        (first | rw [c81b0] | (simp only [i64_w, i32_w]; rw [c81b0]) | skip)
                                                        by_cases c82 : x13_8.toList = ([72, 77] : List UInt8)
                                                        · as_aux_lemma =>
                                                            rw [if_pos c82] at H
                                                            have c82b0 : (x13_8.toList == ([72, 77] : List UInt8)) = true := beq_iff_eq.mpr c82
                                                            have c82b1 : (x13_8.toList != ([72, 77] : List UInt8)) = false := bne_eq_false_iff_eq.mpr c82
                                                            clear c82
                                                            have H' := Aside0.mk H
                                                            clear H
                                                            go_wp2
                                                            go_meet
                                                            case rel => exact ⟨_, (false), (by first | rfl | (simp; done) | (simp [*]; done)), H', ⟨by have := HJ1.out; have := HJ7.out; have := HJ14.out; have := HK4.out; have := HJ26.out; have := HJ30.out; have := HJ49.out; have := HK8.out; first | omega | exact Nat.le_refl _⟩, ⟨by repeat (first | (with_reducible first | exact HB.out | apply below_alloc | apply pw_below_drewN | apply below_drew1) | exact HB.out)⟩⟩
                                                        · as_aux_lemma =>
                                                            rw [if_neg c82] at H
                                                            have c82b0 : (x13_8.toList == ([72, 77] : List UInt8)) = false := beq_eq_false_iff_ne.mpr c82
                                                            have c82b1 : (x13_8.toList != ([72, 77] : List UInt8)) = true := bne_iff_ne.mpr c82
                                                            by_cases c83 : x13_8.toList = ([72, 77, 83] : List UInt8)
                                                            · rw [if_pos c83] at H
                                                              have c83b0 : (x13_8.toList == ([72, 77, 83] : List UInt8)) = true := beq_iff_eq.mpr c83
                                                              have c83b1 : (x13_8.toList != ([72, 77, 83] : List UInt8)) = false := bne_eq_false_iff_eq.mpr c83
                                                              clear c83
                                                              have H' := Aside0.mk H
                                                              clear H
                                                              go_wp2
                                                              go_meet
                                                              case rel => exact ⟨_, (false), (by first | rfl | (simp; done) | (simp [*]; done)), H', ⟨by have := HJ1.out; have := HJ7.out; have := HJ14.out; have := HK4.out; have := HJ26.out; have := HJ30.out; have := HJ49.out; have := HK8.out; first | omega | exact Nat.le_refl _⟩, ⟨by repeat (first | (with_reducible first | exact HB.out | apply below_alloc | apply pw_below_drewN | apply below_drew1) | exact HB.out)⟩⟩
                                                            · rw [if_neg c83] at H
                                                              have c83b0 : (x13_8.toList == ([72, 77, 83] : List UInt8)) = false := beq_eq_false_iff_ne.mpr c83
                                                              have c83b1 : (x13_8.toList != ([72, 77, 83] : List UInt8)) = true := bne_iff_ne.mpr c83
                                                              by_cases c84 : x13_8.toList = ([77] : List UInt8)
                                                              · rw [if_pos c84] at H
                                                                have c84b0 : (x13_8.toList == ([77] : List UInt8)) = true := beq_iff_eq.mpr c84
                                                                have c84b1 : (x13_8.toList != ([77] : List UInt8)) = false := bne_eq_false_iff_eq.mpr c84
                                                                clear c84
                                                                have H' := Aside0.mk H
                                                                clear H
                                                                go_wp2
                                                                go_meet
                                                                case rel => exact ⟨_, (false), (by first | rfl | (simp; done) | (simp [*]; done)), H', ⟨by have := HJ1.out; have := HJ7.out; have := HJ14.out; have := HK4.out; have := HJ26.out; have := HJ30.out; have := HJ49.out; have := HK8.out; first | omega | exact Nat.le_refl _⟩, ⟨by repeat (first | (with_reducible first | exact HB.out | apply below_alloc | apply pw_below_drewN | apply below_drew1) | exact HB.out)⟩⟩
                                                              · rw [if_neg c84] at H
                                                                have c84b0 : (x13_8.toList == ([77] : List UInt8)) = false := beq_eq_false_iff_ne.mpr c84
                                                                have c84b1 : (x13_8.toList != ([77] : List UInt8)) = true := bne_iff_ne.mpr c84
                                                                by_cases c85 : x13_8.toList = ([77, 83] : List UInt8)
                                                                · rw [if_pos c85] at H
                                                                  have c85b0 : (x13_8.toList == ([77, 83] : List UInt8)) = true := beq_iff_eq.mpr c85
                                                                  have c85b1 : (x13_8.toList != ([77, 83] : List UInt8)) = false := bne_eq_false_iff_eq.mpr c85
                                                                  clear c85
                                                                  have H' := Aside0.mk H
                                                                  clear H
                                                                  go_wp2
                                                                  go_meet
                                                                  case rel => exact ⟨_, (false), (by first | rfl | (simp; done) | (simp [*]; done)), H', ⟨by have := HJ1.out; have := HJ7.out; have := HJ14.out; have := HK4.out; have := HJ26.out; have := HJ30.out; have := HJ49.out; have := HK8.out; first | omega | exact Nat.le_refl _⟩, ⟨by repeat (first | (with_reducible first | exact HB.out | apply below_alloc | apply pw_below_drewN | apply below_drew1) | exact HB.out)⟩⟩
                                                                · rw [if_neg c85] at H
                                                                  have c85b0 : (x13_8.toList == ([77, 83] : List UInt8)) = false := beq_eq_false_iff_ne.mpr c85
                                                                  have c85b1 : (x13_8.toList != ([77, 83] : List UInt8)) = true := bne_iff_ne.mpr c85
                                                                  have H' := Aside0.mk H
                                                                  clear H
                                                                  go_wp2
                                                                  go_meet
                                                                  case rel => exact ⟨_, ((x13_8.toList != ([83] : List UInt8))), (by first | rfl | (simp; done) | (simp [*]; done)), H', ⟨by have := HJ1.out; have := HJ7.out; have := HJ14.out; have := HK4.out; have := HJ26.out; have := HJ30.out; have := HJ49.out; have := HK8.out; first | omega | exact Nat.le_refl _⟩, ⟨by repeat (first | (with_reducible first | exact HB.out | apply below_alloc | apply pw_below_drewN | apply below_drew1) | exact HB.out)⟩⟩
                                                    case rest =>
                                                      clear HC80
                                                      try clear c1
                                                      try clear p1
                                                      try clear q1
                                                      try clear hx1
                                                      try clear qi1
                                                      try clear c2
                                                      try clear p2
                                                      try clear q2
                                                      try clear hx2
                                                      try clear c3
                                                      try clear c3b0
                                                      try clear c3b1
                                                      try clear c4
                                                      try clear c4b0
                                                      try clear c4b1
                                                      try clear p4
                                                      try clear q4
                                                      try clear hx4
                                                      try clear qi4
                                                      try clear c5
                                                      try clear p5
                                                      try clear q5
                                                      try clear hx5
                                                      try clear qi5
                                                      try clear c6
                                                      try clear c6b0
                                                      try clear c6b1
                                                      try clear p6
                                                      try clear hcv6
                                                      try clear c7
                                                      try clear p7
                                                      try clear q7
                                                      try clear hx7
                                                      try clear hcv7
                                                      try clear qi7
                                                      try clear c8
                                                      try clear c9
                                                      try clear c10
                                                      try clear c10b0
                                                      try clear c10b1
                                                      try clear p11
                                                      try clear q11
                                                      try clear hx11
                                                      try clear qi11
                                                      try clear c12
                                                      try clear c12b0
                                                      try clear c12b1
                                                      try clear c13
                                                      try clear c13b0
                                                      try clear c13b1
                                                      try clear c14
                                                      try clear c14b0
                                                      try clear c14b1
                                                      try clear c16
                                                      try clear c16b0
                                                      try clear c16b1
                                                      try clear c17
                                                      try clear c17b0
                                                      try clear c17b1
                                                      try clear p18
                                                      try clear q18
                                                      try clear hx18
                                                      try clear qi18
                                                      try clear c19
                                                      try clear c20
                                                      try clear c20b0
                                                      try clear c20b1
                                                      try clear c21
                                                      try clear c21b0
                                                      try clear c22
                                                      try clear c22b0
                                                      try clear c23
                                                      try clear c23b0
                                                      try clear p24
                                                      try clear q24
                                                      try clear hx24
                                                      try clear c25
                                                      try clear c25b0
                                                      try clear c25b1
                                                      try clear c26
                                                      try clear c26b0
                                                      try clear c28
                                                      try clear c28b0
                                                      try clear c29
                                                      try clear c29b0
                                                      try clear c29b1
                                                      try clear c30
                                                      try clear c30b0
                                                      try clear c30b1
                                                      try clear c32
                                                      try clear c32b0
                                                      try clear c32b1
                                                      try clear c36
                                                      try clear c37
                                                      try clear c37b0
                                                      try clear c37b1
                                                      try clear c38
                                                      try clear c38b0
                                                      try clear c38b1
                                                      try clear c39
                                                      try clear c39b0
                                                      try clear c39b1
                                                      try clear c41
                                                      try clear c41b0
                                                      try clear c41b1
                                                      try clear c45
                                                      try clear c46
                                                      try clear c46b0
                                                      try clear c46b1
                                                      try clear c47
                                                      try clear c47b0
                                                      try clear c47b1
                                                      try clear p47
                                                      try clear q47
                                                      try clear hx47
                                                      try clear qi47
                                                      try clear p48
                                                      try clear q48
                                                      try clear hx48
                                                      try clear c49
                                                      try clear c51
                                                      try clear c51b0
                                                      try clear c51b1
                                                      try clear c52
                                                      try clear c53
                                                      try clear c53b0
                                                      try clear c55
                                                      try clear c55b0
                                                      try clear c55b1
                                                      try clear c56
                                                      try clear c56b0
                                                      try clear c56b1
                                                      try clear c58
                                                      try clear c61
                                                      try clear c61b0
                                                      try clear c62
                                                      try clear c62b0
                                                      try clear c63
                                                      try clear c63b0
                                                      try clear c64
                                                      try clear c64b0
                                                      try clear c64b1
                                                      try clear c64b2
                                                      try clear p64
                                                      try clear c65
                                                      try clear c65b0
                                                      try clear c65b1
                                                      try clear hcv68
                                                      try clear c69
                                                      try clear c69b0
                                                      try clear c69b1
                                                      try clear hcv72
                                                      try clear c73
                                                      try clear c73b0
                                                      try clear c73b1
                                                      try clear hcv76
                                                      try clear hcv79
                                                      try clear c81
                                                      try clear c81b0
                                                      try clear c81b1
                                                      try clear c82
                                                      try clear c82b0
                                                      try clear c82b1
                                                      try clear c83
                                                      try clear c83b0
                                                      try clear c83b1
                                                      try clear c84
                                                      try clear c84b0
                                                      try clear c84b1
                                                      try clear c85
                                                      try clear c85b0
                                                      try clear c85b1
                                                      try clear hx472_0
                                                      try clear hx472_1
                                                      try clear hx473_0
                                                      try clear hx473_1
                                                      try clear hx474_0
                                                      try clear hx474_1
                                                      try clear hx475_0
                                                      try clear hx475_1
                                                      try clear hx476_0
                                                      try clear hx476_1
                                                      try clear hx481_0
                                                      try clear hx481_1
                                                      try clear hx485_0
                                                      try clear hx485_1
                                                      try clear hx486_0
                                                      try clear hx486_1
                                                      try clear hx487_0
                                                      try clear hx487_1
                                                      try clear hx488_0
                                                      try clear hx488_1
                                                      try clear p1
                                                      try clear p11
                                                      try clear p18
                                                      try clear p2
                                                      try clear p24
                                                      try clear p4
                                                      try clear p47
                                                      try clear p472
                                                      try clear p473
                                                      try clear p474
                                                      try clear p475
                                                      try clear p476
                                                      try clear p481
                                                      try clear p485
                                                      try clear p486
                                                      try clear p487
                                                      try clear p488
                                                      try clear p5
                                                      try clear p6
                                                      try clear p7
                                                      try clear q1
                                                      try clear q11
                                                      try clear q18
                                                      try clear q2
                                                      try clear q24
                                                      try clear q4
                                                      try clear q47
                                                      try clear q472
                                                      try clear q473
                                                      try clear q474
                                                      try clear q475
                                                      try clear q476
                                                      try clear q481
                                                      try clear q485
                                                      try clear q486
                                                      try clear q487
                                                      try clear q488
                                                      try clear q5
                                                      try clear q7
                                                      obtain ⟨kq, x199_79, rfl, HA, HJ79, HB⟩ := hcut
                                                      cases kq with
                                                      | zero => exact absurd HA.out (by simp [trystref12_ParseDuration.j9])
                                                      | succ kj79 =>
                                                        have H := HA.out
                                                        clear HA
                                                        simp only [trystref12_ParseDuration.j9] at H
                                                        by_cases c86 : x199_79 = true
                                                        · as_aux_lemma =>
                                                            subst c86
                                                            have H1 : (some (0, 7)) = some (r1, r2) := by rw [if_pos rfl] at H; exact H
                                                            clear H
                                                            have H := H1
                                                            clear H1
                                                            simp only [Option.some.injEq, Prod.mk.injEq] at H
                                                            obtain ⟨rfl, rfl⟩ := H
                                                            go_wp2
                                                            go_ret2
                                                            exact ⟨by first | rfl | (simp [errW_none, errW_some] <;> rfl) | (simp only [← hji54]; first | rfl | (simp [errW_none, errW_some] <;> rfl)) | (simp [*, errW_none, errW_some] <;> rfl), by repeat (first | (with_reducible first | exact HB.out | apply below_alloc | apply pw_below_drewN | apply below_drew1) | exact HB.out)⟩
                                                        · as_aux_lemma =>
                                                            replace c86 := Bool.eq_false_iff.mpr c86
                                                            subst c86
                                                            have H1 : (if x7_8 > 10000000000 then (some (0, 7)) else (some (wrap64 (x4_7 * x7_8), 0))) = some (r1, r2) := by rw [if_neg (show ¬ (false = true) by decide)] at H; exact H
                                                            clear H
                                                            have H := H1
                                                            clear H1
                                                            by_cases c87 : x7_8 > 10000000000
                                                            · rw [if_pos c87] at H
                                                              have c87b0 : decide (10000000000 < x7_8) = true := decide_eq_true c87
                                                              clear c87
                                                              simp only [Option.some.injEq, Prod.mk.injEq] at H
                                                              obtain ⟨rfl, rfl⟩ := H
                                                              go_wp2
                                                              go_ret2
                                                              exact ⟨by first | rfl | (simp [errW_none, errW_some] <;> rfl) | (simp only [← hji54]; first | rfl | (simp [errW_none, errW_some] <;> rfl)) | (simp [*, errW_none, errW_some] <;> rfl), by repeat (first | (with_reducible first | exact HB.out | apply below_alloc | apply pw_below_drewN | apply below_drew1) | exact HB.out)⟩
                                                            · rw [if_neg c87] at H
                                                              have c87b0 : decide (10000000000 < x7_8) = false := decide_eq_false c87
                                                              clear c87
                                                              simp only [Option.some.injEq, Prod.mk.injEq] at H
                                                              obtain ⟨rfl, rfl⟩ := H
                                                              go_wp2
                                                              go_ret2
                                                              exact ⟨by first | rfl | (simp [errW_none, errW_some] <;> rfl) | (simp only [← hji54]; first | rfl | (simp [errW_none, errW_some] <;> rfl)) | (simp [*, errW_none, errW_some] <;> rfl), by repeat (first | (with_reducible first | exact HB.out | apply below_alloc | apply pw_below_drewN | apply below_drew1) | exact HB.out)⟩
                                            · as_aux_lemma =>
                                                replace c58 := Bool.eq_false_iff.mpr c58
                                                subst c58
                                                have H1 : (some (0, 7)) = some (r1, r2) := by rw [if_neg (show ¬ (false = true) by decide)] at H; exact H
                                                clear H
                                                have H := H1
                                                clear H1
                                                simp only [Option.some.injEq, Prod.mk.injEq] at H
                                                obtain ⟨rfl, rfl⟩ := H
                                                go_wp2_with (first | ((with_reducible refine gate_callee (f := 49) rfl ?_); refine goesL_ (some 124) rfl rfl Tryd.func49 (by kernel_rfl) rfl #[.string (y0_7.extract ((ji54) : Int).toNat y0_7.size)] rfl (by (try simp only [List.map_toArray, List.map_cons, List.map_nil]); first | done | (simp only [hji54]; rfl) | rfl | (simp only [List.length_drop, List.length_take]; rfl)) ?_; (with_reducible refine (trystref12_terms.calls kj49 (y0_7.extract ((ji54) : Int).toNat y0_7.size) t477 false _ A57.out).mono ?_); rintro e w88 ⟨v479, rfl, ho0, hb⟩; refine ⟨_, rfl, ?_⟩; have n0_ := Aside0.mk (Kd.R_lower ho0 (below_size (by repeat (first | (with_reducible first | exact HB.out | apply below_alloc | apply pw_below_drewN | apply below_drew1) | exact HB.out)))); have n1_ := Aside0.mk (below_step (by repeat (first | (with_reducible first | exact HB.out | apply below_alloc | apply pw_below_drewN | apply below_drew1) | exact HB.out)) hb); clear HB; have HO480 := n0_; have HB := n1_; clear n0_ n1_; (try clear hb); (try clear hb2); (try clear hk); (try clear hi); (try clear ho0)))
                                                go_ret2
                                                exact ⟨by first | rfl | (simp [errW_none, errW_some] <;> rfl) | (simp only [← hji54]; first | rfl | (simp [errW_none, errW_some] <;> rfl)) | (simp [*, errW_none, errW_some] <;> rfl), by repeat (first | (with_reducible first | exact HB.out | apply below_alloc | apply pw_below_drewN | apply below_drew1) | exact HB.out)⟩
                                          · rw [if_neg c56] at H
                                            exact absurd H (by simp)
                                        · rw [if_neg c55] at H
                                          exact absurd H (by simp)
                                      · as_aux_lemma =>
                                          rw [if_neg c53] at H
                                          have c53b0 : decide (0 ≤ x5_4) = false := decide_eq_false c53
                                          clear c53
                                          by_cases c89 : x7_30 > 10000000000
                                          · rw [if_pos c89] at H
                                            have c89b0 : decide (10000000000 < x7_30) = true := decide_eq_true c89
                                            clear c89
                                            simp only [Option.some.injEq, Prod.mk.injEq] at H
                                            obtain ⟨rfl, rfl⟩ := H
                                            go_wp2
                                            go_ret2
                                            exact ⟨by first | rfl | (simp [errW_none, errW_some] <;> rfl) | (simp [*, errW_none, errW_some] <;> rfl), by repeat (first | (with_reducible first | exact HB.out | apply below_alloc | apply pw_below_drewN | apply below_drew1) | exact HB.out)⟩
                                          · rw [if_neg c89] at H
                                            have c89b0 : decide (10000000000 < x7_30) = false := decide_eq_false c89
                                            clear c89
                                            simp only [Option.some.injEq, Prod.mk.injEq] at H
                                            obtain ⟨rfl, rfl⟩ := H
                                            go_wp2
                                            go_ret2
                                            exact ⟨by first | rfl | (simp [errW_none, errW_some] <;> rfl) | (simp [*, errW_none, errW_some] <;> rfl), by repeat (first | (with_reducible first | exact HB.out | apply below_alloc | apply pw_below_drewN | apply below_drew1) | exact HB.out)⟩
                · rw [if_neg c20] at H
                  exact absurd H (by simp)

end Go.Proofs.YthppkdbelmolbaaDoor.Q
