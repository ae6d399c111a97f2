/- Texts of this claim, merged: LshowLine. -/
import Derived.Test.YtgbbgcepcnklkaaDoorMgShowLines1
import Derived.Test.YtgbbgcepcnklkaaDoorMgShowLines18
-- written by a program of this session (wip/own_print.sh)
namespace Go.Proofs.YtgbbgcepcnklkaaDoor.L
open Go.RowKit Go.Proofs.YtgbbgcepcnklkaaDoorW.PrintWords Go.Proofs.YtgbbgcepcnklkaaDoorW.PrintLast Go.Proofs.YtgbbgcepcnklkaaDoorW.PrintMore
attribute [local go_sem] max2_int min2_int max_two min_two
set_option linter.unusedVariables false
set_option linter.unusedSimpArgs false
/-! ### show_Line: function 12 -/
def show_Line.f (a0_0 : Int) (a0_1 : Int) (a0_2 : Int) (a0_3 : ByteArray) (a0_4 : Int) (a1 : Int) : Option (ByteArray × Int) := (show_is.f a1).bind fun t301 => (if t301 = true then ((clock_Right.f a0_0).bind fun t302 => (if t302 = true then ((clock_Right.f a0_1).bind fun t303 => (if t303 = true then ((clock_Day.f a0_0).bind fun t304 => ((show_Text.f a1 t304).bind fun bt305 => ((show_hours.f a0_0).bind fun t307 => (if 1 + t307.size ≤ 9223372036854775807 then (if ((⟨#[32]⟩ : ByteArray) ++ t307).size + 1 ≤ 9223372036854775807 then ((show_hours.f a0_1).bind fun t308 => (if (((⟨#[32]⟩ : ByteArray) ++ t307) ++ (⟨#[45]⟩ : ByteArray)).size + t308.size ≤ 9223372036854775807 then (if ((((⟨#[32]⟩ : ByteArray) ++ t307) ++ (⟨#[45]⟩ : ByteArray)) ++ t308).size + 1 ≤ 9223372036854775807 then ((show_clean.f a0_3).bind fun t309 => (if (((((⟨#[32]⟩ : ByteArray) ++ t307) ++ (⟨#[45]⟩ : ByteArray)) ++ t308) ++ (⟨#[32]⟩ : ByteArray)).size + t309.size ≤ 9223372036854775807 then (if bt305.1.size + ((((((⟨#[32]⟩ : ByteArray) ++ t307) ++ (⟨#[45]⟩ : ByteArray)) ++ t308) ++ (⟨#[32]⟩ : ByteArray)) ++ t309).size ≤ 9223372036854775807 then (if a0_4 = 3 then (if (bt305.1 ++ ((((((⟨#[32]⟩ : ByteArray) ++ t307) ++ (⟨#[45]⟩ : ByteArray)) ++ t308) ++ (⟨#[32]⟩ : ByteArray)) ++ t309)).size + 12 ≤ 9223372036854775807 then (some ((bt305.1 ++ ((((((⟨#[32]⟩ : ByteArray) ++ t307) ++ (⟨#[45]⟩ : ByteArray)) ++ t308) ++ (⟨#[32]⟩ : ByteArray)) ++ t309)) ++ (⟨#[32, 40, 99, 97, 110, 99, 101, 108, 108, 101, 100, 41]⟩ : ByteArray), 0)) else (none)) else (if a0_4 = 1 then (if (bt305.1 ++ ((((((⟨#[32]⟩ : ByteArray) ++ t307) ++ (⟨#[45]⟩ : ByteArray)) ++ t308) ++ (⟨#[32]⟩ : ByteArray)) ++ t309)).size + 12 ≤ 9223372036854775807 then (some ((bt305.1 ++ ((((((⟨#[32]⟩ : ByteArray) ++ t307) ++ (⟨#[45]⟩ : ByteArray)) ++ t308) ++ (⟨#[32]⟩ : ByteArray)) ++ t309)) ++ (⟨#[32, 40, 116, 101, 110, 116, 97, 116, 105, 118, 101, 41]⟩ : ByteArray), 0)) else (none)) else (some (bt305.1 ++ ((((((⟨#[32]⟩ : ByteArray) ++ t307) ++ (⟨#[45]⟩ : ByteArray)) ++ t308) ++ (⟨#[32]⟩ : ByteArray)) ++ t309), 0)))) else (none)) else (none))) else (none)) else (none))) else (none)) else (none))))) else (some ((⟨#[]⟩ : ByteArray), 2)))) else (some ((⟨#[]⟩ : ByteArray), 2)))) else (some ((⟨#[]⟩ : ByteArray), 1)))
def show_Line.T6 : Bool × List (List Nat × List Nat) := (true, [([], []), ([], []), ([1], [1]), ([2], [2]), ([3], [3]), ([4], [4]), ([], []), ([6], [6]), ([7, 3], [7]), ([5, 8], [5, 8]), ([9], [9]), ([], []), ([11], [11]), ([12, 8], [12]), ([10, 13], [10, 13]), ([0, 14], [0, 14]), ([15, 13, 0, 1, 2, 3, 4, 5, 6, 7, 8, 9, 10, 11, 12, 13, 14, 15], [0, 15])])
def show_Line.B6 : List Nat := [0, 0, 2, 6, 14, 30, 0, 64, 206, 510, 1022, 0, 2048, 6606, 16382, 32767, 65535]
theorem show_Line.tab6 : rtab .any (opsOf Tryd.f12 6) = show_Line.T6 := by kernel_rfl
theorem show_Line.bits6 : waitsOk show_Line.T6.2 show_Line.B6 = true := by kernel_rfl
set_option maxHeartbeats 8000000 in
set_option maxRecDepth 100000 in
theorem show_Line.calls (a0_0 : Int) (a0_1 : Int) (a0_2 : Int) (a0_3 : ByteArray) (a0_4 : Int) (a1 : Int) (r1 : ByteArray) (r2 : Int) (w : World) (h : show_Line.f a0_0 a0_1 a0_2 a0_3 a0_4 a1 = some (r1, r2)) (ht : ShowAw.Tab w) :
  Calls Tryd.prog 12 #[.agg #[.int .i64 a0_0, .int .i64 a0_1, .int .i64 a0_2, .string a0_3, .int .i64 a0_4], .int .i64 a1] w fun e w' => e = .returned (.tuple #[.string r1, .int .i64 r2]) ∧ Below w.heap.size w w' := by
 have TB_ := Aside0.mk ht
 clear ht
 have hu35 := Tryd.underlying35
 have HB := Aside0.mk (Below.refl w.heap.size w)
 have H : ((show_is.f a1).bind fun t301 => (if t301 = true then ((clock_Right.f a0_0).bind fun t302 => (if t302 = true then ((clock_Right.f a0_1).bind fun t303 => (if t303 = true then ((clock_Day.f a0_0).bind fun t304 => ((show_Text.f a1 t304).bind fun bt305 => ((show_hours.f a0_0).bind fun t307 => (if 1 + t307.size ≤ 9223372036854775807 then (if ((⟨#[32]⟩ : ByteArray) ++ t307).size + 1 ≤ 9223372036854775807 then ((show_hours.f a0_1).bind fun t308 => (if (((⟨#[32]⟩ : ByteArray) ++ t307) ++ (⟨#[45]⟩ : ByteArray)).size + t308.size ≤ 9223372036854775807 then (if ((((⟨#[32]⟩ : ByteArray) ++ t307) ++ (⟨#[45]⟩ : ByteArray)) ++ t308).size + 1 ≤ 9223372036854775807 then ((show_clean.f a0_3).bind fun t309 => (if (((((⟨#[32]⟩ : ByteArray) ++ t307) ++ (⟨#[45]⟩ : ByteArray)) ++ t308) ++ (⟨#[32]⟩ : ByteArray)).size + t309.size ≤ 9223372036854775807 then (if bt305.1.size + ((((((⟨#[32]⟩ : ByteArray) ++ t307) ++ (⟨#[45]⟩ : ByteArray)) ++ t308) ++ (⟨#[32]⟩ : ByteArray)) ++ t309).size ≤ 9223372036854775807 then (if a0_4 = 3 then (if (bt305.1 ++ ((((((⟨#[32]⟩ : ByteArray) ++ t307) ++ (⟨#[45]⟩ : ByteArray)) ++ t308) ++ (⟨#[32]⟩ : ByteArray)) ++ t309)).size + 12 ≤ 9223372036854775807 then (some ((bt305.1 ++ ((((((⟨#[32]⟩ : ByteArray) ++ t307) ++ (⟨#[45]⟩ : ByteArray)) ++ t308) ++ (⟨#[32]⟩ : ByteArray)) ++ t309)) ++ (⟨#[32, 40, 99, 97, 110, 99, 101, 108, 108, 101, 100, 41]⟩ : ByteArray), 0)) else (none)) else (if a0_4 = 1 then (if (bt305.1 ++ ((((((⟨#[32]⟩ : ByteArray) ++ t307) ++ (⟨#[45]⟩ : ByteArray)) ++ t308) ++ (⟨#[32]⟩ : ByteArray)) ++ t309)).size + 12 ≤ 9223372036854775807 then (some ((bt305.1 ++ ((((((⟨#[32]⟩ : ByteArray) ++ t307) ++ (⟨#[45]⟩ : ByteArray)) ++ t308) ++ (⟨#[32]⟩ : ByteArray)) ++ t309)) ++ (⟨#[32, 40, 116, 101, 110, 116, 97, 116, 105, 118, 101, 41]⟩ : ByteArray), 0)) else (none)) else (some (bt305.1 ++ ((((((⟨#[32]⟩ : ByteArray) ++ t307) ++ (⟨#[45]⟩ : ByteArray)) ++ t308) ++ (⟨#[32]⟩ : ByteArray)) ++ t309), 0)))) else (none)) else (none))) else (none)) else (none))) else (none)) else (none))))) else (some ((⟨#[]⟩ : ByteArray), 2)))) else (some ((⟨#[]⟩ : ByteArray), 2)))) else (some ((⟨#[]⟩ : ByteArray), 1)))) = some (r1, r2) := h
 clear h
 replace H := Option.bind_eq_some_iff.mp H
 obtain ⟨t301, A30, H⟩ := H
 replace H : (if t301 = true then ((clock_Right.f a0_0).bind fun t302 => (if t302 = true then ((clock_Right.f a0_1).bind fun t303 => (if t303 = true then ((clock_Day.f a0_0).bind fun t304 => ((show_Text.f a1 t304).bind fun bt305 => ((show_hours.f a0_0).bind fun t307 => (if 1 + t307.size ≤ 9223372036854775807 then (if ((⟨#[32]⟩ : ByteArray) ++ t307).size + 1 ≤ 9223372036854775807 then ((show_hours.f a0_1).bind fun t308 => (if (((⟨#[32]⟩ : ByteArray) ++ t307) ++ (⟨#[45]⟩ : ByteArray)).size + t308.size ≤ 9223372036854775807 then (if ((((⟨#[32]⟩ : ByteArray) ++ t307) ++ (⟨#[45]⟩ : ByteArray)) ++ t308).size + 1 ≤ 9223372036854775807 then ((show_clean.f a0_3).bind fun t309 => (if (((((⟨#[32]⟩ : ByteArray) ++ t307) ++ (⟨#[45]⟩ : ByteArray)) ++ t308) ++ (⟨#[32]⟩ : ByteArray)).size + t309.size ≤ 9223372036854775807 then (if bt305.1.size + ((((((⟨#[32]⟩ : ByteArray) ++ t307) ++ (⟨#[45]⟩ : ByteArray)) ++ t308) ++ (⟨#[32]⟩ : ByteArray)) ++ t309).size ≤ 9223372036854775807 then (if a0_4 = 3 then (if (bt305.1 ++ ((((((⟨#[32]⟩ : ByteArray) ++ t307) ++ (⟨#[45]⟩ : ByteArray)) ++ t308) ++ (⟨#[32]⟩ : ByteArray)) ++ t309)).size + 12 ≤ 9223372036854775807 then (some ((bt305.1 ++ ((((((⟨#[32]⟩ : ByteArray) ++ t307) ++ (⟨#[45]⟩ : ByteArray)) ++ t308) ++ (⟨#[32]⟩ : ByteArray)) ++ t309)) ++ (⟨#[32, 40, 99, 97, 110, 99, 101, 108, 108, 101, 100, 41]⟩ : ByteArray), 0)) else (none)) else (if a0_4 = 1 then (if (bt305.1 ++ ((((((⟨#[32]⟩ : ByteArray) ++ t307) ++ (⟨#[45]⟩ : ByteArray)) ++ t308) ++ (⟨#[32]⟩ : ByteArray)) ++ t309)).size + 12 ≤ 9223372036854775807 then (some ((bt305.1 ++ ((((((⟨#[32]⟩ : ByteArray) ++ t307) ++ (⟨#[45]⟩ : ByteArray)) ++ t308) ++ (⟨#[32]⟩ : ByteArray)) ++ t309)) ++ (⟨#[32, 40, 116, 101, 110, 116, 97, 116, 105, 118, 101, 41]⟩ : ByteArray), 0)) else (none)) else (some (bt305.1 ++ ((((((⟨#[32]⟩ : ByteArray) ++ t307) ++ (⟨#[45]⟩ : ByteArray)) ++ t308) ++ (⟨#[32]⟩ : ByteArray)) ++ t309), 0)))) else (none)) else (none))) else (none)) else (none))) else (none)) else (none))))) else (some ((⟨#[]⟩ : ByteArray), 2)))) else (some ((⟨#[]⟩ : ByteArray), 2)))) else (some ((⟨#[]⟩ : ByteArray), 1))) = some (r1, r2) := H
 have A3 := Aside0.mk A30
 clear A30
 by_cases c4 : t301 = true
 ·subst c4
  have H1 : ((clock_Right.f a0_0).bind fun t302 => (if t302 = true then ((clock_Right.f a0_1).bind fun t303 => (if t303 = true then ((clock_Day.f a0_0).bind fun t304 => ((show_Text.f a1 t304).bind fun bt305 => ((show_hours.f a0_0).bind fun t307 => (if 1 + t307.size ≤ 9223372036854775807 then (if ((⟨#[32]⟩ : ByteArray) ++ t307).size + 1 ≤ 9223372036854775807 then ((show_hours.f a0_1).bind fun t308 => (if (((⟨#[32]⟩ : ByteArray) ++ t307) ++ (⟨#[45]⟩ : ByteArray)).size + t308.size ≤ 9223372036854775807 then (if ((((⟨#[32]⟩ : ByteArray) ++ t307) ++ (⟨#[45]⟩ : ByteArray)) ++ t308).size + 1 ≤ 9223372036854775807 then ((show_clean.f a0_3).bind fun t309 => (if (((((⟨#[32]⟩ : ByteArray) ++ t307) ++ (⟨#[45]⟩ : ByteArray)) ++ t308) ++ (⟨#[32]⟩ : ByteArray)).size + t309.size ≤ 9223372036854775807 then (if bt305.1.size + ((((((⟨#[32]⟩ : ByteArray) ++ t307) ++ (⟨#[45]⟩ : ByteArray)) ++ t308) ++ (⟨#[32]⟩ : ByteArray)) ++ t309).size ≤ 9223372036854775807 then (if a0_4 = 3 then (if (bt305.1 ++ ((((((⟨#[32]⟩ : ByteArray) ++ t307) ++ (⟨#[45]⟩ : ByteArray)) ++ t308) ++ (⟨#[32]⟩ : ByteArray)) ++ t309)).size + 12 ≤ 9223372036854775807 then (some ((bt305.1 ++ ((((((⟨#[32]⟩ : ByteArray) ++ t307) ++ (⟨#[45]⟩ : ByteArray)) ++ t308) ++ (⟨#[32]⟩ : ByteArray)) ++ t309)) ++ (⟨#[32, 40, 99, 97, 110, 99, 101, 108, 108, 101, 100, 41]⟩ : ByteArray), 0)) else (none)) else (if a0_4 = 1 then (if (bt305.1 ++ ((((((⟨#[32]⟩ : ByteArray) ++ t307) ++ (⟨#[45]⟩ : ByteArray)) ++ t308) ++ (⟨#[32]⟩ : ByteArray)) ++ t309)).size + 12 ≤ 9223372036854775807 then (some ((bt305.1 ++ ((((((⟨#[32]⟩ : ByteArray) ++ t307) ++ (⟨#[45]⟩ : ByteArray)) ++ t308) ++ (⟨#[32]⟩ : ByteArray)) ++ t309)) ++ (⟨#[32, 40, 116, 101, 110, 116, 97, 116, 105, 118, 101, 41]⟩ : ByteArray), 0)) else (none)) else (some (bt305.1 ++ ((((((⟨#[32]⟩ : ByteArray) ++ t307) ++ (⟨#[45]⟩ : ByteArray)) ++ t308) ++ (⟨#[32]⟩ : ByteArray)) ++ t309), 0)))) else (none)) else (none))) else (none)) else (none))) else (none)) else (none))))) else (some ((⟨#[]⟩ : ByteArray), 2)))) else (some ((⟨#[]⟩ : ByteArray), 2)))) = some (r1, r2) := by rw [if_pos rfl] at H; exact H
  clear H
  have H := H1
  clear H1
  replace H := Option.bind_eq_some_iff.mp H
  obtain ⟨t302, A50, H⟩ := H
  replace H : (if t302 = true then ((clock_Right.f a0_1).bind fun t303 => (if t303 = true then ((clock_Day.f a0_0).bind fun t304 => ((show_Text.f a1 t304).bind fun bt305 => ((show_hours.f a0_0).bind fun t307 => (if 1 + t307.size ≤ 9223372036854775807 then (if ((⟨#[32]⟩ : ByteArray) ++ t307).size + 1 ≤ 9223372036854775807 then ((show_hours.f a0_1).bind fun t308 => (if (((⟨#[32]⟩ : ByteArray) ++ t307) ++ (⟨#[45]⟩ : ByteArray)).size + t308.size ≤ 9223372036854775807 then (if ((((⟨#[32]⟩ : ByteArray) ++ t307) ++ (⟨#[45]⟩ : ByteArray)) ++ t308).size + 1 ≤ 9223372036854775807 then ((show_clean.f a0_3).bind fun t309 => (if (((((⟨#[32]⟩ : ByteArray) ++ t307) ++ (⟨#[45]⟩ : ByteArray)) ++ t308) ++ (⟨#[32]⟩ : ByteArray)).size + t309.size ≤ 9223372036854775807 then (if bt305.1.size + ((((((⟨#[32]⟩ : ByteArray) ++ t307) ++ (⟨#[45]⟩ : ByteArray)) ++ t308) ++ (⟨#[32]⟩ : ByteArray)) ++ t309).size ≤ 9223372036854775807 then (if a0_4 = 3 then (if (bt305.1 ++ ((((((⟨#[32]⟩ : ByteArray) ++ t307) ++ (⟨#[45]⟩ : ByteArray)) ++ t308) ++ (⟨#[32]⟩ : ByteArray)) ++ t309)).size + 12 ≤ 9223372036854775807 then (some ((bt305.1 ++ ((((((⟨#[32]⟩ : ByteArray) ++ t307) ++ (⟨#[45]⟩ : ByteArray)) ++ t308) ++ (⟨#[32]⟩ : ByteArray)) ++ t309)) ++ (⟨#[32, 40, 99, 97, 110, 99, 101, 108, 108, 101, 100, 41]⟩ : ByteArray), 0)) else (none)) else (if a0_4 = 1 then (if (bt305.1 ++ ((((((⟨#[32]⟩ : ByteArray) ++ t307) ++ (⟨#[45]⟩ : ByteArray)) ++ t308) ++ (⟨#[32]⟩ : ByteArray)) ++ t309)).size + 12 ≤ 9223372036854775807 then (some ((bt305.1 ++ ((((((⟨#[32]⟩ : ByteArray) ++ t307) ++ (⟨#[45]⟩ : ByteArray)) ++ t308) ++ (⟨#[32]⟩ : ByteArray)) ++ t309)) ++ (⟨#[32, 40, 116, 101, 110, 116, 97, 116, 105, 118, 101, 41]⟩ : ByteArray), 0)) else (none)) else (some (bt305.1 ++ ((((((⟨#[32]⟩ : ByteArray) ++ t307) ++ (⟨#[45]⟩ : ByteArray)) ++ t308) ++ (⟨#[32]⟩ : ByteArray)) ++ t309), 0)))) else (none)) else (none))) else (none)) else (none))) else (none)) else (none))))) else (some ((⟨#[]⟩ : ByteArray), 2)))) else (some ((⟨#[]⟩ : ByteArray), 2))) = some (r1, r2) := H
  have A5 := Aside0.mk A50
  clear A50
  by_cases c6 : t302 = true
  ·subst c6
   have H1 : ((clock_Right.f a0_1).bind fun t303 => (if t303 = true then ((clock_Day.f a0_0).bind fun t304 => ((show_Text.f a1 t304).bind fun bt305 => ((show_hours.f a0_0).bind fun t307 => (if 1 + t307.size ≤ 9223372036854775807 then (if ((⟨#[32]⟩ : ByteArray) ++ t307).size + 1 ≤ 9223372036854775807 then ((show_hours.f a0_1).bind fun t308 => (if (((⟨#[32]⟩ : ByteArray) ++ t307) ++ (⟨#[45]⟩ : ByteArray)).size + t308.size ≤ 9223372036854775807 then (if ((((⟨#[32]⟩ : ByteArray) ++ t307) ++ (⟨#[45]⟩ : ByteArray)) ++ t308).size + 1 ≤ 9223372036854775807 then ((show_clean.f a0_3).bind fun t309 => (if (((((⟨#[32]⟩ : ByteArray) ++ t307) ++ (⟨#[45]⟩ : ByteArray)) ++ t308) ++ (⟨#[32]⟩ : ByteArray)).size + t309.size ≤ 9223372036854775807 then (if bt305.1.size + ((((((⟨#[32]⟩ : ByteArray) ++ t307) ++ (⟨#[45]⟩ : ByteArray)) ++ t308) ++ (⟨#[32]⟩ : ByteArray)) ++ t309).size ≤ 9223372036854775807 then (if a0_4 = 3 then (if (bt305.1 ++ ((((((⟨#[32]⟩ : ByteArray) ++ t307) ++ (⟨#[45]⟩ : ByteArray)) ++ t308) ++ (⟨#[32]⟩ : ByteArray)) ++ t309)).size + 12 ≤ 9223372036854775807 then (some ((bt305.1 ++ ((((((⟨#[32]⟩ : ByteArray) ++ t307) ++ (⟨#[45]⟩ : ByteArray)) ++ t308) ++ (⟨#[32]⟩ : ByteArray)) ++ t309)) ++ (⟨#[32, 40, 99, 97, 110, 99, 101, 108, 108, 101, 100, 41]⟩ : ByteArray), 0)) else (none)) else (if a0_4 = 1 then (if (bt305.1 ++ ((((((⟨#[32]⟩ : ByteArray) ++ t307) ++ (⟨#[45]⟩ : ByteArray)) ++ t308) ++ (⟨#[32]⟩ : ByteArray)) ++ t309)).size + 12 ≤ 9223372036854775807 then (some ((bt305.1 ++ ((((((⟨#[32]⟩ : ByteArray) ++ t307) ++ (⟨#[45]⟩ : ByteArray)) ++ t308) ++ (⟨#[32]⟩ : ByteArray)) ++ t309)) ++ (⟨#[32, 40, 116, 101, 110, 116, 97, 116, 105, 118, 101, 41]⟩ : ByteArray), 0)) else (none)) else (some (bt305.1 ++ ((((((⟨#[32]⟩ : ByteArray) ++ t307) ++ (⟨#[45]⟩ : ByteArray)) ++ t308) ++ (⟨#[32]⟩ : ByteArray)) ++ t309), 0)))) else (none)) else (none))) else (none)) else (none))) else (none)) else (none))))) else (some ((⟨#[]⟩ : ByteArray), 2)))) = some (r1, r2) := by rw [if_pos rfl] at H; exact H
   clear H
   have H := H1
   clear H1
   replace H := Option.bind_eq_some_iff.mp H
   obtain ⟨t303, A70, H⟩ := H
   replace H : (if t303 = true then ((clock_Day.f a0_0).bind fun t304 => ((show_Text.f a1 t304).bind fun bt305 => ((show_hours.f a0_0).bind fun t307 => (if 1 + t307.size ≤ 9223372036854775807 then (if ((⟨#[32]⟩ : ByteArray) ++ t307).size + 1 ≤ 9223372036854775807 then ((show_hours.f a0_1).bind fun t308 => (if (((⟨#[32]⟩ : ByteArray) ++ t307) ++ (⟨#[45]⟩ : ByteArray)).size + t308.size ≤ 9223372036854775807 then (if ((((⟨#[32]⟩ : ByteArray) ++ t307) ++ (⟨#[45]⟩ : ByteArray)) ++ t308).size + 1 ≤ 9223372036854775807 then ((show_clean.f a0_3).bind fun t309 => (if (((((⟨#[32]⟩ : ByteArray) ++ t307) ++ (⟨#[45]⟩ : ByteArray)) ++ t308) ++ (⟨#[32]⟩ : ByteArray)).size + t309.size ≤ 9223372036854775807 then (if bt305.1.size + ((((((⟨#[32]⟩ : ByteArray) ++ t307) ++ (⟨#[45]⟩ : ByteArray)) ++ t308) ++ (⟨#[32]⟩ : ByteArray)) ++ t309).size ≤ 9223372036854775807 then (if a0_4 = 3 then (if (bt305.1 ++ ((((((⟨#[32]⟩ : ByteArray) ++ t307) ++ (⟨#[45]⟩ : ByteArray)) ++ t308) ++ (⟨#[32]⟩ : ByteArray)) ++ t309)).size + 12 ≤ 9223372036854775807 then (some ((bt305.1 ++ ((((((⟨#[32]⟩ : ByteArray) ++ t307) ++ (⟨#[45]⟩ : ByteArray)) ++ t308) ++ (⟨#[32]⟩ : ByteArray)) ++ t309)) ++ (⟨#[32, 40, 99, 97, 110, 99, 101, 108, 108, 101, 100, 41]⟩ : ByteArray), 0)) else (none)) else (if a0_4 = 1 then (if (bt305.1 ++ ((((((⟨#[32]⟩ : ByteArray) ++ t307) ++ (⟨#[45]⟩ : ByteArray)) ++ t308) ++ (⟨#[32]⟩ : ByteArray)) ++ t309)).size + 12 ≤ 9223372036854775807 then (some ((bt305.1 ++ ((((((⟨#[32]⟩ : ByteArray) ++ t307) ++ (⟨#[45]⟩ : ByteArray)) ++ t308) ++ (⟨#[32]⟩ : ByteArray)) ++ t309)) ++ (⟨#[32, 40, 116, 101, 110, 116, 97, 116, 105, 118, 101, 41]⟩ : ByteArray), 0)) else (none)) else (some (bt305.1 ++ ((((((⟨#[32]⟩ : ByteArray) ++ t307) ++ (⟨#[45]⟩ : ByteArray)) ++ t308) ++ (⟨#[32]⟩ : ByteArray)) ++ t309), 0)))) else (none)) else (none))) else (none)) else (none))) else (none)) else (none))))) else (some ((⟨#[]⟩ : ByteArray), 2))) = some (r1, r2) := H
   have A7 := Aside0.mk A70
   clear A70
   by_cases c8 : t303 = true
   ·subst c8
    have H1 : ((clock_Day.f a0_0).bind fun t304 => ((show_Text.f a1 t304).bind fun bt305 => ((show_hours.f a0_0).bind fun t307 => (if 1 + t307.size ≤ 9223372036854775807 then (if ((⟨#[32]⟩ : ByteArray) ++ t307).size + 1 ≤ 9223372036854775807 then ((show_hours.f a0_1).bind fun t308 => (if (((⟨#[32]⟩ : ByteArray) ++ t307) ++ (⟨#[45]⟩ : ByteArray)).size + t308.size ≤ 9223372036854775807 then (if ((((⟨#[32]⟩ : ByteArray) ++ t307) ++ (⟨#[45]⟩ : ByteArray)) ++ t308).size + 1 ≤ 9223372036854775807 then ((show_clean.f a0_3).bind fun t309 => (if (((((⟨#[32]⟩ : ByteArray) ++ t307) ++ (⟨#[45]⟩ : ByteArray)) ++ t308) ++ (⟨#[32]⟩ : ByteArray)).size + t309.size ≤ 9223372036854775807 then (if bt305.1.size + ((((((⟨#[32]⟩ : ByteArray) ++ t307) ++ (⟨#[45]⟩ : ByteArray)) ++ t308) ++ (⟨#[32]⟩ : ByteArray)) ++ t309).size ≤ 9223372036854775807 then (if a0_4 = 3 then (if (bt305.1 ++ ((((((⟨#[32]⟩ : ByteArray) ++ t307) ++ (⟨#[45]⟩ : ByteArray)) ++ t308) ++ (⟨#[32]⟩ : ByteArray)) ++ t309)).size + 12 ≤ 9223372036854775807 then (some ((bt305.1 ++ ((((((⟨#[32]⟩ : ByteArray) ++ t307) ++ (⟨#[45]⟩ : ByteArray)) ++ t308) ++ (⟨#[32]⟩ : ByteArray)) ++ t309)) ++ (⟨#[32, 40, 99, 97, 110, 99, 101, 108, 108, 101, 100, 41]⟩ : ByteArray), 0)) else (none)) else (if a0_4 = 1 then (if (bt305.1 ++ ((((((⟨#[32]⟩ : ByteArray) ++ t307) ++ (⟨#[45]⟩ : ByteArray)) ++ t308) ++ (⟨#[32]⟩ : ByteArray)) ++ t309)).size + 12 ≤ 9223372036854775807 then (some ((bt305.1 ++ ((((((⟨#[32]⟩ : ByteArray) ++ t307) ++ (⟨#[45]⟩ : ByteArray)) ++ t308) ++ (⟨#[32]⟩ : ByteArray)) ++ t309)) ++ (⟨#[32, 40, 116, 101, 110, 116, 97, 116, 105, 118, 101, 41]⟩ : ByteArray), 0)) else (none)) else (some (bt305.1 ++ ((((((⟨#[32]⟩ : ByteArray) ++ t307) ++ (⟨#[45]⟩ : ByteArray)) ++ t308) ++ (⟨#[32]⟩ : ByteArray)) ++ t309), 0)))) else (none)) else (none))) else (none)) else (none))) else (none)) else (none))))) = some (r1, r2) := by rw [if_pos rfl] at H; exact H
    clear H
    have H := H1
    clear H1
    replace H := Option.bind_eq_some_iff.mp H
    obtain ⟨t304, A90, H⟩ := H
    replace H : ((show_Text.f a1 t304).bind fun bt305 => ((show_hours.f a0_0).bind fun t307 => (if 1 + t307.size ≤ 9223372036854775807 then (if ((⟨#[32]⟩ : ByteArray) ++ t307).size + 1 ≤ 9223372036854775807 then ((show_hours.f a0_1).bind fun t308 => (if (((⟨#[32]⟩ : ByteArray) ++ t307) ++ (⟨#[45]⟩ : ByteArray)).size + t308.size ≤ 9223372036854775807 then (if ((((⟨#[32]⟩ : ByteArray) ++ t307) ++ (⟨#[45]⟩ : ByteArray)) ++ t308).size + 1 ≤ 9223372036854775807 then ((show_clean.f a0_3).bind fun t309 => (if (((((⟨#[32]⟩ : ByteArray) ++ t307) ++ (⟨#[45]⟩ : ByteArray)) ++ t308) ++ (⟨#[32]⟩ : ByteArray)).size + t309.size ≤ 9223372036854775807 then (if bt305.1.size + ((((((⟨#[32]⟩ : ByteArray) ++ t307) ++ (⟨#[45]⟩ : ByteArray)) ++ t308) ++ (⟨#[32]⟩ : ByteArray)) ++ t309).size ≤ 9223372036854775807 then (if a0_4 = 3 then (if (bt305.1 ++ ((((((⟨#[32]⟩ : ByteArray) ++ t307) ++ (⟨#[45]⟩ : ByteArray)) ++ t308) ++ (⟨#[32]⟩ : ByteArray)) ++ t309)).size + 12 ≤ 9223372036854775807 then (some ((bt305.1 ++ ((((((⟨#[32]⟩ : ByteArray) ++ t307) ++ (⟨#[45]⟩ : ByteArray)) ++ t308) ++ (⟨#[32]⟩ : ByteArray)) ++ t309)) ++ (⟨#[32, 40, 99, 97, 110, 99, 101, 108, 108, 101, 100, 41]⟩ : ByteArray), 0)) else (none)) else (if a0_4 = 1 then (if (bt305.1 ++ ((((((⟨#[32]⟩ : ByteArray) ++ t307) ++ (⟨#[45]⟩ : ByteArray)) ++ t308) ++ (⟨#[32]⟩ : ByteArray)) ++ t309)).size + 12 ≤ 9223372036854775807 then (some ((bt305.1 ++ ((((((⟨#[32]⟩ : ByteArray) ++ t307) ++ (⟨#[45]⟩ : ByteArray)) ++ t308) ++ (⟨#[32]⟩ : ByteArray)) ++ t309)) ++ (⟨#[32, 40, 116, 101, 110, 116, 97, 116, 105, 118, 101, 41]⟩ : ByteArray), 0)) else (none)) else (some (bt305.1 ++ ((((((⟨#[32]⟩ : ByteArray) ++ t307) ++ (⟨#[45]⟩ : ByteArray)) ++ t308) ++ (⟨#[32]⟩ : ByteArray)) ++ t309), 0)))) else (none)) else (none))) else (none)) else (none))) else (none)) else (none)))) = some (r1, r2) := H
    have A9 := Aside0.mk A90
    clear A90
    replace H := Option.bind_eq_some_iff.mp H
    obtain ⟨⟨t305, t306⟩, A100, H⟩ := H
    replace H : ((show_hours.f a0_0).bind fun t307 => (if 1 + t307.size ≤ 9223372036854775807 then (if ((⟨#[32]⟩ : ByteArray) ++ t307).size + 1 ≤ 9223372036854775807 then ((show_hours.f a0_1).bind fun t308 => (if (((⟨#[32]⟩ : ByteArray) ++ t307) ++ (⟨#[45]⟩ : ByteArray)).size + t308.size ≤ 9223372036854775807 then (if ((((⟨#[32]⟩ : ByteArray) ++ t307) ++ (⟨#[45]⟩ : ByteArray)) ++ t308).size + 1 ≤ 9223372036854775807 then ((show_clean.f a0_3).bind fun t309 => (if (((((⟨#[32]⟩ : ByteArray) ++ t307) ++ (⟨#[45]⟩ : ByteArray)) ++ t308) ++ (⟨#[32]⟩ : ByteArray)).size + t309.size ≤ 9223372036854775807 then (if t305.size + ((((((⟨#[32]⟩ : ByteArray) ++ t307) ++ (⟨#[45]⟩ : ByteArray)) ++ t308) ++ (⟨#[32]⟩ : ByteArray)) ++ t309).size ≤ 9223372036854775807 then (if a0_4 = 3 then (if (t305 ++ ((((((⟨#[32]⟩ : ByteArray) ++ t307) ++ (⟨#[45]⟩ : ByteArray)) ++ t308) ++ (⟨#[32]⟩ : ByteArray)) ++ t309)).size + 12 ≤ 9223372036854775807 then (some ((t305 ++ ((((((⟨#[32]⟩ : ByteArray) ++ t307) ++ (⟨#[45]⟩ : ByteArray)) ++ t308) ++ (⟨#[32]⟩ : ByteArray)) ++ t309)) ++ (⟨#[32, 40, 99, 97, 110, 99, 101, 108, 108, 101, 100, 41]⟩ : ByteArray), 0)) else (none)) else (if a0_4 = 1 then (if (t305 ++ ((((((⟨#[32]⟩ : ByteArray) ++ t307) ++ (⟨#[45]⟩ : ByteArray)) ++ t308) ++ (⟨#[32]⟩ : ByteArray)) ++ t309)).size + 12 ≤ 9223372036854775807 then (some ((t305 ++ ((((((⟨#[32]⟩ : ByteArray) ++ t307) ++ (⟨#[45]⟩ : ByteArray)) ++ t308) ++ (⟨#[32]⟩ : ByteArray)) ++ t309)) ++ (⟨#[32, 40, 116, 101, 110, 116, 97, 116, 105, 118, 101, 41]⟩ : ByteArray), 0)) else (none)) else (some (t305 ++ ((((((⟨#[32]⟩ : ByteArray) ++ t307) ++ (⟨#[45]⟩ : ByteArray)) ++ t308) ++ (⟨#[32]⟩ : ByteArray)) ++ t309), 0)))) else (none)) else (none))) else (none)) else (none))) else (none)) else (none))) = some (r1, r2) := H
    have A10 := Aside0.mk A100
    clear A100
    replace H := Option.bind_eq_some_iff.mp H
    obtain ⟨t307, A110, H⟩ := H
    replace H : (if 1 + t307.size ≤ 9223372036854775807 then (if ((⟨#[32]⟩ : ByteArray) ++ t307).size + 1 ≤ 9223372036854775807 then ((show_hours.f a0_1).bind fun t308 => (if (((⟨#[32]⟩ : ByteArray) ++ t307) ++ (⟨#[45]⟩ : ByteArray)).size + t308.size ≤ 9223372036854775807 then (if ((((⟨#[32]⟩ : ByteArray) ++ t307) ++ (⟨#[45]⟩ : ByteArray)) ++ t308).size + 1 ≤ 9223372036854775807 then ((show_clean.f a0_3).bind fun t309 => (if (((((⟨#[32]⟩ : ByteArray) ++ t307) ++ (⟨#[45]⟩ : ByteArray)) ++ t308) ++ (⟨#[32]⟩ : ByteArray)).size + t309.size ≤ 9223372036854775807 then (if t305.size + ((((((⟨#[32]⟩ : ByteArray) ++ t307) ++ (⟨#[45]⟩ : ByteArray)) ++ t308) ++ (⟨#[32]⟩ : ByteArray)) ++ t309).size ≤ 9223372036854775807 then (if a0_4 = 3 then (if (t305 ++ ((((((⟨#[32]⟩ : ByteArray) ++ t307) ++ (⟨#[45]⟩ : ByteArray)) ++ t308) ++ (⟨#[32]⟩ : ByteArray)) ++ t309)).size + 12 ≤ 9223372036854775807 then (some ((t305 ++ ((((((⟨#[32]⟩ : ByteArray) ++ t307) ++ (⟨#[45]⟩ : ByteArray)) ++ t308) ++ (⟨#[32]⟩ : ByteArray)) ++ t309)) ++ (⟨#[32, 40, 99, 97, 110, 99, 101, 108, 108, 101, 100, 41]⟩ : ByteArray), 0)) else (none)) else (if a0_4 = 1 then (if (t305 ++ ((((((⟨#[32]⟩ : ByteArray) ++ t307) ++ (⟨#[45]⟩ : ByteArray)) ++ t308) ++ (⟨#[32]⟩ : ByteArray)) ++ t309)).size + 12 ≤ 9223372036854775807 then (some ((t305 ++ ((((((⟨#[32]⟩ : ByteArray) ++ t307) ++ (⟨#[45]⟩ : ByteArray)) ++ t308) ++ (⟨#[32]⟩ : ByteArray)) ++ t309)) ++ (⟨#[32, 40, 116, 101, 110, 116, 97, 116, 105, 118, 101, 41]⟩ : ByteArray), 0)) else (none)) else (some (t305 ++ ((((((⟨#[32]⟩ : ByteArray) ++ t307) ++ (⟨#[45]⟩ : ByteArray)) ++ t308) ++ (⟨#[32]⟩ : ByteArray)) ++ t309), 0)))) else (none)) else (none))) else (none)) else (none))) else (none)) else (none)) = some (r1, r2) := H
    have A11 := Aside0.mk A110
    clear A110
    by_cases c12 : 1 + t307.size ≤ 9223372036854775807
    ·rw [if_pos c12] at H
     have c12b0 := eq_true c12
     have c12b1 : decide (1 + t307.size ≤ 9223372036854775807) = true := decide_eq_true c12
     try have c12b2 : (9223372036854775807 < 1 + t307.size) = False := eq_false (Nat.not_lt.2 c12)
     try (have c12b3 := c12b2; simp only [ByteArray.size_append, bs1_] at c12b3)
     by_cases c13 : ((⟨#[32]⟩ : ByteArray) ++ t307).size + 1 ≤ 9223372036854775807
     ·rw [if_pos c13] at H
      have c13b0 := eq_true c13
      have c13b1 : decide (((⟨#[32]⟩ : ByteArray) ++ t307).size + 1 ≤ 9223372036854775807) = true := decide_eq_true c13
      try have c13b2 : (9223372036854775807 < ((⟨#[32]⟩ : ByteArray) ++ t307).size + 1) = False := eq_false (Nat.not_lt.2 c13)
      try (have c13b3 := c13b2; simp only [ByteArray.size_append, bs1_] at c13b3)
      replace H := Option.bind_eq_some_iff.mp H
      obtain ⟨t308, A140, H⟩ := H
      replace H : (if (((⟨#[32]⟩ : ByteArray) ++ t307) ++ (⟨#[45]⟩ : ByteArray)).size + t308.size ≤ 9223372036854775807 then (if ((((⟨#[32]⟩ : ByteArray) ++ t307) ++ (⟨#[45]⟩ : ByteArray)) ++ t308).size + 1 ≤ 9223372036854775807 then ((show_clean.f a0_3).bind fun t309 => (if (((((⟨#[32]⟩ : ByteArray) ++ t307) ++ (⟨#[45]⟩ : ByteArray)) ++ t308) ++ (⟨#[32]⟩ : ByteArray)).size + t309.size ≤ 9223372036854775807 then (if t305.size + ((((((⟨#[32]⟩ : ByteArray) ++ t307) ++ (⟨#[45]⟩ : ByteArray)) ++ t308) ++ (⟨#[32]⟩ : ByteArray)) ++ t309).size ≤ 9223372036854775807 then (if a0_4 = 3 then (if (t305 ++ ((((((⟨#[32]⟩ : ByteArray) ++ t307) ++ (⟨#[45]⟩ : ByteArray)) ++ t308) ++ (⟨#[32]⟩ : ByteArray)) ++ t309)).size + 12 ≤ 9223372036854775807 then (some ((t305 ++ ((((((⟨#[32]⟩ : ByteArray) ++ t307) ++ (⟨#[45]⟩ : ByteArray)) ++ t308) ++ (⟨#[32]⟩ : ByteArray)) ++ t309)) ++ (⟨#[32, 40, 99, 97, 110, 99, 101, 108, 108, 101, 100, 41]⟩ : ByteArray), 0)) else (none)) else (if a0_4 = 1 then (if (t305 ++ ((((((⟨#[32]⟩ : ByteArray) ++ t307) ++ (⟨#[45]⟩ : ByteArray)) ++ t308) ++ (⟨#[32]⟩ : ByteArray)) ++ t309)).size + 12 ≤ 9223372036854775807 then (some ((t305 ++ ((((((⟨#[32]⟩ : ByteArray) ++ t307) ++ (⟨#[45]⟩ : ByteArray)) ++ t308) ++ (⟨#[32]⟩ : ByteArray)) ++ t309)) ++ (⟨#[32, 40, 116, 101, 110, 116, 97, 116, 105, 118, 101, 41]⟩ : ByteArray), 0)) else (none)) else (some (t305 ++ ((((((⟨#[32]⟩ : ByteArray) ++ t307) ++ (⟨#[45]⟩ : ByteArray)) ++ t308) ++ (⟨#[32]⟩ : ByteArray)) ++ t309), 0)))) else (none)) else (none))) else (none)) else (none)) = some (r1, r2) := H
      have A14 := Aside0.mk A140
      clear A140
      by_cases c15 : (((⟨#[32]⟩ : ByteArray) ++ t307) ++ (⟨#[45]⟩ : ByteArray)).size + t308.size ≤ 9223372036854775807
      ·rw [if_pos c15] at H
       have c15b0 := eq_true c15
       have c15b1 : decide ((((⟨#[32]⟩ : ByteArray) ++ t307) ++ (⟨#[45]⟩ : ByteArray)).size + t308.size ≤ 9223372036854775807) = true := decide_eq_true c15
       try have c15b2 : (9223372036854775807 < (((⟨#[32]⟩ : ByteArray) ++ t307) ++ (⟨#[45]⟩ : ByteArray)).size + t308.size) = False := eq_false (Nat.not_lt.2 c15)
       try (have c15b3 := c15b2; simp only [ByteArray.size_append, bs1_] at c15b3)
       by_cases c16 : ((((⟨#[32]⟩ : ByteArray) ++ t307) ++ (⟨#[45]⟩ : ByteArray)) ++ t308).size + 1 ≤ 9223372036854775807
       ·rw [if_pos c16] at H
        have c16b0 := eq_true c16
        have c16b1 : decide (((((⟨#[32]⟩ : ByteArray) ++ t307) ++ (⟨#[45]⟩ : ByteArray)) ++ t308).size + 1 ≤ 9223372036854775807) = true := decide_eq_true c16
        try have c16b2 : (9223372036854775807 < ((((⟨#[32]⟩ : ByteArray) ++ t307) ++ (⟨#[45]⟩ : ByteArray)) ++ t308).size + 1) = False := eq_false (Nat.not_lt.2 c16)
        try (have c16b3 := c16b2; simp only [ByteArray.size_append, bs1_] at c16b3)
        replace H := Option.bind_eq_some_iff.mp H
        obtain ⟨t309, A170, H⟩ := H
        replace H : (if (((((⟨#[32]⟩ : ByteArray) ++ t307) ++ (⟨#[45]⟩ : ByteArray)) ++ t308) ++ (⟨#[32]⟩ : ByteArray)).size + t309.size ≤ 9223372036854775807 then (if t305.size + ((((((⟨#[32]⟩ : ByteArray) ++ t307) ++ (⟨#[45]⟩ : ByteArray)) ++ t308) ++ (⟨#[32]⟩ : ByteArray)) ++ t309).size ≤ 9223372036854775807 then (if a0_4 = 3 then (if (t305 ++ ((((((⟨#[32]⟩ : ByteArray) ++ t307) ++ (⟨#[45]⟩ : ByteArray)) ++ t308) ++ (⟨#[32]⟩ : ByteArray)) ++ t309)).size + 12 ≤ 9223372036854775807 then (some ((t305 ++ ((((((⟨#[32]⟩ : ByteArray) ++ t307) ++ (⟨#[45]⟩ : ByteArray)) ++ t308) ++ (⟨#[32]⟩ : ByteArray)) ++ t309)) ++ (⟨#[32, 40, 99, 97, 110, 99, 101, 108, 108, 101, 100, 41]⟩ : ByteArray), 0)) else (none)) else (if a0_4 = 1 then (if (t305 ++ ((((((⟨#[32]⟩ : ByteArray) ++ t307) ++ (⟨#[45]⟩ : ByteArray)) ++ t308) ++ (⟨#[32]⟩ : ByteArray)) ++ t309)).size + 12 ≤ 9223372036854775807 then (some ((t305 ++ ((((((⟨#[32]⟩ : ByteArray) ++ t307) ++ (⟨#[45]⟩ : ByteArray)) ++ t308) ++ (⟨#[32]⟩ : ByteArray)) ++ t309)) ++ (⟨#[32, 40, 116, 101, 110, 116, 97, 116, 105, 118, 101, 41]⟩ : ByteArray), 0)) else (none)) else (some (t305 ++ ((((((⟨#[32]⟩ : ByteArray) ++ t307) ++ (⟨#[45]⟩ : ByteArray)) ++ t308) ++ (⟨#[32]⟩ : ByteArray)) ++ t309), 0)))) else (none)) else (none)) = some (r1, r2) := H
        have A17 := Aside0.mk A170
        clear A170
        by_cases c18 : (((((⟨#[32]⟩ : ByteArray) ++ t307) ++ (⟨#[45]⟩ : ByteArray)) ++ t308) ++ (⟨#[32]⟩ : ByteArray)).size + t309.size ≤ 9223372036854775807
        ·rw [if_pos c18] at H
         have c18b0 := eq_true c18
         have c18b1 : decide ((((((⟨#[32]⟩ : ByteArray) ++ t307) ++ (⟨#[45]⟩ : ByteArray)) ++ t308) ++ (⟨#[32]⟩ : ByteArray)).size + t309.size ≤ 9223372036854775807) = true := decide_eq_true c18
         try have c18b2 : (9223372036854775807 < (((((⟨#[32]⟩ : ByteArray) ++ t307) ++ (⟨#[45]⟩ : ByteArray)) ++ t308) ++ (⟨#[32]⟩ : ByteArray)).size + t309.size) = False := eq_false (Nat.not_lt.2 c18)
         try (have c18b3 := c18b2; simp only [ByteArray.size_append, bs1_] at c18b3)
         by_cases c19 : t305.size + ((((((⟨#[32]⟩ : ByteArray) ++ t307) ++ (⟨#[45]⟩ : ByteArray)) ++ t308) ++ (⟨#[32]⟩ : ByteArray)) ++ t309).size ≤ 9223372036854775807
         ·rw [if_pos c19] at H
          have c19b0 := eq_true c19
          have c19b1 : decide (t305.size + ((((((⟨#[32]⟩ : ByteArray) ++ t307) ++ (⟨#[45]⟩ : ByteArray)) ++ t308) ++ (⟨#[32]⟩ : ByteArray)) ++ t309).size ≤ 9223372036854775807) = true := decide_eq_true c19
          try have c19b2 : (9223372036854775807 < t305.size + ((((((⟨#[32]⟩ : ByteArray) ++ t307) ++ (⟨#[45]⟩ : ByteArray)) ++ t308) ++ (⟨#[32]⟩ : ByteArray)) ++ t309).size) = False := eq_false (Nat.not_lt.2 c19)
          try (have c19b3 := c19b2; simp only [ByteArray.size_append, bs1_] at c19b3)
          go_enter Tryd.func12, Tryd.ntmps12
          try go_wp2_with (first | ((with_reducible refine gate_dst (N := 2) rfl ?_); refine box_event ?hg (N := 2) ?hd (cs := #[.int .i64 a0_0, .int .i64 a0_1, .int .i64 a0_2, .string a0_3, .int .i64 a0_4]) (t := 35) ?hr ?_; (case hd => rfl); (case hg => rfl); (case hr => first | (go_simp; done) | (go_simp; rfl)); intro gb300 hg w22 hbox hb; have n0_ := Aside0.mk (below_step (by repeat (first | (with_reducible first | exact HB.out | apply below_alloc | apply pw_below_drewN | apply below_drew1) | exact HB.out)) hb); have n1_ := Aside0.mk (hbox); have n2_ := Aside0.mk ((by rw [hg]; exact (below_size (by repeat (first | (with_reducible first | exact HB.out | apply below_alloc | apply pw_below_drewN | apply below_drew1) | exact HB.out))) : w.heap.size ≤ gb300)); have n3_ := Aside0.mk ((by rw [hg]; exact (below_size (by repeat (first | (with_reducible first | exact HB.out | apply below_alloc | apply pw_below_drewN | apply below_drew1) | exact HB.out))) : w.heap.size ≤ gb300)); clear HB; have HB := n0_; have BK300 := n1_; have GW300 := n2_; have GE300 := n3_; clear n0_ n1_ n2_ n3_; clear hb hbox hg) | ((with_reducible refine gate_callee (f := 17) rfl ?_); refine goesL_ (some 10) rfl rfl Tryd.func17 (by kernel_rfl) rfl #[.int .i64 a1] rfl (by (try simp only [List.map_toArray, List.map_cons, List.map_nil]); first | done | rfl | (simp only [List.length_drop, List.length_take]; rfl)) ?_; (with_reducible refine (show_is.calls a1 true _ A3.out).mono ?_); rintro e w' ⟨rfl, ⟨nd, rfl⟩⟩; refine ⟨_, rfl, ?_⟩; have hcz23_0 : w22.cell? ⟨gb300, 0, none⟩ = some (.int .i64 a0_0) := (blk_cell BK300.out 0).trans rfl; have hcz23_1 : w22.cell? ⟨gb300, 1, none⟩ = some (.int .i64 a0_1) := (blk_cell BK300.out 1).trans rfl; have hcz23_2 : w22.cell? ⟨gb300, 2, none⟩ = some (.int .i64 a0_2) := (blk_cell BK300.out 2).trans rfl; have hcz23_3 : w22.cell? ⟨gb300, 3, none⟩ = some (.string a0_3) := (blk_cell BK300.out 3).trans rfl; have hcz23_4 : w22.cell? ⟨gb300, 4, none⟩ = some (.int .i64 a0_4) := (blk_cell BK300.out 4).trans rfl; have hfz23_0 := blk_frozen BK300.out 0; have hfz23_1 := blk_frozen BK300.out 1; have hfz23_2 := blk_frozen BK300.out 2; have hfz23_3 := blk_frozen BK300.out 3; have hfz23_4 := blk_frozen BK300.out 4) | ((with_reducible refine gate_callee (f := 35) rfl ?_); refine goesL_ (some 15) rfl rfl Tryd.func35 (by kernel_rfl) rfl #[.int .i64 a0_0] rfl (by (try simp only [List.map_toArray, List.map_cons, List.map_nil]); first | done | rfl | (simp only [List.length_drop, List.length_take]; rfl)) ?_; (with_reducible refine (clock_Right.calls a0_0 true _ A5.out).mono ?_); rintro e w' ⟨rfl, ⟨nd, rfl⟩⟩; refine ⟨_, rfl, ?_⟩) | (go_at_call 35; (with_reducible refine (clock_Right.calls a0_1 true _ A7.out).mono ?_); rintro e w' ⟨rfl, ⟨nd, rfl⟩⟩) | ((with_reducible refine gate_callee (f := 36) rfl ?_); refine goesL_ (some 27) rfl rfl Tryd.func36 (by kernel_rfl) rfl #[.int .i64 a0_0] rfl (by (try simp only [List.map_toArray, List.map_cons, List.map_nil]); first | done | rfl | (simp only [List.length_drop, List.length_take]; rfl)) ?_; (with_reducible refine (clock_Day.calls a0_0 t304 _ A9.out).mono ?_); rintro e w' ⟨rfl, ⟨nd, rfl⟩⟩; refine ⟨_, rfl, ?_⟩) | ((with_reducible refine gate_callee (f := 8) rfl ?_); refine goesL_ (some 28) rfl rfl Tryd.func8 (by kernel_rfl) rfl #[.int .i64 a1, .int .i64 t304] rfl (by (try simp only [List.map_toArray, List.map_cons, List.map_nil]); first | done | rfl | (simp only [List.length_drop, List.length_take]; rfl)) ?_; (with_reducible refine (show_Text.calls a1 t304 t305 t306 _ A10.out (ShowAw.tab_below TB_.out (by repeat (first | (with_reducible first | exact HB.out | apply below_alloc | apply pw_below_drewN | apply below_drew1 | apply below_drew) | exact HB.out)))).mono ?_); rintro e w24 ⟨rfl, hb⟩; refine ⟨_, rfl, ?_⟩; have n0_ := Aside0.mk (blk_below (g := gb300) (o := .cells #[.int .i64 a0_0, .int .i64 a0_1, .int .i64 a0_2, .string a0_3, .int .i64 a0_4] 35 (0, 0)) (by (with_reducible repeat (first | refine blk_drewN ?_ _ | refine blk_drew ?_ | refine blk_alloc ?_ _)); exact BK300.out) hb); have n1_ := Aside0.mk (below_step (by repeat (first | (with_reducible first | exact HB.out | apply below_alloc | apply pw_below_drewN | apply below_drew1 | refine below_set ?_ GE300.out) | exact HB.out)) hb); clear BK300; clear HB; have BK300 := n0_; have HB := n1_; clear n0_ n1_; (try clear hb); (try clear hb2); (try clear hk); (try clear hi)))
          have n0_ := Aside0.mk (blk_drew BK300.out)
          have n1_ := Aside0.mk (below_drew1 HB.out)
          clear BK300
          clear HB
          have BK300 := n0_
          have HB := n1_
          clear n0_ n1_
          refine start_ (n := 17) (S := fun w' => w'.cell? ⟨gb300, 0, none⟩ = some (.int .i64 a0_0) ∧ w'.cell? ⟨gb300, 1, none⟩ = some (.int .i64 a0_1) ∧ w'.cell? ⟨gb300, 2, none⟩ = some (.int .i64 a0_2) ∧ w'.cell? ⟨gb300, 3, none⟩ = some (.string a0_3) ∧ w'.cell? ⟨gb300, 4, none⟩ = some (.int .i64 a0_4)) (ds := []) #[false, false, false, false, false, false, false, false, false, false, false, false, false, false, false, false, false] (by kernel_rfl) rfl rfl ⟨(blk_cell BK300.out 0).trans rfl, (blk_cell BK300.out 1).trans rfl, (blk_cell BK300.out 2).trans rfl, (blk_cell BK300.out 3).trans rfl, (blk_cell BK300.out 4).trans rfl⟩ (fun hHeld => ?_); refine with_tabW show_Line.tab6 show_Line.bits6 (fun HT_ HW_ => ?_)
          generalize w24.drew = w25 at BK300 HB hHeld ⊢
          refine pure_ (i := 0) (N := some 31) (v := ?_) (a' := ?_) #[true, false, false, false, false, false, false, false, false, false, false, false, false, false, false, false, false] rfl rfl (any_of HT_.out (by kernel_rfl)) (fun _ _ _ h => h) (Or.inl ⟨by rfl, ?_⟩) ?_ ?_
          rotate_left
          ·intro w'
           go_simp
           with_reducible rfl
          rotate_left
          ·simp only [Act.put, List.setIfInBounds_toArray, List.set_cons_zero, List.set_cons_succ, i64_w, i32_w]
           rfl
          refine pure_ (i := 1) (N := some 32) (v := ?_) (a' := ?_) #[true, true, false, false, false, false, false, false, false, false, false, false, false, false, false, false, false] rfl rfl (any_of HT_.out (by kernel_rfl)) (fun _ _ _ h => h) (Or.inl ⟨by rfl, ?_⟩) ?_ ?_
          rotate_left
          ·intro w'
           go_simp
           with_reducible rfl
          rotate_left
          ·simp only [Act.put, List.setIfInBounds_toArray, List.set_cons_zero, List.set_cons_succ, i64_w, i32_w]
           rfl
          refine pure_ (i := 6) (N := some 37) (v := ?_) (a' := ?_) #[true, true, false, false, false, false, true, false, false, false, false, false, false, false, false, false, false] rfl rfl (any_of HT_.out (by kernel_rfl)) (fun _ _ _ h => h) (Or.inl ⟨by rfl, ?_⟩) ?_ ?_
          rotate_left
          ·intro w'
           go_simp
           with_reducible rfl
          rotate_left
          ·simp only [Act.put, List.setIfInBounds_toArray, List.set_cons_zero, List.set_cons_succ, i64_w, i32_w]
           rfl
          refine pure_ (i := 11) (N := some 42) (v := ?_) (a' := ?_) #[true, true, false, false, false, false, true, false, false, false, false, true, false, false, false, false, false] rfl rfl (any_of HT_.out (by kernel_rfl)) (fun _ _ _ h => h) (Or.inl ⟨by rfl, ?_⟩) ?_ ?_
          rotate_left
          ·intro w'
           go_simp
           with_reducible rfl
          rotate_left
          ·simp only [Act.put, List.setIfInBounds_toArray, List.set_cons_zero, List.set_cons_succ, i64_w, i32_w]
           rfl
          refine take_ (i := 2) (N := some 33) (v := ?_) (a' := ?_) #[true, true, true, false, false, false, true, false, false, false, false, true, false, false, false, false, false] rfl rfl (take_ofW HT_.out HW_.out (by kernel_rfl)) (fun _ _ _ h => h) (Or.inl ⟨by rfl, ?_⟩) hHeld ?_ ?_
          rotate_left
          ·rintro w' ⟨s0, s1, s2, s3, s4⟩
           go_simp
           with_reducible rfl
          rotate_left
          ·simp only [Act.put, List.setIfInBounds_toArray, List.set_cons_zero, List.set_cons_succ, i64_w, i32_w]
           rfl
          refine take_ (i := 7) (N := some 38) (v := ?_) (a' := ?_) #[true, true, true, false, false, false, true, true, false, false, false, true, false, false, false, false, false] rfl rfl (take_ofW HT_.out HW_.out (by kernel_rfl)) (fun _ _ _ h => h) (Or.inl ⟨by rfl, ?_⟩) hHeld ?_ ?_
          rotate_left
          ·rintro w' ⟨s0, s1, s2, s3, s4⟩
           go_simp
           with_reducible rfl
          rotate_left
          ·simp only [Act.put, List.setIfInBounds_toArray, List.set_cons_zero, List.set_cons_succ, i64_w, i32_w]
           rfl
          refine take_ (i := 12) (N := some 43) (v := ?_) (a' := ?_) #[true, true, true, false, false, false, true, true, false, false, false, true, true, false, false, false, false] rfl rfl (take_ofW HT_.out HW_.out (by kernel_rfl)) (fun _ _ _ h => h) (Or.inl ⟨by rfl, ?_⟩) hHeld ?_ ?_
          rotate_left
          ·rintro w' ⟨s0, s1, s2, s3, s4⟩
           go_simp
           with_reducible rfl
          rotate_left
          ·simp only [Act.put, List.setIfInBounds_toArray, List.set_cons_zero, List.set_cons_succ, i64_w, i32_w]
           rfl
          refine one_ (i := 3) (N := some 34) #[true, true, true, true, false, false, true, true, false, false, false, true, true, false, false, false, false] rfl rfl (one_of HT_.out (by kernel_rfl)) (by decide) (fun K hK => ?_)
          refine goes_ Tryd.func37 (by kernel_rfl) rfl #[.int .i64 a0_0] (by rfl) rfl rfl (by (try simp only [List.map_toArray, List.map_cons, List.map_nil]); first | done | rfl | (simp only [List.length_drop, List.length_take]; rfl)) ?_
          with_reducible refine (show_hours.calls a0_0 t307 _ A11.out).mono ?_
          rintro e w26 ⟨rfl, hb⟩
          refine ⟨_, rfl, ?_⟩
          have n0_ := Aside0.mk (blk_below (g := gb300) (o := .cells #[.int .i64 a0_0, .int .i64 a0_1, .int .i64 a0_2, .string a0_3, .int .i64 a0_4] 35 (0, 0)) (by (with_reducible repeat (first | refine blk_drewN ?_ _ | refine blk_drew ?_ | refine blk_alloc ?_ _)); exact BK300.out) hb)
          have n1_ := Aside0.mk (below_step (by repeat (first | (with_reducible first | exact HB.out | apply below_alloc | apply pw_below_drewN | apply below_drew1 | refine below_set ?_ GE300.out) | exact HB.out)) hb)
          clear BK300
          clear HB
          have BK300 := n0_
          have HB := n1_
          clear n0_ n1_
          (try clear hb)
          (try clear hb2)
          (try clear hk)
          (try clear hi)
          refine hK.out _ _ ⟨(blk_cell BK300.out 0).trans rfl, (blk_cell BK300.out 1).trans rfl, (blk_cell BK300.out 2).trans rfl, (blk_cell BK300.out 3).trans rfl, (blk_cell BK300.out 4).trans rfl⟩ (fun hHeld => ?_)
          clear hK K
          refine norm_ (a' := ?_) ?_ ?_
          rotate_left
          ·show Act.put _ (some 34) _ = _
           simp only [Act.put, List.setIfInBounds_toArray, List.set_cons_zero, List.set_cons_succ, i64_w, i32_w]
           rfl
          refine pure_ (i := 4) (N := some 35) (v := ?_) (a' := ?_) #[true, true, true, true, true, false, true, true, false, false, false, true, true, false, false, false, false] rfl rfl (any_of HT_.out (by kernel_rfl)) (fun _ _ _ h => h) (Or.inl ⟨by rfl, ?_⟩) ?_ ?_
          rotate_left
          ·intro w'
           go_simp
           with_reducible rfl
          rotate_left
          ·simp only [Act.put, List.setIfInBounds_toArray, List.set_cons_zero, List.set_cons_succ, i64_w, i32_w]
           rfl
          refine pure_ (i := 5) (N := some 36) (v := ?_) (a' := ?_) #[true, true, true, true, true, true, true, true, false, false, false, true, true, false, false, false, false] rfl rfl (any_of HT_.out (by kernel_rfl)) (fun _ _ _ h => h) (Or.inl ⟨by rfl, ?_⟩) ?_ ?_
          rotate_left
          ·intro w'
           go_simp
           with_reducible rfl
          rotate_left
          ·simp only [Act.put, List.setIfInBounds_toArray, List.set_cons_zero, List.set_cons_succ, i64_w, i32_w]
           rfl
          refine one_ (i := 8) (N := some 39) #[true, true, true, true, true, true, true, true, true, false, false, true, true, false, false, false, false] rfl rfl (one_of HT_.out (by kernel_rfl)) (by decide) (fun K hK => ?_)
          refine goes_ Tryd.func37 (by kernel_rfl) rfl #[.int .i64 a0_1] (by rfl) rfl rfl (by (try simp only [List.map_toArray, List.map_cons, List.map_nil]); first | done | rfl | (simp only [List.length_drop, List.length_take]; rfl)) ?_
          with_reducible refine (show_hours.calls a0_1 t308 _ A14.out).mono ?_
          rintro e w27 ⟨rfl, hb⟩
          refine ⟨_, rfl, ?_⟩
          have n0_ := Aside0.mk (blk_below (g := gb300) (o := .cells #[.int .i64 a0_0, .int .i64 a0_1, .int .i64 a0_2, .string a0_3, .int .i64 a0_4] 35 (0, 0)) (by (with_reducible repeat (first | refine blk_drewN ?_ _ | refine blk_drew ?_ | refine blk_alloc ?_ _)); exact BK300.out) hb)
          have n1_ := Aside0.mk (below_step (by repeat (first | (with_reducible first | exact HB.out | apply below_alloc | apply pw_below_drewN | apply below_drew1 | refine below_set ?_ GE300.out) | exact HB.out)) hb)
          clear BK300
          clear HB
          have BK300 := n0_
          have HB := n1_
          clear n0_ n1_
          (try clear hb)
          (try clear hb2)
          (try clear hk)
          (try clear hi)
          refine hK.out _ _ ⟨(blk_cell BK300.out 0).trans rfl, (blk_cell BK300.out 1).trans rfl, (blk_cell BK300.out 2).trans rfl, (blk_cell BK300.out 3).trans rfl, (blk_cell BK300.out 4).trans rfl⟩ (fun hHeld => ?_)
          clear hK K
          refine norm_ (a' := ?_) ?_ ?_
          rotate_left
          ·show Act.put _ (some 39) _ = _
           simp only [Act.put, List.setIfInBounds_toArray, List.set_cons_zero, List.set_cons_succ, i64_w, i32_w]
           rfl
          refine pure_ (i := 9) (N := some 40) (v := ?_) (a' := ?_) #[true, true, true, true, true, true, true, true, true, true, false, true, true, false, false, false, false] rfl rfl (any_of HT_.out (by kernel_rfl)) (fun _ _ _ h => h) (Or.inl ⟨by rfl, ?_⟩) ?_ ?_
          rotate_left
          ·intro w'
           go_simp
           with_reducible rfl
          rotate_left
          ·simp only [Act.put, List.setIfInBounds_toArray, List.set_cons_zero, List.set_cons_succ, i64_w, i32_w]
           rfl
          refine pure_ (i := 10) (N := some 41) (v := ?_) (a' := ?_) #[true, true, true, true, true, true, true, true, true, true, true, true, true, false, false, false, false] rfl rfl (any_of HT_.out (by kernel_rfl)) (fun _ _ _ h => h) (Or.inl ⟨by rfl, ?_⟩) ?_ ?_
          rotate_left
          ·intro w'
           go_simp
           with_reducible rfl
          rotate_left
          ·simp only [Act.put, List.setIfInBounds_toArray, List.set_cons_zero, List.set_cons_succ, i64_w, i32_w]
           rfl
          refine one_ (i := 13) (N := some 44) #[true, true, true, true, true, true, true, true, true, true, true, true, true, true, false, false, false] rfl rfl (one_of HT_.out (by kernel_rfl)) (by decide) (fun K hK => ?_)
          refine goes_ Tryd.func38 (by kernel_rfl) rfl #[.string a0_3] (by rfl) rfl rfl (by (try simp only [List.map_toArray, List.map_cons, List.map_nil]); first | done | rfl | (simp only [List.length_drop, List.length_take]; rfl)) ?_
          with_reducible refine (show_clean.calls a0_3 t309 _ A17.out).mono ?_
          rintro e w28 ⟨rfl, hb⟩
          refine ⟨_, rfl, ?_⟩
          have n0_ := Aside0.mk (blk_below (g := gb300) (o := .cells #[.int .i64 a0_0, .int .i64 a0_1, .int .i64 a0_2, .string a0_3, .int .i64 a0_4] 35 (0, 0)) (by (with_reducible repeat (first | refine blk_drewN ?_ _ | refine blk_drew ?_ | refine blk_alloc ?_ _)); exact BK300.out) hb)
          have n1_ := Aside0.mk (below_step (by repeat (first | (with_reducible first | exact HB.out | apply below_alloc | apply pw_below_drewN | apply below_drew1 | refine below_set ?_ GE300.out) | exact HB.out)) hb)
          clear BK300
          clear HB
          have BK300 := n0_
          have HB := n1_
          clear n0_ n1_
          (try clear hb)
          (try clear hb2)
          (try clear hk)
          (try clear hi)
          refine hK.out _ _ ⟨(blk_cell BK300.out 0).trans rfl, (blk_cell BK300.out 1).trans rfl, (blk_cell BK300.out 2).trans rfl, (blk_cell BK300.out 3).trans rfl, (blk_cell BK300.out 4).trans rfl⟩ (fun hHeld => ?_)
          clear hK K
          refine norm_ (a' := ?_) ?_ ?_
          rotate_left
          ·show Act.put _ (some 44) _ = _
           simp only [Act.put, List.setIfInBounds_toArray, List.set_cons_zero, List.set_cons_succ, i64_w, i32_w]
           rfl
          refine pure_ (i := 14) (N := some 45) (v := ?_) (a' := ?_) #[true, true, true, true, true, true, true, true, true, true, true, true, true, true, true, false, false] rfl rfl (any_of HT_.out (by kernel_rfl)) (fun _ _ _ h => h) (Or.inl ⟨by rfl, ?_⟩) ?_ ?_
          rotate_left
          ·intro w'
           go_simp
           with_reducible rfl
          rotate_left
          ·simp only [Act.put, List.setIfInBounds_toArray, List.set_cons_zero, List.set_cons_succ, i64_w, i32_w]
           rfl
          refine pure_ (i := 15) (N := some 46) (v := ?_) (a' := ?_) #[true, true, true, true, true, true, true, true, true, true, true, true, true, true, true, true, false] rfl rfl (any_of HT_.out (by kernel_rfl)) (fun _ _ _ h => h) (Or.inl ⟨by rfl, ?_⟩) ?_ ?_
          rotate_left
          ·intro w'
           go_simp
           with_reducible rfl
          rotate_left
          ·simp only [Act.put, List.setIfInBounds_toArray, List.set_cons_zero, List.set_cons_succ, i64_w, i32_w]
           rfl
          refine pure_ (i := 16) (N := some 6) (v := ?_) (a' := ?_) #[true, true, true, true, true, true, true, true, true, true, true, true, true, true, true, true, true] rfl rfl (any_of HT_.out (by kernel_rfl)) (fun _ _ _ h => h) (Or.inl ⟨by rfl, ?_⟩) ?_ ?_
          rotate_left
          ·intro w'
           go_simp
           with_reducible rfl
          rotate_left
          ·simp only [Act.put, List.setIfInBounds_toArray, List.set_cons_zero, List.set_cons_succ, i64_w, i32_w]
           rfl
          refine done_ (done_of HT_.out (by kernel_rfl)) ?_
          have hcz29_0 : w28.cell? ⟨gb300, 0, none⟩ = some (.int .i64 a0_0) := (blk_cell BK300.out 0).trans rfl
          have hcz29_1 : w28.cell? ⟨gb300, 1, none⟩ = some (.int .i64 a0_1) := (blk_cell BK300.out 1).trans rfl
          have hcz29_2 : w28.cell? ⟨gb300, 2, none⟩ = some (.int .i64 a0_2) := (blk_cell BK300.out 2).trans rfl
          have hcz29_3 : w28.cell? ⟨gb300, 3, none⟩ = some (.string a0_3) := (blk_cell BK300.out 3).trans rfl
          have hcz29_4 : w28.cell? ⟨gb300, 4, none⟩ = some (.int .i64 a0_4) := (blk_cell BK300.out 4).trans rfl
          have hfz29_0 := blk_frozen BK300.out 0
          have hfz29_1 := blk_frozen BK300.out 1
          have hfz29_2 := blk_frozen BK300.out 2
          have hfz29_3 := blk_frozen BK300.out 3
          have hfz29_4 := blk_frozen BK300.out 4
          by_cases c20 : a0_4 = 3
          ·rw [if_pos c20] at H
           have c20b0 : (a0_4 == 3) = true := beq_iff_eq.mpr c20
           have c20b1 : (a0_4 != 3) = false := bne_eq_false_iff_eq.mpr c20
           clear c20
           by_cases c21 : (t305 ++ ((((((⟨#[32]⟩ : ByteArray) ++ t307) ++ (⟨#[45]⟩ : ByteArray)) ++ t308) ++ (⟨#[32]⟩ : ByteArray)) ++ t309)).size + 12 ≤ 9223372036854775807
           ·rw [if_pos c21] at H
            have c21b0 := eq_true c21
            have c21b1 : decide ((t305 ++ ((((((⟨#[32]⟩ : ByteArray) ++ t307) ++ (⟨#[45]⟩ : ByteArray)) ++ t308) ++ (⟨#[32]⟩ : ByteArray)) ++ t309)).size + 12 ≤ 9223372036854775807) = true := decide_eq_true c21
            try have c21b2 : (9223372036854775807 < (t305 ++ ((((((⟨#[32]⟩ : ByteArray) ++ t307) ++ (⟨#[45]⟩ : ByteArray)) ++ t308) ++ (⟨#[32]⟩ : ByteArray)) ++ t309)).size + 12) = False := eq_false (Nat.not_lt.2 c21)
            try (have c21b3 := c21b2; simp only [ByteArray.size_append, bs1_] at c21b3)
            simp only [Option.some.injEq, Prod.mk.injEq] at H
            obtain ⟨rfl, rfl⟩ := H
            try go_wp2
            go_ret2
            exact ⟨by first | rfl | (simp [errW_none, errW_some] <;> rfl) | (simp [*, errW_none, errW_some] <;> rfl), by repeat (first | (with_reducible first | exact HB.out | apply below_alloc | apply pw_below_drewN | apply below_drew1 | refine below_set ?_ GE300.out) | exact HB.out)⟩
           ·rw [if_neg c21] at H
            exact absurd H (by simp)
          ·rw [if_neg c20] at H
           have c20b0 : (a0_4 == 3) = false := beq_eq_false_iff_ne.mpr c20
           have c20b1 : (a0_4 != 3) = true := bne_iff_ne.mpr c20
           by_cases c30 : a0_4 = 1
           ·rw [if_pos c30] at H
            have c30b0 : (a0_4 == 1) = true := beq_iff_eq.mpr c30
            have c30b1 : (a0_4 != 1) = false := bne_eq_false_iff_eq.mpr c30
            clear c30
            by_cases c31 : (t305 ++ ((((((⟨#[32]⟩ : ByteArray) ++ t307) ++ (⟨#[45]⟩ : ByteArray)) ++ t308) ++ (⟨#[32]⟩ : ByteArray)) ++ t309)).size + 12 ≤ 9223372036854775807
            ·rw [if_pos c31] at H
             have c31b0 := eq_true c31
             have c31b1 : decide ((t305 ++ ((((((⟨#[32]⟩ : ByteArray) ++ t307) ++ (⟨#[45]⟩ : ByteArray)) ++ t308) ++ (⟨#[32]⟩ : ByteArray)) ++ t309)).size + 12 ≤ 9223372036854775807) = true := decide_eq_true c31
             try have c31b2 : (9223372036854775807 < (t305 ++ ((((((⟨#[32]⟩ : ByteArray) ++ t307) ++ (⟨#[45]⟩ : ByteArray)) ++ t308) ++ (⟨#[32]⟩ : ByteArray)) ++ t309)).size + 12) = False := eq_false (Nat.not_lt.2 c31)
             try (have c31b3 := c31b2; simp only [ByteArray.size_append, bs1_] at c31b3)
             simp only [Option.some.injEq, Prod.mk.injEq] at H
             obtain ⟨rfl, rfl⟩ := H
             try go_wp2
             go_ret2
             exact ⟨by first | rfl | (simp [errW_none, errW_some] <;> rfl) | (simp [*, errW_none, errW_some] <;> rfl), by repeat (first | (with_reducible first | exact HB.out | apply below_alloc | apply pw_below_drewN | apply below_drew1 | refine below_set ?_ GE300.out) | exact HB.out)⟩
            ·rw [if_neg c31] at H
             exact absurd H (by simp)
           ·rw [if_neg c30] at H
            have c30b0 : (a0_4 == 1) = false := beq_eq_false_iff_ne.mpr c30
            have c30b1 : (a0_4 != 1) = true := bne_iff_ne.mpr c30
            simp only [Option.some.injEq, Prod.mk.injEq] at H
            obtain ⟨rfl, rfl⟩ := H
            try go_wp2
            go_ret2
            exact ⟨by first | rfl | (simp [errW_none, errW_some] <;> rfl) | (simp [*, errW_none, errW_some] <;> rfl), by repeat (first | (with_reducible first | exact HB.out | apply below_alloc | apply pw_below_drewN | apply below_drew1 | refine below_set ?_ GE300.out) | exact HB.out)⟩
         ·rw [if_neg c19] at H
          exact absurd H (by simp)
        ·rw [if_neg c18] at H
         exact absurd H (by simp)
       ·rw [if_neg c16] at H
        exact absurd H (by simp)
      ·rw [if_neg c15] at H
       exact absurd H (by simp)
     ·rw [if_neg c13] at H
      exact absurd H (by simp)
    ·rw [if_neg c12] at H
     exact absurd H (by simp)
   ·replace c8 := Bool.eq_false_iff.mpr c8
    subst c8
    have H1 : (some ((⟨#[]⟩ : ByteArray), 2)) = some (r1, r2) := by rw [if_neg (show ¬ (false = true) by decide)] at H; exact H
    clear H
    have H := H1
    clear H1
    simp only [Option.some.injEq, Prod.mk.injEq] at H
    obtain ⟨rfl, rfl⟩ := H
    go_enter Tryd.func12, Tryd.ntmps12
    go_wp2_with (first | ((with_reducible refine gate_dst (N := 2) rfl ?_); refine box_event ?hg (N := 2) ?hd (cs := #[.int .i64 a0_0, .int .i64 a0_1, .int .i64 a0_2, .string a0_3, .int .i64 a0_4]) (t := 35) ?hr ?_; (case hd => rfl); (case hg => rfl); (case hr => first | (go_simp; done) | (go_simp; rfl)); intro gb300 hg w48 hbox hb; have n0_ := Aside0.mk (below_step (by repeat (first | (with_reducible first | exact HB.out | apply below_alloc | apply pw_below_drewN | apply below_drew1) | exact HB.out)) hb); have n1_ := Aside0.mk (hbox); have n2_ := Aside0.mk ((by rw [hg]; exact (below_size (by repeat (first | (with_reducible first | exact HB.out | apply below_alloc | apply pw_below_drewN | apply below_drew1) | exact HB.out))) : w.heap.size ≤ gb300)); have n3_ := Aside0.mk ((by rw [hg]; exact (below_size (by repeat (first | (with_reducible first | exact HB.out | apply below_alloc | apply pw_below_drewN | apply below_drew1) | exact HB.out))) : w.heap.size ≤ gb300)); clear HB; have HB := n0_; have BK300 := n1_; have GW300 := n2_; have GE300 := n3_; clear n0_ n1_ n2_ n3_; clear hb hbox hg) | ((with_reducible refine gate_callee (f := 17) rfl ?_); refine goesL_ (some 10) rfl rfl Tryd.func17 (by kernel_rfl) rfl #[.int .i64 a1] rfl (by (try simp only [List.map_toArray, List.map_cons, List.map_nil]); first | done | rfl | (simp only [List.length_drop, List.length_take]; rfl)) ?_; (with_reducible refine (show_is.calls a1 true _ A3.out).mono ?_); rintro e w' ⟨rfl, ⟨nd, rfl⟩⟩; refine ⟨_, rfl, ?_⟩; have hcz49_0 : w48.cell? ⟨gb300, 0, none⟩ = some (.int .i64 a0_0) := (blk_cell BK300.out 0).trans rfl; have hcz49_1 : w48.cell? ⟨gb300, 1, none⟩ = some (.int .i64 a0_1) := (blk_cell BK300.out 1).trans rfl; have hcz49_2 : w48.cell? ⟨gb300, 2, none⟩ = some (.int .i64 a0_2) := (blk_cell BK300.out 2).trans rfl; have hcz49_3 : w48.cell? ⟨gb300, 3, none⟩ = some (.string a0_3) := (blk_cell BK300.out 3).trans rfl; have hcz49_4 : w48.cell? ⟨gb300, 4, none⟩ = some (.int .i64 a0_4) := (blk_cell BK300.out 4).trans rfl; have hfz49_0 := blk_frozen BK300.out 0; have hfz49_1 := blk_frozen BK300.out 1; have hfz49_2 := blk_frozen BK300.out 2; have hfz49_3 := blk_frozen BK300.out 3; have hfz49_4 := blk_frozen BK300.out 4) | ((with_reducible refine gate_callee (f := 35) rfl ?_); refine goesL_ (some 15) rfl rfl Tryd.func35 (by kernel_rfl) rfl #[.int .i64 a0_0] rfl (by (try simp only [List.map_toArray, List.map_cons, List.map_nil]); first | done | rfl | (simp only [List.length_drop, List.length_take]; rfl)) ?_; (with_reducible refine (clock_Right.calls a0_0 true _ A5.out).mono ?_); rintro e w' ⟨rfl, ⟨nd, rfl⟩⟩; refine ⟨_, rfl, ?_⟩) | (go_at_call 35; (with_reducible refine (clock_Right.calls a0_1 false _ A7.out).mono ?_); rintro e w' ⟨rfl, ⟨nd, rfl⟩⟩))
    go_ret2
    exact ⟨by first | rfl | (simp [errW_none, errW_some] <;> rfl) | (simp [*, errW_none, errW_some] <;> rfl), by repeat (first | (with_reducible first | exact HB.out | apply below_alloc | apply pw_below_drewN | apply below_drew1 | refine below_set ?_ GE300.out) | exact HB.out)⟩
  ·replace c6 := Bool.eq_false_iff.mpr c6
   subst c6
   have H1 : (some ((⟨#[]⟩ : ByteArray), 2)) = some (r1, r2) := by rw [if_neg (show ¬ (false = true) by decide)] at H; exact H
   clear H
   have H := H1
   clear H1
   simp only [Option.some.injEq, Prod.mk.injEq] at H
   obtain ⟨rfl, rfl⟩ := H
   go_enter Tryd.func12, Tryd.ntmps12
   go_wp2_with (first | ((with_reducible refine gate_dst (N := 2) rfl ?_); refine box_event ?hg (N := 2) ?hd (cs := #[.int .i64 a0_0, .int .i64 a0_1, .int .i64 a0_2, .string a0_3, .int .i64 a0_4]) (t := 35) ?hr ?_; (case hd => rfl); (case hg => rfl); (case hr => first | (go_simp; done) | (go_simp; rfl)); intro gb300 hg w50 hbox hb; have n0_ := Aside0.mk (below_step (by repeat (first | (with_reducible first | exact HB.out | apply below_alloc | apply pw_below_drewN | apply below_drew1) | exact HB.out)) hb); have n1_ := Aside0.mk (hbox); have n2_ := Aside0.mk ((by rw [hg]; exact (below_size (by repeat (first | (with_reducible first | exact HB.out | apply below_alloc | apply pw_below_drewN | apply below_drew1) | exact HB.out))) : w.heap.size ≤ gb300)); have n3_ := Aside0.mk ((by rw [hg]; exact (below_size (by repeat (first | (with_reducible first | exact HB.out | apply below_alloc | apply pw_below_drewN | apply below_drew1) | exact HB.out))) : w.heap.size ≤ gb300)); clear HB; have HB := n0_; have BK300 := n1_; have GW300 := n2_; have GE300 := n3_; clear n0_ n1_ n2_ n3_; clear hb hbox hg) | ((with_reducible refine gate_callee (f := 17) rfl ?_); refine goesL_ (some 10) rfl rfl Tryd.func17 (by kernel_rfl) rfl #[.int .i64 a1] rfl (by (try simp only [List.map_toArray, List.map_cons, List.map_nil]); first | done | rfl | (simp only [List.length_drop, List.length_take]; rfl)) ?_; (with_reducible refine (show_is.calls a1 true _ A3.out).mono ?_); rintro e w' ⟨rfl, ⟨nd, rfl⟩⟩; refine ⟨_, rfl, ?_⟩; have hcz51_0 : w50.cell? ⟨gb300, 0, none⟩ = some (.int .i64 a0_0) := (blk_cell BK300.out 0).trans rfl; have hcz51_1 : w50.cell? ⟨gb300, 1, none⟩ = some (.int .i64 a0_1) := (blk_cell BK300.out 1).trans rfl; have hcz51_2 : w50.cell? ⟨gb300, 2, none⟩ = some (.int .i64 a0_2) := (blk_cell BK300.out 2).trans rfl; have hcz51_3 : w50.cell? ⟨gb300, 3, none⟩ = some (.string a0_3) := (blk_cell BK300.out 3).trans rfl; have hcz51_4 : w50.cell? ⟨gb300, 4, none⟩ = some (.int .i64 a0_4) := (blk_cell BK300.out 4).trans rfl; have hfz51_0 := blk_frozen BK300.out 0; have hfz51_1 := blk_frozen BK300.out 1; have hfz51_2 := blk_frozen BK300.out 2; have hfz51_3 := blk_frozen BK300.out 3; have hfz51_4 := blk_frozen BK300.out 4) | ((with_reducible refine gate_callee (f := 35) rfl ?_); refine goesL_ (some 15) rfl rfl Tryd.func35 (by kernel_rfl) rfl #[.int .i64 a0_0] rfl (by (try simp only [List.map_toArray, List.map_cons, List.map_nil]); first | done | rfl | (simp only [List.length_drop, List.length_take]; rfl)) ?_; (with_reducible refine (clock_Right.calls a0_0 false _ A5.out).mono ?_); rintro e w' ⟨rfl, ⟨nd, rfl⟩⟩; refine ⟨_, rfl, ?_⟩))
   go_ret2
   exact ⟨by first | rfl | (simp [errW_none, errW_some] <;> rfl) | (simp [*, errW_none, errW_some] <;> rfl), by repeat (first | (with_reducible first | exact HB.out | apply below_alloc | apply pw_below_drewN | apply below_drew1 | refine below_set ?_ GE300.out) | exact HB.out)⟩
 ·replace c4 := Bool.eq_false_iff.mpr c4
  subst c4
  have H1 : (some ((⟨#[]⟩ : ByteArray), 1)) = some (r1, r2) := by rw [if_neg (show ¬ (false = true) by decide)] at H; exact H
  clear H
  have H := H1
  clear H1
  simp only [Option.some.injEq, Prod.mk.injEq] at H
  obtain ⟨rfl, rfl⟩ := H
  go_enter Tryd.func12, Tryd.ntmps12
  go_wp2_with (first | ((with_reducible refine gate_dst (N := 2) rfl ?_); refine box_event ?hg (N := 2) ?hd (cs := #[.int .i64 a0_0, .int .i64 a0_1, .int .i64 a0_2, .string a0_3, .int .i64 a0_4]) (t := 35) ?hr ?_; (case hd => rfl); (case hg => rfl); (case hr => first | (go_simp; done) | (go_simp; rfl)); intro gb300 hg w52 hbox hb; have n0_ := Aside0.mk (below_step (by repeat (first | (with_reducible first | exact HB.out | apply below_alloc | apply pw_below_drewN | apply below_drew1) | exact HB.out)) hb); have n1_ := Aside0.mk (hbox); have n2_ := Aside0.mk ((by rw [hg]; exact (below_size (by repeat (first | (with_reducible first | exact HB.out | apply below_alloc | apply pw_below_drewN | apply below_drew1) | exact HB.out))) : w.heap.size ≤ gb300)); have n3_ := Aside0.mk ((by rw [hg]; exact (below_size (by repeat (first | (with_reducible first | exact HB.out | apply below_alloc | apply pw_below_drewN | apply below_drew1) | exact HB.out))) : w.heap.size ≤ gb300)); clear HB; have HB := n0_; have BK300 := n1_; have GW300 := n2_; have GE300 := n3_; clear n0_ n1_ n2_ n3_; clear hb hbox hg) | ((with_reducible refine gate_callee (f := 17) rfl ?_); refine goesL_ (some 10) rfl rfl Tryd.func17 (by kernel_rfl) rfl #[.int .i64 a1] rfl (by (try simp only [List.map_toArray, List.map_cons, List.map_nil]); first | done | rfl | (simp only [List.length_drop, List.length_take]; rfl)) ?_; (with_reducible refine (show_is.calls a1 false _ A3.out).mono ?_); rintro e w' ⟨rfl, ⟨nd, rfl⟩⟩; refine ⟨_, rfl, ?_⟩))
  go_ret2
  exact ⟨by first | rfl | (simp [errW_none, errW_some] <;> rfl) | (simp [*, errW_none, errW_some] <;> rfl), by repeat (first | (with_reducible first | exact HB.out | apply below_alloc | apply pw_below_drewN | apply below_drew1 | refine below_set ?_ GE300.out) | exact HB.out)⟩

end Go.Proofs.YtgbbgcepcnklkaaDoor.L
