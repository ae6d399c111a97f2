/- What the program's day arithmetic (package rata) reckons, in plain numbers. -/
import Derived.Test.YthppkdbelmolbaaCal
import Derived.Test.YthppkdbelmolbaaQrataA
namespace Go.Proofs.Ythppkdbelmolbaa.FunA
open Go.RowKit Go.Proofs.YthppkdbelmolbaaW.PrintWords Go.Proofs.YthppkdbelmolbaaW.PrintLast Go.Proofs.Ythppkdbelmolbaa.Q Go.Proofs.Ythppkdbelmolbaa.Cal

def I64 (a : Int) : Prop := -9223372036854775808 ≤ a ∧ a ≤ 9223372036854775807
theorem wf_i64 {a : Int} (h : (Lit.int .i64 a).wf = true) : I64 a := by
  simp [Lit.wf, IntKind.min, IntKind.max, IntKind.signed, IntKind.bits] at h; exact ⟨by omega, by omega⟩

theorem quo (a b : Int) (hb : 0 < b) : Int.tdiv a b = if 0 ≤ a ∨ a % b = 0 then a / b else a / b + 1 := by
  rw [Int.tdiv_eq_ediv]
  have hd : b ∣ a ↔ a % b = 0 := Int.dvd_iff_emod_eq_zero
  by_cases h : 0 ≤ a ∨ a % b = 0
  · rw [if_pos h, if_pos (h.imp id hd.2)]; omega
  · rw [if_neg h, if_neg (fun k => h (k.imp id hd.1)), Int.sign_eq_one_of_pos hb]
theorem rem0 (a b : Int) : Int.tmod a b = 0 ↔ a % b = 0 := by
  rw [← Int.dvd_iff_tmod_eq_zero, Int.dvd_iff_emod_eq_zero]
theorem div_bd (a b : Int) (hb : 2 ≤ b) (ha : I64 a) : -4611686018427387905 ≤ a / b ∧ a / b ≤ 4611686018427387904 := by
  have h1 := Int.ediv_mul_le a (show b ≠ 0 by omega)
  have h2 := Int.lt_ediv_add_one_mul_self a (show 0 < b by omega)
  obtain ⟨ha, ha'⟩ := ha
  generalize a / b = q at *
  constructor
  · by_cases h : 0 ≤ q + 1
    · omega
    · have := Int.mul_le_mul_of_nonpos_left (show q + 1 ≤ 0 by omega) hb
      omega
  · by_cases h : q ≤ 0
    · omega
    · have := Int.mul_le_mul_of_nonneg_left hb (show 0 ≤ q by omega)
      omega
theorem rFloor (a b : Int) (hb : 2 ≤ b) (ha : I64 a) : rata_Floor.f a b = some (a / b) := by
  have hd := div_bd a b hb ha
  have hq := quo a b (by omega)
  unfold rata_Floor.f
  rw [if_neg (by omega)]
  by_cases h0 : a % b = 0
  · rw [if_pos ((rem0 a b).2 h0), hq, if_pos (Or.inr h0), w64 (by omega) (by omega)]
  · rw [if_neg (fun h => h0 ((rem0 a b).1 h)), hq]
    by_cases hn : a < 0
    · rw [if_pos (by simp [hn]; omega), if_neg (by omega), w64 (x := a / b + 1) (by omega) (by omega), w64 (by omega) (by omega)]
      congr 1; omega
    · rw [if_neg (by simp [hn]; omega), if_pos (by omega), w64 (by omega) (by omega)]
theorem wrap_sub (a x : Int) : wrap64 (a - wrap64 x) = wrap64 (a - x) := by unfold wrap64; omega
theorem rMod (a b : Int) (hb : 2 ≤ b) (hb' : b ≤ 4611686018427387904) (ha : I64 a) : rata_Mod.f a b = some (a % b) := by
  unfold rata_Mod.f
  have h1 := Int.emod_nonneg a (show b ≠ 0 by omega)
  have h2 := Int.emod_lt_of_pos a (show 0 < b by omega)
  rw [rFloor a b hb ha, Option.bind_some, wrap_sub, ← Int.emod_def, w64 (by omega) (by omega)]
theorem rAhead (y : Int) (h : -40000 ≤ y) (h' : y ≤ 40000) : rata_ahead.f y = some (ah y) := by
  unfold rata_ahead.f
  have e : wrap64 (y - 1) = y - 1 := w64 (by omega) (by omega)
  rw [e, rFloor _ 4 (by omega) ⟨by omega, by omega⟩, rFloor _ 100 (by omega) ⟨by omega, by omega⟩, rFloor _ 400 (by omega) ⟨by omega, by omega⟩]
  simp only [Option.bind_some]
  congr 1
  unfold ah wrap64; omega
theorem ah_bd (y : Int) (h : -40000 ≤ y) (h' : y ≤ 40000) : -15000000 ≤ ah y ∧ ah y ≤ 15000000 := by unfold ah; omega
/-- A day of layer 1. -/
def In (day : Int) : Prop := 1 ≤ day ∧ day ≤ 3652059
theorem rOf (day : Int) : rata_Of.f day = some (decide (1 ≤ day) && decide (day ≤ 3652059)) := by
  unfold rata_Of.f
  by_cases h : day ≥ 1
  · rw [if_pos h, decide_eq_true (show 1 ≤ day from h)]; rfl
  · rw [if_neg h, decide_eq_false (show ¬ 1 ≤ day from h)]; rfl
theorem rOf_yes {day : Int} (h : In day) : rata_Of.f day = some true := by
  rw [rOf, decide_eq_true h.1, decide_eq_true h.2]; rfl
theorem rOf_no {day : Int} (h : ¬ In day) : rata_Of.f day = some false := by
  rw [rOf]
  by_cases a : 1 ≤ day
  · rw [decide_eq_false (show ¬ day ≤ 3652059 from fun b => h ⟨a, b⟩)]; simp
  · rw [decide_eq_false a]; rfl
end Go.Proofs.Ythppkdbelmolbaa.FunA
