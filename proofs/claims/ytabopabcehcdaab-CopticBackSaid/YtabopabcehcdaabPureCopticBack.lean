/- Both conversions between days and Coptic dates are inverse: for all whole numbers of 64 bits, with no condition. -/
import Derived.Test.YtabopabcehcdaabFunK
import Derived.Test.YtabopabcehcdaabFunB
import Derived.BigQuiet
import Derived.Deep.QuietTactic
import Derived.Lib.Hide
namespace Go.Proofs.Ytabopabcehcdaab.Pure
open Go.RowKit Go.Proofs.YtabopabcehcdaabW.PrintWords Go.Proofs.YtabopabcehcdaabW.PrintLast Go.Proofs.Ytabopabcehcdaab.Q Go.Proofs.Ytabopabcehcdaab.Cal Go.Proofs.Ytabopabcehcdaab.FunA Go.Proofs.Ytabopabcehcdaab.FunB Go.Proofs.Ytabopabcehcdaab.FunC Go.Proofs.Ytabopabcehcdaab.FunJ Go.Proofs.Ytabopabcehcdaab.FunK
set_option linter.unusedVariables false
set_option linter.unusedSimpArgs false
namespace CopticBackW
theorem kept {w : World} {a : Addr} {v : Value} (o : Obj) (h : w.cell? a = some v) : (w.alloc o).cell? a = some v := pw_cell_below ((Below.refl _ _).alloc (Nat.le_refl _) _) h
set_option maxHeartbeats 8000000 in
set_option maxRecDepth 100000 in
theorem walk (k : Nat) (day y m d a1 a2 a3 e n f p g b1 b2 b3 h : Int) (b : Bool) (w : World) (h0 : trystlaw02_awake.f k = some true)
    (hJ : julian_Coptic.f day = some (a1, a2, a3, e)) (hF : julian_FromCoptic.f k a1 a2 a3 = some (n, f)) (hI : trystref01_In.f day = some b)
    (hG : julian_FromCoptic.f k y m d = some (p, g)) (hH : julian_Coptic.f p = some (b1, b2, b3, h))
    (c1 : (e = 0 ∧ b = true ∧ f = 0 ∧ day = n) ∨ (e = 2 ∧ b = false)) (c2 : g = 2 ∨ (g = 0 ∧ h = 0 ∧ y = b1 ∧ m = b2 ∧ d = b3)) :
    Calls Try.prog 3 #[.int .i64 day, .agg #[.int .i64 y, .int .i64 m, .int .i64 d]] w fun e w' => e = .returned (.bool true) ∧ Below w.heap.size w w' := by
  have H0 := Lib.hid h0; clear h0
  have HI := Lib.hid hI; clear hI
  rcases c1 with ⟨rfl, rfl, rfl, rfl⟩ | ⟨rfl, rfl⟩ <;> rcases c2 with rfl | ⟨rfl, rfl, rfl, rfl, rfl⟩
  all_goals
    have HJ := Lib.hid hJ; clear hJ
    have HF := Lib.hid hF; clear hF
    have HG := Lib.hid hG; clear hG
    have HH := Lib.hid hH; clear hH
    go_enter Try.func3, Try.ntmps3
    go_wp2_with fail
    refine (trystlaw02_awake.calls k true _ H0.out).mono ?_
    rintro e wA ⟨rfl, hA⟩
    have i0 : wA.cell? ⟨w.heap.size, 0, none⟩ = some (.int .i64 y) := pw_cell_below hA (by go_simp)
    have i1 : wA.cell? ⟨w.heap.size, 1, none⟩ = some (.int .i64 m) := pw_cell_below hA (by go_simp)
    have i2 : wA.cell? ⟨w.heap.size, 2, none⟩ = some (.int .i64 d) := pw_cell_below hA (by go_simp)
    have hzA : w.heap.size < wA.heap.size := by have := hA.size; simp at this; omega
    go_wp2_with fail
    refine (julian_Coptic.calls day _ _ _ _ _ HJ.out).mono ?_
    rintro e w1 ⟨rfl, hB1⟩
    have j0 : w1.cell? ⟨w.heap.size, 0, none⟩ = some (.int .i64 y) := pw_cell_below hB1 i0
    have j1 : w1.cell? ⟨w.heap.size, 1, none⟩ = some (.int .i64 m) := pw_cell_below hB1 i1
    have j2 : w1.cell? ⟨w.heap.size, 2, none⟩ = some (.int .i64 d) := pw_cell_below hB1 i2
    clear i0 i1 i2
    have hz1 := hB1.size
    have hz1' : w.heap.size < w1.heap.size := by omega
    have hne1 : ¬ w.heap.size = w1.heap.size := by omega
    go_wp2_with fail
    refine (julian_FromCoptic.calls k _ _ _ _ _ _ HF.out).mono ?_
    rintro e w2 ⟨rfl, hB2⟩
    have i0 : w2.cell? ⟨w.heap.size, 0, none⟩ = some (.int .i64 y) := pw_cell_below hB2 (kept _ j0)
    have i1 : w2.cell? ⟨w.heap.size, 1, none⟩ = some (.int .i64 m) := pw_cell_below hB2 (kept _ j1)
    have i2 : w2.cell? ⟨w.heap.size, 2, none⟩ = some (.int .i64 d) := pw_cell_below hB2 (kept _ j2)
    clear j0 j1 j2
    have hz2 : w1.heap.size < w2.heap.size := by have := hB2.size; simp at this; omega
    have hz2' : w.heap.size < w2.heap.size := by omega
    go_wp2_with (go_at_call 7; refine (trystref01_In.calls day _ _ HI.out).mono ?_; rintro e w' ⟨rfl, ⟨nd, rfl⟩⟩)
    refine (julian_FromCoptic.calls k _ _ _ _ _ _ HG.out).mono ?_
    rintro e w3 ⟨rfl, hB3⟩
    have j0 : w3.cell? ⟨w.heap.size, 0, none⟩ = some (.int .i64 y) := pw_cell_below hB3 i0
    have j1 : w3.cell? ⟨w.heap.size, 1, none⟩ = some (.int .i64 m) := pw_cell_below hB3 i1
    have j2 : w3.cell? ⟨w.heap.size, 2, none⟩ = some (.int .i64 d) := pw_cell_below hB3 i2
    clear i0 i1 i2
    go_wp2_with fail
    refine (julian_Coptic.calls _ _ _ _ _ _ HH.out).mono ?_
    rintro e w4 ⟨rfl, hB4⟩
    have i0 : w4.cell? ⟨w.heap.size, 0, none⟩ = some (.int .i64 y) := pw_cell_below hB4 j0
    have i1 : w4.cell? ⟨w.heap.size, 1, none⟩ = some (.int .i64 m) := pw_cell_below hB4 j1
    have i2 : w4.cell? ⟨w.heap.size, 2, none⟩ = some (.int .i64 d) := pw_cell_below hB4 j2
    clear j0 j1 j2
    have hz4 : w.heap.size < w4.heap.size := by
      have h3 := hB3.size; have h4 := hB4.size
      have h5 : w2.heap.size ≤ w3.heap.size := h3
      omega
    have hne4 : ¬ w.heap.size = w4.heap.size := by omega
    have B0 := below_alloc (Below.refl w.heap.size w) (Obj.cells #[.int .i64 y, .int .i64 m, .int .i64 d] 23)
    have BA := below_then B0 B0.size hA
    have B1 := below_then BA BA.size hB1
    have B2 := below_then (below_alloc B1 _) (below_alloc B1 _).size hB2
    have B3 := below_then (pw_below_drewN B2 nd) (show w.heap.size ≤ (w2.drewN nd).heap.size from B2.size) hB3
    have B4 := Lib.hid (below_then B3 B3.size hB4)
    clear B0 BA B1 B2 B3 hA hB1 hB2 hB3 hB4
    go_wp2_with fail
    go_ret
    exact ⟨rfl, by repeat (first | exact below_alloc B4.out _ | apply pw_below_drewN)⟩
end CopticBackW
/-- There and back: of a day, and of a date. -/
theorem CopticBack_there (day : Int) : ∃ a1 a2 a3 e n f b, julian_Coptic.f day = some (a1, a2, a3, e) ∧ julian_FromCoptic.f 200 a1 a2 a3 = some (n, f) ∧ trystref01_In.f day = some b ∧
    ((e = 0 ∧ b = true ∧ f = 0 ∧ day = n) ∨ (e = 2 ∧ b = false)) := by
  by_cases c : In day
  · obtain ⟨y, m, d, e, hd, h1, h2⟩ := kDate_yes day c
    refine ⟨y, m, d, 0, day, 0, true, e, ?_, fIn_yes c, Or.inl ⟨rfl, rfl, rfl, rfl⟩⟩
    have q1 := hd.m1; have q2 := hd.m2; have q3 := hd.d2; have q4 := hd.d3
    rw [kFrom_yes 200 (by omega) y m d ⟨h1, h2, hd.d1, by unfold clen; rw [if_neg (by omega)]; split <;> omega⟩, ← hd.e, dayOr_yes c]
  · exact ⟨0, 0, 0, 2, 0, 2, false, kDate_no day c, kFrom_no 200 (by omega) 0 0 0 (by unfold RightC; omega), fIn_no c, Or.inr ⟨rfl, rfl⟩⟩
theorem CopticBack_here (y m d : Int) : ∃ p g b1 b2 b3 h, julian_FromCoptic.f 200 y m d = some (p, g) ∧ julian_Coptic.f p = some (b1, b2, b3, h) ∧ (g = 2 ∨ (g = 0 ∧ h = 0 ∧ y = b1 ∧ m = b2 ∧ d = b3)) := by
  have h0 : julian_Coptic.f 0 = some (0, 0, 0, 2) := kDate_no 0 (by unfold In; omega)
  by_cases c : RightC y m d
  · have hf := kFrom_yes 200 (by omega) y m d c
    obtain ⟨c1, c2, c3, c4⟩ := c
    have hm := clen_pos y m (by omega)
    by_cases i : In (cb y + 30 * (m - 1) + d)
    · rw [dayOr_yes i] at hf
      obtain ⟨y', m', d', e', hd', _, _⟩ := kDate_yes _ i
      have q : m = 13 → d ≤ lc y := by
        intro z; unfold clen at c4; rw [if_neg (by omega), if_pos z] at c4; exact c4
      obtain ⟨r1, r2, r3⟩ := IsC.one (show IsC y m d _ from ⟨hm.1, hm.2.1, c3, by omega, q, rfl⟩) hd'
      exact ⟨_, 0, y', m', d', 0, hf, e', Or.inr ⟨rfl, rfl, r1, r2, r3⟩⟩
    · rw [dayOr_no i] at hf
      exact ⟨0, 2, 0, 0, 0, 2, hf, h0, Or.inl rfl⟩
  · exact ⟨0, 2, 0, 0, 0, 2, kFrom_no 200 (by omega) y m d c, h0, Or.inl rfl⟩
theorem CopticBack_calls (day y m d : Int) (w : World) (_ : (Lit.int .i64 day).wf = true) (_ : (Lit.int .i64 y).wf = true) (_ : (Lit.int .i64 m).wf = true) (_ : (Lit.int .i64 d).wf = true) :
    Calls Try.prog 3 #[.int .i64 day, .agg #[.int .i64 y, .int .i64 m, .int .i64 d]] w fun e w' => e = .returned (.bool true) ∧ Below w.heap.size w w' := by
  obtain ⟨a1, a2, a3, e, n, f, b, hJ, hF, hI, c1⟩ := CopticBack_there day
  obtain ⟨p, g, b1, b2, b3, h, hG, hH, c2⟩ := CopticBack_here y m d
  exact CopticBackW.walk 200 day y m d a1 a2 a3 e n f p g b1 b2 b3 h b w (awake2 200 (by omega)) hJ hF hI hG hH c1 c2

end Go.Proofs.Ytabopabcehcdaab.Pure
