/- Date, Weekday and InYear of every day are as specified: for every whole number of 64 bits, with no condition. -/
import Derived.Test.YtabopabcehcdaaaFunC
import Derived.Test.YtabopabcehcdaaaFunD
import Derived.Lib.Hide
import Derived.WalkKit
namespace Go.Proofs.Ytabopabcehcdaaa.Pure
open Go.RowKit Go.Proofs.YtabopabcehcdaaaW.PrintWords Go.Proofs.YtabopabcehcdaaaW.PrintLast Go.Proofs.Ytabopabcehcdaaa.Q Go.Proofs.Ytabopabcehcdaaa.Cal Go.Proofs.Ytabopabcehcdaaa.FunA Go.Proofs.Ytabopabcehcdaaa.FunB Go.Proofs.Ytabopabcehcdaaa.FunC Go.Proofs.Ytabopabcehcdaaa.FunD
set_option linter.unusedVariables false
set_option linter.unusedSimpArgs false
namespace RataDatesW
theorem kept {w : World} {a : Addr} {v : Value} (o : Obj) (h : w.cell? a = some v) : (w.alloc o).cell? a = some v := pw_cell_below ((Below.refl _ _).alloc (Nat.le_refl _) _) h
set_option maxHeartbeats 8000000 in
set_option maxRecDepth 100000 in
theorem walk (k : Nat) (a y m d n e r q : Int) (b : Bool) (w : World) (h0 : trystlaw01_awake.f k = some true)
    (hD : rata_Date.f k a = some (y, m, d, e)) (hR : trystref01_Date.f k 0 a = some (y, m, d, e)) (hN : rata_InYear.f a = some (n, e)) (hO : rata_Of.f a = some b)
    (hW : rata_Weekday.f a = some r) (hM : trystref01_Mod.f a 7 = some r) (hF : trystref01_Fixed.f k 0 y 1 1 = some q)
    (c : (e = 0 ∧ b = true ∧ a - q + 1 = n ∧ 0 ≤ a ∧ a ≤ 4000000 ∧ -100000000 ≤ q ∧ q ≤ 100000000) ∨ (e = 2 ∧ b = false ∧ n = 0)) :
    Calls Try.prog 20 #[.int .i64 a] w fun e w' => e = .returned (.bool true) ∧ Below w.heap.size w w' := by
  have H0 := Lib.hid h0; clear h0
  have HO := Lib.hid hO; clear hO
  have HW := Lib.hid hW; clear hW
  have HM := Lib.hid hM; clear hM
  have HF := Lib.hid hF; clear hF
  rcases c with ⟨rfl, rfl, rfl, ha, ha', hq, hq'⟩ | ⟨rfl, rfl, rfl⟩
  all_goals
    have HD := Lib.hid hD; clear hD
    have HR := Lib.hid hR; clear hR
    have HN := Lib.hid hN; clear hN
    go_enter Try.func20, Try.ntmps20
    go_wp2_with fail
    refine (trystlaw01_awake.calls k true _ H0.out).mono ?_
    rintro e wA ⟨rfl, hA⟩
    go_wp2_with fail
    refine (rata_Date.calls k _ _ _ _ _ _ HD.out).mono ?_
    rintro e w1 ⟨rfl, hB1⟩
    go_wp2_with fail
    refine (trystref01_Date.calls k 0 _ _ _ _ _ _ HR.out).mono ?_
    rintro e w2 ⟨rfl, hB2⟩
    have i0 : w2.cell? ⟨w1.heap.size, 0, none⟩ = some (.int .i64 y) := pw_cell_below hB2 (by go_simp)
    have i1 : w2.cell? ⟨w1.heap.size, 1, none⟩ = some (.int .i64 m) := pw_cell_below hB2 (by go_simp)
    have i2 : w2.cell? ⟨w1.heap.size, 2, none⟩ = some (.int .i64 d) := pw_cell_below hB2 (by go_simp)
    go_wp2_with fail
    refine (rata_InYear.calls _ _ _ _ HN.out).mono ?_
    rintro e w3 ⟨rfl, hB3⟩
    have j0 : w3.cell? ⟨w1.heap.size, 0, none⟩ = some (.int .i64 y) := pw_cell_below hB3 (kept _ i0)
    have j1 : w3.cell? ⟨w1.heap.size, 1, none⟩ = some (.int .i64 m) := pw_cell_below hB3 (kept _ i1)
    have j2 : w3.cell? ⟨w1.heap.size, 2, none⟩ = some (.int .i64 d) := pw_cell_below hB3 (kept _ i2)
    have u0 : w3.cell? ⟨w2.heap.size, 0, none⟩ = some (.int .i64 y) := pw_cell_below hB3 (by go_simp)
    have u1 : w3.cell? ⟨w2.heap.size, 1, none⟩ = some (.int .i64 m) := pw_cell_below hB3 (by go_simp)
    have u2 : w3.cell? ⟨w2.heap.size, 2, none⟩ = some (.int .i64 d) := pw_cell_below hB3 (by go_simp)
    clear i0 i1 i2
    have B1 := below_then hA hA.size hB1
    have B2 := below_then (below_alloc B1 _) (below_alloc B1 _).size hB2
    have B3 := Lib.hid (below_then (below_alloc B2 _) (below_alloc B2 _).size hB3)
    clear B1 B2 hA hB1 hB2 hB3
    go_wp2_with (first
      | (go_at_call 47; refine (rata_Of.calls _ _ _ HO.out).mono ?_; rintro e w' ⟨rfl, ⟨n1, rfl⟩⟩)
      | (go_at_call 38; refine (rata_Weekday.calls _ _ _ HW.out).mono ?_; rintro e w' ⟨rfl, ⟨n2, rfl⟩⟩)
      | (go_at_call 48; refine (trystref01_Mod.calls _ 7 _ _ HM.out).mono ?_; rintro e w' ⟨rfl, ⟨n3, rfl⟩⟩)
      | (go_at_call 49; refine (trystref01_Fixed.calls k 0 y 1 1 q _ HF.out).mono ?_; rintro e w' ⟨rfl, ⟨n4, rfl⟩⟩))
    go_ret
    exact ⟨rfl, by repeat (first | exact B3.out | apply pw_below_drewN)⟩
end RataDatesW
theorem RataDates_calls (a : Int) (w : World) (wf : (Lit.int .i64 a).wf = true) :
    Calls Try.prog 20 #[.int .i64 a] w fun e w' => e = .returned (.bool true) ∧ Below w.heap.size w w' := by
  have hi := wf_i64 wf
  by_cases h : In a
  · obtain ⟨m, d, e, hd⟩ := rDate_yes 200 (by omega) a h
    obtain ⟨y', m', d', e', hd'⟩ := fDate0 200 (by omega) a h
    obtain ⟨r1, r2, r3⟩ := Is.one greg hd' hd
    subst r1 r2 r3
    have hy := yr_In h
    have hf := fFixed 200 (by omega) 0 (yr a) 1 1 (Or.inl rfl) (by omega) (by omega) (by omega) (by omega) (by omega) (by omega)
    have hb := ah_bd (yr a) (by omega) (by omega)
    have e1 : fx 0 (yr a) 1 = ah (yr a) := by simp [fx, cum_one]
    rw [e1] at hf
    have hn := rInYear_yes a h
    have e2 : a - ah (yr a) = a - (ah (yr a) + 1) + 1 := by omega
    rw [e2] at hn
    exact RataDatesW.walk 200 a _ _ _ _ 0 _ _ true w (awake1 200 (by omega)) e e' hn (rOf_yes h) (rWeekday a hi) (fMod a 7 (by omega) (by omega) hi) hf (Or.inl ⟨rfl, rfl, rfl, by have := h.1; omega, by have := h.2; omega, by omega, by omega⟩)
  · have hf := fFixed 200 (by omega) 0 0 1 1 (Or.inl rfl) (by omega) (by omega) (by omega) (by omega) (by omega) (by omega)
    exact RataDatesW.walk 200 a 0 0 0 0 2 _ _ false w (awake1 200 (by omega)) (rDate_no 200 a h) (fDate_no 200 0 a h) (rInYear_no a h) (rOf_no h) (rWeekday a hi) (fMod a 7 (by omega) (by omega) hi) hf (Or.inr ⟨rfl, rfl, rfl⟩)
end Go.Proofs.Ytabopabcehcdaaa.Pure
