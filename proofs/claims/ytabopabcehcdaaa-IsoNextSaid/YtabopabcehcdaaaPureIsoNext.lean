/- The day after a day has the next ISO week date: for every whole number of 64 bits, with no condition. -/
import Derived.Test.YtabopabcehcdaaaFunI
import Derived.Test.YtabopabcehcdaaaFunD
import Derived.BigQuiet
import Derived.Deep.QuietTactic
import Derived.Lib.Hide
import Derived.IntWalk
namespace Go.Proofs.Ytabopabcehcdaaa.Pure
open Go.RowKit Go.Proofs.YtabopabcehcdaaaW.PrintWords Go.Proofs.YtabopabcehcdaaaW.PrintLast Go.Proofs.Ytabopabcehcdaaa.Q Go.Proofs.Ytabopabcehcdaaa.Cal Go.Proofs.Ytabopabcehcdaaa.FunA Go.Proofs.Ytabopabcehcdaaa.FunB Go.Proofs.Ytabopabcehcdaaa.FunC Go.Proofs.Ytabopabcehcdaaa.FunD Go.Proofs.Ytabopabcehcdaaa.FunI
set_option linter.unusedVariables false
set_option linter.unusedSimpArgs false
namespace IsoNextW
theorem bcell {W w1 : World} (hb : Below W.heap.size W w1) : (∀ b o, b < W.heap.size → w1.cell? ⟨b, o, none⟩ = W.cell? ⟨b, o, none⟩) ∧ (∀ b o, b < W.heap.size → w1.frozen? ⟨b, o, none⟩ = W.frozen? ⟨b, o, none⟩) :=
  ⟨fun b o h => hb.cell (p := ⟨b, o, none⟩) h, fun b o h => hb.frozen (p := ⟨b, o, none⟩) h⟩
theorem quiet_len (k : Nat) (c y m n : Int) (h : trystref01_Length.f k c y m = some n) (w : World) {N : Nat} :
    Calls Try.prog 30 #[.int .i64 c, .int .i64 y, .int .i64 m] (w.drewN N) fun e w' => e = .returned (.int .i64 n) ∧ ∃ j, w' = w.drewN j :=
  Calls.quiet_of ((trystref01_Length.calls k c y m n _ h).mono fun e w' ⟨he, ⟨j, hj⟩⟩ => ⟨he, j, hj⟩)
set_option maxHeartbeats 4000000 in
set_option maxRecDepth 100000 in
theorem walk_same (k : Nat) (day y m d : Int) (w : World) (h0 : trystlaw03_awake.f k = some true) (h1 : 1 ≤ day) (h2 : day < 3652059)
    (hJ : iso_ISO.f k day = some (y, m, d, 0)) (hJ' : iso_ISO.f k (day + 1) = some (y, m, d + 1, 0)) (hd : -1000 ≤ d ∧ d ≤ 1000) :
    Calls Try.prog 18 #[.int .i64 day] w fun e w' => e = .returned (.bool true) ∧ Below w.heap.size w w' := by
  have H0 := Lib.hid h0; clear h0
  have HJ := Lib.hid hJ; clear hJ
  have HJ' := Lib.hid hJ'; clear hJ'
  obtain ⟨hd1, hd2⟩ := hd
  have b1 : decide (day < 1) = false := decide_eq_false (by omega)
  have b2 : decide (3652059 ≤ day) = false := decide_eq_false (by omega)
  go_enter Try.func18, Try.ntmps18
  go_wp2_with (go_at_call 21; refine (trystlaw03_awake.calls k true _ H0.out).mono ?_; rintro e wA ⟨rfl, hA⟩)
  refine (iso_ISO.calls k day y m d 0 _ HJ.out).mono ?_
  rintro e w1 ⟨rfl, hB1⟩
  go_wp2_with fail
  refine (iso_ISO.calls k (day + 1) y m (d + 1) 0 _ HJ'.out).mono ?_
  rintro e w2 ⟨rfl, hB2⟩
  have hW1 : Below w.heap.size w w1 := below_then hA hA.size hB1
  have hW2 : Below w.heap.size w w2 := below_then (below_alloc hW1 _) (below_alloc hW1 _).size hB2
  have HW2 := Lib.hid hW2; clear hW2 hW1
  obtain ⟨hc2, hf2⟩ := bcell hB2
  have hz2 : w1.heap.size < w2.heap.size := by have := hB2.size; simp at this; omega
  have g0 : w2.cell? ⟨w1.heap.size, 0, none⟩ = some (.int .i64 y) := by rw [hc2 _ _ (by simp)]; go_simp
  have g1 : w2.cell? ⟨w1.heap.size, 1, none⟩ = some (.int .i64 m) := by rw [hc2 _ _ (by simp)]; go_simp
  have g2 : w2.cell? ⟨w1.heap.size, 2, none⟩ = some (.int .i64 d) := by rw [hc2 _ _ (by simp)]; go_simp
  clear hc2 hf2
  have hne : ¬ w1.heap.size = w2.heap.size := by omega
  go_wp2_with fail
  have e1 : IntKind.i64.wrap (d + 1) = d + 1 := IntWalk.i64_in _ (by omega)
  go_quiet (fail)
  go_wp2
  go_ret
  exact ⟨rfl, by repeat (first | exact below_alloc HW2.out _ | apply pw_below_drewN)⟩
set_option maxHeartbeats 4000000 in
set_option maxRecDepth 100000 in
theorem walk_year (k : Nat) (day y m d y' m' : Int) (w : World) (h0 : trystlaw03_awake.f k = some true) (h1 : 1 ≤ day) (h2 : day < 3652059)
    (hJ : iso_ISO.f k day = some (y, m, d, 0)) (hJ' : iso_ISO.f k (day + 1) = some (y', m', 1, 0)) (hd : -1000 ≤ d ∧ d ≤ 1000) (hl : trystref01_Length.f k 2 y m = some d) (hn : ¬ y = y') :
    Calls Try.prog 18 #[.int .i64 day] w fun e w' => e = .returned (.bool true) ∧ Below w.heap.size w w' := by
  have H0 := Lib.hid h0; clear h0
  have HJ := Lib.hid hJ; clear hJ
  have HJ' := Lib.hid hJ'; clear hJ'
  obtain ⟨hd1, hd2⟩ := hd
  have HL := Lib.hid hl; clear hl
  have n1 : (y == y') = false := beq_eq_false_iff_ne.2 hn
  have b1 : decide (day < 1) = false := decide_eq_false (by omega)
  have b2 : decide (3652059 ≤ day) = false := decide_eq_false (by omega)
  go_enter Try.func18, Try.ntmps18
  go_wp2_with (go_at_call 21; refine (trystlaw03_awake.calls k true _ H0.out).mono ?_; rintro e wA ⟨rfl, hA⟩)
  refine (iso_ISO.calls k day y m d 0 _ HJ.out).mono ?_
  rintro e w1 ⟨rfl, hB1⟩
  go_wp2_with fail
  refine (iso_ISO.calls k (day + 1) y' m' 1 0 _ HJ'.out).mono ?_
  rintro e w2 ⟨rfl, hB2⟩
  have hW1 : Below w.heap.size w w1 := below_then hA hA.size hB1
  have hW2 : Below w.heap.size w w2 := below_then (below_alloc hW1 _) (below_alloc hW1 _).size hB2
  have HW2 := Lib.hid hW2; clear hW2 hW1
  obtain ⟨hc2, hf2⟩ := bcell hB2
  have hz2 : w1.heap.size < w2.heap.size := by have := hB2.size; simp at this; omega
  have g0 : w2.cell? ⟨w1.heap.size, 0, none⟩ = some (.int .i64 y) := by rw [hc2 _ _ (by simp)]; go_simp
  have g1 : w2.cell? ⟨w1.heap.size, 1, none⟩ = some (.int .i64 m) := by rw [hc2 _ _ (by simp)]; go_simp
  have g2 : w2.cell? ⟨w1.heap.size, 2, none⟩ = some (.int .i64 d) := by rw [hc2 _ _ (by simp)]; go_simp
  clear hc2 hf2
  have hne : ¬ w1.heap.size = w2.heap.size := by omega
  go_wp2_with fail
  have e1 : IntKind.i64.wrap (d + 1) = d + 1 := IntWalk.i64_in _ (by omega)
  go_quiet ((go_at_call 30; exact quiet_len k 2 y m d HL.out _))
  go_wp2
  go_ret
  exact ⟨rfl, by repeat (first | exact below_alloc HW2.out _ | apply pw_below_drewN)⟩
set_option maxHeartbeats 4000000 in
set_option maxRecDepth 100000 in
theorem walk_month (k : Nat) (day y m d m' : Int) (w : World) (h0 : trystlaw03_awake.f k = some true) (h1 : 1 ≤ day) (h2 : day < 3652059)
    (hJ : iso_ISO.f k day = some (y, m, d, 0)) (hJ' : iso_ISO.f k (day + 1) = some (y, m', 1, 0)) (hd : -1000 ≤ d ∧ d ≤ 1000) (hl : trystref01_Length.f k 2 y m = some d) (hn : ¬ m = m') :
    Calls Try.prog 18 #[.int .i64 day] w fun e w' => e = .returned (.bool true) ∧ Below w.heap.size w w' := by
  have H0 := Lib.hid h0; clear h0
  have HJ := Lib.hid hJ; clear hJ
  have HJ' := Lib.hid hJ'; clear hJ'
  obtain ⟨hd1, hd2⟩ := hd
  have HL := Lib.hid hl; clear hl
  have n1 : (m == m') = false := beq_eq_false_iff_ne.2 hn
  have b1 : decide (day < 1) = false := decide_eq_false (by omega)
  have b2 : decide (3652059 ≤ day) = false := decide_eq_false (by omega)
  go_enter Try.func18, Try.ntmps18
  go_wp2_with (go_at_call 21; refine (trystlaw03_awake.calls k true _ H0.out).mono ?_; rintro e wA ⟨rfl, hA⟩)
  refine (iso_ISO.calls k day y m d 0 _ HJ.out).mono ?_
  rintro e w1 ⟨rfl, hB1⟩
  go_wp2_with fail
  refine (iso_ISO.calls k (day + 1) y m' 1 0 _ HJ'.out).mono ?_
  rintro e w2 ⟨rfl, hB2⟩
  have hW1 : Below w.heap.size w w1 := below_then hA hA.size hB1
  have hW2 : Below w.heap.size w w2 := below_then (below_alloc hW1 _) (below_alloc hW1 _).size hB2
  have HW2 := Lib.hid hW2; clear hW2 hW1
  obtain ⟨hc2, hf2⟩ := bcell hB2
  have hz2 : w1.heap.size < w2.heap.size := by have := hB2.size; simp at this; omega
  have g0 : w2.cell? ⟨w1.heap.size, 0, none⟩ = some (.int .i64 y) := by rw [hc2 _ _ (by simp)]; go_simp
  have g1 : w2.cell? ⟨w1.heap.size, 1, none⟩ = some (.int .i64 m) := by rw [hc2 _ _ (by simp)]; go_simp
  have g2 : w2.cell? ⟨w1.heap.size, 2, none⟩ = some (.int .i64 d) := by rw [hc2 _ _ (by simp)]; go_simp
  clear hc2 hf2
  have hne : ¬ w1.heap.size = w2.heap.size := by omega
  go_wp2_with fail
  have e1 : IntKind.i64.wrap (d + 1) = d + 1 := IntWalk.i64_in _ (by omega)
  go_quiet ((go_at_call 30; exact quiet_len k 2 y m d HL.out _))
  go_wp2
  go_ret
  exact ⟨rfl, by repeat (first | exact below_alloc HW2.out _ | apply pw_below_drewN)⟩
set_option maxHeartbeats 4000000 in
set_option maxRecDepth 100000 in
theorem walk_early (k : Nat) (day : Int) (w : World) (h0 : trystlaw03_awake.f k = some true) (h1 : day < 1 ∨ 3652059 ≤ day) :
    Calls Try.prog 18 #[.int .i64 day] w fun e w' => e = .returned (.bool true) ∧ Below w.heap.size w w' := by
  have H0 := Lib.hid h0; clear h0
  have h3 : decide (day < 1) = true ∨ (decide (day < 1) = false ∧ decide (3652059 ≤ day) = true) := by
    by_cases c : day < 1
    · exact Or.inl (decide_eq_true c)
    · exact Or.inr ⟨decide_eq_false c, decide_eq_true (by omega)⟩
  clear h1
  rcases h3 with b1 | ⟨b1, b2⟩
  all_goals
    go_enter Try.func18, Try.ntmps18
    go_wp2_with fail
    refine (trystlaw03_awake.calls k true _ H0.out).mono ?_
    rintro e wA ⟨rfl, hA⟩
    go_wp2_with fail
    refine (trystlaw03_awake.calls k true _ H0.out).mono ?_
    rintro e wB ⟨rfl, hB⟩
    go_wp2
    go_ret
    exact ⟨rfl, below_then hA hA.size hB⟩
end IsoNextW
/-- The date of a day and of the next one. -/
theorem IsoNext_step (day : Int) (h1 : 1 ≤ day) (h2 : day < 3652059) :
    (∃ y m d, (-1000 ≤ d ∧ d ≤ 1000) ∧ iso_ISO.f 200 day = some (y, m, d, 0) ∧ iso_ISO.f 200 (day + 1) = some (y, m, d + 1, 0)) ∨
    (∃ y m d y' m', (-1000 ≤ d ∧ d ≤ 1000) ∧ iso_ISO.f 200 day = some (y, m, d, 0) ∧ iso_ISO.f 200 (day + 1) = some (y', m', 1, 0) ∧ trystref01_Length.f 200 2 y m = some d ∧ ¬ y = y') ∨
    (∃ y m d m', (-1000 ≤ d ∧ d ≤ 1000) ∧ iso_ISO.f 200 day = some (y, m, d, 0) ∧ iso_ISO.f 200 (day + 1) = some (y, m', 1, 0) ∧ trystref01_Length.f 200 2 y m = some d ∧ ¬ m = m') := by
  obtain ⟨y, hy, hy', a1, a2, e⟩ := iISO_yes 200 (by omega) day ⟨h1, by omega⟩
  obtain ⟨y', _, _, b1, b2, e'⟩ := iISO_yes 200 (by omega) (day + 1) ⟨by omega, by omega⟩
  obtain ⟨n, hn, hw⟩ := wks y 1
  have hM : mths 2 y = n := by simp [mths]; omega
  have hl : ∀ m, 1 ≤ m → m ≤ n → trystref01_Length.f 200 2 y m = some 7 := by
    intro m m1 m2
    rw [fLength 200 (by omega) 2 y m (Or.inr (Or.inr (Or.inl rfl))) (by omega) (by omega)]
    unfold len
    rw [if_neg (by omega), if_neg (by omega), hM, if_neg (by omega), if_pos rfl]
  by_cases c : day + 1 < wk (y + 1) 1
  · have hy2 : y' = y := wk_one b1 b2 (by omega) c
    subst hy2
    by_cases l : (day - wk y' 1) % 7 = 6
    · refine Or.inr (Or.inr ⟨y', (day - wk y' 1) / 7 + 1, 7, (day + 1 - wk y' 1) / 7 + 1, ⟨by omega, by omega⟩, ?_, ?_, hl _ (by omega) (by omega), by omega⟩)
      · rw [e, show (day - wk y' 1) % 7 + 1 = 7 by omega]
      · rw [e', show (day + 1 - wk y' 1) % 7 + 1 = 1 by omega]
    · refine Or.inl ⟨y', (day - wk y' 1) / 7 + 1, (day - wk y' 1) % 7 + 1, ⟨by omega, by omega⟩, e, ?_⟩
      rw [e', show (day + 1 - wk y' 1) / 7 + 1 = (day - wk y' 1) / 7 + 1 by omega, show (day + 1 - wk y' 1) % 7 + 1 = (day - wk y' 1) % 7 + 1 + 1 by omega]
  · have hs := wk_le 1 (show y + 1 ≤ y + 1 + 1 by omega)
    have hy2 : y' = y + 1 := wk_one b1 b2 (by omega) (by omega)
    subst hy2
    refine Or.inr (Or.inl ⟨y, (day - wk y 1) / 7 + 1, 7, y + 1, (day + 1 - wk (y + 1) 1) / 7 + 1, ⟨by omega, by omega⟩, ?_, ?_, hl _ (by omega) (by omega), by omega⟩)
    · rw [e, show (day - wk y 1) % 7 + 1 = 7 by omega]
    · rw [e', show (day + 1 - wk (y + 1) 1) % 7 + 1 = 1 by omega]

theorem IsoNext_calls (day : Int) (w : World) (_ : (Lit.int .i64 day).wf = true) :
    Calls Try.prog 18 #[.int .i64 day] w fun e w' => e = .returned (.bool true) ∧ Below w.heap.size w w' := by
  by_cases c : 1 ≤ day ∧ day < 3652059
  · rcases IsoNext_step day c.1 c.2 with ⟨y, m, d, hd, h, h'⟩ | ⟨y, m, d, y', m', hd, h, h', hl, hn⟩ | ⟨y, m, d, m', hd, h, h', hl, hn⟩
    · exact IsoNextW.walk_same 200 day y m d w (awake3 200 (by omega)) c.1 c.2 h h' hd
    · exact IsoNextW.walk_year 200 day y m d y' m' w (awake3 200 (by omega)) c.1 c.2 h h' hd hl hn
    · exact IsoNextW.walk_month 200 day y m d m' w (awake3 200 (by omega)) c.1 c.2 h h' hd hl hn
  · exact IsoNextW.walk_early 200 day w (awake3 200 (by omega)) (by omega)
end Go.Proofs.Ytabopabcehcdaaa.Pure
