/- Texts of this claim, merged: MatG. -/
import Derived.Test.YtfdcldjoncednaaMgMatchMany5
import Derived.Test.YtfdcldjoncednaaMgMatchMany14
import Derived.BigQuiet
import Derived.Deep.QuietTactic
/- match.asked and match.Fits. -/
namespace Go.Proofs.Ytfdcldjoncednaa.MatG
open Go.RowKit Go.Proofs.YtfdcldjoncednaaW.PrintWords Go.Proofs.YtfdcldjoncednaaW.PrintLast Go.Proofs.YtfdcldjoncednaaW.PrintMore Go.Proofs.Ytfdcldjoncednaa.M Go.Proofs.Ytfdcldjoncednaa.Ru Go.Proofs.Ytfdcldjoncednaa.MatD Go.Proofs.Ytfdcldjoncednaa.MatP Go.Proofs.Ytfdcldjoncednaa.MatF
set_option linter.unusedVariables false
set_option linter.unusedSimpArgs false
/-- Is it a day? -/
def isDay (d : Int) : Bool := decide (1 ≤ d) && decide (d ≤ 3652059)
theorem of_ (d : Int) : rata_Of.f d = some (isDay d) := by
 unfold rata_Of.f isDay
 by_cases a : d ≥ 1
 ·rw [if_pos a, show decide (1 ≤ d) = true from decide_eq_true a]; rfl
 ·rw [if_neg a, show decide (1 ≤ d) = false from decide_eq_false a]; rfl
/-- The rule is formed, by the program, or not (fb). -/
def FormOk (k : Nat) (r : Ru) (fb : Bool) : Prop := ∃ rt, 50 ≤ k ∧ value_RightTime.f r.a3 r.a4 r.a5 = some rt ∧ fb = RecG.frmB r rt
theorem formed (k : Nat) (r : Ru) (p : Rp) (fb : Bool) (w : World) (ok : Ok r p w) (h : FormOk k r fb) :
  Calls Try.prog 39 #[.agg (agg r p)] w fun e w' => e = .returned (.bool fb) ∧ Below w.heap.size w w' := by
 obtain ⟨rt, hk, hr, rfl⟩ := h
 exact RecG.formed r p k hk rt hr w ok
/-- What is wrong with what is asked. -/
def askF (fb : Bool) (l : List Int) : Int := if fb = true then (if l.all isDay = true then 0 else 2) else 10
theorem ask_all {l : List Int} (h : ∀ j : Nat, j < l.length → isDay (rd l (j : Int)) = true) : askF true l = 0 := by
 unfold askF
 rw [if_pos rfl, if_pos]
 rw [List.all_eq_true]
 intro x hx
 obtain ⟨j, hj, rfl⟩ := List.mem_iff_getElem.1 hx
 have := h j hj
 simpa [rd, hj] using this
theorem ask_not {l : List Int} {j : Nat} (hj : j < l.length) (h : isDay (rd l (j : Int)) = false) : askF true l = 2 := by
 unfold askF
 rw [if_pos rfl, if_neg]
 intro q
 rw [List.all_eq_true] at q
 have := q l[j] (List.getElem_mem hj)
 rw [show rd l (j : Int) = l[j] by simp [rd, hj]] at h
 rw [h] at this; cases this
set_option maxHeartbeats 4000000 in
set_option maxRecDepth 100000 in
theorem asked (k : Nat) (r : Ru) (p : Rp) (fb : Bool) (A : Option Addr) (c : Nat) (l : List Int) (w : World) (ok : Ok r p w) (hf : FormOk k r fb) (hC : Kd.C (Kd.int .i64) w A l.length l) :
  Calls Try.prog 19 #[.agg (agg r p), .slice A l.length c] w fun e w' => e = .returned (.int .i64 (askF fb l)) ∧ Below w.heap.size w w' := by
 have OK := Aside0.mk ok; have HF := Aside0.mk hf; have HC := Aside0.mk hC; have HL := Aside0.mk hC.2.1; clear ok hf hC
 have HK := Aside0.mk (blk_new w (obj r p))
 have HB := Aside0.mk (below_alloc (Below.refl w.heap.size w) (obj r p))
 go_enter Try.func19, Try.ntmps19
 go_upto_region 1 with fail
 generalize w.alloc (obj r p) = w0 at HK HB ⊢
 go_wp2_with ((with_reducible refine gate_ (.load 27 (.tmp 2)) rfl ?_); refine Kd.event_run rfl (xR (.tmp 2) (w.heap.size) r p rfl rfl _ HK.out) ?_)
 refine (formed k r p fb w0 (OK.out.below HB.out) HF.out).mono ?_
 rintro e w1 ⟨rfl, hb⟩
 replace HB := Aside0.mk (below_then HB.out HB.out.size hb)
 clear hb HK
 cases fb with
 | false =>
  go_wp2_with fail
  go_ret
  exact ⟨rfl, HB.out⟩
 | true =>
  go_wp2_with fail
  go_loopg [12] l.length (fun kq v w' => ∃ (i : Nat) (z : Int), v = .int .i64 z ∧ Aside0 (z = (i : Int)) ∧ Aside0 (i + kq = l.length) ∧ Aside0 (∀ j : Nat, j < i → isDay (rd l (j : Int)) = true) ∧ Aside0 (Below w.heap.size w w'))
  case atStart => exact ⟨0, 0, rfl, ⟨rfl⟩, ⟨by omega⟩, ⟨fun j hj => by omega⟩, HB⟩
  case round =>
   clear HB
   obtain ⟨i, z, rfl, HX, HI, HU, HB⟩ := hrel
   cases gk with
   | zero =>
    have l1 : decide (z < (l.length : Int)) = false := decide_eq_false (by have := HX.out; have := HI.out; omega)
    go_wp2_with fail
    go_ret
    exact ⟨by rw [ask_all (fun j hj => HU.out j (by have := HI.out; omega))] <;> rfl, HB.out⟩
   | succ k1 =>
    have l1 : decide (z < (l.length : Int)) = true := decide_eq_true (by have := HX.out; have := HI.out; omega)
    have p1 : (0 ≤ z) = True := eq_true (by have := HX.out; omega)
    have q1 : (z < (l.length : Int)) = True := eq_true (by have := HX.out; have := HI.out; omega)
    obtain ⟨ab, eA, hx⟩ := Kd.at_int HC.out z (by have := HX.out; omega) (by have := HX.out; have := HI.out; omega)
    have hxw := pw_cell_below HB.out hx
    clear hx
    subst eA
    go_wp2_with fail
    refine (rata_Of.calls (rd l z) _ _ (of_ (rd l z))).mono ?_
    rintro e w2 ⟨rfl, ⟨nd, rfl⟩⟩
    have B2 := Aside0.mk (pw_below_drewN HB.out nd)
    clear HB hxw
    generalize wr.drewN nd = w2 at B2 ⊢
    cases m : isDay (rd l z) with
    | false =>
     have HM := Aside0.mk m
     clear m
     go_wp2_with fail
     go_ret
     exact ⟨by rw [ask_not (j := i) (by have := HI.out; omega) (by rw [← HX.out]; exact HM.out)] <;> rfl, B2.out⟩
    | true =>
     have HM := Aside0.mk m
     clear m
     go_wp2_with fail
     go_roundg k1
     case measure => omega
     case rel => exact ⟨i + 1, _, rfl, ⟨by have := HX.out; have := HL.out; have := HI.out; unfold wrap64; omega⟩, ⟨by have := HI.out; omega⟩, ⟨fun j hj => by
      by_cases e : j = i
      ·subst e; rw [← HX.out]; exact HM.out
      ·exact HU.out j (by omega)⟩, B2⟩
/-! ### match.Fits -/
theorem pair_C {w : World} {g : Nat} {x y : Int} {t : TypeId} (h : w.heap[g]? = some (.cells #[.int .i64 x, .int .i64 y] t (0, 0))) : Kd.C (Kd.int .i64) w (some ⟨g, 0, none⟩) [x, y].length [x, y] := by
 refine Kd.C_of_reads (enc := Value.int .i64) (d := (0 : Int)) (h1 := fun _ => rfl) ⟨rfl, by simp, fun _ => ⟨_, rfl, fun j hj => ?_⟩⟩
 have hj' : j < 2 := hj
 match j, hj' with
 | 0, _ => exact (blk_cell h 0).trans rfl
 | 1, _ => exact (blk_cell h 1).trans rfl
/-- What a day is, and what the rule asks of it. -/
def FitsOk (k : Nat) (r : Ru) (b x : Fa) (v : Bool) : Prop := ∃ (w1 w2 y n e1 t e2 : Int) (hm b14 b13 b12 : Bool), 1 ≤ r.a1 ∧ match_weekBegin.f x.day r.a7 = some w1 ∧ match_weekBegin.f b.day r.a7 = some w2 ∧ slices_Contains_int_int.f k r.l15 x.m = some hm ∧ iso_Week.f k x.day r.a7 = some (y, n, e1) ∧ (y = x.y → iso_Weeks.f k y r.a7 = some (t, e2)) ∧ match_place_in.f k n t r.l14 = some b14 ∧
 match_place_in.f k x.yn x.yo r.l13 = some b13 ∧ match_place_in.f k x.mn x.mo r.l12 = some b12 ∧ (1 ≤ x.mn ∧ x.mn ≤ x.mo ∧ x.mo ≤ 400) ∧ (1 ≤ x.yn ∧ x.yn ≤ x.yo ∧ x.yo ≤ 400) ∧ (r.l13.length ≤ 40 ∧ r.l12.length ≤ 40 ∧ r.l11.length ≤ 40) ∧ v = fitsF r (perF r b x w1 w2) hm (inWeekF x y b14) b13 b12 (onDayF r x) (usualF r b x)
theorem fitsX (k : Nat) (r : Ru) (p : Rp) (b x : Fa) (v : Bool) (w : World) (ok : Ok r p w) (h : FitsOk k r b x v) :
  Calls Try.prog 20 #[.agg (agg r p), .agg (fa b), .agg (fa x)] w fun e w' => e = .returned (.bool v) ∧ Below w.heap.size w w' := by
 obtain ⟨w1, w2, y, n, e1, t, e2, hm, b14, b13, b12, hi, h1, h2, h3, h4, h5, h6, h7, h8, ⟨q1, q2, q3⟩, ⟨q4, q5, q6⟩, ⟨h13, h12, h11⟩, rfl⟩ := h
 exact fits k r p b x w1 w2 y n e1 t e2 hm b14 b13 b12 w ok hi h1 h2 h3 h4 h5 h6 h7 h8 q1 q2 q3 q4 q5 q6 h13 h12 h11
abbrev dayOf (k : Nat) (d : Int) (x : Fa) : Prop := match_of.f k d = some (x.day, x.y, x.m, x.d, x.wd, x.mn, x.mo, x.yn, x.yo)
theorem of_calls (k : Nat) (d : Int) (x : Fa) (w : World) (h : dayOf k d x) : Calls Try.prog 21 #[.int .i64 d] w fun e w' => e = .returned (.agg (fa x)) ∧ Below w.heap.size w w' := match_of.calls k d _ _ _ _ _ _ _ _ _ w h
def T4 : Bool × List (List Nat × List Nat) := (true, [([], []), ([], []), ([1], [1]), ([], []), ([3, 2], [3]), ([0, 2, 4, 4], [0, 2, 4]), ([5, 5, 0, 1, 2, 3, 4, 5], [5]), ([6, 0, 1, 2, 3, 4, 5, 6], [])])
def B4 : List Nat := [0, 0, 2, 0, 14, 31, 63, 127]
theorem tab4 : rtab .any (opsOf Try.f9 4) = T4 := by kernel_rfl
theorem bits4 : waitsOk T4.2 B4 = true := by kernel_rfl

set_option maxHeartbeats 4000000 in
set_option maxRecDepth 100000 in
theorem fitsNo (k : Nat) (r : Ru) (p : Rp) (fb : Bool) (b d e : Int) (w : World) (ok : Ok r p w) (hf : FormOk k r fb) (he : askF fb [b, d] = e) (ne : e ≠ 0) :
  Calls Try.prog 9 #[.agg (agg r p), .int .i64 b, .int .i64 d] w fun q w' => q = .returned (.tuple #[.bool false, .int .i64 e]) ∧ Below w.heap.size w w' := by
 have OK := Aside0.mk ok; have HF := Aside0.mk hf; have HE := Aside0.mk he; clear ok hf he
 have n1 : (e != 0) = true := bne_iff_ne.2 ne; have n2 : (e == 0) = false := beq_eq_false_iff_ne.2 ne; clear ne
 have HK := Aside0.mk (blk_new w (obj r p))
 have HB := Aside0.mk (below_alloc (Below.refl w.heap.size w) (obj r p))
 go_enter Try.func9, Try.ntmps9
 go_upto_region 1 with fail
 generalize w.alloc (obj r p) = w0 at HK HB ⊢
 go_wp2_with ((with_reducible refine gate_ (.load 27 (.tmp 3)) rfl ?_); refine Kd.event_run rfl (xR (.tmp 3) (w.heap.size) r p rfl rfl _ HK.out) ?_)
 have HA := Aside0.mk (blk_new w0 (.cells #[.int .i64 b, .int .i64 d] 3 (0, 0)))
 replace HK := Aside0.mk (blk_below HK.out (below_alloc (Below.refl _ _) (.cells #[.int .i64 b, .int .i64 d] 3 (0, 0))))
 replace HB := Aside0.mk (below_alloc HB.out (.cells #[.int .i64 b, .int .i64 d] 3 (0, 0)))
 generalize w0.alloc (.cells #[.int .i64 b, .int .i64 d] 3 (0, 0)) = w1 at HA HK HB ⊢
 refine (asked k r p fb _ 2 [b, d] w1 (OK.out.below HB.out) HF.out (pair_C HA.out)).mono ?_
 rintro q w2 ⟨rfl, hb⟩
 rw [HE.out]
 replace HK := Aside0.mk (blk_below HK.out hb)
 replace HB := Aside0.mk (below_then HB.out HB.out.size hb)
 clear hb HA
 go_wp2_with fail
 go_ret2
 exact ⟨rfl, HB.out⟩
set_option maxHeartbeats 4000000 in
set_option maxRecDepth 100000 in
theorem fitsYes (k : Nat) (r : Ru) (p : Rp) (fb : Bool) (b d : Int) (x y : Fa) (v : Bool) (w : World) (ok : Ok r p w) (hf : FormOk k r fb) (he : askF fb [b, d] = 0) (h1 : dayOf k b x) (h2 : dayOf k d y) (hv : FitsOk k r x y v) :
  Calls Try.prog 9 #[.agg (agg r p), .int .i64 b, .int .i64 d] w fun q w' => q = .returned (.tuple #[.bool v, .int .i64 0]) ∧ Below w.heap.size w w' := by
 have OK := Aside0.mk ok; have HF := Aside0.mk hf; have HE := Aside0.mk he; clear ok hf he
 have H1 := Aside0.mk h1; have H2 := Aside0.mk h2; have HV := Aside0.mk hv; clear h1 h2 hv
 have HK := Aside0.mk (blk_new w (obj r p))
 have HB := Aside0.mk (below_alloc (Below.refl w.heap.size w) (obj r p))
 go_enter Try.func9, Try.ntmps9
 go_upto_region 1 with fail
 generalize w.alloc (obj r p) = w0 at HK HB ⊢
 go_wp2_with ((with_reducible refine gate_ (.load 27 (.tmp 3)) rfl ?_); refine Kd.event_run rfl (xR (.tmp 3) (w.heap.size) r p rfl rfl _ HK.out) ?_)
 have HA := Aside0.mk (blk_new w0 (.cells #[.int .i64 b, .int .i64 d] 3 (0, 0)))
 replace HK := Aside0.mk (blk_below HK.out (below_alloc (Below.refl _ _) (.cells #[.int .i64 b, .int .i64 d] 3 (0, 0))))
 replace HB := Aside0.mk (below_alloc HB.out (.cells #[.int .i64 b, .int .i64 d] 3 (0, 0)))
 generalize w0.alloc (.cells #[.int .i64 b, .int .i64 d] 3 (0, 0)) = w1 at HA HK HB ⊢
 refine (asked k r p fb _ 2 [b, d] w1 (OK.out.below HB.out) HF.out (pair_C HA.out)).mono ?_
 rintro q w2 ⟨rfl, hb⟩
 rw [HE.out]
 replace HK := Aside0.mk (blk_below HK.out hb)
 replace HB := Aside0.mk (below_then HB.out HB.out.size hb)
 clear hb HA
 go_wp2_with fail
 replace HK := Aside0.mk (blk_drew HK.out)
 replace HB := Aside0.mk (below_drew1 HB.out)
 refine start_ (n := 8) (S := fun w' => w'.heap[w.heap.size]? = some (obj r p)) (ds := []) (tt 8 0) (by kernel_rfl) rfl rfl HK.out (fun hHeld => ?_)
 refine with_tabW tab4 bits4 (fun HT_ HW_ => ?_)
 clear HK
 generalize w2.drew = w3 at HB hHeld ⊢
 refine take_ (i := 0) (N := some 17) (v := .agg (agg r p)) (a' := ?_) (tt 8 1) rfl rfl (take_ofW HT_.out HW_.out (by kernel_rfl)) (fun _ _ _ h => h) (Or.inl ⟨by rfl, fun w' hs => xR (.tmp 3) (w.heap.size) r p rfl rfl w' hs⟩) hHeld ?_ ?_
 rotate_left
 ·simp only [Act.put, sA, sB, sC, i64_w, i32_w]
  rfl
 refine pure_ (i := 1) (N := some 18) (v := ?_) (a' := ?_) (tt 8 2) rfl rfl (any_of HT_.out (by kernel_rfl)) (fun _ _ _ h => h) (Or.inl ⟨by rfl, ?_⟩) ?_ ?_
 rotate_left
 ·intro w'
  go_simp
  with_reducible rfl
 rotate_left
 ·simp only [Act.put, sA, sB, sC, i64_w, i32_w]
  rfl
 refine pure_ (i := 3) (N := some 20) (v := ?_) (a' := ?_) #[true, true, false, true, false, false, false, false] rfl rfl (any_of HT_.out (by kernel_rfl)) (fun _ _ _ h => h) (Or.inl ⟨by rfl, ?_⟩) ?_ ?_
 rotate_left
 ·intro w'
  go_simp
  with_reducible rfl
 rotate_left
 ·simp only [Act.put, sA, sB, sC, i64_w, i32_w]
  rfl
 refine one_ (i := 2) (N := some 19) (tt 8 4) rfl rfl (one_of HT_.out (by kernel_rfl)) (by decide) (fun K hK => ?_)
 refine goes_ Try.func21 (by kernel_rfl) rfl #[.int .i64 b] (by rfl) rfl rfl (by (try simp only [List.map_toArray, List.map_cons, List.map_nil]); first | done | rfl) ?_
 refine (of_calls k b x _ H1.out).mono ?_
 rintro q wq0 ⟨rfl, hb⟩
 refine ⟨_, rfl, ?_⟩
 replace HB := Aside0.mk (below_then HB.out HB.out.size hb)
 refine hK.out _ _ (blk_below hHeld hb) (fun hHeld => ?_)
 clear hK K
 refine norm_ (a' := ?_) ?_ ?_
 rotate_left
 ·show Act.put _ (some 19) _ = _
  simp only [Act.put, sA, sB, sC, i64_w, i32_w]
  rfl
 refine one_ (i := 4) (N := some 21) (tt 8 5) rfl rfl (one_of HT_.out (by kernel_rfl)) (by decide) (fun K hK => ?_)
 refine goes_ Try.func21 (by kernel_rfl) rfl #[.int .i64 d] (by rfl) rfl rfl (by (try simp only [List.map_toArray, List.map_cons, List.map_nil]); first | done | rfl) ?_
 refine (of_calls k d y _ H2.out).mono ?_
 rintro q wq1 ⟨rfl, hb⟩
 refine ⟨_, rfl, ?_⟩
 replace HB := Aside0.mk (below_then HB.out HB.out.size hb)
 refine hK.out _ _ (blk_below hHeld hb) (fun hHeld => ?_)
 clear hK K
 refine norm_ (a' := ?_) ?_ ?_
 rotate_left
 ·show Act.put _ (some 21) _ = _
  simp only [Act.put, sA, sB, sC, i64_w, i32_w]
  rfl
 refine one_ (i := 5) (N := some 22) (tt 8 6) rfl rfl (one_of HT_.out (by kernel_rfl)) (by decide) (fun K hK => ?_)
 refine goes_ Try.func20 (by kernel_rfl) rfl #[.agg (agg r p), .agg (fa x), .agg (fa y)] (by rfl) rfl rfl (by (try simp only [List.map_toArray, List.map_cons, List.map_nil]); first | done | rfl) ?_
 refine (fitsX k r p x y v _ (OK.out.below HB.out) HV.out).mono ?_
 rintro q wq2 ⟨rfl, hb⟩
 refine ⟨_, rfl, ?_⟩
 replace HB := Aside0.mk (below_then HB.out HB.out.size hb)
 refine hK.out _ _ (blk_below hHeld hb) (fun hHeld => ?_)
 clear hK K
 refine norm_ (a' := ?_) ?_ ?_
 rotate_left
 ·show Act.put _ (some 22) _ = _
  simp only [Act.put, sA, sB, sC, i64_w, i32_w]
  rfl
 refine pure_ (i := 6) (N := some 6) (v := ?_) (a' := ?_) (tt 8 7) rfl rfl (any_of HT_.out (by kernel_rfl)) (fun _ _ _ h => h) (Or.inl ⟨by rfl, ?_⟩) ?_ ?_
 rotate_left
 ·intro w'
  go_simp
  with_reducible rfl
 rotate_left
 ·simp only [Act.put, sA, sB, sC, i64_w, i32_w]
  rfl
 refine pure_ (i := 7) (N := some 7) (v := ?_) (a' := ?_) (tt 8 8) rfl rfl (any_of HT_.out (by kernel_rfl)) (fun _ _ _ h => h) (Or.inl ⟨by rfl, ?_⟩) ?_ ?_
 rotate_left
 ·intro w'
  go_simp
  with_reducible rfl
 rotate_left
 ·simp only [Act.put, sA, sB, sC, i64_w, i32_w]
  rfl
 refine done_ (done_of HT_.out (by kernel_rfl)) ?_
 clear HT_ HW_
 go_wp2_with fail
 go_ret2
 exact ⟨rfl, HB.out⟩
end Go.Proofs.Ytfdcldjoncednaa.MatG
