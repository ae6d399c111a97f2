/- Texts of this claim, merged: MatG, ExD, ExO, ExT, ExE. -/
import Derived.Test.YtfdcldjoncednaaGreatMgExpandUntil12
import Derived.Test.YtfdcldjoncednaaGreatMgExpandUntil19
import Derived.BigQuiet
import Derived.Deep.QuietTactic
import Derived.Test.YtfdcldjoncednaaGreatMgExpandUntil7
import Derived.Test.YtfdcldjoncednaaGreatMgExpandUntil10
import Derived.Test.YtfdcldjoncednaaGreatMgExpandUntil18
/- match.asked and match.Fits. -/
namespace Go.Proofs.YtfdcldjoncednaaGreat.MatG
open Go.RowKit Go.Proofs.YtfdcldjoncednaaGreatW.PrintWords Go.Proofs.YtfdcldjoncednaaGreatW.PrintLast Go.Proofs.YtfdcldjoncednaaGreatW.PrintMore Go.Proofs.YtfdcldjoncednaaGreat.M Go.Proofs.YtfdcldjoncednaaGreat.Ru Go.Proofs.YtfdcldjoncednaaGreat.MatD Go.Proofs.YtfdcldjoncednaaGreat.MatP Go.Proofs.YtfdcldjoncednaaGreat.MatF
set_option linter.unusedVariables false
set_option linter.unusedSimpArgs false
/-- Is it a day? -/
def isDay (d : Int) : Bool := decide (1 ≤ d) && decide (d ≤ 3652059)
theorem of_ (d : Int) : rata_Of.f d = some (isDay d) := by
 unfold rata_Of.f isDay
 by_cases a : d ≥ 1
 ·rw [if_pos a, show decide (1 ≤ d) = true from decide_eq_true a]; rfl
 ·rw [if_neg a, show decide (1 ≤ d) = false from decide_eq_false a]; rfl
/-- The rule is formed, by the program, or not (fb). -/
def FormOk (k : Nat) (r : Ru) (fb : Bool) : Prop := ∃ rt, 50 ≤ k ∧ value_RightTime.f r.a3 r.a4 r.a5 = some rt ∧ fb = RecG.frmB r rt
theorem formed (k : Nat) (r : Ru) (p : Rp) (fb : Bool) (w : World) (ok : Ok r p w) (h : FormOk k r fb) :
  Calls Tryz.prog 47 #[.agg (agg r p)] w fun e w' => e = .returned (.bool fb) ∧ Below w.heap.size w w' := by
 obtain ⟨rt, hk, hr, rfl⟩ := h
 exact RecG.formed r p k hk rt hr w ok
/-- What is wrong with what is asked. -/
def askF (fb : Bool) (l : List Int) : Int := if fb = true then (if l.all isDay = true then 0 else 2) else 10
theorem ask_all {l : List Int} (h : ∀ j : Nat, j < l.length → isDay (rd l (j : Int)) = true) : askF true l = 0 := by
 unfold askF
 rw [if_pos rfl, if_pos]
 rw [List.all_eq_true]
 intro x hx
 obtain ⟨j, hj, rfl⟩ := List.mem_iff_getElem.1 hx
 have := h j hj
 simpa [rd, hj] using this
theorem ask_not {l : List Int} {j : Nat} (hj : j < l.length) (h : isDay (rd l (j : Int)) = false) : askF true l = 2 := by
 unfold askF
 rw [if_pos rfl, if_neg]
 intro q
 rw [List.all_eq_true] at q
 have := q l[j] (List.getElem_mem hj)
 rw [show rd l (j : Int) = l[j] by simp [rd, hj]] at h
 rw [h] at this; cases this
set_option maxHeartbeats 4000000 in
set_option maxRecDepth 100000 in
theorem asked (k : Nat) (r : Ru) (p : Rp) (fb : Bool) (A : Option Addr) (c : Nat) (l : List Int) (w : World) (ok : Ok r p w) (hf : FormOk k r fb) (hC : Kd.C (Kd.int .i64) w A l.length l) :
  Calls Tryz.prog 25 #[.agg (agg r p), .slice A l.length c] w fun e w' => e = .returned (.int .i64 (askF fb l)) ∧ Below w.heap.size w w' := by
 have OK := Aside0.mk ok; have HF := Aside0.mk hf; have HC := Aside0.mk hC; have HL := Aside0.mk hC.2.1; clear ok hf hC
 have HK := Aside0.mk (blk_new w (obj r p))
 have HB := Aside0.mk (below_alloc (Below.refl w.heap.size w) (obj r p))
 go_enter Tryz.func25, Tryz.ntmps25
 go_upto_region 1 with fail
 generalize w.alloc (obj r p) = w0 at HK HB ⊢
 go_wp2_with ((with_reducible refine gate_ (.load 27 (.tmp 2)) rfl ?_); refine Kd.event_run rfl (xR (.tmp 2) (w.heap.size) r p rfl rfl _ HK.out) ?_)
 refine (formed k r p fb w0 (OK.out.below HB.out) HF.out).mono ?_
 rintro e w1 ⟨rfl, hb⟩
 replace HB := Aside0.mk (below_then HB.out HB.out.size hb)
 clear hb HK
 cases fb with
 | false =>
  go_wp2_with fail
  go_ret
  exact ⟨rfl, HB.out⟩
 | true =>
  go_wp2_with fail
  go_loopg [12] l.length (fun kq v w' => ∃ (i : Nat) (z : Int), v = .int .i64 z ∧ Aside0 (z = (i : Int)) ∧ Aside0 (i + kq = l.length) ∧ Aside0 (∀ j : Nat, j < i → isDay (rd l (j : Int)) = true) ∧ Aside0 (Below w.heap.size w w'))
  case atStart => exact ⟨0, 0, rfl, ⟨rfl⟩, ⟨by omega⟩, ⟨fun j hj => by omega⟩, HB⟩
  case round =>
   clear HB
   obtain ⟨i, z, rfl, HX, HI, HU, HB⟩ := hrel
   cases gk with
   | zero =>
    have l1 : decide (z < (l.length : Int)) = false := decide_eq_false (by have := HX.out; have := HI.out; omega)
    go_wp2_with fail
    go_ret
    exact ⟨by rw [ask_all (fun j hj => HU.out j (by have := HI.out; omega))] <;> rfl, HB.out⟩
   | succ k1 =>
    have l1 : decide (z < (l.length : Int)) = true := decide_eq_true (by have := HX.out; have := HI.out; omega)
    have p1 : (0 ≤ z) = True := eq_true (by have := HX.out; omega)
    have q1 : (z < (l.length : Int)) = True := eq_true (by have := HX.out; have := HI.out; omega)
    obtain ⟨ab, eA, hx⟩ := Kd.at_int HC.out z (by have := HX.out; omega) (by have := HX.out; have := HI.out; omega)
    have hxw := pw_cell_below HB.out hx
    clear hx
    subst eA
    go_wp2_with fail
    refine (rata_Of.calls (rd l z) _ _ (of_ (rd l z))).mono ?_
    rintro e w2 ⟨rfl, ⟨nd, rfl⟩⟩
    have B2 := Aside0.mk (pw_below_drewN HB.out nd)
    clear HB hxw
    generalize wr.drewN nd = w2 at B2 ⊢
    cases m : isDay (rd l z) with
    | false =>
     have HM := Aside0.mk m
     clear m
     go_wp2_with fail
     go_ret
     exact ⟨by rw [ask_not (j := i) (by have := HI.out; omega) (by rw [← HX.out]; exact HM.out)] <;> rfl, B2.out⟩
    | true =>
     have HM := Aside0.mk m
     clear m
     go_wp2_with fail
     go_roundg k1
     case measure => omega
     case rel => exact ⟨i + 1, _, rfl, ⟨by have := HX.out; have := HL.out; have := HI.out; unfold wrap64; omega⟩, ⟨by have := HI.out; omega⟩, ⟨fun j hj => by
      by_cases e : j = i
      ·subst e; rw [← HX.out]; exact HM.out
      ·exact HU.out j (by omega)⟩, B2⟩
/-! ### match.Fits -/
/-- What a day is, and what the rule asks of it. -/
def FitsOk (k : Nat) (r : Ru) (b x : Fa) (v : Bool) : Prop := ∃ (w1 w2 y n e1 t e2 : Int) (hm b14 b13 b12 : Bool), 1 ≤ r.a1 ∧ match_weekBegin.f x.day r.a7 = some w1 ∧ match_weekBegin.f b.day r.a7 = some w2 ∧ slices_Contains_int_int.f k r.l15 x.m = some hm ∧ iso_Week.f k x.day r.a7 = some (y, n, e1) ∧ (y = x.y → iso_Weeks.f k y r.a7 = some (t, e2)) ∧ match_place_in.f k n t r.l14 = some b14 ∧
 match_place_in.f k x.yn x.yo r.l13 = some b13 ∧ match_place_in.f k x.mn x.mo r.l12 = some b12 ∧ (1 ≤ x.mn ∧ x.mn ≤ x.mo ∧ x.mo ≤ 400) ∧ (1 ≤ x.yn ∧ x.yn ≤ x.yo ∧ x.yo ≤ 400) ∧ (r.l13.length ≤ 40 ∧ r.l12.length ≤ 40 ∧ r.l11.length ≤ 40) ∧ v = fitsF r (perF r b x w1 w2) hm (inWeekF x y b14) b13 b12 (onDayF r x) (usualF r b x)
theorem fitsX (k : Nat) (r : Ru) (p : Rp) (b x : Fa) (v : Bool) (w : World) (ok : Ok r p w) (h : FitsOk k r b x v) :
  Calls Tryz.prog 46 #[.agg (agg r p), .agg (fa b), .agg (fa x)] w fun e w' => e = .returned (.bool v) ∧ Below w.heap.size w w' := by
 obtain ⟨w1, w2, y, n, e1, t, e2, hm, b14, b13, b12, hi, h1, h2, h3, h4, h5, h6, h7, h8, ⟨q1, q2, q3⟩, ⟨q4, q5, q6⟩, ⟨h13, h12, h11⟩, rfl⟩ := h
 exact fits k r p b x w1 w2 y n e1 t e2 hm b14 b13 b12 w ok hi h1 h2 h3 h4 h5 h6 h7 h8 q1 q2 q3 q4 q5 q6 h13 h12 h11
abbrev dayOf (k : Nat) (d : Int) (x : Fa) : Prop := match_of.f k d = some (x.day, x.y, x.m, x.d, x.wd, x.mn, x.mo, x.yn, x.yo)
theorem of_calls (k : Nat) (d : Int) (x : Fa) (w : World) (h : dayOf k d x) : Calls Tryz.prog 27 #[.int .i64 d] w fun e w' => e = .returned (.agg (fa x)) ∧ Below w.heap.size w w' := match_of.calls k d _ _ _ _ _ _ _ _ _ w h
end Go.Proofs.YtfdcldjoncednaaGreat.MatG
/- match.Days. (Written by gen_days.py.) -/
namespace Go.Proofs.YtfdcldjoncednaaGreat.ExD
open Go.RowKit Go.Proofs.YtfdcldjoncednaaGreatW.PrintWords Go.Proofs.YtfdcldjoncednaaGreatW.PrintLast Go.Proofs.YtfdcldjoncednaaGreatW.PrintMore Go.Proofs.YtfdcldjoncednaaGreat.M Go.Proofs.YtfdcldjoncednaaGreat.Ru Go.Proofs.YtfdcldjoncednaaGreat.MatD Go.Proofs.YtfdcldjoncednaaGreat.MatP Go.Proofs.YtfdcldjoncednaaGreat.MatG
set_option linter.unusedVariables false
set_option linter.unusedSimpArgs false
def Td6 : Bool × List (List Nat × List Nat) := (true, [([], []), ([], []), ([], []), ([2], [2]), ([0, 1, 3, 3], [0, 1, 3])])
def Bd6 : List Nat := [0, 0, 0, 4, 15]
theorem tabd6 : rtab .any (opsOf Tryz.f76 6) = Td6 := by kernel_rfl
theorem bitsd6 : waitsOk Td6.2 Bd6 = true := by kernel_rfl
/-- A slice of whole numbers that came out of a call: it lies in the world w', in a block from n0 on. -/
def Out (n0 : Nat) (w' : World) (l : List Int) (q : Ending) : Prop := ∃ A c, q = .returned (.slice A l.length c) ∧ Kd.C (Kd.int .i64) w' A l.length l ∧ l.length ≤ c ∧ ∀ ad, A = some ad → n0 ≤ ad.block
theorem out_of {e base n0 : Nat} {ok : Nat → Prop} {w' : World} {v : Value} {l : List Int} (h : (Kd.int .i64).R e w' base ok v l) (hb : n0 ≤ base) : Out n0 w' l (.returned v) := by
 obtain ⟨A, c, rfl, hl, hc⟩ := Kd.R_reads h
 refine ⟨A, c, rfl, hc, hl, fun ad e => ?_⟩
 subst e
 exact Nat.le_trans hb (Kd.R_base h _ rfl)
set_option maxHeartbeats 4000000 in
set_option maxRecDepth 100000 in
theorem days (k : Nat) (r : Ru) (p : Rp) (b f l : Int) (B : Fa) (N : Nat) (G : Nat → List Int) (fit : Int → Bool) (w : World) (ok : Ok r p w) (hB_ : dayOf k b B) (hfit : ∀ x, f ≤ x → x ≤ l → ∃ X, dayOf k x X ∧ FitsOk k r B X (fit x)) (hN : (N : Int) = l + 1 - f ∨ (N = 0 ∧ l < f)) (f0 : -1000000000 ≤ f) (l1 : l ≤ 1000000000)
  (h0 : G 0 = []) (h1 : ∀ i : Nat, G (i + 1) = if fit (f + i) = true then G i ++ [f + i] else G i) (hG : ∀ i, (G i).length ≤ i) (hNb : N ≤ 1000000000) :
  Calls Tryz.prog 76 #[.agg (agg r p), .int .i64 b, .int .i64 f, .int .i64 l] w fun q w' => Out w.heap.size w' (G N) q ∧ Below w.heap.size w w' := by
 have OK := Aside0.mk ok; have H1 := Aside0.mk hB_; have HFIT := Aside0.mk hfit; have NB := Aside0.mk hN; have G0 := Aside0.mk h0; have G1 := Aside0.mk h1; have GL := Aside0.mk hG; have FL := Aside0.mk (And.intro f0 (And.intro l1 hNb)); clear ok hB_ hfit hN h0 h1 hG f0 l1 hNb
 have HK := Aside0.mk (blk_new w (obj r p))
 have HB := Aside0.mk (below_alloc (Below.refl w.heap.size w) (obj r p))
 go_enter Tryz.func76, Tryz.ntmps76
 go_upto_region 1 with fail
 generalize w.alloc (obj r p) = w0 at HK HB ⊢
 go_wp2_with fail
 refine (of_calls k b B _ H1.out).mono ?_
 rintro q wa ⟨rfl, hb⟩
 replace HK := Aside0.mk (blk_below HK.out hb)
 replace HB := Aside0.mk (below_then HB.out HB.out.size hb)
 clear hb
 go_upto_region 3 with fail
 have HF := Aside0.mk (blk_new wa (fobj B))
 replace HK := Aside0.mk (blk_below HK.out (below_alloc (Below.refl _ _) (fobj B)))
 replace HB := Aside0.mk (below_alloc HB.out (fobj B))
 simp only [fobj] at HF HK HB
 generalize wa.alloc (.cells #[.int .i64 B.day, .int .i64 B.y, .int .i64 B.m, .int .i64 B.d, .int .i64 B.wd, .int .i64 B.mn, .int .i64 B.mo, .int .i64 B.yn, .int .i64 B.yo] 65 (0, 0)) = wb at HF HK HB ⊢
 generalize wa.heap.size = g at HF ⊢
 go_wp2_with fail
 go_loopg [9, 11] N (fun kq v9 v11 w' => ∃ (i : Nat) (x : Int), v11 = .int .i64 x ∧ Aside0 (x = f + i) ∧ Aside0 (i + kq = N) ∧ Aside0 ((Kd.int .i64).R 3 w' wb.heap.size (fun _ => True) v9 (G i)) ∧ Aside0 (Below wb.heap.size wb w'))
 case atStart => exact ⟨0, f, rfl, ⟨by simp⟩, ⟨by omega⟩, ⟨by rw [G0.out]; exact Kd.R_nil _ _ _ _ _⟩, ⟨Below.refl _ _⟩⟩
 case round =>
  obtain ⟨i, x, rfl, HX, HI, HO, HL⟩ := hrel
  have HK' := Aside0.mk (blk_below HK.out HL.out)
  have HF' := Aside0.mk (blk_below HF.out HL.out)
  have HW := Aside0.mk (below_then HB.out HB.out.size HL.out)
  cases gk with
  | zero =>
   have l1 : decide (x ≤ l) = false := decide_eq_false (by have := HX.out; have := HI.out; have := NB.out; omega)
   obtain rfl : i = N := by have := HI.out; omega
   go_wp2_with fail
   go_ret
   exact ⟨out_of HO.out HB.out.size, HW.out⟩
  | succ k1 =>
   have xl : x ≤ l := by have := HX.out; have := HI.out; have := NB.out; omega
   have l1 : decide (x ≤ l) = true := decide_eq_true xl
   have nx : wrap64 (x + 1) = x + 1 := by have := FL.out; have := HX.out; have := HI.out; unfold wrap64; omega
   obtain ⟨X, hX, hV⟩ := HFIT.out x (by have := HX.out; omega) xl
   have XF := Aside0.mk hX; have XV := Aside0.mk hV; clear hX hV xl
   go_upto_region 6 with fail
   have HR := Aside0.mk (below_drew1 (Below.refl wr.heap.size wr))
   refine start_ (n := 5) (S := fun w' => w'.heap[w.heap.size]? = some (obj r p) ∧ w'.heap[g]? = some (fobj B)) (ds := []) (tt 5 0) (by kernel_rfl) rfl rfl ⟨blk_drew HK'.out, blk_drew HF'.out⟩ (fun hHeld => ?_)
   refine with_tabW tabd6 bitsd6 (fun HT_ HW_ => ?_)
   generalize wr.drew = wd_ at HR hHeld ⊢
   refine take_ (i := 0) (N := some 20) (v := .agg (agg r p)) (a' := ?_) (tt 5 1) rfl rfl (take_ofW HT_.out HW_.out (by kernel_rfl)) (fun _ _ _ h => h) (Or.inl ⟨by rfl, fun w' hs => xR (.tmp 4) (w.heap.size) r p rfl rfl w' hs.1⟩) hHeld ?_ ?_
   rotate_left
   ·simp only [Act.put, sA, sB, sC, i64_w, i32_w]
    rfl
   refine take_ (i := 1) (N := some 21) (v := .agg (fa B)) (a' := ?_) (tt 5 2) rfl rfl (take_ofW HT_.out HW_.out (by kernel_rfl)) (fun _ _ _ h => h) (Or.inl ⟨by rfl, fun w' hs => xF (.tmp 10) g B rfl rfl w' hs.2⟩) hHeld ?_ ?_
   rotate_left
   ·simp only [Act.put, sA, sB, sC, i64_w, i32_w]
    rfl
   refine pu 2 (some 22) (tt 5 3) HT_ ?_
   refine one_ (i := 3) (N := some 23) (tt 5 4) rfl rfl (one_of HT_.out (by kernel_rfl)) (by decide) (fun K hK => ?_)
   refine goes_ Tryz.func27 (by kernel_rfl) rfl #[.int .i64 x] (by rfl) rfl rfl (by (try simp only [List.map_toArray, List.map_cons, List.map_nil]); first | done | rfl) ?_
   refine (of_calls k x X _ XF.out).mono ?_
   rintro q wq1 ⟨rfl, hb⟩
   refine ⟨_, rfl, ?_⟩
   replace HR := Aside0.mk (below_then HR.out HR.out.size hb)
   refine hK.out _ _ ⟨blk_below hHeld.1 hb, blk_below hHeld.2 hb⟩ (fun hHeld => ?_)
   clear hK K
   refine norm_ (a' := ?_) ?_ ?_
   rotate_left
   ·show Act.put _ (some 23) _ = _
    simp only [Act.put, sA, sB, sC, i64_w, i32_w]
    rfl
   refine one_ (i := 4) (N := some 24) (tt 5 5) rfl rfl (one_of HT_.out (by kernel_rfl)) (by decide) (fun K hK => ?_)
   refine goes_ Tryz.func46 (by kernel_rfl) rfl #[.agg (agg r p), .agg (fa B), .agg (fa X)] (by rfl) rfl rfl (by (try simp only [List.map_toArray, List.map_cons, List.map_nil]); first | done | rfl) ?_
   refine (fitsX k r p B X (fit x) _ (OK.out.below (below_then HW.out HW.out.size HR.out)) XV.out).mono ?_
   rintro q wq2 ⟨rfl, hb⟩
   refine ⟨_, rfl, ?_⟩
   replace HR := Aside0.mk (below_then HR.out HR.out.size hb)
   refine hK.out _ _ ⟨blk_below hHeld.1 hb, blk_below hHeld.2 hb⟩ (fun hHeld => ?_)
   clear hK K
   refine norm_ (a' := ?_) ?_ ?_
   rotate_left
   ·show Act.put _ (some 24) _ = _
    simp only [Act.put, sA, sB, sC, i64_w, i32_w]
    rfl
   refine done_ (done_of HT_.out (by kernel_rfl)) ?_
   clear HT_ HW_
   replace HO := Aside0.mk (Kd.R_below HO.out HR.out)
   replace HL := Aside0.mk (below_then HL.out HL.out.size HR.out)
   clear hHeld HR HK' HF' HW
   have GN := Aside0.mk (G1.out i)
   rw [← HX.out] at GN
   cases hv : fit x with
   | false =>
    rw [hv, if_neg (by simp)] at GN
    clear hv
    go_wp2_with fail
    go_roundg k1
    case measure => omega
    case rel => exact ⟨i + 1, x + 1, by simp [nx], ⟨by have := HX.out; push_cast; omega⟩, ⟨by have := HI.out; omega⟩, ⟨by rw [GN.out]; exact HO.out⟩, HL⟩
   | true =>
    rw [hv, if_pos rfl] at GN
    clear hv
    have LN := Aside0.mk (GL.out i)
    obtain ⟨li, hli⟩ : ∃ li, G i = li := ⟨_, rfl⟩
    rw [hli] at HO LN GN
    go_wp2_with ((with_reducible refine gate_builtin (b := .append) (xs := #[.tmp 25, .tmp 27]) rfl ?_); (try (refine gate_guard (by rfl) ?_; dsimp only)); at_builtin; refine Kd.R_append (Kd.int .i64) (w0 := wb) wb.heap.size rfl (.tmp 25) (.tmp 27) 24 3 (.int .i64 0) 8 rfl Tryz.underlying24 (by kernel_rfl) rfl (by decide) (by omega) _ li (x) [.int .i64 (x)] (fun _ => True) (fun _ => False) rfl rfl ?aP (fun _ hk => hk.elim) ?aF ?aO ?aB ?aS ?aL ?_; (case aP => exact rfl); (case aB => exact (by repeat (first | (with_reducible first | exact HL.out | apply below_alloc | apply pw_below_drewN | apply below_drew1) | exact HL.out))); (case aF => exact (fun _ _ => trivial)); (case aO => exact (by (with_reducible repeat (first | apply Kd.R_alloc | apply Kd.R_drewN | apply Kd.R_drew)); exact HO.out)); (case aS => exact (below_size (by repeat (first | (with_reducible first | exact HL.out | apply below_alloc | apply pw_below_drewN | apply below_drew1) | exact HL.out)))); (case aL => have := LN.out; have := HI.out; have := FL.out; omega); intro v_ w_ ho hb hg hat;  clear hg hat; replace HO := Aside0.mk ho; replace HL := Aside0.mk hb; clear ho hb)
    go_roundg k1
    case measure => omega
    case rel => exact ⟨i + 1, x + 1, by simp [nx], ⟨by have := HX.out; push_cast; omega⟩, ⟨by have := HI.out; omega⟩, ⟨by rw [GN.out]; exact HO.out⟩, HL⟩
end Go.Proofs.YtfdcldjoncednaaGreat.ExD
/- expand.or, expand.chosen. (Written by gen_exo.py.) -/
namespace Go.Proofs.YtfdcldjoncednaaGreat.ExO
open Go.RowKit Go.Proofs.YtfdcldjoncednaaGreatW.PrintWords Go.Proofs.YtfdcldjoncednaaGreatW.PrintLast Go.Proofs.YtfdcldjoncednaaGreatW.PrintMore Go.Proofs.YtfdcldjoncednaaGreat.M Go.Proofs.YtfdcldjoncednaaGreat.Ru Go.Proofs.YtfdcldjoncednaaGreat.ExD
set_option linter.unusedVariables false
set_option linter.unusedSimpArgs false
theorem cell_lt {w : World} {a : Addr} {v : Value} (h : w.cell? a = some v) : a.block < w.heap.size := by
 unfold World.cell? at h
 by_cases c : a.block < w.heap.size
 ·exact c
 ·have e : w.heap[a.block]? = none := by simp; omega
  rw [e] at h; simp at h
theorem blk_add (a : Addr) (n : Nat) : (a.add n).block = a.block := by unfold Addr.add; split <;> rfl
/-- A list of whole numbers that lies apart from v's own row. -/
def Lies (w : World) (v : Value) (A : Option Addr) (xs : List Int) : Prop := (Kd.int .i64).C w A xs.length xs ∧ (xs ≠ [] → ∀ ad, A = some ad → some ad.block ≠ v.ownBlock)
theorem C_far {w w1 : World} {A : Option Addr} {xs : List Int} {row : Option Nat} (h : (Kd.int .i64).C w A xs.length xs) (hg : w.grownBy w1 row) (hf : xs ≠ [] → ∀ ad, A = some ad → some ad.block ≠ row) : (Kd.int .i64).C w1 A xs.length xs := by
 refine Kd.C_of_reads (enc := Value.int .i64) (d := (0 : Int)) (h1 := fun _ => rfl) ⟨rfl, h.2.1, fun hn => ?_⟩
 have hne : xs ≠ [] := by intro e; rw [e] at hn; simp at hn
 obtain ⟨ad, e, h0⟩ := Kd.at_int h 0 (by omega) (by omega)
 refine ⟨ad, e, fun j hj => ?_⟩
 obtain ⟨ad', e', hj'⟩ := Kd.at_int h (j : Int) (by omega) (by omega)
 obtain rfl : ad = ad' := Option.some.inj (e.symm.trans e')
 have := hg.cell hj' (by rw [blk_add]; exact hf hne ad e)
 rw [show ((j : Int)).toNat = j by omega] at this
 simpa [rd, rdOf] using this
theorem Lies.below {w w' : World} {v : Value} {A : Option Addr} {xs : List Int} (h : Lies w v A xs) (hb : Below w.heap.size w w') : Lies w' v A xs := ⟨Kd.C_below h.1 hb, h.2⟩
theorem Lies.appended {w w1 : World} {v v1 : Value} {A : Option Addr} {xs : List Int} (h : Lies w v A xs) (hg : w.grownBy w1 v.ownBlock) (hat : v1.ownBlock = v.ownBlock ∨ ∃ b, v1.ownBlock = some b ∧ w.heap.size ≤ b) : Lies w1 v1 A xs := by
 refine ⟨C_far h.1 hg h.2, fun hne ad e => ?_⟩
 rcases hat with q | ⟨b, q, hb⟩
 ·rw [q]; exact h.2 hne ad e
 ·have hp : 0 < xs.length := List.length_pos_iff.2 hne
  obtain ⟨ad', e', h0⟩ := Kd.at_int h.1 0 (by omega) (by omega)
  obtain rfl : ad = ad' := Option.some.inj (e.symm.trans e')
  have := cell_lt h0
  rw [q]; intro e2
  have e3 : ad.block = b := Option.some.inj e2
  have e4 : (ad.add (0 : Int).toNat).block = ad.block := blk_add _ _
  omega
/-- A list, or what stands where it is empty. -/
def orL (l : List Int) (n : Int) : List Int := if l.length = 0 then [n] else l
theorem one_C {w : World} {g : Nat} {x : Int} {t : TypeId} (h : w.heap[g]? = some (.cells #[.int .i64 x] t (0, 0))) : Kd.C (Kd.int .i64) w (some ⟨g, 0, none⟩) [x].length [x] := by
 refine Kd.C_of_reads (enc := Value.int .i64) (d := (0 : Int)) (h1 := fun _ => rfl) ⟨rfl, by simp, fun _ => ⟨_, rfl, fun j hj => ?_⟩⟩
 have hj' : j < 1 := hj
 match j, hj' with
 | 0, _ => exact (blk_cell h 0).trans rfl
/-- What or hands back: the list itself, or a new one. -/
def OrOut (w w' : World) (A : Option Addr) (l : List Int) (n : Int) (q : Ending) : Prop := ∃ A' c', q = .returned (.slice A' (orL l n).length c') ∧ (Kd.int .i64).C w' A' (orL l n).length (orL l n) ∧ (orL l n).length ≤ c' ∧ ((l ≠ [] ∧ A' = A) ∨ ∃ g, A' = some ⟨g, 0, none⟩ ∧ w.heap.size ≤ g)
set_option maxHeartbeats 4000000 in
set_option maxRecDepth 100000 in
theorem or_ (A : Option Addr) (c : Nat) (l : List Int) (n : Int) (w : World) (hC : (Kd.int .i64).C w A l.length l) (hc : l.length ≤ c) :
  Calls Tryz.prog 104 #[.slice A l.length c, .int .i64 n] w fun q w' => OrOut w w' A l n q ∧ Below w.heap.size w w' := by
 have HC := Aside0.mk hC; have HCC := Aside0.mk hc; clear hC hc
 by_cases z : l.length = 0
 ·have HZ := Aside0.mk z
  have z1 : ((l.length : Int) == 0) = true := beq_iff_eq.2 (by omega)
  clear z
  go_enter Tryz.func104, Tryz.ntmps104
  go_wp2_with fail
  have HA := Aside0.mk (blk_new w (.cells #[.int .i64 n] 3 (0, 0)))
  have HB := Aside0.mk (below_alloc (Below.refl w.heap.size w) (.cells #[.int .i64 n] 3 (0, 0)))
  generalize w.alloc (.cells #[.int .i64 n] 3 (0, 0)) = w0 at HA HB ⊢
  go_ret
  have e : orL l n = [n] := if_pos HZ.out
  exact ⟨⟨some ⟨w.heap.size, 0, none⟩, 1, by rw [e]; rfl, by rw [e]; exact one_C HA.out, by rw [e]; exact Nat.le_refl _, Or.inr ⟨_, rfl, Nat.le_refl _⟩⟩, HB.out⟩
 ·have HZ := Aside0.mk z
  have z1 : ((l.length : Int) == 0) = false := beq_eq_false_iff_ne.2 (by omega)
  clear z
  have e : orL l n = l := if_neg HZ.out
  have EO := Aside0.mk e; clear e
  go_enter Tryz.func104, Tryz.ntmps104
  go_wp2_with fail
  go_ret
  refine ⟨⟨A, c, by rw [EO.out]; rfl, by rw [EO.out]; exact HC.out, by rw [EO.out]; exact HCC.out, Or.inl ⟨fun q => HZ.out (by rw [q]; rfl), rfl⟩⟩, Below.refl _ _⟩
/-- The row itself where no place is named. -/
def choL (ps l g : List Int) : List Int := if ps.length = 0 then l else g
/-- Of a row those whose places are in a list: sel tells which. -/
def SelOk (k : Nat) (l places : List Int) (sel : Nat → Bool) : Prop := ∀ i : Nat, i < l.length → ∃ b1 b2, slices_Contains_int_int.f k places ((i : Int) + 1) = some b1 ∧ slices_Contains_int_int.f k places ((i : Int) - (l.length : Int)) = some b2 ∧ sel i = (b1 || b2)
set_option maxHeartbeats 4000000 in
set_option maxRecDepth 100000 in
theorem chosen (k : Nat) (A : Option Addr) (c : Nat) (l : List Int) (A1 : Option Addr) (c1 : Nat) (ps : List Int) (sel : Nat → Bool) (G : Nat → List Int) (w : World) (hC : (Kd.int .i64).C w A l.length l) (hc : l.length ≤ c) (hC1 : (Kd.int .i64).C w A1 ps.length ps) (hc1 : ps.length ≤ c1) (hs : ps.length ≠ 0 → SelOk k l ps sel) (hl : l.length ≤ 17000000000000) (n0 : Nat) (hn0 : n0 ≤ w.heap.size) (hf : ∀ ad, A = some ad → n0 ≤ ad.block)
  (h0 : G 0 = []) (h1 : ∀ i : Nat, G (i + 1) = if sel i = true then G i ++ [rd l (i : Int)] else G i) (hG : ∀ i, (G i).length ≤ i) :
  Calls Tryz.prog 77 #[.slice A l.length c, .slice A1 ps.length c1] w fun q w' => Out n0 w' (choL ps l (G l.length)) q ∧ Below w.heap.size w w' := by
 have HC := Aside0.mk hC; have HCC := Aside0.mk hc; have HC1 := Aside0.mk hC1; have HCC1 := Aside0.mk hc1; have HS := Aside0.mk hs; have G0 := Aside0.mk h0; have G1 := Aside0.mk h1; have GL := Aside0.mk hG; have LL_ := Aside0.mk hl; have HN0 := Aside0.mk hn0; have HFR := Aside0.mk hf; clear hn0 hf; clear hC hc hC1 hc1 hs h0 h1 hG hl
 by_cases z : ps.length = 0
 ·have HZ := Aside0.mk z
  have z1 : ((ps.length : Int) == 0) = true := beq_iff_eq.2 (by omega)
  clear z
  go_enter Tryz.func77, Tryz.ntmps77
  go_wp2_with fail
  go_ret
  exact ⟨⟨A, c, by rw [show choL ps l (G l.length) = l from if_pos HZ.out]; rfl, by rw [show choL ps l (G l.length) = l from if_pos HZ.out]; exact HC.out, by rw [show choL ps l (G l.length) = l from if_pos HZ.out]; exact HCC.out, HFR.out⟩, Below.refl _ _⟩
 ·have HZ := Aside0.mk z
  have HSel := Aside0.mk (HS.out z)
  have z1 : ((ps.length : Int) == 0) = false := beq_eq_false_iff_ne.2 (by omega)
  clear z HS
  go_enter Tryz.func77, Tryz.ntmps77
  go_wp2_with fail
  go_loopg [5, 14] l.length (fun kq v5 v14 w' => ∃ (i : Nat) (x : Int), v14 = .int .i64 x ∧ Aside0 (x = (i : Int)) ∧ Aside0 (i + kq = l.length) ∧ Aside0 ((Kd.int .i64).R 2 w' w.heap.size (fun _ => True) v5 (G i)) ∧ Aside0 (Below w.heap.size w w'))
  case atStart => exact ⟨0, 0, rfl, ⟨rfl⟩, ⟨by omega⟩, ⟨by rw [G0.out]; exact Kd.R_nil _ _ _ _ _⟩, ⟨Below.refl _ _⟩⟩
  case round =>
   obtain ⟨i, x, rfl, HX, HI, HO, HB⟩ := hrel
   cases gk with
   | zero =>
    have l1 : decide (x < (l.length : Int)) = false := decide_eq_false (by have := HX.out; have := HI.out; omega)
    have e : i = l.length := by have := HI.out; omega
    have EI := Aside0.mk e; clear e
    go_wp2_with fail
    go_ret
    refine ⟨?_, HB.out⟩
    rw [show choL ps l (G l.length) = G l.length from if_neg HZ.out, ← EI.out]; exact out_of HO.out HN0.out
   | succ k1 =>
    have p1 : 0 ≤ x := by have := HX.out; omega
    have q1 : x < (l.length : Int) := by have := HX.out; have := HI.out; omega
    have l1 : decide (x < (l.length : Int)) = true := decide_eq_true q1
    obtain ⟨ad, e, hx⟩ := Kd.at_int (Kd.C_below HC.out HB.out) x p1 q1
    cases e
    replace p1 := eq_true p1
    replace q1 := eq_true q1
    have nx : wrap64 (x + 1) = x + 1 := by have := HX.out; have := HI.out; have := LL_.out; unfold wrap64; omega
    have nl : wrap64 (x - (l.length : Int)) = x - (l.length : Int) := by have := HX.out; have := HI.out; have := LL_.out; unfold wrap64; omega
    obtain ⟨b1, b2, s1, s2, s3⟩ := HSel.out i (by have := HI.out; omega)
    rw [← HX.out] at s1 s2
    have S1 := Aside0.mk s1; have S2 := Aside0.mk s2; have S3 := Aside0.mk s3; clear s1 s2 s3
    have GN := Aside0.mk (G1.out i); rw [← HX.out] at GN
    have HC1' := Aside0.mk (Kd.C_below HC1.out HB.out)
    obtain ⟨y, hy⟩ : ∃ y, rd l x = y := ⟨_, rfl⟩
    rw [hy] at hx GN; clear hy
    obtain ⟨li, hli⟩ : ∃ li, G i = li := ⟨_, rfl⟩
    have LN := Aside0.mk (GL.out i); rw [hli] at HO LN GN
    cases b1 with
    | true =>
     rw [S3.out, Bool.true_or, if_pos rfl] at GN
     go_wp2_with fail
     refine (slices_Contains_int_int.calls k A1 c1 ps (x + 1) true _ ?_ HCC1.out S1.out).mono ?_
     ·first | exact HC1'.out
     rintro e w2 ⟨rfl, ⟨nd, rfl⟩⟩
     replace HO := Aside0.mk (Kd.R_drewN HO.out nd); replace HB := Aside0.mk (pw_below_drewN HB.out nd); replace HC1' := Aside0.mk (Kd.C_below HC1'.out (pw_below_drewN (Below.refl _ _) nd))
     clear hx
     generalize wr.drewN nd = wx1 at HO HB HC1' ⊢
     go_wp2_with ((with_reducible refine gate_builtin (b := .append) (xs := #[.tmp 31, .tmp 33]) rfl ?_); (try (refine gate_guard (by rfl) ?_; dsimp only)); at_builtin; refine Kd.R_append (Kd.int .i64) (w0 := w) w.heap.size rfl (.tmp 31) (.tmp 33) 42 2 (.int .i64 0) 8 rfl Tryz.underlying42 (by kernel_rfl) rfl (by decide) (by omega) _ li (y) [.int .i64 (y)] (fun _ => True) (fun _ => False) rfl rfl ?aP (fun _ hk => hk.elim) ?aF ?aO ?aB ?aS ?aL ?_; (case aP => exact rfl); (case aB => exact (by repeat (first | (with_reducible first | exact HB.out | apply below_alloc | apply pw_below_drewN | apply below_drew1) | exact HB.out))); (case aF => exact (fun _ _ => trivial)); (case aO => exact (by (with_reducible repeat (first | apply Kd.R_alloc | apply Kd.R_drewN | apply Kd.R_drew)); exact HO.out)); (case aS => exact (below_size (by repeat (first | (with_reducible first | exact HB.out | apply below_alloc | apply pw_below_drewN | apply below_drew1) | exact HB.out)))); (case aL => have := LN.out; have := HI.out; have := LL_.out; omega); intro v_ w_ ho hb hg hat;  clear hg hat; replace HO := Aside0.mk ho; replace HB := Aside0.mk hb; clear ho hb)
     go_roundg k1
     case measure => omega
     case rel => exact ⟨i + 1, x + 1, by simp [nx], ⟨by have := HX.out; push_cast; omega⟩, ⟨by have := HI.out; omega⟩, ⟨by rw [GN.out]; exact HO.out⟩, HB⟩
    | false =>
     go_wp2_with fail
     refine (slices_Contains_int_int.calls k A1 c1 ps (x + 1) false _ ?_ HCC1.out S1.out).mono ?_
     ·first | exact HC1'.out
     rintro e w2 ⟨rfl, ⟨nd, rfl⟩⟩
     replace HO := Aside0.mk (Kd.R_drewN HO.out nd); replace HB := Aside0.mk (pw_below_drewN HB.out nd); replace HC1' := Aside0.mk (Kd.C_below HC1'.out (pw_below_drewN (Below.refl _ _) nd))
     clear hx
     generalize wr.drewN nd = wx1 at HO HB HC1' ⊢
     cases b2 with
     | true =>
      rw [S3.out, Bool.false_or, if_pos rfl] at GN
      go_wp2_with fail
      refine (slices_Contains_int_int.calls k A1 c1 ps (x - (l.length : Int)) true _ ?_ HCC1.out S2.out).mono ?_
      ·first | exact HC1'.out
      rintro e w2 ⟨rfl, ⟨nd, rfl⟩⟩
      replace HO := Aside0.mk (Kd.R_drewN HO.out nd); replace HB := Aside0.mk (pw_below_drewN HB.out nd); replace HC1' := Aside0.mk (Kd.C_below HC1'.out (pw_below_drewN (Below.refl _ _) nd))
      skip
      generalize wx1.drewN nd = wx2 at HO HB HC1' ⊢
      go_wp2_with ((with_reducible refine gate_builtin (b := .append) (xs := #[.tmp 31, .tmp 33]) rfl ?_); (try (refine gate_guard (by rfl) ?_; dsimp only)); at_builtin; refine Kd.R_append (Kd.int .i64) (w0 := w) w.heap.size rfl (.tmp 31) (.tmp 33) 42 2 (.int .i64 0) 8 rfl Tryz.underlying42 (by kernel_rfl) rfl (by decide) (by omega) _ li (y) [.int .i64 (y)] (fun _ => True) (fun _ => False) rfl rfl ?aP (fun _ hk => hk.elim) ?aF ?aO ?aB ?aS ?aL ?_; (case aP => exact rfl); (case aB => exact (by repeat (first | (with_reducible first | exact HB.out | apply below_alloc | apply pw_below_drewN | apply below_drew1) | exact HB.out))); (case aF => exact (fun _ _ => trivial)); (case aO => exact (by (with_reducible repeat (first | apply Kd.R_alloc | apply Kd.R_drewN | apply Kd.R_drew)); exact HO.out)); (case aS => exact (below_size (by repeat (first | (with_reducible first | exact HB.out | apply below_alloc | apply pw_below_drewN | apply below_drew1) | exact HB.out)))); (case aL => have := LN.out; have := HI.out; have := LL_.out; omega); intro v_ w_ ho hb hg hat;  clear hg hat; replace HO := Aside0.mk ho; replace HB := Aside0.mk hb; clear ho hb)
      go_roundg k1
      case measure => omega
      case rel => exact ⟨i + 1, x + 1, by simp [nx], ⟨by have := HX.out; push_cast; omega⟩, ⟨by have := HI.out; omega⟩, ⟨by rw [GN.out]; exact HO.out⟩, HB⟩
     | false =>
      rw [S3.out, Bool.false_or, if_neg (by simp)] at GN
      go_wp2_with fail
      refine (slices_Contains_int_int.calls k A1 c1 ps (x - (l.length : Int)) false _ ?_ HCC1.out S2.out).mono ?_
      ·first | exact HC1'.out
      rintro e w2 ⟨rfl, ⟨nd, rfl⟩⟩
      replace HO := Aside0.mk (Kd.R_drewN HO.out nd); replace HB := Aside0.mk (pw_below_drewN HB.out nd); replace HC1' := Aside0.mk (Kd.C_below HC1'.out (pw_below_drewN (Below.refl _ _) nd))
      skip
      generalize wx1.drewN nd = wx2 at HO HB HC1' ⊢
      go_wp2_with fail
      go_roundg k1
      case measure => omega
      case rel => exact ⟨i + 1, x + 1, by simp [nx], ⟨by have := HX.out; push_cast; omega⟩, ⟨by have := HI.out; omega⟩, ⟨by rw [GN.out]; exact HO.out⟩, HB⟩
end Go.Proofs.YtfdcldjoncednaaGreat.ExO
/- expand.times. (Written by gen_ext.py.) -/
namespace Go.Proofs.YtfdcldjoncednaaGreat.ExT
open Go.RowKit Go.Proofs.YtfdcldjoncednaaGreatW.PrintWords Go.Proofs.YtfdcldjoncednaaGreatW.PrintLast Go.Proofs.YtfdcldjoncednaaGreatW.PrintMore Go.Proofs.YtfdcldjoncednaaGreat.M Go.Proofs.YtfdcldjoncednaaGreat.Ru Go.Proofs.YtfdcldjoncednaaGreat.MatP Go.Proofs.YtfdcldjoncednaaGreat.ExD Go.Proofs.YtfdcldjoncednaaGreat.ExO
set_option linter.unusedVariables false
set_option linter.unusedSimpArgs false
def Te3 : Bool × List (List Nat × List Nat) := (true, [([], []), ([], []), ([1], [1]), ([], []), ([0, 2, 3, 2], [0, 2, 3]), ([4], [4]), ([5], [5]), ([5], [5]), ([5], [5]), ([6, 4, 0, 1, 2, 3, 4, 5, 6], [6]), ([7, 9, 0, 1, 2, 3, 4, 5, 6, 7, 9], [7]), ([8, 10, 0, 1, 2, 3, 4, 5, 6, 7, 8, 9, 10], [8])])
def Be3 : List Nat := [0, 0, 2, 0, 15, 31, 63, 63, 63, 127, 767, 2047]
theorem tabe3 : rtab .any (opsOf Tryz.f42 3) = Te3 := by kernel_rfl
theorem bitse3 : waitsOk Te3.2 Be3 = true := by kernel_rfl
def Te8 : Bool × List (List Nat × List Nat) := (true, [([], []), ([], []), ([1], [1]), ([], []), ([], []), ([0, 2, 3, 4, 2], [0, 2, 3, 4]), ([5], [5]), ([], [])])
def Be8 : List Nat := [0, 0, 2, 0, 0, 31, 63, 0]
theorem tabe8 : rtab .any (opsOf Tryz.f42 8) = Te8 := by kernel_rfl
theorem bitse8 : waitsOk Te8.2 Be8 = true := by kernel_rfl
/-- What Span, Days, seconds answer, wherever the rule's lists lie. -/
abbrev SpanC (r : Ru) (p : Rp) (d n f l e : Int) : Prop := ∀ w, Ok r p w → Calls Tryz.prog 9 #[.agg (agg r p), .int .i64 d, .int .i64 n] w fun q w' => q = .returned (.tuple #[.int .i64 f, .int .i64 l, .int .i64 e]) ∧ Below w.heap.size w w'
abbrev DaysC (r : Ru) (p : Rp) (d f l : Int) (L : List Int) : Prop := ∀ w, Ok r p w → Calls Tryz.prog 76 #[.agg (agg r p), .int .i64 d, .int .i64 f, .int .i64 l] w fun q w' => Out w.heap.size w' L q ∧ Below w.heap.size w w'
abbrev SecC (r : Ru) (p : Rp) (b : Int) (D : List Int) : Prop := ∀ w, Ok r p w → Calls Tryz.prog 75 #[.agg (agg r p), .int .i64 b] w fun q w' => Out w.heap.size w' D q ∧ Below w.heap.size w w'
theorem out_nil (n0 : Nat) (w : World) : Out n0 w [] (.returned (.slice none 0 0)) := ⟨none, 0, rfl, Kd.C_nil _ _, Nat.le_refl _, fun _ h => by cases h⟩
/-- A time of a day. -/
def timV (d s : Int) : Int := wrap64 (wrap64 (d * 86400) + s)
set_option maxHeartbeats 8000000 in
set_option maxRecDepth 100000 in
theorem neg (r : Ru) (p : Rp) (b n : Int) (hn : n < 0) (w : World) (ok : Ok r p w) :
  Calls Tryz.prog 42 #[.agg (agg r p), .int .i64 b, .int .i64 n] w fun q w' => Out w.heap.size w' ([]) q ∧ Below w.heap.size w w' := by
 have OK := Aside0.mk ok; clear ok
 have HK := Aside0.mk (blk_new w (obj r p))
 have HB := Aside0.mk (below_alloc (Below.refl w.heap.size w) (obj r p))
 go_enter Tryz.func42, Tryz.ntmps42
 go_upto_region 1 with fail
 generalize w.alloc (obj r p) = w0 at HK HB ⊢
 have kb1 : w0.cell? ⟨w.heap.size, 1, none⟩ = some (.int .i64 r.a1) := (blk_cell HK.out 1).trans rfl
 have c1 : decide (n < 0) = true := decide_eq_true hn
 clear hn
 go_wp2_with fail
 go_ret
 exact ⟨out_nil _ _, HB.out⟩
set_option maxHeartbeats 8000000 in
set_option maxRecDepth 100000 in
theorem rem (r : Ru) (p : Rp) (b n : Int) (hn : ¬ n < 0) (hi : 1 ≤ r.a1) (z : Int) (hz : Int.tmod n r.a1 = z) (hne : z ≠ 0) (w : World) (ok : Ok r p w) :
  Calls Tryz.prog 42 #[.agg (agg r p), .int .i64 b, .int .i64 n] w fun q w' => Out w.heap.size w' ([]) q ∧ Below w.heap.size w w' := by
 have OK := Aside0.mk ok; clear ok
 have HK := Aside0.mk (blk_new w (obj r p))
 have HB := Aside0.mk (below_alloc (Below.refl w.heap.size w) (obj r p))
 go_enter Tryz.func42, Tryz.ntmps42
 go_upto_region 1 with fail
 generalize w.alloc (obj r p) = w0 at HK HB ⊢
 have kb1 : w0.cell? ⟨w.heap.size, 1, none⟩ = some (.int .i64 r.a1) := (blk_cell HK.out 1).trans rfl
 have c1 : decide (n < 0) = false := decide_eq_false hn
 have i0 : (r.a1 == 0) = false := beq_eq_false_iff_ne.2 (by omega)
 have i1 : ¬ r.a1 = 0 := by omega
 have cz : (z != 0) = true := bne_iff_ne.2 hne
 clear hn hne hi
 go_wp2_with fail
 go_ret
 exact ⟨out_nil _ _, HB.out⟩
set_option maxHeartbeats 8000000 in
set_option maxRecDepth 100000 in
theorem err (r : Ru) (p : Rp) (b n : Int) (hn : ¬ n < 0) (hi : 1 ≤ r.a1) (z : Int) (hz : Int.tmod n r.a1 = z) (hz0 : z = 0) (dy f l e : Int) (hd : clock_Day.f b = some dy) (hsp : SpanC r p dy n f l e) (he : e ≠ 0) (w : World) (ok : Ok r p w) :
  Calls Tryz.prog 42 #[.agg (agg r p), .int .i64 b, .int .i64 n] w fun q w' => Out w.heap.size w' ([]) q ∧ Below w.heap.size w w' := by
 have HD := Aside0.mk hd; have HS := Aside0.mk hsp; clear hd hsp
 have OK := Aside0.mk ok; clear ok
 have HK := Aside0.mk (blk_new w (obj r p))
 have HB := Aside0.mk (below_alloc (Below.refl w.heap.size w) (obj r p))
 go_enter Tryz.func42, Tryz.ntmps42
 go_upto_region 1 with fail
 generalize w.alloc (obj r p) = w0 at HK HB ⊢
 have kb1 : w0.cell? ⟨w.heap.size, 1, none⟩ = some (.int .i64 r.a1) := (blk_cell HK.out 1).trans rfl
 have c1 : decide (n < 0) = false := decide_eq_false hn
 have i0 : (r.a1 == 0) = false := beq_eq_false_iff_ne.2 (by omega)
 have i1 : ¬ r.a1 = 0 := by omega
 have cz : (z != 0) = false := bne_eq_false_iff_eq.2 hz0
 have ee : (e != 0) = true := bne_iff_ne.2 he
 clear hn hi hz0 he
 go_upto_region 3 with fail
 replace HK := Aside0.mk (blk_drew HK.out)
 replace HB := Aside0.mk (below_drew1 HB.out)
 refine start_ (n := 12) (S := fun w' => w'.heap[w.heap.size]? = some (obj r p)) (ds := []) (tt 12 0) (by kernel_rfl) rfl rfl HK.out (fun hHeld => ?_)
 refine with_tabW tabe3 bitse3 (fun HT_ HW_ => ?_)
 clear HK
 generalize w0.drew = w3_ at HB hHeld ⊢
 refine take_ (i := 0) (N := some 26) (v := .agg (agg r p)) (a' := ?_) (tt 12 1) rfl rfl (take_ofW HT_.out HW_.out (by kernel_rfl)) (fun _ _ _ h => h) (Or.inl ⟨by rfl, fun w' hs => xR (.tmp 3) (w.heap.size) r p rfl rfl w' hs⟩) hHeld ?_ ?_
 rotate_left
 ·simp only [Act.put, sA, sB, sC, i64_w, i32_w]
  rfl
 refine pu 1 (some 27) (tt 12 2) HT_ ?_
 refine pu 3 (some 29) #[true, true, false, true, false, false, false, false, false, false, false, false] HT_ ?_
 refine one_ (i := 2) (N := some 28) (tt 12 4) rfl rfl (one_of HT_.out (by kernel_rfl)) (by decide) (fun K hK => ?_)
 refine goes_ Tryz.func73 (by kernel_rfl) rfl #[.int .i64 b] (by rfl) rfl rfl (by (try simp only [List.map_toArray, List.map_cons, List.map_nil]); first | done | rfl) ?_
 refine (clock_Day.calls b dy _ HD.out).mono ?_
 rintro q wq1 ⟨rfl, ⟨nd, rfl⟩⟩
 refine ⟨_, rfl, ?_⟩
 replace HB := Aside0.mk (pw_below_drewN HB.out nd)
 refine hK.out _ _ (blk_drewN hHeld nd) (fun hHeld => ?_)
 clear hK K
 refine norm_ (a' := ?_) ?_ ?_
 rotate_left
 ·show Act.put _ (some 28) _ = _
  simp only [Act.put, sA, sB, sC, i64_w, i32_w]
  rfl
 refine one_ (i := 4) (N := some 30) (tt 12 5) rfl rfl (one_of HT_.out (by kernel_rfl)) (by decide) (fun K hK => ?_)
 refine goes_ Tryz.func9 (by kernel_rfl) rfl #[.agg (agg r p), .int .i64 dy, .int .i64 n] (by rfl) rfl rfl (by (try simp only [List.map_toArray, List.map_cons, List.map_nil]); first | done | rfl) ?_
 refine (HS.out _ (OK.out.below HB.out)).mono ?_
 rintro q wq2 ⟨rfl, hb⟩
 refine ⟨_, rfl, ?_⟩
 replace HB := Aside0.mk (below_then HB.out HB.out.size hb)
 refine hK.out _ _ (blk_below hHeld hb) (fun hHeld => ?_)
 clear hK K
 refine norm_ (a' := ?_) ?_ ?_
 rotate_left
 ·show Act.put _ (some 30) _ = _
  simp only [Act.put, sA, sB, sC, i64_w, i32_w]
  rfl
 refine pu 5 (some 25) (tt 12 6) HT_ ?_
 refine pu 6 (some 31) (tt 12 7) HT_ ?_
 refine pu 7 (some 32) (tt 12 8) HT_ ?_
 refine pu 8 (some 33) (tt 12 9) HT_ ?_
 refine pu 9 (some 7) (tt 12 10) HT_ ?_
 refine pu 10 (some 8) (tt 12 11) HT_ ?_
 refine pu 11 (some 9) (tt 12 12) HT_ ?_
 refine done_ (done_of HT_.out (by kernel_rfl)) ?_
 clear HT_ HW_
 go_wp2_with fail
 go_ret
 exact ⟨out_nil _ _, HB.out⟩
set_option maxHeartbeats 8000000 in
set_option maxRecDepth 100000 in
theorem times (r : Ru) (p : Rp) (b n : Int) (hn : ¬ n < 0) (hi : 1 ≤ r.a1) (z : Int) (hz : Int.tmod n r.a1 = z) (hz0 : z = 0) (dy f l e : Int) (hd : clock_Day.f b = some dy) (hsp : SpanC r p dy n f l e) (he : e = 0) (D L : List Int) (hsec : SecC r p b D) (hdays : DaysC r p dy f l L) (F1 : Nat → List Int) (F2 : Nat → Nat → List Int) (f0 : F1 0 = []) (f1 : ∀ i, F2 i 0 = F1 i) (f3 : ∀ i j, F2 i (j + 1) = F2 i j ++ [timV (rd L (i : Int)) (rd D (j : Int))]) (f4 : ∀ i, F1 (i + 1) = F2 i D.length) (fb : L.length ≤ 1000000000 ∧ D.length ≤ 1000000000) (fl : ∀ i j, i < L.length → j < D.length → (F2 i j).length ≤ 17000000000000) (T : List Int) (hT : F1 L.length = T) (k : Nat) (sel : Nat → Bool) (G : Nat → List Int) (hs : r.l16.length ≠ 0 → SelOk k T r.l16 sel) (hl : T.length ≤ 17000000000000) (h0 : G 0 = []) (h1 : ∀ i : Nat, G (i + 1) = if sel i = true then G i ++ [rd T (i : Int)] else G i) (hG : ∀ i, (G i).length ≤ i) (w : World) (ok : Ok r p w) :
  Calls Tryz.prog 42 #[.agg (agg r p), .int .i64 b, .int .i64 n] w fun q w' => Out w.heap.size w' (choL r.l16 T (G T.length)) q ∧ Below w.heap.size w w' := by
 have HD := Aside0.mk hd; have HS := Aside0.mk hsp; have HSEC := Aside0.mk hsec; have HDAYS := Aside0.mk hdays; have A0 := Aside0.mk f0; have A1 := Aside0.mk f1; have A3 := Aside0.mk f3; have A4 := Aside0.mk f4; have HBD := Aside0.mk fb; have AL := Aside0.mk fl; have HT := Aside0.mk hT
 have HCH := Aside0.mk (fun A c A1 c1 w n0 h1_ h2_ h3_ h4_ h5_ h6_ => chosen k A c T A1 c1 r.l16 sel G w h1_ h2_ h3_ h4_ hs hl n0 h5_ h6_ h0 h1 hG)
 clear hd hsp hsec hdays f0 f1 f3 f4 fb fl hT hs hl h0 h1 hG
 have OK := Aside0.mk ok; clear ok
 have HK := Aside0.mk (blk_new w (obj r p))
 have HB := Aside0.mk (below_alloc (Below.refl w.heap.size w) (obj r p))
 go_enter Tryz.func42, Tryz.ntmps42
 go_upto_region 1 with fail
 generalize w.alloc (obj r p) = w0 at HK HB ⊢
 have kb1 : w0.cell? ⟨w.heap.size, 1, none⟩ = some (.int .i64 r.a1) := (blk_cell HK.out 1).trans rfl
 have c1 : decide (n < 0) = false := decide_eq_false hn
 have i0 : (r.a1 == 0) = false := beq_eq_false_iff_ne.2 (by omega)
 have i1 : ¬ r.a1 = 0 := by omega
 have cz : (z != 0) = false := bne_eq_false_iff_eq.2 hz0
 have ee : (e != 0) = false := bne_eq_false_iff_eq.2 he
 clear hn hi hz0 he
 go_upto_region 3 with fail
 replace HK := Aside0.mk (blk_drew HK.out)
 replace HB := Aside0.mk (below_drew1 HB.out)
 refine start_ (n := 12) (S := fun w' => w'.heap[w.heap.size]? = some (obj r p)) (ds := []) (tt 12 0) (by kernel_rfl) rfl rfl HK.out (fun hHeld => ?_)
 refine with_tabW tabe3 bitse3 (fun HT_ HW_ => ?_)
 clear HK
 generalize w0.drew = w3_ at HB hHeld ⊢
 refine take_ (i := 0) (N := some 26) (v := .agg (agg r p)) (a' := ?_) (tt 12 1) rfl rfl (take_ofW HT_.out HW_.out (by kernel_rfl)) (fun _ _ _ h => h) (Or.inl ⟨by rfl, fun w' hs => xR (.tmp 3) (w.heap.size) r p rfl rfl w' hs⟩) hHeld ?_ ?_
 rotate_left
 ·simp only [Act.put, sA, sB, sC, i64_w, i32_w]
  rfl
 refine pu 1 (some 27) (tt 12 2) HT_ ?_
 refine pu 3 (some 29) #[true, true, false, true, false, false, false, false, false, false, false, false] HT_ ?_
 refine one_ (i := 2) (N := some 28) (tt 12 4) rfl rfl (one_of HT_.out (by kernel_rfl)) (by decide) (fun K hK => ?_)
 refine goes_ Tryz.func73 (by kernel_rfl) rfl #[.int .i64 b] (by rfl) rfl rfl (by (try simp only [List.map_toArray, List.map_cons, List.map_nil]); first | done | rfl) ?_
 refine (clock_Day.calls b dy _ HD.out).mono ?_
 rintro q wq1 ⟨rfl, ⟨nd, rfl⟩⟩
 refine ⟨_, rfl, ?_⟩
 replace HB := Aside0.mk (pw_below_drewN HB.out nd)
 refine hK.out _ _ (blk_drewN hHeld nd) (fun hHeld => ?_)
 clear hK K
 refine norm_ (a' := ?_) ?_ ?_
 rotate_left
 ·show Act.put _ (some 28) _ = _
  simp only [Act.put, sA, sB, sC, i64_w, i32_w]
  rfl
 refine one_ (i := 4) (N := some 30) (tt 12 5) rfl rfl (one_of HT_.out (by kernel_rfl)) (by decide) (fun K hK => ?_)
 refine goes_ Tryz.func9 (by kernel_rfl) rfl #[.agg (agg r p), .int .i64 dy, .int .i64 n] (by rfl) rfl rfl (by (try simp only [List.map_toArray, List.map_cons, List.map_nil]); first | done | rfl) ?_
 refine (HS.out _ (OK.out.below HB.out)).mono ?_
 rintro q wq2 ⟨rfl, hb⟩
 refine ⟨_, rfl, ?_⟩
 replace HB := Aside0.mk (below_then HB.out HB.out.size hb)
 refine hK.out _ _ (blk_below hHeld hb) (fun hHeld => ?_)
 clear hK K
 refine norm_ (a' := ?_) ?_ ?_
 rotate_left
 ·show Act.put _ (some 30) _ = _
  simp only [Act.put, sA, sB, sC, i64_w, i32_w]
  rfl
 refine pu 5 (some 25) (tt 12 6) HT_ ?_
 refine pu 6 (some 31) (tt 12 7) HT_ ?_
 refine pu 7 (some 32) (tt 12 8) HT_ ?_
 refine pu 8 (some 33) (tt 12 9) HT_ ?_
 refine pu 9 (some 7) (tt 12 10) HT_ ?_
 refine pu 10 (some 8) (tt 12 11) HT_ ?_
 refine pu 11 (some 9) (tt 12 12) HT_ ?_
 refine done_ (done_of HT_.out (by kernel_rfl)) ?_
 clear HT_ HW_
 have HK := Aside0.mk hHeld; clear hHeld
 go_wp2_with ((with_reducible refine gate_ (.load 27 (.tmp 3)) rfl ?_); (try (refine gate_guard (by rfl) ?_; dsimp only)); refine Kd.event_run rfl (MatP.xR (.tmp 3) (w.heap.size) r p rfl rfl _ HK.out) ?_)
 refine (HSEC.out _ (OK.out.below HB.out)).mono ?_
 rintro q wa ⟨⟨AD, cD, rfl, hCD, hcD, _⟩, hb⟩
 replace HK := Aside0.mk (blk_below HK.out hb)
 replace HB := Aside0.mk (below_then HB.out HB.out.size hb)
 have CD := Aside0.mk hCD; clear hCD hcD hb
 go_upto_region 8 with fail
 replace HB := Aside0.mk (below_drew1 HB.out)
 refine start_ (n := 8) (S := fun w' => w'.heap[w.heap.size]? = some (obj r p) ∧ (Kd.int .i64).C w' AD D.length D) (ds := []) (tt 8 0) (by kernel_rfl) rfl rfl ⟨blk_drew HK.out, Kd.C_below CD.out (below_drew1 (Below.refl _ _))⟩ (fun hHeld => ?_)
 refine with_tabW tabe8 bitse8 (fun HT_ HW_ => ?_)
 clear HK CD
 generalize wa.drew = w5_ at HB hHeld ⊢
 refine take_ (i := 0) (N := some 39) (v := .agg (agg r p)) (a' := ?_) (tt 8 1) rfl rfl (take_ofW HT_.out HW_.out (by kernel_rfl)) (fun _ _ _ h => h) (Or.inl ⟨by rfl, fun w' hs => xR (.tmp 3) (w.heap.size) r p rfl rfl w' hs.1⟩) hHeld ?_ ?_
 rotate_left
 ·simp only [Act.put, sA, sB, sC, i64_w, i32_w]
  rfl
 refine pu 1 (some 40) (tt 8 2) HT_ ?_
 refine pu 3 (some 42) #[true, true, false, true, false, false, false, false] HT_ ?_
 refine pu 4 (some 43) #[true, true, false, true, true, false, false, false] HT_ ?_
 refine pu 7 (some 46) #[true, true, false, true, true, false, false, true] HT_ ?_
 refine one_ (i := 2) (N := some 41) #[true, true, true, true, true, false, false, true] rfl rfl (one_of HT_.out (by kernel_rfl)) (by decide) (fun K hK => ?_)
 refine goes_ Tryz.func73 (by kernel_rfl) rfl #[.int .i64 b] (by rfl) rfl rfl (by (try simp only [List.map_toArray, List.map_cons, List.map_nil]); first | done | rfl) ?_
 refine (clock_Day.calls b dy _ HD.out).mono ?_
 rintro q wq3 ⟨rfl, ⟨nd, rfl⟩⟩
 refine ⟨_, rfl, ?_⟩
 replace HB := Aside0.mk (pw_below_drewN HB.out nd)
 refine hK.out _ _ ⟨blk_drewN hHeld.1 nd, Kd.C_below hHeld.2 (pw_below_drewN (Below.refl _ _) nd)⟩ (fun hHeld => ?_)
 clear hK K
 refine norm_ (a' := ?_) ?_ ?_
 rotate_left
 ·show Act.put _ (some 41) _ = _
  simp only [Act.put, sA, sB, sC, i64_w, i32_w]
  rfl
 refine one_ (i := 5) (N := some 44) #[true, true, true, true, true, true, false, true] rfl rfl (one_of HT_.out (by kernel_rfl)) (by decide) (fun K hK => ?_)
 refine goes_ Tryz.func76 (by kernel_rfl) rfl #[.agg (agg r p), .int .i64 dy, .int .i64 f, .int .i64 l] (by rfl) rfl rfl (by (try simp only [List.map_toArray, List.map_cons, List.map_nil]); first | done | rfl) ?_
 refine (HDAYS.out _ (OK.out.below HB.out)).mono ?_
 rintro q wq4 ⟨⟨AL_, cL, rfl, hCL, hcL, _⟩, hb⟩
 refine ⟨_, rfl, ?_⟩
 have CL := Aside0.mk hCL; clear hCL hcL
 replace HB := Aside0.mk (below_then HB.out HB.out.size hb)
 refine hK.out _ _ ⟨blk_below hHeld.1 hb, Kd.C_below hHeld.2 hb⟩ (fun hHeld => ?_)
 clear hK K
 refine norm_ (a' := ?_) ?_ ?_
 rotate_left
 ·show Act.put _ (some 44) _ = _
  simp only [Act.put, sA, sB, sC, i64_w, i32_w]
  rfl
 refine pu 6 (some 45) (tt 8 8) HT_ ?_
 refine done_ (done_of HT_.out (by kernel_rfl)) ?_
 clear HT_ HW_
 have HK := Aside0.mk hHeld.1; have CD := Aside0.mk hHeld.2; clear hHeld
 go_wp2_with fail
 go_loopg [10, 46] L.length (fun kq v10 v46 w' => ∃ (i : Nat) (x : Int), v46 = .int .i64 x ∧ Aside0 (x = (i : Int)) ∧ Aside0 (i + kq = L.length) ∧ Aside0 ((Kd.int .i64).R 2 w' wq4.heap.size (fun _ => True) v10 (F1 i)) ∧ Aside0 (Below wq4.heap.size wq4 w'))
 case atStart => exact ⟨0, 0, rfl, ⟨rfl⟩, ⟨by omega⟩, ⟨by rw [A0.out]; exact Kd.R_nil _ _ _ _ _⟩, ⟨Below.refl _ _⟩⟩
 case round =>
  obtain ⟨i, x, rfl, HX, HI, HO, HL⟩ := hrel
  cases gk with
  | zero =>
   have l1 : decide (x < (L.length : Int)) = false := decide_eq_false (by have := HX.out; have := HI.out; omega)
   have e : i = L.length := by have := HI.out; omega
   rw [e, HT.out] at HO; clear e
   obtain ⟨AT, cT, hv, hcT, hCT⟩ := Kd.R_reads HO.out
   have HFR := Aside0.mk (show ∀ ad, AT = some ad → w.heap.size ≤ ad.block from fun ad e => Nat.le_trans HB.out.size (Kd.R_base HO.out _ (by rw [hv, e]; rfl)))
   have CT := Aside0.mk hCT; have CCT := Aside0.mk hcT; subst hv; clear hCT hcT
   have HBW := Aside0.mk (below_then HB.out HB.out.size HL.out)
   have k16 : wr.cell? ⟨w.heap.size, 16, none⟩ = some (.slice p.A16 r.l16.length p.c16) := (blk_cell (blk_below HK.out HL.out) 16).trans rfl
   go_wp2_with fail
   refine (HCH.out AT cT p.A16 p.c16 wr w.heap.size CT.out CCT.out (OK.out.below HBW.out).h16 OK.out.d16 HBW.out.size HFR.out).mono ?_
   rintro q wz ⟨⟨AZ, cZ, rfl, hCZ, hcZ, hfZ⟩, hb⟩
   have CZ := Aside0.mk hCZ; have CCZ := Aside0.mk hcZ; clear hCZ hcZ
   replace HBW := Aside0.mk (below_then HBW.out HBW.out.size hb); clear hb
   go_wp2_with fail
   go_ret
   exact ⟨⟨AZ, cZ, rfl, CZ.out, CCZ.out, hfZ⟩, HBW.out⟩
  | succ k1 =>
   have p1 : 0 ≤ x := by have := HX.out; omega
   have q1 : x < (L.length : Int) := by have := HX.out; have := HI.out; omega
   have l1 : decide (x < (L.length : Int)) = true := decide_eq_true q1
   obtain ⟨ad, e, hx⟩ := Kd.at_int (Kd.C_below CL.out HL.out) x p1 q1
   cases e
   replace p1 := eq_true p1
   replace q1 := eq_true q1
   have nx : wrap64 (x + 1) = x + 1 := by have := HX.out; have := HI.out; have := HBD.out; unfold wrap64; omega
   obtain ⟨hv, hhv⟩ : ∃ hv, rd L x = hv := ⟨_, rfl⟩
   rw [hhv] at hx
   have HV := Aside0.mk hhv; rw [HX.out] at HV; clear hhv
   go_wp2_with fail
   go_loopg [10, 52] D.length (fun kq v10 v52 w' => ∃ (j : Nat) (y : Int), v52 = .int .i64 y ∧ Aside0 (y = (j : Int)) ∧ Aside0 (j + kq = D.length) ∧ Aside0 ((Kd.int .i64).R 2 w' wq4.heap.size (fun _ => True) v10 (F2 i j)) ∧ Aside0 (Below wq4.heap.size wq4 w'))
   case atStart => exact ⟨0, 0, rfl, ⟨rfl⟩, ⟨by omega⟩, ⟨by rw [A1.out]; exact HO.out⟩, HL⟩
   case round =>
    clear HO HL hx
    obtain ⟨j, y, rfl, HY, HJ, HO, HL⟩ := hrel
    cases gk with
    | zero =>
     have l1 : decide (y < (D.length : Int)) = false := decide_eq_false (by have := HY.out; have := HJ.out; omega)
     have e : j = D.length := by have := HJ.out; omega
     have EJ := Aside0.mk e; clear e
     go_wp2_with fail
     go_roundg k1
     case measure => omega
     case rel => exact ⟨i + 1, x + 1, by simp [nx], ⟨by have := HX.out; push_cast; omega⟩, ⟨by have := HI.out; omega⟩, ⟨by rw [A4.out, ← EJ.out]; exact HO.out⟩, HL⟩
    | succ k2 =>
     have p2 : 0 ≤ y := by have := HY.out; omega
     have q2 : y < (D.length : Int) := by have := HY.out; have := HJ.out; omega
     have l2 : decide (y < (D.length : Int)) = true := decide_eq_true q2
     obtain ⟨ad2, e, hy⟩ := Kd.at_int (Kd.C_below CD.out HL.out) y p2 q2
     cases e
     replace p2 := eq_true p2
     replace q2 := eq_true q2
     have ny : wrap64 (y + 1) = y + 1 := by have := HY.out; have := HJ.out; have := HBD.out; unfold wrap64; omega
     obtain ⟨mv, hmv⟩ : ∃ mv, rd D y = mv := ⟨_, rfl⟩
     rw [hmv] at hy
     have MV := Aside0.mk hmv; rw [HY.out] at MV; clear hmv
     have GN := Aside0.mk (A3.out i j); rw [HV.out, MV.out] at GN
     obtain ⟨y1, hy1⟩ : ∃ y1, timV hv mv = y1 := ⟨_, rfl⟩
     rw [hy1] at GN
     unfold timV at hy1
     obtain ⟨li, hli⟩ : ∃ li, F2 i j = li := ⟨_, rfl⟩
     have LN := Aside0.mk (AL.out i j (by have := HI.out; omega) (by have := HJ.out; omega))
     rw [hli] at HO LN GN; clear hli
     go_wp2_with ((with_reducible refine gate_builtin (b := .append) (xs := #[.tmp 56, .tmp 61]) rfl ?_); (try (refine gate_guard (by rfl) ?_; dsimp only)); at_builtin; refine Kd.R_append (Kd.int .i64) (w0 := wq4) wq4.heap.size rfl (.tmp 56) (.tmp 61) 42 2 (.int .i64 0) 8 rfl Tryz.underlying42 (by kernel_rfl) rfl (by decide) (by omega) _ li (y1) [.int .i64 (y1)] (fun _ => True) (fun _ => False) rfl rfl ?aP (fun _ hk => hk.elim) ?aF ?aO ?aB ?aS ?aL ?_; (case aP => exact rfl); (case aB => exact (by repeat (first | (with_reducible first | exact HL.out | apply below_alloc | apply pw_below_drewN | apply below_drew1) | exact HL.out))); (case aF => exact (fun _ _ => trivial)); (case aO => exact (by (with_reducible repeat (first | apply Kd.R_alloc | apply Kd.R_drewN | apply Kd.R_drew)); exact HO.out)); (case aS => exact (below_size (by repeat (first | (with_reducible first | exact HL.out | apply below_alloc | apply pw_below_drewN | apply below_drew1) | exact HL.out)))); (case aL => have := LN.out; omega); intro v_ w_ ho hb hg hat;  clear hg hat; replace HO := Aside0.mk ho; replace HL := Aside0.mk hb; clear ho hb)
     go_roundg k2
     case measure => omega
     case rel => exact ⟨j + 1, y + 1, by simp [ny], ⟨by have := HY.out; push_cast; omega⟩, ⟨by have := HJ.out; omega⟩, ⟨by rw [GN.out]; exact HO.out⟩, HL⟩
end Go.Proofs.YtfdcldjoncednaaGreat.ExT
/- expand.asked, expand.end. -/
namespace Go.Proofs.YtfdcldjoncednaaGreat.ExE
open Go.RowKit Go.Proofs.YtfdcldjoncednaaGreatW.PrintWords Go.Proofs.YtfdcldjoncednaaGreatW.PrintLast Go.Proofs.YtfdcldjoncednaaGreatW.PrintMore Go.Proofs.YtfdcldjoncednaaGreat.M Go.Proofs.YtfdcldjoncednaaGreat.Ru Go.Proofs.YtfdcldjoncednaaGreat.MatP Go.Proofs.YtfdcldjoncednaaGreat.MatG
set_option linter.unusedVariables false
set_option linter.unusedSimpArgs false
attribute [local go_sem] max2_int min2_int max_two min_two
/-- What is wrong with what is asked. -/
def askE (fb rb : Bool) : Int := if fb = true then (if rb = true then 0 else 2) else 10
set_option maxHeartbeats 4000000 in
set_option maxRecDepth 100000 in
theorem asked (k : Nat) (r : Ru) (p : Rp) (fb rb : Bool) (b : Int) (w : World) (ok : Ok r p w) (hf : FormOk k r fb) (hr : clock_Right.f b = some rb) :
  Calls Tryz.prog 36 #[.agg (agg r p), .int .i64 b] w fun q w' => q = .returned (.int .i64 (askE fb rb)) ∧ Below w.heap.size w w' := by
 have OK := Aside0.mk ok; have HF := Aside0.mk hf; have HR := Aside0.mk hr; clear ok hf hr
 have HK := Aside0.mk (blk_new w (obj r p))
 have HB := Aside0.mk (below_alloc (Below.refl w.heap.size w) (obj r p))
 go_enter Tryz.func36, Tryz.ntmps36
 go_upto_region 1 with fail
 generalize w.alloc (obj r p) = w0 at HK HB ⊢
 go_wp2_with ((with_reducible refine gate_ (.load 27 (.tmp 2)) rfl ?_); refine Kd.event_run rfl (xR (.tmp 2) (w.heap.size) r p rfl rfl _ HK.out) ?_)
 refine (formed k r p fb _ (OK.out.below HB.out) HF.out).mono ?_
 rintro q w1 ⟨rfl, hb⟩
 replace HB := Aside0.mk (below_then HB.out HB.out.size hb)
 clear hb HK
 cases fb with
 | false => go_wp2_with fail; go_ret; exact ⟨rfl, HB.out⟩
 | true =>
  go_wp2_with fail
  refine (clock_Right.calls b rb _ HR.out).mono ?_
  rintro q w2 ⟨rfl, ⟨nd, rfl⟩⟩
  replace HB := Aside0.mk (pw_below_drewN HB.out nd)
  generalize w1.drewN nd = w2 at HB ⊢
  cases rb with
  | false => go_wp2_with fail; go_ret; exact ⟨rfl, HB.out⟩
  | true => go_wp2_with fail; go_ret; exact ⟨rfl, HB.out⟩
/-- The last second that a rule may mean. -/
def endF (r : Ru) (l : Int) : Int := if r.a6 = true then (if r.a3 = 0 then (if wrap64 (wrap64 (r.a4 + 86400) - 1) < l then wrap64 (wrap64 (r.a4 + 86400) - 1) else l) else (if r.a4 < l then r.a4 else l)) else l
set_option maxHeartbeats 4000000 in
set_option maxRecDepth 100000 in
theorem end_ (r : Ru) (p : Rp) (l : Int) (w : World) :
  Calls Tryz.prog 72 #[.agg (agg r p), .int .i64 l] w fun q w' => q = .returned (.int .i64 (endF r l)) ∧ Below w.heap.size w w' := by
 have HK := Aside0.mk (blk_new w (obj r p))
 have HB := Aside0.mk (below_alloc (Below.refl w.heap.size w) (obj r p))
 obtain ⟨z, hz⟩ : ∃ z, endF r l = z := ⟨_, rfl⟩
 have HZ := Aside0.mk hz
 rw [hz]; clear hz
 go_enter Tryz.func72, Tryz.ntmps72
 go_upto_region 1 with fail
 generalize w.alloc (obj r p) = w0 at HK HB ⊢
 have k6 : w0.cell? ⟨w.heap.size, 6, none⟩ = some (.bool r.a6) := (blk_cell HK.out 6).trans rfl
 have k3 : w0.cell? ⟨w.heap.size, 3, none⟩ = some (.int .i64 r.a3) := (blk_cell HK.out 3).trans rfl
 have k4 : w0.cell? ⟨w.heap.size, 4, none⟩ = some (.int .i64 r.a4) := (blk_cell HK.out 4).trans rfl
 cases h6 : r.a6 with
 | false =>
  rw [h6] at k6
  have e : z = l := by rw [← HZ.out]; unfold endF; rw [h6]; rfl
  clear h6; subst e
  go_wp2_with fail
  go_ret
  exact ⟨rfl, HB.out⟩
 | true =>
  rw [h6] at k6
  by_cases h3 : r.a3 = 0
  ·have c3 : (r.a3 == 0) = true := beq_iff_eq.2 h3
   obtain ⟨u, hu⟩ : ∃ u, wrap64 (wrap64 (r.a4 + 86400) - 1) = u := ⟨_, rfl⟩
   have e : (if u < l then u else l) = z := by rw [← HZ.out, ← hu]; unfold endF; rw [h6, if_pos rfl, if_pos h3]
   have EE := Aside0.mk e
   clear h6 h3 e
   have f2 : ∀ k k' : IntKind, Builtin.min2 (.int k l) (.int k' u) = pure (.int k z) := fun k k' => by rw [min2_int, EE.out]
   go_wp2_with fail
   go_ret
   exact ⟨by simp, HB.out⟩
  ·have c3 : (r.a3 == 0) = false := beq_eq_false_iff_ne.2 h3
   have e : (if r.a4 < l then r.a4 else l) = z := by rw [← HZ.out]; unfold endF; rw [h6, if_pos rfl, if_neg h3]
   have EE := Aside0.mk e
   clear h6 h3 e
   have f2 : ∀ k k' : IntKind, Builtin.min2 (.int k l) (.int k' r.a4) = pure (.int k z) := fun k k' => by rw [min2_int, EE.out]
   go_wp2_with fail
   go_ret
   exact ⟨by simp, HB.out⟩
end Go.Proofs.YtfdcldjoncednaaGreat.ExE
