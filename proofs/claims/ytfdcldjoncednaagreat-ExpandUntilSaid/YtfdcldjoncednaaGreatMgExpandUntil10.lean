/- Texts of this claim, merged: MatP. -/
import Derived.Test.YtfdcldjoncednaaGreatMgExpandUntil7
import Derived.Test.YtfdcldjoncednaaGreatMgExpandUntil9
/- match.period, match.inWeek, match.usual: a rule as one thing (Ru), what a day is (Fa). -/
namespace Go.Proofs.YtfdcldjoncednaaGreat.MatP
open Go.RowKit Go.Proofs.YtfdcldjoncednaaGreatW.PrintWords Go.Proofs.YtfdcldjoncednaaGreatW.PrintLast Go.Proofs.YtfdcldjoncednaaGreatW.PrintMore Go.Proofs.YtfdcldjoncednaaGreat.M Go.Proofs.YtfdcldjoncednaaGreat.Ru Go.Proofs.YtfdcldjoncednaaGreat.MatD
set_option linter.unusedVariables false
set_option linter.unusedSimpArgs false
/-- The period of a day (w1, w2: with which days the weeks begin). -/
def perF (r : Ru) (b x : Fa) (w1 w2 : Int) : Int := if r.a0 = 1 then wrap64 (x.day - b.day) else if r.a0 = 2 then wrap64 (Int.tdiv (wrap64 (w1 - w2)) 7) else if r.a0 = 3 then wrap64 (wrap64 (wrap64 (12 * wrap64 (x.y - b.y)) + x.m) - b.m) else wrap64 (x.y - b.y)
/-- The rule's block, the day's behind it, in a later world. -/
theorem three (r : Ru) (p : Rp) (b x : Fa) (w : World) : ∃ w0 : World, w0 = ((w.alloc (obj r p)).alloc (fobj b)).alloc (fobj x) ∧ Aside0 (w0.heap[w.heap.size]? = some (obj r p)) ∧ Aside0 (w0.heap[w.heap.size + 1]? = some (fobj b)) ∧ Aside0 (w0.heap[w.heap.size + 2]? = some (fobj x)) ∧ Aside0 (Below w.heap.size w w0) := by
 refine ⟨_, rfl, ⟨blk_below (blk_below (blk_new w _) (below_alloc (Below.refl _ _) _)) (below_alloc (Below.refl _ _) _)⟩, ⟨?_⟩, ⟨?_⟩, ⟨below_alloc (below_alloc (below_alloc (Below.refl _ _) _) _) _⟩⟩
 ·have h := blk_below (blk_new (w.alloc (obj r p)) (fobj b)) (below_alloc (Below.refl _ _) (fobj x))
  rw [show (w.alloc (obj r p)).heap.size = w.heap.size + 1 by simp] at h
  exact h
 ·have h := blk_new ((w.alloc (obj r p)).alloc (fobj b)) (fobj x)
  rw [show ((w.alloc (obj r p)).alloc (fobj b)).heap.size = w.heap.size + 2 by simp] at h
  exact h
theorem two (r : Ru) (p : Rp) (x : Fa) (w : World) : ∃ w0 : World, w0 = (w.alloc (obj r p)).alloc (fobj x) ∧ Aside0 (w0.heap[w.heap.size]? = some (obj r p)) ∧ Aside0 (w0.heap[w.heap.size + 1]? = some (fobj x)) ∧ Aside0 (Below w.heap.size w w0) := by
 refine ⟨_, rfl, ⟨blk_below (blk_new w _) (below_alloc (Below.refl _ _) _)⟩, ⟨?_⟩, ⟨below_alloc (below_alloc (Below.refl _ _) _) _⟩⟩
 have h := blk_new (w.alloc (obj r p)) (fobj x)
 rw [show (w.alloc (obj r p)).heap.size = w.heap.size + 1 by simp] at h
 exact h
theorem fcells {x : Fa} {w : World} {g : Nat} (h : w.heap[g]? = some (fobj x)) :
  w.cell? ⟨g, 0, none⟩ = some (.int .i64 x.day) ∧ w.cell? ⟨g, 1, none⟩ = some (.int .i64 x.y) ∧ w.cell? ⟨g, 2, none⟩ = some (.int .i64 x.m) ∧ w.cell? ⟨g, 3, none⟩ = some (.int .i64 x.d) ∧ w.cell? ⟨g, 4, none⟩ = some (.int .i64 x.wd) ∧ w.cell? ⟨g, 5, none⟩ = some (.int .i64 x.mn) ∧ w.cell? ⟨g, 6, none⟩ = some (.int .i64 x.mo) ∧ w.cell? ⟨g, 7, none⟩ = some (.int .i64 x.yn) ∧ w.cell? ⟨g, 8, none⟩ = some (.int .i64 x.yo) :=
 ⟨(blk_cell h 0).trans rfl, (blk_cell h 1).trans rfl, (blk_cell h 2).trans rfl, (blk_cell h 3).trans rfl, (blk_cell h 4).trans rfl, (blk_cell h 5).trans rfl, (blk_cell h 6).trans rfl, (blk_cell h 7).trans rfl, (blk_cell h 8).trans rfl⟩
/-- A rule, a day, loaded as one. -/
theorem ldR {r : Ru} {p : Rp} {w : World} {g : Nat} (h : w.heap[g]? = some (obj r p)) : (loadVar 27 ⟨g, 0, none⟩).run Tryz.prog w = .ok (.agg (agg r p)) w :=
 run_loadVar_row w g 27 27 (agg r p) (0, 0) _ h Tryz.underlying27 rfl (by kernel_rfl)
theorem ldF {x : Fa} {w : World} {g : Nat} (h : w.heap[g]? = some (fobj x)) : (loadVar 65 ⟨g, 0, none⟩).run Tryz.prog w = .ok (.agg (fa x)) w :=
 run_loadVar_row w g 65 65 (fa x) (0, 0) _ h Tryz.underlying65 rfl (by kernel_rfl)
theorem xR {ρ : Operand → Value} {o : Oper} (q : Operand) (g : Nat) (r : Ru) (p : Rp) (hop : o.op = .load 27 q) (hp : ρ q = .pointer (some ⟨g, 0, none⟩)) (w : World) (hg : w.heap[g]? = some (obj r p)) : (execOp ρ o).run Tryz.prog w = .ok (.value (.agg (agg r p))) w := by
 unfold execOp
 rw [hop]
 show (do pure (Next.value (← Instr.loadAt 27 (ρ q))) : Sem Next).run Tryz.prog w = _
 rw [hp]
 simp only [Instr.loadAt, Instr.sureAddr, Sem.run_bind, Sem.run_pure, Result.andThen_ok, ldR hg]
theorem xF {ρ : Operand → Value} {o : Oper} (q : Operand) (g : Nat) (x : Fa) (hop : o.op = .load 65 q) (hp : ρ q = .pointer (some ⟨g, 0, none⟩)) (w : World) (hg : w.heap[g]? = some (fobj x)) : (execOp ρ o).run Tryz.prog w = .ok (.value (.agg (fa x))) w := by
 unfold execOp
 rw [hop]
 show (do pure (Next.value (← Instr.loadAt 65 (ρ q))) : Sem Next).run Tryz.prog w = _
 rw [hp]
 simp only [Instr.loadAt, Instr.sureAddr, Sem.run_bind, Sem.run_pure, Result.andThen_ok, ldF hg]
set_option maxHeartbeats 4000000 in
set_option maxRecDepth 100000 in
theorem period (r : Ru) (p : Rp) (b x : Fa) (w1 w2 : Int) (h1 : match_weekBegin.f x.day r.a7 = some w1) (h2 : match_weekBegin.f b.day r.a7 = some w2) (w : World) :
  Calls Tryz.prog 26 #[.agg (agg r p), .agg (fa b), .agg (fa x)] w fun e w' => e = .returned (.int .i64 (perF r b x w1 w2)) ∧ Below w.heap.size w w' := by
 obtain ⟨w0, hw0, HK, HG, HF, HB⟩ := three r p b x w
 have H1 := Aside0.mk h1; have H2 := Aside0.mk h2; clear h1 h2
 have W0 := Aside0.mk hw0
 have k0 := (blk_cell HK.out 0).trans rfl
 have k7 := (blk_cell HK.out 7).trans rfl
 obtain ⟨g0, g1, g2, g3, g4, g5, g6, g7, g8⟩ := fcells HG.out
 obtain ⟨f0, f1, f2, f3, f4, f5, f6, f7, f8⟩ := fcells HF.out
 clear hw0
 go_enter Tryz.func26, Tryz.ntmps26
 go_upto_region 1 with fail
 rw [← W0.out]
 by_cases a : r.a0 = 1
 ·have a1 : (r.a0 == 1) = true := beq_iff_eq.2 a
  have A := Aside0.mk a
  clear a
  go_wp2_with fail
  go_ret
  exact ⟨by simp [perF, A.out, i64_w], HB.out⟩
 have a1 : (r.a0 == 1) = false := beq_eq_false_iff_ne.2 a
 have A := Aside0.mk a
 clear a
 by_cases a : r.a0 = 2
 ·have a2 : (r.a0 == 2) = true := beq_iff_eq.2 a
  have A2 := Aside0.mk a
  clear a
  go_wp2_with fail
  go_quiet (first | (go_at_call 49; ((with_reducible refine (match_weekBegin.calls x.day r.a7 w1 _ H1.out).mono ?_); rintro e w' ⟨rfl, ⟨nd, rfl⟩⟩; (first | exact ⟨rfl, _, World.drewN_drewN _ _ _⟩ | exact ⟨rfl, _, Eq.trans (World.drewN_drewN _ _ _) (congrArg (World.drewN _) (Nat.add_assoc _ _ _))⟩))) | (go_at_call 49; ((with_reducible refine (match_weekBegin.calls b.day r.a7 w2 _ H2.out).mono ?_); rintro e w' ⟨rfl, ⟨nd, rfl⟩⟩; (first | exact ⟨rfl, _, World.drewN_drewN _ _ _⟩ | exact ⟨rfl, _, Eq.trans (World.drewN_drewN _ _ _) (congrArg (World.drewN _) (Nat.add_assoc _ _ _))⟩))))
  go_wp2_with fail
  go_ret
  exact ⟨by simp [perF, A2.out, i64_w], pw_below_drewN HB.out _⟩
 have a2 : (r.a0 == 2) = false := beq_eq_false_iff_ne.2 a
 have A2 := Aside0.mk a
 clear a
 by_cases a : r.a0 = 3
 ·have a3 : (r.a0 == 3) = true := beq_iff_eq.2 a
  have A3 := Aside0.mk a
  clear a
  go_wp2_with fail
  go_ret
  exact ⟨by simp [perF, A3.out, i64_w], HB.out⟩
 have a3 : (r.a0 == 3) = false := beq_eq_false_iff_ne.2 a
 have A3 := Aside0.mk a
 clear a
 go_wp2_with fail
 go_ret
 exact ⟨by simp [perF, A.out, A2.out, A3.out, i64_w], HB.out⟩
def inWeekF (x : Fa) (y : Int) (b : Bool) : Bool := if y = x.y then b else false
set_option maxHeartbeats 4000000 in
set_option maxRecDepth 100000 in
theorem inWeek (k : Nat) (r : Ru) (p : Rp) (x : Fa) (y n e1 t e2 : Int) (b : Bool) (h1 : iso_Week.f k x.day r.a7 = some (y, n, e1)) (h2 : y = x.y → iso_Weeks.f k y r.a7 = some (t, e2)) (h3 : match_place_in.f k n t r.l14 = some b) (w : World) (ok : Ok r p w) :
  Calls Tryz.prog 83 #[.agg (agg r p), .agg (fa x)] w fun e w' => e = .returned (.bool (inWeekF x y b)) ∧ Below w.heap.size w w' := by
 obtain ⟨w0, hw0, HK, HF, HB⟩ := two r p x w
 have HO := Aside0.mk ok; clear ok
 have H1 := Aside0.mk h1; have H2 := Aside0.mk h2; have H3 := Aside0.mk h3; clear h1 h2 h3
 have W0 := Aside0.mk hw0
 have k7 := (blk_cell HK.out 7).trans rfl
 have f0 := (blk_cell HF.out 0).trans rfl
 clear hw0
 go_enter Tryz.func83, Tryz.ntmps83
 go_upto_region 1 with fail
 rw [← W0.out]
 go_wp2_with fail
 refine (iso_Week.calls k x.day r.a7 y n e1 w0 H1.out).mono ?_
 rintro e w1 ⟨rfl, hb⟩
 replace HK := Aside0.mk (blk_below HK.out hb)
 replace HF := Aside0.mk (blk_below HF.out hb)
 replace HB := Aside0.mk (below_then HB.out HB.out.size hb)
 clear hb k7 f0
 have k7 := (blk_cell HK.out 7).trans rfl
 have f1 := (blk_cell HF.out 1).trans rfl
 by_cases a : y = x.y
 ·have a1 : (y != x.y) = false := bne_eq_false_iff_eq.2 a
  have a2 : (y == x.y) = true := beq_iff_eq.2 a
  have A := Aside0.mk a
  clear a
  go_wp2_with fail
  refine (iso_Weeks.calls k y r.a7 t e2 _ (H2.out A.out)).mono ?_
  rintro e w2 ⟨rfl, ⟨nd, rfl⟩⟩
  replace HK := Aside0.mk (blk_drewN HK.out nd)
  replace HB := Aside0.mk (pw_below_drewN HB.out nd)
  clear k7 f1
  generalize w1.drewN nd = w2 at HK HB ⊢
  have k14 := (blk_cell HK.out 14).trans rfl
  go_wp2_with fail
  refine (match_place_in.calls k n t p.A14 p.c14 r.l14 b _ (Kd.C_below HO.out.h14 HB.out) HO.out.d14 H3.out).mono ?_
  rintro e w3 ⟨rfl, hb⟩
  replace HB := Aside0.mk (below_then HB.out HB.out.size hb)
  clear hb
  go_wp2_with fail
  go_ret
  exact ⟨by simp [inWeekF, A.out], HB.out⟩
 ·have a1 : (y != x.y) = true := bne_iff_ne.2 a
  have a2 : (y == x.y) = false := beq_eq_false_iff_ne.2 a
  have A := Aside0.mk a
  clear a
  go_wp2_with fail
  go_ret
  exact ⟨by simp [inWeekF, A.out], HB.out⟩
/-- Is a day like the begin, where the rule says nothing? -/
def usualF (r : Ru) (b x : Fa) : Bool := if 0 < r.l13.length + r.l12.length + r.l11.length then true else if r.a0 = 1 then true else if r.a0 = 2 ∨ 0 < r.l14.length then x.wd == b.wd else if x.d = b.d then (if r.a0 = 3 ∨ 0 < r.l15.length then true else x.m == b.m) else false
set_option maxHeartbeats 8000000 in
set_option maxRecDepth 100000 in
theorem usual (r : Ru) (p : Rp) (b x : Fa) (s : Int) (h13 : r.l13.length ≤ 40) (h12 : r.l12.length ≤ 40) (h11 : r.l11.length ≤ 40) (w : World) :
  Calls Tryz.prog 86 #[.agg (agg r p), .agg (fa b), .agg (fa x)] w fun e w' => e = .returned (.bool (usualF r b x)) ∧ Below w.heap.size w w' := by
 obtain ⟨w0, hw0, HK, HG, HF, HB⟩ := three r p b x w
 have W0 := Aside0.mk hw0
 obtain ⟨b0, b1, b2, b3, b4, b5, b6, b7, b8, b9, b10, b11, b12, b13, b14, b15, b16⟩ := cells HK.out
 obtain ⟨g0, g1, g2, g3, g4, g5, g6, g7, g8⟩ := fcells HG.out
 obtain ⟨f0, f1, f2, f3, f4, f5, f6, f7, f8⟩ := fcells HF.out
 obtain ⟨n11, e11⟩ : ∃ n : Nat, r.l11.length = n := ⟨_, rfl⟩
 obtain ⟨n12, e12⟩ : ∃ n : Nat, r.l12.length = n := ⟨_, rfl⟩
 obtain ⟨n13, e13⟩ : ∃ n : Nat, r.l13.length = n := ⟨_, rfl⟩
 obtain ⟨n14, e14⟩ : ∃ n : Nat, r.l14.length = n := ⟨_, rfl⟩
 obtain ⟨n15, e15⟩ : ∃ n : Nat, r.l15.length = n := ⟨_, rfl⟩
 rw [e11] at b11 h11
 rw [e12] at b12 h12
 rw [e13] at b13 h13
 rw [e14] at b14
 rw [e15] at b15
 have E := Aside0.mk (And.intro e11 (And.intro e12 (And.intro e13 (And.intro e14 e15))))
 obtain ⟨s1, hs1⟩ : ∃ s : Int, wrap64 ((n13 : Int) + (n12 : Int)) = s := ⟨_, rfl⟩
 obtain ⟨s2, hs2⟩ : ∃ s : Int, wrap64 (s1 + (n11 : Int)) = s := ⟨_, rfl⟩
 have q1 : s1 = (n13 : Int) + (n12 : Int) := by rw [← hs1]; unfold wrap64; omega
 have q1a : 0 ≤ s1 := by omega
 have q1b : s1 ≤ 80 := by omega
 have q2 : s2 = s1 + (n11 : Int) := by rw [← hs2]; clear hs2 hs1 q1; unfold wrap64; omega
 have S2 := Aside0.mk (show s2 = ((n13 + n12 + n11 : Nat) : Int) by rw [q2, q1]; push_cast; omega)
 clear q1 q1a q1b q2
 clear hw0 e11 e12 e13 e14 e15 h11 h12 h13
 go_enter Tryz.func86, Tryz.ntmps86
 go_upto_region 1 with fail
 rw [← W0.out]
 by_cases a : s2 > 0
 ·have a1 : decide (s2 > 0) = true := decide_eq_true a
  have A := Aside0.mk (show 0 < n13 + n12 + n11 by have := S2.out; omega)
  clear a
  go_wp2_with fail
  go_ret
  exact ⟨by obtain ⟨e1, e2, e3, e4, e5⟩ := E.out; unfold usualF; rw [e1, e2, e3, if_pos A.out] <;> rfl, HB.out⟩
 have a1 : decide (s2 > 0) = false := decide_eq_false a
 have A := Aside0.mk (show ¬ 0 < n13 + n12 + n11 by have := S2.out; omega)
 clear a
 by_cases c : r.a0 = 1
 ·have c1 : (r.a0 == 1) = true := beq_iff_eq.2 c
  have C := Aside0.mk c
  clear c
  go_wp2_with fail
  go_ret
  exact ⟨by obtain ⟨e1, e2, e3, e4, e5⟩ := E.out; unfold usualF; rw [e1, e2, e3, if_neg A.out, if_pos C.out] <;> rfl, HB.out⟩
 have c1 : (r.a0 == 1) = false := beq_eq_false_iff_ne.2 c
 have C := Aside0.mk c
 clear c
 by_cases d : r.a0 = 2
 ·have d1 : (r.a0 == 2) = true := beq_iff_eq.2 d
  have D := Aside0.mk d
  clear d
  go_wp2_with fail
  go_ret
  exact ⟨by obtain ⟨e1, e2, e3, e4, e5⟩ := E.out; unfold usualF; rw [e1, e2, e3, if_neg A.out, if_neg C.out, if_pos (Or.inl D.out)] <;> rfl, HB.out⟩
 have d1 : (r.a0 == 2) = false := beq_eq_false_iff_ne.2 d
 have D := Aside0.mk d
 clear d
 by_cases f : 0 < n14
 ·have d2 : decide ((n14 : Int) > 0) = true := decide_eq_true (by omega)
  have d3 : decide (0 < n14) = true := decide_eq_true f
  have F := Aside0.mk f
  clear f
  go_wp2_with fail
  go_ret
  exact ⟨by obtain ⟨e1, e2, e3, e4, e5⟩ := E.out; unfold usualF; rw [e1, e2, e3, e4, if_neg A.out, if_neg C.out, if_pos (Or.inr F.out)] <;> rfl, HB.out⟩
 have d2 : decide ((n14 : Int) > 0) = false := decide_eq_false (by omega)
 have d3 : decide (0 < n14) = false := decide_eq_false f
 have F := Aside0.mk (show ¬ (r.a0 = 2 ∨ 0 < n14) from fun q => q.elim D.out f)
 clear f
 by_cases g : x.d = b.d
 ·have g1 : (x.d == b.d) = true := beq_iff_eq.2 g
  have G := Aside0.mk g
  clear g
  by_cases h : r.a0 = 3
  ·have h1 : (r.a0 == 3) = true := beq_iff_eq.2 h
   have H := Aside0.mk h
   clear h
   go_wp2_with fail
   go_ret
   exact ⟨by obtain ⟨e1, e2, e3, e4, e5⟩ := E.out; unfold usualF; rw [e1, e2, e3, e4, if_neg A.out, if_neg C.out, if_neg F.out, if_pos G.out, if_pos (Or.inl H.out)] <;> rfl, HB.out⟩
  have h1 : (r.a0 == 3) = false := beq_eq_false_iff_ne.2 h
  have H := Aside0.mk h
  clear h
  by_cases i : 0 < n15
  ·have i2 : decide ((n15 : Int) > 0) = true := decide_eq_true (by omega)
   have i3 : decide (0 < n15) = true := decide_eq_true i
   have I := Aside0.mk i
   clear i
   go_wp2_with fail
   go_ret
   exact ⟨by obtain ⟨e1, e2, e3, e4, e5⟩ := E.out; unfold usualF; rw [e1, e2, e3, e4, e5, if_neg A.out, if_neg C.out, if_neg F.out, if_pos G.out, if_pos (Or.inr I.out)] <;> rfl, HB.out⟩
  have i2 : decide ((n15 : Int) > 0) = false := decide_eq_false (by omega)
  have i3 : decide (0 < n15) = false := decide_eq_false i
  have I := Aside0.mk (show ¬ (r.a0 = 3 ∨ 0 < n15) from fun q => q.elim H.out i)
  clear i
  go_wp2_with fail
  go_ret
  exact ⟨by obtain ⟨e1, e2, e3, e4, e5⟩ := E.out; unfold usualF; rw [e1, e2, e3, e4, e5, if_neg A.out, if_neg C.out, if_neg F.out, if_pos G.out, if_neg I.out] <;> rfl, HB.out⟩
 have g1 : (x.d == b.d) = false := beq_eq_false_iff_ne.2 g
 have G := Aside0.mk g
 clear g
 go_wp2_with fail
 go_ret
 exact ⟨by obtain ⟨e1, e2, e3, e4, e5⟩ := E.out; unfold usualF; rw [e1, e2, e3, e4, if_neg A.out, if_neg C.out, if_neg F.out, if_neg G.out] <;> rfl, HB.out⟩
end Go.Proofs.YtfdcldjoncednaaGreat.MatP
