/- Texts of this claim, merged: RecG. -/
import Derived.Test.YtddoidcbpcmlaaaDoorMgEventForms21
import Derived.Test.YtddoidcbpcmlaaaDoorMgEventForms22
import Derived.Test.YtddoidcbpcmlaaaDoorMgEventForms23
/- recur.ends, recur.fits, recur.Formed: a rule as one thing. (Written by gen_recg.py.) -/
namespace Go.Proofs.YtddoidcbpcmlaaaDoor.RecG
open Go.RowKit Go.Proofs.YtddoidcbpcmlaaaDoorW.PrintWords Go.Proofs.YtddoidcbpcmlaaaDoorW.PrintLast Go.Proofs.YtddoidcbpcmlaaaDoorW.PrintMore Go.Proofs.YtddoidcbpcmlaaaDoor.M Go.Proofs.YtddoidcbpcmlaaaDoor.Cal Go.Proofs.YtddoidcbpcmlaaaDoor.Ru Go.Proofs.YtddoidcbpcmlaaaDoor.RefF Go.Proofs.YtddoidcbpcmlaaaDoor.RecL
set_option linter.unusedVariables false
set_option linter.unusedSimpArgs false
attribute [local go_sem high] eqA23
/-- A rule, loaded as one. -/
theorem ldR {r : Ru} {p : Rp} {w : World} {g : Nat} (h : w.heap[g]? = some (obj r p)) : (loadVar 27 ⟨g, 0, none⟩).run Tryd.prog w = .ok (.agg (agg r p)) w :=
 run_loadVar_row w g 27 27 (agg r p) (0, 0) _ h Tryd.underlying27 rfl (by kernel_rfl)
theorem xR {ρ : Operand → Value} {o : Oper} (q : Operand) (g : Nat) (r : Ru) (p : Rp) (hop : o.op = .load 27 q) (hp : ρ q = .pointer (some ⟨g, 0, none⟩)) (w : World) (hg : w.heap[g]? = some (obj r p)) : (execOp ρ o).run Tryd.prog w = .ok (.value (.agg (agg r p))) w := by
 unfold execOp
 rw [hop]
 show (do pure (Next.value (← Instr.loadAt 27 (ρ q))) : Sem Next).run Tryd.prog w = _
 rw [hp]
 simp only [Instr.loadAt, Instr.sureAddr, Sem.run_bind, Sem.run_pure, Result.andThen_ok, ldR hg]
def endsF (r : Ru) (rt : Bool) : Bool := !(decide (r.a2 < 0)) && (!(decide (r.a2 > 1000)) && untl r rt)
set_option maxHeartbeats 8000000 in
set_option maxRecDepth 100000 in
theorem ends (r : Ru) (p : Rp) (rt : Bool) (hrt : value_RightTime.f r.a3 r.a4 r.a5 = some rt) (w : World) :
  Calls Tryd.prog 55 #[.agg (agg r p)] w fun e w' => e = .returned (.bool (endsF r rt)) ∧ Below w.heap.size w w' := by
 have RT := Aside0.mk hrt; clear hrt
 have HK := Aside0.mk (blk_new w (obj r p))
 have HB := Aside0.mk (below_alloc (Below.refl w.heap.size w) (obj r p))
 go_enter Tryd.func55, Tryd.ntmps55
 go_upto_region 1 with fail
 generalize w.alloc (obj r p) = w0 at HK HB ⊢
 generalize hB : w.heap.size = B at HK ⊢
 have k2 : w0.cell? ⟨B, 2, none⟩ = some (.int .i64 r.a2) := (blk_cell HK.out 2).trans rfl
 have k3 : w0.cell? ⟨B, 3, none⟩ = some (.int .i64 r.a3) := (blk_cell HK.out 3).trans rfl
 have k4 : w0.cell? ⟨B, 4, none⟩ = some (.int .i64 r.a4) := (blk_cell HK.out 4).trans rfl
 have k5 : w0.cell? ⟨B, 5, none⟩ = some (.string r.a5) := (blk_cell HK.out 5).trans rfl
 have k6 : w0.cell? ⟨B, 6, none⟩ = some (.bool r.a6) := (blk_cell HK.out 6).trans rfl
 by_cases a : r.a2 < 0
 ·have a1 : decide (r.a2 < 0) = true := decide_eq_true a
  have A := Aside0.mk a1; clear a
  go_wp2_with fail
  go_ret
  exact ⟨by unfold endsF; rw [A.out] <;> rfl, hB ▸ HB.out⟩
 have a1 : decide (r.a2 < 0) = false := decide_eq_false a
 have A := Aside0.mk a1; clear a
 by_cases b : r.a2 > 1000
 ·have b1 : decide (r.a2 > 1000) = true := decide_eq_true b
  have B1 := Aside0.mk b1; clear b
  go_wp2_with fail
  go_ret
  exact ⟨by unfold endsF; rw [A.out, B1.out] <;> rfl, hB ▸ HB.out⟩
 have b1 : decide (r.a2 > 1000) = false := decide_eq_false b
 have B1 := Aside0.mk b1; clear b
 cases h6 : r.a6 with
 | false =>
  have U := Aside0.mk (show untl r rt = (r.a3 == 0 && (r.a4 == 0 && (r.a5.toList == ([] : List UInt8)))) by unfold untl; rw [if_neg (by rw [h6]; simp)])
  go_wp2_with fail
  go_ret
  exact ⟨by unfold endsF; rw [A.out, B1.out, U.out]; cases (r.a3 == 0) <;> cases (r.a4 == 0) <;> cases r.a5.toList <;> rfl, hB ▸ HB.out⟩
 | true =>
  by_cases u2 : r.a2 = 0
  ·have u2a : (r.a2 == 0) = true := beq_iff_eq.2 u2
   have U := Aside0.mk (show untl r rt = (rt && decide (r.a3 ≠ 3)) by unfold untl; rw [if_pos h6, decide_eq_true u2, Bool.true_and])
   clear u2
   go_wp2_with fail
   refine (value_RightTime.calls r.a3 r.a4 r.a5 rt _ RT.out).mono ?_
   rintro e w1 ⟨rfl, hb⟩
   replace HK := Aside0.mk (blk_below HK.out hb)
   replace HB := Aside0.mk (below_then HB.out HB.out.size hb)
   clear hb k2 k3 k4 k5 k6
   have k3 : w1.cell? ⟨B, 3, none⟩ = some (.int .i64 r.a3) := (blk_cell HK.out 3).trans rfl
   have k4 : w1.cell? ⟨B, 4, none⟩ = some (.int .i64 r.a4) := (blk_cell HK.out 4).trans rfl
   have k5 : w1.cell? ⟨B, 5, none⟩ = some (.string r.a5) := (blk_cell HK.out 5).trans rfl
   cases rt with
   | false =>
    go_wp2_with fail
    go_ret
    exact ⟨by unfold endsF; rw [A.out, B1.out, U.out] <;> rfl, hB ▸ HB.out⟩
   | true =>
    by_cases u3 : r.a3 = 3
    ·have u3a : (r.a3 != 3) = false := bne_eq_false_iff_eq.2 u3
     have U3 := Aside0.mk (show decide (r.a3 ≠ 3) = false from decide_eq_false (fun z => z u3)); clear u3
     go_wp2_with fail
     go_ret
     exact ⟨by unfold endsF; rw [A.out, B1.out, U.out, U3.out] <;> rfl, hB ▸ HB.out⟩
    ·have u3a : (r.a3 != 3) = true := bne_iff_ne.2 u3
     have U3 := Aside0.mk (show decide (r.a3 ≠ 3) = true from decide_eq_true u3); clear u3
     go_wp2_with fail
     go_ret
     exact ⟨by unfold endsF; rw [A.out, B1.out, U.out, U3.out] <;> rfl, hB ▸ HB.out⟩
  ·have u2a : (r.a2 == 0) = false := beq_eq_false_iff_ne.2 u2
   have U := Aside0.mk (show untl r rt = false by unfold untl; rw [if_pos h6, decide_eq_false u2, Bool.false_and]); clear u2
   go_wp2_with fail
   go_ret
   exact ⟨by unfold endsF; rw [A.out, B1.out, U.out] <;> rfl, hB ▸ HB.out⟩
theorem mayDayV (n d : Int) : recur_mayDay.f n d = some (mayDayP n d) := by
 unfold recur_mayDay.f mayDayP
 by_cases a : d ≥ 0 <;> by_cases b : d < 7 <;> by_cases c : n ≥ -53 <;> simp [a, b, c, show (d ≤ 6) = (d < 7) from propext (by omega)]
theorem compare_ (a b : Int) : cmp_Compare_int.f a b = some (if a < b then -1 else if a > b then 1 else 0) := by
 unfold cmp_Compare_int.f cmp_isNaN_int.f
 simp
 by_cases h : a < b
 ·rw [if_pos h, if_pos h]
 ·rw [if_neg h, if_neg h]; by_cases g : b < a <;> simp [g]
theorem or_ (k : Nat) (hk : 3 ≤ k) (x y : Int) : cmp_Or_int.f k [x, y] = some (if x = 0 then y else x) := by
 obtain ⟨k, rfl⟩ : ∃ m, k = m + 3 := ⟨k - 3, by omega⟩
 have e1 : wrap64 (0 + 1) = 1 := w64 (by omega) (by omega)
 have e2 : wrap64 (1 + 1) = 2 := w64 (by omega) (by omega)
 have s1 : cmp_Or_int.l0 (k + 3) 0 [x, y] 2 0 = if x = 0 then cmp_Or_int.l0 (k + 2) 0 [x, y] 2 1 else some x := by
  rw [cmp_Or_int.l0, if_pos (by decide), if_pos (by decide), if_pos (by simp), e1]; rfl
 have s2 : cmp_Or_int.l0 (k + 2) 0 [x, y] 2 1 = if y = 0 then cmp_Or_int.l0 (k + 1) 0 [x, y] 2 2 else some y := by
  rw [cmp_Or_int.l0, if_pos (by decide), if_pos (by decide), if_pos (by simp), e2]; rfl
 have s3 : cmp_Or_int.l0 (k + 1) 0 [x, y] 2 2 = some 0 := by rw [cmp_Or_int.l0, if_neg (by decide)]
 show cmp_Or_int.l0 (k + 3) 0 [x, y] 2 0 = _
 rw [s1, s2, s3]
 by_cases a : x = 0
 ·rw [if_pos a, if_pos a]
  by_cases b : y = 0
  ·rw [if_pos b, b]
  ·rw [if_neg b]
 ·rw [if_neg a, if_neg a]
theorem order_ (k : Nat) (hk : 3 ≤ k) (n d n' d' : Int) : ∃ o, recur_order.f k n d n' d' = some o ∧ (o ≥ 0 ↔ beforeP n d n' d' = false) := by
 unfold recur_order.f
 rw [compare_, Option.bind_some, compare_, Option.bind_some, or_ k hk, Option.bind_some]
 refine ⟨_, rfl, ?_⟩
 unfold beforeP
 by_cases a : d < d'
 ·simp [a]
 ·by_cases b : d > d'
  ·have : ¬ d = d' := by omega
   simp [a, b, this]
  ·have : d = d' := by omega
   subst this
   by_cases c : n < n'
   ·simp [c]
   ·by_cases e : n > n' <;> simp [c, e]
theorem days0 (k0 : Nat) (l : List S101) (hl : l.length ≤ 40) (hk0 : 3 ≤ k0) : ∀ (j i : Nat), j + i = l.length → dayU l i → recur_formedDays.l0 (k0 + j + 1) l l (l.length : Int) (i : Int) = some (daysB l) := by
 intro j
 induction j with
 | zero =>
  intro i hj hu
  obtain rfl : i = l.length := by omega
  unfold recur_formedDays.l0
  rw [if_neg (by omega), (daysB_iff l).2 hu]
 | succ j ih =>
  intro i hj hu
  have ew : wrap64 ((i : Int) + 1) = ((i + 1 : Nat) : Int) := by rw [w64 (by omega) (by omega)]; omega
  rw [show k0 + (j + 1) + 1 = (k0 + j + 1) + 1 by omega]
  unfold recur_formedDays.l0
  rw [if_pos (by omega), if_pos (by omega), if_pos (by omega), mayDayV, Option.bind_some]
  by_cases a : mayDayP (wd l (i : Int)).f0 (wd l (i : Int)).f1 = true
  ·rw [if_pos a]
   by_cases b : (i : Int) > 0
   ·rw [if_pos b]
    have e1 : wrap64 ((i : Int) - 1) = ((i - 1 : Nat) : Int) := by rw [w64 (by omega) (by omega)]; omega
    rw [e1, if_pos (by omega), if_pos (by omega)]
    obtain ⟨o, ho, hi⟩ := order_ (k0 + j + 1) (by omega) (wd l ((i - 1 : Nat) : Int)).f0 (wd l ((i - 1 : Nat) : Int)).f1 (wd l (i : Int)).f0 (wd l (i : Int)).f1
    rw [ho, Option.bind_some]
    by_cases c : o ≥ 0
    ·rw [if_pos c, daysB_not (j := i) (by omega) (fun q => by have h1 := q.2 (by omega); rw [hi.1 c] at h1; cases h1)]
    ·rw [if_neg c, ew]
     refine ih (i + 1) (by omega) (fun j' hj' => ?_)
     by_cases e : j' = i
     ·subst e
      refine ⟨a, fun _ => ?_⟩
      cases h1 : beforeP (wd l ((j' - 1 : Nat) : Int)).f0 (wd l ((j' - 1 : Nat) : Int)).f1 (wd l (j' : Int)).f0 (wd l (j' : Int)).f1 with
      | true => rfl
      | false => exact absurd (hi.2 h1) c
     ·exact hu j' (by omega)
   ·rw [if_neg b, ew]
    refine ih (i + 1) (by omega) (fun j' hj' => ?_)
    by_cases e : j' = i
    ·subst e; exact ⟨a, fun q => absurd b (by omega)⟩
    ·exact hu j' (by omega)
  ·rw [if_neg a, daysB_not (j := i) (by omega) (fun q => a q.1)]
def dF (l : List S101) : Bool := !(decide (l.length > 40)) && daysB l
theorem days (k : Nat) (l : List S101) (hk : 50 ≤ k) : recur_formedDays.f k l = some (dF l) := by
 unfold recur_formedDays.f dF
 by_cases hl : l.length > 40
 ·rw [if_pos (by omega), decide_eq_true hl]; rfl
 rw [if_neg (by omega), decide_eq_false hl]
 have h := days0 (k - l.length - 1) l (by omega) (by omega) l.length 0 (by omega) (fun j hj => by omega)
 rw [show k - l.length - 1 + l.length + 1 = k by omega] at h
 exact h.trans (by simp)
theorem m1_eq (n : Nat) : RecS.m1 n = if n = 0 then 0 else 1 := by
 unfold RecS.m1
 split <;> split <;> omega
theorem lists_gt (l8 l9 l10 l11 l12 l13 l14 l15 l16 : Nat) (h : l16 ≠ 0) : decide (RecS.listsF l8 l9 l10 l11 l12 l13 l14 l15 l16 > 1) = !decide ((l11 + l8 + l9 + l10 + l12 + l13 + l14 + l15 : Nat) = 0) := by
 have e : RecS.listsF l8 l9 l10 l11 l12 l13 l14 l15 l16 = RecS.m1 l8 + RecS.m1 l9 + RecS.m1 l10 + RecS.m1 l12 + RecS.m1 l13 + RecS.m1 l14 + RecS.m1 l15 + RecS.m1 l16 + RecS.m1 l11 := by
  unfold RecS.listsF RecS.sm; simp
 have h16 : RecS.m1 l16 = 1 := by rw [m1_eq, if_neg h]
 have b8 := RecS.m1_bd l8; have b9 := RecS.m1_bd l9; have b10 := RecS.m1_bd l10; have b11 := RecS.m1_bd l11; have b12 := RecS.m1_bd l12; have b13 := RecS.m1_bd l13; have b14 := RecS.m1_bd l14; have b15 := RecS.m1_bd l15
 have z : ∀ n, RecS.m1 n = 0 ↔ n = 0 := fun n => by rw [m1_eq]; split <;> simp [*]
 have z8 := z l8; have z9 := z l9; have z10 := z l10; have z11 := z l11; have z12 := z l12; have z13 := z l13; have z14 := z l14; have z15 := z l15
 rw [e, h16, ← decide_not, decide_eq_decide]
 generalize RecS.m1 l8 = m8 at *; generalize RecS.m1 l9 = m9 at *; generalize RecS.m1 l10 = m10 at *; generalize RecS.m1 l11 = m11 at *; generalize RecS.m1 l12 = m12 at *; generalize RecS.m1 l13 = m13 at *; generalize RecS.m1 l14 = m14 at *; generalize RecS.m1 l15 = m15 at *
 constructor
 ·intro q p
  have : l8 = 0 ∧ l9 = 0 ∧ l10 = 0 ∧ l11 = 0 ∧ l12 = 0 ∧ l13 = 0 ∧ l14 = 0 ∧ l15 = 0 := by omega
  obtain ⟨p8, p9, p10, p11, p12, p13, p14, p15⟩ := this
  have := z8.2 p8; have := z9.2 p9; have := z10.2 p10; have := z11.2 p11; have := z12.2 p12; have := z13.2 p13; have := z14.2 p14; have := z15.2 p15
  omega
 ·intro q
  by_cases p : m8 = 0 ∧ m9 = 0 ∧ m10 = 0 ∧ m11 = 0 ∧ m12 = 0 ∧ m13 = 0 ∧ m14 = 0 ∧ m15 = 0
  ·exfalso
   obtain ⟨p8, p9, p10, p11, p12, p13, p14, p15⟩ := p
   have := z8.1 p8; have := z9.1 p9; have := z10.1 p10; have := z11.1 p11; have := z12.1 p12; have := z13.1 p13; have := z14.1 p14; have := z15.1 p15
   omega
  ·omega
theorem oth_eq (r : Ru) : oth r 8 = ((r.l11.length + r.l8.length + r.l9.length + r.l10.length + r.l12.length + r.l13.length + r.l14.length + r.l15.length : Nat) : Int) := by
 simp only [oth]
 unfold LL
 simp
/-- What the places ask: others beside them. -/
def pos (r : Ru) : Bool := !(decide ((r.l16.length : Int) > 0) && decide (oth r 8 = 0))
theorem pos_none {r : Ru} (a : r.l16.length = 0) : pos r = true := by unfold pos; rw [decide_eq_false (by omega)]; rfl
theorem pos_some {r : Ru} (a : ¬ r.l16.length = 0) : pos r = decide (RecS.listsF r.l8.length r.l9.length r.l10.length r.l11.length r.l12.length r.l13.length r.l14.length r.l15.length r.l16.length > 1) := by
 unfold pos
 rw [lists_gt _ _ _ _ _ _ _ _ _ a, oth_eq, decide_eq_true (show (r.l16.length : Int) > 0 by omega), Bool.true_and]
 congr 1
 exact decide_eq_decide.2 (by omega)
theorem last_eq (r : Ru) : last r (oth r 8) = (!((decide (r.a0 ≠ 4) && decide (((r.l13.length + r.l14.length : Nat) : Int) > 0)) || (decide (r.a0 = 2) && decide ((r.l12.length : Int) > 0))) && (pos r && (!(nthU r.l11 r.l11.length) || decide (r.a0 = 3) || (decide (r.a0 = 4) && decide ((r.l14.length : Int) = 0))))) := by
 unfold last pos
 generalize (decide (r.a0 ≠ 4) && decide (((r.l13.length + r.l14.length : Nat) : Int) > 0)) = a
 generalize (decide (r.a0 = 2) && decide ((r.l12.length : Int) > 0)) = b
 generalize (decide ((r.l16.length : Int) > 0) && decide (oth r 8 = 0)) = c
 cases a <;> cases b <;> cases c <;> simp
set_option maxHeartbeats 8000000 in
set_option maxRecDepth 100000 in
theorem fits (r : Ru) (p : Rp) (h13 : r.l13.length ≤ 40) (h14 : r.l14.length ≤ 40) (w : World) (ok : Ok r p w) :
  Calls Tryd.prog 59 #[.agg (agg r p)] w fun e w' => e = .returned (.bool (last r (oth r 8))) ∧ Below w.heap.size w w' := by
 have OK := Aside0.mk ok; clear ok
 have HK := Aside0.mk (blk_new w (obj r p))
 have HB := Aside0.mk (below_alloc (Below.refl w.heap.size w) (obj r p))
 go_enter Tryd.func59, Tryd.ntmps59
 go_upto_region 1 with fail
 generalize w.alloc (obj r p) = w0 at HK HB ⊢
 generalize hB : w.heap.size = B at HK ⊢
 have k0 : w0.cell? ⟨B, 0, none⟩ = some (.int .i64 r.a0) := (blk_cell HK.out 0).trans rfl
 have k11 : w0.cell? ⟨B, 11, none⟩ = some (.slice p.A11 r.l11.length p.c11) := (blk_cell HK.out 11).trans rfl
 have k12 : w0.cell? ⟨B, 12, none⟩ = some (.slice p.A12 r.l12.length p.c12) := (blk_cell HK.out 12).trans rfl
 have k13 : w0.cell? ⟨B, 13, none⟩ = some (.slice p.A13 r.l13.length p.c13) := (blk_cell HK.out 13).trans rfl
 have k14 : w0.cell? ⟨B, 14, none⟩ = some (.slice p.A14 r.l14.length p.c14) := (blk_cell HK.out 14).trans rfl
 have k16 : w0.cell? ⟨B, 16, none⟩ = some (.slice p.A16 r.l16.length p.c16) := (blk_cell HK.out 16).trans rfl
 obtain ⟨n12, e12⟩ : ∃ n : Nat, r.l12.length = n := ⟨_, rfl⟩
 rw [e12] at k12
 have N12 := Aside0.mk e12
 obtain ⟨n13, e13⟩ : ∃ n : Nat, r.l13.length = n := ⟨_, rfl⟩
 rw [e13] at k13
 have N13 := Aside0.mk e13
 obtain ⟨n14, e14⟩ : ∃ n : Nat, r.l14.length = n := ⟨_, rfl⟩
 rw [e14] at k14
 have N14 := Aside0.mk e14
 obtain ⟨n16, e16⟩ : ∃ n : Nat, r.l16.length = n := ⟨_, rfl⟩
 rw [e16] at k16
 have N16 := Aside0.mk e16
 rw [e13] at h13
 rw [e14] at h14
 clear e12 e13 e14 e16
 obtain ⟨s, hs⟩ : ∃ s : Int, wrap64 ((n13 : Int) + (n14 : Int)) = s := ⟨_, rfl⟩
 have S3 := Aside0.mk (show s = ((n13 + n14 : Nat) : Int) by rw [← hs]; unfold wrap64; push_cast; omega)
 clear h13 h14
 have NT := Aside0.mk (show RecN.nthF r.l11 = nthU r.l11 r.l11.length from rfl)
 by_cases a : r.a0 = 4
 ·have A := Aside0.mk a; clear a
  have x2 : (r.a0 == 2) = false := beq_eq_false_iff_ne.2 (by have := A.out; omega)
  have y2 : (r.a0 != 2) = true := bne_iff_ne.2 (by have := A.out; omega)
  have E2 := Aside0.mk (show decide (r.a0 = 2) = false from decide_eq_false (by have := A.out; omega))
  have x3 : (r.a0 == 3) = false := beq_eq_false_iff_ne.2 (by have := A.out; omega)
  have y3 : (r.a0 != 3) = true := bne_iff_ne.2 (by have := A.out; omega)
  have E3 := Aside0.mk (show decide (r.a0 = 3) = false from decide_eq_false (by have := A.out; omega))
  have x4 : (r.a0 == 4) = true := beq_iff_eq.2 (by have := A.out; omega)
  have y4 : (r.a0 != 4) = false := bne_eq_false_iff_eq.2 (by have := A.out; omega)
  have E4 := Aside0.mk (show decide (r.a0 = 4) = true from decide_eq_true (by have := A.out; omega))
  have E4n := Aside0.mk (show decide (r.a0 ≠ 4) = false from decide_eq_false (by have := A.out; omega))
  go_wp2_with fail
  refine (RecN.nth p.A11 p.c11 r.l11 _ (Kd.C_below OK.out.h11 HB.out)).mono ?_
  rintro e w1 ⟨rfl, hb⟩
  replace HK := Aside0.mk (blk_below HK.out hb)
  replace HB := Aside0.mk (below_then HB.out HB.out.size hb)
  clear hb k0 k11 k12 k13 k14 k16
  have k0 : w1.cell? ⟨B, 0, none⟩ = some (.int .i64 r.a0) := (blk_cell HK.out 0).trans rfl
  have k14 : w1.cell? ⟨B, 14, none⟩ = some (.slice p.A14 r.l14.length p.c14) := (blk_cell HK.out 14).trans rfl
  have k16 : w1.cell? ⟨B, 16, none⟩ = some (.slice p.A16 r.l16.length p.c16) := (blk_cell HK.out 16).trans rfl
  rw [N14.out] at k14
  rw [N16.out] at k16
  rw [NT.out]
  generalize hn : nthU r.l11 r.l11.length = nt
  have NN := Aside0.mk hn; clear hn
  cases nt with
  | false =>
   by_cases z : n16 = 0
   ·have z1 : ((n16 : Int) == 0) = true := beq_iff_eq.2 (by omega); have z2 : (n16 == 0) = true := beq_iff_eq.2 z; have P := Aside0.mk (pos_none (r := r) (by rw [N16.out]; exact z)); clear z
    go_wp2_with fail
    go_ret
    exact ⟨by rw [last_eq, P.out, E4n.out, E2.out, E3.out, E4.out, NN.out] <;> rfl, hB ▸ HB.out⟩
   ·have z1 : ((n16 : Int) == 0) = false := beq_eq_false_iff_ne.2 (by omega); have z2 : (n16 == 0) = false := beq_eq_false_iff_ne.2 z; have P := Aside0.mk (pos_some (r := r) (by rw [N16.out]; exact z)); clear z
    go_wp2_with ((with_reducible refine gate_ (.load 27 (.tmp 1)) rfl ?_); (try (refine gate_guard (by rfl) ?_; dsimp only)); refine Kd.event_run rfl (xR (.tmp 1) (B) r p rfl rfl _ HK.out) ?_)
    refine (RecS.lists_ r.a0 r.a1 r.a2 r.a3 r.a4 r.a5 r.a6 r.a7 p.A8 p.c8 r.l8 p.A9 p.c9 r.l9 p.A10 p.c10 r.l10 p.A11 p.c11 r.l11 p.A12 p.c12 r.l12 p.A13 p.c13 r.l13 p.A14 p.c14 r.l14 p.A15 p.c15 r.l15 p.A16 p.c16 r.l16 _).mono ?_
    rintro e w2 ⟨rfl, hb⟩
    replace HB := Aside0.mk (below_then HB.out HB.out.size hb)
    clear hb
    generalize hq : RecS.listsF r.l8.length r.l9.length r.l10.length r.l11.length r.l12.length r.l13.length r.l14.length r.l15.length r.l16.length = q at P ⊢
    clear hq
    go_wp2_with fail
    go_ret
    exact ⟨by rw [last_eq, P.out, E4n.out, E2.out, E3.out, E4.out, NN.out]; cases decide (q > 1) <;> rfl, hB ▸ HB.out⟩
  | true =>
   by_cases y : 0 < n14
   ·have y1 : decide ((n14 : Int) > 0) = true := decide_eq_true (by omega); have y2 : decide (0 < n14) = true := decide_eq_true y; have Y := Aside0.mk (show decide ((r.l14.length : Int) = 0) = false from decide_eq_false (by rw [N14.out]; omega)); clear y
    go_wp2_with fail
    go_ret
    exact ⟨by rw [last_eq, E4n.out, E2.out, E3.out, E4.out, NN.out, Y.out]; cases pos r <;> rfl, hB ▸ HB.out⟩
   ·have y1 : decide ((n14 : Int) > 0) = false := decide_eq_false (by omega); have y2 : decide (0 < n14) = false := decide_eq_false y; have Y := Aside0.mk (show decide ((r.l14.length : Int) = 0) = true from decide_eq_true (by rw [N14.out]; omega)); clear y
    by_cases z : n16 = 0
    ·have z1 : ((n16 : Int) == 0) = true := beq_iff_eq.2 (by omega); have z2 : (n16 == 0) = true := beq_iff_eq.2 z; have P := Aside0.mk (pos_none (r := r) (by rw [N16.out]; exact z)); clear z
     go_wp2_with fail
     go_ret
     exact ⟨by rw [last_eq, P.out, E4n.out, E2.out, E3.out, E4.out, NN.out, Y.out] <;> rfl, hB ▸ HB.out⟩
    ·have z1 : ((n16 : Int) == 0) = false := beq_eq_false_iff_ne.2 (by omega); have z2 : (n16 == 0) = false := beq_eq_false_iff_ne.2 z; have P := Aside0.mk (pos_some (r := r) (by rw [N16.out]; exact z)); clear z
     go_wp2_with ((with_reducible refine gate_ (.load 27 (.tmp 1)) rfl ?_); (try (refine gate_guard (by rfl) ?_; dsimp only)); refine Kd.event_run rfl (xR (.tmp 1) (B) r p rfl rfl _ HK.out) ?_)
     refine (RecS.lists_ r.a0 r.a1 r.a2 r.a3 r.a4 r.a5 r.a6 r.a7 p.A8 p.c8 r.l8 p.A9 p.c9 r.l9 p.A10 p.c10 r.l10 p.A11 p.c11 r.l11 p.A12 p.c12 r.l12 p.A13 p.c13 r.l13 p.A14 p.c14 r.l14 p.A15 p.c15 r.l15 p.A16 p.c16 r.l16 _).mono ?_
     rintro e w2 ⟨rfl, hb⟩
     replace HB := Aside0.mk (below_then HB.out HB.out.size hb)
     clear hb
     generalize hq : RecS.listsF r.l8.length r.l9.length r.l10.length r.l11.length r.l12.length r.l13.length r.l14.length r.l15.length r.l16.length = q at P ⊢
     clear hq
     go_wp2_with fail
     go_ret
     exact ⟨by rw [last_eq, P.out, E4n.out, E2.out, E3.out, E4.out, NN.out, Y.out]; cases decide (q > 1) <;> rfl, hB ▸ HB.out⟩
 have A4 := Aside0.mk a; clear a
 by_cases a : r.a0 = 2
 ·have A := Aside0.mk a; clear a
  have x2 : (r.a0 == 2) = true := beq_iff_eq.2 (by have := A.out; omega)
  have y2 : (r.a0 != 2) = false := bne_eq_false_iff_eq.2 (by have := A.out; omega)
  have E2 := Aside0.mk (show decide (r.a0 = 2) = true from decide_eq_true (by have := A.out; omega))
  have x3 : (r.a0 == 3) = false := beq_eq_false_iff_ne.2 (by have := A.out; omega)
  have y3 : (r.a0 != 3) = true := bne_iff_ne.2 (by have := A.out; omega)
  have E3 := Aside0.mk (show decide (r.a0 = 3) = false from decide_eq_false (by have := A.out; omega))
  have x4 : (r.a0 == 4) = false := beq_eq_false_iff_ne.2 (by have := A.out; omega)
  have y4 : (r.a0 != 4) = true := bne_iff_ne.2 (by have := A.out; omega)
  have E4 := Aside0.mk (show decide (r.a0 = 4) = false from decide_eq_false (by have := A.out; omega))
  have E4n := Aside0.mk (show decide (r.a0 ≠ 4) = true from decide_eq_true (by have := A.out; omega))
  by_cases b : s > 0
  ·have b1 : decide (s > 0) = true := decide_eq_true b; have BB := Aside0.mk (show decide (((r.l13.length + r.l14.length : Nat) : Int) > 0) = true from decide_eq_true (by rw [N13.out, N14.out]; have := S3.out; omega)); clear b
   go_wp2_with fail
   go_ret
   exact ⟨by rw [last_eq, E4n.out, BB.out] <;> rfl, hB ▸ HB.out⟩
  have b1 : decide (s > 0) = false := decide_eq_false b; have BB := Aside0.mk (show decide (((r.l13.length + r.l14.length : Nat) : Int) > 0) = false from decide_eq_false (by rw [N13.out, N14.out]; have := S3.out; omega)); clear b
  by_cases c : 0 < n12
  ·have c1 : decide ((n12 : Int) > 0) = true := decide_eq_true (by omega); have c2 : decide (0 < n12) = true := decide_eq_true c; have CC := Aside0.mk (show decide ((r.l12.length : Int) > 0) = true from decide_eq_true (by rw [N12.out]; omega)); clear c
   go_wp2_with fail
   go_ret
   exact ⟨by rw [last_eq, E4n.out, E2.out, BB.out, CC.out] <;> rfl, hB ▸ HB.out⟩
  have c1 : decide ((n12 : Int) > 0) = false := decide_eq_false (by omega); have c2 : decide (0 < n12) = false := decide_eq_false c; have CC := Aside0.mk (show decide ((r.l12.length : Int) > 0) = false from decide_eq_false (by rw [N12.out]; omega)); clear c
  go_wp2_with fail
  refine (RecN.nth p.A11 p.c11 r.l11 _ (Kd.C_below OK.out.h11 HB.out)).mono ?_
  rintro e w1 ⟨rfl, hb⟩
  replace HK := Aside0.mk (blk_below HK.out hb)
  replace HB := Aside0.mk (below_then HB.out HB.out.size hb)
  clear hb k0 k11 k12 k13 k14 k16
  have k0 : w1.cell? ⟨B, 0, none⟩ = some (.int .i64 r.a0) := (blk_cell HK.out 0).trans rfl
  have k14 : w1.cell? ⟨B, 14, none⟩ = some (.slice p.A14 r.l14.length p.c14) := (blk_cell HK.out 14).trans rfl
  have k16 : w1.cell? ⟨B, 16, none⟩ = some (.slice p.A16 r.l16.length p.c16) := (blk_cell HK.out 16).trans rfl
  rw [N14.out] at k14
  rw [N16.out] at k16
  rw [NT.out]
  generalize hn : nthU r.l11 r.l11.length = nt
  have NN := Aside0.mk hn; clear hn
  cases nt with
  | false =>
   by_cases z : n16 = 0
   ·have z1 : ((n16 : Int) == 0) = true := beq_iff_eq.2 (by omega); have z2 : (n16 == 0) = true := beq_iff_eq.2 z; have P := Aside0.mk (pos_none (r := r) (by rw [N16.out]; exact z)); clear z
    go_wp2_with fail
    go_ret
    exact ⟨by rw [last_eq, P.out, E4n.out, E2.out, E3.out, E4.out, BB.out, CC.out, NN.out] <;> rfl, hB ▸ HB.out⟩
   ·have z1 : ((n16 : Int) == 0) = false := beq_eq_false_iff_ne.2 (by omega); have z2 : (n16 == 0) = false := beq_eq_false_iff_ne.2 z; have P := Aside0.mk (pos_some (r := r) (by rw [N16.out]; exact z)); clear z
    go_wp2_with ((with_reducible refine gate_ (.load 27 (.tmp 1)) rfl ?_); (try (refine gate_guard (by rfl) ?_; dsimp only)); refine Kd.event_run rfl (xR (.tmp 1) (B) r p rfl rfl _ HK.out) ?_)
    refine (RecS.lists_ r.a0 r.a1 r.a2 r.a3 r.a4 r.a5 r.a6 r.a7 p.A8 p.c8 r.l8 p.A9 p.c9 r.l9 p.A10 p.c10 r.l10 p.A11 p.c11 r.l11 p.A12 p.c12 r.l12 p.A13 p.c13 r.l13 p.A14 p.c14 r.l14 p.A15 p.c15 r.l15 p.A16 p.c16 r.l16 _).mono ?_
    rintro e w2 ⟨rfl, hb⟩
    replace HB := Aside0.mk (below_then HB.out HB.out.size hb)
    clear hb
    generalize hq : RecS.listsF r.l8.length r.l9.length r.l10.length r.l11.length r.l12.length r.l13.length r.l14.length r.l15.length r.l16.length = q at P ⊢
    clear hq
    go_wp2_with fail
    go_ret
    exact ⟨by rw [last_eq, P.out, E4n.out, E2.out, E3.out, E4.out, BB.out, CC.out, NN.out]; cases decide (q > 1) <;> rfl, hB ▸ HB.out⟩
  | true =>
   go_wp2_with fail
   go_ret
   exact ⟨by rw [last_eq, E4n.out, E2.out, E3.out, E4.out, BB.out, CC.out, NN.out]; cases pos r <;> rfl, hB ▸ HB.out⟩
 have A2 := Aside0.mk a; clear a
 by_cases a : r.a0 = 3
 ·have A := Aside0.mk a; clear a
  have x2 : (r.a0 == 2) = false := beq_eq_false_iff_ne.2 (by have := A.out; omega)
  have y2 : (r.a0 != 2) = true := bne_iff_ne.2 (by have := A.out; omega)
  have E2 := Aside0.mk (show decide (r.a0 = 2) = false from decide_eq_false (by have := A.out; omega))
  have x3 : (r.a0 == 3) = true := beq_iff_eq.2 (by have := A.out; omega)
  have y3 : (r.a0 != 3) = false := bne_eq_false_iff_eq.2 (by have := A.out; omega)
  have E3 := Aside0.mk (show decide (r.a0 = 3) = true from decide_eq_true (by have := A.out; omega))
  have x4 : (r.a0 == 4) = false := beq_eq_false_iff_ne.2 (by have := A.out; omega)
  have y4 : (r.a0 != 4) = true := bne_iff_ne.2 (by have := A.out; omega)
  have E4 := Aside0.mk (show decide (r.a0 = 4) = false from decide_eq_false (by have := A.out; omega))
  have E4n := Aside0.mk (show decide (r.a0 ≠ 4) = true from decide_eq_true (by have := A.out; omega))
  by_cases b : s > 0
  ·have b1 : decide (s > 0) = true := decide_eq_true b; have BB := Aside0.mk (show decide (((r.l13.length + r.l14.length : Nat) : Int) > 0) = true from decide_eq_true (by rw [N13.out, N14.out]; have := S3.out; omega)); clear b
   go_wp2_with fail
   go_ret
   exact ⟨by rw [last_eq, E4n.out, BB.out] <;> rfl, hB ▸ HB.out⟩
  have b1 : decide (s > 0) = false := decide_eq_false b; have BB := Aside0.mk (show decide (((r.l13.length + r.l14.length : Nat) : Int) > 0) = false from decide_eq_false (by rw [N13.out, N14.out]; have := S3.out; omega)); clear b
  go_wp2_with fail
  refine (RecN.nth p.A11 p.c11 r.l11 _ (Kd.C_below OK.out.h11 HB.out)).mono ?_
  rintro e w1 ⟨rfl, hb⟩
  replace HK := Aside0.mk (blk_below HK.out hb)
  replace HB := Aside0.mk (below_then HB.out HB.out.size hb)
  clear hb k0 k11 k12 k13 k14 k16
  have k0 : w1.cell? ⟨B, 0, none⟩ = some (.int .i64 r.a0) := (blk_cell HK.out 0).trans rfl
  have k14 : w1.cell? ⟨B, 14, none⟩ = some (.slice p.A14 r.l14.length p.c14) := (blk_cell HK.out 14).trans rfl
  have k16 : w1.cell? ⟨B, 16, none⟩ = some (.slice p.A16 r.l16.length p.c16) := (blk_cell HK.out 16).trans rfl
  rw [N14.out] at k14
  rw [N16.out] at k16
  rw [NT.out]
  generalize hn : nthU r.l11 r.l11.length = nt
  have NN := Aside0.mk hn; clear hn
  cases nt with
  | false =>
   by_cases z : n16 = 0
   ·have z1 : ((n16 : Int) == 0) = true := beq_iff_eq.2 (by omega); have z2 : (n16 == 0) = true := beq_iff_eq.2 z; have P := Aside0.mk (pos_none (r := r) (by rw [N16.out]; exact z)); clear z
    go_wp2_with fail
    go_ret
    exact ⟨by rw [last_eq, P.out, E4n.out, E2.out, E3.out, E4.out, BB.out, NN.out] <;> rfl, hB ▸ HB.out⟩
   ·have z1 : ((n16 : Int) == 0) = false := beq_eq_false_iff_ne.2 (by omega); have z2 : (n16 == 0) = false := beq_eq_false_iff_ne.2 z; have P := Aside0.mk (pos_some (r := r) (by rw [N16.out]; exact z)); clear z
    go_wp2_with ((with_reducible refine gate_ (.load 27 (.tmp 1)) rfl ?_); (try (refine gate_guard (by rfl) ?_; dsimp only)); refine Kd.event_run rfl (xR (.tmp 1) (B) r p rfl rfl _ HK.out) ?_)
    refine (RecS.lists_ r.a0 r.a1 r.a2 r.a3 r.a4 r.a5 r.a6 r.a7 p.A8 p.c8 r.l8 p.A9 p.c9 r.l9 p.A10 p.c10 r.l10 p.A11 p.c11 r.l11 p.A12 p.c12 r.l12 p.A13 p.c13 r.l13 p.A14 p.c14 r.l14 p.A15 p.c15 r.l15 p.A16 p.c16 r.l16 _).mono ?_
    rintro e w2 ⟨rfl, hb⟩
    replace HB := Aside0.mk (below_then HB.out HB.out.size hb)
    clear hb
    generalize hq : RecS.listsF r.l8.length r.l9.length r.l10.length r.l11.length r.l12.length r.l13.length r.l14.length r.l15.length r.l16.length = q at P ⊢
    clear hq
    go_wp2_with fail
    go_ret
    exact ⟨by rw [last_eq, P.out, E4n.out, E2.out, E3.out, E4.out, BB.out, NN.out]; cases decide (q > 1) <;> rfl, hB ▸ HB.out⟩
  | true =>
   by_cases z : n16 = 0
   ·have z1 : ((n16 : Int) == 0) = true := beq_iff_eq.2 (by omega); have z2 : (n16 == 0) = true := beq_iff_eq.2 z; have P := Aside0.mk (pos_none (r := r) (by rw [N16.out]; exact z)); clear z
    go_wp2_with fail
    go_ret
    exact ⟨by rw [last_eq, P.out, E4n.out, E2.out, E3.out, E4.out, BB.out, NN.out] <;> rfl, hB ▸ HB.out⟩
   ·have z1 : ((n16 : Int) == 0) = false := beq_eq_false_iff_ne.2 (by omega); have z2 : (n16 == 0) = false := beq_eq_false_iff_ne.2 z; have P := Aside0.mk (pos_some (r := r) (by rw [N16.out]; exact z)); clear z
    go_wp2_with ((with_reducible refine gate_ (.load 27 (.tmp 1)) rfl ?_); (try (refine gate_guard (by rfl) ?_; dsimp only)); refine Kd.event_run rfl (xR (.tmp 1) (B) r p rfl rfl _ HK.out) ?_)
    refine (RecS.lists_ r.a0 r.a1 r.a2 r.a3 r.a4 r.a5 r.a6 r.a7 p.A8 p.c8 r.l8 p.A9 p.c9 r.l9 p.A10 p.c10 r.l10 p.A11 p.c11 r.l11 p.A12 p.c12 r.l12 p.A13 p.c13 r.l13 p.A14 p.c14 r.l14 p.A15 p.c15 r.l15 p.A16 p.c16 r.l16 _).mono ?_
    rintro e w2 ⟨rfl, hb⟩
    replace HB := Aside0.mk (below_then HB.out HB.out.size hb)
    clear hb
    generalize hq : RecS.listsF r.l8.length r.l9.length r.l10.length r.l11.length r.l12.length r.l13.length r.l14.length r.l15.length r.l16.length = q at P ⊢
    clear hq
    go_wp2_with fail
    go_ret
    exact ⟨by rw [last_eq, P.out, E4n.out, E2.out, E3.out, E4.out, BB.out, NN.out]; cases decide (q > 1) <;> rfl, hB ▸ HB.out⟩
 have A3 := Aside0.mk a; clear a
 have x2 : (r.a0 == 2) = false := beq_eq_false_iff_ne.2 (by have := A2.out; omega)
 have y2 : (r.a0 != 2) = true := bne_iff_ne.2 (by have := A2.out; omega)
 have E2 := Aside0.mk (show decide (r.a0 = 2) = false from decide_eq_false (by have := A2.out; omega))
 have x3 : (r.a0 == 3) = false := beq_eq_false_iff_ne.2 (by have := A3.out; omega)
 have y3 : (r.a0 != 3) = true := bne_iff_ne.2 (by have := A3.out; omega)
 have E3 := Aside0.mk (show decide (r.a0 = 3) = false from decide_eq_false (by have := A3.out; omega))
 have x4 : (r.a0 == 4) = false := beq_eq_false_iff_ne.2 (by have := A4.out; omega)
 have y4 : (r.a0 != 4) = true := bne_iff_ne.2 (by have := A4.out; omega)
 have E4 := Aside0.mk (show decide (r.a0 = 4) = false from decide_eq_false (by have := A4.out; omega))
 have E4n := Aside0.mk (show decide (r.a0 ≠ 4) = true from decide_eq_true (by have := A4.out; omega))
 by_cases b : s > 0
 ·have b1 : decide (s > 0) = true := decide_eq_true b; have BB := Aside0.mk (show decide (((r.l13.length + r.l14.length : Nat) : Int) > 0) = true from decide_eq_true (by rw [N13.out, N14.out]; have := S3.out; omega)); clear b
  go_wp2_with fail
  go_ret
  exact ⟨by rw [last_eq, E4n.out, BB.out] <;> rfl, hB ▸ HB.out⟩
 have b1 : decide (s > 0) = false := decide_eq_false b; have BB := Aside0.mk (show decide (((r.l13.length + r.l14.length : Nat) : Int) > 0) = false from decide_eq_false (by rw [N13.out, N14.out]; have := S3.out; omega)); clear b
 go_wp2_with fail
 refine (RecN.nth p.A11 p.c11 r.l11 _ (Kd.C_below OK.out.h11 HB.out)).mono ?_
 rintro e w1 ⟨rfl, hb⟩
 replace HK := Aside0.mk (blk_below HK.out hb)
 replace HB := Aside0.mk (below_then HB.out HB.out.size hb)
 clear hb k0 k11 k12 k13 k14 k16
 have k0 : w1.cell? ⟨B, 0, none⟩ = some (.int .i64 r.a0) := (blk_cell HK.out 0).trans rfl
 have k14 : w1.cell? ⟨B, 14, none⟩ = some (.slice p.A14 r.l14.length p.c14) := (blk_cell HK.out 14).trans rfl
 have k16 : w1.cell? ⟨B, 16, none⟩ = some (.slice p.A16 r.l16.length p.c16) := (blk_cell HK.out 16).trans rfl
 rw [N14.out] at k14
 rw [N16.out] at k16
 rw [NT.out]
 generalize hn : nthU r.l11 r.l11.length = nt
 have NN := Aside0.mk hn; clear hn
 cases nt with
 | false =>
  by_cases z : n16 = 0
  ·have z1 : ((n16 : Int) == 0) = true := beq_iff_eq.2 (by omega); have z2 : (n16 == 0) = true := beq_iff_eq.2 z; have P := Aside0.mk (pos_none (r := r) (by rw [N16.out]; exact z)); clear z
   go_wp2_with fail
   go_ret
   exact ⟨by rw [last_eq, P.out, E4n.out, E2.out, E3.out, E4.out, BB.out, NN.out] <;> rfl, hB ▸ HB.out⟩
  ·have z1 : ((n16 : Int) == 0) = false := beq_eq_false_iff_ne.2 (by omega); have z2 : (n16 == 0) = false := beq_eq_false_iff_ne.2 z; have P := Aside0.mk (pos_some (r := r) (by rw [N16.out]; exact z)); clear z
   go_wp2_with ((with_reducible refine gate_ (.load 27 (.tmp 1)) rfl ?_); (try (refine gate_guard (by rfl) ?_; dsimp only)); refine Kd.event_run rfl (xR (.tmp 1) (B) r p rfl rfl _ HK.out) ?_)
   refine (RecS.lists_ r.a0 r.a1 r.a2 r.a3 r.a4 r.a5 r.a6 r.a7 p.A8 p.c8 r.l8 p.A9 p.c9 r.l9 p.A10 p.c10 r.l10 p.A11 p.c11 r.l11 p.A12 p.c12 r.l12 p.A13 p.c13 r.l13 p.A14 p.c14 r.l14 p.A15 p.c15 r.l15 p.A16 p.c16 r.l16 _).mono ?_
   rintro e w2 ⟨rfl, hb⟩
   replace HB := Aside0.mk (below_then HB.out HB.out.size hb)
   clear hb
   generalize hq : RecS.listsF r.l8.length r.l9.length r.l10.length r.l11.length r.l12.length r.l13.length r.l14.length r.l15.length r.l16.length = q at P ⊢
   clear hq
   go_wp2_with fail
   go_ret
   exact ⟨by rw [last_eq, P.out, E4n.out, E2.out, E3.out, E4.out, BB.out, NN.out]; cases decide (q > 1) <;> rfl, hB ▸ HB.out⟩
 | true =>
  go_wp2_with fail
  go_ret
  exact ⟨by rw [last_eq, E4n.out, E2.out, E3.out, E4.out, BB.out, NN.out]; cases pos r <;> rfl, hB ▸ HB.out⟩
def frmB (r : Ru) (rt : Bool) : Bool := grd r && (untl r rt && (all8 r && (daysB r.l11 && last r (oth r 8))))
theorem frm_ends {r : Ru} {rt : Bool} (h : endsF r rt = false) : frmB r rt = false := by
 unfold endsF at h; unfold frmB grd
 generalize decide (r.a2 < 0) = a at h ⊢; generalize decide (r.a2 > 1000) = b at h ⊢; generalize untl r rt = c at h ⊢
 revert h; cases a <;> cases b <;> cases c <;> simp
theorem frm_days {r : Ru} {rt : Bool} (h : dF r.l11 = false) : frmB r rt = false := by
 unfold dF at h; unfold frmB grd
 generalize decide (r.l11.length > 40) = a at h ⊢; generalize daysB r.l11 = b at h ⊢
 revert h; cases a <;> cases b <;> simp
theorem frm_all {r : Ru} {rt : Bool} (h : all8 r = false) : frmB r rt = false := by unfold frmB; rw [h]; simp
theorem frm_last {r : Ru} {rt : Bool} (h1 : endsF r rt = true) (h2 : dF r.l11 = true) (h3 : all8 r = true) (h4 : (!(decide (r.a0 < 1)) && !(decide (r.a0 > 4)) && !(decide (r.a1 < 1)) && !(decide (r.a1 > 1000)) && !(decide (r.a7 < 0)) && !(decide (r.a7 > 6))) = true) : frmB r rt = last r (oth r 8) := by
 unfold endsF at h1; unfold dF at h2; unfold frmB grd
 simp only [Bool.and_eq_true] at h1 h2 h4
 obtain ⟨a, b, c⟩ := h1
 obtain ⟨e, f⟩ := h2
 obtain ⟨⟨⟨⟨⟨g1, g2⟩, g3⟩, g4⟩, g5⟩, g6⟩ := h4
 rw [a, b, c, e, f, g1, g2, g3, g4, g5, g6, h3]; rfl
set_option maxHeartbeats 8000000 in
set_option maxRecDepth 100000 in
theorem formed (r : Ru) (p : Rp) (k : Nat) (hk : 50 ≤ k) (rt : Bool) (hrt : value_RightTime.f r.a3 r.a4 r.a5 = some rt) (w : World) (ok : Ok r p w) :
  Calls Tryd.prog 38 #[.agg (agg r p)] w fun e w' => e = .returned (.bool (frmB r rt)) ∧ Below w.heap.size w w' := by
 have OK := Aside0.mk ok; have RT := Aside0.mk hrt; have DY := Aside0.mk (days k r.l11 hk); clear ok hrt hk
 have HK := Aside0.mk (blk_new w (obj r p))
 have HB := Aside0.mk (below_alloc (Below.refl w.heap.size w) (obj r p))
 by_cases g0 : r.a0 < 1
 ·have f0 : decide (r.a0 < 1) = true := decide_eq_true g0
  have G := Aside0.mk f0; clear g0
  go_enter Tryd.func38, Tryd.ntmps38
  go_wp2_with fail
  go_ret
  exact ⟨by unfold frmB grd; rw [G.out]; simp, HB.out⟩
 have f0 : decide (r.a0 < 1) = false := decide_eq_false g0
 have G0 := Aside0.mk f0; clear g0
 by_cases g1 : r.a0 > 4
 ·have f1 : decide (r.a0 > 4) = true := decide_eq_true g1
  have G := Aside0.mk f1; clear g1
  go_enter Tryd.func38, Tryd.ntmps38
  go_wp2_with fail
  go_ret
  exact ⟨by unfold frmB grd; rw [G.out]; simp, HB.out⟩
 have f1 : decide (r.a0 > 4) = false := decide_eq_false g1
 have G1 := Aside0.mk f1; clear g1
 by_cases g2 : r.a1 < 1
 ·have f2 : decide (r.a1 < 1) = true := decide_eq_true g2
  have G := Aside0.mk f2; clear g2
  go_enter Tryd.func38, Tryd.ntmps38
  go_wp2_with fail
  go_ret
  exact ⟨by unfold frmB grd; rw [G.out]; simp, HB.out⟩
 have f2 : decide (r.a1 < 1) = false := decide_eq_false g2
 have G2 := Aside0.mk f2; clear g2
 by_cases g3 : r.a1 > 1000
 ·have f3 : decide (r.a1 > 1000) = true := decide_eq_true g3
  have G := Aside0.mk f3; clear g3
  go_enter Tryd.func38, Tryd.ntmps38
  go_wp2_with fail
  go_ret
  exact ⟨by unfold frmB grd; rw [G.out]; simp, HB.out⟩
 have f3 : decide (r.a1 > 1000) = false := decide_eq_false g3
 have G3 := Aside0.mk f3; clear g3
 by_cases g4 : r.a7 < 0
 ·have f4 : decide (r.a7 < 0) = true := decide_eq_true g4
  have G := Aside0.mk f4; clear g4
  go_enter Tryd.func38, Tryd.ntmps38
  go_wp2_with fail
  go_ret
  exact ⟨by unfold frmB grd; rw [G.out]; simp, HB.out⟩
 have f4 : decide (r.a7 < 0) = false := decide_eq_false g4
 have G4 := Aside0.mk f4; clear g4
 by_cases g5 : r.a7 > 6
 ·have f5 : decide (r.a7 > 6) = true := decide_eq_true g5
  have G := Aside0.mk f5; clear g5
  go_enter Tryd.func38, Tryd.ntmps38
  go_wp2_with fail
  go_ret
  exact ⟨by unfold frmB grd; rw [G.out]; simp, HB.out⟩
 have f5 : decide (r.a7 > 6) = false := decide_eq_false g5
 have G5 := Aside0.mk f5; clear g5
 go_enter Tryd.func38, Tryd.ntmps38
 go_wp2_with ((with_reducible refine gate_ (.load 27 (.tmp 1)) rfl ?_); (try (refine gate_guard (by rfl) ?_; dsimp only)); refine Kd.event_run rfl (xR (.tmp 1) (w.heap.size) r p rfl rfl _ HK.out) ?_)
 generalize w.alloc (obj r p) = w0 at HK HB ⊢
 generalize hB : w.heap.size = B at HK ⊢
 refine (ends r p rt RT.out w0).mono ?_
 rintro e1 w1 ⟨rfl, hb⟩
 replace HK := Aside0.mk (blk_below HK.out hb)
 replace HB := Aside0.mk (below_then HB.out HB.out.size hb)
 clear hb
 generalize he : endsF r rt = eb
 have HE := Aside0.mk he; clear he
 cases eb with
 | false =>
  go_wp2_with fail
  go_ret
  exact ⟨by rw [frm_ends HE.out] <;> rfl, hB ▸ HB.out⟩
 | true =>
  have k11 : w1.cell? ⟨B, 11, none⟩ = some (.slice p.A11 r.l11.length p.c11) := (blk_cell HK.out 11).trans rfl
  go_wp2_with fail
  clear k11
  refine (recur_formedDays.calls k p.A11 p.c11 r.l11 _ w1 (Kd.C_below OK.out.h11 HB.out) OK.out.d11 DY.out).mono ?_
  rintro e3 w2 ⟨rfl, hb⟩
  replace HK := Aside0.mk (blk_below HK.out hb)
  replace HB := Aside0.mk (below_then HB.out HB.out.size hb)
  clear hb
  generalize hd : dF r.l11 = db
  have HD := Aside0.mk hd; clear hd
  cases db with
  | false =>
   go_wp2_with fail
   go_ret
   exact ⟨by rw [frm_days HD.out] <;> rfl, hB ▸ HB.out⟩
  | true =>
   go_wp2_with fail
   refine (RecA.all B w2).mono ?_
   rintro e4 w3 ⟨g, cap, rfl, hg, hat, hb⟩
   have HT := Aside0.mk hat
   replace HK := Aside0.mk (blk_below HK.out hb)
   replace HB := Aside0.mk (below_then HB.out HB.out.size hb)
   clear hb
   clear hat hg
   go_wp2_with fail
   go_loopg [46] 8 (fun kq vi w' => ∃ (i : Nat) (x : Int), vi = .int .i64 x ∧ Aside0 (∀ j, j < i → formL r j = true) ∧ Aside0 (x = (i : Int)) ∧ Aside0 (i + kq = 8) ∧ Aside0 (∀ j v, ((C1 B).toList ++ (C2 B).toList)[j]? = some v → w'.cell? ⟨g, j, none⟩ = some v) ∧ Aside0 (w'.heap[B]? = some (obj r p)) ∧ Aside0 (Below w.heap.size w w'))
   case atStart => exact ⟨0, 0, rfl, ⟨fun j hj => by omega⟩, ⟨rfl⟩, ⟨rfl⟩, HT, HK, HB⟩
   case round =>
    clear HT HK HB
    obtain ⟨i, x, rfl, HF, HX, HI, HT, HK, HB⟩ := hrel
    cases gk with
    | zero =>
     obtain rfl : i = 8 := by have := HI.out; omega
     obtain rfl : x = 8 := HX.out
     have A8 := Aside0.mk (all8_yes HF.out)
     go_wp2_with ((with_reducible refine gate_ (.load 27 (.tmp 1)) rfl ?_); (try (refine gate_guard (by rfl) ?_; dsimp only)); refine Kd.event_run rfl (xR (.tmp 1) (B) r p rfl rfl _ HK.out) ?_)
     refine (fits r p (by have h := ((RecM.formedF_iff _ _ _ _).1 (HF.out 4 (by omega))).1; unfold LL at h; exact h) (by have h := ((RecM.formedF_iff _ _ _ _).1 (HF.out 5 (by omega))).1; unfold LL at h; exact h) wr (OK.out.below HB.out)).mono ?_
     rintro e5 w4 ⟨rfl, hb⟩
     replace HK := Aside0.mk (blk_below HK.out hb)
     replace HB := Aside0.mk (below_then HB.out HB.out.size hb)
     clear hb
     go_wp2_with fail
     go_ret
     exact ⟨by rw [frm_last HE.out HD.out A8.out (show (!(decide (r.a0 < 1)) && !(decide (r.a0 > 4)) && !(decide (r.a1 < 1)) && !(decide (r.a1 > 1000)) && !(decide (r.a7 < 0)) && !(decide (r.a7 > 6))) = true by rw [G0.out, G1.out, G2.out, G3.out, G4.out, G5.out]; rfl)] <;> rfl, hB ▸ HB.out⟩
    | succ k1 =>
     have hi : i = 0 ∨ i = 1 ∨ i = 2 ∨ i = 3 ∨ i = 4 ∨ i = 5 ∨ i = 6 ∨ i = 7 := by have := HI.out; omega
     rcases hi with rfl | rfl | rfl | rfl | rfl | rfl | rfl | rfl
     ·obtain rfl : x = 0 := HX.out
      have e0 := RecS.at_ HT.out 0 (.string ⟨#[66, 89, 83, 69, 67, 79, 78, 68]⟩) rfl
      have e1 := RecS.at_ HT.out 1 (.pointer (some ⟨B, 8, none⟩)) rfl
      have e2 := RecS.at_ HT.out 2 (.int .i64 0) rfl
      have e3 := RecS.at_ HT.out 3 (.int .i64 59) rfl
      have e4 := RecS.at_ HT.out 4 (.bool false) rfl
      have KA := Aside0.mk (fun ob => pw_cell_below (below_alloc (Below.refl _ _) ob) (show wr.cell? ⟨B, 8, none⟩ = some (.slice p.A8 r.l8.length p.c8) from (blk_cell HK.out 8).trans rfl))
      go_wp2_with fail
      refine (RecM.formed ⟨#[66, 89, 83, 69, 67, 79, 78, 68]⟩ ⟨B, 8, none⟩ 0 59 false p.A8 p.c8 r.l8 _ (KA.out _) (Kd.C_below OK.out.h8 (below_alloc HB.out _))).mono ?_
      rintro e5 w4 ⟨rfl, hb⟩
      have HT2 := Aside0.mk (fun j v e => pw_cell_below hb (pw_cell_below (below_alloc (Below.refl _ _) _) (HT.out j v e)))
      have HK2 := Aside0.mk (blk_below (blk_below HK.out (below_alloc (Below.refl _ _) _)) hb)
      have HB2 := Aside0.mk (below_then (below_alloc HB.out _) (below_alloc HB.out _).size hb)
      clear hb HT HK HB KA e0 e1 e2 e3 e4
      have FE := Aside0.mk (show RecM.formedF 0 59 false r.l8 = formL r 0 by unfold formL lo RefF.hi nz LL; rfl)
      rw [FE.out]
      cases m : formL r 0 with
      | false =>
       have M := Aside0.mk (all8_not (r := r) (j := 0) (by omega) m); clear m
       go_wp2_with fail
       go_ret
       exact ⟨by rw [frm_all M.out] <;> rfl, hB ▸ HB2.out⟩
      | true =>
       have M := Aside0.mk m; clear m
       go_wp2_with fail
       go_roundg k1
       case measure => omega
       case rel => exact ⟨1, _, rfl, ⟨fun j hj => by by_cases e : j = 0; subst e; exact M.out; exact HF.out j (by omega)⟩, ⟨rfl⟩, ⟨by have := HI.out; omega⟩, HT2, HK2, HB2⟩
     ·obtain rfl : x = 1 := HX.out
      have e0 := RecS.at_ HT.out 5 (.string ⟨#[66, 89, 77, 73, 78, 85, 84, 69]⟩) rfl
      have e1 := RecS.at_ HT.out 6 (.pointer (some ⟨B, 9, none⟩)) rfl
      have e2 := RecS.at_ HT.out 7 (.int .i64 0) rfl
      have e3 := RecS.at_ HT.out 8 (.int .i64 59) rfl
      have e4 := RecS.at_ HT.out 9 (.bool false) rfl
      have KA := Aside0.mk (fun ob => pw_cell_below (below_alloc (Below.refl _ _) ob) (show wr.cell? ⟨B, 9, none⟩ = some (.slice p.A9 r.l9.length p.c9) from (blk_cell HK.out 9).trans rfl))
      go_wp2_with fail
      refine (RecM.formed ⟨#[66, 89, 77, 73, 78, 85, 84, 69]⟩ ⟨B, 9, none⟩ 0 59 false p.A9 p.c9 r.l9 _ (KA.out _) (Kd.C_below OK.out.h9 (below_alloc HB.out _))).mono ?_
      rintro e5 w4 ⟨rfl, hb⟩
      have HT2 := Aside0.mk (fun j v e => pw_cell_below hb (pw_cell_below (below_alloc (Below.refl _ _) _) (HT.out j v e)))
      have HK2 := Aside0.mk (blk_below (blk_below HK.out (below_alloc (Below.refl _ _) _)) hb)
      have HB2 := Aside0.mk (below_then (below_alloc HB.out _) (below_alloc HB.out _).size hb)
      clear hb HT HK HB KA e0 e1 e2 e3 e4
      have FE := Aside0.mk (show RecM.formedF 0 59 false r.l9 = formL r 1 by unfold formL lo RefF.hi nz LL; rfl)
      rw [FE.out]
      cases m : formL r 1 with
      | false =>
       have M := Aside0.mk (all8_not (r := r) (j := 1) (by omega) m); clear m
       go_wp2_with fail
       go_ret
       exact ⟨by rw [frm_all M.out] <;> rfl, hB ▸ HB2.out⟩
      | true =>
       have M := Aside0.mk m; clear m
       go_wp2_with fail
       go_roundg k1
       case measure => omega
       case rel => exact ⟨2, _, rfl, ⟨fun j hj => by by_cases e : j = 1; subst e; exact M.out; exact HF.out j (by omega)⟩, ⟨rfl⟩, ⟨by have := HI.out; omega⟩, HT2, HK2, HB2⟩
     ·obtain rfl : x = 2 := HX.out
      have e0 := RecS.at_ HT.out 10 (.string ⟨#[66, 89, 72, 79, 85, 82]⟩) rfl
      have e1 := RecS.at_ HT.out 11 (.pointer (some ⟨B, 10, none⟩)) rfl
      have e2 := RecS.at_ HT.out 12 (.int .i64 0) rfl
      have e3 := RecS.at_ HT.out 13 (.int .i64 23) rfl
      have e4 := RecS.at_ HT.out 14 (.bool false) rfl
      have KA := Aside0.mk (fun ob => pw_cell_below (below_alloc (Below.refl _ _) ob) (show wr.cell? ⟨B, 10, none⟩ = some (.slice p.A10 r.l10.length p.c10) from (blk_cell HK.out 10).trans rfl))
      go_wp2_with fail
      refine (RecM.formed ⟨#[66, 89, 72, 79, 85, 82]⟩ ⟨B, 10, none⟩ 0 23 false p.A10 p.c10 r.l10 _ (KA.out _) (Kd.C_below OK.out.h10 (below_alloc HB.out _))).mono ?_
      rintro e5 w4 ⟨rfl, hb⟩
      have HT2 := Aside0.mk (fun j v e => pw_cell_below hb (pw_cell_below (below_alloc (Below.refl _ _) _) (HT.out j v e)))
      have HK2 := Aside0.mk (blk_below (blk_below HK.out (below_alloc (Below.refl _ _) _)) hb)
      have HB2 := Aside0.mk (below_then (below_alloc HB.out _) (below_alloc HB.out _).size hb)
      clear hb HT HK HB KA e0 e1 e2 e3 e4
      have FE := Aside0.mk (show RecM.formedF 0 23 false r.l10 = formL r 2 by unfold formL lo RefF.hi nz LL; rfl)
      rw [FE.out]
      cases m : formL r 2 with
      | false =>
       have M := Aside0.mk (all8_not (r := r) (j := 2) (by omega) m); clear m
       go_wp2_with fail
       go_ret
       exact ⟨by rw [frm_all M.out] <;> rfl, hB ▸ HB2.out⟩
      | true =>
       have M := Aside0.mk m; clear m
       go_wp2_with fail
       go_roundg k1
       case measure => omega
       case rel => exact ⟨3, _, rfl, ⟨fun j hj => by by_cases e : j = 2; subst e; exact M.out; exact HF.out j (by omega)⟩, ⟨rfl⟩, ⟨by have := HI.out; omega⟩, HT2, HK2, HB2⟩
     ·obtain rfl : x = 3 := HX.out
      have e0 := RecS.at_ HT.out 15 (.string ⟨#[66, 89, 77, 79, 78, 84, 72, 68, 65, 89]⟩) rfl
      have e1 := RecS.at_ HT.out 16 (.pointer (some ⟨B, 12, none⟩)) rfl
      have e2 := RecS.at_ HT.out 17 (.int .i64 (-31)) rfl
      have e3 := RecS.at_ HT.out 18 (.int .i64 31) rfl
      have e4 := RecS.at_ HT.out 19 (.bool true) rfl
      have KA := Aside0.mk (fun ob => pw_cell_below (below_alloc (Below.refl _ _) ob) (show wr.cell? ⟨B, 12, none⟩ = some (.slice p.A12 r.l12.length p.c12) from (blk_cell HK.out 12).trans rfl))
      go_wp2_with fail
      refine (RecM.formed ⟨#[66, 89, 77, 79, 78, 84, 72, 68, 65, 89]⟩ ⟨B, 12, none⟩ (-31) 31 true p.A12 p.c12 r.l12 _ (KA.out _) (Kd.C_below OK.out.h12 (below_alloc HB.out _))).mono ?_
      rintro e5 w4 ⟨rfl, hb⟩
      have HT2 := Aside0.mk (fun j v e => pw_cell_below hb (pw_cell_below (below_alloc (Below.refl _ _) _) (HT.out j v e)))
      have HK2 := Aside0.mk (blk_below (blk_below HK.out (below_alloc (Below.refl _ _) _)) hb)
      have HB2 := Aside0.mk (below_then (below_alloc HB.out _) (below_alloc HB.out _).size hb)
      clear hb HT HK HB KA e0 e1 e2 e3 e4
      have FE := Aside0.mk (show RecM.formedF (-31) 31 true r.l12 = formL r 3 by unfold formL lo RefF.hi nz LL; rfl)
      rw [FE.out]
      cases m : formL r 3 with
      | false =>
       have M := Aside0.mk (all8_not (r := r) (j := 3) (by omega) m); clear m
       go_wp2_with fail
       go_ret
       exact ⟨by rw [frm_all M.out] <;> rfl, hB ▸ HB2.out⟩
      | true =>
       have M := Aside0.mk m; clear m
       go_wp2_with fail
       go_roundg k1
       case measure => omega
       case rel => exact ⟨4, _, rfl, ⟨fun j hj => by by_cases e : j = 3; subst e; exact M.out; exact HF.out j (by omega)⟩, ⟨rfl⟩, ⟨by have := HI.out; omega⟩, HT2, HK2, HB2⟩
     ·obtain rfl : x = 4 := HX.out
      have e0 := RecS.at_ HT.out 20 (.string ⟨#[66, 89, 89, 69, 65, 82, 68, 65, 89]⟩) rfl
      have e1 := RecS.at_ HT.out 21 (.pointer (some ⟨B, 13, none⟩)) rfl
      have e2 := RecS.at_ HT.out 22 (.int .i64 (-366)) rfl
      have e3 := RecS.at_ HT.out 23 (.int .i64 366) rfl
      have e4 := RecS.at_ HT.out 24 (.bool true) rfl
      have KA := Aside0.mk (fun ob => pw_cell_below (below_alloc (Below.refl _ _) ob) (show wr.cell? ⟨B, 13, none⟩ = some (.slice p.A13 r.l13.length p.c13) from (blk_cell HK.out 13).trans rfl))
      go_wp2_with fail
      refine (RecM.formed ⟨#[66, 89, 89, 69, 65, 82, 68, 65, 89]⟩ ⟨B, 13, none⟩ (-366) 366 true p.A13 p.c13 r.l13 _ (KA.out _) (Kd.C_below OK.out.h13 (below_alloc HB.out _))).mono ?_
      rintro e5 w4 ⟨rfl, hb⟩
      have HT2 := Aside0.mk (fun j v e => pw_cell_below hb (pw_cell_below (below_alloc (Below.refl _ _) _) (HT.out j v e)))
      have HK2 := Aside0.mk (blk_below (blk_below HK.out (below_alloc (Below.refl _ _) _)) hb)
      have HB2 := Aside0.mk (below_then (below_alloc HB.out _) (below_alloc HB.out _).size hb)
      clear hb HT HK HB KA e0 e1 e2 e3 e4
      have FE := Aside0.mk (show RecM.formedF (-366) 366 true r.l13 = formL r 4 by unfold formL lo RefF.hi nz LL; rfl)
      rw [FE.out]
      cases m : formL r 4 with
      | false =>
       have M := Aside0.mk (all8_not (r := r) (j := 4) (by omega) m); clear m
       go_wp2_with fail
       go_ret
       exact ⟨by rw [frm_all M.out] <;> rfl, hB ▸ HB2.out⟩
      | true =>
       have M := Aside0.mk m; clear m
       go_wp2_with fail
       go_roundg k1
       case measure => omega
       case rel => exact ⟨5, _, rfl, ⟨fun j hj => by by_cases e : j = 4; subst e; exact M.out; exact HF.out j (by omega)⟩, ⟨rfl⟩, ⟨by have := HI.out; omega⟩, HT2, HK2, HB2⟩
     ·obtain rfl : x = 5 := HX.out
      have e0 := RecS.at_ HT.out 25 (.string ⟨#[66, 89, 87, 69, 69, 75, 78, 79]⟩) rfl
      have e1 := RecS.at_ HT.out 26 (.pointer (some ⟨B, 14, none⟩)) rfl
      have e2 := RecS.at_ HT.out 27 (.int .i64 (-53)) rfl
      have e3 := RecS.at_ HT.out 28 (.int .i64 53) rfl
      have e4 := RecS.at_ HT.out 29 (.bool true) rfl
      have KA := Aside0.mk (fun ob => pw_cell_below (below_alloc (Below.refl _ _) ob) (show wr.cell? ⟨B, 14, none⟩ = some (.slice p.A14 r.l14.length p.c14) from (blk_cell HK.out 14).trans rfl))
      go_wp2_with fail
      refine (RecM.formed ⟨#[66, 89, 87, 69, 69, 75, 78, 79]⟩ ⟨B, 14, none⟩ (-53) 53 true p.A14 p.c14 r.l14 _ (KA.out _) (Kd.C_below OK.out.h14 (below_alloc HB.out _))).mono ?_
      rintro e5 w4 ⟨rfl, hb⟩
      have HT2 := Aside0.mk (fun j v e => pw_cell_below hb (pw_cell_below (below_alloc (Below.refl _ _) _) (HT.out j v e)))
      have HK2 := Aside0.mk (blk_below (blk_below HK.out (below_alloc (Below.refl _ _) _)) hb)
      have HB2 := Aside0.mk (below_then (below_alloc HB.out _) (below_alloc HB.out _).size hb)
      clear hb HT HK HB KA e0 e1 e2 e3 e4
      have FE := Aside0.mk (show RecM.formedF (-53) 53 true r.l14 = formL r 5 by unfold formL lo RefF.hi nz LL; rfl)
      rw [FE.out]
      cases m : formL r 5 with
      | false =>
       have M := Aside0.mk (all8_not (r := r) (j := 5) (by omega) m); clear m
       go_wp2_with fail
       go_ret
       exact ⟨by rw [frm_all M.out] <;> rfl, hB ▸ HB2.out⟩
      | true =>
       have M := Aside0.mk m; clear m
       go_wp2_with fail
       go_roundg k1
       case measure => omega
       case rel => exact ⟨6, _, rfl, ⟨fun j hj => by by_cases e : j = 5; subst e; exact M.out; exact HF.out j (by omega)⟩, ⟨rfl⟩, ⟨by have := HI.out; omega⟩, HT2, HK2, HB2⟩
     ·obtain rfl : x = 6 := HX.out
      have e0 := RecS.at_ HT.out 30 (.string ⟨#[66, 89, 77, 79, 78, 84, 72]⟩) rfl
      have e1 := RecS.at_ HT.out 31 (.pointer (some ⟨B, 15, none⟩)) rfl
      have e2 := RecS.at_ HT.out 32 (.int .i64 1) rfl
      have e3 := RecS.at_ HT.out 33 (.int .i64 12) rfl
      have e4 := RecS.at_ HT.out 34 (.bool false) rfl
      have KA := Aside0.mk (fun ob => pw_cell_below (below_alloc (Below.refl _ _) ob) (show wr.cell? ⟨B, 15, none⟩ = some (.slice p.A15 r.l15.length p.c15) from (blk_cell HK.out 15).trans rfl))
      go_wp2_with fail
      refine (RecM.formed ⟨#[66, 89, 77, 79, 78, 84, 72]⟩ ⟨B, 15, none⟩ 1 12 false p.A15 p.c15 r.l15 _ (KA.out _) (Kd.C_below OK.out.h15 (below_alloc HB.out _))).mono ?_
      rintro e5 w4 ⟨rfl, hb⟩
      have HT2 := Aside0.mk (fun j v e => pw_cell_below hb (pw_cell_below (below_alloc (Below.refl _ _) _) (HT.out j v e)))
      have HK2 := Aside0.mk (blk_below (blk_below HK.out (below_alloc (Below.refl _ _) _)) hb)
      have HB2 := Aside0.mk (below_then (below_alloc HB.out _) (below_alloc HB.out _).size hb)
      clear hb HT HK HB KA e0 e1 e2 e3 e4
      have FE := Aside0.mk (show RecM.formedF 1 12 false r.l15 = formL r 6 by unfold formL lo RefF.hi nz LL; rfl)
      rw [FE.out]
      cases m : formL r 6 with
      | false =>
       have M := Aside0.mk (all8_not (r := r) (j := 6) (by omega) m); clear m
       go_wp2_with fail
       go_ret
       exact ⟨by rw [frm_all M.out] <;> rfl, hB ▸ HB2.out⟩
      | true =>
       have M := Aside0.mk m; clear m
       go_wp2_with fail
       go_roundg k1
       case measure => omega
       case rel => exact ⟨7, _, rfl, ⟨fun j hj => by by_cases e : j = 6; subst e; exact M.out; exact HF.out j (by omega)⟩, ⟨rfl⟩, ⟨by have := HI.out; omega⟩, HT2, HK2, HB2⟩
     ·obtain rfl : x = 7 := HX.out
      have e0 := RecS.at_ HT.out 35 (.string ⟨#[66, 89, 83, 69, 84, 80, 79, 83]⟩) rfl
      have e1 := RecS.at_ HT.out 36 (.pointer (some ⟨B, 16, none⟩)) rfl
      have e2 := RecS.at_ HT.out 37 (.int .i64 (-366)) rfl
      have e3 := RecS.at_ HT.out 38 (.int .i64 366) rfl
      have e4 := RecS.at_ HT.out 39 (.bool true) rfl
      have KA := Aside0.mk (fun ob => pw_cell_below (below_alloc (Below.refl _ _) ob) (show wr.cell? ⟨B, 16, none⟩ = some (.slice p.A16 r.l16.length p.c16) from (blk_cell HK.out 16).trans rfl))
      go_wp2_with fail
      refine (RecM.formed ⟨#[66, 89, 83, 69, 84, 80, 79, 83]⟩ ⟨B, 16, none⟩ (-366) 366 true p.A16 p.c16 r.l16 _ (KA.out _) (Kd.C_below OK.out.h16 (below_alloc HB.out _))).mono ?_
      rintro e5 w4 ⟨rfl, hb⟩
      have HT2 := Aside0.mk (fun j v e => pw_cell_below hb (pw_cell_below (below_alloc (Below.refl _ _) _) (HT.out j v e)))
      have HK2 := Aside0.mk (blk_below (blk_below HK.out (below_alloc (Below.refl _ _) _)) hb)
      have HB2 := Aside0.mk (below_then (below_alloc HB.out _) (below_alloc HB.out _).size hb)
      clear hb HT HK HB KA e0 e1 e2 e3 e4
      have FE := Aside0.mk (show RecM.formedF (-366) 366 true r.l16 = formL r 7 by unfold formL lo RefF.hi nz LL; rfl)
      rw [FE.out]
      cases m : formL r 7 with
      | false =>
       have M := Aside0.mk (all8_not (r := r) (j := 7) (by omega) m); clear m
       go_wp2_with fail
       go_ret
       exact ⟨by rw [frm_all M.out] <;> rfl, hB ▸ HB2.out⟩
      | true =>
       have M := Aside0.mk m; clear m
       go_wp2_with fail
       go_roundg k1
       case measure => omega
       case rel => exact ⟨8, _, rfl, ⟨fun j hj => by by_cases e : j = 7; subst e; exact M.out; exact HF.out j (by omega)⟩, ⟨rfl⟩, ⟨by have := HI.out; omega⟩, HT2, HK2, HB2⟩
end Go.Proofs.YtddoidcbpcmlaaaDoor.RecG
