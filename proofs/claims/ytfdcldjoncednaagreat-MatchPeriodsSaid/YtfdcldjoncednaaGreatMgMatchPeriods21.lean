/- Texts of this claim, merged: OpRule, PureMatchPeriods. -/
import Derived.Test.YtfdcldjoncednaaGreatMgMatchPeriods20
import Derived.Test.YtfdcldjoncednaaGreatMgMatchPeriods1
/- What an argument of rules reads as. -/
namespace Go.Proofs.YtfdcldjoncednaaGreat.OpRule
open Go.ChangeShapes Go.WideShapes Go.RowKit Go.Deep Go.Proofs.YtfdcldjoncednaaGreatW.PrintWords Go.Proofs.YtfdcldjoncednaaGreatW.PrintLast Go.Proofs.YtfdcldjoncednaaGreat.M Go.Proofs.YtfdcldjoncednaaGreat.Op Go.Proofs.YtfdcldjoncednaaGreat.Ru
set_option linter.unusedVariables false
set_option linter.unusedSimpArgs false
instance : Inhabited S80 := ⟨z80⟩
def PhW (x : S80) : Prop := (Lit.int .i64 x.f0).wf = true ∧ (Lit.int .i64 x.f1).wf = true
set_option maxRecDepth 100000 in
theorem opW : Opk Tryz.prog 80 k80 PhW :=
 Opk.iso (d := Kd.pair (Kd.int .i64) (Kd.int .i64)) (φ := fun x => (Lit.int .i64 x.1).wf = true ∧ (Lit.int .i64 x.2).wf = true) (fun x : S80 => (x.f0, x.f1)) (fun x : Int × Int => (⟨x.1, x.2⟩ : S80)) (fun _ => rfl) (Opk.struct (P := Tryz.prog) Tryz.underlying80 (by kernel_rfl)
  (Fl.cons rfl (Opk.int Tryz.underlying3 (by kernel_rfl)) (Fl.last rfl (Opk.int Tryz.underlying3 (by kernel_rfl)))))
abbrev W64 (n : Int) : Prop := (Lit.int .i64 n).wf = true
set_option maxRecDepth 100000 in
theorem opT : Opk Tryz.prog 23 (Kd.pair (Kd.int .i64) (Kd.pair (Kd.int .i64) Kd.string)) (fun x => W64 x.1 ∧ W64 x.2.1 ∧ x.2.2.size ≤ maxLen) :=
 Opk.struct (P := Tryz.prog) Tryz.underlying23 (by kernel_rfl) (Fl.cons rfl (Opk.int Tryz.underlying3 (by kernel_rfl)) (Fl.cons rfl (Opk.int Tryz.underlying2 (by kernel_rfl)) (Fl.last rfl (Opk.string Tryz.underlying9 (by kernel_rfl)))))
abbrev LI : Kd (List Int) := Kd.slice 3 (Kd.int .i64)
abbrev LW : Kd (List S80) := Kd.slice 80 k80
set_option maxRecDepth 100000 in
theorem opI : Opk Tryz.prog 24 LI (fun l => l.length ≤ maxLen ∧ ∀ x ∈ l, W64 x) := Opk.slice Tryz.underlying24 (by kernel_rfl) (Opk.int Tryz.underlying3 (by kernel_rfl))
set_option maxRecDepth 100000 in
theorem opD : Opk Tryz.prog 25 LW (fun l => l.length ≤ maxLen ∧ ∀ x ∈ l, PhW x) := Opk.slice Tryz.underlying25 (by kernel_rfl) opW
abbrev d := Kd.pair (Kd.int .i64) (Kd.pair (Kd.int .i64) (Kd.pair (Kd.int .i64) (Kd.pair (Kd.pair (Kd.int .i64) (Kd.pair (Kd.int .i64) Kd.string)) (Kd.pair (Kd.bool) (Kd.pair (Kd.int .i64) (Kd.pair (LI) (Kd.pair (LI) (Kd.pair (LI) (Kd.pair (LW) (Kd.pair (LI) (Kd.pair (LI) (Kd.pair (LI) (Kd.pair (LI) (LI))))))))))))))
abbrev V := Int × Int × Int × (Int × Int × ByteArray) × Bool × Int × List Int × List Int × List Int × List S80 × List Int × List Int × List Int × List Int × List Int
/-- What is asked of a rule that came in: its end's zone is no longer than a text may be. -/
def Ph (x : V) : Prop := x.2.2.2.1.2.2.size ≤ maxLen
set_option maxRecDepth 100000 in
theorem op : Opk Tryz.prog 27 d Ph := by
 have h : ∃ φ, (∀ x : V, φ x → Ph x) ∧ Opk Tryz.prog 27 d φ := ⟨_, fun x hx => hx.2.2.2.1.2.2, Opk.struct (P := Tryz.prog) Tryz.underlying27 (by kernel_rfl)
  (Fl.cons rfl (Opk.int Tryz.underlying3 (by kernel_rfl)) (Fl.cons rfl (Opk.int Tryz.underlying3 (by kernel_rfl)) (Fl.cons rfl (Opk.int Tryz.underlying3 (by kernel_rfl)) (Fl.cons rfl (opT) (Fl.cons rfl (Opk.bool Tryz.underlying4 (by kernel_rfl)) (Fl.cons rfl (Opk.int Tryz.underlying3 (by kernel_rfl)) (Fl.cons rfl (opI) (Fl.cons rfl (opI) (Fl.cons rfl (opI) (Fl.cons rfl (opD) (Fl.cons rfl (opI) (Fl.cons rfl (opI) (Fl.cons rfl (opI) (Fl.cons rfl (opI) (Fl.last rfl (opI))))))))))))))))⟩
 obtain ⟨φ, hφ, h1, h2⟩ := h
 exact ⟨h1, fun hx => by obtain ⟨z, k, q⟩ := h2 hx; exact ⟨z, k, hφ z q⟩⟩
def zero : Value := .agg #[.int .i64 0, .int .i64 0, .int .i64 0, .int .i64 0, .int .i64 0, .string ⟨#[]⟩, .bool false, .int .i64 0, .slice none 0 0, .slice none 0 0, .slice none 0 0, .slice none 0 0, .slice none 0 0, .slice none 0 0, .slice none 0 0, .slice none 0 0, .slice none 0 0]
def ru (x : V) : Ru := ⟨x.1, x.2.1, x.2.2.1, x.2.2.2.1.1, x.2.2.2.1.2.1, x.2.2.2.1.2.2, x.2.2.2.2.1, x.2.2.2.2.2.1, x.2.2.2.2.2.2.1, x.2.2.2.2.2.2.2.1, x.2.2.2.2.2.2.2.2.1, x.2.2.2.2.2.2.2.2.2.1, x.2.2.2.2.2.2.2.2.2.2.1, x.2.2.2.2.2.2.2.2.2.2.2.1, x.2.2.2.2.2.2.2.2.2.2.2.2.1, x.2.2.2.2.2.2.2.2.2.2.2.2.2.1, x.2.2.2.2.2.2.2.2.2.2.2.2.2.2⟩
theorem form {w : World} {x : V} {cs : List Value} (h : d.K w x cs) : ∃ p : Rp, cs = (agg (ru x) p).toList ∧ Ok (ru x) p w := by
 obtain ⟨x0, x1, x2, ⟨x3, x4, x5⟩, x6, x7, x8, x9, x10, x11, x12, x13, x14, x15, x16⟩ := x
 obtain ⟨a0, b0, rfl, e0, a1, b1, rfl, e1, a2, b2, rfl, e2, a3, b3, rfl, ⟨a4, b4, rfl, e4, a5, b5, rfl, e5, e6⟩, a6, b6, rfl, e7, a7, b7, rfl, e8, a8, b8, rfl, e9, a9, b9, rfl, e10, a10, b10, rfl, e11, a11, b11, rfl, e12, a12, b12, rfl, e13, a13, b13, rfl, e14, a14, b14, rfl, e15, a15, b15, rfl, e16, e17⟩ := h
 change _ = [_] at e0 e1 e2 e4 e5 e6 e7 e8
 subst e0 e1 e2 e4 e5 e6 e7 e8
 obtain ⟨A8, c8, rfl, d8, h8⟩ := e9
 obtain ⟨A9, c9, rfl, d9, h9⟩ := e10
 obtain ⟨A10, c10, rfl, d10, h10⟩ := e11
 obtain ⟨A11, c11, rfl, d11, h11⟩ := e12
 obtain ⟨A12, c12, rfl, d12, h12⟩ := e13
 obtain ⟨A13, c13, rfl, d13, h13⟩ := e14
 obtain ⟨A14, c14, rfl, d14, h14⟩ := e15
 obtain ⟨A15, c15, rfl, d15, h15⟩ := e16
 obtain ⟨A16, c16, rfl, d16, h16⟩ := e17
 exact ⟨⟨A8, c8, A9, c9, A10, c10, A11, c11, A12, c12, A13, c13, A14, c14, A15, c15, A16, c16⟩, rfl, ⟨h8, d8, h9, d9, h10, d10, h11, d11, h12, d12, h13, d13, h14, d14, h15, d15, h16, d16⟩⟩
end Go.Proofs.YtfdcldjoncednaaGreat.OpRule
/- Periods: the law walked. (Written by gen_lawper.py.) -/
namespace Go.Proofs.YtfdcldjoncednaaGreat.Pure
open Go.RowKit Go.Proofs.YtfdcldjoncednaaGreatW.PrintWords Go.Proofs.YtfdcldjoncednaaGreatW.PrintLast Go.Proofs.YtfdcldjoncednaaGreat.M Go.Proofs.YtfdcldjoncednaaGreat.Cal Go.Proofs.YtfdcldjoncednaaGreat.FunA Go.Proofs.YtfdcldjoncednaaGreat.Ru Go.Proofs.YtfdcldjoncednaaGreat.MatP Go.Proofs.YtfdcldjoncednaaGreat.MatG Go.Proofs.YtfdcldjoncednaaGreat.RecG Go.Proofs.YtfdcldjoncednaaGreat.PureW Go.Proofs.YtfdcldjoncednaaGreat.PurePer
set_option linter.unusedVariables false
set_option linter.unusedSimpArgs false
namespace MatchPeriodsW
set_option maxHeartbeats 8000000 in
set_option maxRecDepth 100000 in
theorem walk (r : Ru) (p : Rp) (b d n : Int) (w : World) (ok : Ok r p w) (hs : r.a5.size ≤ 9223372036854775807) :
  Calls Tryz.prog 3 #[.agg (agg r p), .int .i64 b, .int .i64 d, .int .i64 n] w fun e w' => e = .returned (.bool true) ∧ Below w.heap.size w w' := by
 obtain ⟨k, rt, e0, e1, P, A, B, G, F, L, F', L', h0, he0, he1, h1, h2, h3, h4, h5, h6, h7, h8⟩ := told r hs b d n
 have T := Aside0.mk h0; have E0 := Aside0.mk he0; have E1 := Aside0.mk he1; have H1 := Aside0.mk h1; have H2 := Aside0.mk h2; have H3 := Aside0.mk h3; have H4 := Aside0.mk h4; have H5 := Aside0.mk h5; have H6 := Aside0.mk h6; have H7 := Aside0.mk h7; have H8 := Aside0.mk h8
 have OK := Aside0.mk ok
 clear h0 he0 he1 h1 h2 h3 h4 h5 h6 h7 h8 ok hs
 have HK := Aside0.mk (blk_new w (obj r p))
 have HB := Aside0.mk (below_alloc (Below.refl w.heap.size w) (obj r p))
 go_enter Tryz.func3, Tryz.ntmps3
 go_upto_region 1 with fail
 generalize w.alloc (obj r p) = w0 at HK HB ⊢
 go_wp2_with fail
 refine (awake w0).mono ?_
 rintro e w1 ⟨rfl, hb⟩
 replace HK := Aside0.mk (blk_below HK.out hb)
 replace HB := Aside0.mk (below_then HB.out HB.out.size hb)
 clear hb
 go_wp2_with ((with_reducible refine gate_ (.load 27 (.tmp 4)) rfl ?_); (try (refine gate_guard (by rfl) ?_; dsimp only)); refine Kd.event_run rfl (MatP.xR (.tmp 4) (w.heap.size) r p rfl rfl _ HK.out) ?_)
 refine (fewX r p w1).mono ?_
 rintro e w2 ⟨rfl, hb⟩
 replace HK := Aside0.mk (blk_below HK.out hb)
 replace HB := Aside0.mk (below_then HB.out HB.out.size hb)
 clear hb
 generalize RefW.few r.l11.length r.l8.length r.l9.length r.l10.length r.l12.length r.l13.length r.l14.length r.l15.length r.l16.length = fw
 cases fw with
 | false =>
  go_wp2_with fail
  refine (awake w2).mono ?_
  rintro e w3 ⟨rfl, hb⟩
  replace HK := Aside0.mk (blk_below HK.out hb)
  replace HB := Aside0.mk (below_then HB.out HB.out.size hb)
  clear hb
  go_wp2_with fail
  go_ret
  exact ⟨rfl, HB.out⟩
 | true =>
  go_wp2_with ((with_reducible refine gate_ (.load 27 (.tmp 4)) rfl ?_); (try (refine gate_guard (by rfl) ?_; dsimp only)); refine Kd.event_run rfl (MatP.xR (.tmp 4) (w.heap.size) r p rfl rfl _ HK.out) ?_)
  refine (H1.out p w2 (OK.out.below HB.out)).mono ?_
  rintro e w3 ⟨rfl, hb⟩
  replace HK := Aside0.mk (blk_below HK.out hb)
  replace HB := Aside0.mk (below_then HB.out HB.out.size hb)
  clear hb
  go_wp2_with ((with_reducible refine gate_ (.load 27 (.tmp 4)) rfl ?_); (try (refine gate_guard (by rfl) ?_; dsimp only)); refine Kd.event_run rfl (MatP.xR (.tmp 4) (w.heap.size) r p rfl rfl _ HK.out) ?_)
  refine (H2.out p w3 (OK.out.below HB.out)).mono ?_
  rintro e w4 ⟨rfl, hb⟩
  replace HK := Aside0.mk (blk_below HK.out hb)
  replace HB := Aside0.mk (below_then HB.out HB.out.size hb)
  clear hb
  go_wp2_with ((with_reducible refine gate_ (.load 27 (.tmp 4)) rfl ?_); (try (refine gate_guard (by rfl) ?_; dsimp only)); refine Kd.event_run rfl (MatP.xR (.tmp 4) (w.heap.size) r p rfl rfl _ HK.out) ?_)
  refine (wrong r p k rt b d w4 (OK.out.below HB.out) T.out).mono ?_
  rintro e w5 ⟨rfl, hb⟩
  replace HK := Aside0.mk (blk_below HK.out hb)
  replace HB := Aside0.mk (below_then HB.out HB.out.size hb)
  clear hb
  rw [E0.out]
  by_cases c0 : e0 = 0
  ·subst c0
   have D4 := Aside0.mk (H4.out rfl)
   have z0 : (P != P) = false := bne_self_eq_false P
   go_wp2_with ((with_reducible refine gate_ (.load 27 (.tmp 4)) rfl ?_); (try (refine gate_guard (by rfl) ?_; dsimp only)); refine Kd.event_run rfl (MatP.xR (.tmp 4) (w.heap.size) r p rfl rfl _ HK.out) ?_)
   refine (D4.out p w5).mono ?_
   rintro e w6 ⟨rfl, hb⟩
   replace HK := Aside0.mk (blk_below HK.out hb)
   replace HB := Aside0.mk (below_then HB.out HB.out.size hb)
   clear hb
   go_wp2_with ((with_reducible refine gate_ (.load 27 (.tmp 4)) rfl ?_); (try (refine gate_guard (by rfl) ?_; dsimp only)); refine Kd.event_run rfl (MatP.xR (.tmp 4) (w.heap.size) r p rfl rfl _ HK.out) ?_)
   refine (wrong r p k rt b b w6 (OK.out.below HB.out) T.out).mono ?_
   rintro e w7 ⟨rfl, hb⟩
   replace HK := Aside0.mk (blk_below HK.out hb)
   replace HB := Aside0.mk (below_then HB.out HB.out.size hb)
   clear hb
   rw [E1.out]
   by_cases c1 : e1 = 0
   ·have t1 : (e1 != 0) = false := bne_eq_false_iff_eq.2 c1
    have C1 := Aside0.mk c1; clear c1
    by_cases g : n > 4000000
    ·have g1 : decide (n > 4000000) = true := decide_eq_true g
     obtain rfl := H6.out C1.out (Or.inl g)
     clear g
     go_wp2_with fail
     go_ret
     exact ⟨rfl, HB.out⟩
    by_cases g2 : n < -4000000
    ·have g1 : decide (n > 4000000) = false := decide_eq_false g; have g3 : decide (n < -4000000) = true := decide_eq_true g2
     obtain rfl := H6.out C1.out (Or.inr g2)
     clear g g2
     go_wp2_with fail
     go_ret
     exact ⟨rfl, HB.out⟩
    obtain ⟨j1, j2, j3⟩ := H7.out C1.out (by omega)
    have g1 : decide (n > 4000000) = false := decide_eq_false g; have g3 : decide (n < -4000000) = false := decide_eq_false g2
    have J1 := Aside0.mk j1; have J2 := Aside0.mk j2; have J3 := Aside0.mk j3; clear j1 j2 j3 g g2
    go_wp2_with ((with_reducible refine gate_ (.load 27 (.tmp 4)) rfl ?_); (try (refine gate_guard (by rfl) ?_; dsimp only)); refine Kd.event_run rfl (MatP.xR (.tmp 4) (w.heap.size) r p rfl rfl _ HK.out) ?_)
    refine (J1.out p w7).mono ?_
    rintro e w8 ⟨rfl, hb⟩
    replace HK := Aside0.mk (blk_below HK.out hb)
    replace HB := Aside0.mk (below_then HB.out HB.out.size hb)
    clear hb
    by_cases u : L < F
    ·have u1 : decide (L < F) = true := decide_eq_true u
     obtain ⟨rfl, rfl, rfl⟩ := J2.out (by omega)
     clear u
     go_wp2_with fail
     go_ret
     exact ⟨rfl, HB.out⟩
    ·have u1 : decide (L < F) = false := decide_eq_false u
     obtain ⟨rfl, rfl, rfl⟩ := J3.out (by omega)
     clear u
     have z1 : (A != A) = false := bne_self_eq_false A; have z2 : (B != B) = false := bne_self_eq_false B
     obtain ⟨v1, v2, v3⟩ := H8.out (by simp)
     have v4 : decide (F' ≤ d) = true := decide_eq_true v1; have v5 : decide (d ≤ L') = true := decide_eq_true v2; have V := Aside0.mk v3; clear v1 v2 v3
     go_wp2_with ((with_reducible refine gate_ (.load 27 (.tmp 4)) rfl ?_); (try (refine gate_guard (by rfl) ?_; dsimp only)); refine Kd.event_run rfl (MatP.xR (.tmp 4) (w.heap.size) r p rfl rfl _ HK.out) ?_)
     refine (V.out p w8 (OK.out.below HB.out)).mono ?_
     rintro e w9 ⟨rfl, hb⟩
     replace HK := Aside0.mk (blk_below HK.out hb)
     replace HB := Aside0.mk (below_then HB.out HB.out.size hb)
     clear hb
     go_wp2_with fail
     go_ret
     exact ⟨rfl, HB.out⟩
   ·have t1 : (e1 != 0) = true := bne_iff_ne.2 c1
    obtain ⟨rfl, rfl, rfl⟩ := H5.out c1
    clear c1
    have z1 : (G == G) = true := beq_self_eq_true G
    go_wp2_with fail
    go_ret
    exact ⟨rfl, HB.out⟩
  ·obtain rfl := H3.out c0
   have t0 : (e0 != 0) = true := bne_iff_ne.2 c0; have z0 : (e0 != e0) = false := bne_self_eq_false e0
   clear c0
   go_wp2_with ((with_reducible refine gate_ (.load 27 (.tmp 4)) rfl ?_); (try (refine gate_guard (by rfl) ?_; dsimp only)); refine Kd.event_run rfl (MatP.xR (.tmp 4) (w.heap.size) r p rfl rfl _ HK.out) ?_)
   refine (wrong r p k rt b b w5 (OK.out.below HB.out) T.out).mono ?_
   rintro e w6 ⟨rfl, hb⟩
   replace HK := Aside0.mk (blk_below HK.out hb)
   replace HB := Aside0.mk (below_then HB.out HB.out.size hb)
   clear hb
   rw [E1.out]
   by_cases c1 : e1 = 0
   ·have t1 : (e1 != 0) = false := bne_eq_false_iff_eq.2 c1
    have C1 := Aside0.mk c1; clear c1
    by_cases g : n > 4000000
    ·have g1 : decide (n > 4000000) = true := decide_eq_true g
     obtain rfl := H6.out C1.out (Or.inl g)
     clear g
     go_wp2_with fail
     go_ret
     exact ⟨rfl, HB.out⟩
    by_cases g2 : n < -4000000
    ·have g1 : decide (n > 4000000) = false := decide_eq_false g; have g3 : decide (n < -4000000) = true := decide_eq_true g2
     obtain rfl := H6.out C1.out (Or.inr g2)
     clear g g2
     go_wp2_with fail
     go_ret
     exact ⟨rfl, HB.out⟩
    obtain ⟨j1, j2, j3⟩ := H7.out C1.out (by omega)
    have g1 : decide (n > 4000000) = false := decide_eq_false g; have g3 : decide (n < -4000000) = false := decide_eq_false g2
    have J1 := Aside0.mk j1; have J2 := Aside0.mk j2; have J3 := Aside0.mk j3; clear j1 j2 j3 g g2
    go_wp2_with ((with_reducible refine gate_ (.load 27 (.tmp 4)) rfl ?_); (try (refine gate_guard (by rfl) ?_; dsimp only)); refine Kd.event_run rfl (MatP.xR (.tmp 4) (w.heap.size) r p rfl rfl _ HK.out) ?_)
    refine (J1.out p w6).mono ?_
    rintro e w7 ⟨rfl, hb⟩
    replace HK := Aside0.mk (blk_below HK.out hb)
    replace HB := Aside0.mk (below_then HB.out HB.out.size hb)
    clear hb
    by_cases u : L < F
    ·have u1 : decide (L < F) = true := decide_eq_true u
     obtain ⟨rfl, rfl, rfl⟩ := J2.out (by omega)
     clear u
     go_wp2_with fail
     go_ret
     exact ⟨rfl, HB.out⟩
    ·have u1 : decide (L < F) = false := decide_eq_false u
     obtain ⟨rfl, rfl, rfl⟩ := J3.out (by omega)
     clear u
     have z1 : (A != A) = false := bne_self_eq_false A; have z2 : (B != B) = false := bne_self_eq_false B
     go_wp2_with fail
     go_ret
     exact ⟨rfl, HB.out⟩
   ·have t1 : (e1 != 0) = true := bne_iff_ne.2 c1
    obtain ⟨rfl, rfl, rfl⟩ := H5.out c1
    clear c1
    have z1 : (G == G) = true := beq_self_eq_true G
    go_wp2_with fail
    go_ret
    exact ⟨rfl, HB.out⟩
end MatchPeriodsW
theorem MatchPeriods_calls (cs : Array Value) (x : OpRule.V) (b d n : Int) (w : World) (hK : OpRule.d.K w x cs.toList) (hP : OpRule.Ph x) (_ : (Lit.int .i64 b).wf = true) (_ : (Lit.int .i64 d).wf = true) (_ : (Lit.int .i64 n).wf = true) : Calls Tryz.prog 3 #[.agg cs, .int .i64 b, .int .i64 d, .int .i64 n] w fun e w' => e = .returned (.bool true) ∧ Below w.heap.size w w' := by
 obtain ⟨p, hc, ok⟩ := OpRule.form hK
 obtain rfl := Array.toList_inj.1 hc
 exact MatchPeriodsW.walk (OpRule.ru x) p b d n w ok (by have h : x.2.2.2.1.2.2.size ≤ maxLen := hP; unfold maxLen at h; show x.2.2.2.1.2.2.size ≤ _; omega)
end Go.Proofs.YtfdcldjoncednaaGreat.Pure
