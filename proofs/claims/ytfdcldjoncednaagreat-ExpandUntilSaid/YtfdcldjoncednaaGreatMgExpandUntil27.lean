/- Texts of this claim, merged: RefT, RefM. -/
import Derived.Test.YtfdcldjoncednaaGreatMgExpandUntil20
import Derived.Test.YtfdcldjoncednaaGreatMgExpandUntil26
/- trystref14.Times. (Written by gen_reft.py.) -/
namespace Go.Proofs.YtfdcldjoncednaaGreat.RefT
open Go.RowKit Go.Proofs.YtfdcldjoncednaaGreatW.PrintWords Go.Proofs.YtfdcldjoncednaaGreatW.PrintLast Go.Proofs.YtfdcldjoncednaaGreatW.PrintMore Go.Proofs.YtfdcldjoncednaaGreat.M Go.Proofs.YtfdcldjoncednaaGreat.Ru Go.Proofs.YtfdcldjoncednaaGreat.MatP Go.Proofs.YtfdcldjoncednaaGreat.ExD Go.Proofs.YtfdcldjoncednaaGreat.ExO Go.Proofs.YtfdcldjoncednaaGreat.ExT
set_option linter.unusedVariables false
set_option linter.unusedSimpArgs false
/-- What the document's Span and Fits answer, wherever the rule's lists lie. -/
abbrev SpanD (r : Ru) (p : Rp) (d n f l : Int) : Prop := ∀ w, Ok r p w → Calls Tryz.prog 12 #[.agg (agg r p), .int .i64 d, .int .i64 n] w fun q w' => q = .returned (.tuple #[.int .i64 f, .int .i64 l]) ∧ Below w.heap.size w w'
abbrev FitD (r : Ru) (p : Rp) (b d : Int) (v : Bool) : Prop := ∀ w, Ok r p w → Calls Tryz.prog 43 #[.agg (agg r p), .int .i64 b, .int .i64 d] w fun q w' => q = .returned (.bool v) ∧ Below w.heap.size w w'
/-- A time of a day. -/
def timR (d s : Int) : Int := wrap64 (wrap64 (86400 * d) + s)
/-- Of a row those whose places are counted: sel tells which. -/
def SelR (k : Nat) (l places : List Int) (sel : Nat → Bool) : Prop := ∀ i : Nat, i < l.length → trystref14_counted.f k places ((i : Int) + 1) (l.length : Int) = some (sel i)
set_option maxHeartbeats 4000000 in
set_option maxRecDepth 100000 in
theorem neg (r : Ru) (p : Rp) (b n : Int) (A3 : Option Addr) (c3 : Nat) (D : List Int) (w : World) (hn : n < 0 ∨ ∃ z, 1 ≤ r.a1 ∧ Int.tmod n r.a1 = z ∧ z ≠ 0) :
  Calls Tryz.prog 21 #[.agg (agg r p), .int .i64 b, .int .i64 n, .slice A3 D.length c3] w fun q w' => Out w.heap.size w' [] q ∧ Below w.heap.size w w' := by
 have HK := Aside0.mk (blk_new w (obj r p))
 have HB := Aside0.mk (below_alloc (Below.refl w.heap.size w) (obj r p))
 go_enter Tryz.func21, Tryz.ntmps21
 go_upto_region 1 with fail
 generalize w.alloc (obj r p) = w0 at HK HB ⊢
 have kb1 : w0.cell? ⟨w.heap.size, 1, none⟩ = some (.int .i64 r.a1) := (blk_cell HK.out 1).trans rfl
 by_cases c : n < 0
 ·have c1 : decide (n < 0) = true := decide_eq_true c
  clear c hn
  go_wp2_with fail
  go_ret
  exact ⟨out_nil _ _, HB.out⟩
 ·obtain ⟨z, hi, hz, hz0⟩ := hn.resolve_left c
  have c1 : decide (n < 0) = false := decide_eq_false c
  have g1 : (r.a1 == 0) = false := beq_eq_false_iff_ne.2 (by omega)
  have g2 : ¬ r.a1 = 0 := by omega
  have g3 : (z != 0) = true := bne_iff_ne.2 hz0
  clear c hn hi hz0
  go_wp2_with fail
  go_ret
  exact ⟨out_nil _ _, HB.out⟩
set_option maxHeartbeats 8000000 in
set_option maxRecDepth 100000 in
theorem times (r : Ru) (p : Rp) (b n : Int) (A3 : Option Addr) (c3 : Nat) (D : List Int) (hn : ¬ n < 0) (hi : 1 ≤ r.a1) (hz : Int.tmod n r.a1 = 0) (dy f l : Int) (hd : wrap64 (Int.tdiv b 86400) = dy) (hsp : SpanD r p dy n f l) (fit : Int → Bool) (hfit : ∀ d, f ≤ d → d ≤ l → FitD r p dy d (fit d)) (N : Nat) (hN : (N : Int) = l + 1 - f ∨ (N = 0 ∧ l < f)) (f0 : -1000000000 ≤ f) (l1 : l ≤ 1000000000) (hNb : N ≤ 1000000000)
  (F1 : Nat → List Int) (F2 : Nat → Nat → List Int) (h0 : F1 0 = []) (h1 : ∀ i, F2 i 0 = F1 i) (h2 : ∀ i j, F2 i (j + 1) = F2 i j ++ [timR (f + i) (rd D (j : Int))]) (h3 : ∀ i : Nat, F1 (i + 1) = if fit (f + i) = true then F2 i D.length else F1 i) (hD : D.length ≤ 1000000000) (fl : ∀ i j, i < N → j < D.length → (F2 i j).length ≤ 17000000000000)
  (T : List Int) (hT : F1 N = T) (k : Nat) (sel : Nat → Bool) (G : Nat → List Int) (hs : r.l16.length ≠ 0 → SelR k T r.l16 sel) (hl : T.length ≤ 17000000000000) (g0 : G 0 = []) (g1 : ∀ i : Nat, G (i + 1) = if sel i = true then G i ++ [rd T (i : Int)] else G i) (hG : ∀ i, (G i).length ≤ i) (w : World) (ok : Ok r p w) (hC3 : (Kd.int .i64).C w A3 D.length D) (hc3 : D.length ≤ c3) :
  Calls Tryz.prog 21 #[.agg (agg r p), .int .i64 b, .int .i64 n, .slice A3 D.length c3] w fun q w' => Out w.heap.size w' (choL r.l16 T (G T.length)) q ∧ Below w.heap.size w w' := by
 have OK := Aside0.mk ok; have HD := Aside0.mk hd; have HS := Aside0.mk hsp; have HFIT := Aside0.mk hfit; have HN := Aside0.mk hN; have HBD := Aside0.mk (And.intro f0 (And.intro l1 (And.intro hNb hD))); have A0 := Aside0.mk h0; have A1 := Aside0.mk h1; have A2 := Aside0.mk h2; have A3_ := Aside0.mk h3; have AL := Aside0.mk fl; have HT := Aside0.mk hT; have HSEL := Aside0.mk hs; have HLT := Aside0.mk hl; have G0 := Aside0.mk g0; have G1 := Aside0.mk g1; have GL := Aside0.mk hG
 have CD := Aside0.mk hC3; have CCD := Aside0.mk hc3
 clear ok hd hsp hfit hN f0 l1 hNb hD h0 h1 h2 h3 fl hT hs hl g0 g1 hG hC3 hc3
 have HK := Aside0.mk (blk_new w (obj r p))
 have HB := Aside0.mk (below_alloc (Below.refl w.heap.size w) (obj r p))
 go_enter Tryz.func21, Tryz.ntmps21
 go_upto_region 1 with fail
 generalize w.alloc (obj r p) = w0 at HK HB ⊢
 have kb1 : w0.cell? ⟨w.heap.size, 1, none⟩ = some (.int .i64 r.a1) := (blk_cell HK.out 1).trans rfl
 have c1 : decide (n < 0) = false := decide_eq_false hn
 have g1_ : (r.a1 == 0) = false := beq_eq_false_iff_ne.2 (by omega)
 have g2_ : ¬ r.a1 = 0 := by omega
 clear hn hi
 have EDY := HD.out
 go_wp2_with ((with_reducible refine gate_ (.load 27 (.tmp 4)) rfl ?_); (try (refine gate_guard (by rfl) ?_; dsimp only)); refine Kd.event_run rfl (MatP.xR (.tmp 4) (w.heap.size) r p rfl rfl _ HK.out) ?_)
 refine (HS.out w0 (OK.out.below HB.out)).mono ?_
 rintro q wb ⟨rfl, hb⟩
 replace HK := Aside0.mk (blk_below HK.out hb)
 replace HB := Aside0.mk (below_then HB.out HB.out.size hb)
 replace CD := Aside0.mk (Kd.C_below CD.out HB.out)
 clear hb kb1 g1_ g2_ hz
 go_wp2_with fail
 go_loopg [11, 12] N (fun kq v11 v12 w' => ∃ (i : Nat) (x : Int), v12 = .int .i64 x ∧ Aside0 (x = f + i) ∧ Aside0 (i + kq = N) ∧ Aside0 ((Kd.int .i64).R 2 w' wb.heap.size (fun _ => True) v11 (F1 i)) ∧ Aside0 (Below wb.heap.size wb w'))
 case atStart => exact ⟨0, f, rfl, ⟨by simp⟩, ⟨by omega⟩, ⟨by rw [A0.out]; exact Kd.R_nil _ _ _ _ _⟩, ⟨Below.refl _ _⟩⟩
 case round =>
  obtain ⟨i, x, rfl, HX, HI, HO, HL⟩ := hrel
  have HW := Aside0.mk (below_then HB.out HB.out.size HL.out)
  cases gk with
  | zero =>
   obtain ⟨wT, rfl⟩ : ∃ v, v = wr := ⟨_, rfl⟩
   have l1 : decide (x ≤ l) = false := decide_eq_false (by have := HX.out; have := HI.out; have := HN.out; omega)
   have e : i = N := by have := HI.out; omega
   rw [e, HT.out] at HO; clear e
   obtain ⟨AT, cT, hv, hcT, hCT⟩ := Kd.R_reads HO.out
   have HFR := Aside0.mk (show ∀ ad, AT = some ad → w.heap.size ≤ ad.block from fun ad e => Nat.le_trans HB.out.size (Kd.R_base HO.out _ (by rw [hv, e]; rfl)))
   have CT := Aside0.mk hCT; have CCT := Aside0.mk hcT; subst hv; clear hCT hcT HO
   have HKW := Aside0.mk (blk_below HK.out HL.out)
   have k16 : wT.cell? ⟨w.heap.size, 16, none⟩ = some (.slice p.A16 r.l16.length p.c16) := (blk_cell HKW.out 16).trans rfl
   by_cases z : r.l16.length = 0
   ·have z1 : ((r.l16.length : Int) == 0) = true := beq_iff_eq.2 (by omega)
    have e : choL r.l16 T (G T.length) = T := if_pos z
    have EC := Aside0.mk e; clear z e
    go_wp2_with fail
    go_ret
    exact ⟨⟨AT, cT, by rw [EC.out]; rfl, by rw [EC.out]; exact CT.out, by rw [EC.out]; exact CCT.out, HFR.out⟩, HW.out⟩
   have z1 : ((r.l16.length : Int) == 0) = false := beq_eq_false_iff_ne.2 (by omega)
   have HSl := Aside0.mk (HSEL.out z)
   have e : choL r.l16 T (G T.length) = G T.length := if_neg z
   have EC := Aside0.mk e; clear z e
   go_wp2_with fail
   go_loopg [14, 68] T.length (fun kq v14 v68 w' => ∃ (i : Nat) (x : Int), v68 = .int .i64 x ∧ Aside0 (x = (i : Int)) ∧ Aside0 (i + kq = T.length) ∧ Aside0 ((Kd.int .i64).R 2 w' wT.heap.size (fun _ => True) v14 (G i)) ∧ Aside0 (Below wT.heap.size wT w'))
   case atStart => exact ⟨0, 0, rfl, ⟨rfl⟩, ⟨by omega⟩, ⟨by rw [G0.out]; exact Kd.R_nil _ _ _ _ _⟩, ⟨Below.refl _ _⟩⟩
   case round =>
    obtain ⟨i, x, rfl, HX, HI, HO, HM⟩ := hrel
    cases gk with
    | zero =>
     have l1 : decide (x < (T.length : Int)) = false := decide_eq_false (by have := HX.out; have := HI.out; omega)
     have e : i = T.length := by have := HI.out; omega
     rw [e] at HO; clear e
     go_wp2_with fail
     go_ret
     exact ⟨by rw [EC.out]; exact out_of HO.out HW.out.size, below_then HW.out HW.out.size HM.out⟩
    | succ k1 =>
     have p1 : 0 ≤ x := by have := HX.out; omega
     have q1 : x < (T.length : Int) := by have := HX.out; have := HI.out; omega
     have l1 : decide (x < (T.length : Int)) = true := decide_eq_true q1
     obtain ⟨ad, e, hx⟩ := Kd.at_int (Kd.C_below CT.out HM.out) x p1 q1
     cases e
     replace p1 := eq_true p1
     replace q1 := eq_true q1
     have nx : wrap64 (x + 1) = x + 1 := by have := HX.out; have := HI.out; have := HLT.out; unfold wrap64; omega
     have s1 := HSl.out i (by have := HI.out; omega)
     rw [← HX.out] at s1
     have S1 := Aside0.mk s1; clear s1
     have GN := Aside0.mk (G1.out i); rw [← HX.out] at GN
     have BW := Aside0.mk (below_then HW.out HW.out.size HM.out)
     have k16 : wr.cell? ⟨w.heap.size, 16, none⟩ = some (.slice p.A16 r.l16.length p.c16) := (blk_cell (blk_below HKW.out HM.out) 16).trans rfl
     obtain ⟨y, hy⟩ : ∃ y, rd T x = y := ⟨_, rfl⟩
     rw [hy] at hx GN; clear hy
     obtain ⟨li, hli⟩ : ∃ li, G i = li := ⟨_, rfl⟩
     have LN := Aside0.mk (GL.out i); rw [hli] at HO LN GN
     clear hli
     go_wp2_with fail
     refine (trystref14_counted.calls k p.A16 p.c16 r.l16 (x + 1) (T.length : Int) (sel i) _ (OK.out.below BW.out).h16 OK.out.d16 S1.out).mono ?_
     rintro q w2 ⟨rfl, ⟨nd, rfl⟩⟩
     replace HO := Aside0.mk (Kd.R_drewN HO.out nd); replace HM := Aside0.mk (pw_below_drewN HM.out nd)
     have hx2 : (wr.drewN nd).cell? (ad.add x.toNat) = some (.int .i64 y) := hx
     clear hx k16 BW
     generalize wr.drewN nd = wy at HO HM hx2 ⊢
     cases hv : sel i with
     | false =>
      rw [hv, if_neg (by simp)] at GN
      clear hv S1
      go_wp2_with fail
      go_roundg k1
      case measure => omega
      case rel => exact ⟨i + 1, x + 1, by simp [nx], ⟨by have := HX.out; push_cast; omega⟩, ⟨by have := HI.out; omega⟩, ⟨by rw [GN.out]; exact HO.out⟩, HM⟩
     | true =>
      rw [hv, if_pos rfl] at GN
      clear hv S1
      go_wp2_with ((with_reducible refine gate_builtin (b := .append) (xs := #[.tmp 78, .tmp 83]) rfl ?_); (try (refine gate_guard (by rfl) ?_; dsimp only)); at_builtin; refine Kd.R_append (Kd.int .i64) (w0 := wT) wT.heap.size rfl (.tmp 78) (.tmp 83) 42 2 (.int .i64 0) 8 rfl Tryz.underlying42 (by kernel_rfl) rfl (by decide) (by omega) _ li (y) [.int .i64 (y)] (fun _ => True) (fun _ => False) rfl rfl ?aP (fun _ hk => hk.elim) ?aF ?aO ?aB ?aS ?aL ?_; (case aP => exact rfl); (case aB => exact (by repeat (first | (with_reducible first | exact HM.out | apply below_alloc | apply pw_below_drewN | apply below_drew1) | exact HM.out))); (case aF => exact (fun _ _ => trivial)); (case aO => exact (by (with_reducible repeat (first | apply Kd.R_alloc | apply Kd.R_drewN | apply Kd.R_drew)); exact HO.out)); (case aS => exact (below_size (by repeat (first | (with_reducible first | exact HM.out | apply below_alloc | apply pw_below_drewN | apply below_drew1) | exact HM.out)))); (case aL => have := LN.out; have := HI.out; have := HLT.out; omega); intro v_ w_ ho hb hg hat;  clear hg hat; replace HO := Aside0.mk ho; replace HM := Aside0.mk hb; clear ho hb)
      go_roundg k1
      case measure => omega
      case rel => exact ⟨i + 1, x + 1, by simp [nx], ⟨by have := HX.out; push_cast; omega⟩, ⟨by have := HI.out; omega⟩, ⟨by rw [GN.out]; exact HO.out⟩, HM⟩
  | succ k1 =>
   have xl : x ≤ l := by have := HX.out; have := HI.out; have := HN.out; omega
   have l1 : decide (x ≤ l) = true := decide_eq_true xl
   have nx : wrap64 (x + 1) = x + 1 := by have := HBD.out; have := HX.out; have := HI.out; unfold wrap64; omega
   have FX := Aside0.mk (HFIT.out x (by have := HX.out; omega) xl)
   have F3 := Aside0.mk (A3_.out i); rw [← HX.out] at F3
   have F2_ := Aside0.mk (A2.out i); rw [← HX.out] at F2_
   have HKW := Aside0.mk (blk_below HK.out HL.out)
   clear xl
   go_wp2_with ((with_reducible refine gate_ (.load 27 (.tmp 4)) rfl ?_); (try (refine gate_guard (by rfl) ?_; dsimp only)); refine Kd.event_run rfl (MatP.xR (.tmp 4) (w.heap.size) r p rfl rfl _ HKW.out) ?_)
   refine (FX.out wr (OK.out.below HW.out)).mono ?_
   rintro q w2 ⟨rfl, hb⟩
   replace HO := Aside0.mk (Kd.R_below HO.out hb)
   replace HL := Aside0.mk (below_then HL.out HL.out.size hb)
   clear hb HKW HW FX
   cases hv : fit x with
   | false =>
    rw [hv, if_neg (by simp)] at F3
    clear hv
    go_wp2_with fail
    go_roundg k1
    case measure => omega
    case rel => exact ⟨i + 1, x + 1, by simp [nx], ⟨by have := HX.out; push_cast; omega⟩, ⟨by have := HI.out; omega⟩, ⟨by rw [F3.out]; exact HO.out⟩, HL⟩
   | true =>
    rw [hv, if_pos rfl] at F3
    clear hv
    go_wp2_with fail
    go_loopg [11, 47] D.length (fun kq v11 v47 w' => ∃ (j : Nat) (y : Int), v47 = .int .i64 y ∧ Aside0 (y = (j : Int)) ∧ Aside0 (j + kq = D.length) ∧ Aside0 ((Kd.int .i64).R 2 w' wb.heap.size (fun _ => True) v11 (F2 i j)) ∧ Aside0 (Below wb.heap.size wb w'))
    case atStart => exact ⟨0, 0, rfl, ⟨rfl⟩, ⟨by omega⟩, ⟨by rw [A1.out]; exact HO.out⟩, HL⟩
    case round =>
     clear HO HL
     obtain ⟨j, y, rfl, HY, HJ, HO, HL⟩ := hrel
     cases gk with
     | zero =>
      have l1 : decide (y < (D.length : Int)) = false := decide_eq_false (by have := HY.out; have := HJ.out; omega)
      have e : j = D.length := by have := HJ.out; omega
      have EJ := Aside0.mk e; clear e
      go_wp2_with fail
      go_roundg k1
      case measure => omega
      case rel => exact ⟨i + 1, x + 1, by simp [nx], ⟨by have := HX.out; push_cast; omega⟩, ⟨by have := HI.out; omega⟩, ⟨by rw [F3.out, ← EJ.out]; exact HO.out⟩, HL⟩
     | succ k2 =>
      have p2 : 0 ≤ y := by have := HY.out; omega
      have q2 : y < (D.length : Int) := by have := HY.out; have := HJ.out; omega
      have l2 : decide (y < (D.length : Int)) = true := decide_eq_true q2
      obtain ⟨ad2, e, hy⟩ := Kd.at_int (Kd.C_below CD.out HL.out) y p2 q2
      cases e
      replace p2 := eq_true p2
      replace q2 := eq_true q2
      have ny : wrap64 (y + 1) = y + 1 := by have := HY.out; have := HJ.out; have := HBD.out; unfold wrap64; omega
      obtain ⟨mv, hmv⟩ : ∃ mv, rd D y = mv := ⟨_, rfl⟩
      rw [hmv] at hy
      have MV := Aside0.mk hmv; rw [HY.out] at MV; clear hmv
      have GN := Aside0.mk (F2_.out j); rw [MV.out] at GN
      obtain ⟨y1, hy1⟩ : ∃ y1, timR x mv = y1 := ⟨_, rfl⟩
      rw [hy1] at GN
      unfold timR at hy1
      obtain ⟨li, hli⟩ : ∃ li, F2 i j = li := ⟨_, rfl⟩
      have LN := Aside0.mk (AL.out i j (by have := HI.out; omega) (by have := HJ.out; omega))
      rw [hli] at HO LN GN; clear hli
      go_wp2_with ((with_reducible refine gate_builtin (b := .append) (xs := #[.tmp 50, .tmp 58]) rfl ?_); (try (refine gate_guard (by rfl) ?_; dsimp only)); at_builtin; refine Kd.R_append (Kd.int .i64) (w0 := wb) wb.heap.size rfl (.tmp 50) (.tmp 58) 42 2 (.int .i64 0) 8 rfl Tryz.underlying42 (by kernel_rfl) rfl (by decide) (by omega) _ li (y1) [.int .i64 (y1)] (fun _ => True) (fun _ => False) rfl rfl ?aP (fun _ hk => hk.elim) ?aF ?aO ?aB ?aS ?aL ?_; (case aP => exact rfl); (case aB => exact (by repeat (first | (with_reducible first | exact HL.out | apply below_alloc | apply pw_below_drewN | apply below_drew1) | exact HL.out))); (case aF => exact (fun _ _ => trivial)); (case aO => exact (by (with_reducible repeat (first | apply Kd.R_alloc | apply Kd.R_drewN | apply Kd.R_drew)); exact HO.out)); (case aS => exact (below_size (by repeat (first | (with_reducible first | exact HL.out | apply below_alloc | apply pw_below_drewN | apply below_drew1) | exact HL.out)))); (case aL => have := LN.out; omega); intro v_ w_ ho hb hg hat;  clear hg hat; replace HO := Aside0.mk ho; replace HL := Aside0.mk hb; clear ho hb)
      go_roundg k2
      case measure => omega
      case rel => exact ⟨j + 1, y + 1, by simp [ny], ⟨by have := HY.out; push_cast; omega⟩, ⟨by have := HJ.out; omega⟩, ⟨by rw [GN.out]; exact HO.out⟩, HL⟩
end Go.Proofs.YtfdcldjoncednaaGreat.RefT
/- trystref14.Means. (Written by gen_refm.py.) -/
namespace Go.Proofs.YtfdcldjoncednaaGreat.RefM
open Go.RowKit Go.Proofs.YtfdcldjoncednaaGreatW.PrintWords Go.Proofs.YtfdcldjoncednaaGreatW.PrintLast Go.Proofs.YtfdcldjoncednaaGreatW.PrintMore Go.Proofs.YtfdcldjoncednaaGreat.M Go.Proofs.YtfdcldjoncednaaGreat.Ru Go.Proofs.YtfdcldjoncednaaGreat.MatP Go.Proofs.YtfdcldjoncednaaGreat.ExD Go.Proofs.YtfdcldjoncednaaGreat.ExO Go.Proofs.YtfdcldjoncednaaGreat.ExT Go.Proofs.YtfdcldjoncednaaGreat.RefT
set_option linter.unusedVariables false
set_option linter.unusedSimpArgs false
attribute [local go_sem] max2_int min2_int max_two min_two
/-- The last second that a rule may mean, by the document. -/
def endR (r : Ru) (l : Int) : Int := if r.a6 = true then (if r.a3 = 0 then (if wrap64 (r.a4 + 86399) < l then wrap64 (r.a4 + 86399) else l) else (if r.a4 < l then r.a4 else l)) else l
/-- Is a time taken? -/
def takes (b le most c t : Int) (n : Nat) : Bool := decide (t > b) && (decide (t ≤ le) && (decide ((n : Int) < most) && ((c == 0) || decide ((n : Int) < c))))
/-- What is taken of the first so many times of a period. -/
def pickN (b le most c : Int) (T out : List Int) : Nat → List Int
 | 0 => out
 | i + 1 => if takes b le most c (rd T (i : Int)) (pickN b le most c T out i).length = true then pickN b le most c T out i ++ [rd T (i : Int)] else pickN b le most c T out i
/-- Enough? -/
def full (c : Int) (n : Nat) : Bool := decide (c > 0) && decide ((n : Int) ≥ c)
/-- All that is taken from a period on. -/
def meanL (b le most c I : Int) (sF sL : Int → Int) (tm : Int → List Int) : Nat → Int → List Int → Option (List Int)
 | 0, _, _ => none
 | k + 1, per, out => if (out.length : Int) < most then (if sL per < sF per then some out else if wrap64 (86400 * sF per) > le then some out else
   if full c (pickN b le most c (tm per) out (tm per).length).length = true then some (pickN b le most c (tm per) out (tm per).length)
   else meanL b le most c I sF sL tm k (wrap64 (per + I)) (pickN b le most c (tm per) out (tm per).length)) else some out
theorem pickN_len (b le most c : Int) (T out : List Int) (h : (out.length : Int) ≤ most) : ∀ i, ((pickN b le most c T out i).length : Int) ≤ most
 | 0 => h
 | i + 1 => by
  have := pickN_len b le most c T out h i
  unfold pickN
  split
  ·rename_i q
   unfold takes at q
   simp only [Bool.and_eq_true, decide_eq_true_eq] at q
   have := q.2.2.1
   simp only [List.length_append, List.length_cons, List.length_nil]
   omega
  ·exact this
theorem takes_eq (b le most c t : Int) (n : Nat) : takes b le most c t n = (decide (t > b) && (decide (t ≤ le) && (decide ((n : Int) < most) && ((c == 0) || decide ((n : Int) < c))))) := rfl
abbrev SecD (r : Ru) (p : Rp) (b : Int) (D : List Int) : Prop := ∀ w, Ok r p w → Calls Tryz.prog 22 #[.agg (agg r p), .int .i64 b] w fun q w' => Out w.heap.size w' D q ∧ Below w.heap.size w w'
abbrev TimD (r : Ru) (p : Rp) (b n : Int) (D T : List Int) : Prop := ∀ w A c, Ok r p w → (Kd.int .i64).C w A D.length D → D.length ≤ c → Calls Tryz.prog 21 #[.agg (agg r p), .int .i64 b, .int .i64 n, .slice A D.length c] w fun q w' => Out w.heap.size w' T q ∧ Below w.heap.size w w'
/-- What came out of a call lies apart from an older row. -/
theorem lies_out {w w' : World} {v : Value} {A : Option Addr} {xs : List Int} {e base : Nat} {ok : Nat → Prop} {ys : List Int} (hR : (Kd.int .i64).R e w base ok v ys) (hC : (Kd.int .i64).C w' A xs.length xs) (hf : ∀ ad, A = some ad → w.heap.size ≤ ad.block) : Lies w' v A xs :=
 ⟨hC, fun _ ad e1 e2 => by have := Kd.R_lt hR _ e2.symm; have := hf ad e1; omega⟩
set_option maxHeartbeats 4000000 in
set_option maxRecDepth 100000 in
theorem nothing (r : Ru) (p : Rp) (b last most : Int) (w : World) (h : b > last ∨ most < 1) :
  Calls Tryz.prog 18 #[.agg (agg r p), .int .i64 b, .int .i64 last, .int .i64 most] w fun q w' => Out w.heap.size w' [] q ∧ Below w.heap.size w w' := by
 have HK := Aside0.mk (blk_new w (obj r p))
 have HB := Aside0.mk (below_alloc (Below.refl w.heap.size w) (obj r p))
 go_enter Tryz.func18, Tryz.ntmps18
 go_upto_region 1 with fail
 generalize w.alloc (obj r p) = w0 at HK HB ⊢
 by_cases c : b > last
 ·have c1 : decide (b > last) = true := decide_eq_true c
  clear c h
  go_wp2_with fail
  go_ret
  exact ⟨out_nil _ _, HB.out⟩
 ·have c1 : decide (b > last) = false := decide_eq_false c
  have c2 : decide (most < 1) = true := decide_eq_true (h.resolve_left c)
  clear c h
  go_wp2_with fail
  go_ret
  exact ⟨out_nil _ _, HB.out⟩
set_option maxHeartbeats 8000000 in
set_option maxRecDepth 100000 in
theorem means (r : Ru) (p : Rp) (b last most le dy : Int) (D : List Int) (sF sL : Int → Int) (tm : Int → List Int) (Pd : Int → Prop) (RES : List Int) (K : Nat) (hb : ¬ b > last) (hm : ¬ most < 1) (hm9 : most ≤ 1000) (hle : endR r last = le) (hdy : wrap64 (Int.tdiv b 86400) = dy)
  (hsec : SecD r p b D) (hsp : ∀ n, Pd n → SpanD r p dy n (sF n) (sL n)) (htm : ∀ n, Pd n → ¬ sL n < sF n → TimD r p b n D (tm n)) (htl : ∀ n, (tm n).length ≤ 17000000000000) (hP0 : Pd 0) (hPs : ∀ n, Pd n → ¬ sL n < sF n → Pd (wrap64 (n + r.a1)))
  (hR : meanL b le most r.a2 r.a1 sF sL tm K 0 [b] = some RES) (w : World) (ok : Ok r p w) :
  Calls Tryz.prog 18 #[.agg (agg r p), .int .i64 b, .int .i64 last, .int .i64 most] w fun q w' => Out w.heap.size w' RES q ∧ Below w.heap.size w w' := by
 have OK := Aside0.mk ok; have HLE := Aside0.mk hle; have HDY := Aside0.mk hdy; have HSEC := Aside0.mk hsec; have HSP := Aside0.mk hsp; have HTM := Aside0.mk htm; have HTL := Aside0.mk htl; have HP0 := Aside0.mk hP0; have HPs := Aside0.mk hPs; have HRES := Aside0.mk hR; have HM9 := Aside0.mk (And.intro hm hm9)
 clear ok hle hdy hsec hsp htm htl hP0 hPs hR
 have HK := Aside0.mk (blk_new w (obj r p))
 have HB := Aside0.mk (below_alloc (Below.refl w.heap.size w) (obj r p))
 go_enter Tryz.func18, Tryz.ntmps18
 go_upto_region 1 with fail
 generalize w.alloc (obj r p) = w0 at HK HB ⊢
 have c1 : decide (b > last) = false := decide_eq_false hb
 have c2 : decide (most < 1) = false := decide_eq_false hm
 clear hb hm hm9
 have HO := Aside0.mk (Kd.R_nil (Kd.int .i64) 2 w0 w0.heap.size (fun _ => True))
 have HL := Aside0.mk (Below.refl w0.heap.size w0)
 go_upto_if 31 with ((with_reducible refine gate_builtin (b := .append) (xs := #[.tmp 25, .tmp 27]) rfl ?_); (try (refine gate_guard (by rfl) ?_; dsimp only)); at_builtin; refine Kd.R_append (Kd.int .i64) (w0 := w0) w0.heap.size rfl (.tmp 25) (.tmp 27) 42 2 (.int .i64 0) 8 rfl Tryz.underlying42 (by kernel_rfl) rfl (by decide) (by omega) _ [] (b) [.int .i64 (b)] (fun _ => True) (fun _ => False) rfl rfl ?aP (fun _ hk => hk.elim) ?aF ?aO ?aB ?aS ?aL ?_; (case aP => exact rfl); (case aB => exact (by repeat (first | (with_reducible first | exact HL.out | apply below_alloc | apply pw_below_drewN | apply below_drew1) | exact HL.out))); (case aF => exact (fun _ _ => trivial)); (case aO => exact (by (with_reducible repeat (first | apply Kd.R_alloc | apply Kd.R_drewN | apply Kd.R_drew)); exact HO.out)); (case aS => exact (below_size (by repeat (first | (with_reducible first | exact HL.out | apply below_alloc | apply pw_below_drewN | apply below_drew1) | exact HL.out)))); (case aL => simp); intro v_ w_ ho hb hg hat; have KO := Aside0.mk (show w_.heap[w.heap.size]? = some (obj r p) from blk_below HK.out hb); have kb6 : w_.cell? ⟨w.heap.size, 6, Option.none⟩ = some (.bool r.a6) := (blk_cell KO.out 6).trans rfl; clear hg hat; replace HO := Aside0.mk ho; replace HL := Aside0.mk hb; clear ho hb)
 go_cut [10] (fun v10 wc => v10 = .int .i64 le ∧ wc = w_)
 case first => as_aux_lemma =>
  have kb3 : w_.cell? ⟨w.heap.size, 3, none⟩ = some (.int .i64 r.a3) := (blk_cell KO.out 3).trans rfl
  have kb4 : w_.cell? ⟨w.heap.size, 4, none⟩ = some (.int .i64 r.a4) := (blk_cell KO.out 4).trans rfl
  cases h6 : r.a6 with
  | false =>
   have e : last = le := by rw [← HLE.out]; unfold endR; rw [h6]; rfl
   have E := Aside0.mk e; clear h6 e
   go_wp2_with fail; go_meet
   case rel => exact ⟨by rw [E.out], rfl⟩
  | true =>
   by_cases h3 : r.a3 = 0
   ·have c3 : (r.a3 == 0) = true := beq_iff_eq.2 h3
    obtain ⟨u, hu⟩ : ∃ u, wrap64 (r.a4 + 86399) = u := ⟨_, rfl⟩
    have e : (if u < last then u else last) = le := by rw [← HLE.out, ← hu]; unfold endR; rw [h6, if_pos rfl, if_pos h3]
    have EE := Aside0.mk e
    clear h6 h3 e
    have f2 : ∀ k k' : IntKind, Builtin.min2 (.int k last) (.int k' u) = pure (.int k le) := fun k k' => by rw [min2_int, EE.out]
    go_wp2_with fail; go_meet
    case rel => exact ⟨by simp, rfl⟩
   ·have c3 : (r.a3 == 0) = false := beq_eq_false_iff_ne.2 h3
    have e : (if r.a4 < last then r.a4 else last) = le := by rw [← HLE.out]; unfold endR; rw [h6, if_pos rfl, if_neg h3]
    have EE := Aside0.mk e
    clear h6 h3 e
    have f2 : ∀ k k' : IntKind, Builtin.min2 (.int k last) (.int k' r.a4) = pure (.int k le) := fun k k' => by rw [min2_int, EE.out]
    go_wp2_with fail; go_meet
    case rel => exact ⟨by simp, rfl⟩
 case rest =>
  obtain ⟨rfl, hw⟩ := hcut
  subst hw
  clear kb6
  go_wp2_with ((with_reducible refine gate_ (.load 27 (.tmp 4)) rfl ?_); (try (refine gate_guard (by rfl) ?_; dsimp only)); refine Kd.event_run rfl (MatP.xR (.tmp 4) (w.heap.size) r p rfl rfl _ KO.out) ?_)
  refine (HSEC.out _ (OK.out.below (below_then HB.out HB.out.size HL.out))).mono ?_
  rintro q wS ⟨⟨AD, cD, rfl, hCD, hcD, hfD⟩, hb⟩
  have HD := Aside0.mk (lies_out HO.out hCD hfD)
  replace HO := Aside0.mk (Kd.R_below HO.out hb)
  replace HL := Aside0.mk (below_then HL.out HL.out.size hb)
  have CCD := Aside0.mk hcD
  clear hb hCD hcD hfD KO
  go_wp2_with fail
  go_loopg [9, 13] K (fun kq v9 v13 w' => ∃ (per : Int) (out : List Int), v13 = .int .i64 per ∧ Aside0 (Pd per) ∧ Aside0 (meanL b le most r.a2 r.a1 sF sL tm kq per out = some RES) ∧ Aside0 ((out.length : Int) ≤ most) ∧ Aside0 ((Kd.int .i64).R 2 w' w0.heap.size (fun _ => True) v9 out) ∧ Aside0 (Below w0.heap.size w0 w') ∧ Aside0 (Lies w' v9 AD D))
  case atStart => exact ⟨0, [b], rfl, HP0, HRES, ⟨by have := HM9.out; simp; omega⟩, HO, HL, HD⟩
  case round =>
   clear HO HL HD
   obtain ⟨per, out, rfl, HP, HE, HM, HO, HL, HD⟩ := hrel
   obtain ⟨A, c, hv, hcA, hCA⟩ := Kd.R_reads HO.out
   subst hv
   clear hcA hCA
   cases gk with
   | zero => exact absurd HE.out (by simp [meanL])
   | succ k1 =>
    have E := HE.out
    clear HE
    unfold meanL at E
    by_cases z : (out.length : Int) < most
    rotate_left
    ·rw [if_neg z] at E
     have e := Option.some.inj E
     have z1 : decide ((out.length : Int) < most) = false := decide_eq_false z
     have EE := Aside0.mk e
     clear E z e
     go_wp2_with fail
     go_ret
     exact ⟨by rw [← EE.out]; exact out_of HO.out HB.out.size, below_then HB.out HB.out.size HL.out⟩
    rw [if_pos z] at E
    have EE := Aside0.mk E
    have z1 : decide ((out.length : Int) < most) = true := decide_eq_true z
    have KW := Aside0.mk (show wr.heap[w.heap.size]? = some (obj r p) from blk_below HK.out HL.out)
    have EDY := HDY.out
    clear E z
    go_wp2_with ((with_reducible refine gate_ (.load 27 (.tmp 4)) rfl ?_); (try (refine gate_guard (by rfl) ?_; dsimp only)); refine Kd.event_run rfl (MatP.xR (.tmp 4) (w.heap.size) r p rfl rfl _ KW.out) ?_)
    refine (HSP.out per HP.out wr (OK.out.below (below_then HB.out HB.out.size HL.out))).mono ?_
    rintro q w2 ⟨rfl, hb⟩
    replace HO := Aside0.mk (Kd.R_below HO.out hb)
    replace HL := Aside0.mk (below_then HL.out HL.out.size hb)
    replace HD := Aside0.mk (HD.out.below hb)
    clear hb KW EDY
    by_cases y : sL per < sF per
    ·have y1 : decide (sL per < sF per) = true := decide_eq_true y
     have E := EE.out
     rw [if_pos y] at E
     have e := Option.some.inj E
     have EE2 := Aside0.mk e
     clear E y e EE
     go_wp2_with fail
     go_ret
     exact ⟨by rw [← EE2.out]; exact out_of HO.out HB.out.size, below_then HB.out HB.out.size HL.out⟩
    have y1 : decide (sL per < sF per) = false := decide_eq_false y
    obtain ⟨ff, hff⟩ : ∃ ff, wrap64 (86400 * sF per) = ff := ⟨_, rfl⟩
    have E := EE.out
    rw [if_neg y, hff] at E
    have YN := Aside0.mk y
    clear EE y
    by_cases v : ff > le
    ·have v1 : decide (ff > le) = true := decide_eq_true v
     rw [if_pos v] at E
     have e := Option.some.inj E
     have EE2 := Aside0.mk e
     clear E v e
     go_wp2_with fail
     go_ret
     exact ⟨by rw [← EE2.out]; exact out_of HO.out HB.out.size, below_then HB.out HB.out.size HL.out⟩
    have v1 : decide (ff > le) = false := decide_eq_false v
    rw [if_neg v] at E
    have EE := Aside0.mk E
    have KW := Aside0.mk (show w2.heap[w.heap.size]? = some (obj r p) from blk_below HK.out HL.out)
    clear E v
    go_wp2_with ((with_reducible refine gate_ (.load 27 (.tmp 4)) rfl ?_); (try (refine gate_guard (by rfl) ?_; dsimp only)); refine Kd.event_run rfl (MatP.xR (.tmp 4) (w.heap.size) r p rfl rfl _ KW.out) ?_)
    refine (HTM.out per HP.out YN.out w2 AD cD (OK.out.below (below_then HB.out HB.out.size HL.out)) HD.out.1 CCD.out).mono ?_
    rintro q w3 ⟨⟨AT, cT, rfl, hCT, hcT, hfT⟩, hb⟩
    have HT := Aside0.mk (lies_out HO.out hCT hfT)
    replace HO := Aside0.mk (Kd.R_below HO.out hb)
    replace HL := Aside0.mk (below_then HL.out HL.out.size hb)
    replace HD := Aside0.mk (HD.out.below hb)
    clear hb hCT hcT hfT KW hff
    have TL := Aside0.mk (HTL.out per)
    obtain ⟨T, hT⟩ : ∃ T, tm per = T := ⟨_, rfl⟩
    rw [hT] at HT EE TL ⊢
    clear hT
    go_wp2_with fail
    go_loopg [9, 80] T.length (fun kq v9 v80 w' => ∃ (i : Nat) (x : Int), v80 = .int .i64 x ∧ Aside0 (x = (i : Int)) ∧ Aside0 (i + kq = T.length) ∧ Aside0 ((Kd.int .i64).R 2 w' w0.heap.size (fun _ => True) v9 (pickN b le most r.a2 T out i)) ∧ Aside0 (Below w0.heap.size w0 w') ∧ Aside0 (Lies w' v9 AD D) ∧ Aside0 (Lies w' v9 AT T))
    case atStart => exact ⟨0, 0, rfl, ⟨rfl⟩, ⟨by omega⟩, HO, HL, HD, HT⟩
    case round =>
     clear HO HL HD HT
     obtain ⟨i, x, rfl, HX, HI, HO, HL, HD, HT⟩ := hrel
     obtain ⟨A', c', hv, hcA, hCA⟩ := Kd.R_reads HO.out
     subst hv
     clear hcA hCA
     have PL := Aside0.mk (pickN_len b le most r.a2 T out HM.out i)
     have KW := Aside0.mk (show wr.heap[w.heap.size]? = some (obj r p) from blk_below HK.out HL.out)
     have kb2 : wr.cell? ⟨w.heap.size, 2, none⟩ = some (.int .i64 r.a2) := (blk_cell KW.out 2).trans rfl
     have kb1 : wr.cell? ⟨w.heap.size, 1, none⟩ = some (.int .i64 r.a1) := (blk_cell KW.out 1).trans rfl
     cases gk with
     | zero =>
      have l1 : decide (x < (T.length : Int)) = false := decide_eq_false (by have := HX.out; have := HI.out; omega)
      have e : i = T.length := by have := HI.out; omega
      subst e
      obtain ⟨li, hli⟩ : ∃ li, pickN b le most r.a2 T out T.length = li := ⟨_, rfl⟩
      rw [hli] at HO EE PL HD HT ⊢
      clear hli
      by_cases g1 : r.a2 > 0
      ·have d1 : decide (r.a2 > 0) = true := decide_eq_true g1
       by_cases g2 : (li.length : Int) ≥ r.a2
       ·have d2 : decide ((li.length : Int) ≥ r.a2) = true := decide_eq_true g2
        have E := EE.out
        rw [if_pos (show full r.a2 li.length = true by unfold full; rw [d1, d2]; rfl)] at E
        have e := Option.some.inj E
        have EE2 := Aside0.mk e
        clear E e EE g1 g2
        go_wp2_with fail
        go_ret
        exact ⟨by rw [← EE2.out]; exact out_of HO.out HB.out.size, below_then HB.out HB.out.size HL.out⟩
       ·have d2 : decide ((li.length : Int) ≥ r.a2) = false := decide_eq_false g2
        have E := EE.out
        rw [if_neg (show ¬ full r.a2 li.length = true by unfold full; rw [d1, d2]; simp)] at E
        have EE2 := Aside0.mk E
        clear E EE g1 g2
        go_wp2_with fail
        go_roundg k1
        case measure => omega
        case rel => exact ⟨_, li, rfl, ⟨HPs.out per HP.out YN.out⟩, EE2, PL, HO, HL, HD⟩
      ·have d1 : decide (r.a2 > 0) = false := decide_eq_false g1
       have E := EE.out
       rw [if_neg (show ¬ full r.a2 li.length = true by unfold full; rw [d1]; simp)] at E
       have EE2 := Aside0.mk E
       clear E EE g1
       go_wp2_with fail
       go_roundg k1
       case measure => omega
       case rel => exact ⟨_, li, rfl, ⟨HPs.out per HP.out YN.out⟩, EE2, PL, HO, HL, HD⟩
     | succ k2 =>
      have p1 : 0 ≤ x := by have := HX.out; omega
      have q1 : x < (T.length : Int) := by have := HX.out; have := HI.out; omega
      have l1 : decide (x < (T.length : Int)) = true := decide_eq_true q1
      obtain ⟨ad, e, hx⟩ := Kd.at_int HT.out.1 x p1 q1
      cases e
      replace p1 := eq_true p1
      replace q1 := eq_true q1
      have nx : wrap64 (x + 1) = x + 1 := by have := HX.out; have := HI.out; have := TL.out; unfold wrap64; omega
      obtain ⟨y, hy⟩ : ∃ y, rd T x = y := ⟨_, rfl⟩
      have GN := Aside0.mk (show pickN b le most r.a2 T out (i + 1) = if takes b le most r.a2 (rd T (i : Int)) (pickN b le most r.a2 T out i).length = true then pickN b le most r.a2 T out i ++ [rd T (i : Int)] else pickN b le most r.a2 T out i from rfl)
      rw [← HX.out, hy] at GN
      rw [hy] at hx
      clear hy
      obtain ⟨li, hli⟩ : ∃ li, pickN b le most r.a2 T out i = li := ⟨_, rfl⟩
      rw [hli] at HO PL GN HD HT ⊢
      clear hli
      obtain ⟨tk, htk⟩ : ∃ tk, takes b le most r.a2 y li.length = tk := ⟨_, rfl⟩
      rw [htk] at GN
      have TK := Aside0.mk (takes_eq b le most r.a2 y li.length)
      rw [htk] at TK
      clear htk
      go_upto_region 22 with fail
      go_cut [114] from 83 to 114 (fun v wc => v = .bool tk ∧ wc = wr)
      case first => as_aux_lemma =>
       by_cases g1 : y > b
       ·have d1 : decide (y > b) = true := decide_eq_true g1
        clear g1
        by_cases g2 : y ≤ le
        ·have d2 : decide (y ≤ le) = true := decide_eq_true g2
         clear g2
         by_cases g3 : (li.length : Int) < most
         ·have d3 : decide ((li.length : Int) < most) = true := decide_eq_true g3
          clear g3
          by_cases g4 : r.a2 = 0
          ·have d4 : (r.a2 == 0) = true := beq_iff_eq.2 g4
           clear g4
           have e : tk = true := by rw [TK.out, d1, d2, d3, d4]; rfl
           subst e
           go_wp2_with fail; go_meet
           case rel => exact ⟨rfl, rfl⟩
          ·have d4 : (r.a2 == 0) = false := beq_eq_false_iff_ne.2 g4
           clear g4
           by_cases g5 : (li.length : Int) < r.a2
           ·have d5 : decide ((li.length : Int) < r.a2) = true := decide_eq_true g5
            clear g5
            have e : tk = true := by rw [TK.out, d1, d2, d3, d4, d5]; rfl
            subst e
            go_wp2_with fail; go_meet
            case rel => exact ⟨rfl, rfl⟩
           ·have d5 : decide ((li.length : Int) < r.a2) = false := decide_eq_false g5
            clear g5
            have e : tk = false := by rw [TK.out, d1, d2, d3, d4, d5]; rfl
            subst e
            go_wp2_with fail; go_meet
            case rel => exact ⟨rfl, rfl⟩
         ·have d3 : decide ((li.length : Int) < most) = false := decide_eq_false g3
          clear g3
          have e : tk = false := by rw [TK.out, d1, d2, d3]; rfl
          subst e
          go_wp2_with fail; go_meet
          case rel => exact ⟨rfl, rfl⟩
        ·have d2 : decide (y ≤ le) = false := decide_eq_false g2
         clear g2
         have e : tk = false := by rw [TK.out, d1, d2]; rfl
         subst e
         go_wp2_with fail; go_meet
         case rel => exact ⟨rfl, rfl⟩
       ·have d1 : decide (y > b) = false := decide_eq_false g1
        clear g1
        have e : tk = false := by rw [TK.out, d1]; rfl
        subst e
        go_wp2_with fail; go_meet
        case rel => exact ⟨rfl, rfl⟩
      case rest =>
       obtain ⟨rfl, rfl⟩ := hcut
       cases tk with
       | false =>
        rw [if_neg (by simp)] at GN
        go_wp2_with fail
        go_roundg k2
        case measure => omega
        case rel => exact ⟨i + 1, x + 1, by simp [nx], ⟨by have := HX.out; push_cast; omega⟩, ⟨by have := HI.out; omega⟩, ⟨by rw [GN.out]; exact HO.out⟩, HL, HD, HT⟩
       | true =>
        rw [if_pos rfl] at GN
        have LN := Aside0.mk PL.out
        go_wp2_with ((with_reducible refine gate_builtin (b := .append) (xs := #[.tmp 115, .tmp 120]) rfl ?_); (try (refine gate_guard (by rfl) ?_; dsimp only)); at_builtin; refine Kd.R_append (Kd.int .i64) (w0 := w0) w0.heap.size rfl (.tmp 115) (.tmp 120) 42 2 (.int .i64 0) 8 rfl Tryz.underlying42 (by kernel_rfl) rfl (by decide) (by omega) _ li (y) [.int .i64 (y)] (fun _ => True) (fun _ => False) rfl rfl ?aP (fun _ hk => hk.elim) ?aF ?aO ?aB ?aS ?aL ?_; (case aP => exact rfl); (case aB => exact (by repeat (first | (with_reducible first | exact HL.out | apply below_alloc | apply pw_below_drewN | apply below_drew1) | exact HL.out))); (case aF => exact (fun _ _ => trivial)); (case aO => exact (by (with_reducible repeat (first | apply Kd.R_alloc | apply Kd.R_drewN | apply Kd.R_drew)); exact HO.out)); (case aS => exact (below_size (by repeat (first | (with_reducible first | exact HL.out | apply below_alloc | apply pw_below_drewN | apply below_drew1) | exact HL.out)))); (case aL => have := LN.out; have := HM9.out; omega); intro v_ w_ ho hb hg hat; replace HD := Aside0.mk (HD.out.appended hg hat); replace HT := Aside0.mk (HT.out.appended hg hat); clear hg hat; replace HO := Aside0.mk ho; replace HL := Aside0.mk hb; clear ho hb)
        go_roundg k2
        case measure => omega
        case rel => exact ⟨i + 1, x + 1, by simp [nx], ⟨by have := HX.out; push_cast; omega⟩, ⟨by have := HI.out; omega⟩, ⟨by rw [GN.out]; exact HO.out⟩, HL, HD, HT⟩
end Go.Proofs.YtfdcldjoncednaaGreat.RefM
