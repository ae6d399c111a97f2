/- Texts of this claim, merged: FewL. -/
import Derived.Test.YtddoidcbpcmlaaaDoorMgEventForms14
import Derived.Test.YtddoidcbpcmlaaaDoorMgEventForms15
import Derived.Test.YtddoidcbpcmlaaaDoorMgEventForms16
/- Which events are looked at: trystlaw10.Few, trystlaw17.Few (no zones), trystlaw18.Few told; and trystlaw10.Theirs' value. (By hand.) -/
namespace Go.Proofs.YtddoidcbpcmlaaaDoor.FewL
open Go.RowKit Go.Proofs.YtddoidcbpcmlaaaDoorW.PrintWords Go.Proofs.YtddoidcbpcmlaaaDoorW.PrintLast Go.Proofs.YtddoidcbpcmlaaaDoor.M Go.Proofs.YtddoidcbpcmlaaaDoor.Fr Go.Proofs.YtddoidcbpcmlaaaDoor.Ru
open Go.Proofs.YtddoidcbpcmlaaaDoor.LinC (twoB)
open Go.Proofs.YtddoidcbpcmlaaaDoor.RecC (LN)
open Go.Proofs.YtddoidcbpcmlaaaDoor.SetC (range_of Sv Sp sagg OkS)
open Go.Proofs.YtddoidcbpcmlaaaDoor.EvC (Ev Ep eagg)
set_option linter.unusedVariables false
set_option linter.unusedSimpArgs false
abbrev DL := S51
abbrev DP := S72
theorem rdP (ps : List DP) (i : Nat) (h : i < ps.length) : rd_T72 ps (i : Int) = ps[i] := by simp [rd_T72, h]
/-! trystlaw10.Few ends -/
section
variable (a c : ByteArray) (ps : List DP)
theorem tot1 (hv : ∀ p ∈ ps, p.f1.length ≤ 8796093022208) (i : Nat) (hi : i < ps.length) (next : ∀ n, ∃ k b, trystlaw10_Few.l0 k n (ps.length : Int) (wrap64 ((i : Int) + 1)) a ps c = some b) :
  ∀ q j : Nat, j + q = ps[i].f1.length → ∀ n, ∃ k b, trystlaw10_Few.l1 k n (i : Int) (ps.length : Int) (i : Int) (ps[i].f1.length : Int) (j : Int) a ps c = some b
 | 0, j, h, n => by
  obtain ⟨k, b, e⟩ := next n
  by_cases z : n > 5000
  ·refine ⟨k + 1, false, ?_⟩
   unfold trystlaw10_Few.l1
   rw [if_neg (by omega), if_pos z]
  ·refine ⟨k + 1, b, ?_⟩
   unfold trystlaw10_Few.l1
   rw [if_neg (by omega), if_neg z, e]
 | q + 1, j, h, n => by
  have hb := hv _ (List.getElem_mem hi)
  have e1 : wrap64 ((j : Int) + 1) = ((j + 1 : Nat) : Int) := by unfold wrap64; omega
  obtain ⟨k, b, e⟩ := tot1 hv i hi next q (j + 1) (by omega) (wrap64 (wrap64 (n + ((rdOf ByteArray.empty ps[i].f1 (j : Int)).size : Int)) + 1))
  refine ⟨k + 1, b, ?_⟩
  unfold trystlaw10_Few.l1
  rw [if_pos (by omega), if_pos (by omega), if_pos (by omega), if_pos (by omega), rdP ps i hi, if_pos (by omega), e1, e]
theorem tot0 (hp : ps.length ≤ 3518437208883) (hv : ∀ p ∈ ps, p.f1.length ≤ 8796093022208) : ∀ m i : Nat, i + m = ps.length → ∀ n, ∃ k b, trystlaw10_Few.l0 k n (ps.length : Int) (i : Int) a ps c = some b
 | 0, i, h, n => by
  refine ⟨1, decide (n ≤ 5000), ?_⟩
  unfold trystlaw10_Few.l0
  rw [if_neg (by omega)]
 | m + 1, i, h, n => by
  have hi : i < ps.length := by omega
  have e1 : wrap64 ((i : Int) + 1) = ((i + 1 : Nat) : Int) := by unfold wrap64; omega
  obtain ⟨k, b, e⟩ := tot1 a c ps hv i hi (fun n => by rw [e1]; exact tot0 hp hv m (i + 1) (by omega) n) ps[i].f1.length 0 (by omega) (wrap64 (wrap64 (n + ((ps[i].f0).size : Int)) + 1))
  refine ⟨k + 1, b, ?_⟩
  unfold trystlaw10_Few.l0
  rw [if_pos (by omega), if_pos (by omega), if_pos (by omega), rdP ps i hi]
  exact e
end
/-- Is a line of the document of a size that a row can have? -/
def LineOk (x : DL) : Prop := x.f1.length ≤ 3518437208883 ∧ ∀ p ∈ x.f1, p.f1.length < 8796093022208
theorem few10 (x : DL) (hx : LineOk x) (A : Option Addr) (cc : Nat) (w : World) (h : Kd.C k72 w A x.f1.length x.f1) (d : x.f1.length ≤ cc) :
  Calls Tryd.prog 12 #[.agg #[.string x.f0, .slice A x.f1.length cc, .string x.f2]] w fun e w' => ∃ b, e = .returned (.bool b) ∧ Below w.heap.size w w' := by
 obtain ⟨k, b, e⟩ := tot0 x.f0 x.f2 x.f1 hx.1 (fun p hp => Nat.le_of_lt (hx.2 p hp)) x.f1.length 0 (by omega) (wrap64 ((x.f0.size : Int) + (x.f2.size : Int)))
 refine (trystlaw10_Few.calls k x.f0 A cc x.f1 x.f2 b w h d e).mono ?_
 rintro q w' ⟨h1, h2⟩
 exact ⟨b, h1, h2⟩
/-! trystlaw10.Theirs -/
def thP (p : DP) : S79 := ⟨p.f0, p.f1⟩
def thL (x : DL) : S58 := ⟨x.f0, x.f1.map thP, x.f2⟩
theorem their (x : DL) (hx : LineOk x) : ∀ m i : Nat, i + m = x.f1.length → trystlaw10_Theirs.l0 (m + 1) (x.f1.length : Int) (i : Int) x.f0 x.f1 x.f2 x.f0 ((x.f1.take i).map thP) x.f2 = some (x.f0, x.f1.map thP, x.f2)
 | 0, i, h => by
  unfold trystlaw10_Theirs.l0
  rw [if_neg (by omega), List.take_of_length_le (by omega)]
 | m + 1, i, h => by
  have hi : i < x.f1.length := by omega
  have e1 : wrap64 ((i : Int) + 1) = ((i + 1 : Nat) : Int) := by have := hx.1; unfold wrap64; omega
  have hb := hx.2 _ (List.getElem_mem hi)
  have ih := their x hx m (i + 1) (by omega)
  unfold trystlaw10_Theirs.l0
  rw [if_pos (by omega), if_pos (by omega), if_pos (by omega), rdP _ i hi, Option.bind_some, if_pos (by simpa using hb), if_pos (by have := hx.1; rw [List.length_map, List.length_take]; omega), e1]
  rw [← ih, List.take_succ_eq_append_getElem hi, List.map_append]
  rfl
theorem theirs10 (x : DL) (hx : LineOk x) (A : Option Addr) (cc : Nat) (w : World) (h : Kd.C k72 w A x.f1.length x.f1) (d : x.f1.length ≤ cc) :
  Calls Tryd.prog 22 #[.agg #[.string x.f0, .slice A x.f1.length cc, .string x.f2]] w fun e w' => ∃ v1_ : Value, e = .returned (.agg #[.string x.f0, v1_, .string x.f2]) ∧ Kd.S k79 79 w' w.heap.size (fun _ => True) v1_ (x.f1.map thP) ∧ Below w.heap.size w w' :=
 trystlaw10_Theirs.calls (x.f1.length + 1) x.f0 A cc x.f1 x.f2 x.f0 (x.f1.map thP) x.f2 w h d (by
  unfold trystlaw10_Theirs.f
  exact their x hx x.f1.length 0 (by omega))
/-! trystlaw13.Few's bound -/
def sn (d : Nat) (g : Nat → Nat) : Nat → Nat
 | 0 => d
 | q + 1 => sn d g q + g q
theorem fs_sn (d : Nat) (g : Nat → Nat) (hd : d ≤ 140737488355328) (hg : ∀ j, g j ≤ 140737488355328) : ∀ q, q ≤ 100 → RefW.fs d g q = (sn d g q : Int) ∧ sn d g q ≤ (q + 1) * 140737488355328
 | 0, _ => ⟨rfl, by simp [sn, hd]⟩
 | q + 1, h => by
  obtain ⟨h1, h2⟩ := fs_sn d g hd hg q (by omega)
  have h3 := hg q
  have h4 : sn d g (q + 1) = sn d g q + g q := rfl
  refine ⟨?_, by rw [h4]; omega⟩
  show wrap64 (RefW.fs d g q + (g q : Int)) = _
  rw [h1, h4]
  unfold wrap64
  omega
theorem le_sn (d : Nat) (g : Nat → Nat) : ∀ q, d ≤ sn d g q ∧ ∀ j, j < q → g j ≤ sn d g q
 | 0 => ⟨Nat.le_refl _, fun j h => by omega⟩
 | q + 1 => by
  obtain ⟨h1, h2⟩ := le_sn d g q
  have h4 : sn d g (q + 1) = sn d g q + g q := rfl
  refine ⟨by omega, fun j hj => ?_⟩
  by_cases e : j = q
  ·subst e; omega
  ·have := h2 j (by omega); omega
/-- The lists of a rule that came in. -/
def RuOk (r : Ru) : Prop := r.l11.length ≤ 140737488355328 ∧ ∀ j, (LN r j).length ≤ 140737488355328
theorem few_small (r : Ru) (hr : RuOk r) (h : RefW.few r.l11.length r.l8.length r.l9.length r.l10.length r.l12.length r.l13.length r.l14.length r.l15.length r.l16.length = true) : RecC.Small r := by
 have hg : ∀ j, RefW.ln r.l8.length r.l9.length r.l10.length r.l12.length r.l13.length r.l14.length r.l15.length r.l16.length j ≤ 140737488355328 ∧ (j < 8 → RefW.ln r.l8.length r.l9.length r.l10.length r.l12.length r.l13.length r.l14.length r.l15.length r.l16.length j = (LN r j).length) := fun j => by
  match j with
  | 0 => exact ⟨hr.2 0, fun _ => rfl⟩
  | 1 => exact ⟨hr.2 1, fun _ => rfl⟩
  | 2 => exact ⟨hr.2 2, fun _ => rfl⟩
  | 3 => exact ⟨hr.2 3, fun _ => rfl⟩
  | 4 => exact ⟨hr.2 4, fun _ => rfl⟩
  | 5 => exact ⟨hr.2 5, fun _ => rfl⟩
  | 6 => exact ⟨hr.2 6, fun _ => rfl⟩
  | 7 => exact ⟨hr.2 7, fun _ => rfl⟩
  | n + 8 => exact ⟨by first | exact hr.2 7 | exact Nat.zero_le _, fun h => by omega⟩
 obtain ⟨h1, _⟩ := fs_sn r.l11.length _ hr.1 (fun j => (hg j).1) 8 (by omega)
 obtain ⟨h2, h3⟩ := le_sn r.l11.length (RefW.ln r.l8.length r.l9.length r.l10.length r.l12.length r.l13.length r.l14.length r.l15.length r.l16.length) 8
 have h4 : RefW.fs r.l11.length (RefW.ln r.l8.length r.l9.length r.l10.length r.l12.length r.l13.length r.l14.length r.l15.length r.l16.length) 8 ≤ 500 := of_decide_eq_true h
 rw [h1] at h4
 refine ⟨by omega, fun j hj => ?_⟩
 have := h3 j hj
 rw [(hg j).2 hj] at this
 omega
theorem few13 (r : Ru) (p : Rp) (w : World) : Calls Tryd.prog 33 #[.agg (agg r p)] w fun e w' => e = .returned (.bool (RefW.few r.l11.length r.l8.length r.l9.length r.l10.length r.l12.length r.l13.length r.l14.length r.l15.length r.l16.length)) ∧ Below w.heap.size w w' :=
 RefW.few_ r.a0 r.a1 r.a2 r.a3 r.a4 r.a5 r.a6 r.a7 p.A8 p.c8 r.l8 p.A9 p.c9 r.l9 p.A10 p.c10 r.l10 p.A11 p.c11 r.l11 p.A12 p.c12 r.l12 p.A13 p.c13 r.l13 p.A14 p.c14 r.l14 p.A15 p.c15 r.l15 p.A16 p.c16 r.l16 w
theorem perDay (r : Ru) (p : Rp) (w : World) (ok : Ok r p w) : Calls Tryd.prog 34 #[.agg (agg r p)] w fun e w' => ∃ n, e = .returned (.int .i64 n) ∧ Below w.heap.size w w' :=
 (trystlaw13_PerDay.calls r.a0 r.a1 r.a2 r.a3 r.a4 r.a5 r.a6 r.a7 p.A8 p.c8 r.l8 p.A9 p.c9 r.l9 p.A10 p.c10 r.l10 p.A11 p.c11 r.l11 p.A12 p.c12 r.l12 p.A13 p.c13 r.l13 p.A14 p.c14 r.l14 p.A15 p.c15 r.l15 p.A16 p.c16 r.l16 _ w ok.h8 ok.d8 ok.h9 ok.d9 ok.h10 ok.d10 ok.h11 ok.d11 ok.h12 ok.d12 ok.h13 ok.d13 ok.h14 ok.d14 ok.h15 ok.d15 ok.h16 ok.d16 rfl).mono fun e w' ⟨h1, h2⟩ => ⟨_, h1, h2⟩
set_option maxHeartbeats 4000000 in
set_option maxRecDepth 100000 in
theorem few17 (v : Sv) (p : Sp) (w : World) (ok : OkS v p w) (hr : RuOk v.r) :
  Calls Tryd.prog 11 #[.agg (sagg v p), .slice none 0 0] w fun e w' => ∃ b, e = .returned (.bool b) ∧ (b = true → RecC.Small v.r ∧ v.ds.length ≤ 100 ∧ v.bs.length ≤ 100) ∧ Below w.heap.size w w' := by
 have OK := Aside0.mk ok; have HR := Aside0.mk hr
 clear ok hr
 go_enter Tryd.func11, Tryd.ntmps11
 go_upto_region 1 with fail
 obtain ⟨w0, hw0, z0⟩ : ∃ w0, w0 = w.alloc (.cells (sagg v p) 30 (0, 0)) ∧ w0.heap[w.heap.size]? = some (.cells (sagg v p) 30 (0, 0)) ∧ Below w.heap.size w w0 := ⟨_, rfl, blk_new _ _, below_alloc (Below.refl _ _) _⟩
 have K1 := Aside0.mk z0.1; have HB := Aside0.mk z0.2
 rw [← hw0]
 clear hw0 z0
 have x21 : w0.cell? ⟨w.heap.size, 21, none⟩ = some (.slice p.Ad v.ds.length p.cd) := (blk_cell K1.out 21).trans rfl
 have x22 : w0.cell? ⟨w.heap.size, 22, none⟩ = some (.slice p.Ab v.bs.length p.cb) := (blk_cell K1.out 22).trans rfl
 go_wp2_with ((with_reducible refine gate_ (.load 27 (.tmp 6)) rfl ?_); (try (refine gate_guard (by rfl) ?_; dsimp only)); refine wpList_load_mid rfl 27 (.tmp 6) rfl w.heap.size 4 rfl (agg v.r p.p).toList _ (range_of K1.out 4 _ _ rfl) Tryd.underlying27 rfl RecC.sz17 ?_)
 refine (few13 v.r p.p w0).mono ?_
 rintro q w1 ⟨rfl, hb⟩
 have FW := Aside0.mk (few_small v.r HR.out)
 generalize RefW.few v.r.l11.length v.r.l8.length v.r.l9.length v.r.l10.length v.r.l12.length v.r.l13.length v.r.l14.length v.r.l15.length v.r.l16.length = fw at FW ⊢
 replace K1 := Aside0.mk (blk_below K1.out hb); replace x21 := pw_cell_below hb x21; replace x22 := pw_cell_below hb x22; replace HB := Aside0.mk (below_then HB.out HB.out.size hb)
 clear hb
 cases fw with
 | false =>
  go_wp2_with fail
  go_ret
  exact ⟨_, rfl, (by simp), HB.out⟩
 | true =>
 by_cases d1 : (v.ds.length : Int) > 100
 ·have d1b := decide_eq_true d1
  go_wp2_with fail
  go_ret
  exact ⟨_, rfl, (by simp), HB.out⟩
 have D1 := Aside0.mk d1
 have d1b := decide_eq_false d1
 clear d1
 by_cases d2 : (v.bs.length : Int) > 100
 ·have d2b := decide_eq_true d2
  go_wp2_with fail
  go_ret
  exact ⟨_, rfl, (by simp), HB.out⟩
 have D2 := Aside0.mk d2
 have d2b := decide_eq_false d2
 clear d2
 go_wp2_with ((with_reducible refine gate_ (.load 27 (.tmp 23)) rfl ?_); (try (refine gate_guard (by rfl) ?_; dsimp only)); refine wpList_load_mid rfl 27 (.tmp 23) rfl w.heap.size 4 rfl (agg v.r p.p).toList _ (range_of K1.out 4 _ _ rfl) Tryd.underlying27 rfl RecC.sz17 ?_)
 refine (perDay v.r p.p w1 (OK.out.below HB.out).o).mono ?_
 rintro q w2 ⟨n, rfl, hb⟩
 replace HB := Aside0.mk (below_then HB.out HB.out.size hb)
 clear hb x21 x22 d1b d2b
 by_cases d3 : n > 6
 ·have d3b := decide_eq_true d3
  go_wp2_with fail
  go_ret
  exact ⟨_, rfl, (by simp), HB.out⟩
 have d3b := decide_eq_false d3
 clear d3
 go_wp2_with fail
 go_loopg [30] 0 (fun kq v30 w' => v30 = .int .i64 0 ∧ w' = w2)
 case atStart => exact ⟨rfl, rfl⟩
 case round =>
  obtain ⟨rfl, rfl⟩ := hrel
  go_wp2_with fail
  go_ret
  exact ⟨_, rfl, fun _ => ⟨FW.out (by simp), by have := D1.out; omega, by have := D2.out; omega⟩, HB.out⟩
/-! trystlaw18.Few -/
/-- An event of the document's (v: its values, l: its lines as the document has them) lies at p. -/
structure OkG (v : Ev) (l : List DL) (p : Ep) (w : World) : Prop where
 s : OkS v.set p.sp w
 hp : Kd.C k46 w p.Ap v.ps.length v.ps
 dp : v.ps.length ≤ p.cp
 hx : Kd.C k51 w p.Ax l.length l
 dx : l.length ≤ p.cx
 hv : v.ex = l.map thL
theorem OkG.below {v : Ev} {l : List DL} {p : Ep} {w w' : World} (h : OkG v l p w) (hb : Below w.heap.size w w') : OkG v l p w' := ⟨h.s.below hb, Kd.C_below h.hp hb, h.dp, Kd.C_below h.hx hb, h.dx, h.hv⟩
theorem OkG.len {v : Ev} {l : List DL} {p : Ep} {w : World} (h : OkG v l p w) : v.ex.length = l.length := by rw [h.hv, List.length_map]
def FewQ (v : Ev) (l : List DL) (w : World) (e : Ending) (w' : World) : Prop := ∃ b, e = .returned (.bool b) ∧ (b = true → RecC.Small v.set.r ∧ v.set.ds.length ≤ 100 ∧ v.set.bs.length ≤ 100 ∧ v.ps.length ≤ 30 ∧ l.length ≤ 80) ∧ Below w.heap.size w w'
theorem FewQ.mk {v : Ev} {l : List DL} {w w' : World} {b : Bool} (h : b = true → RecC.Small v.set.r ∧ v.set.ds.length ≤ 100 ∧ v.set.bs.length ≤ 100 ∧ v.ps.length ≤ 30 ∧ l.length ≤ 80) (hb : Below w.heap.size w w') : FewQ v l w (.returned (.bool b)) w' := ⟨b, rfl, h, hb⟩
set_option maxHeartbeats 4000000 in
set_option maxRecDepth 100000 in
theorem few18 (v : Ev) (l : List DL) (p : Ep) (w : World) (ok : OkG v l p w) (hr : RuOk v.set.r) (hl : ∀ x ∈ l, LineOk x) :
  Calls Tryd.prog 5 #[.agg (eagg v p)] w (FewQ v l w) := by
 have OK := Aside0.mk ok; have HR := Aside0.mk hr; have HL := Aside0.mk hl; have LN := Aside0.mk ok.len
 clear ok hr hl
 go_enter Tryd.func5, Tryd.ntmps5
 go_upto_region 1 with fail
 obtain ⟨w0, hw0, z0⟩ : ∃ w0, w0 = w.alloc (.cells (eagg v p) 34 (0, 0)) ∧ w0.heap[w.heap.size]? = some (.cells (eagg v p) 34 (0, 0)) ∧ Below w.heap.size w w0 := ⟨_, rfl, blk_new _ _, below_alloc (Below.refl _ _) _⟩
 have K1 := Aside0.mk z0.1; have HB := Aside0.mk z0.2
 rw [← hw0]
 clear hw0 z0
 have x0 : w0.cell? ⟨w.heap.size, 0, none⟩ = some (.string v.uid) := (blk_cell K1.out 0).trans rfl
 have x27 : w0.cell? ⟨w.heap.size, 27, none⟩ = some (.string v.sum) := (blk_cell K1.out 27).trans rfl
 have x28 : w0.cell? ⟨w.heap.size, 28, none⟩ = some (.string v.com) := (blk_cell K1.out 28).trans rfl
 have x30 : w0.cell? ⟨w.heap.size, 30, none⟩ = some (.string v.org) := (blk_cell K1.out 30).trans rfl
 have x31 : w0.cell? ⟨w.heap.size, 31, none⟩ = some (.slice p.Ap v.ps.length p.cp) := (blk_cell K1.out 31).trans rfl
 have x37 : w0.cell? ⟨w.heap.size, 37, none⟩ = some (.slice p.Ax l.length p.cx) := by rw [← LN.out]; exact (blk_cell K1.out 37).trans rfl
 by_cases d0 : wrap64 (wrap64 (wrap64 ((v.uid.size : Int) + (v.sum.size : Int)) + (v.com.size : Int)) + (v.org.size : Int)) > 3000
 ·have d0b := decide_eq_true d0
  go_wp2_with fail
  go_ret
  exact FewQ.mk (b := false) (by simp) HB.out
 have d0b := decide_eq_false d0
 clear d0
 by_cases d1 : (v.ps.length : Int) > 30
 ·have d1b := decide_eq_true d1
  go_wp2_with fail
  go_ret
  exact FewQ.mk (b := false) (by simp) HB.out
 have D1 := Aside0.mk d1
 have d1b := decide_eq_false d1
 clear d1
 by_cases d2 : (l.length : Int) > 80
 ·have d2b := decide_eq_true d2
  go_wp2_with fail
  go_ret
  exact FewQ.mk (b := false) (by simp) HB.out
 have D2 := Aside0.mk d2
 have d2b := decide_eq_false d2
 clear d2
 go_wp2_with ((with_reducible refine gate_ (.load 30 (.tmp 33)) rfl ?_); (try (refine gate_guard (by rfl) ?_; dsimp only)); refine wpList_load_mid rfl 30 (.tmp 33) rfl w.heap.size 3 rfl (sagg v.set p.sp).toList _ (range_of K1.out 3 _ _ rfl) Tryd.underlying30 rfl (by kernel_rfl) ?_)
 refine (few17 v.set p.sp w0 (OK.out.below HB.out).s HR.out).mono ?_
 rintro q w1 ⟨b, rfl, hbb, hb⟩
 have FW := Aside0.mk hbb
 replace K1 := Aside0.mk (blk_below K1.out hb); replace x37 := pw_cell_below hb x37; replace HB := Aside0.mk (below_then HB.out HB.out.size hb)
 clear hb hbb x0 x27 x28 x30 x31 d0b d1b d2b
 cases b with
 | false =>
  go_wp2_with fail
  go_ret
  exact FewQ.mk (b := false) (by simp) HB.out
 | true =>
 go_wp2_with fail
 clear x37
 go_loopg [41] l.length (fun kq v41 w' => ∃ (i : Nat) (X : Int), v41 = .int .i64 X ∧ Aside0 (X = (i : Int)) ∧ Aside0 (i + kq = l.length) ∧ Aside0 (w'.heap[w.heap.size]? = some (.cells (eagg v p) 34 (0, 0))) ∧ Aside0 (Below w.heap.size w w'))
 case atStart => exact ⟨0, 0, rfl, ⟨rfl⟩, ⟨by omega⟩, K1, HB⟩
 case round =>
  clear K1 HB
  obtain ⟨i, X, rfl, HX, HI, K1, HB⟩ := hrel
  cases gk with
  | zero =>
   have l1 : decide (X < (l.length : Int)) = false := decide_eq_false (by have := HX.out; have := HI.out; omega)
   go_wp2_with fail
   go_ret
   exact FewQ.mk (b := true) (fun _ => ⟨(FW.out (by simp)).1, (FW.out (by simp)).2.1, (FW.out (by simp)).2.2, by have := D1.out; omega, by have := D2.out; omega⟩) HB.out
  | succ k1_ =>
   have p1 : 0 ≤ X := by have := HX.out; omega
   have q1 : X < (l.length : Int) := by have := HX.out; have := HI.out; omega
   have l1 : decide (X < (l.length : Int)) = true := decide_eq_true q1
   have nx : wrap64 (X + 1) = X + 1 := by have := HX.out; have := HI.out; have := D2.out; unfold wrap64; omega
   have x37 : wr.cell? ⟨w.heap.size, 37, none⟩ = some (.slice p.Ax l.length p.cx) := by rw [← LN.out]; exact (blk_cell K1.out 37).trans rfl
   obtain ⟨ad, B1, b1, hAx, y0, y1, y2, ly, gy⟩ := at_T51 (Kd.C_below OK.out.hx HB.out) X p1 q1
   rw [hAx] at x37
   have hm : LineOk (rd_T51 l X) := by
    have hi : i < l.length := by have := HI.out; omega
    have e : rd_T51 l X = l[i] := by simp [rd_T51, HX.out, hi]
    rw [e]
    exact HL.out _ (List.getElem_mem hi)
   obtain ⟨x, hx⟩ : ∃ x, rd_T51 l X = x := ⟨_, rfl⟩
   rw [hx] at y0 y1 y2 ly gy hm
   have LY := Aside0.mk ly; have GY := Aside0.mk gy; have HM := Aside0.mk hm; have AX := Aside0.mk hAx
   replace p1 := eq_true p1; replace q1 := eq_true q1
   clear ly gy hm hx hAx
   go_wp2_with fail
   refine (few10 x HM.out B1 b1 wr GY.out LY.out).mono ?_
   rintro q w2 ⟨b, rfl, hb⟩
   replace K1 := Aside0.mk (blk_below K1.out hb); replace HB := Aside0.mk (below_then HB.out HB.out.size hb)
   clear hb x37 y0 y1 y2
   cases b with
   | false =>
    go_wp2_with fail
    go_ret
    exact FewQ.mk (b := false) (by simp) HB.out
   | true =>
    go_wp2_with fail
    go_roundg k1_
    case measure => omega
    case rel => exact ⟨i + 1, X + 1, by simp [nx], ⟨by have := HX.out; push_cast; omega⟩, ⟨by have := HI.out; omega⟩, K1, HB⟩
end Go.Proofs.YtddoidcbpcmlaaaDoor.FewL
