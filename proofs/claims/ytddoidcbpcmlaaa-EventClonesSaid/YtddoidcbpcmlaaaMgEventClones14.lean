/- Texts of this claim, merged: PureEventClones. -/
import Derived.Test.YtddoidcbpcmlaaaMgEventClones8
import Derived.Test.YtddoidcbpcmlaaaMgEventClones10
import Derived.Test.YtddoidcbpcmlaaaMgEventClones13
/- The law EventClones walked: a clone is alike, whatever becomes of the first one. (Written by gen_evlaw.py.) -/
namespace Go.Proofs.Ytddoidcbpcmlaaa.Pure
open Go.RowKit Go.Proofs.YtddoidcbpcmlaaaW.PrintWords Go.Proofs.YtddoidcbpcmlaaaW.PrintLast Go.Proofs.Ytddoidcbpcmlaaa.M Go.Proofs.Ytddoidcbpcmlaaa.Fr Go.Proofs.Ytddoidcbpcmlaaa.Clo Go.Proofs.Ytddoidcbpcmlaaa.Ru
open Go.Proofs.Ytddoidcbpcmlaaa.SetC (sagg agree_below Sv Sp)
open Go.Proofs.Ytddoidcbpcmlaaa.EvC (Ev Ep eagg OkE OkEF ze szE ldE oneE agree_trans)
open Go.Proofs.Ytddoidcbpcmlaaa.FewL (DL LineOk thL OkG RuOk few18 FewQ)
open Go.Proofs.Ytddoidcbpcmlaaa.Ths (Own row_R row_lower row_stay typed_ne ThQ theirs below_row)
set_option linter.unusedVariables false
set_option linter.unusedSimpArgs false
theorem ev_aw : trystlaw18_awake.f 20 = some true := by kernel_rfl
theorem ev_awake (w : World) : Calls Try.prog 9 #[] w fun e w' => e = .returned (.bool true) ∧ Below w.heap.size w w' := trystlaw18_awake.calls 20 true w ev_aw
theorem szG : (Try.prog.info? 49).map (·.size) = some 38 := by kernel_rfl
theorem infoT : (Try.prog.info? 25).map (fun i => (i.zero, i.size, i.bytes)) = some (some (.agg #[.int .i64 0, .int .i64 0, .string ⟨#[]⟩]), 3, 32) := by kernel_rfl
theorem xG {ρ : Operand → Value} {o : Oper} (q : Operand) (g : Nat) (v : Ev) (p : Ep) (hop : o.op = .load 49 q) (hp : ρ q = .pointer (some ⟨g, 0, none⟩)) (w : World) (hg : w.heap[g]? = some (.cells (eagg v p) 49 (0, 0))) : (execOp ρ o).run Try.prog w = .ok (.value (.agg (eagg v p))) w := by
  unfold execOp
  rw [hop]
  show (do pure (Next.value (← Instr.loadAt 49 (ρ q))) : Sem Next).run Try.prog w = _
  rw [hp]
  simp only [Instr.loadAt, Instr.sureAddr, Sem.run_bind, Sem.run_pure, Result.andThen_ok, run_loadVar_row w g 49 49 (eagg v p) (0, 0) _ hg Try.underlying49 rfl szG]
theorem R_made {α : Type} (d : Kd α) (e : Nat) (W : World) (base : Nat) (hb : base ≤ W.heap.size) : Kd.R d e (W.alloc (.cells #[] e (0, 0))) base (fun _ => True) (.slice (some ⟨W.heap.size, 0, none⟩) 0 0) [] :=
  ⟨fun _ _ => trivial, [], by have := World.ownsRow_lit (base := base) (e := e) (size := d.sz) W #[] 0 hb (by simp) (by simp); simpa using this, Reps.none _ _⟩
theorem setD (v : Ev) (p : Ep) (A : Option Addr) (c : Nat) : (eagg v p).setIfInBounds 24 (.slice A v.set.ds.length c) = eagg v { p with sp := { p.sp with Ad := A, cd := c } } := by
  simp only [List.cons_append, List.nil_append, List.setIfInBounds_toArray, List.set_cons_zero, List.set_cons_succ]
  rfl
theorem flatT {w w1 : World} (x : S25) (cs : List Value) (h : k25.K w x cs) : k25.K w1 x cs := by
  obtain rfl := k25_open h
  exact k25_mk w1 x
theorem flatP {w w1 : World} (x : S40) (cs : List Value) (h : k40.K w x cs) : k40.K w1 x cs := by
  obtain rfl := k40_open h
  exact k40_mk w1 x
theorem row_C {α : Type} {d : Kd α} {e n0 c : Nat} {w0 w : World} {A : Option Addr} {xs : List α} (h : Row d e w0 n0 w A xs) (flat : ∀ x cs, d.K w0 x cs → Fr d n0 w x cs) (hl : xs.length ≤ c) (hm : xs.length ≤ 9223372036854775807) : Kd.C d w A xs.length xs := by
  obtain ⟨A1, c1, e1, _, h1⟩ := RecC.fr_open (Row.fr (e' := e) h flat hl hm)
  cases e1
  exact h1 w (fun _ _ _ => rfl)
theorem own_below {A : Option Addr} {e sz n b : Nat} {w w1 : World} (h : Own A e sz n b w) (hb : Below w.heap.size w w1) : Own A e sz n b w1 := fun hp => by
  obtain ⟨g, cells, h1, h2, h3, h4, h5⟩ := h hp
  exact ⟨g, cells, h1, h2, by have := hb.size; omega, blk_below h4 hb, h5⟩
theorem own_set {A : Option Addr} {e sz n b : Nat} {w : World} (h : Own A e sz n b w) (g j : Nat) (u : Value) : Own A e sz n b (w.setCell ⟨g, j, none⟩ u) := fun hp => by
  obtain ⟨k, cells, h1, h2, h3, h4, h5⟩ := h hp
  by_cases c : k = g
  · subst c
    exact ⟨k, _, h1, h2, by simpa [World.setCell] using h3, blk_set h4 j u, by simpa using h5⟩
  · exact ⟨k, cells, h1, h2, by simpa [World.setCell] using h3, blk_far h4 (p := ⟨g, j, none⟩) c u, h5⟩
theorem own_row {A : Option Addr} {e sz n b : Nat} {w w1 : World} (h : Own A e sz n b w) (g e' : Nat) (cs cs' : Array Value) (hg : w.heap[g]? = some (.cells cs e' (0, 0))) (he : e ≠ e') : Own A e sz n b (w.setRow g cs') := fun hp => by
  obtain ⟨k, cells, h1, h2, h3, h4, h5⟩ := h hp
  exact ⟨k, cells, h1, h2, by rw [setRow_size]; exact h3, (setRow_other _ _ _ _ (typed_ne h4 hg he)).trans h4, h5⟩
/-- What stands while the first event is spoilt: the boxes, and the rows that are spoilt. -/
structure Inv (v : Ev) (p pO pA : Ep) (h gO gA n : Nat) (A2 A3 A4 : Option Addr) (w w5 w' : World) : Prop where
  ag : Agree n w5 w'
  sz : w'.heap.size = w5.heap.size
  bel : Below h w w'
  g : w'.heap[h]? = some (.cells (eagg v p) 49 (0, 0))
  o : w'.heap[gO]? = some (.cells (eagg v pO) 49 (0, 0))
  a : w'.heap[gA]? = some (.cells (eagg v pA) 36 (0, 0))
  d : Own A2 25 3 v.set.ds.length h w'
  p : Own A3 40 6 v.ps.length h w'
  l : Own A4 55 3 v.ex.length h w'
theorem Inv.set {v : Ev} {p pO pA : Ep} {h gO gA n : Nat} {A2 A3 A4 : Option Addr} {w w5 w' : World} (I : Inv v p pO pA h gO gA n A2 A3 A4 w w5 w') (k e j : Nat) (u : Value) (cells : Array Value) (hk : w'.heap[k]? = some (.cells cells e (0, 0))) (h1 : h ≤ k) (h2 : k < n) (n1 : e ≠ 49) (n2 : e ≠ 36) :
    Inv v p pO pA h gO gA n A2 A3 A4 w w5 (w'.setCell ⟨k, j, none⟩ u) where
  ag := fun q q1 q2 => (Below.heap_setCell w' ⟨k, j, none⟩ u q (by show q ≠ k; omega)).trans (I.ag q q1 q2)
  sz := by have := I.sz; simpa [World.setCell] using this
  bel := I.bel.setCell (p := ⟨k, j, none⟩) h1 u
  g := blk_far I.g (p := ⟨k, j, none⟩) (typed_ne I.g hk n1.symm) u
  o := blk_far I.o (p := ⟨k, j, none⟩) (typed_ne I.o hk n1.symm) u
  a := blk_far I.a (p := ⟨k, j, none⟩) (typed_ne I.a hk n2.symm) u
  d := own_set I.d k j u
  p := own_set I.p k j u
  l := own_set I.l k j u
theorem cell_of {w : World} {g e : Nat} {cells : Array Value} (h : w.heap[g]? = some (.cells cells e (0, 0))) (j : Nat) (hj : j < cells.size) : ∃ u, w.cell? ⟨g, j, none⟩ = some u := ⟨cells[j], by rw [blk_cell h, Array.getElem?_eq_getElem hj]⟩
def Tevl : Bool × List (List Nat × List Nat) := (true, [([], []), ([], []), ([1], [1]), ([0, 2, 2], [0, 2]), ([3, 3], [3]), ([4], [4]), ([4], [4]), ([6, 4, 4], [4, 6]), ([5, 7, 7, 4], [4, 5, 7]), ([4, 8], [4, 8]), ([9, 8, 0, 1, 2, 3, 4, 5, 6, 7, 8, 9], [9])])
def Bevl : List Nat := [0, 0, 2, 7, 15, 31, 31, 95, 255, 511, 1023]
theorem tabevl : rtab .any (opsOf Try.f5 23) = Tevl := by kernel_rfl
theorem bitsevl : waitsOk Tevl.2 Bevl = true := by kernel_rfl
set_option maxHeartbeats 8000000 in
set_option maxRecDepth 100000 in
theorem EventClones_calls0 (v : Ev) (l : List DL) (p : Ep) (n : Int) (w : World) (ok : OkG v l p w) (hr : RuOk v.set.r) (hl : ∀ x ∈ l, LineOk x) :
    Calls Try.prog 5 #[.agg (eagg v p), .int .i64 n] w fun e w' => e = .returned (.bool true) ∧ Below w.heap.size w w' := by
  have OK := Aside0.mk ok; have HR := Aside0.mk hr; have HL := Aside0.mk hl
  clear ok hr hl
  go_enter Try.func5, Try.ntmps5
  go_upto_region 1 with fail
  obtain ⟨w0, hw0, z0⟩ : ∃ w0, w0 = w.alloc (.cells (eagg v p) 49 (0, 0)) ∧ w0.heap[w.heap.size]? = some (.cells (eagg v p) 49 (0, 0)) ∧ Below w.heap.size w w0 := ⟨_, rfl, blk_new _ _, below_alloc (Below.refl _ _) _⟩
  have KG := Aside0.mk z0.1; have HB := Aside0.mk z0.2
  rw [← hw0]
  clear hw0 z0
  go_wp2_with fail
  refine (ev_awake w0).mono ?_
  rintro q w1 ⟨rfl, hb⟩
  replace KG := Aside0.mk (blk_below KG.out hb); replace HB := Aside0.mk (below_then HB.out HB.out.size hb)
  clear hb
  go_wp2_with ((with_reducible refine gate_ (.load 49 (.tmp 2)) rfl ?_); (try (refine gate_guard (by rfl) ?_; dsimp only)); refine Kd.event_run rfl (xG (.tmp 2) w.heap.size v p rfl rfl _ KG.out) ?_)
  refine (few18 v l p w1 (OK.out.below HB.out) HR.out HL.out).mono ?_
  rintro q w2 ⟨b, rfl, hbb, hb⟩
  have FW := Aside0.mk hbb
  replace KG := Aside0.mk (blk_below KG.out hb); replace HB := Aside0.mk (below_then HB.out HB.out.size hb)
  clear hb hbb
  cases b with
  | false =>
    go_wp2_with fail
    refine (ev_awake w2).mono ?_
    rintro q w3 ⟨rfl, hb⟩
    replace HB := Aside0.mk (below_then HB.out HB.out.size hb)
    clear hb
    go_wp2_with fail
    go_ret
    exact ⟨rfl, HB.out⟩
  | true =>
  obtain ⟨f1, f2, f3, f4, f5⟩ := FW.out rfl
  have SM := Aside0.mk (show EvC.Small v from ⟨⟨f1, by omega, by omega⟩, by omega, by rw [OK.out.len]; omega, fun x hx => by
    rw [OK.out.hv] at hx
    obtain ⟨y, hy, rfl⟩ := List.mem_map.1 hx
    refine ⟨by have := (HL.out y hy).1; simpa [thL] using this, fun q hq => ?_⟩
    obtain ⟨z, hz, rfl⟩ := List.mem_map.1 hq
    exact Nat.le_of_lt ((HL.out y hy).2 z hz)⟩)
  have F2 := Aside0.mk f2; have F4 := Aside0.mk f4; have F5 := Aside0.mk f5
  clear f1 f2 f3 f4 f5 FW
  go_upto_region 4 with (first | ((with_reducible refine gate_ (.load 49 (.tmp 2)) rfl ?_); (try (refine gate_guard (by rfl) ?_; dsimp only)); refine Kd.event_run rfl (xG (.tmp 2) w.heap.size v p rfl rfl _ KG.out) ?_) | ((with_reducible refine gate_ (.store 49 (.tmp 5) (.tmp 19)) rfl ?_); (try (refine gate_guard (by rfl) ?_; dsimp only)); refine wpList_store_row rfl 49 (.tmp 5) (.tmp 19) rfl w2.heap.size (eagg v p) rfl rfl 49 ze (blk_new _ _) szG rfl (oneE v p) ?_))
  have KO := Aside0.mk (setRow_heap (w2.alloc (.cells ze 49 (0, 0))) w2.heap.size _ (eagg v p) _ _ (blk_new _ _))
  have GO := Aside0.mk (show w.heap.size < w2.heap.size from blk_lt KG.out)
  replace KG := Aside0.mk ((setRow_other (w2.alloc (.cells ze 49 (0, 0))) w2.heap.size _ (eagg v p) (show w.heap.size ≠ w2.heap.size by have := GO.out; omega)).trans (blk_alloc KG.out _))
  replace HB := Aside0.mk (below_row (below_alloc HB.out (.cells ze 49 (0, 0))) w2.heap.size (eagg v p) (by have := GO.out; omega))
  generalize (w2.alloc (.cells ze 49 (0, 0))).setRow w2.heap.size (eagg v p) = w3 at KO KG HB ⊢
  obtain ⟨gO, hgO⟩ : ∃ gO, w2.heap.size = gO := ⟨_, rfl⟩
  rw [hgO] at KO GO ⊢
  clear hgO
  clear w2

  have xs_ : ∀ ob, (w3.alloc ob).cell? ⟨w.heap.size, 31, none⟩ = some (.slice p.Ap v.ps.length p.cp) := fun ob => Lib.cell?_alloc_some ob ((blk_cell KG.out 31).trans rfl)
  go_wp2_with (at_builtin; refine Kd.R_append_rows k40 (w0 := w3) w3.heap.size rfl (.tmp 20) (.tmp 22) 33 40 (.agg #[(.string ⟨#[]⟩), (.int .i64 0), (.int .i64 0), (.bool false), (.string ⟨#[]⟩), (.string ⟨#[]⟩)]) 72 rfl Try.underlying33 info40 rfl (by decide) (by omega) _ [] v.ps p.Ap v.ps.length p.cp (fun _ => True) (fun _ => False) rfl rfl (R_made k40 40 w3 w3.heap.size (Nat.le_refl _)) (Kd.C_below OK.out.hp (below_alloc HB.out _)) (fun _ _ h => h) (fun _ h => h.elim) (fun _ _ => trivial) (below_alloc (Below.refl _ _) _) (by simp) (by have := F4.out; simp; omega) ?_)
  intro v26 w4 ho hb _ _
  obtain ⟨A1, c1, rfl, hc, hrow⟩ := row_R (w0 := w) ho (fun x cs hx => flatP x cs hx)
  (try simp only [List.nil_append] at hc hrow ⊢)
  replace KO := Aside0.mk (blk_below KO.out hb); replace KG := Aside0.mk (blk_below KG.out hb)
  have R1 := Aside0.mk (row_lower hrow HB.out.size); have C1 := Aside0.mk hc
  replace HB := Aside0.mk (below_then HB.out HB.out.size hb)
  clear ho hb hrow hc xs_
  have ko := (blk_cell KO.out 31).trans rfl
  have kf := blk_frozen KO.out 31
  go_upto_region 5 with fail
  have KO_ := Aside0.mk KO.out
  replace KO := Aside0.mk (show (w4.setCell ⟨gO, 31, none⟩ (.slice A1 v.ps.length c1)).heap[gO]? = some (.cells (eagg v { p with Ap := A1, cp := c1 }) 49 (0, 0)) from EvC.setP v p A1 c1 ▸ blk_set KO.out 31 _)
  replace KG := Aside0.mk (blk_far KG.out (p := ⟨gO, 31, none⟩) (show w.heap.size ≠ gO by have := GO.out; omega) (.slice A1 v.ps.length c1))
  replace R1 := Aside0.mk (row_stay (w1 := w4.setCell ⟨gO, 31, none⟩ (.slice A1 v.ps.length c1)) R1.out (fun g cells hg => Below.heap_setCell _ _ _ g (typed_ne hg KO_.out (by decide))) (by simp [World.setCell]))
  replace HB := Aside0.mk (HB.out.setCell (p := ⟨gO, 31, none⟩) (show w.heap.size ≤ gO by have := GO.out; omega) (.slice A1 v.ps.length c1))
  clear ko kf KO_
  generalize w4.setCell ⟨gO, 31, none⟩ (.slice A1 v.ps.length c1) = w5 at KO KG R1 HB ⊢
  have xs_ : ∀ ob, (w5.alloc ob).cell? ⟨w.heap.size, 24, none⟩ = some (.slice p.sp.Ad v.set.ds.length p.sp.cd) := fun ob => Lib.cell?_alloc_some ob ((blk_cell KG.out 24).trans rfl)
  go_wp2_with (at_builtin; refine Kd.R_append_rows k25 (w0 := w5) w5.heap.size rfl (.tmp 25) (.tmp 28) 30 25 (.agg #[.int .i64 0, .int .i64 0, .string ⟨#[]⟩]) 32 rfl Try.underlying30 infoT rfl (by decide) (by omega) _ [] v.set.ds p.sp.Ad v.set.ds.length p.sp.cd (fun _ => True) (fun _ => False) rfl rfl (R_made k25 25 w5 w5.heap.size (Nat.le_refl _)) (Kd.C_below OK.out.s.hd (below_alloc HB.out _)) (fun _ _ h => h) (fun _ h => h.elim) (fun _ _ => trivial) (below_alloc (Below.refl _ _) _) (by simp) (by have := F2.out; simp; omega) ?_)
  intro v26 w6 ho hb _ _
  obtain ⟨A2, c2, rfl, hc, hrow⟩ := row_R (w0 := w) ho (fun x cs hx => flatT x cs hx)
  (try simp only [List.nil_append] at hc hrow ⊢)
  replace KO := Aside0.mk (blk_below KO.out hb); replace KG := Aside0.mk (blk_below KG.out hb); replace R1 := Aside0.mk (Ths.row_below R1.out hb)
  have R2 := Aside0.mk (row_lower hrow HB.out.size); have C2 := Aside0.mk hc
  replace HB := Aside0.mk (below_then HB.out HB.out.size hb)
  clear ho hb hrow hc xs_
  have ko := (blk_cell KO.out 24).trans rfl
  have kf := blk_frozen KO.out 24
  go_upto_region 6 with fail
  have KO_ := Aside0.mk KO.out
  replace KO := Aside0.mk (show (w6.setCell ⟨gO, 24, none⟩ (.slice A2 v.set.ds.length c2)).heap[gO]? = some (.cells (eagg v ⟨{ p.sp with Ad := A2, cd := c2 }, A1, c1, p.Ax, p.cx⟩) 49 (0, 0)) from setD v { p with Ap := A1, cp := c1 } A2 c2 ▸ blk_set KO.out 24 _)
  replace KG := Aside0.mk (blk_far KG.out (p := ⟨gO, 24, none⟩) (show w.heap.size ≠ gO by have := GO.out; omega) (.slice A2 v.set.ds.length c2))
  replace R1 := Aside0.mk (row_stay (w1 := w6.setCell ⟨gO, 24, none⟩ (.slice A2 v.set.ds.length c2)) R1.out (fun g cells hg => Below.heap_setCell _ _ _ g (typed_ne hg KO_.out (by decide))) (by simp [World.setCell]))
  replace R2 := Aside0.mk (row_stay (w1 := w6.setCell ⟨gO, 24, none⟩ (.slice A2 v.set.ds.length c2)) R2.out (fun g cells hg => Below.heap_setCell _ _ _ g (typed_ne hg KO_.out (by decide))) (by simp [World.setCell]))
  replace HB := Aside0.mk (HB.out.setCell (p := ⟨gO, 24, none⟩) (show w.heap.size ≤ gO by have := GO.out; omega) (.slice A2 v.set.ds.length c2))
  clear ko kf KO_
  generalize w6.setCell ⟨gO, 24, none⟩ (.slice A2 v.set.ds.length c2) = w7 at KO KG R1 R2 HB ⊢
  have OKO := Aside0.mk (show OkG v l ⟨{ p.sp with Ad := A2, cd := c2 }, A1, c1, p.Ax, p.cx⟩ w7 from by
    have h := OK.out.below HB.out
    exact ⟨⟨h.s.o, row_C R2.out (fun x cs hx _ _ => flatT x cs hx) C2.out (by have := F2.out; omega), C2.out, h.s.hb, h.s.db⟩, row_C R1.out (fun x cs hx _ _ => flatP x cs hx) C1.out (by have := F4.out; omega), C1.out, h.hx, h.dx, h.hv⟩)
  have DO := Aside0.mk (Own.of_row R2.out (by decide))
  clear R1 R2
  obtain ⟨pO, hpO⟩ : ∃ pO : Ep, pO = ⟨{ p.sp with Ad := A2, cd := c2 }, A1, c1, p.Ax, p.cx⟩ := ⟨_, rfl⟩
  have AD := Aside0.mk (show pO.sp.Ad = A2 ∧ pO.sp.cd = c2 by rw [hpO]; exact ⟨rfl, rfl⟩)
  rw [← hpO] at KO OKO
  clear hpO C1 C2
  go_wp2_with ((with_reducible refine gate_ (.load 49 (.tmp 5)) rfl ?_); (try (refine gate_guard (by rfl) ?_; dsimp only)); refine Kd.event_run rfl (xG (.tmp 5) gO v pO rfl rfl _ KO.out) ?_)
  refine (theirs v l pO w7 OKO.out (by have := F4.out; omega) (by have := F5.out; omega) HL.out).mono ?_
  rintro q w8 ⟨A3, c3, A4, c4, rfl, oA, rP, rX, hb⟩
  replace KO := Aside0.mk (blk_below KO.out hb); replace KG := Aside0.mk (blk_below KG.out hb); replace DO := Aside0.mk (own_below DO.out hb)
  have PO := Aside0.mk (Own.low rP HB.out.size); have XO := Aside0.mk (Own.low rX HB.out.size); have OA := Aside0.mk oA
  replace HB := Aside0.mk (below_then HB.out HB.out.size hb)
  clear hb oA rP rX OKO
  obtain ⟨pA, hpA⟩ : ∃ pA : Ep, pA = (⟨pO.sp, A3, c3, A4, c4⟩ : Ep) := ⟨_, rfl⟩
  have AA := Aside0.mk (show pA.Ap = A3 ∧ pA.cp = c3 ∧ pA.Ax = A4 ∧ pA.cx = c4 by rw [hpA]; exact ⟨rfl, rfl, rfl, rfl⟩)
  rw [← hpA] at OA ⊢
  clear hpA

  go_upto_region 7 with ((with_reducible refine gate_ (.store 36 (.tmp 6) (.tmp 33)) rfl ?_); (try (refine gate_guard (by rfl) ?_; dsimp only)); refine wpList_store_row rfl 36 (.tmp 6) (.tmp 33) rfl w8.heap.size (eagg v pA) rfl rfl 36 ze (blk_new _ _) szE rfl (oneE v pA) ?_)
  have KA := Aside0.mk (setRow_heap (w8.alloc (.cells ze 36 (0, 0))) w8.heap.size _ (eagg v pA) _ _ (blk_new _ _))
  have LKO := Aside0.mk (blk_lt KO.out)
  replace KO := Aside0.mk ((setRow_other (w8.alloc (.cells ze 36 (0, 0))) w8.heap.size _ (eagg v pA) (show gO ≠ w8.heap.size by have := LKO.out; omega)).trans (blk_alloc KO.out _))
  have LKG := Aside0.mk (blk_lt KG.out)
  replace KG := Aside0.mk ((setRow_other (w8.alloc (.cells ze 36 (0, 0))) w8.heap.size _ (eagg v pA) (show w.heap.size ≠ w8.heap.size by have := LKG.out; omega)).trans (blk_alloc KG.out _))
  replace DO := Aside0.mk (own_row (w1 := w8) (own_below DO.out (below_alloc (Below.refl _ _) (.cells ze 36 (0, 0)))) w8.heap.size 36 _ (eagg v pA) (blk_new _ _) (by decide))
  replace PO := Aside0.mk (own_row (w1 := w8) (own_below PO.out (below_alloc (Below.refl _ _) (.cells ze 36 (0, 0)))) w8.heap.size 36 _ (eagg v pA) (blk_new _ _) (by decide))
  replace XO := Aside0.mk (own_row (w1 := w8) (own_below XO.out (below_alloc (Below.refl _ _) (.cells ze 36 (0, 0)))) w8.heap.size 36 _ (eagg v pA) (blk_new _ _) (by decide))
  have GA := Aside0.mk (show w.heap.size ≤ w8.heap.size from HB.out.size)
  have HZ := Aside0.mk (below_row (below_alloc (Below.refl w8.heap.size w8) (.cells ze 36 (0, 0))) w8.heap.size (eagg v pA) (Nat.le_refl _))
  replace HB := Aside0.mk (below_row (below_alloc HB.out (.cells ze 36 (0, 0))) w8.heap.size (eagg v pA) GA.out)
  replace OA := Aside0.mk (OkE.below OA.out HZ.out)
  generalize (w8.alloc (.cells ze 36 (0, 0))).setRow w8.heap.size (eagg v pA) = w9 at KA KO KG DO PO XO HZ HB OA ⊢
  clear HZ LKO LKG
  obtain ⟨gA, hgA⟩ : ∃ gA, w8.heap.size = gA := ⟨_, rfl⟩
  rw [hgA] at KA GA ⊢
  clear hgA
  clear w8
  go_wp2_with ((with_reducible refine gate_ (.load 36 (.tmp 6)) rfl ?_); (try (refine gate_guard (by rfl) ?_; dsimp only)); refine Kd.event_run rfl (EvC.xR (.tmp 6) gA v pA rfl rfl _ KA.out) ?_)
  refine (EvC.clone v pA w9 OA.out SM.out).mono ?_
  rintro q w10 ⟨pB, rfl, eF, hb⟩
  have N9 := Aside0.mk (show (∀ g cells e, w9.heap[g]? = some (Obj.cells cells e (0, 0)) → g < w9.heap.size) ∧ w.heap.size ≤ w9.heap.size from ⟨fun g cells e h => blk_lt h, HB.out.size⟩)
  have LA := Aside0.mk (blk_lt KA.out)
  replace KO := Aside0.mk (blk_below KO.out hb); replace KG := Aside0.mk (blk_below KG.out hb); replace KA := Aside0.mk (blk_below KA.out hb)
  have PL := Aside0.mk (show (∀ g, A3 = some ⟨g, 0, none⟩ → 0 < v.ps.length → g < w9.heap.size) ∧ (∀ g, A2 = some ⟨g, 0, none⟩ → 0 < v.set.ds.length → g < w9.heap.size) ∧ (∀ g, A4 = some ⟨g, 0, none⟩ → 0 < v.ex.length → g < w9.heap.size) from
    ⟨fun g e hp => by obtain ⟨k, _, e1, _, h3, _⟩ := PO.out hp; rw [e] at e1; cases e1; exact h3, fun g e hp => by obtain ⟨k, _, e1, _, h3, _⟩ := DO.out hp; rw [e] at e1; cases e1; exact h3, fun g e hp => by obtain ⟨k, _, e1, _, h3, _⟩ := XO.out hp; rw [e] at e1; cases e1; exact h3⟩)
  replace DO := Aside0.mk (own_below DO.out hb); replace PO := Aside0.mk (own_below PO.out hb); replace XO := Aside0.mk (own_below XO.out hb)
  have EF := Aside0.mk eF; have SB := Aside0.mk hb.size
  replace HB := Aside0.mk (below_then HB.out HB.out.size hb)
  clear hb eF OA N9
  go_upto_region 8 with ((with_reducible refine gate_ (.store 36 (.tmp 7) (.tmp 35)) rfl ?_); (try (refine gate_guard (by rfl) ?_; dsimp only)); refine wpList_store_row rfl 36 (.tmp 7) (.tmp 35) rfl w10.heap.size (eagg v pB) rfl rfl 36 ze (blk_new _ _) szE rfl (oneE v pB) ?_)
  have KB := Aside0.mk (setRow_heap (w10.alloc (.cells ze 36 (0, 0))) w10.heap.size _ (eagg v pB) _ _ (blk_new _ _))
  have LKO := Aside0.mk (blk_lt KO.out)
  replace KO := Aside0.mk ((setRow_other (w10.alloc (.cells ze 36 (0, 0))) w10.heap.size _ (eagg v pB) (show gO ≠ w10.heap.size by have := LKO.out; omega)).trans (blk_alloc KO.out _))
  have LKG := Aside0.mk (blk_lt KG.out)
  replace KG := Aside0.mk ((setRow_other (w10.alloc (.cells ze 36 (0, 0))) w10.heap.size _ (eagg v pB) (show w.heap.size ≠ w10.heap.size by have := LKG.out; omega)).trans (blk_alloc KG.out _))
  have LKA := Aside0.mk (blk_lt KA.out)
  replace KA := Aside0.mk ((setRow_other (w10.alloc (.cells ze 36 (0, 0))) w10.heap.size _ (eagg v pB) (show gA ≠ w10.heap.size by have := LKA.out; omega)).trans (blk_alloc KA.out _))
  replace DO := Aside0.mk (own_row (w1 := w10) (own_below DO.out (below_alloc (Below.refl _ _) (.cells ze 36 (0, 0)))) w10.heap.size 36 _ (eagg v pB) (blk_new _ _) (by decide))
  replace PO := Aside0.mk (own_row (w1 := w10) (own_below PO.out (below_alloc (Below.refl _ _) (.cells ze 36 (0, 0)))) w10.heap.size 36 _ (eagg v pB) (blk_new _ _) (by decide))
  replace XO := Aside0.mk (own_row (w1 := w10) (own_below XO.out (below_alloc (Below.refl _ _) (.cells ze 36 (0, 0)))) w10.heap.size 36 _ (eagg v pB) (blk_new _ _) (by decide))
  have GB := Aside0.mk (show w.heap.size ≤ w10.heap.size from HB.out.size)
  have HZ := Aside0.mk (below_row (below_alloc (Below.refl w10.heap.size w10) (.cells ze 36 (0, 0))) w10.heap.size (eagg v pB) (Nat.le_refl _))
  replace HB := Aside0.mk (below_row (below_alloc HB.out (.cells ze 36 (0, 0))) w10.heap.size (eagg v pB) GB.out)
  replace EF := Aside0.mk (show OkEF v pB w9.heap.size ((w10.alloc (.cells ze 36 (0, 0))).setRow w10.heap.size (eagg v pB)) from ⟨fun W hW => EF.out.h W fun k h1 h2 => (hW k h1 (by have := HZ.out.size; omega)).trans (HZ.out.block k h2)⟩)
  have GB2 := Aside0.mk (show w9.heap.size ≤ w10.heap.size from SB.out)
  have LB := Aside0.mk (blk_lt KB.out)
  generalize (w10.alloc (.cells ze 36 (0, 0))).setRow w10.heap.size (eagg v pB) = w11 at KA KB KO KG DO PO XO HZ HB EF LB ⊢
  clear HZ LKO LKG LKA
  obtain ⟨gB, hgB⟩ : ∃ gB, w10.heap.size = gB := ⟨_, rfl⟩
  rw [hgB] at KB GB GB2 LB ⊢
  clear hgB SB
  clear w10
  obtain ⟨m, hm⟩ : ∃ m, w9.heap.size = m := ⟨_, rfl⟩
  rw [hm] at EF PL GB2 LA
  clear hm
  have IV := Aside0.mk (show Inv v p pO pA w.heap.size gO gA m A2 A3 A4 w w11 w11 from ⟨fun _ _ _ => rfl, rfl, HB.out, KG.out, KO.out, KA.out, DO.out, PO.out, XO.out⟩)
  clear KG KO KA DO PO XO HB
  have xs_ : w11.cell? ⟨gA, 31, none⟩ = some (.slice A3 v.ps.length c3) := by rw [← AA.out.1, ← AA.out.2.1]; exact (blk_cell IV.out.a 31).trans rfl
  go_wp2_with fail
  clear xs_
  go_loopg [39] v.ps.length (fun kq v_ w' => ∃ (i : Nat) (X : Int), v_ = .int .i64 X ∧ Aside0 (X = (i : Int)) ∧ Aside0 (i + kq = v.ps.length) ∧ Aside0 (Inv v p pO pA w.heap.size gO gA m A2 A3 A4 w w11 w'))
  case atStart => exact ⟨0, 0, rfl, ⟨rfl⟩, ⟨by omega⟩, IV⟩
  case round =>
    clear IV
    obtain ⟨i, X, rfl, HX, HI, IV⟩ := hrel
    cases gk with
    | succ k1_ =>
      have hi : i < v.ps.length := by have := HI.out; omega
      have p1 : 0 ≤ X := by have := HX.out; omega
      have q1 : X < (v.ps.length : Int) := by have := HX.out; omega
      have l1 : decide (X < (v.ps.length : Int)) = true := decide_eq_true q1
      have nx : wrap64 (X + 1) = X + 1 := by have := HX.out; have := HI.out; have := F2.out; have := F4.out; have := F5.out; have := OK.out.len; unfold wrap64; omega
      obtain ⟨g, cells, hA, h1, h2, h3, h4⟩ := IV.out.p (by omega)
      have h5 := PL.out.1 g hA (by omega)
      have xs_ : wr.cell? ⟨gA, 31, none⟩ = some (.slice (some ⟨g, 0, none⟩) v.ps.length c3) := by rw [← hA, ← AA.out.1, ← AA.out.2.1]; exact (blk_cell IV.out.a 31).trans rfl
      obtain ⟨u1, k1⟩ := cell_of h3 (X.toNat * 6 + 1) (by have := HX.out; have h6 : (i + 1) * 6 ≤ v.ps.length * 6 := Nat.mul_le_mul_right _ hi; omega)
      have f1 := blk_frozen h3 (X.toNat * 6 + 1)
      have H1 := Aside0.mk h1; have H3 := Aside0.mk h3; have H5 := Aside0.mk h5
      replace p1 := eq_true p1; replace q1 := eq_true q1
      clear hi hA h1 h2 h3 h4 h5
      go_wp2_with fail
      go_roundg k1_
      case measure => omega
      case rel => exact ⟨i + 1, X + 1, by simp [nx], ⟨by have := HX.out; push_cast; omega⟩, ⟨by have := HI.out; omega⟩, ⟨IV.out.set g 40 _ _ cells H3.out H1.out H5.out (by decide) (by decide)⟩⟩
    | zero =>
      have l1 : decide (X < (v.ps.length : Int)) = false := decide_eq_false (by have := HX.out; have := HI.out; omega)
      go_upto_region 13 with fail
      clear HX HI l1
      have xs_ : wr.cell? ⟨gO, 24, none⟩ = some (.slice A2 v.set.ds.length c2) := by rw [← AD.out.1, ← AD.out.2]; exact (blk_cell IV.out.o 24).trans rfl
      go_wp2_with fail
      clear xs_
      go_loopg [53] v.set.ds.length (fun kq v_ w' => ∃ (i : Nat) (X : Int), v_ = .int .i64 X ∧ Aside0 (X = (i : Int)) ∧ Aside0 (i + kq = v.set.ds.length) ∧ Aside0 (Inv v p pO pA w.heap.size gO gA m A2 A3 A4 w w11 w'))
      case atStart => exact ⟨0, 0, rfl, ⟨rfl⟩, ⟨by omega⟩, IV⟩
      case round =>
        clear IV
        obtain ⟨i, X, rfl, HX, HI, IV⟩ := hrel
        cases gk with
        | succ k1_ =>
          have hi : i < v.set.ds.length := by have := HI.out; omega
          have p1 : 0 ≤ X := by have := HX.out; omega
          have q1 : X < (v.set.ds.length : Int) := by have := HX.out; omega
          have l1 : decide (X < (v.set.ds.length : Int)) = true := decide_eq_true q1
          have nx : wrap64 (X + 1) = X + 1 := by have := HX.out; have := HI.out; have := F2.out; have := F4.out; have := F5.out; have := OK.out.len; unfold wrap64; omega
          obtain ⟨g, cells, hA, h1, h2, h3, h4⟩ := IV.out.d (by omega)
          have h5 := PL.out.2.1 g hA (by omega)
          have xs_ : wr.cell? ⟨gO, 24, none⟩ = some (.slice (some ⟨g, 0, none⟩) v.set.ds.length c2) := by rw [← hA, ← AD.out.1, ← AD.out.2]; exact (blk_cell IV.out.o 24).trans rfl
          obtain ⟨u1, k1⟩ := cell_of h3 (X.toNat * 3 + 1) (by have := HX.out; have h6 : (i + 1) * 3 ≤ v.set.ds.length * 3 := Nat.mul_le_mul_right _ hi; omega)
          have f1 := blk_frozen h3 (X.toNat * 3 + 1)
          have H1 := Aside0.mk h1; have H3 := Aside0.mk h3; have H5 := Aside0.mk h5
          replace p1 := eq_true p1; replace q1 := eq_true q1
          clear hi hA h1 h2 h3 h4 h5
          go_wp2_with fail
          go_roundg k1_
          case measure => omega
          case rel => exact ⟨i + 1, X + 1, by simp [nx], ⟨by have := HX.out; push_cast; omega⟩, ⟨by have := HI.out; omega⟩, ⟨IV.out.set g 25 _ _ cells H3.out H1.out H5.out (by decide) (by decide)⟩⟩
        | zero =>
          have l1 : decide (X < (v.set.ds.length : Int)) = false := decide_eq_false (by have := HX.out; have := HI.out; omega)
          go_upto_region 18 with fail
          clear HX HI l1
          have xs_ : wr.cell? ⟨gA, 37, none⟩ = some (.slice A4 v.ex.length c4) := by rw [← AA.out.2.2.1, ← AA.out.2.2.2]; exact (blk_cell IV.out.a 37).trans rfl
          go_wp2_with fail
          clear xs_
          go_loopg [67] v.ex.length (fun kq v_ w' => ∃ (i : Nat) (X : Int), v_ = .int .i64 X ∧ Aside0 (X = (i : Int)) ∧ Aside0 (i + kq = v.ex.length) ∧ Aside0 (Inv v p pO pA w.heap.size gO gA m A2 A3 A4 w w11 w'))
          case atStart => exact ⟨0, 0, rfl, ⟨rfl⟩, ⟨by omega⟩, IV⟩
          case round =>
            clear IV
            obtain ⟨i, X, rfl, HX, HI, IV⟩ := hrel
            cases gk with
            | succ k1_ =>
              have hi : i < v.ex.length := by have := HI.out; omega
              have p1 : 0 ≤ X := by have := HX.out; omega
              have q1 : X < (v.ex.length : Int) := by have := HX.out; omega
              have l1 : decide (X < (v.ex.length : Int)) = true := decide_eq_true q1
              have nx : wrap64 (X + 1) = X + 1 := by have := HX.out; have := HI.out; have := F2.out; have := F4.out; have := F5.out; have := OK.out.len; unfold wrap64; omega
              obtain ⟨g, cells, hA, h1, h2, h3, h4⟩ := IV.out.l (by omega)
              have h5 := PL.out.2.2 g hA (by omega)
              have xs_ : wr.cell? ⟨gA, 37, none⟩ = some (.slice (some ⟨g, 0, none⟩) v.ex.length c4) := by rw [← hA, ← AA.out.2.2.1, ← AA.out.2.2.2]; exact (blk_cell IV.out.a 37).trans rfl
              obtain ⟨u0, k0⟩ := cell_of h3 (X.toNat * 3) (by have := HX.out; have h6 : (i + 1) * 3 ≤ v.ex.length * 3 := Nat.mul_le_mul_right _ hi; omega)
              have f0 := blk_frozen h3 (X.toNat * 3)
              obtain ⟨u1, k1⟩ := cell_of h3 (X.toNat * 3 + 1) (by have := HX.out; have h6 : (i + 1) * 3 ≤ v.ex.length * 3 := Nat.mul_le_mul_right _ hi; omega)
              have f1 := blk_frozen h3 (X.toNat * 3 + 1)
              obtain ⟨u2, k2⟩ := cell_of h3 (X.toNat * 3 + 2) (by have := HX.out; have h6 : (i + 1) * 3 ≤ v.ex.length * 3 := Nat.mul_le_mul_right _ hi; omega)
              have f2 := blk_frozen h3 (X.toNat * 3 + 2)
              have H1 := Aside0.mk h1; have H3 := Aside0.mk h3; have H5 := Aside0.mk h5
              replace p1 := eq_true p1; replace q1 := eq_true q1
              clear hi hA h1 h2 h3 h4 h5
              go_wp2_with fail
              go_roundg k1_
              case measure => omega
              case rel => exact ⟨i + 1, X + 1, by simp [nx], ⟨by have := HX.out; push_cast; omega⟩, ⟨by have := HI.out; omega⟩, ⟨((IV.out.set g 55 _ _ cells H3.out H1.out H5.out (by decide) (by decide)).set g 55 _ _ _ (blk_set H3.out _ _) H1.out H5.out (by decide) (by decide)).set g 55 _ _ _ (blk_set (blk_set H3.out _ _) _ _) H1.out H5.out (by decide) (by decide)⟩⟩
            | zero =>
              have l1 : decide (X < (v.ex.length : Int)) = false := decide_eq_false (by have := HX.out; have := HI.out; omega)
              go_upto_region 23 with fail
              clear HX HI l1
              have OB := Aside0.mk (EF.out.h wr IV.out.ag)
              have KB2 := Aside0.mk ((IV.out.ag gB GB2.out LB.out).trans KB.out)
              have KG := Aside0.mk IV.out.g; have HB := Aside0.mk IV.out.bel
              clear IV KB EF
              refine start_ (n := 11) (S := fun w' => w'.heap[gB]? = some (.cells (eagg v pB) 36 (0, 0)) ∧ w'.heap[w.heap.size]? = some (.cells (eagg v p) 49 (0, 0))) (ds := []) (tt 11 0) (by kernel_rfl) rfl rfl ⟨blk_drew KB2.out, blk_drew KG.out⟩ (fun hHeld => ?_)
              refine with_tabW tabevl bitsevl (fun HT_ HW_ => ?_)
              replace OB := Aside0.mk (OkE.below OB.out (below_drew1 (Below.refl wr.heap.size wr))); replace HB := Aside0.mk (below_drew1 HB.out)
              generalize wr.drew = wd_ at OB HB hHeld ⊢
              refine take_ (i := 0) (N := some 76) (v := .agg (eagg v pB)) (a' := ?_) (tt 11 1) rfl rfl (take_ofW HT_.out HW_.out (by kernel_rfl)) (fun _ _ _ h => h) (Or.inl ⟨by rfl, fun w' hs => EvC.xR (.tmp 7) gB v pB rfl rfl w' hs.1⟩) hHeld ?_ ?_
              rotate_left
              · simp only [Act.put, List.setIfInBounds_toArray, List.set_cons_zero, List.set_cons_succ, i64_w, i32_w]
                rfl
              refine take_ (i := 1) (N := some 77) (v := .agg (eagg v p)) (a' := ?_) (tt 11 2) rfl rfl (take_ofW HT_.out HW_.out (by kernel_rfl)) (fun _ _ _ h => h) (Or.inl ⟨by rfl, fun w' hs => xG (.tmp 2) w.heap.size v p rfl rfl w' hs.2⟩) hHeld ?_ ?_
              rotate_left
              · simp only [Act.put, List.setIfInBounds_toArray, List.set_cons_zero, List.set_cons_succ, i64_w, i32_w]
                rfl
              refine one_ (i := 2) (N := some 78) (tt 11 3) rfl rfl (one_of HT_.out (by kernel_rfl)) (by decide) (fun K hK => ?_)
              refine goes_ Try.func17 (by kernel_rfl) rfl #[.agg (eagg v p)] (by rfl) rfl rfl (by (try simp only [List.map_toArray, List.map_cons, List.map_nil]); first | done | rfl) ?_
              refine (theirs v l p _ (OK.out.below HB.out) (by have := F4.out; omega) (by have := F5.out; omega) HL.out).mono ?_
              rintro q wq1 ⟨A5, c5, A6, c6, rfl, oT, _, _, hb⟩
              refine ⟨_, rfl, ?_⟩
              have OT := Aside0.mk oT; replace OB := Aside0.mk (OkE.below OB.out hb)
              replace HB := Aside0.mk (below_then HB.out HB.out.size hb)
              refine hK.out _ _ ⟨blk_below hHeld.1 hb, blk_below hHeld.2 hb⟩ (fun hHeld => ?_)
              clear hK K
              refine norm_ (a' := ?_) ?_ ?_
              rotate_left
              · show Act.put _ (some 78) _ = _
                simp only [Act.put, List.setIfInBounds_toArray, List.set_cons_zero, List.set_cons_succ, i64_w, i32_w]
                rfl
              refine one_ (i := 3) (N := some 79) (tt 11 4) rfl rfl (one_of HT_.out (by kernel_rfl)) (by decide) (fun K hK => ?_)
              refine goes_ Try.func19 (by kernel_rfl) rfl #[.agg (eagg v pB), .agg (eagg v ⟨p.sp, A5, c5, A6, c6⟩)] (by rfl) rfl rfl (by (try simp only [List.map_toArray, List.map_cons, List.map_nil]); first | done | rfl) ?_
              refine (EvE.equal v v pB ⟨p.sp, A5, c5, A6, c6⟩ _ OB.out OT.out SM.out).mono ?_
              rintro q wq2 ⟨b, rfl, hbb, hb⟩
              obtain rfl := hbb rfl
              refine ⟨_, rfl, ?_⟩
              replace OB := Aside0.mk (OkE.below OB.out hb)
              replace HB := Aside0.mk (below_then HB.out HB.out.size hb)
              refine hK.out _ _ ⟨blk_below hHeld.1 hb, blk_below hHeld.2 hb⟩ (fun hHeld => ?_)
              clear hK K
              refine norm_ (a' := ?_) ?_ ?_
              rotate_left
              · show Act.put _ (some 79) _ = _
                simp only [Act.put, List.setIfInBounds_toArray, List.set_cons_zero, List.set_cons_succ, i64_w, i32_w]
                rfl
              refine pure_ (i := 4) (N := some 80) (v := ?_) (a' := ?_) (tt 11 5) rfl rfl (any_of HT_.out (by kernel_rfl)) (fun _ _ _ h => h) (Or.inl ⟨by rfl, ?_⟩) ?_ ?_
              rotate_left
              · intro w'
                go_simp
                with_reducible rfl
              rotate_left
              · simp only [Act.put, List.setIfInBounds_toArray, List.set_cons_zero, List.set_cons_succ, i64_w, i32_w]
                rfl
              refine take_ (i := 5) (N := some 81) (v := .agg (eagg v pB)) (a' := ?_) (tt 11 6) rfl rfl (take_ofW HT_.out HW_.out (by kernel_rfl)) (fun _ _ _ h => h) (Or.inl ⟨by rfl, fun w' hs => EvC.xR (.tmp 7) gB v pB rfl rfl w' hs.1⟩) hHeld ?_ ?_
              rotate_left
              · simp only [Act.put, List.setIfInBounds_toArray, List.set_cons_zero, List.set_cons_succ, i64_w, i32_w]
                rfl
              refine take_ (i := 6) (N := some 82) (v := .agg (eagg v pB)) (a' := ?_) (tt 11 7) rfl rfl (take_ofW HT_.out HW_.out (by kernel_rfl)) (fun _ _ _ h => h) (Or.inl ⟨by rfl, fun w' hs => EvC.xR (.tmp 7) gB v pB rfl rfl w' hs.1⟩) hHeld ?_ ?_
              rotate_left
              · simp only [Act.put, List.setIfInBounds_toArray, List.set_cons_zero, List.set_cons_succ, i64_w, i32_w]
                rfl
              refine one_ (i := 7) (N := some 83) (tt 11 8) rfl rfl (one_of HT_.out (by kernel_rfl)) (by decide) (fun K hK => ?_)
              refine goes_ Try.func18 (by kernel_rfl) rfl #[.agg (eagg v pB)] (by rfl) rfl rfl (by (try simp only [List.map_toArray, List.map_cons, List.map_nil]); first | done | rfl) ?_
              refine (EvC.clone v pB _ OB.out SM.out).mono ?_
              rintro q wq3 ⟨pC, rfl, eC, hb⟩
              refine ⟨_, rfl, ?_⟩
              have OC := Aside0.mk (eC.h wq3 (fun _ _ _ => rfl)); replace OB := Aside0.mk (OkE.below OB.out hb)
              replace HB := Aside0.mk (below_then HB.out HB.out.size hb)
              refine hK.out _ _ ⟨blk_below hHeld.1 hb, blk_below hHeld.2 hb⟩ (fun hHeld => ?_)
              clear hK K
              refine norm_ (a' := ?_) ?_ ?_
              rotate_left
              · show Act.put _ (some 83) _ = _
                simp only [Act.put, List.setIfInBounds_toArray, List.set_cons_zero, List.set_cons_succ, i64_w, i32_w]
                rfl
              refine one_ (i := 8) (N := some 84) (tt 11 9) rfl rfl (one_of HT_.out (by kernel_rfl)) (by decide) (fun K hK => ?_)
              refine goes_ Try.func19 (by kernel_rfl) rfl #[.agg (eagg v pB), .agg (eagg v pC)] (by rfl) rfl rfl (by (try simp only [List.map_toArray, List.map_cons, List.map_nil]); first | done | rfl) ?_
              refine (EvE.equal v v pB pC _ OB.out OC.out SM.out).mono ?_
              rintro q wq4 ⟨b, rfl, hbb, hb⟩
              obtain rfl := hbb rfl
              refine ⟨_, rfl, ?_⟩
              replace HB := Aside0.mk (below_then HB.out HB.out.size hb)
              refine hK.out _ _ ⟨blk_below hHeld.1 hb, blk_below hHeld.2 hb⟩ (fun hHeld => ?_)
              clear hK K
              refine norm_ (a' := ?_) ?_ ?_
              rotate_left
              · show Act.put _ (some 84) _ = _
                simp only [Act.put, List.setIfInBounds_toArray, List.set_cons_zero, List.set_cons_succ, i64_w, i32_w]
                rfl
              refine pure_ (i := 9) (N := some 85) (v := ?_) (a' := ?_) (tt 11 10) rfl rfl (any_of HT_.out (by kernel_rfl)) (fun _ _ _ h => h) (Or.inl ⟨by rfl, ?_⟩) ?_ ?_
              rotate_left
              · intro w'
                go_simp
                with_reducible rfl
              rotate_left
              · simp only [Act.put, List.setIfInBounds_toArray, List.set_cons_zero, List.set_cons_succ, i64_w, i32_w]
                rfl
              refine pure_ (i := 10) (N := some 4) (v := ?_) (a' := ?_) (tt 11 11) rfl rfl (any_of HT_.out (by kernel_rfl)) (fun _ _ _ h => h) (Or.inl ⟨by rfl, ?_⟩) ?_ ?_
              rotate_left
              · intro w'
                go_simp
                with_reducible rfl
              rotate_left
              · simp only [Act.put, List.setIfInBounds_toArray, List.set_cons_zero, List.set_cons_succ, i64_w, i32_w]
                rfl
              refine done_ (done_of HT_.out (by kernel_rfl)) ?_
              clear HT_ HW_
              go_wp2_with fail
              go_ret
              exact ⟨rfl, HB.out⟩
theorem EventClones_calls (cs : Array Value) (x : OpGiv.V) (n : Int) (w : World) (hK : OpGiv.d.K w x cs.toList) (hP : OpGiv.Ph x) (hn : (Lit.int .i64 n).wf = true) :
    Calls Try.prog 5 #[.agg cs, .int .i64 n] w fun e w' => e = .returned (.bool true) ∧ Below w.heap.size w w' := by
  obtain ⟨p, e, ok⟩ := OpGiv.form hK
  obtain rfl : cs = eagg (OpGiv.ev x) p := Array.toList_inj.1 e
  exact EventClones_calls0 _ _ p n w ok hP.1 hP.2
end Go.Proofs.Ytddoidcbpcmlaaa.Pure
