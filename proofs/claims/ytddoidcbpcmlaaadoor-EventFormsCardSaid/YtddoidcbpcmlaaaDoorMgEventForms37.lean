/- Texts of this claim, merged: FormD, Op. -/
import Derived.Test.YtddoidcbpcmlaaaDoorMgEventForms32
import Derived.Test.YtddoidcbpcmlaaaDoorMgEventForms34
import Derived.Test.YtddoidcbpcmlaaaDoorMgEventForms36
import Derived.Test.YtddoidcbpcmlaaaDoorMgEventForms3
import Derived.Test.YtddoidcbpcmlaaaDoorMgEventForms13
import Derived.Deep.Slices
import Derived.ChangeSame
/- trystlaw18.formed walked. (Written by gen_formd.py.) -/
namespace Go.Proofs.YtddoidcbpcmlaaaDoor.FormD
open Go.RowKit Go.Proofs.YtddoidcbpcmlaaaDoorW.PrintWords Go.Proofs.YtddoidcbpcmlaaaDoorW.PrintLast Go.Proofs.YtddoidcbpcmlaaaDoor.M Go.Proofs.YtddoidcbpcmlaaaDoor.Fr Go.Proofs.YtddoidcbpcmlaaaDoor.Ru
open Go.Proofs.YtddoidcbpcmlaaaDoor.SetC (range_of Sv Sp sagg OkS)
open Go.Proofs.YtddoidcbpcmlaaaDoor.EvC (Ev Ep eagg)
open Go.Proofs.YtddoidcbpcmlaaaDoor.Cln (clF)
open Go.Proofs.YtddoidcbpcmlaaaDoor.EvF (textB prB adB crB evB)
open Go.Proofs.YtddoidcbpcmlaaaDoor.FewL (DL thL OkG)
open Go.Proofs.YtddoidcbpcmlaaaDoor.SetF (rtB)
open Go.Proofs.YtddoidcbpcmlaaaDoor.PeF (perB dup ok1 peopleB)
set_option linter.unusedVariables false
set_option linter.unusedSimpArgs false
theorem text (s : ByteArray) (hs : s.size ≤ 140737488355328) (w : World) : Calls Tryd.prog 27 #[.string s] w fun e w' => e = .returned (.bool (textB s)) ∧ Below w.heap.size w w' :=
 (trystlaw18_text.calls (s.size + 9) s (textB s) w (by
  unfold trystlaw18_text.f textB
  by_cases c : (s.size : Int) ≤ 500
  ·rw [if_pos c, Cln.ref s true hs _ (by omega), decide_eq_true c, Bool.and_true]
   rfl
  ·rw [if_neg c, decide_eq_false c, Bool.and_false])).mono fun e w' h => ⟨h.1, h.2.below⟩
theorem prC (s : ByteArray) (hs : s.size ≤ 9223372036854775807) (w : World) : Calls Tryd.prog 23 #[.string s] w fun e w' => e = .returned (.bool (prB s)) ∧ Below w.heap.size w w' :=
 (trystlaw18_printable.calls (s.size + 1) s (prB s) w (by
  have e : s.data.toList.length = s.size := Array.length_toList ..
  have h := People.prR s.data.toList (by rw [e]; exact hs) (s.size + 1) (by rw [e]; exact Nat.le_refl _)
  rwa [← People.ofL] at h)).mono fun e w' h => ⟨h.1, h.2.below⟩
theorem adC (s : ByteArray) (hs : s.size ≤ 9223372036854775807) (w : World) : Calls Tryd.prog 28 #[.string s] w fun e w' => e = .returned (.bool (adB s)) ∧ Below w.heap.size w w' :=
 (trystlaw18_address.calls (2 * s.size + 2) s (adB s) w (People.ad2 s hs _ (Nat.le_refl _))).mono fun e w' h => ⟨h.1, h.2.below⟩
theorem crC (a : Int) (w : World) : Calls Tryd.prog 24 #[.int .i64 a] w fun e w' => e = .returned (.bool (crB a)) ∧ Below w.heap.size w w' :=
 (trystref01_Right.calls a (crB a) w (Right.fRight a)).mono fun e w' h => ⟨h.1, h.2.below⟩
theorem dup_no {ps : List PeF.PP} {i : Nat} {nm : ByteArray} (h : ∀ j : Nat, j < i → ∀ hj : j < ps.length, (ps[j].f0.toList == nm.toList) = false) : dup ps i nm = false := by
 cases q : dup ps i nm with
 | false => rfl
 | true =>
  obtain ⟨x, hx, hq⟩ := List.any_eq_true.1 q
  obtain ⟨j, hj, rfl⟩ := List.getElem_of_mem hx
  rw [List.length_take] at hj
  rw [List.getElem_take, h j (by omega) (by omega)] at hq
  cases hq
theorem dup_yes {ps : List PeF.PP} {i : Nat} {nm : ByteArray} (j : Nat) (hi : j < i) (hj : j < ps.length) (h : (ps[j].f0.toList == nm.toList) = true) : dup ps i nm = true :=
 List.any_eq_true.2 ⟨ps[j], List.mem_of_getElem? (i := j) (by rw [List.getElem?_take_of_lt hi, List.getElem?_eq_getElem hj]), h⟩
theorem ex_no {l : List DL} {i : Nat} (hi : i < l.length) (h : ExtF.one (thL l[i]) = false) : ExtF.extraB (l.map thL) = false :=
 ExtF.no (i := i) (by rw [List.length_map]; exact hi) (by rw [List.getElem_map]; exact h)
theorem ex_yes {l : List DL} (hl : l.length ≤ 60) (h : ∀ j : Nat, ∀ h : j < l.length, ExtF.one (thL l[j]) = true) : ExtF.extraB (l.map thL) = true := by
 unfold ExtF.extraB
 rw [List.all_eq_true.2 (fun x hx => by
  obtain ⟨j, hj, rfl⟩ := List.getElem_of_mem hx
  rw [List.getElem_map]
  exact h j (by rw [List.length_map] at hj; exact hj)), decide_eq_true (by rw [List.length_map]; exact hl)]
 rfl
theorem xdash : (⟨#[88, 45]⟩ : ByteArray).toList = ([88, 45] : List UInt8) := by go_simp
theorem pe_long {ps : List PeF.PP} (hl : ¬ ps.length ≤ 12) : peopleB ps = false := by
 unfold peopleB
 rw [decide_eq_false hl, Bool.false_and]
theorem ev_ex {v : Ev} (h : ExtF.extraB v.ex = false) : evB v = false := by unfold evB; rw [h]; simp
theorem ev_pe {v : Ev} (h : peopleB v.ps = false) : evB v = false := by unfold evB; rw [h]; simp
theorem cl {ps : List PeF.PP} {nm nx : ByteArray} {j : Nat} (H : ∀ m : Nat, m < j → ∀ h : m < ps.length, (ps[m].f0.toList == nm.toList) = false) (e : ∀ h : j < ps.length, ps[j].f0 = nx) (n : (nx.toList == nm.toList) = false) : ∀ m : Nat, m < j + 1 → ∀ h : m < ps.length, (ps[m].f0.toList == nm.toList) = false := fun m hm h => by
 by_cases q : m = j
 ·subst q
  rw [e h]
  exact n
 ·exact H m (by omega) h
/-- The sizes of a document's event. -/
structure Sz (v : Ev) (l : List DL) : Prop where
 e : EvF.Sz v
 sum : v.sum.size ≤ 140737488355328
 com : v.com.size ≤ 140737488355328
 ex : ∀ x ∈ l, LinR.SzD x
def h1 (v : Ev) : Bool := prB v.uid && (decide (v.seq ≥ 0) && (decide (v.seq ≤ 1000000) && (crB v.stamp && (SetF.setB v.set && UnF.unB v.set))))
def h2 (v : Ev) : Bool := UnF.lenB v && (textB v.sum && (textB v.com && (decide (v.sta ≥ 0) && (decide (v.sta ≤ 3) && (adB v.org && (decide (v.ps.length ≤ 12) && decide (v.ex.length ≤ 60)))))))
theorem ev_h1 {v : Ev} (h : h1 v = false) : evB v = false := by
 cases q : evB v with
 | false => rfl
 | true =>
  unfold evB at q
  simp only [Bool.and_eq_true] at q
  unfold h1 at h
  obtain ⟨a1, a2, a3, a4, a5, a6, _⟩ := q
  rw [a1, a2, a3, a4, a5, a6] at h
  cases h
theorem ev_h2 {v : Ev} (h : h2 v = false) : evB v = false := by
 cases q : evB v with
 | false => rfl
 | true =>
  unfold evB at q
  simp only [Bool.and_eq_true] at q
  unfold h2 at h
  obtain ⟨a1, a2, a3, a4, a5, a6, a7, a8, a9, a10, a11, a12, a13, a14, a15⟩ := q
  have b1 : decide (v.ps.length ≤ 12) = true := by
   cases z : decide (v.ps.length ≤ 12) with
   | true => rfl
   | false => rw [pe_long (of_decide_eq_false z)] at a13; cases a13
  have b2 : decide (v.ex.length ≤ 60) = true := by
   unfold ExtF.extraB at a15
   simp only [Bool.and_eq_true] at a15
   exact a15.2
  rw [a7, a8, a9, a10, a11, a12, b1, b2] at h
  cases h
theorem ev_all {v : Ev} (h : h1 v = true) (g : h2 v = true) : evB v = (peopleB v.ps && (UnF.partB v && ExtF.extraB v.ex)) := by
 unfold h1 at h
 unfold h2 at g
 simp only [Bool.and_eq_true] at h g
 obtain ⟨a1, a2, a3, a4, a5, a6⟩ := h
 obtain ⟨b1, b2, b3, b4, b5, b6, _⟩ := g
 unfold evB
 rw [a1, a2, a3, a4, a5, a6, b1, b2, b3, b4, b5, b6]
 rfl
def Tfd : Bool × List (List Nat × List Nat) := (true, [([], []), ([0], [0]), ([], []), ([1, 2], [1, 2]), ([3], [3]), ([4], [4]), ([], []), ([6], [6]), ([], []), ([7, 8], [7, 8]), ([9], [9]), ([10], [10]), ([5, 11], [5, 11])])
def Bfd : List Nat := [0, 1, 0, 7, 15, 31, 0, 64, 0, 448, 960, 1984, 4095]
theorem tabfd : rtab .any (opsOf Tryd.f8 13) = Tfd := by kernel_rfl
theorem bitsfd : waitsOk Tfd.2 Bfd = true := by kernel_rfl
set_option maxHeartbeats 16000000 in
set_option maxRecDepth 100000 in
theorem formed (v : Ev) (l : List DL) (p : Ep) (w : World) (ok : OkG v l p w) (hz : Sz v l) :
  Calls Tryd.prog 8 #[.agg (eagg v p)] w fun e w' => e = .returned (.bool (evB v)) ∧ Below w.heap.size w w' := by
 have OK := Aside0.mk ok; have HZ := Aside0.mk hz
 clear ok hz
 go_enter Tryd.func8, Tryd.ntmps8
 go_upto_region 1 with fail
 obtain ⟨w0, hw0, z0⟩ : ∃ w0, w0 = w.alloc (.cells (eagg v p) 34 (0, 0)) ∧ w0.heap[w.heap.size]? = some (.cells (eagg v p) 34 (0, 0)) ∧ Below w.heap.size w w0 := ⟨_, rfl, blk_new _ _, below_alloc (Below.refl _ _) _⟩
 have K1 := Aside0.mk z0.1; have HB := Aside0.mk z0.2
 rw [← hw0]
 clear hw0 z0
 go_cut [45] (fun v_ wc => v_ = .bool (!(h1 v)) ∧ Aside0 (wc.heap[w.heap.size]? = some (.cells (eagg v p) 34 (0, 0))) ∧ Aside0 (Below w.heap.size w wc))
 case first => as_aux_lemma =>
  have x0 : w0.cell? ⟨w.heap.size, 0, none⟩ = some (.string v.uid) := (blk_cell K1.out 0).trans rfl
  have x1 : w0.cell? ⟨w.heap.size, 1, none⟩ = some (.int .i64 v.seq) := (blk_cell K1.out 1).trans rfl
  have x2 : w0.cell? ⟨w.heap.size, 2, none⟩ = some (.int .i64 v.stamp) := (blk_cell K1.out 2).trans rfl
  go_wp2_with fail
  refine (prC v.uid HZ.out.e.uid w0).mono ?_
  rintro q w1 ⟨rfl, hb⟩
  replace K1 := Aside0.mk (blk_below K1.out hb); replace HB := Aside0.mk (below_then HB.out HB.out.size hb)
  replace x0 := pw_cell_below hb x0
  replace x1 := pw_cell_below hb x1
  replace x2 := pw_cell_below hb x2
  clear hb
  clear x0
  rcases h_ : prB v.uid with _ | _
  ·have B1 := Aside0.mk h_
   clear h_
   go_wp2_with fail
   go_meet
   case rel => exact ⟨by unfold h1; rw [B1.out] <;> rfl, K1, HB⟩
  have B1 := Aside0.mk h_
  clear h_
  by_cases c : v.seq ≥ 0
  rotate_left
  ·have h_ : decide (v.seq < 0) = true := decide_eq_true (by omega)
   have B2 := Aside0.mk (show decide (v.seq ≥ 0) = false from decide_eq_false c)
   clear c
   go_wp2_with fail
   go_meet
   case rel => exact ⟨by unfold h1; rw [B1.out, B2.out] <;> rfl, K1, HB⟩
  have hB2 : decide (v.seq < 0) = false := decide_eq_false (by omega)
  have B2 := Aside0.mk (show decide (v.seq ≥ 0) = true from decide_eq_true c)
  clear c
  by_cases c : v.seq ≤ 1000000
  rotate_left
  ·have h_ : decide (v.seq > 1000000) = true := decide_eq_true (by omega)
   have B3 := Aside0.mk (show decide (v.seq ≤ 1000000) = false from decide_eq_false c)
   clear c
   go_wp2_with fail
   go_meet
   case rel => exact ⟨by unfold h1; rw [B1.out, B2.out, B3.out] <;> rfl, K1, HB⟩
  have hB3 : decide (v.seq > 1000000) = false := decide_eq_false (by omega)
  have B3 := Aside0.mk (show decide (v.seq ≤ 1000000) = true from decide_eq_true c)
  clear c
  go_wp2_with fail
  refine (crC v.stamp w1).mono ?_
  rintro q w2 ⟨rfl, hb⟩
  replace K1 := Aside0.mk (blk_below K1.out hb); replace HB := Aside0.mk (below_then HB.out HB.out.size hb)
  replace x1 := pw_cell_below hb x1
  replace x2 := pw_cell_below hb x2
  clear hb
  clear hB2 hB3
  clear x1
  clear x2
  rcases h_ : crB v.stamp with _ | _
  ·have B4 := Aside0.mk h_
   clear h_
   go_wp2_with fail
   go_meet
   case rel => exact ⟨by unfold h1; rw [B1.out, B2.out, B3.out, B4.out] <;> rfl, K1, HB⟩
  have B4 := Aside0.mk h_
  clear h_
  have x6 : w2.cell? ⟨w.heap.size, 6, none⟩ = some (.bool v.set.again) := (blk_cell K1.out 6).trans rfl
  go_wp2_with ((with_reducible refine gate_ (.load 30 (.tmp 28)) rfl ?_); (try (refine gate_guard (by rfl) ?_; dsimp only)); refine wpList_load_mid rfl 30 (.tmp 28) rfl w.heap.size 3 rfl (sagg v.set p.sp).toList _ (range_of K1.out 3 _ _ rfl) Tryd.underlying30 rfl (by kernel_rfl) ?_)
  refine (Fset.formed v.set p.sp w2 (OK.out.below HB.out).s HZ.out.e.set).mono ?_
  rintro q w3 ⟨rfl, hb⟩
  replace K1 := Aside0.mk (blk_below K1.out hb); replace HB := Aside0.mk (below_then HB.out HB.out.size hb)
  replace x6 := pw_cell_below hb x6
  clear hb
  rcases h_ : SetF.setB v.set with _ | _
  ·have B5 := Aside0.mk h_
   clear h_
   go_wp2_with fail
   go_meet
   case rel => exact ⟨by unfold h1; rw [B1.out, B2.out, B3.out, B4.out, B5.out] <;> rfl, K1, HB⟩
  have B5 := Aside0.mk h_
  clear h_
  rcases h6 : v.set.again with _ | _
  rotate_left
  ·rw [h6] at x6
   have B6 := Aside0.mk (show UnF.unB v.set = true by unfold UnF.unB; rw [h6]; rfl)
   clear h6
   go_wp2_with fail
   go_meet
   case rel => exact ⟨by unfold h1; rw [B1.out, B2.out, B3.out, B4.out, B5.out, B6.out] <;> rfl, K1, HB⟩
  rw [h6] at x6
  have H6 := Aside0.mk (show UnF.unB v.set = UnF.ruleZ v.set.r by unfold UnF.unB; rw [h6, Bool.false_or])
  clear h6
  go_wp2_with ((with_reducible refine gate_ (.load 27 (.tmp 40)) rfl ?_); (try (refine gate_guard (by rfl) ?_; dsimp only)); refine wpList_load_mid rfl 27 (.tmp 40) rfl w.heap.size 7 rfl (agg v.set.r p.sp.p).toList _ (range_of K1.out 7 _ _ rfl) Tryd.underlying27 rfl RecC.sz17 ?_)
  refine (Zero.zero v.set.r p.sp.p w3).mono ?_
  rintro q w4 ⟨rfl, hb⟩
  replace K1 := Aside0.mk (blk_below K1.out hb); replace HB := Aside0.mk (below_then HB.out HB.out.size hb)
  replace x6 := pw_cell_below hb x6
  clear hb
  rcases h_ : UnF.ruleZ v.set.r with _ | _
  ·have B6 := Aside0.mk (H6.out.trans h_)
   clear h_
   go_wp2_with fail
   go_meet
   case rel => exact ⟨by unfold h1; rw [B1.out, B2.out, B3.out, B4.out, B5.out, B6.out] <;> rfl, K1, HB⟩
  ·have B6 := Aside0.mk (H6.out.trans h_)
   clear h_
   go_wp2_with fail
   go_meet
   case rel => exact ⟨by unfold h1; rw [B1.out, B2.out, B3.out, B4.out, B5.out, B6.out] <;> rfl, K1, HB⟩
 case rest =>
  obtain ⟨rfl, K1, HB⟩ := hcut
  rcases h_ : h1 v with _ | _
  ·have H_ := Aside0.mk h_
   clear h_
   go_wp2_with fail
   go_ret
   exact ⟨by rw [ev_h1 H_.out] <;> rfl, HB.out⟩
  have H1 := Aside0.mk h_
  clear h_
  go_upto_region 3 with fail
  go_cut [106] (fun v_ wc => v_ = .bool (!(h2 v)) ∧ Aside0 (wc.heap[w.heap.size]? = some (.cells (eagg v p) 34 (0, 0))) ∧ Aside0 (Below w.heap.size w wc))
  case first => as_aux_lemma =>
   have x3 : wc.cell? ⟨w.heap.size, 3, none⟩ = some (.int .i64 v.set.s.f0) := (blk_cell K1.out 3).trans rfl
   have x26 : wc.cell? ⟨w.heap.size, 26, none⟩ = some (.int .i64 v.len) := (blk_cell K1.out 26).trans rfl
   have x27 : wc.cell? ⟨w.heap.size, 27, none⟩ = some (.string v.sum) := (blk_cell K1.out 27).trans rfl
   have x28 : wc.cell? ⟨w.heap.size, 28, none⟩ = some (.string v.com) := (blk_cell K1.out 28).trans rfl
   have x29 : wc.cell? ⟨w.heap.size, 29, none⟩ = some (.int .i64 v.sta) := (blk_cell K1.out 29).trans rfl
   have x30 : wc.cell? ⟨w.heap.size, 30, none⟩ = some (.string v.org) := (blk_cell K1.out 30).trans rfl
   have x31 : wc.cell? ⟨w.heap.size, 31, none⟩ = some (.slice p.Ap v.ps.length p.cp) := (blk_cell K1.out 31).trans rfl
   have x37 : wc.cell? ⟨w.heap.size, 37, none⟩ = some (.slice p.Ax l.length p.cx) := (blk_cell K1.out 37).trans (by rw [← OK.out.len]; rfl)
   by_cases c : v.len ≥ 0
   rotate_left
   ·have h_ : decide (v.len < 0) = true := decide_eq_true (by omega)
    have L1 := Aside0.mk (show decide (v.len ≥ 0) = false from decide_eq_false c)
    clear c
    go_wp2_with fail
    go_meet
    case rel => exact ⟨by unfold h2 UnF.lenB; rw [L1.out] <;> rfl, K1, HB⟩
   have hL1 : decide (v.len < 0) = false := decide_eq_false (by omega)
   have L1 := Aside0.mk (show decide (v.len ≥ 0) = true from decide_eq_true c)
   clear c
   by_cases c : v.len ≤ 10000000000
   rotate_left
   ·have h_ : decide (v.len > 10000000000) = true := decide_eq_true (by omega)
    have L2 := Aside0.mk (show decide (v.len ≤ 10000000000) = false from decide_eq_false c)
    clear c
    go_wp2_with fail
    go_meet
    case rel => exact ⟨by unfold h2 UnF.lenB; rw [L1.out, L2.out] <;> rfl, K1, HB⟩
   have hL2 : decide (v.len > 10000000000) = false := decide_eq_false (by omega)
   have L2 := Aside0.mk (show decide (v.len ≤ 10000000000) = true from decide_eq_true c)
   clear c
   rcases e2 : (v.set.s.f0 == 0) with _ | _
   ·have L3 := Aside0.mk (show (v.set.s.f0 != 0) = true by unfold bne; rw [e2]; rfl)
    have B7 := Aside0.mk (show UnF.lenB v = true by unfold UnF.lenB; rw [L1.out, L2.out, L3.out]; rfl)
    go_wp2_with fail
    refine (text v.sum HZ.out.sum wc).mono ?_
    rintro q w5 ⟨rfl, hb⟩
    replace K1 := Aside0.mk (blk_below K1.out hb); replace HB := Aside0.mk (below_then HB.out HB.out.size hb)
    replace x3 := pw_cell_below hb x3
    replace x26 := pw_cell_below hb x26
    replace x27 := pw_cell_below hb x27
    replace x28 := pw_cell_below hb x28
    replace x29 := pw_cell_below hb x29
    replace x30 := pw_cell_below hb x30
    replace x31 := pw_cell_below hb x31
    replace x37 := pw_cell_below hb x37
    clear hb
    rcases h_ : textB v.sum with _ | _
    ·have B8 := Aside0.mk h_
     clear h_
     go_wp2_with fail
     go_meet
     case rel => exact ⟨by unfold h2; rw [B7.out, B8.out] <;> rfl, K1, HB⟩
    have B8 := Aside0.mk h_
    clear h_
    go_wp2_with fail
    refine (text v.com HZ.out.com w5).mono ?_
    rintro q w6 ⟨rfl, hb⟩
    replace K1 := Aside0.mk (blk_below K1.out hb); replace HB := Aside0.mk (below_then HB.out HB.out.size hb)
    replace x3 := pw_cell_below hb x3
    replace x26 := pw_cell_below hb x26
    replace x27 := pw_cell_below hb x27
    replace x28 := pw_cell_below hb x28
    replace x29 := pw_cell_below hb x29
    replace x30 := pw_cell_below hb x30
    replace x31 := pw_cell_below hb x31
    replace x37 := pw_cell_below hb x37
    clear hb
    rcases h_ : textB v.com with _ | _
    ·have B9 := Aside0.mk h_
     clear h_
     go_wp2_with fail
     go_meet
     case rel => exact ⟨by unfold h2; rw [B7.out, B8.out, B9.out] <;> rfl, K1, HB⟩
    have B9 := Aside0.mk h_
    clear h_
    by_cases c : v.sta ≥ 0
    rotate_left
    ·have h_ : decide (v.sta < 0) = true := decide_eq_true (by omega)
     have B10 := Aside0.mk (show decide (v.sta ≥ 0) = false from decide_eq_false c)
     clear c
     go_wp2_with fail
     go_meet
     case rel => exact ⟨by unfold h2; rw [B7.out, B8.out, B9.out, B10.out] <;> rfl, K1, HB⟩
    have hB10 : decide (v.sta < 0) = false := decide_eq_false (by omega)
    have B10 := Aside0.mk (show decide (v.sta ≥ 0) = true from decide_eq_true c)
    clear c
    by_cases c : v.sta ≤ 3
    rotate_left
    ·have h_ : decide (v.sta > 3) = true := decide_eq_true (by omega)
     have B11 := Aside0.mk (show decide (v.sta ≤ 3) = false from decide_eq_false c)
     clear c
     go_wp2_with fail
     go_meet
     case rel => exact ⟨by unfold h2; rw [B7.out, B8.out, B9.out, B10.out, B11.out] <;> rfl, K1, HB⟩
    have hB11 : decide (v.sta > 3) = false := decide_eq_false (by omega)
    have B11 := Aside0.mk (show decide (v.sta ≤ 3) = true from decide_eq_true c)
    clear c
    go_wp2_with fail
    refine (adC v.org HZ.out.e.org w6).mono ?_
    rintro q w7 ⟨rfl, hb⟩
    replace K1 := Aside0.mk (blk_below K1.out hb); replace HB := Aside0.mk (below_then HB.out HB.out.size hb)
    replace x3 := pw_cell_below hb x3
    replace x26 := pw_cell_below hb x26
    replace x27 := pw_cell_below hb x27
    replace x28 := pw_cell_below hb x28
    replace x29 := pw_cell_below hb x29
    replace x30 := pw_cell_below hb x30
    replace x31 := pw_cell_below hb x31
    replace x37 := pw_cell_below hb x37
    clear hb
    rcases h_ : adB v.org with _ | _
    ·have B12 := Aside0.mk h_
     clear h_
     go_wp2_with fail
     go_meet
     case rel => exact ⟨by unfold h2; rw [B7.out, B8.out, B9.out, B10.out, B11.out, B12.out] <;> rfl, K1, HB⟩
    have B12 := Aside0.mk h_
    clear h_
    by_cases c : v.ps.length ≤ 12
    rotate_left
    ·have h_ : decide ((v.ps.length : Int) > 12) = true := decide_eq_true (by omega)
     have C1 := Aside0.mk (show decide (v.ps.length ≤ 12) = false from decide_eq_false c)
     clear c
     go_wp2_with fail
     go_meet
     case rel => exact ⟨by unfold h2; rw [B7.out, B8.out, B9.out, B10.out, B11.out, B12.out, C1.out] <;> rfl, K1, HB⟩
    have hC1 : decide ((v.ps.length : Int) > 12) = false := decide_eq_false (by omega)
    have C1 := Aside0.mk (show decide (v.ps.length ≤ 12) = true from decide_eq_true c)
    clear c
    by_cases c : l.length ≤ 60
    ·have h_ : decide ((l.length : Int) > 60) = false := decide_eq_false (by omega)
     have C2 := Aside0.mk (show decide (v.ex.length ≤ 60) = true from decide_eq_true (by rw [OK.out.len]; exact c))
     clear c
     go_wp2_with fail
     go_meet
     case rel => exact ⟨by unfold h2; rw [B7.out, B8.out, B9.out, B10.out, B11.out, B12.out, C1.out, C2.out] <;> rfl, K1, HB⟩
    ·have h_ : decide ((l.length : Int) > 60) = true := decide_eq_true (by omega)
     have C2 := Aside0.mk (show decide (v.ex.length ≤ 60) = false from decide_eq_false (by rw [OK.out.len]; exact c))
     clear c
     go_wp2_with fail
     go_meet
     case rel => exact ⟨by unfold h2; rw [B7.out, B8.out, B9.out, B10.out, B11.out, B12.out, C1.out, C2.out] <;> rfl, K1, HB⟩
   ·have L3 := Aside0.mk (show (v.set.s.f0 != 0) = false by unfold bne; rw [e2]; rfl)
    rcases e3 : (Int.tmod v.len 86400 == 0) with _ | _
    ·have e4 : (Int.tmod v.len 86400 != 0) = true := by unfold bne; rw [e3]; rfl
     have L4 := Aside0.mk e3
     go_wp2_with fail
     go_meet
     case rel => exact ⟨by unfold h2 UnF.lenB; rw [L1.out, L2.out, L3.out, L4.out] <;> rfl, K1, HB⟩
    have e4 : (Int.tmod v.len 86400 != 0) = false := by unfold bne; rw [e3]; rfl
    have L4 := Aside0.mk e3
    have B7 := Aside0.mk (show UnF.lenB v = true by unfold UnF.lenB; rw [L1.out, L2.out, L3.out, L4.out]; rfl)
    go_wp2_with fail
    refine (text v.sum HZ.out.sum wc).mono ?_
    rintro q w8 ⟨rfl, hb⟩
    replace K1 := Aside0.mk (blk_below K1.out hb); replace HB := Aside0.mk (below_then HB.out HB.out.size hb)
    replace x3 := pw_cell_below hb x3
    replace x26 := pw_cell_below hb x26
    replace x27 := pw_cell_below hb x27
    replace x28 := pw_cell_below hb x28
    replace x29 := pw_cell_below hb x29
    replace x30 := pw_cell_below hb x30
    replace x31 := pw_cell_below hb x31
    replace x37 := pw_cell_below hb x37
    clear hb
    rcases h_ : textB v.sum with _ | _
    ·have B8 := Aside0.mk h_
     clear h_
     go_wp2_with fail
     go_meet
     case rel => exact ⟨by unfold h2; rw [B7.out, B8.out] <;> rfl, K1, HB⟩
    have B8 := Aside0.mk h_
    clear h_
    go_wp2_with fail
    refine (text v.com HZ.out.com w8).mono ?_
    rintro q w9 ⟨rfl, hb⟩
    replace K1 := Aside0.mk (blk_below K1.out hb); replace HB := Aside0.mk (below_then HB.out HB.out.size hb)
    replace x3 := pw_cell_below hb x3
    replace x26 := pw_cell_below hb x26
    replace x27 := pw_cell_below hb x27
    replace x28 := pw_cell_below hb x28
    replace x29 := pw_cell_below hb x29
    replace x30 := pw_cell_below hb x30
    replace x31 := pw_cell_below hb x31
    replace x37 := pw_cell_below hb x37
    clear hb
    rcases h_ : textB v.com with _ | _
    ·have B9 := Aside0.mk h_
     clear h_
     go_wp2_with fail
     go_meet
     case rel => exact ⟨by unfold h2; rw [B7.out, B8.out, B9.out] <;> rfl, K1, HB⟩
    have B9 := Aside0.mk h_
    clear h_
    by_cases c : v.sta ≥ 0
    rotate_left
    ·have h_ : decide (v.sta < 0) = true := decide_eq_true (by omega)
     have B10 := Aside0.mk (show decide (v.sta ≥ 0) = false from decide_eq_false c)
     clear c
     go_wp2_with fail
     go_meet
     case rel => exact ⟨by unfold h2; rw [B7.out, B8.out, B9.out, B10.out] <;> rfl, K1, HB⟩
    have hB10 : decide (v.sta < 0) = false := decide_eq_false (by omega)
    have B10 := Aside0.mk (show decide (v.sta ≥ 0) = true from decide_eq_true c)
    clear c
    by_cases c : v.sta ≤ 3
    rotate_left
    ·have h_ : decide (v.sta > 3) = true := decide_eq_true (by omega)
     have B11 := Aside0.mk (show decide (v.sta ≤ 3) = false from decide_eq_false c)
     clear c
     go_wp2_with fail
     go_meet
     case rel => exact ⟨by unfold h2; rw [B7.out, B8.out, B9.out, B10.out, B11.out] <;> rfl, K1, HB⟩
    have hB11 : decide (v.sta > 3) = false := decide_eq_false (by omega)
    have B11 := Aside0.mk (show decide (v.sta ≤ 3) = true from decide_eq_true c)
    clear c
    go_wp2_with fail
    refine (adC v.org HZ.out.e.org w9).mono ?_
    rintro q w10 ⟨rfl, hb⟩
    replace K1 := Aside0.mk (blk_below K1.out hb); replace HB := Aside0.mk (below_then HB.out HB.out.size hb)
    replace x3 := pw_cell_below hb x3
    replace x26 := pw_cell_below hb x26
    replace x27 := pw_cell_below hb x27
    replace x28 := pw_cell_below hb x28
    replace x29 := pw_cell_below hb x29
    replace x30 := pw_cell_below hb x30
    replace x31 := pw_cell_below hb x31
    replace x37 := pw_cell_below hb x37
    clear hb
    rcases h_ : adB v.org with _ | _
    ·have B12 := Aside0.mk h_
     clear h_
     go_wp2_with fail
     go_meet
     case rel => exact ⟨by unfold h2; rw [B7.out, B8.out, B9.out, B10.out, B11.out, B12.out] <;> rfl, K1, HB⟩
    have B12 := Aside0.mk h_
    clear h_
    by_cases c : v.ps.length ≤ 12
    rotate_left
    ·have h_ : decide ((v.ps.length : Int) > 12) = true := decide_eq_true (by omega)
     have C1 := Aside0.mk (show decide (v.ps.length ≤ 12) = false from decide_eq_false c)
     clear c
     go_wp2_with fail
     go_meet
     case rel => exact ⟨by unfold h2; rw [B7.out, B8.out, B9.out, B10.out, B11.out, B12.out, C1.out] <;> rfl, K1, HB⟩
    have hC1 : decide ((v.ps.length : Int) > 12) = false := decide_eq_false (by omega)
    have C1 := Aside0.mk (show decide (v.ps.length ≤ 12) = true from decide_eq_true c)
    clear c
    by_cases c : l.length ≤ 60
    ·have h_ : decide ((l.length : Int) > 60) = false := decide_eq_false (by omega)
     have C2 := Aside0.mk (show decide (v.ex.length ≤ 60) = true from decide_eq_true (by rw [OK.out.len]; exact c))
     clear c
     go_wp2_with fail
     go_meet
     case rel => exact ⟨by unfold h2; rw [B7.out, B8.out, B9.out, B10.out, B11.out, B12.out, C1.out, C2.out] <;> rfl, K1, HB⟩
    ·have h_ : decide ((l.length : Int) > 60) = true := decide_eq_true (by omega)
     have C2 := Aside0.mk (show decide (v.ex.length ≤ 60) = false from decide_eq_false (by rw [OK.out.len]; exact c))
     clear c
     go_wp2_with fail
     go_meet
     case rel => exact ⟨by unfold h2; rw [B7.out, B8.out, B9.out, B10.out, B11.out, B12.out, C1.out, C2.out] <;> rfl, K1, HB⟩
  case rest =>
   obtain ⟨rfl, K1, HB⟩ := hcut
   rcases h_ : h2 v with _ | _
   ·have H_ := Aside0.mk h_
    clear h_
    go_wp2_with fail
    go_ret
    exact ⟨by rw [ev_h2 H_.out] <;> rfl, HB.out⟩
   have H2 := Aside0.mk h_
   clear h_
   have EV := Aside0.mk (ev_all H1.out H2.out)
   have PL := Aside0.mk (show v.ps.length ≤ 12 by have h := H2.out; unfold h2 at h; simp only [Bool.and_eq_true, decide_eq_true_eq] at h; exact h.2.2.2.2.2.2.1)
   have XL := Aside0.mk (show l.length ≤ 60 by have h := H2.out; unfold h2 at h; simp only [Bool.and_eq_true, decide_eq_true_eq] at h; rw [← OK.out.len]; exact h.2.2.2.2.2.2.2)
   clear H1 H2
   have x31 : wc.cell? ⟨w.heap.size, 31, none⟩ = some (.slice p.Ap v.ps.length p.cp) := (blk_cell K1.out 31).trans rfl
   go_wp2_with fail
   clear x31
   go_loopg [110] v.ps.length (fun kq v_ w' => ∃ (i : Nat) (X : Int), v_ = .int .i64 X ∧ Aside0 (X = (i : Int)) ∧ Aside0 (i + kq = v.ps.length) ∧ Aside0 (∀ j : Nat, j < i → ok1 v.ps j = true) ∧ Aside0 (w'.heap[w.heap.size]? = some (.cells (eagg v p) 34 (0, 0))) ∧ Aside0 (Below w.heap.size w w'))
   case atStart => exact ⟨0, 0, rfl, ⟨rfl⟩, ⟨by omega⟩, ⟨fun j hj => by omega⟩, K1, HB⟩
   case round =>
    clear K1 HB
    obtain ⟨i, X, rfl, HX, HI, HU, K1, HB⟩ := hrel
    cases gk with
    | succ k1 =>
     have hi : i < v.ps.length := by have := HI.out; omega
     have l1 : decide (X < (v.ps.length : Int)) = true := decide_eq_true (by have := HX.out; have := HI.out; omega)
     have nx : wrap64 (X + 1) = X + 1 := by have := HX.out; have := HI.out; have := PL.out; unfold wrap64; omega
     have p1 : 0 ≤ X := by have := HX.out; omega
     have q1 : X < (v.ps.length : Int) := by have := HX.out; omega
     obtain ⟨ad, hA, y0, y1, y2, y3, y4, y5⟩ := at_T46 (Kd.C_below OK.out.hp HB.out) X p1 q1
     have hxi : rd_T46 v.ps X = v.ps[i] := by simp [rd_T46, HX.out, hi]
     have hf := HZ.out.e.ps _ (List.getElem_mem hi)
     have OI := Aside0.mk (show ok1 v.ps i = (perB (rd_T46 v.ps X) && !dup v.ps i (rd_T46 v.ps X).f0) by rw [HX.out]; rfl)
     rw [hxi] at y0 y1 y2 y3 y4 y5 OI
     obtain ⟨x, hx⟩ : ∃ x, v.ps[i] = x := ⟨_, rfl⟩
     rw [hx] at y0 y1 y2 y3 y4 y5 OI hf
     have HFP := Aside0.mk hf; have HIL := Aside0.mk hi; have HA := Aside0.mk hA
     have HX0 := Aside0.mk (show ∀ W : World, Below w.heap.size w W → W.cell? (ad.add (X.toNat * 6)) = some (.string x.f0) from fun W hW => by
      obtain ⟨ad2, hA2, u0, _⟩ := at_T46 (Kd.C_below OK.out.hp hW) X p1 q1
      rw [hA] at hA2
      cases hA2
      rw [hxi, hx] at u0
      exact u0)
     have x31 : wr.cell? ⟨w.heap.size, 31, none⟩ = some (.slice (some ad) v.ps.length p.cp) := by rw [← hA]; exact (blk_cell K1.out 31).trans rfl
     replace p1 := eq_true p1; replace q1 := eq_true q1
     have P1 := Aside0.mk p1; have Q1 := Aside0.mk q1
     clear hf hxi hx hi hA
     go_wp2_with fail
     refine (PeF.rightR x HFP.out wr).mono ?_
     rintro q w1 ⟨rfl, hb⟩
     have HN := Aside0.mk (below_then HB.out HB.out.size hb)
     have KN := Aside0.mk (blk_below K1.out hb)
     clear hb y0 y1 y2 y3 y4 y5 x31
     rcases hpb : perB x with _ | _
     ·have PB := Aside0.mk hpb
      clear hpb
      go_wp2_with fail
      go_ret
      exact ⟨by rw [ev_pe (PeF.no HIL.out (by rw [OI.out, PB.out]; rfl))] <;> rfl, HN.out⟩
     have PB := Aside0.mk hpb
     clear hpb
     go_wp2_with fail
     clear p1 q1
     go_loopg [121] i (fun kq v_ w' => ∃ (j : Nat) (Y : Int), v_ = .int .i64 Y ∧ Aside0 (Y = (j : Int)) ∧ Aside0 (j + kq = i) ∧ Aside0 (∀ m : Nat, m < j → ∀ h : m < v.ps.length, (v.ps[m].f0.toList == x.f0.toList) = false) ∧ Aside0 (w'.heap[w.heap.size]? = some (.cells (eagg v p) 34 (0, 0))) ∧ Aside0 (Below w.heap.size w w'))
     case atStart => exact ⟨0, 0, rfl, ⟨rfl⟩, ⟨by omega⟩, ⟨fun j hj => by omega⟩, KN, HN⟩
     case round =>
      clear K1 HB KN HN
      obtain ⟨j, Y, rfl, HY, HJ, HD, K1, HB⟩ := hrel
      cases gk with
      | zero =>
       have l2 : decide (Y < X) = false := decide_eq_false (by have := HY.out; have := HX.out; have := HJ.out; omega)
       have DV := Aside0.mk (dup_no (ps := v.ps) (i := i) (nm := x.f0) (fun m hm h => HD.out m (by have := HJ.out; omega) h))
       go_wp2_with fail
       go_roundg k1
       case measure => omega
       case rel =>
        refine ⟨i + 1, X + 1, by simp [nx], ⟨by have := HX.out; push_cast; omega⟩, ⟨by have := HI.out; omega⟩, ⟨fun j hj => ?_⟩, K1, HB⟩
        by_cases e : j = i
        ·subst e
         rw [OI.out, PB.out, DV.out]
         rfl
        ·exact HU.out j (by omega)
      | succ k2 =>
       have hj : j < v.ps.length := by have := HJ.out; have := HIL.out; omega
       have l2 : decide (Y < X) = true := decide_eq_true (by have := HY.out; have := HX.out; have := HJ.out; omega)
       have ny : wrap64 (Y + 1) = Y + 1 := by have := HY.out; have := HJ.out; have := HIL.out; have := PL.out; unfold wrap64; omega
       have p2 : 0 ≤ Y := by have := HY.out; omega
       have q2 : Y < (v.ps.length : Int) := by have := HY.out; omega
       obtain ⟨ad2, hA2, y0, _⟩ := at_T46 (Kd.C_below OK.out.hp HB.out) Y p2 q2
       have hyj : rd_T46 v.ps Y = v.ps[j] := by simp [rd_T46, HY.out, hj]
       rw [HA.out] at hA2
       cases hA2
       rw [hyj] at y0
       obtain ⟨nj, hnj⟩ : ∃ nj, v.ps[j].f0 = nj := ⟨_, rfl⟩
       rw [hnj] at y0
       have NJ := Aside0.mk (show ∀ h : j < v.ps.length, v.ps[j].f0 = nj from fun _ => hnj)
       have HJL := Aside0.mk hj
       have JI := Aside0.mk (show j < i by have := HJ.out; omega)
       have x31 : wr.cell? ⟨w.heap.size, 31, none⟩ = some (.slice (some ad) v.ps.length p.cp) := by rw [← HA.out]; exact (blk_cell K1.out 31).trans rfl
       have z0 := HX0.out wr HB.out
       have p1 := P1.out; have q1 := Q1.out
       replace p2 := eq_true p2; replace q2 := eq_true q2
       clear hyj hnj hj
       rcases h_ : (nj.toList == x.f0.toList) with _ | _
       ·have NE := Aside0.mk h_
        go_upto_region 13 with fail
        have H0 := Aside0.mk (below_drew1 (Below.refl wr.heap.size wr))
        refine start_ (n := 13) (S := fun w' => w'.cell? ⟨w.heap.size, 31, none⟩ = some (.slice (some ad) v.ps.length p.cp) ∧ w'.cell? (ad.add (Y.toNat * 6)) = some (.string nj) ∧ w'.cell? (ad.add (X.toNat * 6)) = some (.string x.f0)) (ds := []) (tt 13 0) (by kernel_rfl) rfl rfl ⟨pw_cell_below H0.out x31, pw_cell_below H0.out y0, pw_cell_below H0.out z0⟩ (fun hHeld => ?_)
        refine with_tabW tabfd bitsfd (fun HT_ HW_ => ?_)
        clear x31 y0 z0
        have HN := Aside0.mk (below_then HB.out HB.out.size H0.out)
        have KN := Aside0.mk (blk_below K1.out H0.out)
        generalize wr.drew = wd_ at HN KN hHeld ⊢
        clear H0
        refine pu 0 (some 124) (tt 13 1) HT_ ?_
        refine take_ (i := 1) (N := some 125) (v := ?_) (a' := ?_) (tt 13 2) rfl rfl (take_ofW HT_.out HW_.out (by kernel_rfl)) (fun _ _ _ h => h) (Or.inl ⟨by rfl, ?_⟩) hHeld ?_ ?_
        rotate_left
        ·rintro w' ⟨s0, s1, s2⟩
         go_simp
         with_reducible rfl
        rotate_left
        ·simp only [Act.put, sA, sB, sC, i64_w, i32_w]
         rfl
        refine pu 2 (some 126) (tt 13 3) HT_ ?_
        refine pu 3 (some 127) (tt 13 4) HT_ ?_
        refine pu 4 (some 128) (tt 13 5) HT_ ?_
        refine take_ (i := 5) (N := some 129) (v := ?_) (a' := ?_) (tt 13 6) rfl rfl (take_ofW HT_.out HW_.out (by kernel_rfl)) (fun _ _ _ h => h) (Or.inl ⟨by rfl, ?_⟩) hHeld ?_ ?_
        rotate_left
        ·rintro w' ⟨s0, s1, s2⟩
         go_simp
         with_reducible rfl
        rotate_left
        ·simp only [Act.put, sA, sB, sC, i64_w, i32_w]
         rfl
        refine pu 6 (some 130) (tt 13 7) HT_ ?_
        refine take_ (i := 7) (N := some 131) (v := ?_) (a' := ?_) (tt 13 8) rfl rfl (take_ofW HT_.out HW_.out (by kernel_rfl)) (fun _ _ _ h => h) (Or.inl ⟨by rfl, ?_⟩) hHeld ?_ ?_
        rotate_left
        ·rintro w' ⟨s0, s1, s2⟩
         go_simp
         with_reducible rfl
        rotate_left
        ·simp only [Act.put, sA, sB, sC, i64_w, i32_w]
         rfl
        refine pu 8 (some 132) (tt 13 9) HT_ ?_
        refine pu 9 (some 133) (tt 13 10) HT_ ?_
        refine pu 10 (some 134) (tt 13 11) HT_ ?_
        refine take_ (i := 11) (N := some 135) (v := ?_) (a' := ?_) (tt 13 12) rfl rfl (take_ofW HT_.out HW_.out (by kernel_rfl)) (fun _ _ _ h => h) (Or.inl ⟨by rfl, ?_⟩) hHeld ?_ ?_
        rotate_left
        ·rintro w' ⟨s0, s1, s2⟩
         go_simp
         with_reducible rfl
        rotate_left
        ·simp only [Act.put, sA, sB, sC, i64_w, i32_w]
         rfl
        refine pu 12 (some 136) (tt 13 13) HT_ ?_
        refine done_ (done_of HT_.out (by kernel_rfl)) ?_
        clear HT_ HW_
        go_wp2_with fail
        go_roundg k2
        case measure => omega
        case rel => exact ⟨j + 1, Y + 1, by simp [ny], ⟨by have := HY.out; push_cast; omega⟩, ⟨by have := HJ.out; omega⟩, ⟨cl HD.out NJ.out NE.out⟩, KN, HN⟩
       ·have NE := Aside0.mk h_
        go_upto_region 13 with fail
        have H0 := Aside0.mk (below_drew1 (Below.refl wr.heap.size wr))
        refine start_ (n := 13) (S := fun w' => w'.cell? ⟨w.heap.size, 31, none⟩ = some (.slice (some ad) v.ps.length p.cp) ∧ w'.cell? (ad.add (Y.toNat * 6)) = some (.string nj) ∧ w'.cell? (ad.add (X.toNat * 6)) = some (.string x.f0)) (ds := []) (tt 13 0) (by kernel_rfl) rfl rfl ⟨pw_cell_below H0.out x31, pw_cell_below H0.out y0, pw_cell_below H0.out z0⟩ (fun hHeld => ?_)
        refine with_tabW tabfd bitsfd (fun HT_ HW_ => ?_)
        clear x31 y0 z0
        have HN := Aside0.mk (below_then HB.out HB.out.size H0.out)
        have KN := Aside0.mk (blk_below K1.out H0.out)
        generalize wr.drew = wd_ at HN KN hHeld ⊢
        clear H0
        refine pu 0 (some 124) (tt 13 1) HT_ ?_
        refine take_ (i := 1) (N := some 125) (v := ?_) (a' := ?_) (tt 13 2) rfl rfl (take_ofW HT_.out HW_.out (by kernel_rfl)) (fun _ _ _ h => h) (Or.inl ⟨by rfl, ?_⟩) hHeld ?_ ?_
        rotate_left
        ·rintro w' ⟨s0, s1, s2⟩
         go_simp
         with_reducible rfl
        rotate_left
        ·simp only [Act.put, sA, sB, sC, i64_w, i32_w]
         rfl
        refine pu 2 (some 126) (tt 13 3) HT_ ?_
        refine pu 3 (some 127) (tt 13 4) HT_ ?_
        refine pu 4 (some 128) (tt 13 5) HT_ ?_
        refine take_ (i := 5) (N := some 129) (v := ?_) (a' := ?_) (tt 13 6) rfl rfl (take_ofW HT_.out HW_.out (by kernel_rfl)) (fun _ _ _ h => h) (Or.inl ⟨by rfl, ?_⟩) hHeld ?_ ?_
        rotate_left
        ·rintro w' ⟨s0, s1, s2⟩
         go_simp
         with_reducible rfl
        rotate_left
        ·simp only [Act.put, sA, sB, sC, i64_w, i32_w]
         rfl
        refine pu 6 (some 130) (tt 13 7) HT_ ?_
        refine take_ (i := 7) (N := some 131) (v := ?_) (a' := ?_) (tt 13 8) rfl rfl (take_ofW HT_.out HW_.out (by kernel_rfl)) (fun _ _ _ h => h) (Or.inl ⟨by rfl, ?_⟩) hHeld ?_ ?_
        rotate_left
        ·rintro w' ⟨s0, s1, s2⟩
         go_simp
         with_reducible rfl
        rotate_left
        ·simp only [Act.put, sA, sB, sC, i64_w, i32_w]
         rfl
        refine pu 8 (some 132) (tt 13 9) HT_ ?_
        refine pu 9 (some 133) (tt 13 10) HT_ ?_
        refine pu 10 (some 134) (tt 13 11) HT_ ?_
        refine take_ (i := 11) (N := some 135) (v := ?_) (a' := ?_) (tt 13 12) rfl rfl (take_ofW HT_.out HW_.out (by kernel_rfl)) (fun _ _ _ h => h) (Or.inl ⟨by rfl, ?_⟩) hHeld ?_ ?_
        rotate_left
        ·rintro w' ⟨s0, s1, s2⟩
         go_simp
         with_reducible rfl
        rotate_left
        ·simp only [Act.put, sA, sB, sC, i64_w, i32_w]
         rfl
        refine pu 12 (some 136) (tt 13 13) HT_ ?_
        refine done_ (done_of HT_.out (by kernel_rfl)) ?_
        clear HT_ HW_
        go_wp2_with fail
        go_ret
        exact ⟨by rw [ev_pe (PeF.no HIL.out (by rw [OI.out, dup_yes j JI.out HJL.out (by rw [NJ.out]; exact NE.out)]; simp))] <;> rfl, HN.out⟩
    | zero =>
     have l1 : decide (X < (v.ps.length : Int)) = false := decide_eq_false (by have := HX.out; have := HI.out; omega)
     have PE := Aside0.mk (PeF.yes PL.out (fun j hj => HU.out j (by have := HI.out; omega)))
     have x37 : wr.cell? ⟨w.heap.size, 37, none⟩ = some (.slice p.Ax l.length p.cx) := (blk_cell K1.out 37).trans (by rw [← OK.out.len]; rfl)
     go_wp2_with fail
     clear x37 l1 HX HI HU
     go_loopg [142] l.length (fun kq v_ w' => ∃ (i : Nat) (X : Int), v_ = .int .i64 X ∧ Aside0 (X = (i : Int)) ∧ Aside0 (i + kq = l.length) ∧ Aside0 (∀ j : Nat, ∀ h : j < l.length, j < i → ExtF.one (thL l[j]) = true) ∧ Aside0 (w'.heap[w.heap.size]? = some (.cells (eagg v p) 34 (0, 0))) ∧ Aside0 (Below w.heap.size w w'))
     case atStart => exact ⟨0, 0, rfl, ⟨rfl⟩, ⟨by omega⟩, ⟨fun j h hj => by omega⟩, K1, HB⟩
     case round =>
      clear K1 HB
      obtain ⟨i, X, rfl, HX, HI, HU, K1, HB⟩ := hrel
      cases gk with
      | succ k1 =>
       have hi : i < l.length := by have := HI.out; omega
       have l1 : decide (X < (l.length : Int)) = true := decide_eq_true (by have := HX.out; have := HI.out; omega)
       have nx : wrap64 (X + 1) = X + 1 := by have := HX.out; have := HI.out; have := XL.out; unfold wrap64; omega
       have p1 : 0 ≤ X := by have := HX.out; omega
       have q1 : X < (l.length : Int) := by have := HX.out; omega
       obtain ⟨ad, B1, b1, hA, y0, y1, y2, ly, gy⟩ := at_T51 (Kd.C_below OK.out.hx HB.out) X p1 q1
       have hxi : rd_T51 l X = l[i] := by simp [rd_T51, HX.out, hi]
       have hsz := HZ.out.ex _ (List.getElem_mem hi)
       rw [hxi] at y0 y1 y2 ly gy
       obtain ⟨x, hx⟩ : ∃ x, l[i] = x := ⟨_, rfl⟩
       have SE := Aside0.mk (show ∀ h : i < l.length, l[i] = x from fun _ => hx)
       rw [hx] at y0 y1 y2 ly gy hsz
       obtain ⟨K, hK⟩ := LinR.ref x hsz
       have LY := Aside0.mk ly; have GY := Aside0.mk gy; have HIL := Aside0.mk hi; have RF := Aside0.mk (hK K (Nat.le_refl K)); have SX := Aside0.mk hsz.1
       have x37 : wr.cell? ⟨w.heap.size, 37, none⟩ = some (.slice (some ad) l.length p.cx) := by rw [← hA]; exact (blk_cell K1.out 37).trans (by rw [← OK.out.len]; rfl)
       replace p1 := eq_true p1; replace q1 := eq_true q1
       clear ly gy hsz hxi hx hi hA hK
       go_wp2_with fail
       refine (trystref08_Formed.calls K x.f0 B1 b1 x.f1 x.f2 (LinF.lineB (thL x)) wr GY.out LY.out RF.out).mono ?_
       rintro q w1 ⟨rfl, hb⟩
       have HN := Aside0.mk (below_then HB.out HB.out.size hb)
       have KN := Aside0.mk (blk_below K1.out hb)
       clear hb y0 y1 y2 x37
       rcases hlb : LinF.lineB (thL x) with _ | _
       ·have PB := Aside0.mk hlb
        clear hlb
        go_wp2_with fail
        go_ret
        exact ⟨by rw [ev_ex (by rw [OK.out.hv]; exact ex_no HIL.out (by rw [SE.out]; unfold ExtF.one; rw [PB.out]; rfl))] <;> rfl, HN.out⟩
       have PB := Aside0.mk hlb
       clear hlb
       have PRE := Aside0.mk (show ExtF.one (thL x) = ExtF.pre x.f0 by unfold ExtF.one; rw [PB.out, Bool.true_and]; rfl)
       by_cases c : 2 ≤ x.f0.size
       rotate_left
       ·have c1 : decide ((x.f0.size : Int) < 2) = true := decide_eq_true (by omega)
        have C := Aside0.mk (show ExtF.pre x.f0 = false by unfold ExtF.pre; rw [decide_eq_false c]; rfl)
        clear c
        go_wp2_with fail
        go_ret
        exact ⟨by rw [ev_ex (by rw [OK.out.hv]; exact ex_no HIL.out (by rw [SE.out, PRE.out]; exact C.out))] <;> rfl, HN.out⟩
       have c1 : decide ((x.f0.size : Int) < 2) = false := decide_eq_false (by omega)
       have C := Aside0.mk (show ExtF.pre x.f0 = ((x.f0.extract 0 2).toList == ([88, 45] : List UInt8)) by unfold ExtF.pre; rw [decide_eq_true c, xdash]; rfl)
       rcases h_ : ((x.f0.extract 0 2).toList == ([88, 45] : List UInt8)) with _ | _
       ·have H_ := Aside0.mk h_
        go_wp2_with fail
        go_ret
        exact ⟨by rw [ev_ex (by rw [OK.out.hv]; exact ex_no HIL.out (by rw [SE.out, PRE.out, C.out]; exact H_.out))] <;> rfl, HN.out⟩
       ·have H_ := Aside0.mk h_
        go_wp2_with fail
        go_roundg k1
        case measure => omega
        case rel =>
         refine ⟨i + 1, X + 1, by simp [nx], ⟨by have := HX.out; push_cast; omega⟩, ⟨by have := HI.out; omega⟩, ⟨fun j h hj => ?_⟩, KN, HN⟩
         by_cases e : j = i
         ·subst e
          rw [SE.out h, PRE.out, C.out]
          exact H_.out
         ·exact HU.out j h (by omega)
      | zero =>
       have l1 : decide (X < (l.length : Int)) = false := decide_eq_false (by have := HX.out; have := HI.out; omega)
       have EX := Aside0.mk (show ExtF.extraB v.ex = true by rw [OK.out.hv]; exact ex_yes XL.out (fun j h => HU.out j h (by have := HI.out; omega)))
       have EW := Aside0.mk (show evB v = UnF.partB v by rw [EV.out, PE.out, EX.out, Bool.true_and, Bool.and_true])
       clear HU EV PE EX PL XL
       have x6 : wr.cell? ⟨w.heap.size, 6, none⟩ = some (.bool v.set.again) := (blk_cell K1.out 6).trans rfl
       have x24 : wr.cell? ⟨w.heap.size, 24, none⟩ = some (.slice p.sp.Ad v.set.ds.length p.sp.cd) := (blk_cell K1.out 24).trans rfl
       have x25 : wr.cell? ⟨w.heap.size, 25, none⟩ = some (.slice p.sp.Ab v.set.bs.length p.sp.cb) := (blk_cell K1.out 25).trans rfl
       have x32 : wr.cell? ⟨w.heap.size, 32, none⟩ = some (.bool v.is) := (blk_cell K1.out 32).trans rfl
       have x33 : wr.cell? ⟨w.heap.size, 33, none⟩ = some (.int .i64 v.part.f0) := (blk_cell K1.out 33).trans rfl
       have x34 : wr.cell? ⟨w.heap.size, 34, none⟩ = some (.int .i64 v.part.f1) := (blk_cell K1.out 34).trans rfl
       have x35 : wr.cell? ⟨w.heap.size, 35, none⟩ = some (.string v.part.f2) := (blk_cell K1.out 35).trans rfl
       have x36 : wr.cell? ⟨w.heap.size, 36, none⟩ = some (.bool v.fut) := (blk_cell K1.out 36).trans rfl
       rcases h1 : v.is with _ | _
       ·rw [h1] at x32
        have H1 := Aside0.mk h1
        clear h1
        rcases h2 : v.fut with _ | _
        rotate_left
        ·rw [h2] at x36
         have H2 := Aside0.mk h2
         clear h2
         go_wp2_with fail
         go_ret
         exact ⟨by rw [EW.out] <;> unfold UnF.partB <;> rw [H1.out, H2.out] <;> rfl, HB.out⟩
        rw [h2] at x36
        have H2 := Aside0.mk h2
        clear h2
        rcases e3 : (v.part.f0 == 0) with _ | _
        ·have E3 := Aside0.mk e3
         go_wp2_with fail
         go_ret
         exact ⟨by rw [EW.out] <;> unfold UnF.partB UnF.zT <;> rw [H1.out, H2.out, E3.out] <;> rfl, HB.out⟩
        have E3 := Aside0.mk e3
        rcases e4 : (v.part.f1 == 0) with _ | _
        ·have E4 := Aside0.mk e4
         go_wp2_with fail
         go_ret
         exact ⟨by rw [EW.out] <;> unfold UnF.partB UnF.zT <;> rw [H1.out, H2.out, E3.out, E4.out] <;> rfl, HB.out⟩
        have E4 := Aside0.mk e4
        rcases e5 : (v.part.f2.toList == ([] : List UInt8)) with _ | _
        ·have E5 := Aside0.mk e5
         go_wp2_with fail
         go_ret
         exact ⟨by rw [EW.out] <;> unfold UnF.partB UnF.zT <;> rw [H1.out, H2.out, E3.out, E4.out, E5.out] <;> rfl, HB.out⟩
        have E5 := Aside0.mk e5
        go_wp2_with fail
        go_ret
        exact ⟨by rw [EW.out] <;> unfold UnF.partB UnF.zT <;> rw [H1.out, H2.out, E3.out, E4.out, E5.out] <;> rfl, HB.out⟩
       rw [h1] at x32
       have H1 := Aside0.mk h1
       clear h1
       go_wp2_with fail
       refine (Fset.rtC v.part.f0 v.part.f1 v.part.f2 HZ.out.e.part wr).mono ?_
       rintro q w1 ⟨rfl, hb⟩
       replace HB := Aside0.mk (below_then HB.out HB.out.size hb)
       replace x6 := pw_cell_below hb x6; replace x24 := pw_cell_below hb x24; replace x25 := pw_cell_below hb x25
       clear hb x32 x33 x34 x35 x36
       rcases h2 : rtB v.part.f0 v.part.f1 v.part.f2 with _ | _
       ·have H2 := Aside0.mk h2
        clear h2
        go_wp2_with fail
        go_ret
        exact ⟨by rw [EW.out] <;> unfold UnF.partB <;> rw [H1.out, H2.out] <;> rfl, HB.out⟩
       have H2 := Aside0.mk h2
       clear h2
       rcases h3 : v.set.again with _ | _
       rotate_left
       ·rw [h3] at x6
        have H3 := Aside0.mk h3
        clear h3
        go_wp2_with fail
        go_ret
        exact ⟨by rw [EW.out] <;> unfold UnF.partB <;> rw [H1.out, H2.out, H3.out] <;> rfl, HB.out⟩
       rw [h3] at x6
       have H3 := Aside0.mk h3
       clear h3
       rcases e3 : ((v.set.ds.length : Int) == 0) with _ | _
       ·have E3 := Aside0.mk e3
        go_wp2_with fail
        go_ret
        exact ⟨by rw [EW.out] <;> unfold UnF.partB <;> rw [H1.out, H2.out, H3.out, E3.out] <;> rfl, HB.out⟩
       have E3 := Aside0.mk e3
       rcases e4 : ((v.set.bs.length : Int) == 0) with _ | _
       ·have E4 := Aside0.mk e4
        go_wp2_with fail
        go_ret
        exact ⟨by rw [EW.out] <;> unfold UnF.partB <;> rw [H1.out, H2.out, H3.out, E3.out, E4.out] <;> rfl, HB.out⟩
       have E4 := Aside0.mk e4
       go_wp2_with fail
       go_ret
       exact ⟨by rw [EW.out] <;> unfold UnF.partB <;> rw [H1.out, H2.out, H3.out, E3.out, E4.out] <;> rfl, HB.out⟩
end Go.Proofs.YtddoidcbpcmlaaaDoor.FormD
/- What an argument's cells read as, kind by kind: numbers, bools, texts, structs, slices of whatever of these. -/
namespace Go.Proofs.YtddoidcbpcmlaaaDoor.Op
open Go.ChangeShapes Go.WideShapes Go.RowKit Go.Deep Go.Proofs.YtddoidcbpcmlaaaDoorW.PrintWords Go.Proofs.YtddoidcbpcmlaaaDoorW.PrintLast
set_option linter.unusedVariables false
set_option linter.unusedSimpArgs false
/-- Whatever reads as type t reads as kind d, and φ holds of what is read. -/
def Opk {α : Type} (P : Program) (t : TypeId) (d : Kd α) (φ : α → Prop) : Prop :=
 P.cellsOf t = d.sz ∧ ∀ {H : Type} {enc : TypeId × Value → H} {w : World} {base : Nat} {spare : Nat → Bool} {held : Bool} {fuel : Nat} {cs : List Value} {x : DataW H × List MemPlace}, DataW.trod enc P w base spare held fuel t cs = some x → ∃ z : α, d.K w z cs ∧ φ z
theorem Opk.int {P : Program} {t : TypeId} {k : IntKind} (ht : P.underlying t = some (.int k)) (hC : P.cellsOf t = 1) : Opk P t (Kd.int k) (fun n => (Lit.int k n).wf = true) :=
 ⟨hC, fun h => by obtain ⟨n, rfl, _, hw⟩ := DataW.trod_int ht h; exact ⟨n, rfl, hw⟩⟩
theorem Opk.bool {P : Program} {t : TypeId} (ht : P.underlying t = some .bool) (hC : P.cellsOf t = 1) : Opk P t Kd.bool (fun _ => True) :=
 ⟨hC, fun h => by obtain ⟨b, rfl, _⟩ := DataW.trod_bool ht h; exact ⟨b, rfl, trivial⟩⟩
theorem Opk.string {P : Program} {t : TypeId} (ht : P.underlying t = some .string) (hC : P.cellsOf t = 1) : Opk P t Kd.string (fun s => s.size ≤ maxLen) :=
 ⟨hC, fun h => by obtain ⟨s, rfl, _, hs⟩ := DataW.trod_string ht h; exact ⟨s, rfl, hs⟩⟩
theorem C_of {α : Type} (d : Kd α) (w : World) (a : Addr) (len : Nat) (hlen : len ≤ 9223372036854775807) (xs : Nat → α) (hc : ∀ i, i < len → ∃ cs, d.K w (xs i) cs ∧ ∀ j u, cs[j]? = some u → w.cell? (a.add (i * d.sz + j)) = some u) :
  Kd.C d w (some a) len ((List.range len).map xs) := by
 refine ⟨by simp, hlen, fun _ => ⟨a, rfl, fun j p hp => ?_⟩⟩
 rw [List.getElem?_map] at hp
 by_cases h : j < len
 ·rw [List.getElem?_range h] at hp
  obtain rfl := Option.some.inj hp
  obtain ⟨cs, hK, hcs⟩ := hc j h
  exact ⟨cs, d.K_len hK, hK, hcs⟩
 ·rw [List.getElem?_eq_none (by simp; omega)] at hp
  cases hp
theorem C_nil {α : Type} (d : Kd α) (w : World) (A : Option Addr) : Kd.C d w A 0 ([] : List α) := ⟨rfl, by omega, fun h => by omega⟩
theorem Opk.slice {α : Type} [Inhabited α] {P : Program} {t e : TypeId} {d : Kd α} {φ : α → Prop} (ht : P.underlying t = some (.slice e)) (hC : P.cellsOf t = 1) (he : Opk P e d φ) : Opk P t (Kd.slice e d) (fun l => l.length ≤ maxLen ∧ ∀ x ∈ l, φ x) :=
 ⟨hC, fun {H enc w base spare held fuel cs x} h => by
  rcases open_slice ht h with ⟨rfl, _⟩ | ⟨a, len, cap, m, n, D, Pl, rfl, _, hl, hm, hmm, _, hi⟩
  ·exact ⟨[], ⟨none, 0, rfl, Nat.le_refl _, C_nil _ _ _⟩, by simp, fun x hx => by cases hx⟩
  ·obtain ⟨hsz, hop⟩ := he
   have each : ∀ i, i < len → ∃ z : α, φ z ∧ ∃ cs', d.K w z cs' ∧ ∀ j u, cs'[j]? = some u → w.cell? (a.add (i * d.sz + j)) = some u := by
    intro i hil
    obtain ⟨cs', hc, ht'⟩ := hi i (by rw [hmm]; split <;> omega)
    obtain ⟨z, hz, hφ⟩ := hop ht'
    rw [hsz] at hc
    obtain ⟨_, hcl, hat⟩ := World.cells?_some hc
    refine ⟨z, hφ, cs', hz, fun j u hu => ?_⟩
    have hj : j < d.sz := by rw [← hcl]; exact (List.getElem?_eq_some_iff.1 hu).1
    rw [← Go.Deep.add_add, hat j hj, hu]
   obtain ⟨xs, hxs⟩ := choose_lt each
   have hlen : len ≤ 9223372036854775807 := by unfold maxLen at hm; omega
   have hC0 := C_of d w a len hlen xs (fun i hi' => (hxs i hi').2)
   have hl0 : ((List.range len).map xs).length = len := by simp
   refine ⟨(List.range len).map xs, ⟨some a, cap, by rw [hl0], by rw [hl0]; exact hl, by rw [hl0]; exact hC0⟩, by rw [hl0]; exact Nat.le_trans hl hm, fun x hx => ?_⟩
   obtain ⟨i, hi', rfl⟩ := List.mem_map.1 hx
   exact (hxs i (List.mem_range.1 hi')).1⟩
/-- A struct's fields from a place on. -/
structure Fl {α : Type} (P : Program) (fs : List Field) (o : Nat) (d : Kd α) (φ : α → Prop) : Prop where
 get : ∀ {H : Type} {enc : TypeId × Value → H} {w : World} {base : Nat} {spare : Nat → Bool} {held : Bool} {cs : List Value}, cs.length = o + d.sz → (∀ f ∈ fs, ∃ (n : Nat) (y : DataW H × List MemPlace), DataW.trod enc P w base spare held n f.type ((cs.drop f.offset).take (P.cellsOf f.type)) = some y) → ∃ z : α, d.K w z (cs.drop o) ∧ φ z
theorem Fl.last {α : Type} {P : Program} {f : Field} {o : Nat} {d : Kd α} {φ : α → Prop} (ho : f.offset = o) (hf : Opk P f.type d φ) : Fl P [f] o d φ := by
 constructor
 intro H enc w base spare held cs hl h
 obtain ⟨n, y, hy⟩ := h f (by simp)
 rw [ho, hf.1] at hy
 have e : (cs.drop o).take d.sz = cs.drop o := List.take_of_length_le (by rw [List.length_drop]; omega)
 rw [e] at hy
 exact hf.2 hy
theorem Fl.cons {α β : Type} {P : Program} {f : Field} {r : List Field} {o : Nat} {a : Kd α} {b : Kd β} {φ : α → Prop} {ψ : β → Prop} (ho : f.offset = o) (hf : Opk P f.type a φ) (hr : Fl P r (o + a.sz) b ψ) : Fl P (f :: r) o (Kd.pair a b) (fun x => φ x.1 ∧ ψ x.2) := by
 constructor
 intro H enc w base spare held cs hl h
 obtain ⟨n, y, hy⟩ := h f (by simp)
 rw [ho, hf.1] at hy
 obtain ⟨z0, k0, p0⟩ := hf.2 hy
 have hl' : cs.length = (o + a.sz) + b.sz := by rw [hl]; show o + (a.sz + b.sz) = _; omega
 obtain ⟨z1, k1, p1⟩ := hr.get hl' (fun g hg => h g (by simp [hg]))
 refine ⟨(z0, z1), ⟨(cs.drop o).take a.sz, cs.drop (o + a.sz), ?_, k0, k1⟩, p0, p1⟩
 rw [← List.drop_drop, List.take_append_drop]
theorem Opk.struct {α : Type} {P : Program} {t : TypeId} {fs : Array Field} {d : Kd α} {φ : α → Prop} (ht : P.underlying t = some (.struct fs)) (hC : P.cellsOf t = d.sz) (hf : Fl P fs.toList 0 d φ) : Opk P t d φ :=
 ⟨hC, fun {H enc w base spare held fuel cs x} h => by
  obtain ⟨xs, n, _, _, hlen, hxl, hg⟩ := DataW.trod_struct ht h
  obtain ⟨z, k, p⟩ := hf.get (w := w) (cs := cs) (by rw [hlen, hC]; omega) (fun f hm => by
   obtain ⟨i, hi, rfl⟩ := List.getElem_of_mem hm
   have e := hg i fs.toList[i] (by simp)
   have hx : i < xs.length := by rw [hxl]; simpa using hi
   rw [List.getElem?_eq_getElem hx] at e
   exact ⟨n, _, e⟩)
  exact ⟨z, by simpa using k, p⟩⟩
theorem Opk.iso {α β : Type} {P : Program} {t : TypeId} {d : Kd α} {φ : α → Prop} (f : β → α) (g : α → β) (hfg : ∀ x, f (g x) = x) (h : Opk P t d φ) : Opk P t (Kd.iso d f) (fun x => φ (f x)) :=
 ⟨h.1, fun hx => by
  obtain ⟨z, k, p⟩ := h.2 hx
  exact ⟨g z, by show d.K _ (f (g z)) _; rw [hfg]; exact k, by show φ (f (g z)); rw [hfg]; exact p⟩⟩
end Go.Proofs.YtddoidcbpcmlaaaDoor.Op
