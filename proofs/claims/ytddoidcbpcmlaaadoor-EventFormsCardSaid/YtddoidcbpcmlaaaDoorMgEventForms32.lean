/- Texts of this claim, merged: LinG, PeF, MstringsliteHasPrefix, MstringsHasPrefix, ExtF, EvF. -/
import Derived.Test.YtddoidcbpcmlaaaDoorMgEventForms31
import Derived.Test.YtddoidcbpcmlaaaDoorMgEventForms3
import Derived.Test.YtddoidcbpcmlaaaDoorMgEventForms29
import Derived.Test.YtddoidcbpcmlaaaDoorMgEventForms13
import Derived.Test.YtddoidcbpcmlaaaDoorMgEventForms25
/- line.Formed walked. (Written by gen_linf.py.) -/
namespace Go.Proofs.YtddoidcbpcmlaaaDoor.LinG
open Go.RowKit Go.Proofs.YtddoidcbpcmlaaaDoorW.PrintWords Go.Proofs.YtddoidcbpcmlaaaDoorW.PrintLast Go.Proofs.YtddoidcbpcmlaaaDoor.M Go.Proofs.YtddoidcbpcmlaaaDoor.Cln Go.Proofs.YtddoidcbpcmlaaaDoor.LinN Go.Proofs.YtddoidcbpcmlaaaDoor.LinF
set_option linter.unusedVariables false
set_option linter.unusedSimpArgs false
/-- The first k of n operations are done. -/
def tt (n k : Nat) : Array Bool := (List.replicate k true ++ List.replicate (n - k) false).toArray
theorem C_take {α : Type} {d : Kd α} {w : World} {A : Option Addr} {xs : List α} (h : Kd.C d w A xs.length xs) (i : Nat) (hi : i ≤ xs.length) : Kd.C d w A (xs.take i).length (xs.take i) := by
 obtain ⟨h1, h2, h3⟩ := h
 have e : (xs.take i).length = i := by simp; omega
 refine ⟨rfl, by omega, fun hp => ?_⟩
 obtain ⟨ad, e1, h4⟩ := h3 (by omega)
 refine ⟨ad, e1, fun j p hj => h4 j p ?_⟩
 have hj2 := (List.getElem?_eq_some_iff.1 hj).1
 rw [List.getElem?_take_of_lt (by omega)] at hj
 exact hj
def ok1 (ps : List LP) (i : Nat) : Bool := parB (rd_T79 ps (i : Int)) && !dup ps i (rd_T79 ps (i : Int)).f0
theorem all_no {ps : List LP} {i : Nat} (hi : i < ps.length) (h : ok1 ps i = false) : ((List.range ps.length).all fun i => parB (rd_T79 ps (i : Int)) && !dup ps i (rd_T79 ps (i : Int)).f0) = false := by
 cases q : (List.range ps.length).all fun i => parB (rd_T79 ps (i : Int)) && !dup ps i (rd_T79 ps (i : Int)).f0 with
 | false => rfl
 | true => have := List.all_eq_true.1 q i (List.mem_range.2 hi); unfold ok1 at h; rw [h] at this; cases this
theorem all_yes {ps : List LP} (h : ∀ i, i < ps.length → ok1 ps i = true) : ((List.range ps.length).all fun i => parB (rd_T79 ps (i : Int)) && !dup ps i (rd_T79 ps (i : Int)).f0) = true := List.all_eq_true.2 fun i hi => h i (List.mem_range.1 hi)
/-- The sizes of a line's texts. -/
def Sz (x : LL) : Prop := x.f0.size ≤ 9223372036854775807 ∧ x.f2.size ≤ 9223372036854775807 ∧ ∀ p ∈ x.f1, p.f0.size ≤ 9223372036854775807 ∧ ∀ v ∈ p.f1, v.size ≤ 9223372036854775807
def Tg6 : Bool × List (List Nat × List Nat) := (true, [([], []), ([0], [0]), ([1], [1]), ([2, 1], [2]), ([3], [3]), ([4, 3], [3, 4]), ([3], [3]), ([5, 6, 3], [3, 5, 6]), ([3], [3]), ([8, 3], [3, 8]), ([7, 9, 3, 3], [3, 7, 9]), ([10, 3], [3, 10]), ([3, 11], [3, 11])])
def Bg6 : List Nat := [0, 1, 3, 7, 15, 31, 15, 127, 15, 271, 1023, 2047, 4095]
theorem tabg6 : rtab .any (opsOf Tryd.f43 6) = Tg6 := by kernel_rfl
theorem bitsg6 : waitsOk Tg6.2 Bg6 = true := by kernel_rfl
set_option maxHeartbeats 4000000 in
set_option maxRecDepth 100000 in
theorem formed (x : LL) (A : Option Addr) (c : Nat) (w : World) (hC : Kd.C k79 w A x.f1.length x.f1) (hl : x.f1.length ≤ c) (hs : Sz x) (hT : Tabs w) :
  Calls Tryd.prog 43 #[.agg #[.string x.f0, .slice A x.f1.length c, .string x.f2]] w fun e w' => e = .returned (.bool (lineB x)) ∧ Below w.heap.size w w' := by
 have HC := Aside0.mk hC; have HL := Aside0.mk hl; have HS := Aside0.mk hs; have HT := Aside0.mk hT
 clear hC hl hs hT
 go_enter Tryd.func43, Tryd.ntmps43
 go_upto_region 1 with fail
 obtain ⟨w0, hw0, z0⟩ : ∃ w0, w0 = w.alloc (.cells #[.string x.f0, .slice A x.f1.length c, .string x.f2] 58 (0, 0)) ∧ w0.heap[w.heap.size]? = some (.cells #[.string x.f0, .slice A x.f1.length c, .string x.f2] 58 (0, 0)) ∧ Below w.heap.size w w0 := ⟨_, rfl, blk_new _ _, below_alloc (Below.refl _ _) _⟩
 have K1 := Aside0.mk z0.1; have HB := Aside0.mk z0.2
 rw [← hw0]
 clear hw0 z0
 have x0 : w0.cell? ⟨w.heap.size, 0, none⟩ = some (.string x.f0) := (blk_cell K1.out 0).trans rfl
 have x1 : w0.cell? ⟨w.heap.size, 1, none⟩ = some (.slice A x.f1.length c) := (blk_cell K1.out 1).trans rfl
 have x2 : w0.cell? ⟨w.heap.size, 2, none⟩ = some (.string x.f2) := (blk_cell K1.out 2).trans rfl
 go_wp2_with fail
 refine (nameC x.f0 HS.out.1 w0).mono ?_
 rintro q w1 ⟨rfl, hd⟩
 have hb := hd.below
 replace K1 := Aside0.mk (blk_below K1.out hb); replace x1 := pw_cell_below hb x1; replace x2 := pw_cell_below hb x2; replace HB := Aside0.mk (below_then HB.out HB.out.size hb)
 clear hd hb x0
 rcases hnm : nameB x.f0 with _ | _
 ·have NM := Aside0.mk hnm
  clear hnm
  go_wp2_with fail
  go_ret
  exact ⟨by unfold lineB; rw [NM.out]; rfl, HB.out⟩
 have NM := Aside0.mk hnm
 clear hnm
 by_cases c2 : (x.f1.length : Int) > 60
 ·have l2 := decide_eq_true c2
  have C2 := Aside0.mk c2
  clear c2
  go_wp2_with fail
  go_ret
  exact ⟨by unfold lineB; rw [decide_eq_false (show ¬ x.f1.length ≤ 60 by have := C2.out; omega)]; simp, HB.out⟩
 have l2 := decide_eq_false c2
 have C2 := Aside0.mk c2
 clear c2
 go_wp2_with fail
 refine (clean x.f2 false _ HS.out.2.1 (HT.out.below HB.out)).mono ?_
 rintro q w2 ⟨rfl, hb⟩
 replace K1 := Aside0.mk (blk_below K1.out hb); replace x1 := pw_cell_below hb x1; replace HB := Aside0.mk (below_then HB.out HB.out.size hb)
 clear hb x2 l2
 by_cases hc : clF x.f2 false = 0
 rotate_left
 ·have HCL := Aside0.mk hc
  have hc2 : decide (clF x.f2 false = 0) = false := decide_eq_false hc
  have hc3 : (clF x.f2 false != 0) = true := by simp [hc]
  clear hc
  go_wp2_with fail
  go_ret
  refine ⟨?_, HB.out⟩
  unfold lineB
  rw [clF_ok, decide_eq_false HCL.out]
  simp
 have HCL := Aside0.mk hc
 have hc2 : decide (clF x.f2 false = 0) = true := decide_eq_true hc
 have hc3 : (clF x.f2 false != 0) = false := by simp [hc]
 clear hc
 go_wp2_with fail
 clear hc2 hc3 x1
 go_loopg [24] x.f1.length (fun kq v w' => ∃ (i : Nat) (X : Int), v = .int .i64 X ∧ Aside0 (X = (i : Int)) ∧ Aside0 (i + kq = x.f1.length) ∧ Aside0 (∀ j : Nat, j < i → ok1 x.f1 j = true) ∧ Aside0 (w'.heap[w.heap.size]? = some (.cells #[.string x.f0, .slice A x.f1.length c, .string x.f2] 58 (0, 0))) ∧ Aside0 (Below w.heap.size w w'))
 case atStart => exact ⟨0, 0, rfl, ⟨rfl⟩, ⟨by omega⟩, ⟨fun j hj => by omega⟩, K1, HB⟩
 case round =>
  clear HB K1
  obtain ⟨i, X, rfl, HX, HI, HU, K1, HB⟩ := hrel
  cases gk with
  | zero =>
   have l1 : decide (X < (x.f1.length : Int)) = false := decide_eq_false (by have := HX.out; have := HI.out; omega)
   go_wp2_with fail
   go_ret
   refine ⟨?_, HB.out⟩
   unfold lineB
   rw [NM.out, clF_ok, decide_eq_true HCL.out, decide_eq_true (show x.f1.length ≤ 60 by have := C2.out; omega), all_yes (fun j hj => HU.out j (by have := HI.out; omega))]
   rfl
  | succ k1 =>
   have hi : i < x.f1.length := by have := HI.out; omega
   have l1 : decide (X < (x.f1.length : Int)) = true := decide_eq_true (by have := HX.out; have := HI.out; omega)
   have nx : wrap64 (X + 1) = X + 1 := by have := HX.out; have := HI.out; have := C2.out; unfold wrap64; omega
   have p1 : 0 ≤ X := by have := HX.out; omega
   have q1 : X < (x.f1.length : Int) := by have := HX.out; omega
   have q2 : X ≤ (c : Int) := by have := HL.out; omega
   obtain ⟨ad, B1, b1, rfl, y0, y1, ly, gy⟩ := at_T79 (Kd.C_below HC.out HB.out) X p1 q1
   have x1 : wr.cell? ⟨w.heap.size, 1, none⟩ = some (.slice (some ad) x.f1.length c) := (blk_cell K1.out 1).trans rfl
   have CT := Aside0.mk (C_take (Kd.C_below HC.out HB.out) i (by omega))
   have OI := Aside0.mk (show ok1 x.f1 i = (parB (rd_T79 x.f1 X) && !dup x.f1 i (rd_T79 x.f1 X).f0) by rw [HX.out]; rfl)
   have hsz : (rd_T79 x.f1 X).f0.size ≤ 9223372036854775807 ∧ ∀ v ∈ (rd_T79 x.f1 X).f1, v.size ≤ 9223372036854775807 := by
    have e : rd_T79 x.f1 X = x.f1[i] := by simp [rd_T79, HX.out, hi]
    rw [e]
    exact HS.out.2.2 _ (List.getElem_mem hi)
   obtain ⟨p, hp⟩ : ∃ p, rd_T79 x.f1 X = p := ⟨_, rfl⟩
   rw [hp] at y0 y1 ly gy hsz OI
   have LY := Aside0.mk ly; have GY := Aside0.mk gy; have SZ := Aside0.mk hsz
   have HIL := Aside0.mk hi
   replace p1 := eq_true p1; replace q1 := eq_true q1; replace q2 := eq_true q2
   clear ly gy hsz hp hi
   go_upto_region 6 with fail
   have hbq : Below wr.heap.size wr (wr.alloc (.cells #[.string p.f0, .slice B1 p.f1.length b1] 79 (0, 0))) := below_alloc (Below.refl _ _) _
   have PB := Aside0.mk (blk_new wr (.cells #[.string p.f0, .slice B1 p.f1.length b1] 79 (0, 0)))
   have z1 := pw_cell_below hbq x1
   have HN := Aside0.mk hbq
   clear x1 y0 y1 hbq
   generalize wr.alloc (.cells #[.string p.f0, .slice B1 p.f1.length b1] 79 (0, 0)) = wa at PB z1 HN ⊢
   have H0 := Aside0.mk (blk_drew PB.out); have Z1 := Aside0.mk (pw_cell_below (below_drew1 (Below.refl wa.heap.size wa)) z1); replace HN := Aside0.mk (below_drew1 HN.out)
   refine start_ (n := 13) (S := fun w' => w'.heap[wr.heap.size]? = some (.cells #[.string p.f0, .slice B1 p.f1.length b1] 79 (0, 0)) ∧ w'.cell? ⟨w.heap.size, 1, none⟩ = some (.slice (some ad) x.f1.length c)) (ds := []) (tt 13 0) (by kernel_rfl) rfl rfl ⟨H0.out, Z1.out⟩ (fun hHeld => ?_)
   refine with_tabW tabg6 bitsg6 (fun HT_ HW_ => ?_)
   clear z1 PB H0 Z1
   generalize wa.drew = wd_ at HN hHeld ⊢
   clear wa
   refine take_ (i := 0) (N := some 29) (v := ?_) (a' := ?_) (tt 13 1) rfl rfl (take_ofW HT_.out HW_.out (by kernel_rfl)) (fun _ _ _ h => h) (Or.inl ⟨by rfl, ?_⟩) hHeld ?_ ?_
   rotate_left
   ·rintro w' ⟨s0, s1⟩
    have q0_ : w'.cell? ⟨wr.heap.size, 0, none⟩ = some (.string p.f0) := (blk_cell s0 0).trans rfl
    have q1_ : w'.cell? ⟨wr.heap.size, 1, none⟩ = some (.slice B1 p.f1.length b1) := (blk_cell s0 1).trans rfl
    go_simp
    with_reducible rfl
   rotate_left
   ·simp only [Act.put, sA, sB, sC, i64_w, i32_w]
    rfl
   refine one_ (i := 1) (N := some 30) (tt 13 2) rfl rfl (one_of HT_.out (by kernel_rfl)) (by decide) (fun K hK => ?_)
   refine goes_ Tryd.func64 (by kernel_rfl) rfl #[.agg #[.string p.f0, .slice B1 p.f1.length b1]] (by rfl) rfl rfl (by (try simp only [List.map_toArray, List.map_cons, List.map_nil]); first | done | rfl) ?_
   refine (param p B1 b1 wd_ (Kd.C_below GY.out HN.out) SZ.out.1 SZ.out.2 (HT.out.below (below_then HB.out HB.out.size HN.out))).mono ?_
   rintro q wq1 ⟨rfl, hb⟩
   refine ⟨_, rfl, ?_⟩
   replace HN := Aside0.mk (below_then HN.out HN.out.size hb)
   refine hK.out _ _ ⟨blk_below hHeld.1 hb, pw_cell_below hb hHeld.2⟩ (fun hHeld => ?_)
   clear hK K
   refine norm_ (a' := ?_) ?_ ?_
   rotate_left
   ·show Act.put _ (some 30) _ = _
    simp only [Act.put, sA, sB, sC, i64_w, i32_w]
    rfl
   rcases hpb : parB p with _ | _
   ·have PB := Aside0.mk hpb
    clear hpb
    refine pu 2 (some 31) (tt 13 3) HT_ ?_
    refine pu 3 (some 32) (tt 13 4) HT_ ?_
    refine puO 4 (some 33) (tt 13 5) HT_ ?_
    refine puO 5 (some 34) (tt 13 6) HT_ ?_
    refine puO 6 (some 35) (tt 13 7) HT_ ?_
    refine puO 7 (some 36) (tt 13 8) HT_ ?_
    refine puO 8 (some 37) (tt 13 9) HT_ ?_
    refine puO 9 (some 38) (tt 13 10) HT_ ?_
    refine puO 10 (some 39) (tt 13 11) HT_ ?_
    refine puO 11 (some 40) (tt 13 12) HT_ ?_
    refine pu 12 (some 41) (tt 13 13) HT_ ?_
    refine done_ (done_of HT_.out (by kernel_rfl)) ?_
    clear HT_ HW_
    go_wp2_with fail
    go_ret
    exact ⟨by unfold lineB; rw [all_no HIL.out (by rw [OI.out, PB.out]; rfl)]; simp, below_then HB.out HB.out.size HN.out⟩
   ·have PB := Aside0.mk hpb
    clear hpb
    have li : (x.f1.take i).length = i := by have := HIL.out; simp; omega
    have LI := Aside0.mk li
    have xi : X.toNat = (x.f1.take i).length := by rw [li]; have := HX.out; omega
    clear li
    refine pu 2 (some 31) (tt 13 3) HT_ ?_
    refine pu 3 (some 32) (tt 13 4) HT_ ?_
    refine pu 4 (some 33) (tt 13 5) HT_ ?_
    refine take_ (i := 5) (N := some 34) (v := ?_) (a' := ?_) (tt 13 6) rfl rfl (take_ofW HT_.out HW_.out (by kernel_rfl)) (fun _ _ _ h => h) (Or.inl ⟨by rfl, ?_⟩) hHeld ?_ ?_
    rotate_left
    ·rintro w' ⟨s0, s1⟩
     go_simp
     with_reducible rfl
    rotate_left
    ·simp only [Act.put, sA, sB, sC, i64_w, i32_w]
     rfl
    refine pu 6 (some 35) (tt 13 7) HT_ ?_
    refine pure_ (i := 7) (N := some 36) (v := .slice (some ad) (x.f1.take i).length c) (a' := ?_) (tt 13 8) rfl rfl (any_of HT_.out (by kernel_rfl)) (fun _ _ _ h => h) (Or.inl ⟨by rfl, fun w' => by rw [← xi]; go_simp⟩) ?_ ?_
    rotate_left
    ·simp only [Act.put, sA, sB, sC, i64_w, i32_w]
     rfl
    clear xi
    refine pu 8 (some 37) (tt 13 9) HT_ ?_
    refine take_ (i := 9) (N := some 38) (v := ?_) (a' := ?_) (tt 13 10) rfl rfl (take_ofW HT_.out HW_.out (by kernel_rfl)) (fun _ _ _ h => h) (Or.inl ⟨by rfl, ?_⟩) hHeld ?_ ?_
    rotate_left
    ·rintro w' ⟨s0, s1⟩
     have q0_ : w'.cell? ⟨wr.heap.size, 0, none⟩ = some (.string p.f0) := (blk_cell s0 0).trans rfl
     have q1_ : w'.cell? ⟨wr.heap.size, 1, none⟩ = some (.slice B1 p.f1.length b1) := (blk_cell s0 1).trans rfl
     go_simp
     with_reducible rfl
    rotate_left
    ·simp only [Act.put, sA, sB, sC, i64_w, i32_w]
     rfl
    refine one_ (i := 10) (N := some 39) (tt 13 11) rfl rfl (one_of HT_.out (by kernel_rfl)) (by decide) (fun K hK => ?_)
    refine goes_ Tryd.func65 (by kernel_rfl) rfl #[.slice (some ad) (x.f1.take i).length c, .string p.f0] (by rfl) rfl rfl (by (try simp only [List.map_toArray, List.map_cons, List.map_nil]); first | done | rfl) ?_
    refine (at_ (x.f1.take i) (some ad) c p.f0 wq1 (Kd.C_below CT.out HN.out) (by have := C2.out; simp; omega)).mono ?_
    rintro q wq2 ⟨n, rfl, hn, hb⟩
    have HNN := Aside0.mk hn
    refine ⟨_, rfl, ?_⟩
    replace HN := Aside0.mk (below_then HN.out HN.out.size hb)
    refine hK.out _ _ ⟨blk_below hHeld.1 hb, pw_cell_below hb hHeld.2⟩ (fun hHeld => ?_)
    clear hK K
    refine norm_ (a' := ?_) ?_ ?_
    rotate_left
    ·show Act.put _ (some 39) _ = _
     simp only [Act.put, sA, sB, sC, i64_w, i32_w]
     rfl
    have DU := Aside0.mk (show decide (n ≥ 0) = dup x.f1 i p.f0 from HNN.out)
    rcases hdu : dup x.f1 i p.f0 with _ | _
    ·have hd1 : decide (n ≥ 0) = false := DU.out.trans hdu
     have DV := Aside0.mk hdu
     clear hdu hn hb
     refine pu 11 (some 40) (tt 13 12) HT_ ?_
     refine pu 12 (some 41) (tt 13 13) HT_ ?_
     refine done_ (done_of HT_.out (by kernel_rfl)) ?_
     clear HT_ HW_
     go_wp2_with fail
     go_roundg k1
     case measure => omega
     case rel =>
      refine ⟨i + 1, X + 1, by simp [nx], ⟨by have := HX.out; push_cast; omega⟩, ⟨by have := HI.out; omega⟩, ⟨fun j hj => ?_⟩, ⟨blk_below K1.out HN.out⟩, ⟨below_then HB.out HB.out.size HN.out⟩⟩
      by_cases e : j = i
      ·subst e
       rw [OI.out, PB.out, DV.out]
       rfl
      ·exact HU.out j (by omega)
    ·have hd1 : decide (n ≥ 0) = true := DU.out.trans hdu
     have DV := Aside0.mk hdu
     clear hdu hn hb
     refine pu 11 (some 40) (tt 13 12) HT_ ?_
     refine pu 12 (some 41) (tt 13 13) HT_ ?_
     refine done_ (done_of HT_.out (by kernel_rfl)) ?_
     clear HT_ HW_
     go_wp2_with fail
     go_ret
     exact ⟨by unfold lineB; rw [all_no HIL.out (by rw [OI.out, PB.out, DV.out]; rfl)]; simp, below_then HB.out HB.out.size HN.out⟩
end Go.Proofs.YtddoidcbpcmlaaaDoor.LinG
/- event.people: the program's, walked. (By hand, after LinF.) -/
namespace Go.Proofs.YtddoidcbpcmlaaaDoor.PeF
open Go.RowKit Go.Proofs.YtddoidcbpcmlaaaDoorW.PrintWords Go.Proofs.YtddoidcbpcmlaaaDoorW.PrintLast Go.Proofs.YtddoidcbpcmlaaaDoor.M
open Go.Proofs.YtddoidcbpcmlaaaDoor.LinG (C_take)
set_option linter.unusedVariables false
set_option linter.unusedSimpArgs false
abbrev PP := S46
/-- No text of a person is too long to be. -/
def Fit (x : PP) : Prop := x.f0.size ≤ 9223372036854775807 ∧ x.f4.size ≤ 9223372036854775807 ∧ x.f5.size ≤ 9223372036854775807
def rnd (p : PP) : Nat := 2 * (p.f0.size + p.f4.size + p.f5.size) + 2
/-- Is a person right? -/
def perB (p : PP) : Bool := (event_RightPerson.f (rnd p) p.f0 p.f1 p.f2 p.f3 p.f4 p.f5).getD false
theorem perE (p : PP) (h : Fit p) : event_RightPerson.f (rnd p) p.f0 p.f1 p.f2 p.f3 p.f4 p.f5 = some (perB p) ∧ trystlaw18_person.f (rnd p) p.f0 p.f1 p.f2 p.f3 p.f4 p.f5 = some (perB p) := by
 obtain ⟨x, h1, h2⟩ := People.persons (rnd p) p.f0 p.f4 p.f5 p.f1 p.f2 p.f3 h.1 h.2.1 h.2.2 (by unfold rnd; omega) (by unfold rnd; omega) (by unfold rnd; omega)
 have e : perB p = x := by unfold perB; rw [h1]; rfl
 rw [e]
 exact ⟨h1, h2⟩
theorem right (p : PP) (h : Fit p) (w : World) : Calls Tryd.prog 10 #[.agg #[.string p.f0, .int .i64 p.f1, .int .i64 p.f2, .bool p.f3, .string p.f4, .string p.f5]] w fun e w' => e = .returned (.bool (perB p)) ∧ Below w.heap.size w w' := event_RightPerson.calls (rnd p) p.f0 p.f1 p.f2 p.f3 p.f4 p.f5 (perB p) w (perE p h).1
theorem rightR (p : PP) (h : Fit p) (w : World) : Calls Tryd.prog 29 #[.agg #[.string p.f0, .int .i64 p.f1, .int .i64 p.f2, .bool p.f3, .string p.f4, .string p.f5]] w fun e w' => e = .returned (.bool (perB p)) ∧ Below w.heap.size w w' := trystlaw18_person.calls (rnd p) p.f0 p.f1 p.f2 p.f3 p.f4 p.f5 (perB p) w (perE p h).2
def dup (ps : List PP) (i : Nat) (nm : ByteArray) : Bool := (ps.take i).any fun q => q.f0.toList == nm.toList
def ok1 (ps : List PP) (i : Nat) : Bool := perB (rd_T46 ps (i : Int)) && !dup ps i (rd_T46 ps (i : Int)).f0
def peopleB (ps : List PP) : Bool := decide (ps.length ≤ 12) && (List.range ps.length).all (ok1 ps)
theorem no {ps : List PP} {i : Nat} (hi : i < ps.length) (h : ok1 ps i = false) : peopleB ps = false := by
 unfold peopleB
 have : (List.range ps.length).all (ok1 ps) = false := by
  cases q : (List.range ps.length).all (ok1 ps) with
  | false => rfl
  | true => have := List.all_eq_true.1 q i (List.mem_range.2 hi); rw [h] at this; cases this
 rw [this, Bool.and_false]
theorem yes {ps : List PP} (hl : ps.length ≤ 12) (h : ∀ i, i < ps.length → ok1 ps i = true) : peopleB ps = true := by
 unfold peopleB
 rw [decide_eq_true hl, List.all_eq_true.2 fun i hi => h i (List.mem_range.1 hi)]
 rfl
/-! where a person stands -/
set_option maxHeartbeats 4000000 in
set_option maxRecDepth 100000 in
theorem at1 (p : PP) (b : Nat) (nm : ByteArray) (w : World) (hb : w.cell? ⟨b, 0, none⟩ = some (.string nm)) :
  Calls Tryd.prog 42 #[.agg #[.string p.f0, .int .i64 p.f1, .int .i64 p.f2, .bool p.f3, .string p.f4, .string p.f5], .pointer (some ⟨b, 0, none⟩)] w fun e w' => e = .returned (.bool (p.f0.toList == nm.toList)) ∧ Below w.heap.size w w' := by
 go_enter Tryd.func42, Tryd.ntmps42
 go_upto_region 1 with fail
 obtain ⟨w0, hw0, z0⟩ : ∃ w0, w0 = w.alloc (.cells #[.string p.f0, .int .i64 p.f1, .int .i64 p.f2, .bool p.f3, .string p.f4, .string p.f5] 46 (0, 0)) ∧ w0.heap[w.heap.size]? = some (.cells #[.string p.f0, .int .i64 p.f1, .int .i64 p.f2, .bool p.f3, .string p.f4, .string p.f5] 46 (0, 0)) ∧ Below w.heap.size w w0 := ⟨_, rfl, blk_new _ _, below_alloc (Below.refl _ _) _⟩
 rw [← hw0]
 have x0 : w0.cell? ⟨w.heap.size, 0, none⟩ = some (.string p.f0) := (blk_cell z0.1 0).trans rfl
 have x1 : w0.cell? ⟨b, 0, none⟩ = some (.string nm) := pw_cell_below z0.2 hb
 have HB := Aside0.mk z0.2
 clear hw0 z0 hb
 go_wp2_with fail
 go_ret
 exact ⟨by first | rfl | simp, HB.out⟩
set_option maxHeartbeats 4000000 in
set_option maxRecDepth 100000 in
theorem index (ps : List PP) (A : Option Addr) (c b : Nat) (nm : ByteArray) (w : World) (hC : Kd.C k46 w A ps.length ps) (hb : w.cell? ⟨b, 0, none⟩ = some (.string nm)) (hm : ps.length ≤ 1000000) :
  Calls Tryd.prog 62 #[.slice A ps.length c, .func (.func 42) #[] #[.pointer (some ⟨b, 0, none⟩)]] w fun e w' => ∃ n : Int, e = .returned (.int .i64 n) ∧ decide (n ≥ 0) = (ps.any fun q => q.f0.toList == nm.toList) ∧ Below w.heap.size w w' := by
 have HC := Aside0.mk hC; have HN := Aside0.mk hb; have HM := Aside0.mk hm
 clear hC hb hm
 go_enter Tryd.func62, Tryd.ntmps62
 go_wp2_with fail
 go_loopg [8] ps.length (fun kq v w' => ∃ (i : Nat) (x : Int), v = .int .i64 x ∧ Aside0 (x = (i : Int)) ∧ Aside0 (i + kq = ps.length) ∧ Aside0 (∀ j : Nat, j < i → ∀ h : j < ps.length, (ps[j].f0.toList == nm.toList) = false) ∧ Aside0 (Below w.heap.size w w'))
 case atStart => exact ⟨0, 0, rfl, ⟨rfl⟩, ⟨by omega⟩, ⟨fun j hj => by omega⟩, ⟨Below.refl _ _⟩⟩
 case round =>
  obtain ⟨i, x, rfl, HX, HI, HU, HB⟩ := hrel
  cases gk with
  | zero =>
   have l1 : decide (x < (ps.length : Int)) = false := decide_eq_false (by have := HX.out; have := HI.out; omega)
   go_wp2_with fail
   go_ret
   refine ⟨-1, rfl, ?_, HB.out⟩
   have : (ps.any fun q => q.f0.toList == nm.toList) = false := by
    rw [List.any_eq_false]
    intro q hq
    obtain ⟨j, hj, rfl⟩ := List.getElem_of_mem hq
    rw [HU.out j (by have := HI.out; omega) hj]
    simp
   rw [this]
   rfl
  | succ k1 =>
   have hi : i < ps.length := by have := HI.out; omega
   have l1 : decide (x < (ps.length : Int)) = true := decide_eq_true (by have := HX.out; have := HI.out; omega)
   have nx : wrap64 (x + 1) = x + 1 := by have := HX.out; have := HI.out; have := HM.out; unfold wrap64; omega
   have p1 : 0 ≤ x := by have := HX.out; omega
   have q1 : x < (ps.length : Int) := by have := HX.out; omega
   obtain ⟨ad, rfl, y0, y1, y2, y3, y4, y5⟩ := at_T46 (Kd.C_below HC.out HB.out) x p1 q1
   have hxi : rd_T46 ps x = ps[i] := by simp [rd_T46, HX.out, hi]
   rw [hxi] at y0 y1 y2 y3 y4 y5
   obtain ⟨p, hp⟩ : ∃ p, ps[i] = p := ⟨_, rfl⟩
   have SE := Aside0.mk (show ∀ h : i < ps.length, ps[i] = p from fun _ => hp)
   rw [hp] at y0 y1 y2 y3 y4 y5
   have x1 : wr.cell? ⟨b, 0, none⟩ = some (.string nm) := pw_cell_below HB.out HN.out
   replace p1 := eq_true p1; replace q1 := eq_true q1
   clear hxi hp hi
   go_wp2_with fail
   refine (at1 p b nm _ x1).mono ?_
   rintro q w2 ⟨rfl, hb⟩
   replace HB := Aside0.mk (below_then HB.out HB.out.size hb)
   clear hb x1 y0 y1 y2 y3 y4 y5
   rcases hc : (p.f0.toList == nm.toList) with _ | _
   ·have HCL := Aside0.mk hc
    clear hc
    go_wp2_with fail
    go_roundg k1
    case measure => omega
    case rel =>
     refine ⟨i + 1, x + 1, by simp [nx], ⟨by have := HX.out; push_cast; omega⟩, ⟨by have := HI.out; omega⟩, ⟨fun j hj h => ?_⟩, HB⟩
     by_cases e : j = i
     ·subst e
      rw [SE.out h]
      exact HCL.out
     ·exact HU.out j (by omega) h
   ·have HCL := Aside0.mk hc
    clear hc
    go_wp2_with fail
    go_ret
    refine ⟨x, rfl, ?_, HB.out⟩
    have hi : i < ps.length := by have := HI.out; omega
    rw [decide_eq_true (by have := HX.out; omega)]
    symm
    rw [List.any_eq_true]
    exact ⟨ps[i], List.getElem_mem hi, by rw [SE.out hi]; exact HCL.out⟩
set_option maxHeartbeats 4000000 in
set_option maxRecDepth 100000 in
theorem contains (ps : List PP) (A : Option Addr) (c b : Nat) (nm : ByteArray) (w : World) (hC : Kd.C k46 w A ps.length ps) (hb : w.cell? ⟨b, 0, none⟩ = some (.string nm)) (hm : ps.length ≤ 1000000) :
  Calls Tryd.prog 41 #[.slice A ps.length c, .func (.func 42) #[] #[.pointer (some ⟨b, 0, none⟩)]] w fun e w' => e = .returned (.bool (ps.any fun q => q.f0.toList == nm.toList)) ∧ Below w.heap.size w w' := by
 go_enter Tryd.func41, Tryd.ntmps41
 go_wp2_with fail
 refine (index ps A c b nm w hC hb hm).mono ?_
 rintro q w1 ⟨n, rfl, hn, hd⟩
 have HB := Aside0.mk hd; have HQ := Aside0.mk hn
 clear hd hn
 go_wp2_with fail
 go_ret
 exact ⟨by rw [← HQ.out] <;> rfl, HB.out⟩
set_option maxHeartbeats 4000000 in
set_option maxRecDepth 100000 in
theorem people (ps : List PP) (A : Option Addr) (c : Nat) (w : World) (hC : Kd.C k46 w A ps.length ps) (hl : ps.length ≤ c) (hf : ∀ p ∈ ps, Fit p) :
  Calls Tryd.prog 19 #[.slice A ps.length c] w fun e w' => e = .returned (.bool (peopleB ps)) ∧ Below w.heap.size w w' := by
 have HC := Aside0.mk hC; have HL := Aside0.mk hl; have HF := Aside0.mk hf
 clear hC hl hf
 go_enter Tryd.func19, Tryd.ntmps19
 by_cases c2 : (ps.length : Int) > 12
 ·have l2 := decide_eq_true c2
  have C2 := Aside0.mk c2
  clear c2
  go_wp2_with fail
  go_ret
  exact ⟨by unfold peopleB; rw [decide_eq_false (show ¬ ps.length ≤ 12 by have := C2.out; omega)]; rfl, Below.refl _ _⟩
 have l2 := decide_eq_false c2
 have C2 := Aside0.mk c2
 clear c2
 go_wp2_with fail
 clear l2
 go_loopg [10] ps.length (fun kq v w' => ∃ (i : Nat) (X : Int), v = .int .i64 X ∧ Aside0 (X = (i : Int)) ∧ Aside0 (i + kq = ps.length) ∧ Aside0 (∀ j : Nat, j < i → ok1 ps j = true) ∧ Aside0 (Below w.heap.size w w'))
 case atStart => exact ⟨0, 0, rfl, ⟨rfl⟩, ⟨by omega⟩, ⟨fun j hj => by omega⟩, ⟨Below.refl _ _⟩⟩
 case round =>
  obtain ⟨i, X, rfl, HX, HI, HU, HB⟩ := hrel
  cases gk with
  | zero =>
   have l1 : decide (X < (ps.length : Int)) = false := decide_eq_false (by have := HX.out; have := HI.out; omega)
   go_wp2_with fail
   go_ret
   exact ⟨by rw [yes (by have := C2.out; omega) (fun j hj => HU.out j (by have := HI.out; omega))] <;> rfl, HB.out⟩
  | succ k1 =>
   have hi : i < ps.length := by have := HI.out; omega
   have l1 : decide (X < (ps.length : Int)) = true := decide_eq_true (by have := HX.out; have := HI.out; omega)
   have nx : wrap64 (X + 1) = X + 1 := by have := HX.out; have := HI.out; have := C2.out; unfold wrap64; omega
   have p1 : 0 ≤ X := by have := HX.out; omega
   have q1 : X < (ps.length : Int) := by have := HX.out; omega
   have q2 : X ≤ (c : Int) := by have := HL.out; omega
   obtain ⟨ad, rfl, y0, y1, y2, y3, y4, y5⟩ := at_T46 (Kd.C_below HC.out HB.out) X p1 q1
   have hf : Fit (rd_T46 ps X) := by
    have e : rd_T46 ps X = ps[i] := by simp [rd_T46, HX.out, hi]
    rw [e]
    exact HF.out _ (List.getElem_mem hi)
   have CT := Aside0.mk (C_take (Kd.C_below HC.out HB.out) i (by omega))
   have OI := Aside0.mk (show ok1 ps i = (perB (rd_T46 ps X) && !dup ps i (rd_T46 ps X).f0) by rw [HX.out]; rfl)
   obtain ⟨p, hp⟩ : ∃ p, rd_T46 ps X = p := ⟨_, rfl⟩
   rw [hp] at y0 y1 y2 y3 y4 y5 hf OI
   have HFP := Aside0.mk hf
   have HIL := Aside0.mk hi
   replace p1 := eq_true p1; replace q1 := eq_true q1; replace q2 := eq_true q2
   clear hf hp hi
   go_upto_region 6 with fail
   have hbq : Below wr.heap.size wr (wr.alloc (.cells #[.string p.f0, .int .i64 p.f1, .int .i64 p.f2, .bool p.f3, .string p.f4, .string p.f5] 46 (0, 0))) := below_alloc (Below.refl _ _) _
   have PB := Aside0.mk (blk_new wr (.cells #[.string p.f0, .int .i64 p.f1, .int .i64 p.f2, .bool p.f3, .string p.f4, .string p.f5] 46 (0, 0)))
   have HN := Aside0.mk hbq
   clear y0 y1 y2 y3 y4 y5 hbq
   generalize wr.alloc (.cells #[.string p.f0, .int .i64 p.f1, .int .i64 p.f2, .bool p.f3, .string p.f4, .string p.f5] 46 (0, 0)) = wa at PB HN ⊢
   have z0 : wa.cell? ⟨wr.heap.size, 0, none⟩ = some (.string p.f0) := (blk_cell PB.out 0).trans rfl
   have z1 : wa.cell? ⟨wr.heap.size, 1, none⟩ = some (.int .i64 p.f1) := (blk_cell PB.out 1).trans rfl
   have z2 : wa.cell? ⟨wr.heap.size, 2, none⟩ = some (.int .i64 p.f2) := (blk_cell PB.out 2).trans rfl
   have z3 : wa.cell? ⟨wr.heap.size, 3, none⟩ = some (.bool p.f3) := (blk_cell PB.out 3).trans rfl
   have z4 : wa.cell? ⟨wr.heap.size, 4, none⟩ = some (.string p.f4) := (blk_cell PB.out 4).trans rfl
   have z5 : wa.cell? ⟨wr.heap.size, 5, none⟩ = some (.string p.f5) := (blk_cell PB.out 5).trans rfl
   go_wp2_with fail
   refine (right p HFP.out wa).mono ?_
   rintro q w1 ⟨rfl, hb⟩
   have Z0 := Aside0.mk (pw_cell_below hb z0)
   replace HN := Aside0.mk (below_then HN.out HN.out.size hb)
   clear hb z0 z1 z2 z3 z4 z5 PB
   rcases hpb : perB p with _ | _
   ·have PB := Aside0.mk hpb
    clear hpb
    go_wp2_with fail
    go_ret
    exact ⟨by rw [no HIL.out (by rw [OI.out, PB.out]; rfl)] <;> rfl, below_then HB.out HB.out.size HN.out⟩
   have PB := Aside0.mk hpb
   clear hpb
   have xi : X.toNat = (ps.take i).length := by have := HIL.out; have := HX.out; simp; omega
   go_wp2_with fail
   rw [show min i ps.length = (ps.take i).length from by simp]
   refine (contains (ps.take i) (some ad) c wr.heap.size p.f0 w1 (Kd.C_below CT.out HN.out) Z0.out (by have := C2.out; simp; omega)).mono ?_
   rintro q w2 ⟨rfl, hb⟩
   replace HN := Aside0.mk (below_then HN.out HN.out.size hb)
   have DU := Aside0.mk (show ((ps.take i).any fun q => q.f0.toList == p.f0.toList) = dup ps i p.f0 from rfl)
   rw [DU.out]
   clear hb xi DU
   rcases hdu : dup ps i p.f0 with _ | _
   ·have DV := Aside0.mk hdu
    clear hdu
    go_wp2_with fail
    go_roundg k1
    case measure => omega
    case rel =>
     refine ⟨i + 1, X + 1, by simp [nx], ⟨by have := HX.out; push_cast; omega⟩, ⟨by have := HI.out; omega⟩, ⟨fun j hj => ?_⟩, ⟨below_then HB.out HB.out.size HN.out⟩⟩
     by_cases e : j = i
     ·subst e
      rw [OI.out, PB.out, DV.out]
      rfl
     ·exact HU.out j (by omega)
   ·have DV := Aside0.mk hdu
    clear hdu
    go_wp2_with fail
    go_ret
    exact ⟨by rw [no HIL.out (by rw [OI.out, PB.out, DV.out]; rfl)] <;> rfl, below_then HB.out HB.out.size HN.out⟩
end Go.Proofs.YtddoidcbpcmlaaaDoor.PeF
namespace Go.Proofs.YtddoidcbpcmlaaaDoor.M
open Go.RowKit Go.Proofs.YtddoidcbpcmlaaaDoorW.PrintWords Go.Proofs.YtddoidcbpcmlaaaDoorW.PrintLast Go.Proofs.YtddoidcbpcmlaaaDoorW.PrintMore
attribute [local go_sem] max2_int min2_int max_two min_two
set_option linter.unusedVariables false
set_option linter.unusedSimpArgs false
/-! ### stringslite_HasPrefix: function 66 -/
def stringslite_HasPrefix.f (a0 : ByteArray) (a1 : ByteArray) : Option (Bool) := if (a0.size : Int) ≥ (a1.size : Int) then (if 0 ≤ (a1.size : Int) then (if (a1.size : Int) ≤ (a0.size : Int) then (some ((a0.extract 0 ((a1.size : Int) : Int).toNat).toList == a1.toList)) else (none)) else (none)) else (some false)
set_option maxHeartbeats 8000000 in
set_option maxRecDepth 100000 in
theorem stringslite_HasPrefix.calls (a0 : ByteArray) (a1 : ByteArray) (r : Bool) (w : World) (h : stringslite_HasPrefix.f a0 a1 = some r) :
  Calls Tryd.prog 66 #[.string a0, .string a1] w fun e w' => e = .returned (.bool r) ∧ Drawn0 w w' := by
 have H : (if (a0.size : Int) ≥ (a1.size : Int) then (if 0 ≤ (a1.size : Int) then (if (a1.size : Int) ≤ (a0.size : Int) then (some ((a0.extract 0 ((a1.size : Int) : Int).toNat).toList == a1.toList)) else (none)) else (none)) else (some false)) = some r := h
 clear h
 by_cases c3 : (a0.size : Int) ≥ (a1.size : Int)
 ·rw [if_pos c3] at H
  have c3b0 : decide ((a1.size : Int) ≤ (a0.size : Int)) = true := decide_eq_true c3
  have c3b1 : decide (a1.size ≤ a0.size) = true := decide_eq_true (Int.ofNat_le.mp c3)
  clear c3
  by_cases c4 : 0 ≤ (a1.size : Int)
  ·rw [if_pos c4] at H
   have c4b0 := eq_true c4
   have c4b1 : decide (0 ≤ (a1.size : Int)) = true := decide_eq_true c4
   clear c4
   by_cases c5 : (a1.size : Int) ≤ (a0.size : Int)
   ·rw [if_pos c5] at H
    have c5b0 := eq_true c5
    have c5b1 : decide ((a1.size : Int) ≤ (a0.size : Int)) = true := decide_eq_true c5
    clear c5
    obtain rfl := Option.some.inj H
    go_enter Tryd.func66, Tryd.ntmps66
    go_wp2
    go_ret
    exact ⟨by first | rfl | simp | simp [*] | simp [bne_nil_], by repeat (first | exact Drawn0.refl _ | apply Drawn0.step)⟩
   ·rw [if_neg c5] at H
    exact absurd H (by simp)
  ·rw [if_neg c4] at H
   exact absurd H (by simp)
 ·rw [if_neg c3] at H
  have c3b0 : decide ((a1.size : Int) ≤ (a0.size : Int)) = false := decide_eq_false c3
  have c3b1 : decide (a1.size ≤ a0.size) = false := decide_eq_false (fun h => c3 (Int.ofNat_le.mpr h))
  clear c3
  obtain rfl := Option.some.inj H
  go_enter Tryd.func66, Tryd.ntmps66
  go_wp2
  go_ret
  exact ⟨by first | rfl | simp | simp [*] | simp [bne_nil_], by repeat (first | exact Drawn0.refl _ | apply Drawn0.step)⟩

/-! ### strings_HasPrefix: function 44 -/
def strings_HasPrefix.f (a0 : ByteArray) (a1 : ByteArray) : Option (Bool) := (stringslite_HasPrefix.f a0 a1).bind fun t198 => (some t198)
set_option maxHeartbeats 8000000 in
set_option maxRecDepth 100000 in
theorem strings_HasPrefix.calls (a0 : ByteArray) (a1 : ByteArray) (r : Bool) (w : World) (h : strings_HasPrefix.f a0 a1 = some r) :
  Calls Tryd.prog 44 #[.string a0, .string a1] w fun e w' => e = .returned (.bool r) ∧ Drawn0 w w' := by
 have H : ((stringslite_HasPrefix.f a0 a1).bind fun t198 => (some t198)) = some r := h
 clear h
 replace H := Option.bind_eq_some_iff.mp H
 obtain ⟨t198, A30, H⟩ := H
 replace H : (some t198) = some r := H
 have A3 := Aside0.mk A30
 clear A30
 obtain rfl := Option.some.inj H
 go_enter Tryd.func44, Tryd.ntmps44
 go_wp2_with (first | ((with_reducible refine gate_callee (f := 66) rfl ?_); refine gm_ (some 7) Tryd.func66 #[.string a0, .string a1] ?_; (with_reducible refine (stringslite_HasPrefix.calls a0 a1 t198 _ A3.out).mono ?_); rintro e w' ⟨rfl, ⟨nd, rfl⟩⟩; refine ⟨_, rfl, ?_⟩))
 go_ret
 exact ⟨by first | rfl | simp | simp [*] | simp [bne_nil_], by repeat (first | exact Drawn0.refl _ | apply Drawn0.step)⟩

end Go.Proofs.YtddoidcbpcmlaaaDoor.M
/- event.extra: the program's, walked. (By hand.) -/
namespace Go.Proofs.YtddoidcbpcmlaaaDoor.ExtF
open Go.RowKit Go.Proofs.YtddoidcbpcmlaaaDoorW.PrintWords Go.Proofs.YtddoidcbpcmlaaaDoorW.PrintLast Go.Proofs.YtddoidcbpcmlaaaDoor.M Go.Proofs.YtddoidcbpcmlaaaDoor.Cln Go.Proofs.YtddoidcbpcmlaaaDoor.LinF
open Go.Proofs.YtddoidcbpcmlaaaDoor.LinG (Sz)
set_option linter.unusedVariables false
set_option linter.unusedSimpArgs false
/-- Does a name begin as it should? -/
def pre (s : ByteArray) : Bool := decide (2 ≤ s.size) && ((s.extract 0 2).toList == (⟨#[88, 45]⟩ : ByteArray).toList)
theorem preV (s : ByteArray) : strings_HasPrefix.f s ⟨#[88, 45]⟩ = some (pre s) := by
 unfold strings_HasPrefix.f stringslite_HasPrefix.f pre
 have e : (((⟨#[88, 45]⟩ : ByteArray).size : Nat) : Int) = 2 := rfl
 rw [e]
 by_cases c : 2 ≤ s.size
 ·rw [if_pos (by omega), if_pos (by omega), if_pos (by omega), decide_eq_true c]
  rfl
 ·rw [if_neg (by omega), decide_eq_false c]
  rfl
def one (x : LL) : Bool := lineB x && pre x.f0
def extraB (ls : List LL) : Bool := ls.all one && decide (ls.length ≤ 60)
theorem no {ls : List LL} {i : Nat} (hi : i < ls.length) (h : one ls[i] = false) : extraB ls = false := by
 unfold extraB
 have : ls.all one = false := by
  cases q : ls.all one with
  | false => rfl
  | true => have := List.all_eq_true.1 q _ (List.getElem_mem hi); rw [h] at this; cases this
 rw [this]
 rfl
set_option maxHeartbeats 4000000 in
set_option maxRecDepth 100000 in
theorem extra (ls : List LL) (A : Option Addr) (c : Nat) (w : World) (hC : Kd.C k58 w A ls.length ls) (hl : ls.length ≤ 1000000) (hs : ∀ x ∈ ls, Sz x) (hT : Tabs w) :
  Calls Tryd.prog 21 #[.slice A ls.length c] w fun e w' => e = .returned (.bool (extraB ls)) ∧ Below w.heap.size w w' := by
 have HC := Aside0.mk hC; have HL := Aside0.mk hl; have HS := Aside0.mk hs; have HT := Aside0.mk hT
 clear hC hl hs hT
 go_enter Tryd.func21, Tryd.ntmps21
 go_wp2_with fail
 go_loopg [7] ls.length (fun kq v w' => ∃ (i : Nat) (X : Int), v = .int .i64 X ∧ Aside0 (X = (i : Int)) ∧ Aside0 (i + kq = ls.length) ∧ Aside0 (∀ j : Nat, j < i → ∀ h : j < ls.length, one ls[j] = true) ∧ Aside0 (Below w.heap.size w w'))
 case atStart => exact ⟨0, 0, rfl, ⟨rfl⟩, ⟨by omega⟩, ⟨fun j hj => by omega⟩, ⟨Below.refl _ _⟩⟩
 case round =>
  obtain ⟨i, X, rfl, HX, HI, HU, HB⟩ := hrel
  cases gk with
  | zero =>
   have l1 : decide (X < (ls.length : Int)) = false := decide_eq_false (by have := HX.out; have := HI.out; omega)
   have AL := Aside0.mk (show ls.all one = true from List.all_eq_true.2 fun x hx => by
    obtain ⟨j, hj, rfl⟩ := List.getElem_of_mem hx
    exact HU.out j (by have := HI.out; omega) hj)
   go_wp2_with fail
   go_ret
   refine ⟨?_, HB.out⟩
   unfold extraB
   rw [AL.out, Bool.true_and, show decide (ls.length ≤ 60) = decide ((ls.length : Int) ≤ 60) from decide_eq_decide.2 (by omega)]
   rfl
  | succ k1 =>
   have hi : i < ls.length := by have := HI.out; omega
   have l1 : decide (X < (ls.length : Int)) = true := decide_eq_true (by have := HX.out; have := HI.out; omega)
   have nx : wrap64 (X + 1) = X + 1 := by have := HX.out; have := HI.out; have := HL.out; unfold wrap64; omega
   have p1 : 0 ≤ X := by have := HX.out; omega
   have q1 : X < (ls.length : Int) := by have := HX.out; omega
   obtain ⟨ad, B1, b1, rfl, y0, y1, y2, ly, gy⟩ := at_T58 (Kd.C_below HC.out HB.out) X p1 q1
   have hxi : rd_T58 ls X = ls[i] := by simp [rd_T58, HX.out, hi]
   have hsz := HS.out _ (List.getElem_mem hi)
   rw [hxi] at y0 y1 y2 ly gy
   obtain ⟨x, hx⟩ : ∃ x, ls[i] = x := ⟨_, rfl⟩
   have SE := Aside0.mk (show ∀ h : i < ls.length, ls[i] = x from fun _ => hx)
   rw [hx] at y0 y1 y2 ly gy hsz
   have LY := Aside0.mk ly; have GY := Aside0.mk gy; have SZ := Aside0.mk hsz; have HIL := Aside0.mk hi
   replace p1 := eq_true p1; replace q1 := eq_true q1
   clear ly gy hsz hxi hx hi
   go_upto_region 4 with fail
   have hbq : Below wr.heap.size wr (wr.alloc (.cells #[.string x.f0, .slice B1 x.f1.length b1, .string x.f2] 58 (0, 0))) := below_alloc (Below.refl _ _) _
   have PB := Aside0.mk (blk_new wr (.cells #[.string x.f0, .slice B1 x.f1.length b1, .string x.f2] 58 (0, 0)))
   have HN := Aside0.mk hbq
   clear y0 y1 y2 hbq
   generalize wr.alloc (.cells #[.string x.f0, .slice B1 x.f1.length b1, .string x.f2] 58 (0, 0)) = wa at PB HN ⊢
   have z0 : wa.cell? ⟨wr.heap.size, 0, none⟩ = some (.string x.f0) := (blk_cell PB.out 0).trans rfl
   have z1 : wa.cell? ⟨wr.heap.size, 1, none⟩ = some (.slice B1 x.f1.length b1) := (blk_cell PB.out 1).trans rfl
   have z2 : wa.cell? ⟨wr.heap.size, 2, none⟩ = some (.string x.f2) := (blk_cell PB.out 2).trans rfl
   go_wp2_with fail
   refine (LinG.formed x B1 b1 wa (Kd.C_below GY.out HN.out) LY.out SZ.out (HT.out.below (below_then HB.out HB.out.size HN.out))).mono ?_
   rintro q w1 ⟨rfl, hb⟩
   replace z0 := pw_cell_below hb z0
   replace HN := Aside0.mk (below_then HN.out HN.out.size hb)
   clear hb z1 z2 PB
   rcases hlb : lineB x with _ | _
   ·have PB := Aside0.mk hlb
    clear hlb
    go_wp2_with fail
    go_ret
    exact ⟨by rw [no HIL.out (by rw [SE.out]; unfold one; rw [PB.out]; rfl)] <;> rfl, below_then HB.out HB.out.size HN.out⟩
   have PB := Aside0.mk hlb
   clear hlb
   go_wp2_with fail
   refine (strings_HasPrefix.calls x.f0 ⟨#[88, 45]⟩ (pre x.f0) w1 (preV x.f0)).mono ?_
   rintro q w2 ⟨rfl, hb⟩
   replace HN := Aside0.mk (below_then HN.out HN.out.size hb.below)
   clear hb z0
   rcases hpr : pre x.f0 with _ | _
   ·have DV := Aside0.mk hpr
    clear hpr
    go_wp2_with fail
    go_ret
    exact ⟨by rw [no HIL.out (by rw [SE.out]; unfold one; rw [PB.out, DV.out]; rfl)] <;> rfl, below_then HB.out HB.out.size HN.out⟩
   ·have DV := Aside0.mk hpr
    clear hpr
    go_wp2_with fail
    go_roundg k1
    case measure => omega
    case rel =>
     refine ⟨i + 1, X + 1, by simp [nx], ⟨by have := HX.out; push_cast; omega⟩, ⟨by have := HI.out; omega⟩, ⟨fun j hj h => ?_⟩, ⟨below_then HB.out HB.out.size HN.out⟩⟩
     by_cases e : j = i
     ·subst e
      rw [SE.out h]
      unfold one
      rw [PB.out, DV.out]
      rfl
     ·exact HU.out j (by omega) h
end Go.Proofs.YtddoidcbpcmlaaaDoor.ExtF
/- event.text and event.Formed walked. (Written by gen_evf.py.) -/
namespace Go.Proofs.YtddoidcbpcmlaaaDoor.EvF
open Go.RowKit Go.Proofs.YtddoidcbpcmlaaaDoorW.PrintWords Go.Proofs.YtddoidcbpcmlaaaDoorW.PrintLast Go.Proofs.YtddoidcbpcmlaaaDoor.M Go.Proofs.YtddoidcbpcmlaaaDoor.Fr Go.Proofs.YtddoidcbpcmlaaaDoor.Ru
open Go.Proofs.YtddoidcbpcmlaaaDoor.SetC (range_of Sv Sp sagg OkS)
open Go.Proofs.YtddoidcbpcmlaaaDoor.EvC (Ev Ep eagg OkE)
open Go.Proofs.YtddoidcbpcmlaaaDoor.Cln (Tabs clF clean)
set_option linter.unusedVariables false
set_option linter.unusedSimpArgs false
def textB (s : ByteArray) : Bool := (clF s true == 0) && decide ((s.size : Int) ≤ 500)
def prB (s : ByteArray) : Bool := People.pr s.data.toList
def adB (s : ByteArray) : Bool := People.ad s
def crB (a : Int) : Bool := decide (86400 ≤ a) && decide (a < 315537984000)
set_option maxHeartbeats 4000000 in
set_option maxRecDepth 100000 in
theorem text (s : ByteArray) (w : World) (hs : s.size ≤ 9223372036854775807) (hT : Tabs w) :
  Calls Tryd.prog 18 #[.string s] w fun e w' => e = .returned (.bool (textB s)) ∧ Below w.heap.size w w' := by
 go_enter Tryd.func18, Tryd.ntmps18
 go_wp2_with fail
 refine (clean s true w hs hT).mono ?_
 rintro q w1 ⟨rfl, hb⟩
 have HB := Aside0.mk hb
 clear hb hT
 rcases h : (clF s true == 0) with _ | _
 ·have H := Aside0.mk h
  go_wp2_with fail
  go_ret
  exact ⟨by unfold textB; rw [H.out] <;> rfl, HB.out⟩
 ·have H := Aside0.mk h
  go_wp2_with fail
  go_ret
  exact ⟨by unfold textB; rw [H.out] <;> rfl, HB.out⟩
theorem prV (s : ByteArray) (hs : s.size ≤ 9223372036854775807) : event_printable.f (s.size + 1) s = some (prB s) := by
 have e : s.data.toList.length = s.size := Array.length_toList ..
 have h := People.prV s.data.toList (by rw [e]; exact hs) (s.size + 1) (by rw [e]; exact Nat.le_refl _)
 rwa [← People.ofL] at h
theorem prC (s : ByteArray) (hs : s.size ≤ 9223372036854775807) (w : World) : Calls Tryd.prog 13 #[.string s] w fun e w' => e = .returned (.bool (prB s)) ∧ Below w.heap.size w w' :=
 (event_printable.calls (s.size + 1) s (prB s) w (prV s hs)).mono fun e w' h => ⟨h.1, by first | exact h.2 | exact h.2.below⟩
theorem adC (s : ByteArray) (hs : s.size ≤ 9223372036854775807) (w : World) : Calls Tryd.prog 9 #[.string s] w fun e w' => e = .returned (.bool (adB s)) ∧ Below w.heap.size w w' :=
 (event_Address.calls (2 * s.size + 2) s (adB s) w (People.ad1 s hs _ (Nat.le_refl _))).mono fun e w' h => ⟨h.1, by first | exact h.2 | exact h.2.below⟩
theorem crC (a : Int) (w : World) : Calls Tryd.prog 14 #[.int .i64 a] w fun e w' => e = .returned (.bool (crB a)) ∧ Below w.heap.size w w' :=
 (clock_Right.calls a (crB a) w (Right.cRight a)).mono fun e w' h => ⟨h.1, by first | exact h.2 | exact h.2.below⟩
/-- The sizes of an event's texts and lists. -/
structure Sz (v : Ev) : Prop where
 uid : v.uid.size ≤ 9223372036854775807
 set : SetF.Sz v.set
 ls : UnF.ls v.set.r ≤ 10000000
 sum : v.sum.size ≤ 9223372036854775807
 com : v.com.size ≤ 9223372036854775807
 org : v.org.size ≤ 9223372036854775807
 ps : ∀ p ∈ v.ps, PeF.Fit p
 part : v.part.f2.size ≤ 9223372036854775807
 exl : v.ex.length ≤ 1000000
 ex : ∀ x ∈ v.ex, LinG.Sz x
def evB (v : Ev) : Bool := prB v.uid && (decide (v.seq ≥ 0) && (decide (v.seq ≤ 1000000) && (crB v.stamp && (SetF.setB v.set && (UnF.unB v.set && (UnF.lenB v && (textB v.sum && (textB v.com && (decide (v.sta ≥ 0) && (decide (v.sta ≤ 3) && (adB v.org && (PeF.peopleB v.ps && (UnF.partB v && (ExtF.extraB v.ex))))))))))))))
set_option maxHeartbeats 8000000 in
set_option maxRecDepth 100000 in
theorem formed (v : Ev) (p : Ep) (w : World) (ok : OkE v p w) (hz : Sz v) (hT : Tabs w) :
  Calls Tryd.prog 6 #[.agg (eagg v p)] w fun e w' => e = .returned (.bool (evB v)) ∧ Below w.heap.size w w' := by
 have OK := Aside0.mk ok; have HZ := Aside0.mk hz; have HT := Aside0.mk hT
 clear ok hz hT
 go_enter Tryd.func6, Tryd.ntmps6
 go_upto_region 1 with fail
 obtain ⟨w0, hw0, z0⟩ : ∃ w0, w0 = w.alloc (.cells (eagg v p) 41 (0, 0)) ∧ w0.heap[w.heap.size]? = some (.cells (eagg v p) 41 (0, 0)) ∧ Below w.heap.size w w0 := ⟨_, rfl, blk_new _ _, below_alloc (Below.refl _ _) _⟩
 have K1 := Aside0.mk z0.1; have HB := Aside0.mk z0.2
 rw [← hw0]
 clear hw0 z0
 simp only [List.append_eq, List.cons_append, List.nil_append]
 have x0 : w0.cell? ⟨w.heap.size, 0, none⟩ = some (.string v.uid) := (blk_cell K1.out 0).trans rfl
 have x1 : w0.cell? ⟨w.heap.size, 1, none⟩ = some (.int .i64 v.seq) := (blk_cell K1.out 1).trans rfl
 have x2 : w0.cell? ⟨w.heap.size, 2, none⟩ = some (.int .i64 v.stamp) := (blk_cell K1.out 2).trans rfl
 have x27 : w0.cell? ⟨w.heap.size, 27, none⟩ = some (.string v.sum) := (blk_cell K1.out 27).trans rfl
 have x28 : w0.cell? ⟨w.heap.size, 28, none⟩ = some (.string v.com) := (blk_cell K1.out 28).trans rfl
 have x29 : w0.cell? ⟨w.heap.size, 29, none⟩ = some (.int .i64 v.sta) := (blk_cell K1.out 29).trans rfl
 have x30 : w0.cell? ⟨w.heap.size, 30, none⟩ = some (.string v.org) := (blk_cell K1.out 30).trans rfl
 have x31 : w0.cell? ⟨w.heap.size, 31, none⟩ = some (.slice p.Ap v.ps.length p.cp) := (blk_cell K1.out 31).trans rfl
 have x37 : w0.cell? ⟨w.heap.size, 37, none⟩ = some (.slice p.Ax v.ex.length p.cx) := (blk_cell K1.out 37).trans rfl
 go_wp2_with fail
 refine (prC v.uid HZ.out.uid w0).mono ?_
 rintro q w1 ⟨rfl, hb⟩
 replace K1 := Aside0.mk (blk_below K1.out hb); replace HB := Aside0.mk (below_then HB.out HB.out.size hb)
 replace x0 := pw_cell_below hb x0
 replace x1 := pw_cell_below hb x1
 replace x2 := pw_cell_below hb x2
 replace x27 := pw_cell_below hb x27
 replace x28 := pw_cell_below hb x28
 replace x29 := pw_cell_below hb x29
 replace x30 := pw_cell_below hb x30
 replace x31 := pw_cell_below hb x31
 replace x37 := pw_cell_below hb x37
 clear hb
 rcases h_ : prB v.uid with _ | _
 ·have B1 := Aside0.mk h_
  clear h_
  go_wp2_with fail
  go_ret
  exact ⟨by unfold evB; rw [B1.out] <;> rfl, HB.out⟩
 have B1 := Aside0.mk h_
 clear h_
 rcases h_ : decide (v.seq ≥ 0) with _ | _
 ·have B2 := Aside0.mk h_
  go_wp2_with fail
  go_ret
  exact ⟨by unfold evB; rw [B1.out, B2.out] <;> rfl, HB.out⟩
 have B2 := Aside0.mk h_
 have h1_ := h_
 clear h_
 rcases h_ : decide (v.seq ≤ 1000000) with _ | _
 ·have B3 := Aside0.mk h_
  go_wp2_with fail
  go_ret
  exact ⟨by unfold evB; rw [B1.out, B2.out, B3.out] <;> rfl, HB.out⟩
 have B3 := Aside0.mk h_
 have h2_ := h_
 clear h_
 go_wp2_with fail
 refine (crC v.stamp w1).mono ?_
 rintro q w2 ⟨rfl, hb⟩
 replace K1 := Aside0.mk (blk_below K1.out hb); replace HB := Aside0.mk (below_then HB.out HB.out.size hb)
 replace x0 := pw_cell_below hb x0
 replace x1 := pw_cell_below hb x1
 replace x2 := pw_cell_below hb x2
 replace x27 := pw_cell_below hb x27
 replace x28 := pw_cell_below hb x28
 replace x29 := pw_cell_below hb x29
 replace x30 := pw_cell_below hb x30
 replace x31 := pw_cell_below hb x31
 replace x37 := pw_cell_below hb x37
 clear hb
 rcases h_ : crB v.stamp with _ | _
 ·have B4 := Aside0.mk h_
  clear h_
  go_wp2_with fail
  go_ret
  exact ⟨by unfold evB; rw [B1.out, B2.out, B3.out, B4.out] <;> rfl, HB.out⟩
 have B4 := Aside0.mk h_
 clear h_
 go_wp2_with ((with_reducible refine gate_ (.load 38 (.tmp 22)) rfl ?_); (try (refine gate_guard (by rfl) ?_; dsimp only)); refine wpList_load_mid rfl 38 (.tmp 22) rfl w.heap.size 3 rfl (sagg v.set p.sp).toList _ (range_of K1.out 3 _ _ rfl) Tryd.underlying38 rfl (by kernel_rfl) ?_)
 refine (SetF.formed v.set p.sp w2 (OK.out.below HB.out).s HZ.out.set).mono ?_
 rintro q w3 ⟨rfl, hb⟩
 replace K1 := Aside0.mk (blk_below K1.out hb); replace HB := Aside0.mk (below_then HB.out HB.out.size hb)
 replace x0 := pw_cell_below hb x0
 replace x1 := pw_cell_below hb x1
 replace x2 := pw_cell_below hb x2
 replace x27 := pw_cell_below hb x27
 replace x28 := pw_cell_below hb x28
 replace x29 := pw_cell_below hb x29
 replace x30 := pw_cell_below hb x30
 replace x31 := pw_cell_below hb x31
 replace x37 := pw_cell_below hb x37
 clear hb
 rcases h_ : SetF.setB v.set with _ | _
 ·have B5 := Aside0.mk h_
  clear h_
  go_wp2_with fail
  go_ret
  exact ⟨by unfold evB; rw [B1.out, B2.out, B3.out, B4.out, B5.out] <;> rfl, HB.out⟩
 have B5 := Aside0.mk h_
 clear h_
 go_wp2_with ((with_reducible refine gate_ (.load 38 (.tmp 27)) rfl ?_); (try (refine gate_guard (by rfl) ?_; dsimp only)); refine wpList_load_mid rfl 38 (.tmp 27) rfl w.heap.size 3 rfl (sagg v.set p.sp).toList _ (range_of K1.out 3 _ _ rfl) Tryd.underlying38 rfl (by kernel_rfl) ?_)
 refine (UnF.unused v.set p.sp w3 HZ.out.ls).mono ?_
 rintro q w4 ⟨rfl, hb⟩
 replace K1 := Aside0.mk (blk_below K1.out hb); replace HB := Aside0.mk (below_then HB.out HB.out.size hb)
 replace x0 := pw_cell_below hb x0
 replace x1 := pw_cell_below hb x1
 replace x2 := pw_cell_below hb x2
 replace x27 := pw_cell_below hb x27
 replace x28 := pw_cell_below hb x28
 replace x29 := pw_cell_below hb x29
 replace x30 := pw_cell_below hb x30
 replace x31 := pw_cell_below hb x31
 replace x37 := pw_cell_below hb x37
 clear hb
 rcases h_ : UnF.unB v.set with _ | _
 ·have B6 := Aside0.mk h_
  clear h_
  go_wp2_with fail
  go_ret
  exact ⟨by unfold evB; rw [B1.out, B2.out, B3.out, B4.out, B5.out, B6.out] <;> rfl, HB.out⟩
 have B6 := Aside0.mk h_
 clear h_
 go_wp2_with ((with_reducible refine gate_ (.load 41 (.tmp 1)) rfl ?_); (try (refine gate_guard (by rfl) ?_; dsimp only)); refine Kd.event_run rfl (EvC.xR (.tmp 1) w.heap.size v p rfl rfl _ K1.out) ?_)
 refine (UnF.length_ v p w4).mono ?_
 rintro q w5 ⟨rfl, hb⟩
 replace K1 := Aside0.mk (blk_below K1.out hb); replace HB := Aside0.mk (below_then HB.out HB.out.size hb)
 replace x0 := pw_cell_below hb x0
 replace x1 := pw_cell_below hb x1
 replace x2 := pw_cell_below hb x2
 replace x27 := pw_cell_below hb x27
 replace x28 := pw_cell_below hb x28
 replace x29 := pw_cell_below hb x29
 replace x30 := pw_cell_below hb x30
 replace x31 := pw_cell_below hb x31
 replace x37 := pw_cell_below hb x37
 clear hb
 rcases h_ : UnF.lenB v with _ | _
 ·have B7 := Aside0.mk h_
  clear h_
  go_wp2_with fail
  go_ret
  exact ⟨by unfold evB; rw [B1.out, B2.out, B3.out, B4.out, B5.out, B6.out, B7.out] <;> rfl, HB.out⟩
 have B7 := Aside0.mk h_
 clear h_
 go_wp2_with fail
 refine (text v.sum w5 HZ.out.sum (HT.out.below HB.out)).mono ?_
 rintro q w6 ⟨rfl, hb⟩
 replace K1 := Aside0.mk (blk_below K1.out hb); replace HB := Aside0.mk (below_then HB.out HB.out.size hb)
 replace x0 := pw_cell_below hb x0
 replace x1 := pw_cell_below hb x1
 replace x2 := pw_cell_below hb x2
 replace x27 := pw_cell_below hb x27
 replace x28 := pw_cell_below hb x28
 replace x29 := pw_cell_below hb x29
 replace x30 := pw_cell_below hb x30
 replace x31 := pw_cell_below hb x31
 replace x37 := pw_cell_below hb x37
 clear hb
 rcases h_ : textB v.sum with _ | _
 ·have B8 := Aside0.mk h_
  clear h_
  go_wp2_with fail
  go_ret
  exact ⟨by unfold evB; rw [B1.out, B2.out, B3.out, B4.out, B5.out, B6.out, B7.out, B8.out] <;> rfl, HB.out⟩
 have B8 := Aside0.mk h_
 clear h_
 go_wp2_with fail
 refine (text v.com w6 HZ.out.com (HT.out.below HB.out)).mono ?_
 rintro q w7 ⟨rfl, hb⟩
 replace K1 := Aside0.mk (blk_below K1.out hb); replace HB := Aside0.mk (below_then HB.out HB.out.size hb)
 replace x0 := pw_cell_below hb x0
 replace x1 := pw_cell_below hb x1
 replace x2 := pw_cell_below hb x2
 replace x27 := pw_cell_below hb x27
 replace x28 := pw_cell_below hb x28
 replace x29 := pw_cell_below hb x29
 replace x30 := pw_cell_below hb x30
 replace x31 := pw_cell_below hb x31
 replace x37 := pw_cell_below hb x37
 clear hb
 rcases h_ : textB v.com with _ | _
 ·have B9 := Aside0.mk h_
  clear h_
  go_wp2_with fail
  go_ret
  exact ⟨by unfold evB; rw [B1.out, B2.out, B3.out, B4.out, B5.out, B6.out, B7.out, B8.out, B9.out] <;> rfl, HB.out⟩
 have B9 := Aside0.mk h_
 clear h_
 rcases h_ : decide (v.sta ≥ 0) with _ | _
 ·have B10 := Aside0.mk h_
  go_wp2_with fail
  go_ret
  exact ⟨by unfold evB; rw [B1.out, B2.out, B3.out, B4.out, B5.out, B6.out, B7.out, B8.out, B9.out, B10.out] <;> rfl, HB.out⟩
 have B10 := Aside0.mk h_
 have h9_ := h_
 clear h_
 rcases h_ : decide (v.sta ≤ 3) with _ | _
 ·have B11 := Aside0.mk h_
  go_wp2_with fail
  go_ret
  exact ⟨by unfold evB; rw [B1.out, B2.out, B3.out, B4.out, B5.out, B6.out, B7.out, B8.out, B9.out, B10.out, B11.out] <;> rfl, HB.out⟩
 have B11 := Aside0.mk h_
 have h10_ := h_
 clear h_
 go_wp2_with fail
 refine (adC v.org HZ.out.org w7).mono ?_
 rintro q w8 ⟨rfl, hb⟩
 replace K1 := Aside0.mk (blk_below K1.out hb); replace HB := Aside0.mk (below_then HB.out HB.out.size hb)
 replace x0 := pw_cell_below hb x0
 replace x1 := pw_cell_below hb x1
 replace x2 := pw_cell_below hb x2
 replace x27 := pw_cell_below hb x27
 replace x28 := pw_cell_below hb x28
 replace x29 := pw_cell_below hb x29
 replace x30 := pw_cell_below hb x30
 replace x31 := pw_cell_below hb x31
 replace x37 := pw_cell_below hb x37
 clear hb
 rcases h_ : adB v.org with _ | _
 ·have B12 := Aside0.mk h_
  clear h_
  go_wp2_with fail
  go_ret
  exact ⟨by unfold evB; rw [B1.out, B2.out, B3.out, B4.out, B5.out, B6.out, B7.out, B8.out, B9.out, B10.out, B11.out, B12.out] <;> rfl, HB.out⟩
 have B12 := Aside0.mk h_
 clear h_
 go_wp2_with fail
 refine (PeF.people v.ps p.Ap p.cp w8 (OK.out.below HB.out).hp OK.out.dp HZ.out.ps).mono ?_
 rintro q w9 ⟨rfl, hb⟩
 replace K1 := Aside0.mk (blk_below K1.out hb); replace HB := Aside0.mk (below_then HB.out HB.out.size hb)
 replace x0 := pw_cell_below hb x0
 replace x1 := pw_cell_below hb x1
 replace x2 := pw_cell_below hb x2
 replace x27 := pw_cell_below hb x27
 replace x28 := pw_cell_below hb x28
 replace x29 := pw_cell_below hb x29
 replace x30 := pw_cell_below hb x30
 replace x31 := pw_cell_below hb x31
 replace x37 := pw_cell_below hb x37
 clear hb
 rcases h_ : PeF.peopleB v.ps with _ | _
 ·have B13 := Aside0.mk h_
  clear h_
  go_wp2_with fail
  go_ret
  exact ⟨by unfold evB; rw [B1.out, B2.out, B3.out, B4.out, B5.out, B6.out, B7.out, B8.out, B9.out, B10.out, B11.out, B12.out, B13.out] <;> rfl, HB.out⟩
 have B13 := Aside0.mk h_
 clear h_
 go_wp2_with ((with_reducible refine gate_ (.load 41 (.tmp 1)) rfl ?_); (try (refine gate_guard (by rfl) ?_; dsimp only)); refine Kd.event_run rfl (EvC.xR (.tmp 1) w.heap.size v p rfl rfl _ K1.out) ?_)
 refine (UnF.part_ v p w9 HZ.out.part).mono ?_
 rintro q w10 ⟨rfl, hb⟩
 replace K1 := Aside0.mk (blk_below K1.out hb); replace HB := Aside0.mk (below_then HB.out HB.out.size hb)
 replace x0 := pw_cell_below hb x0
 replace x1 := pw_cell_below hb x1
 replace x2 := pw_cell_below hb x2
 replace x27 := pw_cell_below hb x27
 replace x28 := pw_cell_below hb x28
 replace x29 := pw_cell_below hb x29
 replace x30 := pw_cell_below hb x30
 replace x31 := pw_cell_below hb x31
 replace x37 := pw_cell_below hb x37
 clear hb
 rcases h_ : UnF.partB v with _ | _
 ·have B14 := Aside0.mk h_
  clear h_
  go_wp2_with fail
  go_ret
  exact ⟨by unfold evB; rw [B1.out, B2.out, B3.out, B4.out, B5.out, B6.out, B7.out, B8.out, B9.out, B10.out, B11.out, B12.out, B13.out, B14.out] <;> rfl, HB.out⟩
 have B14 := Aside0.mk h_
 clear h_
 go_wp2_with fail
 refine (ExtF.extra v.ex p.Ax p.cx w10 (OK.out.below HB.out).hx HZ.out.exl HZ.out.ex (HT.out.below HB.out)).mono ?_
 rintro q w11 ⟨rfl, hb⟩
 replace K1 := Aside0.mk (blk_below K1.out hb); replace HB := Aside0.mk (below_then HB.out HB.out.size hb)
 replace x0 := pw_cell_below hb x0
 replace x1 := pw_cell_below hb x1
 replace x2 := pw_cell_below hb x2
 replace x27 := pw_cell_below hb x27
 replace x28 := pw_cell_below hb x28
 replace x29 := pw_cell_below hb x29
 replace x30 := pw_cell_below hb x30
 replace x31 := pw_cell_below hb x31
 replace x37 := pw_cell_below hb x37
 clear hb
 rcases h_ : ExtF.extraB v.ex with _ | _
 ·have B15 := Aside0.mk h_
  clear h_
  go_wp2_with fail
  go_ret
  exact ⟨by unfold evB; rw [B1.out, B2.out, B3.out, B4.out, B5.out, B6.out, B7.out, B8.out, B9.out, B10.out, B11.out, B12.out, B13.out, B14.out, B15.out] <;> rfl, HB.out⟩
 ·have B15 := Aside0.mk h_
  clear h_
  go_wp2_with fail
  go_ret
  exact ⟨by unfold evB; rw [B1.out, B2.out, B3.out, B4.out, B5.out, B6.out, B7.out, B8.out, B9.out, B10.out, B11.out, B12.out, B13.out, B14.out, B15.out] <;> rfl, HB.out⟩
end Go.Proofs.YtddoidcbpcmlaaaDoor.EvF
