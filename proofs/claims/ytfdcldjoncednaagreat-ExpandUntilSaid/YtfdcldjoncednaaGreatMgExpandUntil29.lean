/- Texts of this claim, merged: RefP. -/
import Derived.Test.YtfdcldjoncednaaGreatMgExpandUntil28
import Derived.Test.YtfdcldjoncednaaGreatMgExpandUntil10
import Derived.Test.YtfdcldjoncednaaGreatMgExpandUntil23
/- trystref14.Period: a rule as one thing (Ru). -/
namespace Go.Proofs.YtfdcldjoncednaaGreat.RefP
open Go.RowKit Go.Proofs.YtfdcldjoncednaaGreatW.PrintWords Go.Proofs.YtfdcldjoncednaaGreatW.PrintLast Go.Proofs.YtfdcldjoncednaaGreatW.PrintMore Go.Proofs.YtfdcldjoncednaaGreat.M Go.Proofs.YtfdcldjoncednaaGreat.Ru
set_option linter.unusedVariables false
set_option linter.unusedSimpArgs false
/-- The period of a day, by the document (w1, w2: with which days the weeks begin). -/
def perR (r : Ru) (b d ay am dy dm w1 w2 : Int) : Int := if r.a0 = 1 then wrap64 (d - b) else if r.a0 = 2 then wrap64 (Int.tdiv (wrap64 (w1 - w2)) 7) else if r.a0 = 3 then wrap64 (wrap64 (wrap64 (12 * wrap64 (dy - ay)) + dm) - am) else wrap64 (dy - ay)
set_option maxHeartbeats 4000000 in
set_option maxRecDepth 100000 in
theorem period (k : Nat) (r : Ru) (p : Rp) (b d ay am ad dy dm dd w1 w2 : Int) (w : World) (h1 : trystref14_date.f k b = some (ay, am, ad)) (h2 : trystref14_date.f k d = some (dy, dm, dd)) (h3 : trystref14_Begin.f k d r.a7 = some w1) (h4 : trystref14_Begin.f k b r.a7 = some w2) :
  Calls Tryz.prog 11 #[.agg (agg r p), .int .i64 b, .int .i64 d] w fun e w' => e = .returned (.int .i64 (perR r b d ay am dy dm w1 w2)) ∧ Below w.heap.size w w' := by
 have H1 := Aside0.mk h1; have H2 := Aside0.mk h2; have H3 := Aside0.mk h3; have H4 := Aside0.mk h4; clear h1 h2 h3 h4
 have HK := Aside0.mk (blk_new w (obj r p))
 have HB := Aside0.mk (below_alloc (Below.refl w.heap.size w) (obj r p))
 go_enter Tryz.func11, Tryz.ntmps11
 go_upto_region 1 with fail
 generalize w.alloc (obj r p) = w0 at HK HB ⊢
 go_wp2_with fail
 refine (trystref14_date.calls k b ay am ad _ H1.out).mono ?_
 rintro e wa ⟨rfl, hb⟩
 replace HK := Aside0.mk (blk_below HK.out hb)
 replace HB := Aside0.mk (below_then HB.out HB.out.size hb)
 clear hb
 go_wp2_with fail
 refine (trystref14_date.calls k d dy dm dd _ H2.out).mono ?_
 rintro e wb ⟨rfl, hb⟩
 replace HK := Aside0.mk (blk_below HK.out hb)
 replace HB := Aside0.mk (below_then HB.out HB.out.size hb)
 clear hb
 have kA : ∀ o o', ((wb.alloc o).alloc o').cell? ⟨w.heap.size, 0, none⟩ = some (.int .i64 r.a0) := fun o o' => pw_cell_below (below_alloc (below_alloc (Below.refl _ _) o) o') ((blk_cell HK.out 0).trans rfl)
 have kB : ∀ o o', ((wb.alloc o).alloc o').cell? ⟨w.heap.size, 7, none⟩ = some (.int .i64 r.a7) := fun o o' => pw_cell_below (below_alloc (below_alloc (Below.refl _ _) o) o') ((blk_cell HK.out 7).trans rfl)
 have HB2 := Aside0.mk (show ∀ o o', Below w.heap.size w ((wb.alloc o).alloc o') from fun o o' => below_alloc (below_alloc HB.out o) o')
 by_cases a : r.a0 = 1
 ·have a1 : (r.a0 == 1) = true := beq_iff_eq.2 a
  have A := Aside0.mk a; clear a
  go_wp2_with fail
  go_ret
  exact ⟨by simp [perR, A.out, i64_w], HB2.out _ _⟩
 have a1 : (r.a0 == 1) = false := beq_eq_false_iff_ne.2 a
 have A1 := Aside0.mk a; clear a
 by_cases a : r.a0 = 2
 ·have a1 : (r.a0 == 2) = true := beq_iff_eq.2 a
  have A := Aside0.mk a; clear a
  go_wp2_with fail
  go_quiet (first | (go_at_call 31; ((with_reducible refine (trystref14_Begin.calls k d r.a7 w1 _ H3.out).mono ?_); rintro e w' ⟨rfl, ⟨nd, rfl⟩⟩; (first | exact ⟨rfl, _, World.drewN_drewN _ _ _⟩ | exact ⟨rfl, _, Eq.trans (World.drewN_drewN _ _ _) (congrArg (World.drewN _) (Nat.add_assoc _ _ _))⟩))) | (go_at_call 31; ((with_reducible refine (trystref14_Begin.calls k b r.a7 w2 _ H4.out).mono ?_); rintro e w' ⟨rfl, ⟨nd, rfl⟩⟩; (first | exact ⟨rfl, _, World.drewN_drewN _ _ _⟩ | exact ⟨rfl, _, Eq.trans (World.drewN_drewN _ _ _) (congrArg (World.drewN _) (Nat.add_assoc _ _ _))⟩))))
  go_wp2_with fail
  go_ret
  exact ⟨by simp [perR, A.out, i64_w], pw_below_drewN (HB2.out _ _) _⟩
 have a2 : (r.a0 == 2) = false := beq_eq_false_iff_ne.2 a
 have A2 := Aside0.mk a; clear a
 by_cases a : r.a0 = 3
 ·have a1 : (r.a0 == 3) = true := beq_iff_eq.2 a
  have A := Aside0.mk a; clear a
  go_wp2_with fail
  go_ret
  exact ⟨by simp [perR, A.out, i64_w], HB2.out _ _⟩
 have a3 : (r.a0 == 3) = false := beq_eq_false_iff_ne.2 a
 have A3 := Aside0.mk a; clear a
 go_wp2_with fail
 go_ret
 exact ⟨by simp [perR, A1.out, A2.out, A3.out, i64_w], HB2.out _ _⟩
/-- Does a weekday of the rule's mean the day, by the document? -/
def hitR (d a b : Int) (e : S80) : Bool := (e.f1 == d % 7) && ((e.f0 == 0) || (e.f0 == a) || (e.f0 == -b))
def anyR (d a b : Int) (l : List S80) : Bool := (List.range l.length).any fun j => hitR d a b (rd_T80 l (j : Int))
theorem anyR_yes {d a b : Int} {l : List S80} {j : Nat} (hj : j < l.length) (h : hitR d a b (rd_T80 l (j : Int)) = true) : anyR d a b l = true := by
 unfold anyR; rw [List.any_eq_true]; exact ⟨j, List.mem_range.2 hj, h⟩
theorem anyR_no {d a b : Int} {l : List S80} (h : ∀ j : Nat, j < l.length → hitR d a b (rd_T80 l (j : Int)) = false) : anyR d a b l = false := by
 unfold anyR
 rw [← Bool.not_eq_true, List.any_eq_true]
 rintro ⟨j, hj, q⟩
 rw [h j (List.mem_range.1 hj)] at q
 cases q
set_option maxHeartbeats 8000000 in
set_option maxRecDepth 100000 in
theorem onDay (k : Nat) (r : Ru) (p : Rp) (d y m dd fy ny fm nm fr n s : Int) (A B : Nat → Int) (w : World) (ok : Ok r p w) (h1 : trystref14_date.f k d = some (y, m, dd)) (h2 : trystref01_Fixed.f k 0 y 1 1 = some fy) (h3 : trystref14_year.f k y = some ny) (h4 : MatD.inMonth r = true → trystref01_Fixed.f k 0 y m 1 = some fm) (h5 : MatD.inMonth r = true → trystref01_Length.f k 0 y m = some nm)
  (hr : fr = if MatD.inMonth r = true then fm else fy) (hn : n = if MatD.inMonth r = true then nm else ny) (hs : wrap64 (fr + n) = s) (n0 : 0 ≤ n) (n1 : n ≤ 400) (f0 : -100000000 ≤ fr) (f1 : fr ≤ 100000000) (hw : ∀ x : Int, -1000000000 ≤ x → x ≤ 1000000000 → trystref14_weekday.f x = some (x % 7)) (d0 : -1000000000 ≤ d) (d1 : d ≤ 1000000000)
  (hA : A 0 = 1) (hA1 : ∀ i, A (i + 1) = A i + (if (fr + (i : Int)) % 7 = d % 7 ∧ fr + (i : Int) < d then 1 else 0)) (hB : B 0 = 1) (hB1 : ∀ i, B (i + 1) = B i + (if (fr + (i : Int)) % 7 = d % 7 ∧ fr + (i : Int) > d then 1 else 0)) (hL : r.l11.length ≤ 40) :
  Calls Tryz.prog 81 #[.agg (agg r p), .int .i64 d] w fun e w' => e = .returned (.bool (anyR d (A n.toNat) (B n.toNat) r.l11)) ∧ Below w.heap.size w w' := by
 have AB := Aside0.mk (show ∀ i : Nat, (1 ≤ A i ∧ A i ≤ 1 + (i : Int)) ∧ (1 ≤ B i ∧ B i ≤ 1 + (i : Int)) from fun i => by
  induction i with
  | zero => rw [hA, hB]; omega
  | succ i ih => rw [hA1, hB1]; constructor <;> split <;> (push_cast; omega))
 have OK := Aside0.mk ok; clear ok
 have H1 := Aside0.mk h1; clear h1
 have H2 := Aside0.mk h2; clear h2
 have H3 := Aside0.mk h3; clear h3
 have H4 := Aside0.mk h4; clear h4
 have H5 := Aside0.mk h5; clear h5
 have HR := Aside0.mk hr; clear hr
 have HN := Aside0.mk hn; clear hn
 have HS := Aside0.mk hs; clear hs
 have N0 := Aside0.mk n0; clear n0
 have N1 := Aside0.mk n1; clear n1
 have F0 := Aside0.mk f0; clear f0
 have F1 := Aside0.mk f1; clear f1
 have HW := Aside0.mk hw; clear hw
 have D0 := Aside0.mk d0; clear d0
 have D1 := Aside0.mk d1; clear d1
 have HA := Aside0.mk hA; clear hA
 have HA1 := Aside0.mk hA1; clear hA1
 have HBb := Aside0.mk hB; clear hB
 have HB1 := Aside0.mk hB1; clear hB1
 have HL := Aside0.mk hL; clear hL
 have HK := Aside0.mk (blk_new w (obj r p))
 have HB := Aside0.mk (below_alloc (Below.refl w.heap.size w) (obj r p))
 go_enter Tryz.func81, Tryz.ntmps81
 go_upto_region 1 with fail
 generalize w.alloc (obj r p) = w0 at HK HB ⊢
 go_wp2_with fail
 refine (trystref14_date.calls k d y m dd _ H1.out).mono ?_
 rintro e wa ⟨rfl, hb⟩
 replace HK := Aside0.mk (blk_below HK.out hb)
 replace HB := Aside0.mk (below_then HB.out HB.out.size hb)
 clear hb
 go_upto_region 2 with fail
 have HD := Aside0.mk (blk_new wa (.cells #[.int .i64 y, .int .i64 m, .int .i64 dd] 61 (0, 0)))
 replace HK := Aside0.mk (blk_below HK.out (below_alloc (Below.refl _ _) (.cells #[.int .i64 y, .int .i64 m, .int .i64 dd] 61 (0, 0))))
 replace HB := Aside0.mk (below_alloc HB.out (.cells #[.int .i64 y, .int .i64 m, .int .i64 dd] 61 (0, 0)))
 generalize wa.alloc (.cells #[.int .i64 y, .int .i64 m, .int .i64 dd] 61 (0, 0)) = wb at HD HK HB ⊢
 generalize wa.heap.size = g at HD ⊢
 go_upto_region 2 with fail
 have c0 : wb.cell? ⟨g, 0, none⟩ = some (.int .i64 y) := (blk_cell HD.out 0).trans rfl
 go_quiet (first | (go_at_call 34; ((with_reducible refine (trystref01_Fixed.calls k 0 y 1 1 fy _ H2.out).mono ?_); rintro e w' ⟨rfl, ⟨nd, rfl⟩⟩; (first | exact ⟨rfl, _, World.drewN_drewN _ _ _⟩ | exact ⟨rfl, _, Eq.trans (World.drewN_drewN _ _ _) (congrArg (World.drewN _) (Nat.add_assoc _ _ _))⟩))) | (go_at_call 80; ((with_reducible refine (trystref14_year.calls k y ny _ H3.out).mono ?_); rintro e w' ⟨rfl, ⟨nd, rfl⟩⟩; (first | exact ⟨rfl, _, World.drewN_drewN _ _ _⟩ | exact ⟨rfl, _, Eq.trans (World.drewN_drewN _ _ _) (congrArg (World.drewN _) (Nat.add_assoc _ _ _))⟩))))
 rename_i nq
 replace HK := Aside0.mk (blk_drewN HK.out nq)
 replace HD := Aside0.mk (blk_drewN HD.out nq)
 replace HB := Aside0.mk (pw_below_drewN HB.out nq)
 clear c0
 generalize wb.drewN nq = wd at HK HD HB ⊢
 go_upto_region 3 with fail
 go_cut [29] (fun v wc => v = .bool (MatD.inMonth r) ∧ Aside0 (wc.heap[g]? = some (.cells #[.int .i64 y, .int .i64 m, .int .i64 dd] 61 (0, 0))) ∧ Aside0 (wc.heap[w.heap.size]? = some (obj r p)) ∧ Aside0 (Below w.heap.size w wc))
 case first =>
  have k0 : wd.cell? ⟨w.heap.size, 0, none⟩ = some (.int .i64 r.a0) := (blk_cell HK.out 0).trans rfl
  have k15 : wd.cell? ⟨w.heap.size, 15, none⟩ = some (.slice p.A15 r.l15.length p.c15) := (blk_cell HK.out 15).trans rfl
  obtain ⟨n15, hn15⟩ : ∃ n : Nat, r.l15.length = n := ⟨_, rfl⟩
  rw [hn15] at k15
  have IM := Aside0.mk (show MatD.inMonth r = ((r.a0 == 3) || decide ((n15 : Int) > 0)) by unfold MatD.inMonth; rw [hn15])
  clear hn15
  cases a : (r.a0 == 3) with
  | true => go_wp2_with fail; go_meet; case rel => exact ⟨by rw [IM.out, a] <;> rfl, HD, HK, HB⟩
  | false =>
   by_cases z : 0 < n15
   ·have z1 : decide ((n15 : Int) > 0) = true := decide_eq_true (by omega)
    have z2 : decide (0 < n15) = true := decide_eq_true z
    have Z := Aside0.mk z1; clear z
    go_wp2_with fail
    go_meet
    case rel => exact ⟨by rw [IM.out, a, Z.out] <;> rfl, HD, HK, HB⟩
   ·have z1 : decide ((n15 : Int) > 0) = false := decide_eq_false (by omega)
    have z2 : decide (0 < n15) = false := decide_eq_false z
    have Z := Aside0.mk z1; clear z
    go_wp2_with fail
    go_meet
    case rel => exact ⟨by rw [IM.out, a, Z.out] <;> rfl, HD, HK, HB⟩
 case rest =>
  obtain ⟨rfl, HD, HK, HB⟩ := hcut
  go_upto_if 29 with fail
  go_cut [6, 7] (fun v v2 wc => v = .int .i64 fr ∧ v2 = .int .i64 n ∧ Aside0 (wc.heap[w.heap.size]? = some (obj r p)) ∧ Aside0 (Below w.heap.size w wc))
  case first =>
   cases hm : MatD.inMonth r with
   | false => go_wp2_with fail; go_meet; case rel => exact ⟨by rw [HR.out, hm, if_neg (by simp)], by rw [HN.out, hm, if_neg (by simp)], HK, HB⟩
   | true =>
    have c0 : wc.cell? ⟨g, 0, none⟩ = some (.int .i64 y) := (blk_cell HD.out 0).trans rfl
    have c1 : wc.cell? ⟨g, 1, none⟩ = some (.int .i64 m) := (blk_cell HD.out 1).trans rfl
    have M4 := Aside0.mk (H4.out hm); have M5 := Aside0.mk (H5.out hm); have M6 := Aside0.mk (show fr = fm by rw [HR.out, hm, if_pos rfl]); have M7 := Aside0.mk (show n = nm by rw [HN.out, hm, if_pos rfl]); clear hm
    go_wp2_with fail
    go_quiet (first | (go_at_call 34; ((with_reducible refine (trystref01_Fixed.calls k 0 y m 1 fm _ M4.out).mono ?_); rintro e w' ⟨rfl, ⟨nd, rfl⟩⟩; (first | exact ⟨rfl, _, World.drewN_drewN _ _ _⟩ | exact ⟨rfl, _, Eq.trans (World.drewN_drewN _ _ _) (congrArg (World.drewN _) (Nat.add_assoc _ _ _))⟩))) | (go_at_call 35; ((with_reducible refine (trystref01_Length.calls k 0 y m nm _ M5.out).mono ?_); rintro e w' ⟨rfl, ⟨nd, rfl⟩⟩; (first | exact ⟨rfl, _, World.drewN_drewN _ _ _⟩ | exact ⟨rfl, _, Eq.trans (World.drewN_drewN _ _ _) (congrArg (World.drewN _) (Nat.add_assoc _ _ _))⟩))))
    rename_i nq
    replace HK := Aside0.mk (blk_drewN HK.out nq)
    replace HB := Aside0.mk (pw_below_drewN HB.out nq)
    go_wp2_with fail
    go_meet
    case rel => exact ⟨by rw [M6.out], by rw [M7.out], HK, HB⟩
  case rest =>
   clear HD HK HB
   obtain ⟨rfl, rfl, HK, HB⟩ := hcut
   have hss := HS.out
   go_wp2_with fail
   go_loopg [8, 9, 10] n.toNat (fun kq va vb vk w' => ∃ (i : Nat) (z a b : Int), va = .int .i64 a ∧ vb = .int .i64 b ∧ vk = .int .i64 z ∧ Aside0 (a = A i) ∧ Aside0 (b = B i) ∧ Aside0 (z = fr + (i : Int)) ∧ Aside0 (i + kq = n.toNat) ∧ Aside0 (w'.heap[w.heap.size]? = some (obj r p)) ∧ Aside0 (Below w.heap.size w w'))
   case atStart => exact ⟨0, fr, 1, 1, rfl, rfl, rfl, ⟨HA.out.symm⟩, ⟨HBb.out.symm⟩, ⟨by simp⟩, ⟨by omega⟩, HK, HB⟩
   case round =>
    clear HK HB
    obtain ⟨i, z, a, b, rfl, rfl, rfl, HAi, HBi, HZ, HI, HK, HB⟩ := hrel
    cases gk with
    | zero =>
     have SV : s = fr + n := by rw [← HS.out]; have := F0.out; have := F1.out; have := N0.out; have := N1.out; unfold wrap64; omega
     have l1 : decide (z < s) = false := decide_eq_false (by have := HZ.out; have := HI.out; have := N0.out; omega)
     clear SV
     have HAn := Aside0.mk (show a = A n.toNat by rw [HAi.out]; congr 1; have := HI.out; omega)
     have HBn := Aside0.mk (show b = B n.toNat by rw [HBi.out]; congr 1; have := HI.out; omega)
     have k11 : wr.cell? ⟨w.heap.size, 11, none⟩ = some (.slice p.A11 r.l11.length p.c11) := (blk_cell HK.out 11).trans rfl
     go_wp2_with fail
     clear k11
     obtain ⟨wo, rfl⟩ : ∃ wo : World, wo = wr := ⟨_, rfl⟩
     have WD := Aside0.mk (HW.out d D0.out D1.out)
     go_loopg [75] r.l11.length (fun kq v w' => ∃ (j : Nat) (q : Int), v = .int .i64 q ∧ Aside0 (q = (j : Int)) ∧ Aside0 (j + kq = r.l11.length) ∧ Aside0 (∀ j' : Nat, j' < j → hitR d a b (rd_T80 r.l11 (j' : Int)) = false) ∧ Aside0 (w'.heap[w.heap.size]? = some (obj r p)) ∧ Aside0 (Below w.heap.size w w'))
     case atStart => exact ⟨0, 0, rfl, ⟨rfl⟩, ⟨by omega⟩, ⟨fun j hj => by omega⟩, HK, HB⟩
     case round =>
      clear HK HB
      obtain ⟨j, q, rfl, HQ, HJ, HU, HK, HB⟩ := hrel
      cases gk with
      | zero =>
       have l2 : decide (q < (r.l11.length : Int)) = false := decide_eq_false (by have := HQ.out; have := HJ.out; omega)
       go_wp2_with fail
       go_ret
       exact ⟨by rw [← HAn.out, ← HBn.out, anyR_no (fun j' hj' => HU.out j' (by have := HJ.out; omega))] <;> rfl, HB.out⟩
      | succ k1 =>
       have l2 : decide (q < (r.l11.length : Int)) = true := decide_eq_true (by have := HQ.out; have := HJ.out; omega)
       have p2 : (0 ≤ q) = True := eq_true (by have := HQ.out; omega)
       have q2 : (q < (r.l11.length : Int)) = True := eq_true (by have := HQ.out; have := HJ.out; omega)
       obtain ⟨ad, eA, x0, x1⟩ := at_T80 OK.out.h11 q (by have := HQ.out; omega) (by have := HQ.out; have := HJ.out; omega)
       replace x0 := pw_cell_below HB.out x0
       replace x1 := pw_cell_below HB.out x1
       have k11 : wr.cell? ⟨w.heap.size, 11, none⟩ = some (.slice (some ad) r.l11.length p.c11) := by rw [← eA]; exact (blk_cell HK.out 11).trans rfl
       clear eA
       obtain ⟨e0, he0⟩ : ∃ e : S80, rd_T80 r.l11 q = e := ⟨_, rfl⟩
       have HE := Aside0.mk he0
       rw [he0] at x0 x1
       clear he0
       go_upto_region 17 with fail
       have HE2 := Aside0.mk (blk_new wr (.cells #[.int .i64 e0.f0, .int .i64 e0.f1] 80 (0, 0)))
       replace HK := Aside0.mk (blk_below HK.out (below_alloc (Below.refl _ _) (.cells #[.int .i64 e0.f0, .int .i64 e0.f1] 80 (0, 0))))
       replace HB := Aside0.mk (below_alloc HB.out (.cells #[.int .i64 e0.f0, .int .i64 e0.f1] 80 (0, 0)))
       clear x0 x1 k11
       generalize wr.alloc (.cells #[.int .i64 e0.f0, .int .i64 e0.f1] 80 (0, 0)) = w5 at HE2 HK HB ⊢
       generalize wr.heap.size = g2 at HE2 ⊢
       have x0 : w5.cell? ⟨g2, 0, none⟩ = some (.int .i64 e0.f0) := (blk_cell HE2.out 0).trans rfl
       have x1 : w5.cell? ⟨g2, 1, none⟩ = some (.int .i64 e0.f1) := (blk_cell HE2.out 1).trans rfl
       have nb : IntKind.i64.wrap (-b) = -b := by have := (AB.out i).2; have := HBi.out; have := HI.out; have := N1.out; have h := i64_w (-b); rw [h]; unfold wrap64; omega
       have nb2 : wrap64 (-b) = -b := (i64_w _).symm.trans nb
       cases c1 : (e0.f1 == d % 7) with
       | false =>
        have HH := Aside0.mk (show hitR d a b e0 = false by unfold hitR; rw [c1] <;> rfl)
        go_quiet (((go_at_call 58; ((with_reducible refine (trystref14_weekday.calls d _ _ WD.out).mono ?_); rintro e w' ⟨rfl, ⟨nd, rfl⟩⟩; (first | exact ⟨rfl, _, World.drewN_drewN _ _ _⟩ | exact ⟨rfl, _, Eq.trans (World.drewN_drewN _ _ _) (congrArg (World.drewN _) (Nat.add_assoc _ _ _))⟩)))))
        rename_i nq
        replace HK := Aside0.mk (blk_drewN HK.out nq)
        replace HB := Aside0.mk (pw_below_drewN HB.out nq)
        go_wp2_with fail
        go_roundg k1
        case measure => omega
        case rel => exact ⟨j + 1, _, rfl, ⟨by have := HQ.out; have := HL.out; have := HJ.out; unfold wrap64; omega⟩, ⟨by have := HJ.out; omega⟩, ⟨fun j' hj' => by by_cases e : j' = j; subst e; rw [← HQ.out, HE.out]; exact HH.out; exact HU.out j' (by omega)⟩, HK, HB⟩
       | true =>
        cases c2 : (e0.f0 == 0) with
        | true =>
         have HH := Aside0.mk (show hitR d a b e0 = true by unfold hitR; rw [c1, c2] <;> rfl)
         go_quiet (((go_at_call 58; ((with_reducible refine (trystref14_weekday.calls d _ _ WD.out).mono ?_); rintro e w' ⟨rfl, ⟨nd, rfl⟩⟩; (first | exact ⟨rfl, _, World.drewN_drewN _ _ _⟩ | exact ⟨rfl, _, Eq.trans (World.drewN_drewN _ _ _) (congrArg (World.drewN _) (Nat.add_assoc _ _ _))⟩)))))
         rename_i nq
         replace HK := Aside0.mk (blk_drewN HK.out nq)
         replace HB := Aside0.mk (pw_below_drewN HB.out nq)
         go_wp2_with fail
         go_ret
         exact ⟨by rw [← HAn.out, ← HBn.out, anyR_yes (j := j) (by have := HJ.out; omega) (by rw [← HQ.out, HE.out]; exact HH.out)] <;> rfl, HB.out⟩
        | false =>
         cases c3 : (e0.f0 == a) with
         | true =>
          have HH := Aside0.mk (show hitR d a b e0 = true by unfold hitR; rw [c1, c2, c3] <;> rfl)
          go_quiet (((go_at_call 58; ((with_reducible refine (trystref14_weekday.calls d _ _ WD.out).mono ?_); rintro e w' ⟨rfl, ⟨nd, rfl⟩⟩; (first | exact ⟨rfl, _, World.drewN_drewN _ _ _⟩ | exact ⟨rfl, _, Eq.trans (World.drewN_drewN _ _ _) (congrArg (World.drewN _) (Nat.add_assoc _ _ _))⟩)))))
          rename_i nq
          replace HK := Aside0.mk (blk_drewN HK.out nq)
          replace HB := Aside0.mk (pw_below_drewN HB.out nq)
          go_wp2_with fail
          go_ret
          exact ⟨by rw [← HAn.out, ← HBn.out, anyR_yes (j := j) (by have := HJ.out; omega) (by rw [← HQ.out, HE.out]; exact HH.out)] <;> rfl, HB.out⟩
         | false =>
          cases c4 : (e0.f0 == -b) with
          | true =>
           have HH := Aside0.mk (show hitR d a b e0 = true by unfold hitR; rw [c1, c2, c3, c4] <;> rfl)
           go_quiet (((go_at_call 58; ((with_reducible refine (trystref14_weekday.calls d _ _ WD.out).mono ?_); rintro e w' ⟨rfl, ⟨nd, rfl⟩⟩; (first | exact ⟨rfl, _, World.drewN_drewN _ _ _⟩ | exact ⟨rfl, _, Eq.trans (World.drewN_drewN _ _ _) (congrArg (World.drewN _) (Nat.add_assoc _ _ _))⟩)))))
           rename_i nq
           replace HK := Aside0.mk (blk_drewN HK.out nq)
           replace HB := Aside0.mk (pw_below_drewN HB.out nq)
           go_wp2_with fail
           go_ret
           exact ⟨by rw [← HAn.out, ← HBn.out, anyR_yes (j := j) (by have := HJ.out; omega) (by rw [← HQ.out, HE.out]; exact HH.out)] <;> rfl, HB.out⟩
          | false =>
           have HH := Aside0.mk (show hitR d a b e0 = false by unfold hitR; rw [c1, c2, c3, c4] <;> rfl)
           go_quiet (((go_at_call 58; ((with_reducible refine (trystref14_weekday.calls d _ _ WD.out).mono ?_); rintro e w' ⟨rfl, ⟨nd, rfl⟩⟩; (first | exact ⟨rfl, _, World.drewN_drewN _ _ _⟩ | exact ⟨rfl, _, Eq.trans (World.drewN_drewN _ _ _) (congrArg (World.drewN _) (Nat.add_assoc _ _ _))⟩)))))
           rename_i nq
           replace HK := Aside0.mk (blk_drewN HK.out nq)
           replace HB := Aside0.mk (pw_below_drewN HB.out nq)
           go_wp2_with fail
           go_roundg k1
           case measure => omega
           case rel => exact ⟨j + 1, _, rfl, ⟨by have := HQ.out; have := HL.out; have := HJ.out; unfold wrap64; omega⟩, ⟨by have := HJ.out; omega⟩, ⟨fun j' hj' => by by_cases e : j' = j; subst e; rw [← HQ.out, HE.out]; exact HH.out; exact HU.out j' (by omega)⟩, HK, HB⟩
    | succ k1 =>
     have SV : s = fr + n := by rw [← HS.out]; have := F0.out; have := F1.out; have := N0.out; have := N1.out; unfold wrap64; omega
     have l1 : decide (z < s) = true := decide_eq_true (by have := HZ.out; have := HI.out; have := N0.out; omega)
     clear SV
     have WD := Aside0.mk (HW.out d D0.out D1.out)
     have WZ := Aside0.mk (HW.out z (by have := HZ.out; have := F0.out; omega) (by have := HZ.out; have := F1.out; have := N1.out; have := HI.out; omega))
     have ABi := Aside0.mk (AB.out i)
     have zz : wrap64 (z + 1) = z + 1 := by have := HZ.out; have := F0.out; have := F1.out; have := N1.out; have := HI.out; unfold wrap64; omega
     have aa : wrap64 (a + 1) = a + 1 := by have := ABi.out.1; have := HAi.out; have := N1.out; have := HI.out; unfold wrap64; omega
     have bb : wrap64 (b + 1) = b + 1 := by have := ABi.out.2; have := HBi.out; have := N1.out; have := HI.out; unfold wrap64; omega
     by_cases c : z % 7 = d % 7
     ·have c1 : (z % 7 == d % 7) = true := beq_iff_eq.2 c
      by_cases l : z < d
      ·have l2 : decide (z < d) = true := decide_eq_true l
       have l3 : decide (z > d) = false := decide_eq_false (by omega)
       have CA := Aside0.mk (show z % 7 = d % 7 ∧ z < d from ⟨c, l⟩); have CB := Aside0.mk (show ¬ (z % 7 = d % 7 ∧ z > d) from fun q => by omega); clear c l
       go_wp2_with fail
       refine (trystref14_weekday.calls z _ _ WZ.out).mono ?_
       rintro e wq1 ⟨rfl, ⟨nd, rfl⟩⟩
       replace HK := Aside0.mk (blk_drewN HK.out nd)
       replace HB := Aside0.mk (pw_below_drewN HB.out nd)
       generalize wr.drewN nd = wv1 at HK HB ⊢
       go_wp2_with fail
       refine (trystref14_weekday.calls d _ _ WD.out).mono ?_
       rintro e wq2 ⟨rfl, ⟨nd, rfl⟩⟩
       replace HK := Aside0.mk (blk_drewN HK.out nd)
       replace HB := Aside0.mk (pw_below_drewN HB.out nd)
       generalize wv1.drewN nd = wv2 at HK HB ⊢
       go_wp2_with fail
       refine (trystref14_weekday.calls z _ _ WZ.out).mono ?_
       rintro e wq3 ⟨rfl, ⟨nd, rfl⟩⟩
       replace HK := Aside0.mk (blk_drewN HK.out nd)
       replace HB := Aside0.mk (pw_below_drewN HB.out nd)
       generalize wv2.drewN nd = wv3 at HK HB ⊢
       go_wp2_with fail
       refine (trystref14_weekday.calls d _ _ WD.out).mono ?_
       rintro e wq4 ⟨rfl, ⟨nd, rfl⟩⟩
       replace HK := Aside0.mk (blk_drewN HK.out nd)
       replace HB := Aside0.mk (pw_below_drewN HB.out nd)
       generalize wv3.drewN nd = wv4 at HK HB ⊢
       go_wp2_with fail
       go_roundg k1
       case measure => omega
       case rel => exact ⟨i + 1, _, _, _, rfl, rfl, rfl, ⟨by rw [HA1.out i, ← HZ.out, if_pos CA.out, ← HAi.out]; (try first | rfl | exact aa | omega)⟩, ⟨by rw [HB1.out i, ← HZ.out, if_neg CB.out, ← HBi.out]; (try first | rfl | exact bb | omega)⟩, ⟨by first | (rw [zz, HZ.out]; push_cast; omega) | (rw [HZ.out]; push_cast; omega)⟩, ⟨by have := HI.out; omega⟩, HK, HB⟩
      ·have l2 : decide (z < d) = false := decide_eq_false l
       by_cases g' : z > d
       ·have l3 : decide (z > d) = true := decide_eq_true g'
        have CA := Aside0.mk (show ¬ (z % 7 = d % 7 ∧ z < d) from fun q => l q.2); have CB := Aside0.mk (show z % 7 = d % 7 ∧ z > d from ⟨c, g'⟩); clear c l g'
        go_wp2_with fail
        refine (trystref14_weekday.calls z _ _ WZ.out).mono ?_
        rintro e wq5 ⟨rfl, ⟨nd, rfl⟩⟩
        replace HK := Aside0.mk (blk_drewN HK.out nd)
        replace HB := Aside0.mk (pw_below_drewN HB.out nd)
        generalize wr.drewN nd = wv5 at HK HB ⊢
        go_wp2_with fail
        refine (trystref14_weekday.calls d _ _ WD.out).mono ?_
        rintro e wq6 ⟨rfl, ⟨nd, rfl⟩⟩
        replace HK := Aside0.mk (blk_drewN HK.out nd)
        replace HB := Aside0.mk (pw_below_drewN HB.out nd)
        generalize wv5.drewN nd = wv6 at HK HB ⊢
        go_wp2_with fail
        refine (trystref14_weekday.calls z _ _ WZ.out).mono ?_
        rintro e wq7 ⟨rfl, ⟨nd, rfl⟩⟩
        replace HK := Aside0.mk (blk_drewN HK.out nd)
        replace HB := Aside0.mk (pw_below_drewN HB.out nd)
        generalize wv6.drewN nd = wv7 at HK HB ⊢
        go_wp2_with fail
        refine (trystref14_weekday.calls d _ _ WD.out).mono ?_
        rintro e wq8 ⟨rfl, ⟨nd, rfl⟩⟩
        replace HK := Aside0.mk (blk_drewN HK.out nd)
        replace HB := Aside0.mk (pw_below_drewN HB.out nd)
        generalize wv7.drewN nd = wv8 at HK HB ⊢
        go_wp2_with fail
        go_roundg k1
        case measure => omega
        case rel => exact ⟨i + 1, _, _, _, rfl, rfl, rfl, ⟨by rw [HA1.out i, ← HZ.out, if_neg CA.out, ← HAi.out]; (try first | rfl | exact aa | omega)⟩, ⟨by rw [HB1.out i, ← HZ.out, if_pos CB.out, ← HBi.out]; (try first | rfl | exact bb | omega)⟩, ⟨by first | (rw [zz, HZ.out]; push_cast; omega) | (rw [HZ.out]; push_cast; omega)⟩, ⟨by have := HI.out; omega⟩, HK, HB⟩
       ·have l3 : decide (z > d) = false := decide_eq_false g'
        have CA := Aside0.mk (show ¬ (z % 7 = d % 7 ∧ z < d) from fun q => l q.2); have CB := Aside0.mk (show ¬ (z % 7 = d % 7 ∧ z > d) from fun q => g' q.2); clear c l g'
        go_wp2_with fail
        refine (trystref14_weekday.calls z _ _ WZ.out).mono ?_
        rintro e wq9 ⟨rfl, ⟨nd, rfl⟩⟩
        replace HK := Aside0.mk (blk_drewN HK.out nd)
        replace HB := Aside0.mk (pw_below_drewN HB.out nd)
        generalize wr.drewN nd = wv9 at HK HB ⊢
        go_wp2_with fail
        refine (trystref14_weekday.calls d _ _ WD.out).mono ?_
        rintro e wq10 ⟨rfl, ⟨nd, rfl⟩⟩
        replace HK := Aside0.mk (blk_drewN HK.out nd)
        replace HB := Aside0.mk (pw_below_drewN HB.out nd)
        generalize wv9.drewN nd = wv10 at HK HB ⊢
        go_wp2_with fail
        refine (trystref14_weekday.calls z _ _ WZ.out).mono ?_
        rintro e wq11 ⟨rfl, ⟨nd, rfl⟩⟩
        replace HK := Aside0.mk (blk_drewN HK.out nd)
        replace HB := Aside0.mk (pw_below_drewN HB.out nd)
        generalize wv10.drewN nd = wv11 at HK HB ⊢
        go_wp2_with fail
        refine (trystref14_weekday.calls d _ _ WD.out).mono ?_
        rintro e wq12 ⟨rfl, ⟨nd, rfl⟩⟩
        replace HK := Aside0.mk (blk_drewN HK.out nd)
        replace HB := Aside0.mk (pw_below_drewN HB.out nd)
        generalize wv11.drewN nd = wv12 at HK HB ⊢
        go_wp2_with fail
        go_roundg k1
        case measure => omega
        case rel => exact ⟨i + 1, _, _, _, rfl, rfl, rfl, ⟨by rw [HA1.out i, ← HZ.out, if_neg CA.out, ← HAi.out]; (try first | rfl | exact aa | omega)⟩, ⟨by rw [HB1.out i, ← HZ.out, if_neg CB.out, ← HBi.out]; (try first | rfl | exact bb | omega)⟩, ⟨by first | (rw [zz, HZ.out]; push_cast; omega) | (rw [HZ.out]; push_cast; omega)⟩, ⟨by have := HI.out; omega⟩, HK, HB⟩
     ·have c1 : (z % 7 == d % 7) = false := beq_eq_false_iff_ne.2 c
      have CA := Aside0.mk (show ¬ (z % 7 = d % 7 ∧ z < d) from fun q => c q.1); have CB := Aside0.mk (show ¬ (z % 7 = d % 7 ∧ z > d) from fun q => c q.1); clear c
      go_wp2_with fail
      refine (trystref14_weekday.calls z _ _ WZ.out).mono ?_
      rintro e wq13 ⟨rfl, ⟨nd, rfl⟩⟩
      replace HK := Aside0.mk (blk_drewN HK.out nd)
      replace HB := Aside0.mk (pw_below_drewN HB.out nd)
      generalize wr.drewN nd = wv13 at HK HB ⊢
      go_wp2_with fail
      refine (trystref14_weekday.calls d _ _ WD.out).mono ?_
      rintro e wq14 ⟨rfl, ⟨nd, rfl⟩⟩
      replace HK := Aside0.mk (blk_drewN HK.out nd)
      replace HB := Aside0.mk (pw_below_drewN HB.out nd)
      generalize wv13.drewN nd = wv14 at HK HB ⊢
      go_wp2_with fail
      refine (trystref14_weekday.calls z _ _ WZ.out).mono ?_
      rintro e wq15 ⟨rfl, ⟨nd, rfl⟩⟩
      replace HK := Aside0.mk (blk_drewN HK.out nd)
      replace HB := Aside0.mk (pw_below_drewN HB.out nd)
      generalize wv14.drewN nd = wv15 at HK HB ⊢
      go_wp2_with fail
      refine (trystref14_weekday.calls d _ _ WD.out).mono ?_
      rintro e wq16 ⟨rfl, ⟨nd, rfl⟩⟩
      replace HK := Aside0.mk (blk_drewN HK.out nd)
      replace HB := Aside0.mk (pw_below_drewN HB.out nd)
      generalize wv15.drewN nd = wv16 at HK HB ⊢
      go_wp2_with fail
      go_roundg k1
      case measure => omega
      case rel => exact ⟨i + 1, _, _, _, rfl, rfl, rfl, ⟨by rw [HA1.out i, ← HZ.out, if_neg CA.out, ← HAi.out]; (try first | rfl | exact aa | omega)⟩, ⟨by rw [HB1.out i, ← HZ.out, if_neg CB.out, ← HBi.out]; (try first | rfl | exact bb | omega)⟩, ⟨by first | (rw [zz, HZ.out]; push_cast; omega) | (rw [HZ.out]; push_cast; omega)⟩, ⟨by have := HI.out; omega⟩, HK, HB⟩
end Go.Proofs.YtfdcldjoncednaaGreat.RefP
