/- Texts of this claim, merged: RecE, SetE, LinE, EvE, ShelfAny, Mgiven. -/
import Derived.Test.YtddoidcbpcmlaaaMgEventClones3
import Derived.Test.YtddoidcbpcmlaaaMgEventClones9
import Derived.Test.YtddoidcbpcmlaaaWEqStruct
import Derived.Test.YtddoidcbpcmlaaaMgEventClones2
import Derived.Test.YtddoidcbpcmlaaaMgEventClones4
import Derived.Shelf.Small.Utf8
import Derived.Shelf.Small.Strs
import Derived.Shelf.Strings.Search1
import Derived.Shelf.Strings.Runes
import Derived.Shelf.Strings.IndexAny
import Derived.Shelf.Strings.AsciiSet
import Derived.Shelf.Strings.IndexAnyAll
import Derived.Test.YtddoidcbpcmlaaaProg
import Derived.Test.YtddoidcbpcmlaaaMgEventClones1
/- recur.Equal at two rules: it answers; at rules that hold the same it answers true. (Written by gen_rece.py.) -/
namespace Go.Proofs.Ytddoidcbpcmlaaa.RecE
open Go.RowKit Go.Proofs.YtddoidcbpcmlaaaW.PrintWords Go.Proofs.YtddoidcbpcmlaaaW.PrintLast Go.Proofs.Ytddoidcbpcmlaaa.M Go.Proofs.Ytddoidcbpcmlaaa.Fr Go.Proofs.Ytddoidcbpcmlaaa.Ru Go.Proofs.Ytddoidcbpcmlaaa.RecL
open Go.Proofs.Ytddoidcbpcmlaaa.LinC (twoB)
open Go.Proofs.Ytddoidcbpcmlaaa.RecC (LN offF lst off_bd Small)
set_option linter.unusedVariables false
set_option linter.unusedSimpArgs false
theorem listOf {r : Ru} {p : Rp} {w : World} (ok : Ok r p w) (j : Nat) (hj : j < 8) : ∃ A c, (agg r p)[offF j]? = some (.slice A (LN r j).length c) ∧ (LN r j).length ≤ c ∧ Kd.C (Kd.int .i64) w A (LN r j).length (LN r j) := by
  match j, hj with
  | 0, _ => exact ⟨_, _, rfl, ok.d8, ok.h8⟩
  | 1, _ => exact ⟨_, _, rfl, ok.d9, ok.h9⟩
  | 2, _ => exact ⟨_, _, rfl, ok.d10, ok.h10⟩
  | 3, _ => exact ⟨_, _, rfl, ok.d12, ok.h12⟩
  | 4, _ => exact ⟨_, _, rfl, ok.d13, ok.h13⟩
  | 5, _ => exact ⟨_, _, rfl, ok.d14, ok.h14⟩
  | 6, _ => exact ⟨_, _, rfl, ok.d15, ok.h15⟩
  | 7, _ => exact ⟨_, _, rfl, ok.d16, ok.h16⟩
def Tq5 : Bool × List (List Nat × List Nat) := (true, [([], []), ([], []), ([0, 1], [0, 1]), ([2], [2]), ([3], [3]), ([4], [4]), ([5], [5]), ([], []), ([], []), ([7, 8], [7, 8]), ([9], [9]), ([10], [10]), ([11], [11]), ([12], [12]), ([6, 13], [6, 13]), ([14], [14])])
def Bq5 : List Nat := [0, 0, 3, 7, 15, 31, 63, 0, 0, 384, 896, 1920, 3968, 8064, 16383, 32767]
theorem tabq5 : rtab .any (opsOf Try.f56 5) = Tq5 := by kernel_rfl
theorem bitsq5 : waitsOk Tq5.2 Bq5 = true := by kernel_rfl
set_option maxHeartbeats 4000000 in
set_option maxRecDepth 100000 in
theorem equal (r r2 : Ru) (p p2 : Rp) (w : World) (ok : Ok r p w) (ok2 : Ok r2 p2 w) (hs : Small r) :
    Calls Try.prog 56 #[.agg (agg r p), .agg (agg r2 p2)] w fun q w' => ∃ b, q = .returned (.bool b) ∧ (r = r2 → b = true) ∧ Below w.heap.size w w' := by
  have OK := Aside0.mk ok; have OK2 := Aside0.mk ok2; have HS := Aside0.mk hs
  clear ok ok2 hs
  go_enter Try.func56, Try.ntmps56
  go_upto_region 1 with fail
  obtain ⟨w0, hw0, z0, q1, q2, qb⟩ := twoB w (obj r p) (obj r2 p2)
  rw [← hw0]
  clear hw0
  have S0 := Aside0.mk z0; have K1 := Aside0.mk q1; have K2 := Aside0.mk q2; have HB := Aside0.mk qb
  clear z0 q1 q2 qb
  go_wp2_with fail
  refine (RecA.all w.heap.size w0).mono ?_
  rintro q w1 ⟨g, cap, rfl, hg, hcells, hb⟩
  have HC := Aside0.mk hcells
  replace K1 := Aside0.mk (blk_below K1.out hb); replace K2 := Aside0.mk (blk_below K2.out hb); replace HB := Aside0.mk (below_then HB.out HB.out.size hb)
  clear hg hcells hb S0
  go_wp2_with fail
  refine (RecA.all (w.heap.size + 1) w1).mono ?_
  rintro q w2 ⟨g2, cap2, rfl, hg, hcells, hb⟩
  have HC2 := Aside0.mk hcells
  replace HC := Aside0.mk (fun j v h => pw_cell_below hb (HC.out j v h))
  replace K1 := Aside0.mk (blk_below K1.out hb); replace K2 := Aside0.mk (blk_below K2.out hb); replace HB := Aside0.mk (below_then HB.out HB.out.size hb)
  clear hg hcells hb
  go_wp2_with fail
  go_loopg [12] 8 (fun kq v12 w' => ∃ (i : Nat) (X : Int), v12 = .int .i64 X ∧ Aside0 (X = (i : Int)) ∧ Aside0 (i + kq = 8) ∧ Aside0 (Below w2.heap.size w2 w'))
  case atStart => exact ⟨0, 0, rfl, ⟨rfl⟩, ⟨rfl⟩, ⟨Below.refl _ _⟩⟩
  case round =>
    obtain ⟨i, X, rfl, HX, HI, HN⟩ := hrel
    replace K1 := Aside0.mk (blk_below K1.out HN.out); replace K2 := Aside0.mk (blk_below K2.out HN.out)
    cases gk with
    | zero =>
      obtain rfl : X = 8 := by have := HX.out; have := HI.out; omega
      obtain ⟨x0, x1, x2, x3, x4, x5, x6, x7, x8, x9, x10, x11, x12, x13, x14, x15, x16⟩ := Ru.cells K1.out
      obtain ⟨y0, y1, y2, y3, y4, y5, y6, y7, y8, y9, y10, y11, y12, y13, y14, y15, y16⟩ := Ru.cells K2.out
      replace HB := Aside0.mk (below_then HB.out HB.out.size HN.out)
      rcases e0 : (r.a0 == r2.a0) with _ | _
      · go_wp2_with fail
        go_ret
        exact ⟨_, rfl, fun z => by subst z; simp at e0, HB.out⟩
      rcases e1 : (r.a1 == r2.a1) with _ | _
      · go_wp2_with fail
        go_ret
        exact ⟨_, rfl, fun z => by subst z; simp at e1, HB.out⟩
      rcases e2 : (r.a2 == r2.a2) with _ | _
      · go_wp2_with fail
        go_ret
        exact ⟨_, rfl, fun z => by subst z; simp at e2, HB.out⟩
      rcases e3 : (r.a3 == r2.a3) with _ | _
      · go_wp2_with fail
        go_ret
        exact ⟨_, rfl, fun z => by subst z; simp at e3, HB.out⟩
      rcases e4 : (r.a4 == r2.a4) with _ | _
      · go_wp2_with fail
        go_ret
        exact ⟨_, rfl, fun z => by subst z; simp at e4, HB.out⟩
      rcases e5 : (r.a5.toList == r2.a5.toList) with _ | _
      · go_wp2_with fail
        go_ret
        exact ⟨_, rfl, fun z => by subst z; simp at e5, HB.out⟩
      rcases e6 : (r.a6 == r2.a6) with _ | _
      · go_wp2_with fail
        go_ret
        exact ⟨_, rfl, fun z => by subst z; simp at e6, HB.out⟩
      rcases e7 : (r.a7 == r2.a7) with _ | _
      · go_wp2_with fail
        go_ret
        exact ⟨_, rfl, fun z => by subst z; simp at e7, HB.out⟩
      go_wp2_with fail
      clear x0 x1 x2 x3 x4 x5 x6 x7 x8 x9 x10 x11 x12 x13 x14 x15 x16 y0 y1 y2 y3 y4 y5 y6 y7 y8 y9 y10 y11 y12 y13 y14 y15 y16 e0 e1 e2 e3 e4 e5 e6 e7
      refine (EqP.wday r.l11 r2.l11 HS.out.1 p.A11 p.c11 p2.A11 p2.c11 wr (OK.out.below HB.out).h11 OK.out.d11 (OK2.out.below HB.out).h11 OK2.out.d11).mono ?_
      rintro q w4 ⟨b, rfl, hb, hd⟩
      have HE := Aside0.mk hb
      replace HB := Aside0.mk (below_then HB.out HB.out.size hd.below)
      clear hd hb
      go_wp2_with fail
      go_ret
      exact ⟨b, rfl, fun z => HE.out (by rw [z]), HB.out⟩
    | succ k1_ =>
      have hi : i < 8 := by have := HI.out; omega
      have l1 : decide (X < 8) = true := decide_eq_true (by have := HX.out; omega)
      have p1 : 0 ≤ X := by have := HX.out; omega
      have p2_ : X < 8 := by have := HX.out; omega
      have nx : wrap64 (X + 1) = X + 1 := by have := HX.out; unfold wrap64; omega
      obtain ⟨_, _, _, _, _, c1, _⟩ := lst w.heap.size i hi
      obtain ⟨_, _, _, _, _, c2, _⟩ := lst (w.heap.size + 1) i hi
      obtain ⟨A1, q1, e1, l1_, C1_⟩ := listOf OK.out i hi
      obtain ⟨A2, q2, e2, l2_, C2_⟩ := listOf OK2.out i hi
      obtain ⟨o, ho⟩ : ∃ o, offF i = o := ⟨_, rfl⟩
      obtain ⟨L, hL⟩ : ∃ L, LN r i = L := ⟨_, rfl⟩
      obtain ⟨M, hM⟩ : ∃ M, LN r2 i = M := ⟨_, rfl⟩
      have LM := Aside0.mk (show r = r2 → L = M from fun z => by rw [← hL, ← hM, z])
      have hLs := HS.out.2 i hi
      rw [hL] at e1 l1_ C1_ hLs
      rw [hM] at e2 l2_ C2_
      rw [ho] at c1 c2 e1 e2
      have d1 : wr.cell? ⟨g, X.toNat * 5 + 1, none⟩ = some (.pointer (some ⟨w.heap.size, o, none⟩)) := by rw [HX.out, Int.toNat_natCast]; exact pw_cell_below HN.out (HC.out _ _ c1)
      have d2 : wr.cell? ⟨g2, X.toNat * 5 + 1, none⟩ = some (.pointer (some ⟨w.heap.size + 1, o, none⟩)) := by rw [HX.out, Int.toNat_natCast]; exact pw_cell_below HN.out (HC2.out _ _ c2)
      have kr1 : wr.cell? ⟨w.heap.size, o, none⟩ = some (.slice A1 L.length q1) := (blk_cell K1.out o).trans e1
      have kr2 : wr.cell? ⟨w.heap.size + 1, o, none⟩ = some (.slice A2 M.length q2) := (blk_cell K2.out o).trans e2
      have HB2 := Aside0.mk (below_then HB.out HB.out.size HN.out)
      have G1 := Aside0.mk (Kd.C_below C1_ HB2.out); have G2 := Aside0.mk (Kd.C_below C2_ HB2.out); have L1 := Aside0.mk l1_; have L2 := Aside0.mk l2_; have LS := Aside0.mk hLs
      replace p1 := eq_true p1; replace p2_ := eq_true p2_
      clear ho hL hM hLs hi c1 c2 e1 e2 l1_ l2_ C1_ C2_
      go_upto_region 5 with fail
      have HR := Aside0.mk (below_drew1 (Below.refl wr.heap.size wr))
      refine start_ (n := 16) (S := fun w' => w'.cell? ⟨g, X.toNat * 5 + 1, none⟩ = some (.pointer (some ⟨w.heap.size, o, none⟩)) ∧ w'.cell? ⟨g2, X.toNat * 5 + 1, none⟩ = some (.pointer (some ⟨w.heap.size + 1, o, none⟩)) ∧ w'.cell? ⟨w.heap.size, o, none⟩ = some (.slice A1 L.length q1) ∧ w'.cell? ⟨w.heap.size + 1, o, none⟩ = some (.slice A2 M.length q2)) (ds := []) (tt 16 0) (by kernel_rfl) rfl rfl ⟨pw_cell_below (below_drew1 (Below.refl _ _)) d1, pw_cell_below (below_drew1 (Below.refl _ _)) d2, pw_cell_below (below_drew1 (Below.refl _ _)) kr1, pw_cell_below (below_drew1 (Below.refl _ _)) kr2⟩ (fun hHeld => ?_)
      refine with_tabW tabq5 bitsq5 (fun HT_ HW_ => ?_)
      generalize wr.drew = wd_ at HR hHeld ⊢
      refine pure_ (i := 0) (N := some 15) (v := ?_) (a' := ?_) (tt 16 1) rfl rfl (any_of HT_.out (by kernel_rfl)) (fun _ _ _ h => h) (Or.inl ⟨by rfl, ?_⟩) ?_ ?_
      rotate_left
      · intro w'
        go_simp
        with_reducible rfl
      rotate_left
      · simp only [Act.put, List.setIfInBounds_toArray, List.set_cons_zero, List.set_cons_succ, i64_w, i32_w]
        rfl
      refine pure_ (i := 1) (N := some 16) (v := ?_) (a' := ?_) (tt 16 2) rfl rfl (any_of HT_.out (by kernel_rfl)) (fun _ _ _ h => h) (Or.inl ⟨by rfl, ?_⟩) ?_ ?_
      rotate_left
      · intro w'
        go_simp
        with_reducible rfl
      rotate_left
      · simp only [Act.put, List.setIfInBounds_toArray, List.set_cons_zero, List.set_cons_succ, i64_w, i32_w]
        rfl
      refine pure_ (i := 2) (N := some 17) (v := ?_) (a' := ?_) (tt 16 3) rfl rfl (any_of HT_.out (by kernel_rfl)) (fun _ _ _ h => h) (Or.inl ⟨by rfl, ?_⟩) ?_ ?_
      rotate_left
      · intro w'
        go_simp
        with_reducible rfl
      rotate_left
      · simp only [Act.put, List.setIfInBounds_toArray, List.set_cons_zero, List.set_cons_succ, i64_w, i32_w]
        rfl
      refine pure_ (i := 3) (N := some 18) (v := ?_) (a' := ?_) (tt 16 4) rfl rfl (any_of HT_.out (by kernel_rfl)) (fun _ _ _ h => h) (Or.inl ⟨by rfl, ?_⟩) ?_ ?_
      rotate_left
      · intro w'
        go_simp
        with_reducible rfl
      rotate_left
      · simp only [Act.put, List.setIfInBounds_toArray, List.set_cons_zero, List.set_cons_succ, i64_w, i32_w]
        rfl
      refine take_ (i := 4) (N := some 19) (v := ?_) (a' := ?_) (tt 16 5) rfl rfl (take_ofW HT_.out HW_.out (by kernel_rfl)) (fun _ _ _ h => h) (Or.inl ⟨by rfl, ?_⟩) hHeld ?_ ?_
      rotate_left
      · rintro w' ⟨s0, s1, s2, s3⟩
        go_simp
        with_reducible rfl
      rotate_left
      · simp only [Act.put, List.setIfInBounds_toArray, List.set_cons_zero, List.set_cons_succ, i64_w, i32_w]
        rfl
      refine pure_ (i := 5) (N := some 20) (v := ?_) (a' := ?_) (tt 16 6) rfl rfl (any_of HT_.out (by kernel_rfl)) (fun _ _ _ h => h) (Or.inl ⟨by rfl, ?_⟩) ?_ ?_
      rotate_left
      · intro w'
        go_simp
        with_reducible rfl
      rotate_left
      · simp only [Act.put, List.setIfInBounds_toArray, List.set_cons_zero, List.set_cons_succ, i64_w, i32_w]
        rfl
      refine take_ (i := 6) (N := some 21) (v := ?_) (a' := ?_) (tt 16 7) rfl rfl (take_ofW HT_.out HW_.out (by kernel_rfl)) (fun _ _ _ h => h) (Or.inl ⟨by rfl, ?_⟩) hHeld ?_ ?_
      rotate_left
      · rintro w' ⟨s0, s1, s2, s3⟩
        go_simp
        with_reducible rfl
      rotate_left
      · simp only [Act.put, List.setIfInBounds_toArray, List.set_cons_zero, List.set_cons_succ, i64_w, i32_w]
        rfl
      refine pure_ (i := 7) (N := some 22) (v := ?_) (a' := ?_) (tt 16 8) rfl rfl (any_of HT_.out (by kernel_rfl)) (fun _ _ _ h => h) (Or.inl ⟨by rfl, ?_⟩) ?_ ?_
      rotate_left
      · intro w'
        go_simp
        with_reducible rfl
      rotate_left
      · simp only [Act.put, List.setIfInBounds_toArray, List.set_cons_zero, List.set_cons_succ, i64_w, i32_w]
        rfl
      refine pure_ (i := 8) (N := some 23) (v := ?_) (a' := ?_) (tt 16 9) rfl rfl (any_of HT_.out (by kernel_rfl)) (fun _ _ _ h => h) (Or.inl ⟨by rfl, ?_⟩) ?_ ?_
      rotate_left
      · intro w'
        go_simp
        with_reducible rfl
      rotate_left
      · simp only [Act.put, List.setIfInBounds_toArray, List.set_cons_zero, List.set_cons_succ, i64_w, i32_w]
        rfl
      refine pure_ (i := 9) (N := some 24) (v := ?_) (a' := ?_) (tt 16 10) rfl rfl (any_of HT_.out (by kernel_rfl)) (fun _ _ _ h => h) (Or.inl ⟨by rfl, ?_⟩) ?_ ?_
      rotate_left
      · intro w'
        go_simp
        with_reducible rfl
      rotate_left
      · simp only [Act.put, List.setIfInBounds_toArray, List.set_cons_zero, List.set_cons_succ, i64_w, i32_w]
        rfl
      refine pure_ (i := 10) (N := some 25) (v := ?_) (a' := ?_) (tt 16 11) rfl rfl (any_of HT_.out (by kernel_rfl)) (fun _ _ _ h => h) (Or.inl ⟨by rfl, ?_⟩) ?_ ?_
      rotate_left
      · intro w'
        go_simp
        with_reducible rfl
      rotate_left
      · simp only [Act.put, List.setIfInBounds_toArray, List.set_cons_zero, List.set_cons_succ, i64_w, i32_w]
        rfl
      refine take_ (i := 11) (N := some 26) (v := ?_) (a' := ?_) (tt 16 12) rfl rfl (take_ofW HT_.out HW_.out (by kernel_rfl)) (fun _ _ _ h => h) (Or.inl ⟨by rfl, ?_⟩) hHeld ?_ ?_
      rotate_left
      · rintro w' ⟨s0, s1, s2, s3⟩
        go_simp
        with_reducible rfl
      rotate_left
      · simp only [Act.put, List.setIfInBounds_toArray, List.set_cons_zero, List.set_cons_succ, i64_w, i32_w]
        rfl
      refine pure_ (i := 12) (N := some 27) (v := ?_) (a' := ?_) (tt 16 13) rfl rfl (any_of HT_.out (by kernel_rfl)) (fun _ _ _ h => h) (Or.inl ⟨by rfl, ?_⟩) ?_ ?_
      rotate_left
      · intro w'
        go_simp
        with_reducible rfl
      rotate_left
      · simp only [Act.put, List.setIfInBounds_toArray, List.set_cons_zero, List.set_cons_succ, i64_w, i32_w]
        rfl
      refine take_ (i := 13) (N := some 28) (v := ?_) (a' := ?_) (tt 16 14) rfl rfl (take_ofW HT_.out HW_.out (by kernel_rfl)) (fun _ _ _ h => h) (Or.inl ⟨by rfl, ?_⟩) hHeld ?_ ?_
      rotate_left
      · rintro w' ⟨s0, s1, s2, s3⟩
        go_simp
        with_reducible rfl
      rotate_left
      · simp only [Act.put, List.setIfInBounds_toArray, List.set_cons_zero, List.set_cons_succ, i64_w, i32_w]
        rfl
      refine one_ (i := 14) (N := some 29) (tt 16 15) rfl rfl (one_of HT_.out (by kernel_rfl)) (by decide) (fun K hK => ?_)
      refine goes_ Try.func72 (by kernel_rfl) rfl #[.slice A1 L.length q1, .slice A2 M.length q2] (by rfl) rfl rfl (by (try simp only [List.map_toArray, List.map_cons, List.map_nil]); first | done | rfl) ?_
      refine (EqP.int L M LS.out A1 q1 A2 q2 _ (Kd.C_below G1.out HR.out) L1.out (Kd.C_below G2.out HR.out) L2.out).mono ?_
      rintro q wq1 ⟨b, rfl, hb, hd⟩
      have HE := Aside0.mk hb
      refine ⟨_, rfl, ?_⟩
      replace HR := Aside0.mk (below_then HR.out HR.out.size hd.below)
      refine hK.out _ _ ⟨pw_cell_below hd.below hHeld.1, pw_cell_below hd.below hHeld.2.1, pw_cell_below hd.below hHeld.2.2.1, pw_cell_below hd.below hHeld.2.2.2⟩ (fun hHeld => ?_)
      clear hK K
      refine norm_ (a' := ?_) ?_ ?_
      rotate_left
      · show Act.put _ (some 29) _ = _
        simp only [Act.put, List.setIfInBounds_toArray, List.set_cons_zero, List.set_cons_succ, i64_w, i32_w]
        rfl
      refine pure_ (i := 15) (N := some 30) (v := ?_) (a' := ?_) (tt 16 16) rfl rfl (any_of HT_.out (by kernel_rfl)) (fun _ _ _ h => h) (Or.inl ⟨by rfl, ?_⟩) ?_ ?_
      rotate_left
      · intro w'
        go_simp
        with_reducible rfl
      rotate_left
      · simp only [Act.put, List.setIfInBounds_toArray, List.set_cons_zero, List.set_cons_succ, i64_w, i32_w]
        rfl
      refine done_ (done_of HT_.out (by kernel_rfl)) ?_
      clear HT_ HW_
      cases b with
      | false =>
        go_wp2_with fail
        go_ret
        exact ⟨_, rfl, fun z => HE.out (LM.out z), below_then HB2.out HB2.out.size HR.out⟩
      | true =>
        go_wp2_with fail
        go_roundg k1_
        case measure => omega
        case rel => exact ⟨i + 1, X + 1, by simp [nx], ⟨by have := HX.out; push_cast; omega⟩, ⟨by have := HI.out; omega⟩, ⟨below_then HN.out HN.out.size HR.out⟩⟩
      end Go.Proofs.Ytddoidcbpcmlaaa.RecE
/- set.Equal at two sets: it answers; at sets that hold the same it answers true. (By hand.) -/
namespace Go.Proofs.Ytddoidcbpcmlaaa.SetE
open Go.RowKit Go.Proofs.YtddoidcbpcmlaaaW.PrintWords Go.Proofs.YtddoidcbpcmlaaaW.PrintLast Go.Proofs.Ytddoidcbpcmlaaa.M Go.Proofs.Ytddoidcbpcmlaaa.Fr Go.Proofs.Ytddoidcbpcmlaaa.Ru
open Go.Proofs.Ytddoidcbpcmlaaa.LinC (twoB)
open Go.Proofs.Ytddoidcbpcmlaaa.SetC (range_of Sv Sp sagg OkS Small)
set_option linter.unusedVariables false
set_option linter.unusedSimpArgs false
theorem cells {v : Sv} {p : Sp} {w : World} {g : Nat} (h : w.heap[g]? = some (.cells (sagg v p) 32 (0, 0))) :
    w.cell? ⟨g, 0, none⟩ = some (.int .i64 v.s.f0) ∧ w.cell? ⟨g, 1, none⟩ = some (.int .i64 v.s.f1) ∧ w.cell? ⟨g, 2, none⟩ = some (.string v.s.f2) ∧ w.cell? ⟨g, 3, none⟩ = some (.bool v.again) ∧ w.cell? ⟨g, 21, none⟩ = some (.slice p.Ad v.ds.length p.cd) ∧ w.cell? ⟨g, 22, none⟩ = some (.slice p.Ab v.bs.length p.cb) :=
  ⟨(blk_cell h 0).trans rfl, (blk_cell h 1).trans rfl, (blk_cell h 2).trans rfl, (blk_cell h 3).trans rfl, (blk_cell h 21).trans rfl, (blk_cell h 22).trans rfl⟩
set_option maxHeartbeats 4000000 in
set_option maxRecDepth 100000 in
theorem equal (v u : Sv) (p p2 : Sp) (w : World) (ok : OkS v p w) (ok2 : OkS u p2 w) (hs : Small v) :
    Calls Try.prog 40 #[.agg (sagg v p), .agg (sagg u p2)] w fun q w' => ∃ b, q = .returned (.bool b) ∧ (v = u → b = true) ∧ Below w.heap.size w w' := by
  have OK := Aside0.mk ok; have OK2 := Aside0.mk ok2; have HS := Aside0.mk hs
  clear ok ok2 hs
  go_enter Try.func40, Try.ntmps40
  go_upto_region 1 with fail
  obtain ⟨w0, hw0, z0, q1, q2, qb⟩ := twoB w (.cells (sagg v p) 32 (0, 0)) (.cells (sagg u p2) 32 (0, 0))
  rw [← hw0]
  clear hw0
  have K1 := Aside0.mk q1; have K2 := Aside0.mk q2; have HB := Aside0.mk qb
  clear z0 q1 q2 qb
  obtain ⟨x0, x1, x2, x3, x21, x22⟩ := cells K1.out
  obtain ⟨y0, y1, y2, y3, y21, y22⟩ := cells K2.out
  rcases e0 : (v.s.f0 == u.s.f0) with _ | _
  · go_wp2_with fail
    go_ret
    exact ⟨_, rfl, fun z => by subst z; simp at e0, HB.out⟩
  rcases e1 : (v.s.f1 == u.s.f1) with _ | _
  · go_wp2_with fail
    go_ret
    exact ⟨_, rfl, fun z => by subst z; simp at e1, HB.out⟩
  rcases e2 : (v.s.f2.toList == u.s.f2.toList) with _ | _
  · go_wp2_with fail
    go_ret
    exact ⟨_, rfl, fun z => by subst z; simp at e2, HB.out⟩
  rcases e3 : (v.again == u.again) with _ | _
  · go_wp2_with fail
    go_ret
    exact ⟨_, rfl, fun z => by subst z; simp at e3, HB.out⟩
  rcases hA : v.again with _ | _
  · rw [hA] at x3 e3
    have e3' : u.again = false := by simpa using e3
    rw [e3'] at y3 e3
    clear e3'
    go_wp2_with fail
    refine (EqP.time v.ds u.ds HS.out.2.1 p.Ad p.cd p2.Ad p2.cd w0 (OK.out.below HB.out).hd OK.out.dd (OK2.out.below HB.out).hd OK2.out.dd).mono ?_
    rintro q w1 ⟨b, rfl, hbb, hd⟩
    have HE := Aside0.mk hbb
    have hb := hd.below
    replace x22 := pw_cell_below hb x22; replace y22 := pw_cell_below hb y22; replace HB := Aside0.mk (below_then HB.out HB.out.size hb)
    clear x0 x1 x2 x3 x21 y0 y1 y2 y3 y21 hd hb hbb
    rcases b with _ | _
    · go_wp2_with fail
      go_ret
      exact ⟨_, rfl, fun z => HE.out (by rw [z]), HB.out⟩
    go_wp2_with fail
    refine (EqP.time v.bs u.bs HS.out.2.2 p.Ab p.cb p2.Ab p2.cb w1 (OK.out.below HB.out).hb OK.out.db (OK2.out.below HB.out).hb OK2.out.db).mono ?_
    rintro q w2 ⟨b, rfl, hbb, hd⟩
    have HE := Aside0.mk hbb
    replace HB := Aside0.mk (below_then HB.out HB.out.size hd.below)
    clear x22 y22 hd hbb
    go_wp2_with fail
    go_ret
    exact ⟨_, rfl, fun z => HE.out (by rw [z]), HB.out⟩
  · rw [hA] at x3 e3
    have e3' : u.again = true := by simpa using e3
    rw [e3'] at y3 e3
    clear e3'
    go_wp2_with (first | ((with_reducible refine gate_ (.load 29 (.tmp 22)) rfl ?_); (try (refine gate_guard (by rfl) ?_; dsimp only)); refine wpList_load_mid rfl 29 (.tmp 22) rfl w.heap.size 4 rfl (agg v.r p.p).toList _ (range_of K1.out 4 _ _ rfl) Try.underlying29 rfl RecC.sz17 ?_) | ((with_reducible refine gate_ (.load 29 (.tmp 24)) rfl ?_); (try (refine gate_guard (by rfl) ?_; dsimp only)); refine wpList_load_mid rfl 29 (.tmp 24) rfl (w.heap.size + 1) 4 rfl (agg u.r p2.p).toList _ (range_of K2.out 4 _ _ rfl) Try.underlying29 rfl RecC.sz17 ?_))
    refine (RecE.equal v.r u.r p.p p2.p w0 (OK.out.below HB.out).o (OK2.out.below HB.out).o HS.out.1).mono ?_
    rintro q w1 ⟨b, rfl, hbb, hb⟩
    have HE := Aside0.mk hbb
    replace x21 := pw_cell_below hb x21; replace y21 := pw_cell_below hb y21; replace x22 := pw_cell_below hb x22; replace y22 := pw_cell_below hb y22; replace HB := Aside0.mk (below_then HB.out HB.out.size hb)
    clear x0 x1 x2 x3 y0 y1 y2 y3 hb hbb
    rcases b with _ | _
    · go_wp2_with fail
      go_ret
      exact ⟨_, rfl, fun z => HE.out (by rw [z]), HB.out⟩
    go_wp2_with fail
    refine (EqP.time v.ds u.ds HS.out.2.1 p.Ad p.cd p2.Ad p2.cd w1 (OK.out.below HB.out).hd OK.out.dd (OK2.out.below HB.out).hd OK2.out.dd).mono ?_
    rintro q w2 ⟨b, rfl, hbb, hd⟩
    have HE := Aside0.mk hbb
    have hb := hd.below
    replace x22 := pw_cell_below hb x22; replace y22 := pw_cell_below hb y22; replace HB := Aside0.mk (below_then HB.out HB.out.size hb)
    clear x21 y21 hd hb hbb
    rcases b with _ | _
    · go_wp2_with fail
      go_ret
      exact ⟨_, rfl, fun z => HE.out (by rw [z]), HB.out⟩
    go_wp2_with fail
    refine (EqP.time v.bs u.bs HS.out.2.2 p.Ab p.cb p2.Ab p2.cb w2 (OK.out.below HB.out).hb OK.out.db (OK2.out.below HB.out).hb OK2.out.db).mono ?_
    rintro q w3 ⟨b, rfl, hbb, hd⟩
    have HE := Aside0.mk hbb
    replace HB := Aside0.mk (below_then HB.out HB.out.size hd.below)
    clear x22 y22 hd hbb
    go_wp2_with fail
    go_ret
    exact ⟨_, rfl, fun z => HE.out (by rw [z]), HB.out⟩
end Go.Proofs.Ytddoidcbpcmlaaa.SetE
/- line.Equal at two lines: it answers; at lines that hold the same it answers true. (By hand; functions 59, 58, 43, 42 of seat r3.) -/
namespace Go.Proofs.Ytddoidcbpcmlaaa.LinE
open Go.RowKit Go.Proofs.YtddoidcbpcmlaaaW.PrintWords Go.Proofs.YtddoidcbpcmlaaaW.PrintLast Go.Proofs.Ytddoidcbpcmlaaa.M Go.Proofs.Ytddoidcbpcmlaaa.Fr
open Go.Proofs.Ytddoidcbpcmlaaa.LinC (twoB)
set_option linter.unusedVariables false
set_option linter.unusedSimpArgs false
set_option maxHeartbeats 4000000 in
set_option maxRecDepth 100000 in
theorem param (x y : S105) (A : Option Addr) (c : Nat) (A2 : Option Addr) (c2 : Nat) (w : World) (h1 : Kd.C Kd.string w A x.f1.length x.f1) (d1 : x.f1.length ≤ c) (h2 : Kd.C Kd.string w A2 y.f1.length y.f1) (d2 : y.f1.length ≤ c2) (hs : x.f1.length ≤ 8796093022208) :
    Calls Try.prog 59 #[.agg #[.string x.f0, .slice A x.f1.length c], .agg #[.string y.f0, .slice A2 y.f1.length c2]] w fun q w' => ∃ b, q = .returned (.bool b) ∧ (x = y → b = true) ∧ Below w.heap.size w w' := by
  have H1 := Aside0.mk h1; have H2 := Aside0.mk h2; have D1 := Aside0.mk d1; have D2 := Aside0.mk d2; have HS := Aside0.mk hs
  clear h1 h2 d1 d2 hs
  go_enter Try.func59, Try.ntmps59
  go_upto_region 1 with fail
  obtain ⟨w0, hw0, z0, q1, q2, qb⟩ := twoB w (.cells #[.string x.f0, .slice A x.f1.length c] 105 (0, 0)) (.cells #[.string y.f0, .slice A2 y.f1.length c2] 105 (0, 0))
  rw [← hw0]
  clear hw0
  have HB := Aside0.mk qb
  have x0 : w0.cell? ⟨w.heap.size, 0, none⟩ = some (.string x.f0) := (blk_cell q1 0).trans rfl
  have x1 : w0.cell? ⟨w.heap.size, 1, none⟩ = some (.slice A x.f1.length c) := (blk_cell q1 1).trans rfl
  have y0 : w0.cell? ⟨w.heap.size + 1, 0, none⟩ = some (.string y.f0) := (blk_cell q2 0).trans rfl
  have y1 : w0.cell? ⟨w.heap.size + 1, 1, none⟩ = some (.slice A2 y.f1.length c2) := (blk_cell q2 1).trans rfl
  clear z0 q1 q2 qb
  rcases e0 : (x.f0.toList == y.f0.toList) with _ | _
  · go_wp2_with fail
    go_ret
    exact ⟨_, rfl, fun z => by subst z; simp at e0, HB.out⟩
  go_wp2_with fail
  refine (EqP.str x.f1 y.f1 HS.out A c A2 c2 w0 (Kd.C_below H1.out HB.out) D1.out (Kd.C_below H2.out HB.out) D2.out).mono ?_
  rintro q w1 ⟨b, rfl, hb, hd⟩
  have HE := Aside0.mk hb
  replace HB := Aside0.mk (below_then HB.out HB.out.size hd.below)
  clear x0 x1 y0 y1 hd hb
  go_wp2_with fail
  go_ret
  exact ⟨b, rfl, fun z => HE.out (by rw [z]), HB.out⟩
set_option maxHeartbeats 4000000 in
set_option maxRecDepth 100000 in
theorem params (ps qs : List S105) (A : Option Addr) (c : Nat) (A2 : Option Addr) (c2 : Nat) (w : World) (h1 : Kd.C k105 w A ps.length ps) (h2 : Kd.C k105 w A2 qs.length qs) (hs : ps.length ≤ 3518437208883) (hm : ∀ p ∈ ps, p.f1.length ≤ 8796093022208) :
    Calls Try.prog 58 #[.slice A ps.length c, .slice A2 qs.length c2, .func (.func 59) #[] #[]] w fun q w' => ∃ b, q = .returned (.bool b) ∧ (ps = qs → b = true) ∧ Below w.heap.size w w' := by
  have H1 := Aside0.mk h1; have H2 := Aside0.mk h2; have HS := Aside0.mk hs; have HM := Aside0.mk hm
  clear h1 h2 hs hm
  go_enter Try.func58, Try.ntmps58
  rcases e0 : ((ps.length : Int) != (qs.length : Int)) with _ | _
  rotate_left
  · go_wp2_with fail
    go_ret
    exact ⟨_, rfl, fun z => by subst z; simp at e0, Below.refl _ _⟩
  go_wp2_with fail
  have LE := Aside0.mk (show (ps.length : Int) = (qs.length : Int) by simpa using e0)
  clear e0
  go_loopg [17] ps.length (fun kq v17 w' => ∃ (i : Nat) (X : Int), v17 = .int .i64 X ∧ Aside0 (X = (i : Int)) ∧ Aside0 (i + kq = ps.length) ∧ Aside0 (Below w.heap.size w w'))
  case atStart => exact ⟨0, 0, rfl, ⟨rfl⟩, ⟨by omega⟩, ⟨Below.refl _ _⟩⟩
  case round =>
    obtain ⟨i, X, rfl, HX, HI, HB⟩ := hrel
    cases gk with
    | zero =>
      have l1 : decide (X < (ps.length : Int)) = false := decide_eq_false (by have := HX.out; have := HI.out; omega)
      go_wp2_with fail
      go_ret
      exact ⟨true, rfl, fun _ => rfl, HB.out⟩
    | succ k1_ =>
      have p1 : 0 ≤ X := by have := HX.out; omega
      have q1 : X < (ps.length : Int) := by have := HX.out; have := HI.out; omega
      have q2 : X < (qs.length : Int) := by have := LE.out; omega
      have l1 : decide (X < (ps.length : Int)) = true := decide_eq_true q1
      have nx : wrap64 (X + 1) = X + 1 := by have := HX.out; have := HI.out; have := HS.out; unfold wrap64; omega
      obtain ⟨ad, B1, b1, rfl, x0, x1, lx, gx⟩ := at_T105 (Kd.C_below H1.out HB.out) X p1 q1
      obtain ⟨ad2, B2, b2, rfl, y0, y1, ly, gy⟩ := at_T105 (Kd.C_below H2.out HB.out) X p1 q2
      have hm : (rd_T105 ps X).f1.length ≤ 8796093022208 := by
        have hi : i < ps.length := by have := HI.out; omega
        have e : rd_T105 ps X = ps[i] := by simp [rd_T105, HX.out, hi]
        rw [e]
        exact HM.out _ (List.getElem_mem hi)
      obtain ⟨x, hx⟩ : ∃ x, rd_T105 ps X = x := ⟨_, rfl⟩
      obtain ⟨y, hy⟩ : ∃ y, rd_T105 qs X = y := ⟨_, rfl⟩
      have hxy : ps = qs → x = y := fun z => by rw [← hx, ← hy, z]
      rw [hx] at x0 x1 lx gx hm
      rw [hy] at y0 y1 ly gy
      have LX := Aside0.mk lx; have GX := Aside0.mk gx; have LY := Aside0.mk ly; have GY := Aside0.mk gy; have HL := Aside0.mk hm; have XY := Aside0.mk hxy
      replace p1 := eq_true p1; replace q1 := eq_true q1; replace q2 := eq_true q2
      clear lx gx ly gy hm hx hy hxy
      have y0a : ∀ ob, (wr.alloc ob).cell? (ad2.add (X.toNat * 2)) = some (.string y.f0) := fun ob => Lib.cell?_alloc_some ob y0
      have y1a : ∀ ob, (wr.alloc ob).cell? ⟨(ad2.add (X.toNat * 2)).block, (ad2.add (X.toNat * 2)).off + 1, none⟩ = some (.slice B2 y.f1.length b2) := fun ob => Lib.cell?_alloc_some ob y1
      go_upto_region 7 with fail
      obtain ⟨w0, hw0, z0, q3, q4, qb⟩ := twoB wr (.cells #[.string x.f0, .slice B1 x.f1.length b1] 105 (0, 0)) (.cells #[.string y.f0, .slice B2 y.f1.length b2] 105 (0, 0))
      rw [← hw0]
      clear hw0
      have u0 : w0.cell? ⟨wr.heap.size, 0, none⟩ = some (.string x.f0) := (blk_cell q3 0).trans rfl
      have u1 : w0.cell? ⟨wr.heap.size, 1, none⟩ = some (.slice B1 x.f1.length b1) := (blk_cell q3 1).trans rfl
      have v0 : w0.cell? ⟨wr.heap.size + 1, 0, none⟩ = some (.string y.f0) := (blk_cell q4 0).trans rfl
      have v1 : w0.cell? ⟨wr.heap.size + 1, 1, none⟩ = some (.slice B2 y.f1.length b2) := (blk_cell q4 1).trans rfl
      have HN := Aside0.mk qb
      clear z0 q3 q4 qb x0 x1 y0 y1 y0a y1a
      go_wp2_with fail
      refine (param x y B1 b1 B2 b2 w0 (Kd.C_below GX.out HN.out) LX.out (Kd.C_below GY.out HN.out) LY.out HL.out).mono ?_
      rintro q w1 ⟨b, rfl, hb, hd⟩
      have HE := Aside0.mk hb
      replace HB := Aside0.mk (below_then HB.out HB.out.size (below_then HN.out HN.out.size hd))
      clear u0 u1 v0 v1 hb hd
      cases b with
      | false =>
        go_wp2_with fail
        go_ret
        exact ⟨_, rfl, fun z => HE.out (XY.out z), HB.out⟩
      | true =>
        go_wp2_with fail
        go_roundg k1_
        case measure => omega
        case rel => exact ⟨i + 1, X + 1, by simp [nx], ⟨by have := HX.out; push_cast; omega⟩, ⟨by have := HI.out; omega⟩, HB⟩
set_option maxHeartbeats 4000000 in
set_option maxRecDepth 100000 in
theorem line (x y : S55) (A : Option Addr) (c : Nat) (A2 : Option Addr) (c2 : Nat) (w : World) (h1 : Kd.C k105 w A x.f1.length x.f1) (h2 : Kd.C k105 w A2 y.f1.length y.f1) (hs : x.f1.length ≤ 3518437208883 ∧ ∀ p ∈ x.f1, p.f1.length ≤ 8796093022208) :
    Calls Try.prog 43 #[.agg #[.string x.f0, .slice A x.f1.length c, .string x.f2], .agg #[.string y.f0, .slice A2 y.f1.length c2, .string y.f2]] w fun q w' => ∃ b, q = .returned (.bool b) ∧ (x = y → b = true) ∧ Below w.heap.size w w' := by
  have H1 := Aside0.mk h1; have H2 := Aside0.mk h2; have HS := Aside0.mk hs
  clear h1 h2 hs
  go_enter Try.func43, Try.ntmps43
  go_upto_region 1 with fail
  obtain ⟨w0, hw0, z0, q1, q2, qb⟩ := twoB w (.cells #[.string x.f0, .slice A x.f1.length c, .string x.f2] 55 (0, 0)) (.cells #[.string y.f0, .slice A2 y.f1.length c2, .string y.f2] 55 (0, 0))
  rw [← hw0]
  clear hw0
  have HB := Aside0.mk qb
  have x0 : w0.cell? ⟨w.heap.size, 0, none⟩ = some (.string x.f0) := (blk_cell q1 0).trans rfl
  have x1 : w0.cell? ⟨w.heap.size, 1, none⟩ = some (.slice A x.f1.length c) := (blk_cell q1 1).trans rfl
  have x2 : w0.cell? ⟨w.heap.size, 2, none⟩ = some (.string x.f2) := (blk_cell q1 2).trans rfl
  have y0 : w0.cell? ⟨w.heap.size + 1, 0, none⟩ = some (.string y.f0) := (blk_cell q2 0).trans rfl
  have y1 : w0.cell? ⟨w.heap.size + 1, 1, none⟩ = some (.slice A2 y.f1.length c2) := (blk_cell q2 1).trans rfl
  have y2 : w0.cell? ⟨w.heap.size + 1, 2, none⟩ = some (.string y.f2) := (blk_cell q2 2).trans rfl
  clear z0 q1 q2 qb
  rcases e0 : (x.f0.toList == y.f0.toList) with _ | _
  · go_wp2_with fail
    go_ret
    exact ⟨_, rfl, fun z => by subst z; simp at e0, HB.out⟩
  rcases e2 : (x.f2.toList == y.f2.toList) with _ | _
  · go_wp2_with fail
    go_ret
    exact ⟨_, rfl, fun z => by subst z; simp at e2, HB.out⟩
  go_wp2_with fail
  refine (params x.f1 y.f1 A c A2 c2 w0 (Kd.C_below H1.out HB.out) (Kd.C_below H2.out HB.out) HS.out.1 HS.out.2).mono ?_
  rintro q w1 ⟨b, rfl, hb, hd⟩
  have HE := Aside0.mk hb
  replace HB := Aside0.mk (below_then HB.out HB.out.size hd)
  clear x0 x1 x2 y0 y1 y2 hd hb
  go_wp2_with fail
  go_ret
  exact ⟨b, rfl, fun z => HE.out (by rw [z]), HB.out⟩
set_option maxHeartbeats 4000000 in
set_option maxRecDepth 100000 in
theorem lines (ps qs : List S55) (A : Option Addr) (c : Nat) (A2 : Option Addr) (c2 : Nat) (w : World) (h1 : Kd.C k55 w A ps.length ps) (h2 : Kd.C k55 w A2 qs.length qs) (hs : ps.length ≤ 1000000) (hm : ∀ l ∈ ps, l.f1.length ≤ 3518437208883 ∧ ∀ p ∈ l.f1, p.f1.length ≤ 8796093022208) :
    Calls Try.prog 42 #[.slice A ps.length c, .slice A2 qs.length c2, .func (.func 43) #[] #[]] w fun q w' => ∃ b, q = .returned (.bool b) ∧ (ps = qs → b = true) ∧ Below w.heap.size w w' := by
  have H1 := Aside0.mk h1; have H2 := Aside0.mk h2; have HS := Aside0.mk hs; have HM := Aside0.mk hm
  clear h1 h2 hs hm
  go_enter Try.func42, Try.ntmps42
  rcases e0 : ((ps.length : Int) != (qs.length : Int)) with _ | _
  rotate_left
  · go_wp2_with fail
    go_ret
    exact ⟨_, rfl, fun z => by subst z; simp at e0, Below.refl _ _⟩
  go_wp2_with fail
  have LE := Aside0.mk (show (ps.length : Int) = (qs.length : Int) by simpa using e0)
  clear e0
  go_loopg [17] ps.length (fun kq v17 w' => ∃ (i : Nat) (X : Int), v17 = .int .i64 X ∧ Aside0 (X = (i : Int)) ∧ Aside0 (i + kq = ps.length) ∧ Aside0 (Below w.heap.size w w'))
  case atStart => exact ⟨0, 0, rfl, ⟨rfl⟩, ⟨by omega⟩, ⟨Below.refl _ _⟩⟩
  case round =>
    obtain ⟨i, X, rfl, HX, HI, HB⟩ := hrel
    cases gk with
    | zero =>
      have l1 : decide (X < (ps.length : Int)) = false := decide_eq_false (by have := HX.out; have := HI.out; omega)
      go_wp2_with fail
      go_ret
      exact ⟨true, rfl, fun _ => rfl, HB.out⟩
    | succ k1_ =>
      have p1 : 0 ≤ X := by have := HX.out; omega
      have q1 : X < (ps.length : Int) := by have := HX.out; have := HI.out; omega
      have q2 : X < (qs.length : Int) := by have := LE.out; omega
      have l1 : decide (X < (ps.length : Int)) = true := decide_eq_true q1
      have nx : wrap64 (X + 1) = X + 1 := by have := HX.out; have := HI.out; have := HS.out; unfold wrap64; omega
      obtain ⟨ad, B1, b1, rfl, x0, x1, x2, lx, gx⟩ := at_T55 (Kd.C_below H1.out HB.out) X p1 q1
      obtain ⟨ad2, B2, b2, rfl, y0, y1, y2, ly, gy⟩ := at_T55 (Kd.C_below H2.out HB.out) X p1 q2
      have hm : (rd_T55 ps X).f1.length ≤ 3518437208883 ∧ ∀ p ∈ (rd_T55 ps X).f1, p.f1.length ≤ 8796093022208 := by
        have hi : i < ps.length := by have := HI.out; omega
        have e : rd_T55 ps X = ps[i] := by simp [rd_T55, HX.out, hi]
        rw [e]
        exact HM.out _ (List.getElem_mem hi)
      obtain ⟨x, hx⟩ : ∃ x, rd_T55 ps X = x := ⟨_, rfl⟩
      obtain ⟨y, hy⟩ : ∃ y, rd_T55 qs X = y := ⟨_, rfl⟩
      have hxy : ps = qs → x = y := fun z => by rw [← hx, ← hy, z]
      rw [hx] at x0 x1 x2 lx gx hm
      rw [hy] at y0 y1 y2 ly gy
      have LX := Aside0.mk lx; have GX := Aside0.mk gx; have LY := Aside0.mk ly; have GY := Aside0.mk gy; have HL := Aside0.mk hm; have XY := Aside0.mk hxy
      replace p1 := eq_true p1; replace q1 := eq_true q1; replace q2 := eq_true q2
      clear lx gx ly gy hm hx hy hxy
      have y0a : ∀ ob, (wr.alloc ob).cell? (ad2.add (X.toNat * 3)) = some (.string y.f0) := fun ob => Lib.cell?_alloc_some ob y0
      have y1a : ∀ ob, (wr.alloc ob).cell? ⟨(ad2.add (X.toNat * 3)).block, (ad2.add (X.toNat * 3)).off + 1, none⟩ = some (.slice B2 y.f1.length b2) := fun ob => Lib.cell?_alloc_some ob y1
      have y2a : ∀ ob, (wr.alloc ob).cell? ⟨(ad2.add (X.toNat * 3)).block, (ad2.add (X.toNat * 3)).off + 2, none⟩ = some (.string y.f2) := fun ob => Lib.cell?_alloc_some ob y2
      go_upto_region 7 with fail
      obtain ⟨w0, hw0, z0, q3, q4, qb⟩ := twoB wr (.cells #[.string x.f0, .slice B1 x.f1.length b1, .string x.f2] 55 (0, 0)) (.cells #[.string y.f0, .slice B2 y.f1.length b2, .string y.f2] 55 (0, 0))
      rw [← hw0]
      clear hw0
      have u0 : w0.cell? ⟨wr.heap.size, 0, none⟩ = some (.string x.f0) := (blk_cell q3 0).trans rfl
      have u1 : w0.cell? ⟨wr.heap.size, 1, none⟩ = some (.slice B1 x.f1.length b1) := (blk_cell q3 1).trans rfl
      have u2 : w0.cell? ⟨wr.heap.size, 2, none⟩ = some (.string x.f2) := (blk_cell q3 2).trans rfl
      have v2 : w0.cell? ⟨wr.heap.size + 1, 2, none⟩ = some (.string y.f2) := (blk_cell q4 2).trans rfl
      have v0 : w0.cell? ⟨wr.heap.size + 1, 0, none⟩ = some (.string y.f0) := (blk_cell q4 0).trans rfl
      have v1 : w0.cell? ⟨wr.heap.size + 1, 1, none⟩ = some (.slice B2 y.f1.length b2) := (blk_cell q4 1).trans rfl
      have HN := Aside0.mk qb
      clear z0 q3 q4 qb x0 x1 x2 y0 y1 y2 y0a y1a y2a
      go_wp2_with fail
      refine (line x y B1 b1 B2 b2 w0 (Kd.C_below GX.out HN.out) (Kd.C_below GY.out HN.out) HL.out).mono ?_
      rintro q w1 ⟨b, rfl, hb, hd⟩
      have HE := Aside0.mk hb
      replace HB := Aside0.mk (below_then HB.out HB.out.size (below_then HN.out HN.out.size hd))
      clear u0 u1 u2 v0 v1 v2 hb hd
      cases b with
      | false =>
        go_wp2_with fail
        go_ret
        exact ⟨_, rfl, fun z => HE.out (XY.out z), HB.out⟩
      | true =>
        go_wp2_with fail
        go_roundg k1_
        case measure => omega
        case rel => exact ⟨i + 1, X + 1, by simp [nx], ⟨by have := HX.out; push_cast; omega⟩, ⟨by have := HI.out; omega⟩, HB⟩
end Go.Proofs.Ytddoidcbpcmlaaa.LinE
/- event.Equal at two events: it answers; at events that hold the same it answers true. (Written by gen_eve.py.) -/
namespace Go.Proofs.Ytddoidcbpcmlaaa.EvE
open Go.RowKit Go.Proofs.YtddoidcbpcmlaaaW.PrintWords Go.Proofs.YtddoidcbpcmlaaaW.PrintLast Go.Proofs.Ytddoidcbpcmlaaa.M Go.Proofs.Ytddoidcbpcmlaaa.Fr Go.Proofs.Ytddoidcbpcmlaaa.Ru
open Go.Proofs.Ytddoidcbpcmlaaa.LinC (twoB)
open Go.Proofs.Ytddoidcbpcmlaaa.SetC (range_of sagg)
open Go.Proofs.Ytddoidcbpcmlaaa.EvC (Ev Ep eagg OkE Small)
set_option linter.unusedVariables false
set_option linter.unusedSimpArgs false
theorem cells {v : Ev} {p : Ep} {w : World} {g : Nat} (h : w.heap[g]? = some (.cells (eagg v p) 36 (0, 0))) : w.cell? ⟨g, 0, none⟩ = some (.string v.uid) ∧ w.cell? ⟨g, 1, none⟩ = some (.int .i64 v.seq) ∧ w.cell? ⟨g, 2, none⟩ = some (.int .i64 v.stamp) ∧ w.cell? ⟨g, 26, none⟩ = some (.int .i64 v.len) ∧ w.cell? ⟨g, 27, none⟩ = some (.string v.sum) ∧ w.cell? ⟨g, 28, none⟩ = some (.string v.com) ∧ w.cell? ⟨g, 29, none⟩ = some (.int .i64 v.sta) ∧ w.cell? ⟨g, 30, none⟩ = some (.string v.org) ∧ w.cell? ⟨g, 31, none⟩ = some (.slice p.Ap v.ps.length p.cp) ∧ w.cell? ⟨g, 32, none⟩ = some (.bool v.is) ∧ w.cell? ⟨g, 33, none⟩ = some (.int .i64 v.part.f0) ∧ w.cell? ⟨g, 34, none⟩ = some (.int .i64 v.part.f1) ∧ w.cell? ⟨g, 35, none⟩ = some (.string v.part.f2) ∧ w.cell? ⟨g, 36, none⟩ = some (.bool v.fut) ∧ w.cell? ⟨g, 37, none⟩ = some (.slice p.Ax v.ex.length p.cx) :=
  ⟨(blk_cell h 0).trans rfl, (blk_cell h 1).trans rfl, (blk_cell h 2).trans rfl, (blk_cell h 26).trans rfl, (blk_cell h 27).trans rfl, (blk_cell h 28).trans rfl, (blk_cell h 29).trans rfl, (blk_cell h 30).trans rfl, (blk_cell h 31).trans rfl, (blk_cell h 32).trans rfl, (blk_cell h 33).trans rfl, (blk_cell h 34).trans rfl, (blk_cell h 35).trans rfl, (blk_cell h 36).trans rfl, (blk_cell h 37).trans rfl⟩
theorem setOf {v : Ev} {p : Ep} {w : World} {g : Nat} (h : w.heap[g]? = some (.cells (eagg v p) 36 (0, 0))) : w.rangeAt g 3 (sagg v.set p.sp).toList := range_of h 3 _ _ rfl
theorem sz23 : (Try.prog.info? 32).map (·.size) = some 23 := by kernel_rfl
set_option maxHeartbeats 4000000 in
set_option maxRecDepth 100000 in
theorem equal (v u : Ev) (p p2 : Ep) (w : World) (ok : OkE v p w) (ok2 : OkE u p2 w) (hs : Small v) :
    Calls Try.prog 19 #[.agg (eagg v p), .agg (eagg u p2)] w fun q w' => ∃ b, q = .returned (.bool b) ∧ (v = u → b = true) ∧ Below w.heap.size w w' := by
  have OK := Aside0.mk ok; have OK2 := Aside0.mk ok2; have HS := Aside0.mk hs
  clear ok ok2 hs
  go_enter Try.func19, Try.ntmps19
  go_upto_region 1 with fail
  obtain ⟨w0, hw0, z0, q1, q2, qb⟩ := twoB w (.cells (eagg v p) 36 (0, 0)) (.cells (eagg u p2) 36 (0, 0))
  rw [← hw0]
  clear hw0
  have K1 := Aside0.mk q1; have K2 := Aside0.mk q2; have HB := Aside0.mk qb
  clear z0 q1 q2 qb
  simp only [List.append_eq, List.cons_append, List.nil_append]
  obtain ⟨x0, x1, x2, x26, x27, x28, x29, x30, x31, x32, x33, x34, x35, x36, x37⟩ := cells K1.out
  obtain ⟨y0, y1, y2, y26, y27, y28, y29, y30, y31, y32, y33, y34, y35, y36, y37⟩ := cells K2.out
  rcases e0 : (v.uid.toList == u.uid.toList) with _ | _
  · go_wp2_with fail
    go_ret
    exact ⟨_, rfl, fun z => by subst z; simp at e0, HB.out⟩
  rcases e1 : (v.seq == u.seq) with _ | _
  · go_wp2_with fail
    go_ret
    exact ⟨_, rfl, fun z => by subst z; simp at e1, HB.out⟩
  rcases e2 : (v.stamp == u.stamp) with _ | _
  · go_wp2_with fail
    go_ret
    exact ⟨_, rfl, fun z => by subst z; simp at e2, HB.out⟩
  go_wp2_with (first | ((with_reducible refine gate_ (.load 32 (.tmp 25)) rfl ?_); (try (refine gate_guard (by rfl) ?_; dsimp only)); refine wpList_load_mid rfl 32 (.tmp 25) rfl w.heap.size 3 rfl (sagg v.set p.sp).toList _ (setOf K1.out) Try.underlying32 rfl sz23 ?_) | ((with_reducible refine gate_ (.load 32 (.tmp 27)) rfl ?_); (try (refine gate_guard (by rfl) ?_; dsimp only)); refine wpList_load_mid rfl 32 (.tmp 27) rfl (w.heap.size + 1) 3 rfl (sagg u.set p2.sp).toList _ (setOf K2.out) Try.underlying32 rfl sz23 ?_))
  refine (SetE.equal v.set u.set p.sp p2.sp w0 (OK.out.below HB.out).s (OK2.out.below HB.out).s HS.out.1).mono ?_
  rintro q w1 ⟨b, rfl, hbb, hd⟩
  have HE := Aside0.mk hbb
  have hb := hd
  replace x26 := pw_cell_below hb x26; replace y26 := pw_cell_below hb y26
  replace x27 := pw_cell_below hb x27; replace y27 := pw_cell_below hb y27
  replace x28 := pw_cell_below hb x28; replace y28 := pw_cell_below hb y28
  replace x29 := pw_cell_below hb x29; replace y29 := pw_cell_below hb y29
  replace x30 := pw_cell_below hb x30; replace y30 := pw_cell_below hb y30
  replace x31 := pw_cell_below hb x31; replace y31 := pw_cell_below hb y31
  replace x32 := pw_cell_below hb x32; replace y32 := pw_cell_below hb y32
  replace x33 := pw_cell_below hb x33; replace y33 := pw_cell_below hb y33
  replace x34 := pw_cell_below hb x34; replace y34 := pw_cell_below hb y34
  replace x35 := pw_cell_below hb x35; replace y35 := pw_cell_below hb y35
  replace x36 := pw_cell_below hb x36; replace y36 := pw_cell_below hb y36
  replace x37 := pw_cell_below hb x37; replace y37 := pw_cell_below hb y37
  replace HB := Aside0.mk (below_then HB.out HB.out.size hb)
  clear x0 y0 x1 y1 x2 y2 e0 e1 e2 hd hb hbb
  rcases b with _ | _
  · go_wp2_with fail
    go_ret
    exact ⟨_, rfl, fun z => HE.out (by rw [z]), HB.out⟩
  clear HE
  rcases e26 : (v.len == u.len) with _ | _
  · go_wp2_with fail
    go_ret
    exact ⟨_, rfl, fun z => by subst z; simp at e26, HB.out⟩
  rcases e27 : (v.sum.toList == u.sum.toList) with _ | _
  · go_wp2_with fail
    go_ret
    exact ⟨_, rfl, fun z => by subst z; simp at e27, HB.out⟩
  rcases e28 : (v.com.toList == u.com.toList) with _ | _
  · go_wp2_with fail
    go_ret
    exact ⟨_, rfl, fun z => by subst z; simp at e28, HB.out⟩
  rcases e29 : (v.sta == u.sta) with _ | _
  · go_wp2_with fail
    go_ret
    exact ⟨_, rfl, fun z => by subst z; simp at e29, HB.out⟩
  rcases e30 : (v.org.toList == u.org.toList) with _ | _
  · go_wp2_with fail
    go_ret
    exact ⟨_, rfl, fun z => by subst z; simp at e30, HB.out⟩
  go_wp2_with fail
  refine (EqP.person v.ps u.ps HS.out.2.1 p.Ap p.cp p2.Ap p2.cp w1 (OK.out.below HB.out).hp OK.out.dp (OK2.out.below HB.out).hp OK2.out.dp).mono ?_
  rintro q w2 ⟨b, rfl, hbb, hd⟩
  have HE := Aside0.mk hbb
  have hb := hd.below
  replace x32 := pw_cell_below hb x32; replace y32 := pw_cell_below hb y32
  replace x33 := pw_cell_below hb x33; replace y33 := pw_cell_below hb y33
  replace x34 := pw_cell_below hb x34; replace y34 := pw_cell_below hb y34
  replace x35 := pw_cell_below hb x35; replace y35 := pw_cell_below hb y35
  replace x36 := pw_cell_below hb x36; replace y36 := pw_cell_below hb y36
  replace x37 := pw_cell_below hb x37; replace y37 := pw_cell_below hb y37
  replace HB := Aside0.mk (below_then HB.out HB.out.size hb)
  clear x26 y26 x27 y27 x28 y28 x29 y29 x30 y30 x31 y31 e26 e27 e28 e29 e30 hd hb hbb
  rcases b with _ | _
  · go_wp2_with fail
    go_ret
    exact ⟨_, rfl, fun z => HE.out (by rw [z]), HB.out⟩
  clear HE
  rcases e32 : (v.is == u.is) with _ | _
  · go_wp2_with fail
    go_ret
    exact ⟨_, rfl, fun z => by subst z; simp at e32, HB.out⟩
  rcases e33 : (v.part.f0 == u.part.f0) with _ | _
  · go_wp2_with fail
    go_ret
    exact ⟨_, rfl, fun z => by subst z; simp at e33, HB.out⟩
  rcases e34 : (v.part.f1 == u.part.f1) with _ | _
  · go_wp2_with fail
    go_ret
    exact ⟨_, rfl, fun z => by subst z; simp at e34, HB.out⟩
  rcases e35 : (v.part.f2.toList == u.part.f2.toList) with _ | _
  · go_wp2_with fail
    go_ret
    exact ⟨_, rfl, fun z => by subst z; simp at e35, HB.out⟩
  rcases e36 : (v.fut == u.fut) with _ | _
  · go_wp2_with fail
    go_ret
    exact ⟨_, rfl, fun z => by subst z; simp at e36, HB.out⟩
  go_wp2_with fail
  refine (LinE.lines v.ex u.ex p.Ax p.cx p2.Ax p2.cx w2 (OK.out.below HB.out).hx (OK2.out.below HB.out).hx HS.out.2.2.1 HS.out.2.2.2).mono ?_
  rintro q w3 ⟨b, rfl, hbb, hd⟩
  have HE := Aside0.mk hbb
  have hb := hd
  replace HB := Aside0.mk (below_then HB.out HB.out.size hb)
  clear x32 y32 x33 y33 x34 y34 x35 y35 x36 y36 x37 y37 e32 e33 e34 e35 e36 hd hb hbb
  go_wp2_with fail
  go_ret
  exact ⟨_, rfl, fun z => HE.out (by rw [z]), HB.out⟩
end Go.Proofs.Ytddoidcbpcmlaaa.EvE
/- Contracts of Go's library at this seat: written by the kit's lay-shelf.mjs and lay-plain.mjs, picked by shelf_pick.py. -/
namespace Go.Proofs.Ytddoidcbpcmlaaa.Shelf
open Go.Shelf Go.Proofs
set_option linter.unusedVariables false
def lays150_ren : Go.Shelf.Ren := ⟨fun | 150 => 31 | 153 => 48 | 152 => 64 | 226 => 65 | 227 => 66 | 228 => 67 | 137 => 84 | 119 => 85 | 224 => 86 | 225 => 87 | 217 => 94 | 266 => 96 | n => n, fun | 9 => 9 | 4 => 4 | 3 => 3 | 5 => 5 | 21 => 21 | 117 => 123 | 116 => 122 | 0 => 0 | 46 => 117 | 124 => 157 | n => n, fun | n => n⟩
theorem lays150 : Go.Proofs.Lays.n150 Try.prog lays150_ren := {
  mixed := by kernel_rfl
  f119 := Try.func85.trans (congrArg some (by kernel_rfl))
  f137 := Try.func84.trans (congrArg some (by kernel_rfl))
  f150 := Try.func31.trans (congrArg some (by kernel_rfl))
  f152 := Try.func64.trans (congrArg some (by kernel_rfl))
  f153 := Try.func48.trans (congrArg some (by kernel_rfl))
  f217 := Try.func94.trans (congrArg some (by kernel_rfl))
  f224 := Try.func86.trans (congrArg some (by kernel_rfl))
  f225 := Try.func87.trans (congrArg some (by kernel_rfl))
  f226 := Try.func65.trans (congrArg some (by kernel_rfl))
  f227 := Try.func66.trans (congrArg some (by kernel_rfl))
  f228 := Try.func67.trans (congrArg some (by kernel_rfl))
  f266 := Try.func96.trans (congrArg some (by kernel_rfl))
  t0 := Try.underlying0
  a0 := Try.isAgg0
  z0 := Try.sizeOf0
  v0 := Try.zeroValue0
  t3 := Try.underlying3
  a3 := Try.isAgg3
  z3 := Try.sizeOf3
  v3 := Try.zeroValue3
  t4 := Try.underlying4
  a4 := Try.isAgg4
  z4 := Try.sizeOf4
  v4 := Try.zeroValue4
  t5 := Try.underlying5
  a5 := Try.isAgg5
  z5 := Try.sizeOf5
  v5 := Try.zeroValue5
  t9 := Try.underlying9
  a9 := Try.isAgg9
  z9 := Try.sizeOf9
  v9 := Try.zeroValue9
  t21 := Try.underlying21
  a21 := Try.isAgg21
  z21 := Try.sizeOf21
  v21 := Try.zeroValue21
  t46 := Try.underlying117
  a46 := Try.isAgg117
  z46 := Try.sizeOf117
  v46 := Try.zeroValue117
  t116 := Try.underlying122
  a116 := Try.isAgg122
  z116 := Try.sizeOf122
  t117 := Try.underlying123
  a117 := Try.isAgg123
  z117 := Try.sizeOf123
  v117 := Try.zeroValue123
  t124 := Try.underlying157
  a124 := Try.isAgg157
  z124 := Try.sizeOf157
  v124 := Try.zeroValue157 }
open Go.RowKit Go.Lib in
theorem strings_ContainsAny_laid (s chars : ByteArray) (w : World) (hs : s.size < 4294967281) (hcs : chars.size < 4294967281) (has : ∀ (j : Nat) b, s.data.toList[j]? = some b → b.toNat < 128) (hac : ∀ (j : Nat) b, chars.data.toList[j]? = some b → b.toNat < 128) :
    Calls Try.prog 31 #[.string s, .string chars] w fun e w' => e = .returned (.bool (Lib.containsAny s.data.toList chars.data.toList)) ∧ Below w.heap.size w w' := Any.strings_ContainsAny_laid lays150 (by kernel_rfl) s chars w hs hcs has hac
end Go.Proofs.Ytddoidcbpcmlaaa.Shelf
-- written by a program of this session (wip/own_print.sh)
namespace Go.Proofs.Ytddoidcbpcmlaaa.M
open Go.RowKit Go.Proofs.YtddoidcbpcmlaaaW.PrintWords Go.Proofs.YtddoidcbpcmlaaaW.PrintLast Go.Proofs.YtddoidcbpcmlaaaW.PrintMore
attribute [local go_sem] max2_int min2_int max_two min_two max_three min_three max_four min_four   -- for this text's walks alone
set_option linter.unusedVariables false
set_option linter.unusedSimpArgs false
/-! ### strings_ContainsAny: function 31 -/
-- GIVEN strings.ContainsAny	["str", "str"]	["bool"]	0	1
-- IMPORT ShelfAny
def strings_ContainsAny.f (a0 a1 : ByteArray) : Option Bool := if a0.size < 4294967281 ∧ a1.size < 4294967281 ∧ a0.data.toList.all (fun b => decide (b.toNat < 128)) = true ∧ a1.data.toList.all (fun b => decide (b.toNat < 128)) = true then some (Lib.containsAny a0.data.toList a1.data.toList) else none
theorem strings_ContainsAny.calls (a0 a1 : ByteArray) (r : Bool) (w : World) (h : strings_ContainsAny.f a0 a1 = some r) :
    Calls Try.prog 31 #[.string a0, .string a1] w fun e w' => e = .returned (.bool r) ∧ Below w.heap.size w w' := by
  unfold strings_ContainsAny.f at h
  split at h
  · rename_i c
    obtain ⟨c1, c2, c3, c4⟩ := c
    have hr := Option.some.inj h
    subst hr
    refine Shelf.strings_ContainsAny_laid a0 a1 w c1 c2 ?_ ?_
    · intro j b hb
      exact of_decide_eq_true (List.all_eq_true.mp c3 b (List.mem_of_getElem? hb))
    · intro j b hb
      exact of_decide_eq_true (List.all_eq_true.mp c4 b (List.mem_of_getElem? hb))
  · cases h

end Go.Proofs.Ytddoidcbpcmlaaa.M
