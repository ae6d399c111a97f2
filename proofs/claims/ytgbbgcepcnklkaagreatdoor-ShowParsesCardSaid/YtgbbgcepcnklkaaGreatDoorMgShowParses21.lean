/- Texts of this claim, merged: QrefN, FunT. -/
import Derived.Test.YtgbbgcepcnklkaaGreatDoorMgShowParses1
import Derived.Test.YtgbbgcepcnklkaaGreatDoorMgShowParses10
import Derived.Lib.ItoaNum
namespace Go.Proofs.YtgbbgcepcnklkaaGreatDoor.Q
open Go.RowKit Go.Proofs.YtgbbgcepcnklkaaGreatDoorW.PrintWords Go.Proofs.YtgbbgcepcnklkaaGreatDoorW.PrintLast Go.Proofs.YtgbbgcepcnklkaaGreatDoorW.PrintMore
attribute [local go_sem] max2_int min2_int max_two min_two
set_option linter.unusedVariables false
set_option linter.unusedSimpArgs false
/-! ### trystref01_number: function 17 -/
mutual
def trystref01_number.l0 : Nat → Int → Int → ByteArray → Option (ByteArray)
 | 0, _, _, _ => none
 | k + 1, x0, x1, x5 => if x0 > 0 then ((some (([(wrap64 (48 + (Int.tmod x0 10))) % 256] : List Int) : List Int)).bind fun y361 => (if (strOfNums y361).size + x5.size ≤ 9223372036854775807 then (trystref01_number.l0 k (wrap64 (Int.tdiv x0 10)) (wrap64 (x1 - 1)) ((strOfNums y361) ++ x5)) else (none))) else (if x1 > 0 then ((some (([(wrap64 (48 + (Int.tmod x0 10))) % 256] : List Int) : List Int)).bind fun y364 => (if (strOfNums y364).size + x5.size ≤ 9223372036854775807 then (trystref01_number.l0 k (wrap64 (Int.tdiv x0 10)) (wrap64 (x1 - 1)) ((strOfNums y364) ++ x5)) else (none))) else (if x5.toList = ([] : List UInt8) then ((some (([(wrap64 (48 + (Int.tmod x0 10))) % 256] : List Int) : List Int)).bind fun y367 => (if (strOfNums y367).size + x5.size ≤ 9223372036854775807 then (trystref01_number.l0 k (wrap64 (Int.tdiv x0 10)) (wrap64 (x1 - 1)) ((strOfNums y367) ++ x5)) else (none))) else (some x5)))
def trystref01_number.f : Nat → Int → Int → Option (ByteArray)
 | 0, _, _ => none
 | k + 1, a0, a1 => if a0 < 0 then ((trystref01_number.f k (wrap64 (-a0)) a1).bind fun t360 => (if 1 + t360.size ≤ 9223372036854775807 then (some ((⟨#[45]⟩ : ByteArray) ++ t360)) else (none))) else (trystref01_number.l0 k a0 a1 (⟨#[]⟩ : ByteArray))
end
set_option maxHeartbeats 8000000 in
set_option maxRecDepth 100000 in
theorem trystref01_number.calls (k : Nat) : ∀ (a0 : Int) (a1 : Int) (r : ByteArray) (w : World) (h : trystref01_number.f k a0 a1 = some r),
  Calls Tryz.prog 17 #[.int .i64 a0, .int .i64 a1] w fun e w' => e = .returned (.string r) ∧ Below w.heap.size w w' := by
 induction k using Nat.strongRecOn with
 | _ k ih =>
 intro a0 a1 r w h
 cases k with
 | zero => exact absurd h (by simp [trystref01_number.f])
 | succ k =>
 simp only [trystref01_number.f] at h
 have HB := Aside0.mk (Below.refl w.heap.size w)
 have H : (if a0 < 0 then ((trystref01_number.f k (wrap64 (-a0)) a1).bind fun t360 => (if 1 + t360.size ≤ 9223372036854775807 then (some ((⟨#[45]⟩ : ByteArray) ++ t360)) else (none))) else (trystref01_number.l0 k a0 a1 (⟨#[]⟩ : ByteArray))) = some r := h
 clear h
 by_cases c3 : a0 < 0
 ·rw [if_pos c3] at H
  have c3b0 : decide (a0 < 0) = true := decide_eq_true c3
  clear c3
  replace H := Option.bind_eq_some_iff.mp H
  obtain ⟨t360, A40, H⟩ := H
  replace H : (if 1 + t360.size ≤ 9223372036854775807 then (some ((⟨#[45]⟩ : ByteArray) ++ t360)) else (none)) = some r := H
  have A4 := Aside0.mk A40
  clear A40
  by_cases c5 : 1 + t360.size ≤ 9223372036854775807
  ·rw [if_pos c5] at H
   have c5b0 := eq_true c5
   have c5b1 : decide (1 + t360.size ≤ 9223372036854775807) = true := decide_eq_true c5
   try have c5b2 : (9223372036854775807 < 1 + t360.size) = False := eq_false (Nat.not_lt.2 c5)
   try (have c5b3 := c5b2; simp only [ByteArray.size_append, bs1_] at c5b3)
   obtain rfl := Option.some.inj H
   go_enter Tryz.func17, Tryz.ntmps17
   go_wp2_with (first | ((with_reducible refine gate_callee (f := 17) rfl ?_); refine gm_ (some 11) Tryz.func17 #[.int .i64 (wrap64 (-a0)), .int .i64 a1] ?_; (with_reducible refine (ih k (by omega) (wrap64 (-a0)) a1 t360 _ A4.out).mono ?_); rintro e w6 ⟨rfl, hb⟩; refine ⟨_, rfl, ?_⟩; have n0_ := Aside0.mk (below_step (by repeat (first | (with_reducible first | exact HB.out | apply below_alloc | apply pw_below_drewN | apply below_drew1) | exact HB.out)) hb); clear HB; have HB := n0_; clear n0_; (try clear hb); (try clear hb2); (try clear hk); (try clear hi)))
   go_ret
   exact ⟨by first | rfl | (simp [*, errW_none, errW_some] <;> rfl), by repeat (first | (with_reducible first | exact HB.out | apply below_alloc | apply pw_below_drewN | apply below_drew1) | exact HB.out)⟩
  ·rw [if_neg c5] at H
   exact absurd H (by simp)
 ·rw [if_neg c3] at H
  have c3b0 : decide (a0 < 0) = false := decide_eq_false c3
  clear c3
  have H' := Aside0.mk H
  clear H
  go_enter Tryz.func17, Tryz.ntmps17
  go_wp2
  go_loopg [0, 1, 5] k (fun kq v0 v1 v5 w' => ∃ (x0_1 : Int) (x1_1 : Int) (x5_1 : ByteArray), v0 = .int .i64 x0_1 ∧ v1 = .int .i64 x1_1 ∧ v5 = .string x5_1 ∧ Aside0 (trystref01_number.l0 kq x0_1 x1_1 x5_1 = some r) ∧ Aside0 (kq ≤ k) ∧ Aside0 (Below w.heap.size w w'))
  case atStart => exact ⟨(a0), (a1), ((⟨#[]⟩ : ByteArray)), (by first | rfl | (simp; done) | (simp [*]; done)), (by first | rfl | (simp; done) | (simp [*]; done)), (by first | rfl | (simp; done) | (simp [*]; done)), H', ⟨Nat.le_refl _⟩, ⟨by repeat (first | (with_reducible first | exact HB.out | apply below_alloc | apply pw_below_drewN | apply below_drew1) | exact HB.out)⟩⟩
  case round =>
   clear H'
   try clear c1
   try clear p2
   try clear c3
   try clear c3b0
   try clear c5
   try clear c5b0
   try clear c5b1
   try clear c5b2
   try clear p6
   obtain ⟨x0_1, x1_1, x5_1, rfl, rfl, rfl, HA, HK1, HB⟩ := hrel
   cases gk with
   | zero => exact absurd HA.out (by simp [trystref01_number.l0])
   | succ k1 =>
    have H := HA.out
    clear HA
    simp only [trystref01_number.l0] at H
    by_cases c7 : x0_1 > 0
    ·rw [if_pos c7] at H
     have c7b0 : decide (0 < x0_1) = true := decide_eq_true c7
     clear c7
     obtain ⟨y361, hy361⟩ : ∃ y_ : List Int, y_ = (([(wrap64 (48 + (Int.tmod x0_1 10))) % 256] : List Int)) := ⟨_, rfl⟩
     replace H : (if (strOfNums y361).size + x5_1.size ≤ 9223372036854775807 then (trystref01_number.l0 k1 (wrap64 (Int.tdiv x0_1 10)) (wrap64 (x1_1 - 1)) ((strOfNums y361) ++ x5_1)) else (none)) = some r := by first | (rw [hy361]; with_reducible exact H) | (have H2_ := (Option.bind_some _ _).symm.trans H; rw [hy361]; with_reducible exact H2_) | (have H2_ := (Option.bind_some _ _).symm.trans H; with_reducible exact H2_) | with_reducible exact H | (rw [hy361]; exact H) | exact H
     have Ny361 := Aside0.mk hy361
     clear hy361
     by_cases c8 : (strOfNums y361).size + x5_1.size ≤ 9223372036854775807
     ·rw [if_pos c8] at H
      have c8b0 := eq_true c8
      have c8b1 : decide ((strOfNums y361).size + x5_1.size ≤ 9223372036854775807) = true := decide_eq_true c8
      try have c8b2 : (9223372036854775807 < (strOfNums y361).size + x5_1.size) = False := eq_false (Nat.not_lt.2 c8)
      try (have c8b3 := c8b2; simp only [ByteArray.size_append, bs1_] at c8b3)
      have H' := Aside0.mk H
      clear H
      go_wp2_with (first | ((with_reducible refine gate_dst (N := 27) rfl ?_); refine Kd.R_lit (Kd.int .u8) _ 5 ?hg (N := 27) ?hd (xs := ([(wrap64 (48 + (Int.tmod x0_1 10))) % 256] : List Int)) (inner := [.int .u8 ((wrap64 (48 + (Int.tmod x0_1 10))) % 256)]) (ok := fun _ => True) (okp := fun _ => True) ?hr ?hp (fun _ hk => hk) trivial (Below.refl _ _) (Nat.le_refl _) (by simp) ?_; (case hd => rfl); (case hg => rfl); (case hr => first | (go_simp; done) | (go_simp; rfl)); (case hp => exact (Reps.one (show Kd.M (Kd.int .u8) _ _ _ ((wrap64 (48 + (Int.tmod x0_1 10))) % 256) [.int .u8 ((wrap64 (48 + (Int.tmod x0_1 10))) % 256)] from rfl) (Reps.none _ _))); intro v362 w9 ho10 hb hg_ hnew_; clear hg_ hnew_; (first | rw [← Ny361.out] at ho10 | (simp only [Int.reduceToNat] at ho10; rw [← Ny361.out] at ho10)); have n0_ := Aside0.mk (Kd.R_lower ho10 (below_size (by repeat (first | (with_reducible first | exact HB.out | apply below_alloc | apply pw_below_drewN | apply below_drew1) | exact HB.out)))); have n1_ := Aside0.mk (below_step (by repeat (first | (with_reducible first | exact HB.out | apply below_alloc | apply pw_below_drewN | apply below_drew1) | exact HB.out)) hb); clear HB; have HO363 := n0_; have HB := n1_; clear n0_ n1_; clear hb ho10; have hcv11 := own_string (P := Tryz.prog) Tryz.underlying58 Tryz.underlying5 Tryz.underlying9 (Kd.own_of_R HO363.out)))
      go_roundg k1
      case measure => have := HK1.out; omega
      case rel => exact ⟨(wrap64 (Int.tdiv x0_1 10)), (wrap64 (x1_1 - 1)), ((strOfNums y361) ++ x5_1), (by first | rfl | (simp; done) | (simp [*]; done)), (by first | rfl | (simp; done) | (simp [*]; done)), (by first | rfl | (simp; done) | (simp [*]; done)), H', ⟨by have := HK1.out; omega⟩, ⟨by repeat (first | (with_reducible first | exact HB.out | apply below_alloc | apply pw_below_drewN | apply below_drew1) | exact HB.out)⟩⟩
     ·rw [if_neg c8] at H
      exact absurd H (by simp)
    ·rw [if_neg c7] at H
     have c7b0 : decide (0 < x0_1) = false := decide_eq_false c7
     clear c7
     by_cases c12 : x1_1 > 0
     ·rw [if_pos c12] at H
      have c12b0 : decide (0 < x1_1) = true := decide_eq_true c12
      clear c12
      obtain ⟨y364, hy364⟩ : ∃ y_ : List Int, y_ = (([(wrap64 (48 + (Int.tmod x0_1 10))) % 256] : List Int)) := ⟨_, rfl⟩
      replace H : (if (strOfNums y364).size + x5_1.size ≤ 9223372036854775807 then (trystref01_number.l0 k1 (wrap64 (Int.tdiv x0_1 10)) (wrap64 (x1_1 - 1)) ((strOfNums y364) ++ x5_1)) else (none)) = some r := by first | (rw [hy364]; with_reducible exact H) | (have H2_ := (Option.bind_some _ _).symm.trans H; rw [hy364]; with_reducible exact H2_) | (have H2_ := (Option.bind_some _ _).symm.trans H; with_reducible exact H2_) | with_reducible exact H | (rw [hy364]; exact H) | exact H
      have Ny364 := Aside0.mk hy364
      clear hy364
      by_cases c13 : (strOfNums y364).size + x5_1.size ≤ 9223372036854775807
      ·rw [if_pos c13] at H
       have c13b0 := eq_true c13
       have c13b1 : decide ((strOfNums y364).size + x5_1.size ≤ 9223372036854775807) = true := decide_eq_true c13
       try have c13b2 : (9223372036854775807 < (strOfNums y364).size + x5_1.size) = False := eq_false (Nat.not_lt.2 c13)
       try (have c13b3 := c13b2; simp only [ByteArray.size_append, bs1_] at c13b3)
       have H' := Aside0.mk H
       clear H
       go_wp2_with (first | ((with_reducible refine gate_dst (N := 27) rfl ?_); refine Kd.R_lit (Kd.int .u8) _ 5 ?hg (N := 27) ?hd (xs := ([(wrap64 (48 + (Int.tmod x0_1 10))) % 256] : List Int)) (inner := [.int .u8 ((wrap64 (48 + (Int.tmod x0_1 10))) % 256)]) (ok := fun _ => True) (okp := fun _ => True) ?hr ?hp (fun _ hk => hk) trivial (Below.refl _ _) (Nat.le_refl _) (by simp) ?_; (case hd => rfl); (case hg => rfl); (case hr => first | (go_simp; done) | (go_simp; rfl)); (case hp => exact (Reps.one (show Kd.M (Kd.int .u8) _ _ _ ((wrap64 (48 + (Int.tmod x0_1 10))) % 256) [.int .u8 ((wrap64 (48 + (Int.tmod x0_1 10))) % 256)] from rfl) (Reps.none _ _))); intro v365 w14 ho15 hb hg_ hnew_; clear hg_ hnew_; (first | rw [← Ny364.out] at ho15 | (simp only [Int.reduceToNat] at ho15; rw [← Ny364.out] at ho15)); have n0_ := Aside0.mk (Kd.R_lower ho15 (below_size (by repeat (first | (with_reducible first | exact HB.out | apply below_alloc | apply pw_below_drewN | apply below_drew1) | exact HB.out)))); have n1_ := Aside0.mk (below_step (by repeat (first | (with_reducible first | exact HB.out | apply below_alloc | apply pw_below_drewN | apply below_drew1) | exact HB.out)) hb); clear HB; have HO366 := n0_; have HB := n1_; clear n0_ n1_; clear hb ho15; have hcv16 := own_string (P := Tryz.prog) Tryz.underlying58 Tryz.underlying5 Tryz.underlying9 (Kd.own_of_R HO366.out)))
       go_roundg k1
       case measure => have := HK1.out; omega
       case rel => exact ⟨(wrap64 (Int.tdiv x0_1 10)), (wrap64 (x1_1 - 1)), ((strOfNums y364) ++ x5_1), (by first | rfl | (simp; done) | (simp [*]; done)), (by first | rfl | (simp; done) | (simp [*]; done)), (by first | rfl | (simp; done) | (simp [*]; done)), H', ⟨by have := HK1.out; omega⟩, ⟨by repeat (first | (with_reducible first | exact HB.out | apply below_alloc | apply pw_below_drewN | apply below_drew1) | exact HB.out)⟩⟩
      ·rw [if_neg c13] at H
       exact absurd H (by simp)
     ·rw [if_neg c12] at H
      have c12b0 : decide (0 < x1_1) = false := decide_eq_false c12
      clear c12
      by_cases c17 : x5_1.toList = ([] : List UInt8)
      ·rw [if_pos c17] at H
       have c17b0 : (x5_1.toList == ([] : List UInt8)) = true := beq_iff_eq.mpr c17
       have c17b1 : (x5_1.toList != ([] : List UInt8)) = false := bne_eq_false_iff_eq.mpr c17
       clear c17
       obtain ⟨y367, hy367⟩ : ∃ y_ : List Int, y_ = (([(wrap64 (48 + (Int.tmod x0_1 10))) % 256] : List Int)) := ⟨_, rfl⟩
       replace H : (if (strOfNums y367).size + x5_1.size ≤ 9223372036854775807 then (trystref01_number.l0 k1 (wrap64 (Int.tdiv x0_1 10)) (wrap64 (x1_1 - 1)) ((strOfNums y367) ++ x5_1)) else (none)) = some r := by first | (rw [hy367]; with_reducible exact H) | (have H2_ := (Option.bind_some _ _).symm.trans H; rw [hy367]; with_reducible exact H2_) | (have H2_ := (Option.bind_some _ _).symm.trans H; with_reducible exact H2_) | with_reducible exact H | (rw [hy367]; exact H) | exact H
       have Ny367 := Aside0.mk hy367
       clear hy367
       by_cases c18 : (strOfNums y367).size + x5_1.size ≤ 9223372036854775807
       ·rw [if_pos c18] at H
        have c18b0 := eq_true c18
        have c18b1 : decide ((strOfNums y367).size + x5_1.size ≤ 9223372036854775807) = true := decide_eq_true c18
        try have c18b2 : (9223372036854775807 < (strOfNums y367).size + x5_1.size) = False := eq_false (Nat.not_lt.2 c18)
        try (have c18b3 := c18b2; simp only [ByteArray.size_append, bs1_] at c18b3)
        have H' := Aside0.mk H
        clear H
        go_wp2_with (first | ((with_reducible refine gate_dst (N := 27) rfl ?_); refine Kd.R_lit (Kd.int .u8) _ 5 ?hg (N := 27) ?hd (xs := ([(wrap64 (48 + (Int.tmod x0_1 10))) % 256] : List Int)) (inner := [.int .u8 ((wrap64 (48 + (Int.tmod x0_1 10))) % 256)]) (ok := fun _ => True) (okp := fun _ => True) ?hr ?hp (fun _ hk => hk) trivial (Below.refl _ _) (Nat.le_refl _) (by simp) ?_; (case hd => rfl); (case hg => rfl); (case hr => first | (go_simp; done) | (go_simp; rfl)); (case hp => exact (Reps.one (show Kd.M (Kd.int .u8) _ _ _ ((wrap64 (48 + (Int.tmod x0_1 10))) % 256) [.int .u8 ((wrap64 (48 + (Int.tmod x0_1 10))) % 256)] from rfl) (Reps.none _ _))); intro v368 w19 ho20 hb hg_ hnew_; clear hg_ hnew_; (first | rw [← Ny367.out] at ho20 | (simp only [Int.reduceToNat] at ho20; rw [← Ny367.out] at ho20)); have n0_ := Aside0.mk (Kd.R_lower ho20 (below_size (by repeat (first | (with_reducible first | exact HB.out | apply below_alloc | apply pw_below_drewN | apply below_drew1) | exact HB.out)))); have n1_ := Aside0.mk (below_step (by repeat (first | (with_reducible first | exact HB.out | apply below_alloc | apply pw_below_drewN | apply below_drew1) | exact HB.out)) hb); clear HB; have HO369 := n0_; have HB := n1_; clear n0_ n1_; clear hb ho20; have hcv21 := own_string (P := Tryz.prog) Tryz.underlying58 Tryz.underlying5 Tryz.underlying9 (Kd.own_of_R HO369.out)))
        go_roundg k1
        case measure => have := HK1.out; omega
        case rel => exact ⟨(wrap64 (Int.tdiv x0_1 10)), (wrap64 (x1_1 - 1)), ((strOfNums y367) ++ x5_1), (by first | rfl | (simp; done) | (simp [*]; done)), (by first | rfl | (simp; done) | (simp [*]; done)), (by first | rfl | (simp; done) | (simp [*]; done)), H', ⟨by have := HK1.out; omega⟩, ⟨by repeat (first | (with_reducible first | exact HB.out | apply below_alloc | apply pw_below_drewN | apply below_drew1) | exact HB.out)⟩⟩
       ·rw [if_neg c18] at H
        exact absurd H (by simp)
      ·rw [if_neg c17] at H
       have c17b0 : (x5_1.toList == ([] : List UInt8)) = false := beq_eq_false_iff_ne.mpr c17
       have c17b1 : (x5_1.toList != ([] : List UInt8)) = true := bne_iff_ne.mpr c17
       obtain rfl := Option.some.inj H
       go_wp2
       go_ret
       exact ⟨by first | rfl | (simp [*, errW_none, errW_some] <;> rfl), by repeat (first | (with_reducible first | exact HB.out | apply below_alloc | apply pw_below_drewN | apply below_drew1) | exact HB.out)⟩

end Go.Proofs.YtgbbgcepcnklkaaGreatDoor.Q
/- A number, written by the reference, is what strconv.Itoa writes; a day's text. -/
namespace Go.Proofs.YtgbbgcepcnklkaaGreatDoor.FunT
open Go.RowKit Go.Proofs.YtgbbgcepcnklkaaGreatDoorW.PrintWords Go.Proofs.YtgbbgcepcnklkaaGreatDoorW.PrintLast Go.Proofs.YtgbbgcepcnklkaaGreatDoor.Q Go.Proofs.YtgbbgcepcnklkaaGreatDoor.Cal Go.Proofs.YtgbbgcepcnklkaaGreatDoor.FunA
set_option linter.unusedVariables false
set_option linter.unusedSimpArgs false
def dg (x : Int) : UInt8 := UInt8.ofNat (48 + x % 10).toNat
theorem byte_one (x : Int) (h : 0 ≤ x) : strOfNums [(wrap64 (48 + Int.tmod x 10)) % 256] = ⟨#[dg x]⟩ := by
 rw [Int.tmod_eq_emod_of_nonneg h, w64 (by omega) (by omega)]
 have e : (48 + x % 10) % 256 = 48 + x % 10 := by omega
 rw [e]
 unfold strOfNums dg
 simp
theorem app (a b : List UInt8) : ((⟨a.toArray⟩ : ByteArray) ++ ⟨b.toArray⟩) = ⟨(a ++ b).toArray⟩ := by
 apply ByteArray.ext; simp
theorem size_of (a : List UInt8) : (⟨a.toArray⟩ : ByteArray).size = a.length := by simp [ByteArray.size]
theorem nstep (k : Nat) (x z : Int) (s : List UInt8) (hx : 0 ≤ x) (hx' : x ≤ 1000000000) (hz : -1000 ≤ z) (hz' : z ≤ 0) (h : x > 0 ∨ s = []) (hs : s.length ≤ 100) :
  trystref01_number.l0 (k + 1) x z ⟨s.toArray⟩ = trystref01_number.l0 k (x / 10) (z - 1) ⟨(dg x :: s).toArray⟩ := by
 simp only [trystref01_number.l0, Option.bind_some]
 have hb : (⟨#[dg x]⟩ : ByteArray).size = 1 := rfl
 have e : (⟨#[dg x]⟩ : ByteArray) ++ ⟨s.toArray⟩ = ⟨(dg x :: s).toArray⟩ := app [dg x] s
 rw [byte_one x hx, Int.tdiv_eq_ediv_of_nonneg hx, w64 (x := x / 10) (by omega) (by omega), w64 (x := z - 1) (by omega) (by omega), hb, size_of, e]
 by_cases c : x > 0
 ·rw [if_pos c, if_pos (by omega)]
 ·have hn : s = [] := by rcases h with h | h; exact absurd h c; exact h
  subst hn
  rw [if_neg c, if_neg (by omega), if_pos (by rw [ByteArray.toList_eq]), if_pos (by simp)]
theorem nend (k : Nat) (z : Int) (a : UInt8) (s : List UInt8) (hz : z ≤ 0) : trystref01_number.l0 (k + 1) 0 z ⟨(a :: s).toArray⟩ = some ⟨(a :: s).toArray⟩ := by
 simp only [trystref01_number.l0]
 rw [if_neg (by omega), if_neg (by omega), if_neg (by rw [ByteArray.toList_eq]; simp)]
theorem dg_nat (u : Nat) (h : u < 10) : dg (u : Int) = UInt8.ofNat (48 + u) := by
 unfold dg
 have e : (48 + (u : Int) % 10).toNat = 48 + u := by omega
 rw [e]
theorem digits : ∀ (j u k : Nat) (z : Int) (s : List UInt8), u < 10 ^ (j + 1) → u ≤ 1000000 → j + 2 ≤ k → -100 ≤ z - j → z ≤ 0 → (0 < u ∨ s = []) → s.length + j ≤ 50 →
  trystref01_number.l0 k (u : Int) z ⟨s.toArray⟩ = some ⟨(Lib.decDigits u ++ s).toArray⟩ := by
 intro j
 induction j with
 | zero =>
  intro u k z s h1 h2 h3 h4 h5 h6 h7
  obtain ⟨k, rfl⟩ : ∃ m, k = m + 2 := ⟨k - 2, by omega⟩
  have hu : u < 10 := by simpa using h1
  have e : (u : Int) / 10 = 0 := by omega
  rw [nstep (k + 1) u z s (by omega) (by omega) (by omega) h5 (by rcases h6 with h | h; exact Or.inl (by omega); exact Or.inr h) (by omega), e, nend k _ _ _ (by omega), Lib.decDigits_one hu, dg_nat u hu]
  rfl
 | succ j ih =>
  intro u k z s h1 h2 h3 h4 h5 h6 h7
  by_cases hu : u < 10
  ·obtain ⟨k, rfl⟩ : ∃ m, k = m + 2 := ⟨k - 2, by omega⟩
   have e : (u : Int) / 10 = 0 := by omega
   rw [nstep (k + 1) u z s (by omega) (by omega) (by omega) h5 (by rcases h6 with h | h; exact Or.inl (by omega); exact Or.inr h) (by omega), e, nend k _ _ _ (by omega), Lib.decDigits_one hu, dg_nat u hu]
   rfl
  ·obtain ⟨k, rfl⟩ : ∃ m, k = m + 1 := ⟨k - 1, by omega⟩
   have e : (u : Int) / 10 = ((u / 10 : Nat) : Int) := by omega
   have e2 : dg (u : Int) = UInt8.ofNat (48 + u % 10) := by
    unfold dg
    have e3 : (48 + (u : Int) % 10).toNat = 48 + u % 10 := by omega
    rw [e3]
   have hp : (10 : Nat) ^ (j + 1 + 1) = 10 ^ (j + 1) * 10 := rfl
   rw [nstep k u z s (by omega) (by omega) (by omega) h5 (Or.inl (by omega)) (by omega), e, ih (u / 10) k (z - 1) (dg u :: s) (by rw [hp] at h1; omega) (by omega) (by omega) (by omega) (by omega) (Or.inl (by omega)) (by simp; omega)]
   rw [Lib.decDigits.eq_1 u, dif_neg hu, e2, List.append_assoc]
   rfl
/-- The reference's number of no least size. -/
theorem number (k : Nat) (hk : 20 ≤ k) (n : Int) (h : -100000 ≤ n) (h' : n ≤ 100000) : trystref01_number.f k n 0 = some ⟨(Lib.itoa n).toArray⟩ := by
 have pos : ∀ (k : Nat) (u : Nat), 15 ≤ k → u ≤ 100000 → trystref01_number.f (k + 1) (u : Int) 0 = some ⟨(Lib.decDigits u).toArray⟩ := by
  intro k u hk hu
  simp only [trystref01_number.f]
  rw [if_neg (by omega)]
  have := digits 6 u k 0 [] (by have : (10 : Nat) ^ (6 + 1) = 10000000 := rfl; omega) (by omega) (by omega) (by omega) (by omega) (Or.inr rfl) (by simp)
  simpa using this
 obtain ⟨k, rfl⟩ : ∃ m, k = m + 2 := ⟨k - 2, by omega⟩
 unfold Lib.itoa
 by_cases c : n < 0
 ·rw [if_pos c]
  have e : -n = ((n.natAbs : Nat) : Int) := by omega
  simp only [trystref01_number.f]
  have p := pos k n.natAbs (by omega) (by omega)
  simp only [trystref01_number.f] at p
  rw [if_pos c, w64 (by omega) (by omega), e, p, Option.bind_some, size_of]
  have hl : (Lib.decDigits n.natAbs).length ≤ 100 := by
   have : ∀ (j u : Nat), u < 10 ^ (j + 1) → (Lib.decDigits u).length ≤ j + 1 := by
    intro j
    induction j with
    | zero => intro u hu; rw [Lib.decDigits_one (by simpa using hu)]; simp
    | succ j ih =>
     intro u hu
     rw [Lib.decDigits.eq_1]
     split
     ·simp
     ·have hp : (10 : Nat) ^ (j + 1 + 1) = 10 ^ (j + 1) * 10 := rfl
      have := ih (u / 10) (by rw [hp] at hu; omega)
      simp; omega
   have := this 6 n.natAbs (by have : (10 : Nat) ^ (6 + 1) = 10000000 := rfl; omega)
   omega
  rw [if_pos (by omega)]
  exact congrArg some (app [45] _)
 ·rw [if_neg c]
  have e : n = ((n.toNat : Nat) : Int) := by omega
  have p := pos (k + 1) n.toNat (by omega) (by omega)
  rw [← e] at p
  exact p
end Go.Proofs.YtgbbgcepcnklkaaGreatDoor.FunT
