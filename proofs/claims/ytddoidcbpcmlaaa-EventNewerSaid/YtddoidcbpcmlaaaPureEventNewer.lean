/- Newer is a strict order on sequence and stamp: with no condition. (Written by gen_newer2.py.) -/
import Derived.Test.YtddoidcbpcmlaaaEvR
import Derived.Test.YtddoidcbpcmlaaaQawake
import Derived.Test.YtddoidcbpcmlaaaArrEq
import Derived.Test.YtddoidcbpcmlaaaWTab
import Derived.Test.YtddoidcbpcmlaaaWGuard
import Derived.Deep.RegionHeld3
import Derived.Deep.DeepCutAuto
namespace Go.Proofs.Ytddoidcbpcmlaaa.Pure
open Go.RowKit Go.Proofs.YtddoidcbpcmlaaaW.PrintWords Go.Proofs.YtddoidcbpcmlaaaW.PrintLast Go.Proofs.Ytddoidcbpcmlaaa.Q Go.Proofs.Ytddoidcbpcmlaaa.NewerW Go.Proofs.Ytddoidcbpcmlaaa.EvR
set_option linter.unusedVariables false
set_option linter.unusedSimpArgs false
namespace EventNewerW
theorem aw : trystlaw18_awake.f 20 = some true := by kernel_rfl
@[irreducible] def eqq (x y x' y' : Int) : Bool := x == x' && y == y'
theorem eqq_of {x y x' y' : Int} (h : x = x' ∧ y = y') : eqq x y x' y' = true := by unfold eqq; simp [h.1, h.2]
theorem eqA (x y x' y' : Int) (w : World) : (binOp .eql 22 (.agg #[.int .i64 x, .int .i64 y]) (.agg #[.int .i64 x', .int .i64 y'])).run Try.prog w = .ok (.bool (eqq x y x' y')) w := by
  unfold eqq
  exact ArrEq.eq2 w Try.prog 2 Try.underlying2 Try.sizeOf2 Try.isAgg2 22 Try.underlying22 x y x' y'
attribute [local go_sem high] eqA
/-- The three boxes of the arguments. -/
def HS (n : Nat) (s1 t1 s2 t2 s3 t3 : Int) (w : World) : Prop := w.cell? ⟨n, 0, none⟩ = some (.int .i64 s1) ∧ w.cell? ⟨n, 1, none⟩ = some (.int .i64 t1) ∧ w.cell? ⟨n + 1, 0, none⟩ = some (.int .i64 s2) ∧ w.cell? ⟨n + 1, 1, none⟩ = some (.int .i64 t2) ∧ w.cell? ⟨n + 2, 0, none⟩ = some (.int .i64 s3) ∧ w.cell? ⟨n + 2, 1, none⟩ = some (.int .i64 t3)
theorem HS.below {n : Nat} {s1 t1 s2 t2 s3 t3 : Int} {w w' : World} (h : HS n s1 t1 s2 t2 s3 t3 w) (hb : Below w.heap.size w w') : HS n s1 t1 s2 t2 s3 t3 w' :=
  ⟨pw_cell_below hb h.1, pw_cell_below hb h.2.1, pw_cell_below hb h.2.2.1, pw_cell_below hb h.2.2.2.1, pw_cell_below hb h.2.2.2.2.1, pw_cell_below hb h.2.2.2.2.2⟩
theorem HS.far {n : Nat} {s1 t1 s2 t2 s3 t3 : Int} {w : World} (h : HS n s1 t1 s2 t2 s3 t3 w) (g : Nat) (cs : Array Value) (hg : n + 2 < g) : HS n s1 t1 s2 t2 s3 t3 (w.setRow g cs) :=
  ⟨(cell_setRow_other _ _ _ _ (by show n ≠ g; omega)).trans h.1, (cell_setRow_other _ _ _ _ (by show n ≠ g; omega)).trans h.2.1, (cell_setRow_other _ _ _ _ (by show n + 1 ≠ g; omega)).trans h.2.2.1, (cell_setRow_other _ _ _ _ (by show n + 1 ≠ g; omega)).trans h.2.2.2.1, (cell_setRow_other _ _ _ _ (by show n + 2 ≠ g; omega)).trans h.2.2.2.2.1, (cell_setRow_other _ _ _ _ (by show n + 2 ≠ g; omega)).trans h.2.2.2.2.2⟩
theorem below_row {w w' : World} (h : Below w.heap.size w w') (g : Nat) (cs : Array Value) (hg : w.heap.size ≤ g) : Below w.heap.size w (w'.setRow g cs) :=
  ⟨h.os, h.tape, h.output, by rw [setRow_size]; exact h.size, fun k hk => (setRow_other _ _ _ _ (by omega)).trans (h.block k hk)⟩
abbrev Z : Obj := .cells (ev 0 0) EvR.T (0, 0)
abbrev E (s t : Int) : Obj := .cells (ev s t) EvR.T (0, 0)
/-- Three zero events, laid in whatever order. -/
def Laid (m : Nat) (s : Nat × Nat × Nat) (w : World) : Prop := w.heap[s.1]? = some Z ∧ w.heap[s.2.1]? = some Z ∧ w.heap[s.2.2]? = some Z ∧ s.1 ≠ s.2.1 ∧ s.1 ≠ s.2.2 ∧ s.2.1 ≠ s.2.2 ∧ m ≤ s.1 ∧ m ≤ s.2.1 ∧ m ≤ s.2.2
def T3 : Bool × List (List Nat × List Nat) := (true, [([], []), ([0], [0]), ([], []), ([2], [2]), ([1, 3], [1, 3]), ([], []), ([5], [5]), ([], []), ([7], [7]), ([6, 8], [6, 8]), ([], []), ([10], [10]), ([], []), ([12], [12]), ([11, 13], [11, 13]), ([], []), ([], []), ([], []), ([15, 4, 0, 1, 2, 3, 4, 15, 16, 17], [4, 15]), ([16, 9, 18, 0, 1, 2, 3, 4, 5, 6, 7, 8, 9, 15, 16, 17, 18], [9, 16]), ([17, 14, 19, 0, 1, 2, 3, 4, 5, 6, 7, 8, 9, 10, 11, 12, 13, 14, 15, 16, 17, 18, 19], [14, 17])])
def B3 : List Nat := [0, 1, 0, 4, 15, 0, 32, 0, 128, 480, 0, 1024, 0, 4096, 15360, 0, 0, 0, 229407, 492543, 1048575]
theorem tab3 : rtab .any (opsOf Try.f3 3) = T3 := by kernel_rfl
theorem bits3 : waitsOk T3.2 B3 = true := by kernel_rfl
def T4 : Bool × List (List Nat × List Nat) := (true, [([], []), ([], []), ([0, 1], [0, 1]), ([], []), ([], []), ([3, 4, 2], [3, 4]), ([], []), ([], []), ([6, 7, 5], [6, 7]), ([], []), ([], []), ([9, 10, 8], [9, 10]), ([2, 11, 0, 1, 2], [2]), ([5, 12, 0, 1, 2, 3, 4, 5, 12], [5]), ([8, 13, 0, 1, 2, 3, 4, 5, 6, 7, 8, 12, 13], [8]), ([11, 14, 0, 1, 2, 3, 4, 5, 6, 7, 8, 9, 10, 11, 12, 13, 14], [11])])
def B4 : List Nat := [0, 0, 3, 0, 0, 31, 0, 0, 255, 0, 0, 2047, 4095, 8191, 16383, 32767]
theorem tab4 : rtab .any (opsOf Try.f3 4) = T4 := by kernel_rfl
theorem bits4 : waitsOk T4.2 B4 = true := by kernel_rfl

set_option maxHeartbeats 8000000 in
set_option maxRecDepth 100000 in
theorem walk (s1 t1 s2 t2 s3 t3 : Int) (w : World) :
    Calls Try.prog 3 #[.agg #[.int .i64 s1, .int .i64 t1], .agg #[.int .i64 s2, .int .i64 t2], .agg #[.int .i64 s3, .int .i64 t3]] w fun e w' => e = .returned (.bool true) ∧ Below w.heap.size w w' := by
  go_enter Try.func3, Try.ntmps3
  go_wp2_with fail
  refine (trystlaw18_awake.calls 20 _ _ aw).mono ?_
  rintro e w1 ⟨rfl, hB⟩
  have i0 : w1.cell? ⟨w.heap.size, 0, none⟩ = some (.int .i64 s1) := (hB.cell (p := ⟨w.heap.size, 0, none⟩) (by simp <;> omega)).trans (by go_simp)
  have i1 : w1.cell? ⟨w.heap.size, 1, none⟩ = some (.int .i64 t1) := (hB.cell (p := ⟨w.heap.size, 1, none⟩) (by simp <;> omega)).trans (by go_simp)
  have j0 : w1.cell? ⟨w.heap.size + 1, 0, none⟩ = some (.int .i64 s2) := (hB.cell (p := ⟨w.heap.size + 1, 0, none⟩) (by simp <;> omega)).trans (by go_simp)
  have j1 : w1.cell? ⟨w.heap.size + 1, 1, none⟩ = some (.int .i64 t2) := (hB.cell (p := ⟨w.heap.size + 1, 1, none⟩) (by simp <;> omega)).trans (by go_simp)
  have k0 : w1.cell? ⟨w.heap.size + 2, 0, none⟩ = some (.int .i64 s3) := (hB.cell (p := ⟨w.heap.size + 2, 0, none⟩) (by simp <;> omega)).trans (by go_simp)
  have k1 : w1.cell? ⟨w.heap.size + 2, 1, none⟩ = some (.int .i64 t3) := (hB.cell (p := ⟨w.heap.size + 2, 1, none⟩) (by simp <;> omega)).trans (by go_simp)
  have hz : w.heap.size + 2 < w1.heap.size := by have := hB.size; simp at this; omega
  have B := Lib.hid (show Below w.heap.size w w1 from below_then (below_alloc (below_alloc (below_alloc (Below.refl _ _) _) _) _) (by simp; omega) hB)
  have H0 : HS w.heap.size s1 t1 s2 t2 s3 t3 w1.drew := ⟨i0, i1, j0, j1, k0, k1⟩
  clear hB i0 i1 j0 j1 k0 k1
  go_wp2_with fail
  refine start_ (n := 21) (S := HS w.heap.size s1 t1 s2 t2 s3 t3) (ds := []) #[false, false, false, false, false, false, false, false, false, false, false, false, false, false, false, false, false, false, false, false, false] (by kernel_rfl) rfl rfl H0 (fun hHeld => ?_)
  refine with_tabW tab3 bits3 (fun HT_ HW_ => ?_)
  clear H0
  have B2 := Lib.hid (below_drew B.out)
  have hz2 : w.heap.size + 2 < w1.drew.heap.size := hz
  clear B hz
  generalize w1.drew = w2 at B2 hz2 hHeld ⊢
  refine pure_ (i := 0) (N := some 16) (v := ?_) (a' := ?_) #[true, false, false, false, false, false, false, false, false, false, false, false, false, false, false, false, false, false, false, false, false] rfl rfl (any_of HT_.out (by kernel_rfl)) (fun _ _ _ h => h) (Or.inl ⟨by rfl, ?_⟩) ?_ ?_
  rotate_left
  · intro w'
    go_simp
    with_reducible rfl
  rotate_left
  · simp only [Act.put, List.setIfInBounds_toArray, List.set_cons_zero, List.set_cons_succ, i64_w, i32_w]
    rfl
  refine pure_ (i := 2) (N := some 18) (v := ?_) (a' := ?_) #[true, false, true, false, false, false, false, false, false, false, false, false, false, false, false, false, false, false, false, false, false] rfl rfl (any_of HT_.out (by kernel_rfl)) (fun _ _ _ h => h) (Or.inl ⟨by rfl, ?_⟩) ?_ ?_
  rotate_left
  · intro w'
    go_simp
    with_reducible rfl
  rotate_left
  · simp only [Act.put, List.setIfInBounds_toArray, List.set_cons_zero, List.set_cons_succ, i64_w, i32_w]
    rfl
  refine pure_ (i := 5) (N := some 21) (v := ?_) (a' := ?_) #[true, false, true, false, false, true, false, false, false, false, false, false, false, false, false, false, false, false, false, false, false] rfl rfl (any_of HT_.out (by kernel_rfl)) (fun _ _ _ h => h) (Or.inl ⟨by rfl, ?_⟩) ?_ ?_
  rotate_left
  · intro w'
    go_simp
    with_reducible rfl
  rotate_left
  · simp only [Act.put, List.setIfInBounds_toArray, List.set_cons_zero, List.set_cons_succ, i64_w, i32_w]
    rfl
  refine pure_ (i := 7) (N := some 23) (v := ?_) (a' := ?_) #[true, false, true, false, false, true, false, true, false, false, false, false, false, false, false, false, false, false, false, false, false] rfl rfl (any_of HT_.out (by kernel_rfl)) (fun _ _ _ h => h) (Or.inl ⟨by rfl, ?_⟩) ?_ ?_
  rotate_left
  · intro w'
    go_simp
    with_reducible rfl
  rotate_left
  · simp only [Act.put, List.setIfInBounds_toArray, List.set_cons_zero, List.set_cons_succ, i64_w, i32_w]
    rfl
  refine pure_ (i := 10) (N := some 26) (v := ?_) (a' := ?_) #[true, false, true, false, false, true, false, true, false, false, true, false, false, false, false, false, false, false, false, false, false] rfl rfl (any_of HT_.out (by kernel_rfl)) (fun _ _ _ h => h) (Or.inl ⟨by rfl, ?_⟩) ?_ ?_
  rotate_left
  · intro w'
    go_simp
    with_reducible rfl
  rotate_left
  · simp only [Act.put, List.setIfInBounds_toArray, List.set_cons_zero, List.set_cons_succ, i64_w, i32_w]
    rfl
  refine pure_ (i := 12) (N := some 28) (v := ?_) (a' := ?_) #[true, false, true, false, false, true, false, true, false, false, true, false, true, false, false, false, false, false, false, false, false] rfl rfl (any_of HT_.out (by kernel_rfl)) (fun _ _ _ h => h) (Or.inl ⟨by rfl, ?_⟩) ?_ ?_
  rotate_left
  · intro w'
    go_simp
    with_reducible rfl
  rotate_left
  · simp only [Act.put, List.setIfInBounds_toArray, List.set_cons_zero, List.set_cons_succ, i64_w, i32_w]
    rfl
  refine take_ (i := 1) (N := some 17) (v := ?_) (a' := ?_) #[true, true, true, false, false, true, false, true, false, false, true, false, true, false, false, false, false, false, false, false, false] rfl rfl (take_ofW HT_.out HW_.out (by kernel_rfl)) (fun _ _ _ h => h) (Or.inl ⟨by rfl, ?_⟩) hHeld ?_ ?_
  rotate_left
  · rintro w' ⟨s0, s1, s2, s3, s4, s5⟩
    go_simp
    with_reducible rfl
  rotate_left
  · simp only [Act.put, List.setIfInBounds_toArray, List.set_cons_zero, List.set_cons_succ, i64_w, i32_w]
    rfl
  refine take_ (i := 3) (N := some 19) (v := ?_) (a' := ?_) #[true, true, true, true, false, true, false, true, false, false, true, false, true, false, false, false, false, false, false, false, false] rfl rfl (take_ofW HT_.out HW_.out (by kernel_rfl)) (fun _ _ _ h => h) (Or.inl ⟨by rfl, ?_⟩) hHeld ?_ ?_
  rotate_left
  · rintro w' ⟨s0, s1, s2, s3, s4, s5⟩
    go_simp
    with_reducible rfl
  rotate_left
  · simp only [Act.put, List.setIfInBounds_toArray, List.set_cons_zero, List.set_cons_succ, i64_w, i32_w]
    rfl
  refine take_ (i := 6) (N := some 22) (v := ?_) (a' := ?_) #[true, true, true, true, false, true, true, true, false, false, true, false, true, false, false, false, false, false, false, false, false] rfl rfl (take_ofW HT_.out HW_.out (by kernel_rfl)) (fun _ _ _ h => h) (Or.inl ⟨by rfl, ?_⟩) hHeld ?_ ?_
  rotate_left
  · rintro w' ⟨s0, s1, s2, s3, s4, s5⟩
    go_simp
    with_reducible rfl
  rotate_left
  · simp only [Act.put, List.setIfInBounds_toArray, List.set_cons_zero, List.set_cons_succ, i64_w, i32_w]
    rfl
  refine take_ (i := 8) (N := some 24) (v := ?_) (a' := ?_) #[true, true, true, true, false, true, true, true, true, false, true, false, true, false, false, false, false, false, false, false, false] rfl rfl (take_ofW HT_.out HW_.out (by kernel_rfl)) (fun _ _ _ h => h) (Or.inl ⟨by rfl, ?_⟩) hHeld ?_ ?_
  rotate_left
  · rintro w' ⟨s0, s1, s2, s3, s4, s5⟩
    go_simp
    with_reducible rfl
  rotate_left
  · simp only [Act.put, List.setIfInBounds_toArray, List.set_cons_zero, List.set_cons_succ, i64_w, i32_w]
    rfl
  refine take_ (i := 11) (N := some 27) (v := ?_) (a' := ?_) #[true, true, true, true, false, true, true, true, true, false, true, true, true, false, false, false, false, false, false, false, false] rfl rfl (take_ofW HT_.out HW_.out (by kernel_rfl)) (fun _ _ _ h => h) (Or.inl ⟨by rfl, ?_⟩) hHeld ?_ ?_
  rotate_left
  · rintro w' ⟨s0, s1, s2, s3, s4, s5⟩
    go_simp
    with_reducible rfl
  rotate_left
  · simp only [Act.put, List.setIfInBounds_toArray, List.set_cons_zero, List.set_cons_succ, i64_w, i32_w]
    rfl
  refine take_ (i := 13) (N := some 29) (v := ?_) (a' := ?_) #[true, true, true, true, false, true, true, true, true, false, true, true, true, true, false, false, false, false, false, false, false] rfl rfl (take_ofW HT_.out HW_.out (by kernel_rfl)) (fun _ _ _ h => h) (Or.inl ⟨by rfl, ?_⟩) hHeld ?_ ?_
  rotate_left
  · rintro w' ⟨s0, s1, s2, s3, s4, s5⟩
    go_simp
    with_reducible rfl
  rotate_left
  · simp only [Act.put, List.setIfInBounds_toArray, List.set_cons_zero, List.set_cons_succ, i64_w, i32_w]
    rfl
  refine pure_ (i := 4) (N := some 20) (v := .agg (ev s1 t1)) (a' := ?_) #[true, true, true, true, true, true, true, true, true, false, true, true, true, true, false, false, false, false, false, false, false] rfl rfl (any_of HT_.out (by kernel_rfl)) (fun _ _ _ h => h) (Or.inl ⟨by rfl, fun w' => xbuild (.tmp 17) (.tmp 19) s1 t1 rfl rfl rfl w'⟩) ?_ ?_
  rotate_left
  · simp only [Act.put, List.setIfInBounds_toArray, List.set_cons_zero, List.set_cons_succ, i64_w, i32_w]
    rfl
  refine pure_ (i := 9) (N := some 25) (v := .agg (ev s2 t2)) (a' := ?_) #[true, true, true, true, true, true, true, true, true, true, true, true, true, true, false, false, false, false, false, false, false] rfl rfl (any_of HT_.out (by kernel_rfl)) (fun _ _ _ h => h) (Or.inl ⟨by rfl, fun w' => xbuild (.tmp 22) (.tmp 24) s2 t2 rfl rfl rfl w'⟩) ?_ ?_
  rotate_left
  · simp only [Act.put, List.setIfInBounds_toArray, List.set_cons_zero, List.set_cons_succ, i64_w, i32_w]
    rfl
  refine pure_ (i := 14) (N := some 30) (v := .agg (ev s3 t3)) (a' := ?_) #[true, true, true, true, true, true, true, true, true, true, true, true, true, true, true, false, false, false, false, false, false] rfl rfl (any_of HT_.out (by kernel_rfl)) (fun _ _ _ h => h) (Or.inl ⟨by rfl, fun w' => xbuild (.tmp 27) (.tmp 29) s3 t3 rfl rfl rfl w'⟩) ?_ ?_
  rotate_left
  · simp only [Act.put, List.setIfInBounds_toArray, List.set_cons_zero, List.set_cons_succ, i64_w, i32_w]
    rfl
  refine join_ (σ := Nat × Nat × Nat) 3 #[true, true, true, true, true, true, true, true, true, true, true, true, true, true, true, true, true, true, false, false, false] (fun s => [(7, .pointer (some ⟨s.1, 0, none⟩)), (8, .pointer (some ⟨s.2.1, 0, none⟩)), (9, .pointer (some ⟨s.2.2, 0, none⟩))]) (fun s w' => Laid w2.heap.size s w' ∧ HS w.heap.size s1 t1 s2 t2 s3 t3 w' ∧ Below w.heap.size w w') ?_ ?_
  · rintro ⟨bx, by_, bz⟩ w3 ⟨⟨x1, x2, x3, n1, n2, n3, m1, m2, m3⟩, hS, hBw⟩
    dsimp only at x1 x2 x3 n1 n2 n3 m1 m2 m3
    have hw := B2.out.size
    have B := Lib.hid hBw
    clear hBw hHeld B2
    have X1 := Lib.hid x1
    have X2 := Lib.hid x2
    have X3 := Lib.hid x3
    clear x1 x2 x3
    refine norm_ (a' := ?_) ?_ ?_
    rotate_left
    · simp only [putAll]
      simp only [Act.put, List.setIfInBounds_toArray, List.set_cons_zero, List.set_cons_succ, i64_w, i32_w]
      rfl
    refine one_ (i := 18) (N := none) #[true, true, true, true, true, true, true, true, true, true, true, true, true, true, true, true, true, true, true, false, false] rfl rfl (one_of HT_.out (by kernel_rfl)) (by decide) (fun K hK => ?_)
    refine skip_ (by rfl) rfl (xstore (.tmp 7) (.tmp 20) bx s1 t1 rfl rfl rfl _ X1.out) ?_
    refine hK.out _ _ (hS.far bx (ev s1 t1) (by omega)) (fun hS => ?_)
    clear hK K
    replace B := Lib.hid (below_row B.out bx (ev s1 t1) (by omega))
    replace X1 := Lib.hid (setRow_heap _ bx _ (ev s1 t1) _ _ X1.out)
    replace X2 := Lib.hid ((setRow_other _ bx _ (ev s1 t1) (by first | exact n1 | exact n2 | exact n3 | exact n1.symm | exact n2.symm | exact n3.symm)).trans X2.out)
    replace X3 := Lib.hid ((setRow_other _ bx _ (ev s1 t1) (by first | exact n1 | exact n2 | exact n3 | exact n1.symm | exact n2.symm | exact n3.symm)).trans X3.out)
    generalize w3.setRow bx (ev s1 t1) = w4 at hS B X1 X2 X3 ⊢
    refine one_ (i := 19) (N := none) #[true, true, true, true, true, true, true, true, true, true, true, true, true, true, true, true, true, true, true, true, false] rfl rfl (one_of HT_.out (by kernel_rfl)) (by decide) (fun K hK => ?_)
    refine skip_ (by rfl) rfl (xstore (.tmp 8) (.tmp 25) by_ s2 t2 rfl rfl rfl _ X2.out) ?_
    refine hK.out _ _ (hS.far by_ (ev s2 t2) (by omega)) (fun hS => ?_)
    clear hK K
    replace B := Lib.hid (below_row B.out by_ (ev s2 t2) (by omega))
    replace X1 := Lib.hid ((setRow_other _ by_ _ (ev s2 t2) (by first | exact n1 | exact n2 | exact n3 | exact n1.symm | exact n2.symm | exact n3.symm)).trans X1.out)
    replace X2 := Lib.hid (setRow_heap _ by_ _ (ev s2 t2) _ _ X2.out)
    replace X3 := Lib.hid ((setRow_other _ by_ _ (ev s2 t2) (by first | exact n1 | exact n2 | exact n3 | exact n1.symm | exact n2.symm | exact n3.symm)).trans X3.out)
    generalize w4.setRow by_ (ev s2 t2) = w5 at hS B X1 X2 X3 ⊢
    refine one_ (i := 20) (N := none) #[true, true, true, true, true, true, true, true, true, true, true, true, true, true, true, true, true, true, true, true, true] rfl rfl (one_of HT_.out (by kernel_rfl)) (by decide) (fun K hK => ?_)
    refine skip_ (by rfl) rfl (xstore (.tmp 9) (.tmp 30) bz s3 t3 rfl rfl rfl _ X3.out) ?_
    refine hK.out _ _ (hS.far bz (ev s3 t3) (by omega)) (fun hS => ?_)
    clear hK K
    replace B := Lib.hid (below_row B.out bz (ev s3 t3) (by omega))
    replace X1 := Lib.hid ((setRow_other _ bz _ (ev s3 t3) (by first | exact n1 | exact n2 | exact n3 | exact n1.symm | exact n2.symm | exact n3.symm)).trans X1.out)
    replace X2 := Lib.hid ((setRow_other _ bz _ (ev s3 t3) (by first | exact n1 | exact n2 | exact n3 | exact n1.symm | exact n2.symm | exact n3.symm)).trans X2.out)
    replace X3 := Lib.hid (setRow_heap _ bz _ (ev s3 t3) _ _ X3.out)
    generalize w5.setRow bz (ev s3 t3) = w6 at hS B X1 X2 X3 ⊢
    refine done_ (done_of HT_.out (by kernel_rfl)) ?_
    clear HT_ HW_
    go_wp2_with fail
    refine start_ (n := 16) (S := fun w' => w'.heap[bx]? = some (E s1 t1) ∧ w'.heap[by_]? = some (E s2 t2) ∧ w'.heap[bz]? = some (E s3 t3) ∧ HS w.heap.size s1 t1 s2 t2 s3 t3 w') (ds := []) #[false, false, false, false, false, false, false, false, false, false, false, false, false, false, false, false] (by kernel_rfl) rfl rfl ⟨X1.out, X2.out, X3.out, hS⟩ (fun hHeld => ?_)
    refine with_tabW tab4 bits4 (fun HT_ HW_ => ?_)
    replace B := Lib.hid (below_drew B.out)
    clear X1 X2 X3 hS
    generalize w6.drew = w7 at B hHeld ⊢
    refine take_ (i := 0) (N := some 31) (v := .agg (ev s1 t1)) (a' := ?_) #[true, false, false, false, false, false, false, false, false, false, false, false, false, false, false, false] rfl rfl (take_ofW HT_.out HW_.out (by kernel_rfl)) (fun _ _ _ h => h) (Or.inl ⟨by rfl, fun w' hs => xload (.tmp 7) bx s1 t1 rfl rfl w' hs.1⟩) hHeld ?_ ?_
    rotate_left
    · simp only [Act.put, List.setIfInBounds_toArray, List.set_cons_zero, List.set_cons_succ, i64_w, i32_w]
      rfl
    refine take_ (i := 1) (N := some 32) (v := .agg (ev s2 t2)) (a' := ?_) #[true, true, false, false, false, false, false, false, false, false, false, false, false, false, false, false] rfl rfl (take_ofW HT_.out HW_.out (by kernel_rfl)) (fun _ _ _ h => h) (Or.inl ⟨by rfl, fun w' hs => xload (.tmp 8) by_ s2 t2 rfl rfl w' hs.2.1⟩) hHeld ?_ ?_
    rotate_left
    · simp only [Act.put, List.setIfInBounds_toArray, List.set_cons_zero, List.set_cons_succ, i64_w, i32_w]
      rfl
    refine take_ (i := 3) (N := some 34) (v := .agg (ev s2 t2)) (a' := ?_) #[true, true, false, true, false, false, false, false, false, false, false, false, false, false, false, false] rfl rfl (take_ofW HT_.out HW_.out (by kernel_rfl)) (fun _ _ _ h => h) (Or.inl ⟨by rfl, fun w' hs => xload (.tmp 8) by_ s2 t2 rfl rfl w' hs.2.1⟩) hHeld ?_ ?_
    rotate_left
    · simp only [Act.put, List.setIfInBounds_toArray, List.set_cons_zero, List.set_cons_succ, i64_w, i32_w]
      rfl
    refine take_ (i := 4) (N := some 35) (v := .agg (ev s1 t1)) (a' := ?_) #[true, true, false, true, true, false, false, false, false, false, false, false, false, false, false, false] rfl rfl (take_ofW HT_.out HW_.out (by kernel_rfl)) (fun _ _ _ h => h) (Or.inl ⟨by rfl, fun w' hs => xload (.tmp 7) bx s1 t1 rfl rfl w' hs.1⟩) hHeld ?_ ?_
    rotate_left
    · simp only [Act.put, List.setIfInBounds_toArray, List.set_cons_zero, List.set_cons_succ, i64_w, i32_w]
      rfl
    refine take_ (i := 6) (N := some 37) (v := .agg (ev s2 t2)) (a' := ?_) #[true, true, false, true, true, false, true, false, false, false, false, false, false, false, false, false] rfl rfl (take_ofW HT_.out HW_.out (by kernel_rfl)) (fun _ _ _ h => h) (Or.inl ⟨by rfl, fun w' hs => xload (.tmp 8) by_ s2 t2 rfl rfl w' hs.2.1⟩) hHeld ?_ ?_
    rotate_left
    · simp only [Act.put, List.setIfInBounds_toArray, List.set_cons_zero, List.set_cons_succ, i64_w, i32_w]
      rfl
    refine take_ (i := 7) (N := some 38) (v := .agg (ev s3 t3)) (a' := ?_) #[true, true, false, true, true, false, true, true, false, false, false, false, false, false, false, false] rfl rfl (take_ofW HT_.out HW_.out (by kernel_rfl)) (fun _ _ _ h => h) (Or.inl ⟨by rfl, fun w' hs => xload (.tmp 9) bz s3 t3 rfl rfl w' hs.2.2.1⟩) hHeld ?_ ?_
    rotate_left
    · simp only [Act.put, List.setIfInBounds_toArray, List.set_cons_zero, List.set_cons_succ, i64_w, i32_w]
      rfl
    refine take_ (i := 9) (N := some 40) (v := .agg (ev s1 t1)) (a' := ?_) #[true, true, false, true, true, false, true, true, false, true, false, false, false, false, false, false] rfl rfl (take_ofW HT_.out HW_.out (by kernel_rfl)) (fun _ _ _ h => h) (Or.inl ⟨by rfl, fun w' hs => xload (.tmp 7) bx s1 t1 rfl rfl w' hs.1⟩) hHeld ?_ ?_
    rotate_left
    · simp only [Act.put, List.setIfInBounds_toArray, List.set_cons_zero, List.set_cons_succ, i64_w, i32_w]
      rfl
    refine take_ (i := 10) (N := some 41) (v := .agg (ev s3 t3)) (a' := ?_) #[true, true, false, true, true, false, true, true, false, true, true, false, false, false, false, false] rfl rfl (take_ofW HT_.out HW_.out (by kernel_rfl)) (fun _ _ _ h => h) (Or.inl ⟨by rfl, fun w' hs => xload (.tmp 9) bz s3 t3 rfl rfl w' hs.2.2.1⟩) hHeld ?_ ?_
    rotate_left
    · simp only [Act.put, List.setIfInBounds_toArray, List.set_cons_zero, List.set_cons_succ, i64_w, i32_w]
      rfl
    refine one_ (i := 2) (N := some 33) #[true, true, true, true, true, false, true, true, false, true, true, false, false, false, false, false] rfl rfl (one_of HT_.out (by kernel_rfl)) (by decide) (fun K hK => ?_)
    refine goes_ Try.func10 (by kernel_rfl) rfl #[.agg (ev s1 t1), .agg (ev s2 t2)] (by rfl) rfl rfl (by (try simp only [List.map_toArray, List.map_cons, List.map_nil]); first | done | rfl) ?_
    refine (newerN s1 t1 s2 t2 _).mono ?_
    rintro e w8 ⟨rfl, hb⟩
    refine ⟨_, rfl, ?_⟩
    replace B := Lib.hid (below_then B.out B.out.size hb)
    refine hK.out _ _ ⟨blk_below hHeld.1 hb, blk_below hHeld.2.1 hb, blk_below hHeld.2.2.1 hb, hHeld.2.2.2.below hb⟩ (fun hHeld => ?_)
    clear hK K hb
    refine norm_ (a' := ?_) ?_ ?_
    rotate_left
    · show Act.put _ (some 33) _ = _
      simp only [Act.put, List.setIfInBounds_toArray, List.set_cons_zero, List.set_cons_succ, i64_w, i32_w]
      rfl
    refine one_ (i := 5) (N := some 36) #[true, true, true, true, true, true, true, true, false, true, true, false, false, false, false, false] rfl rfl (one_of HT_.out (by kernel_rfl)) (by decide) (fun K hK => ?_)
    refine goes_ Try.func10 (by kernel_rfl) rfl #[.agg (ev s2 t2), .agg (ev s1 t1)] (by rfl) rfl rfl (by (try simp only [List.map_toArray, List.map_cons, List.map_nil]); first | done | rfl) ?_
    refine (newerN s2 t2 s1 t1 _).mono ?_
    rintro e w9 ⟨rfl, hb⟩
    refine ⟨_, rfl, ?_⟩
    replace B := Lib.hid (below_then B.out B.out.size hb)
    refine hK.out _ _ ⟨blk_below hHeld.1 hb, blk_below hHeld.2.1 hb, blk_below hHeld.2.2.1 hb, hHeld.2.2.2.below hb⟩ (fun hHeld => ?_)
    clear hK K hb
    refine norm_ (a' := ?_) ?_ ?_
    rotate_left
    · show Act.put _ (some 36) _ = _
      simp only [Act.put, List.setIfInBounds_toArray, List.set_cons_zero, List.set_cons_succ, i64_w, i32_w]
      rfl
    refine one_ (i := 8) (N := some 39) #[true, true, true, true, true, true, true, true, true, true, true, false, false, false, false, false] rfl rfl (one_of HT_.out (by kernel_rfl)) (by decide) (fun K hK => ?_)
    refine goes_ Try.func10 (by kernel_rfl) rfl #[.agg (ev s2 t2), .agg (ev s3 t3)] (by rfl) rfl rfl (by (try simp only [List.map_toArray, List.map_cons, List.map_nil]); first | done | rfl) ?_
    refine (newerN s2 t2 s3 t3 _).mono ?_
    rintro e w10 ⟨rfl, hb⟩
    refine ⟨_, rfl, ?_⟩
    replace B := Lib.hid (below_then B.out B.out.size hb)
    refine hK.out _ _ ⟨blk_below hHeld.1 hb, blk_below hHeld.2.1 hb, blk_below hHeld.2.2.1 hb, hHeld.2.2.2.below hb⟩ (fun hHeld => ?_)
    clear hK K hb
    refine norm_ (a' := ?_) ?_ ?_
    rotate_left
    · show Act.put _ (some 39) _ = _
      simp only [Act.put, List.setIfInBounds_toArray, List.set_cons_zero, List.set_cons_succ, i64_w, i32_w]
      rfl
    refine one_ (i := 11) (N := some 42) #[true, true, true, true, true, true, true, true, true, true, true, true, false, false, false, false] rfl rfl (one_of HT_.out (by kernel_rfl)) (by decide) (fun K hK => ?_)
    refine goes_ Try.func10 (by kernel_rfl) rfl #[.agg (ev s1 t1), .agg (ev s3 t3)] (by rfl) rfl rfl (by (try simp only [List.map_toArray, List.map_cons, List.map_nil]); first | done | rfl) ?_
    refine (newerN s1 t1 s3 t3 _).mono ?_
    rintro e w11 ⟨rfl, hb⟩
    refine ⟨_, rfl, ?_⟩
    replace B := Lib.hid (below_then B.out B.out.size hb)
    refine hK.out _ _ ⟨blk_below hHeld.1 hb, blk_below hHeld.2.1 hb, blk_below hHeld.2.2.1 hb, hHeld.2.2.2.below hb⟩ (fun hHeld => ?_)
    clear hK K hb
    refine norm_ (a' := ?_) ?_ ?_
    rotate_left
    · show Act.put _ (some 42) _ = _
      simp only [Act.put, List.setIfInBounds_toArray, List.set_cons_zero, List.set_cons_succ, i64_w, i32_w]
      rfl
    refine pure_ (i := 12) (N := some 10) (v := ?_) (a' := ?_) #[true, true, true, true, true, true, true, true, true, true, true, true, true, false, false, false] rfl rfl (any_of HT_.out (by kernel_rfl)) (fun _ _ _ h => h) (Or.inl ⟨by rfl, ?_⟩) ?_ ?_
    rotate_left
    · intro w'
      go_simp
      with_reducible rfl
    rotate_left
    · simp only [Act.put, List.setIfInBounds_toArray, List.set_cons_zero, List.set_cons_succ, i64_w, i32_w]
      rfl
    refine pure_ (i := 13) (N := some 11) (v := ?_) (a' := ?_) #[true, true, true, true, true, true, true, true, true, true, true, true, true, true, false, false] rfl rfl (any_of HT_.out (by kernel_rfl)) (fun _ _ _ h => h) (Or.inl ⟨by rfl, ?_⟩) ?_ ?_
    rotate_left
    · intro w'
      go_simp
      with_reducible rfl
    rotate_left
    · simp only [Act.put, List.setIfInBounds_toArray, List.set_cons_zero, List.set_cons_succ, i64_w, i32_w]
      rfl
    refine pure_ (i := 14) (N := some 12) (v := ?_) (a' := ?_) #[true, true, true, true, true, true, true, true, true, true, true, true, true, true, true, false] rfl rfl (any_of HT_.out (by kernel_rfl)) (fun _ _ _ h => h) (Or.inl ⟨by rfl, ?_⟩) ?_ ?_
    rotate_left
    · intro w'
      go_simp
      with_reducible rfl
    rotate_left
    · simp only [Act.put, List.setIfInBounds_toArray, List.set_cons_zero, List.set_cons_succ, i64_w, i32_w]
      rfl
    refine pure_ (i := 15) (N := some 13) (v := ?_) (a' := ?_) #[true, true, true, true, true, true, true, true, true, true, true, true, true, true, true, true] rfl rfl (any_of HT_.out (by kernel_rfl)) (fun _ _ _ h => h) (Or.inl ⟨by rfl, ?_⟩) ?_ ?_
    rotate_left
    · intro w'
      go_simp
      with_reducible rfl
    rotate_left
    · simp only [Act.put, List.setIfInBounds_toArray, List.set_cons_zero, List.set_cons_succ, i64_w, i32_w]
      rfl
    refine done_ (done_of HT_.out (by kernel_rfl)) ?_
    clear HT_ HW_
    obtain ⟨x1, x2, x3, h0, h1, h2, h3, h4, h5⟩ := hHeld
    have X1 := Lib.hid x1
    clear x1 x2 x3
    have f1 := nw_asym s1 t1 s2 t2
    have f2 := nw_tot s1 t1 s2 t2
    have f3 := nw_trans s1 t1 s2 t2 s3 t3
    have F := Lib.hid (And.intro f1 (And.intro f2 f3))
    clear f1 f2 f3
    generalize nw s1 t1 s2 t2 = xy at F ⊢
    generalize nw s2 t2 s1 t1 = yx at F ⊢
    generalize nw s2 t2 s3 t3 = yz at F ⊢
    generalize nw s1 t1 s3 t3 = xz at F ⊢
    obtain ⟨f1, f2, f3⟩ := F.out
    clear F
    cases xy <;> cases yx <;> cases yz <;> cases xz
    all_goals (first | (exact absurd (f1 rfl) (by decide)) | (exact absurd (f3 rfl rfl) (by decide)) | skip)
    all_goals (try (have hs := f2 rfl rfl; have eb := eqq_of hs; clear hs))
    all_goals clear f1 f2 f3
    all_goals go_wp2_with (first | ((with_reducible refine gate_ (.load 36 (.tmp 7)) rfl ?_); (try (refine gate_guard (by rfl) ?_; dsimp only)); refine Kd.event_run rfl (xload (.tmp 7) bx s1 t1 rfl rfl _ X1.out) ?_) | (go_at_call 10; refine (newerSelf s1 t1 _).mono ?_; rintro e w12 ⟨rfl, hb⟩; replace B := Lib.hid (below_then B.out B.out.size hb); clear hb))
    all_goals go_ret
    all_goals exact ⟨rfl, B.out⟩
  · intro hc
    have BB := B2
    clear B2
    simp only [putAll, Act.put, List.setIfInBounds_toArray, List.set_cons_zero, List.set_cons_succ, i64_w, i32_w] at hc
    refine three_ (i := 15) (j := 16) (k := 17) (Ni := some 7) (Nj := some 8) (Nk := some 9) #[true, true, true, true, true, true, true, true, true, true, true, true, true, true, true, true, false, false, false, false, false] #[true, true, true, true, true, true, true, true, true, true, true, true, true, true, true, false, true, false, false, false, false] #[true, true, true, true, true, true, true, true, true, true, true, true, true, true, true, false, false, true, false, false, false] rfl rfl rfl rfl rfl rfl (three_of HT_.out (by kernel_rfl)) (by decide) (by decide) (by decide) (fun K hK => ?_) (fun K hK => ?_) (fun K hK => ?_)
    · refine box_step (by rfl) (N := 7) rfl (cs := ev 0 0) (t := EvR.T) (xalloc rfl _) ?_
      intro g1 e1 v1 y1 hb
      have z1 := hb.size
      have q1 := blk_lt y1
      replace BB := Lib.hid (below_then BB.out BB.out.size hb)
      refine hK.out _ _ (hHeld.below hb) (fun hHeld => ?_)
      clear hK K hb
      refine norm_ (a' := ?_) ?_ ?_
      rotate_left
      · show Act.put _ (some 7) _ = _
        simp only [Act.put, List.setIfInBounds_toArray, List.set_cons_zero, List.set_cons_succ, i64_w, i32_w]
        rfl
      refine two_ (i := 16) (j := 17) (Ni := some 8) (Nj := some 9) #[true, true, true, true, true, true, true, true, true, true, true, true, true, true, true, true, true, false, false, false, false] #[true, true, true, true, true, true, true, true, true, true, true, true, true, true, true, true, false, true, false, false, false] rfl rfl rfl rfl (two_of HT_.out (by kernel_rfl)) (by decide) (by decide) (fun K hK => ?_) (fun K hK => ?_)
      · refine box_step (by rfl) (N := 8) rfl (cs := ev 0 0) (t := EvR.T) (xalloc rfl _) ?_
        intro g2 e2 v2 y2 hb
        have z2 := hb.size
        have q2 := blk_lt y2
        have r12 := blk_lt y1
        replace y1 := blk_below y1 hb
        replace BB := Lib.hid (below_then BB.out BB.out.size hb)
        refine hK.out _ _ (hHeld.below hb) (fun hHeld => ?_)
        clear hK K hb
        refine norm_ (a' := ?_) ?_ ?_
        rotate_left
        · show Act.put _ (some 8) _ = _
          simp only [Act.put, List.setIfInBounds_toArray, List.set_cons_zero, List.set_cons_succ, i64_w, i32_w]
          rfl
        refine one_ (i := 17) (N := some 9) #[true, true, true, true, true, true, true, true, true, true, true, true, true, true, true, true, true, true, false, false, false] rfl rfl (one_of HT_.out (by kernel_rfl)) (by decide) (fun K hK => ?_)
        refine box_step (by rfl) (N := 9) rfl (cs := ev 0 0) (t := EvR.T) (xalloc rfl _) ?_
        intro g3 e3 v3 y3 hb
        have z3 := hb.size
        have q3 := blk_lt y3
        have r13 := blk_lt y1
        replace y1 := blk_below y1 hb
        have r23 := blk_lt y2
        replace y2 := blk_below y2 hb
        replace BB := Lib.hid (below_then BB.out BB.out.size hb)
        refine hK.out _ _ (hHeld.below hb) (fun hHeld => ?_)
        clear hK K hb
        refine norm_ (a' := ?_) ?_ ?_
        rotate_left
        · show Act.put _ (some 9) _ = _
          simp only [Act.put, List.setIfInBounds_toArray, List.set_cons_zero, List.set_cons_succ, i64_w, i32_w]
          rfl
        exact hc (g1, g2, g3) _ ⟨⟨y1, y2, y3, by show g1 ≠ g2; omega, by show g1 ≠ g3; omega, by show g2 ≠ g3; omega, by show _ ≤ g1; omega, by show _ ≤ g2; omega, by show _ ≤ g3; omega⟩, hHeld, BB.out⟩
      · refine box_step (by rfl) (N := 9) rfl (cs := ev 0 0) (t := EvR.T) (xalloc rfl _) ?_
        intro g2 e2 v2 y2 hb
        have z2 := hb.size
        have q2 := blk_lt y2
        have r12 := blk_lt y1
        replace y1 := blk_below y1 hb
        replace BB := Lib.hid (below_then BB.out BB.out.size hb)
        refine hK.out _ _ (hHeld.below hb) (fun hHeld => ?_)
        clear hK K hb
        refine norm_ (a' := ?_) ?_ ?_
        rotate_left
        · show Act.put _ (some 9) _ = _
          simp only [Act.put, List.setIfInBounds_toArray, List.set_cons_zero, List.set_cons_succ, i64_w, i32_w]
          rfl
        refine one_ (i := 16) (N := some 8) #[true, true, true, true, true, true, true, true, true, true, true, true, true, true, true, true, true, true, false, false, false] rfl rfl (one_of HT_.out (by kernel_rfl)) (by decide) (fun K hK => ?_)
        refine box_step (by rfl) (N := 8) rfl (cs := ev 0 0) (t := EvR.T) (xalloc rfl _) ?_
        intro g3 e3 v3 y3 hb
        have z3 := hb.size
        have q3 := blk_lt y3
        have r13 := blk_lt y1
        replace y1 := blk_below y1 hb
        have r23 := blk_lt y2
        replace y2 := blk_below y2 hb
        replace BB := Lib.hid (below_then BB.out BB.out.size hb)
        refine hK.out _ _ (hHeld.below hb) (fun hHeld => ?_)
        clear hK K hb
        refine norm_ (a' := ?_) ?_ ?_
        rotate_left
        · show Act.put _ (some 8) _ = _
          simp only [Act.put, List.setIfInBounds_toArray, List.set_cons_zero, List.set_cons_succ, i64_w, i32_w]
          rfl
        exact hc (g1, g3, g2) _ ⟨⟨y1, y3, y2, by show g1 ≠ g3; omega, by show g1 ≠ g2; omega, by show g3 ≠ g2; omega, by show _ ≤ g1; omega, by show _ ≤ g3; omega, by show _ ≤ g2; omega⟩, hHeld, BB.out⟩
    · refine box_step (by rfl) (N := 8) rfl (cs := ev 0 0) (t := EvR.T) (xalloc rfl _) ?_
      intro g1 e1 v1 y1 hb
      have z1 := hb.size
      have q1 := blk_lt y1
      replace BB := Lib.hid (below_then BB.out BB.out.size hb)
      refine hK.out _ _ (hHeld.below hb) (fun hHeld => ?_)
      clear hK K hb
      refine norm_ (a' := ?_) ?_ ?_
      rotate_left
      · show Act.put _ (some 8) _ = _
        simp only [Act.put, List.setIfInBounds_toArray, List.set_cons_zero, List.set_cons_succ, i64_w, i32_w]
        rfl
      refine two_ (i := 15) (j := 17) (Ni := some 7) (Nj := some 9) #[true, true, true, true, true, true, true, true, true, true, true, true, true, true, true, true, true, false, false, false, false] #[true, true, true, true, true, true, true, true, true, true, true, true, true, true, true, false, true, true, false, false, false] rfl rfl rfl rfl (two_of HT_.out (by kernel_rfl)) (by decide) (by decide) (fun K hK => ?_) (fun K hK => ?_)
      · refine box_step (by rfl) (N := 7) rfl (cs := ev 0 0) (t := EvR.T) (xalloc rfl _) ?_
        intro g2 e2 v2 y2 hb
        have z2 := hb.size
        have q2 := blk_lt y2
        have r12 := blk_lt y1
        replace y1 := blk_below y1 hb
        replace BB := Lib.hid (below_then BB.out BB.out.size hb)
        refine hK.out _ _ (hHeld.below hb) (fun hHeld => ?_)
        clear hK K hb
        refine norm_ (a' := ?_) ?_ ?_
        rotate_left
        · show Act.put _ (some 7) _ = _
          simp only [Act.put, List.setIfInBounds_toArray, List.set_cons_zero, List.set_cons_succ, i64_w, i32_w]
          rfl
        refine one_ (i := 17) (N := some 9) #[true, true, true, true, true, true, true, true, true, true, true, true, true, true, true, true, true, true, false, false, false] rfl rfl (one_of HT_.out (by kernel_rfl)) (by decide) (fun K hK => ?_)
        refine box_step (by rfl) (N := 9) rfl (cs := ev 0 0) (t := EvR.T) (xalloc rfl _) ?_
        intro g3 e3 v3 y3 hb
        have z3 := hb.size
        have q3 := blk_lt y3
        have r13 := blk_lt y1
        replace y1 := blk_below y1 hb
        have r23 := blk_lt y2
        replace y2 := blk_below y2 hb
        replace BB := Lib.hid (below_then BB.out BB.out.size hb)
        refine hK.out _ _ (hHeld.below hb) (fun hHeld => ?_)
        clear hK K hb
        refine norm_ (a' := ?_) ?_ ?_
        rotate_left
        · show Act.put _ (some 9) _ = _
          simp only [Act.put, List.setIfInBounds_toArray, List.set_cons_zero, List.set_cons_succ, i64_w, i32_w]
          rfl
        exact hc (g2, g1, g3) _ ⟨⟨y2, y1, y3, by show g2 ≠ g1; omega, by show g2 ≠ g3; omega, by show g1 ≠ g3; omega, by show _ ≤ g2; omega, by show _ ≤ g1; omega, by show _ ≤ g3; omega⟩, hHeld, BB.out⟩
      · refine box_step (by rfl) (N := 9) rfl (cs := ev 0 0) (t := EvR.T) (xalloc rfl _) ?_
        intro g2 e2 v2 y2 hb
        have z2 := hb.size
        have q2 := blk_lt y2
        have r12 := blk_lt y1
        replace y1 := blk_below y1 hb
        replace BB := Lib.hid (below_then BB.out BB.out.size hb)
        refine hK.out _ _ (hHeld.below hb) (fun hHeld => ?_)
        clear hK K hb
        refine norm_ (a' := ?_) ?_ ?_
        rotate_left
        · show Act.put _ (some 9) _ = _
          simp only [Act.put, List.setIfInBounds_toArray, List.set_cons_zero, List.set_cons_succ, i64_w, i32_w]
          rfl
        refine one_ (i := 15) (N := some 7) #[true, true, true, true, true, true, true, true, true, true, true, true, true, true, true, true, true, true, false, false, false] rfl rfl (one_of HT_.out (by kernel_rfl)) (by decide) (fun K hK => ?_)
        refine box_step (by rfl) (N := 7) rfl (cs := ev 0 0) (t := EvR.T) (xalloc rfl _) ?_
        intro g3 e3 v3 y3 hb
        have z3 := hb.size
        have q3 := blk_lt y3
        have r13 := blk_lt y1
        replace y1 := blk_below y1 hb
        have r23 := blk_lt y2
        replace y2 := blk_below y2 hb
        replace BB := Lib.hid (below_then BB.out BB.out.size hb)
        refine hK.out _ _ (hHeld.below hb) (fun hHeld => ?_)
        clear hK K hb
        refine norm_ (a' := ?_) ?_ ?_
        rotate_left
        · show Act.put _ (some 7) _ = _
          simp only [Act.put, List.setIfInBounds_toArray, List.set_cons_zero, List.set_cons_succ, i64_w, i32_w]
          rfl
        exact hc (g3, g1, g2) _ ⟨⟨y3, y1, y2, by show g3 ≠ g1; omega, by show g3 ≠ g2; omega, by show g1 ≠ g2; omega, by show _ ≤ g3; omega, by show _ ≤ g1; omega, by show _ ≤ g2; omega⟩, hHeld, BB.out⟩
    · refine box_step (by rfl) (N := 9) rfl (cs := ev 0 0) (t := EvR.T) (xalloc rfl _) ?_
      intro g1 e1 v1 y1 hb
      have z1 := hb.size
      have q1 := blk_lt y1
      replace BB := Lib.hid (below_then BB.out BB.out.size hb)
      refine hK.out _ _ (hHeld.below hb) (fun hHeld => ?_)
      clear hK K hb
      refine norm_ (a' := ?_) ?_ ?_
      rotate_left
      · show Act.put _ (some 9) _ = _
        simp only [Act.put, List.setIfInBounds_toArray, List.set_cons_zero, List.set_cons_succ, i64_w, i32_w]
        rfl
      refine two_ (i := 15) (j := 16) (Ni := some 7) (Nj := some 8) #[true, true, true, true, true, true, true, true, true, true, true, true, true, true, true, true, false, true, false, false, false] #[true, true, true, true, true, true, true, true, true, true, true, true, true, true, true, false, true, true, false, false, false] rfl rfl rfl rfl (two_of HT_.out (by kernel_rfl)) (by decide) (by decide) (fun K hK => ?_) (fun K hK => ?_)
      · refine box_step (by rfl) (N := 7) rfl (cs := ev 0 0) (t := EvR.T) (xalloc rfl _) ?_
        intro g2 e2 v2 y2 hb
        have z2 := hb.size
        have q2 := blk_lt y2
        have r12 := blk_lt y1
        replace y1 := blk_below y1 hb
        replace BB := Lib.hid (below_then BB.out BB.out.size hb)
        refine hK.out _ _ (hHeld.below hb) (fun hHeld => ?_)
        clear hK K hb
        refine norm_ (a' := ?_) ?_ ?_
        rotate_left
        · show Act.put _ (some 7) _ = _
          simp only [Act.put, List.setIfInBounds_toArray, List.set_cons_zero, List.set_cons_succ, i64_w, i32_w]
          rfl
        refine one_ (i := 16) (N := some 8) #[true, true, true, true, true, true, true, true, true, true, true, true, true, true, true, true, true, true, false, false, false] rfl rfl (one_of HT_.out (by kernel_rfl)) (by decide) (fun K hK => ?_)
        refine box_step (by rfl) (N := 8) rfl (cs := ev 0 0) (t := EvR.T) (xalloc rfl _) ?_
        intro g3 e3 v3 y3 hb
        have z3 := hb.size
        have q3 := blk_lt y3
        have r13 := blk_lt y1
        replace y1 := blk_below y1 hb
        have r23 := blk_lt y2
        replace y2 := blk_below y2 hb
        replace BB := Lib.hid (below_then BB.out BB.out.size hb)
        refine hK.out _ _ (hHeld.below hb) (fun hHeld => ?_)
        clear hK K hb
        refine norm_ (a' := ?_) ?_ ?_
        rotate_left
        · show Act.put _ (some 8) _ = _
          simp only [Act.put, List.setIfInBounds_toArray, List.set_cons_zero, List.set_cons_succ, i64_w, i32_w]
          rfl
        exact hc (g2, g3, g1) _ ⟨⟨y2, y3, y1, by show g2 ≠ g3; omega, by show g2 ≠ g1; omega, by show g3 ≠ g1; omega, by show _ ≤ g2; omega, by show _ ≤ g3; omega, by show _ ≤ g1; omega⟩, hHeld, BB.out⟩
      · refine box_step (by rfl) (N := 8) rfl (cs := ev 0 0) (t := EvR.T) (xalloc rfl _) ?_
        intro g2 e2 v2 y2 hb
        have z2 := hb.size
        have q2 := blk_lt y2
        have r12 := blk_lt y1
        replace y1 := blk_below y1 hb
        replace BB := Lib.hid (below_then BB.out BB.out.size hb)
        refine hK.out _ _ (hHeld.below hb) (fun hHeld => ?_)
        clear hK K hb
        refine norm_ (a' := ?_) ?_ ?_
        rotate_left
        · show Act.put _ (some 8) _ = _
          simp only [Act.put, List.setIfInBounds_toArray, List.set_cons_zero, List.set_cons_succ, i64_w, i32_w]
          rfl
        refine one_ (i := 15) (N := some 7) #[true, true, true, true, true, true, true, true, true, true, true, true, true, true, true, true, true, true, false, false, false] rfl rfl (one_of HT_.out (by kernel_rfl)) (by decide) (fun K hK => ?_)
        refine box_step (by rfl) (N := 7) rfl (cs := ev 0 0) (t := EvR.T) (xalloc rfl _) ?_
        intro g3 e3 v3 y3 hb
        have z3 := hb.size
        have q3 := blk_lt y3
        have r13 := blk_lt y1
        replace y1 := blk_below y1 hb
        have r23 := blk_lt y2
        replace y2 := blk_below y2 hb
        replace BB := Lib.hid (below_then BB.out BB.out.size hb)
        refine hK.out _ _ (hHeld.below hb) (fun hHeld => ?_)
        clear hK K hb
        refine norm_ (a' := ?_) ?_ ?_
        rotate_left
        · show Act.put _ (some 7) _ = _
          simp only [Act.put, List.setIfInBounds_toArray, List.set_cons_zero, List.set_cons_succ, i64_w, i32_w]
          rfl
        exact hc (g3, g2, g1) _ ⟨⟨y3, y2, y1, by show g3 ≠ g2; omega, by show g3 ≠ g1; omega, by show g2 ≠ g1; omega, by show _ ≤ g3; omega, by show _ ≤ g2; omega, by show _ ≤ g1; omega⟩, hHeld, BB.out⟩
end EventNewerW
theorem EventNewer_calls (s1 t1 s2 t2 s3 t3 : Int) (w : World) (h1 : (Lit.int .i64 s1).wf = true) (h2 : (Lit.int .i64 t1).wf = true) (h3 : (Lit.int .i64 s2).wf = true) (h4 : (Lit.int .i64 t2).wf = true) (h5 : (Lit.int .i64 s3).wf = true) (h6 : (Lit.int .i64 t3).wf = true) :
    Calls Try.prog 3 #[.agg #[.int .i64 s1, .int .i64 t1], .agg #[.int .i64 s2, .int .i64 t2], .agg #[.int .i64 s3, .int .i64 t3]] w fun e w' => e = .returned (.bool true) ∧ Below w.heap.size w w' := EventNewerW.walk s1 t1 s2 t2 s3 t3 w
end Go.Proofs.Ytddoidcbpcmlaaa.Pure
