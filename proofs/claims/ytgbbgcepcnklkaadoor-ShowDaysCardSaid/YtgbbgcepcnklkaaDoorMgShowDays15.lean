/- Texts of this claim, merged: ShowAw, PureShowDays. -/
import Derived.Test.YtgbbgcepcnklkaaDoorMgShowDays5
import Derived.Test.YtgbbgcepcnklkaaDoorMgShowDays13
import Derived.Test.YtgbbgcepcnklkaaDoorWTab
import Derived.Test.YtgbbgcepcnklkaaDoorMgShowDays14
import Derived.Lib.Hide
import Derived.Lib.AppendIntMem
import Derived.Test.YtgbbgcepcnklkaaDoorMgShowDays3
/- trystlaw27.awake, walked: the text of one day; the table of powers is a premise. (Written by gen_showaw.py.) -/
namespace Go.Proofs.YtgbbgcepcnklkaaDoor.ShowAw
open Go.RowKit Go.Proofs.YtgbbgcepcnklkaaDoorW.PrintWords Go.Proofs.YtgbbgcepcnklkaaDoorW.PrintLast Go.Proofs.YtgbbgcepcnklkaaDoor.Q
set_option linter.unusedVariables false
set_option linter.unusedSimpArgs false
abbrev Tab (w : World) : Prop := Lib.TabIs Tryd.prog w "internal/strconv.uint64pow10" .u64 Lib.pow10Tab
theorem tab_below {w w' : World} (h : Tab w) (hb : Below w.heap.size w w') : Tab w' := by
  unfold Tab Lib.TabIs World.var? at h ⊢
  cases hg : Program.globalNamed Tryd.prog "internal/strconv.uint64pow10" with
  | none => rw [hg] at h; cases h
  | some g =>
    rw [hg] at h
    simp only [Option.bind_some] at h ⊢
    have hlt : g < w.heap.size := by
      rcases Nat.lt_or_ge g w.heap.size with q | q
      · exact q
      · rw [Array.getElem?_eq_none q] at h; cases h
    rw [hb.block g hlt]
    exact h
theorem below_grow (w : World) (k : Nat) (os : Array Obj) : Below w.heap.size w (Sort.grow (w.drewN k) os) :=
  ⟨rfl, rfl, rfl, by simp [Sort.grow], fun i hi => by show (w.heap ++ os)[i]? = w.heap[i]?; rw [Array.getElem?_append_left hi]⟩
theorem itoa (n : Int) (s : ByteArray) (w : World) (h0 : -9223372036854775808 ≤ n) (h1 : n ≤ 9223372036854775807) (hs : (⟨(Lib.itoa n).toArray⟩ : ByteArray) = s) (ht : Tab w) :
    Calls Tryd.prog 68 #[.int .i64 n] w fun e w' => e = .returned (.string s) ∧ Below w.heap.size w w' := by
  refine (Shelf.strconv_Itoa n h0 h1 w ht).mono ?_
  rintro e w' ⟨rfl, k, os, rfl⟩
  exact ⟨by rw [hs], below_grow w k os⟩
theorem i1 : (⟨(Lib.itoa 2026).toArray⟩ : ByteArray) = ⟨#[50, 48, 50, 54]⟩ := by kernel_rfl
theorem i2 : (⟨(Lib.itoa 11).toArray⟩ : ByteArray) = ⟨#[49, 49]⟩ := by kernel_rfl
theorem i3 : (⟨(Lib.itoa 15).toArray⟩ : ByteArray) = ⟨#[49, 53]⟩ := by kernel_rfl
theorem ix (w : World) : (Instr.index 46 (.agg #[.func (.func 18) #[] #[], .func (.func 19) #[] #[], .func (.func 20) #[] #[], .func (.func 21) #[] #[], .func (.func 22) #[] #[], .func (.func 23) #[] #[], .func (.func 24) #[] #[]]) (.int .i64 0)).run Tryd.prog w = .ok (.func (.func 18) #[] #[]) w := by kernel_rfl
attribute [local go_sem] ix
theorem rd : rata_Date.f 40 739935 = some (2026, 11, 15, 0) := by kernel_rfl
set_option maxHeartbeats 4000000 in
set_option maxRecDepth 100000 in
theorem date (w : World) : Calls Tryd.prog 7 #[.int .i64 0, .int .i64 739935] w fun e w' => e = .returned (.tuple #[.agg #[.int .i64 2026, .int .i64 11, .int .i64 15], .int .i64 0]) ∧ Below w.heap.size w w' := by
  go_enter Tryd.func7, Tryd.ntmps7
  go_wp2_with fail
  refine (show_is.calls 0 true _ (by decide)).mono ?_
  rintro e w1 ⟨rfl, ⟨nd, rfl⟩⟩
  go_wp2_with fail
  refine (rata_Date.calls 40 739935 _ _ _ _ _ rd).mono ?_
  rintro e w2 ⟨rfl, hB⟩
  have B : Below w.heap.size w w2 := below_then (by repeat (with_reducible first | exact Below.refl _ _ | apply below_drew | apply pw_below_drewN | apply below_alloc)) (by simp) hB
  have hk : w2.heap[w.heap.size]? = some (.cells #[.int .i64 0, .int .i64 0, .int .i64 0] 24 (0, 0)) := (hB.block _ (by simp)).trans (by first | exact blk_drewN (blk_new w _) nd | exact blk_new w _ | (simp [World.alloc]; done))
  have c0 : w2.cell? ⟨w.heap.size, 0, none⟩ = some (.int .i64 0) := (blk_cell hk 0).trans rfl
  have c1 : w2.cell? ⟨w.heap.size, 1, none⟩ = some (.int .i64 0) := (blk_cell hk 1).trans rfl
  have c2 : w2.cell? ⟨w.heap.size, 2, none⟩ = some (.int .i64 0) := (blk_cell hk 2).trans rfl
  have f0 := blk_frozen hk 0; have f1 := blk_frozen hk 1; have f2 := blk_frozen hk 2
  clear hB hk
  go_wp2_with fail
  refine bodyPost_ret (v := .tuple #[.agg #[.int .i64 2026, .int .i64 11, .int .i64 15], .int .i64 0]) (by simp [results, Tryd.results7, go_sem, c0, c1, c2, f0, f1, f2]) rfl ⟨rfl, ?_⟩
  repeat (with_reducible first | exact B | apply pw_below_drewN | apply below_drew | refine below_set ?_ (by simp; done))

def T4 : Bool × List (List Nat × List Nat) := (true, [([], []), ([0], [0]), ([1], [1]), ([], []), ([2, 3], [2, 3]), ([], []), ([5], [5]), ([6, 2], [6]), ([4, 7], [4, 7]), ([8], [8]), ([], []), ([10], [10]), ([11, 7], [11]), ([9, 12], [9, 12]), ([13, 12, 0, 1, 2, 3, 4, 5, 6, 7, 8, 9, 10, 11, 12, 13], [13])])
def B4 : List Nat := [0, 1, 3, 0, 15, 0, 32, 103, 255, 511, 0, 1024, 3303, 8191, 16383]
theorem tab4 : rtab .any (opsOf Tryd.f25 4) = T4 := by kernel_rfl
theorem bits4 : waitsOk T4.2 B4 = true := by kernel_rfl

set_option maxHeartbeats 4000000 in
set_option maxRecDepth 100000 in
theorem written (w : World) (ht : Tab w) : Calls Tryd.prog 25 #[.int .i64 0, .agg #[.int .i64 2026, .int .i64 11, .int .i64 15]] w fun e w' => e = .returned (.string ⟨#[50, 48, 50, 54, 45, 49, 49, 45, 49, 53]⟩) ∧ Below w.heap.size w w' := by
  have T := Lib.hid ht
  clear ht
  go_enter Tryd.func25, Tryd.ntmps25
  go_wp2_with fail
  refine start_ (n := 15) (S := fun w' => w'.cell? ⟨w.heap.size, 0, none⟩ = some (.int .i64 2026) ∧ w'.cell? ⟨w.heap.size, 1, none⟩ = some (.int .i64 11) ∧ w'.cell? ⟨w.heap.size, 2, none⟩ = some (.int .i64 15)) (ds := []) #[false, false, false, false, false, false, false, false, false, false, false, false, false, false, false] (by kernel_rfl) rfl rfl ⟨by go_simp, by go_simp, by go_simp⟩ (fun hHeld => ?_)
  refine with_tabW tab4 bits4 (fun HT_ HW_ => ?_)
  have B : Below w.heap.size w _ := (by repeat (with_reducible first | exact Below.refl _ _ | apply below_drew | apply pw_below_drewN | apply below_alloc) : Below w.heap.size w ((w.alloc (.cells #[.int .i64 2026, .int .i64 11, .int .i64 15] 24 (0, 0))).drew))
  generalize (w.alloc (.cells #[.int .i64 2026, .int .i64 11, .int .i64 15] 24 (0, 0))).drew = w1 at B hHeld ⊢
  replace B := Lib.hid B
  refine pure_ (i := 0) (N := some 8) (v := ?_) (a' := ?_) #[true, false, false, false, false, false, false, false, false, false, false, false, false, false, false] rfl rfl (any_of HT_.out (by kernel_rfl)) (fun _ _ _ h => h) (Or.inl ⟨by rfl, ?_⟩) ?_ ?_
  rotate_left
  · intro w'
    go_simp
    with_reducible rfl
  rotate_left
  · simp only [Act.put, List.setIfInBounds_toArray, List.set_cons_zero, List.set_cons_succ, i64_w, i32_w]
    rfl
  refine pure_ (i := 5) (N := some 13) (v := ?_) (a' := ?_) #[true, false, false, false, false, true, false, false, false, false, false, false, false, false, false] rfl rfl (any_of HT_.out (by kernel_rfl)) (fun _ _ _ h => h) (Or.inl ⟨by rfl, ?_⟩) ?_ ?_
  rotate_left
  · intro w'
    go_simp
    with_reducible rfl
  rotate_left
  · simp only [Act.put, List.setIfInBounds_toArray, List.set_cons_zero, List.set_cons_succ, i64_w, i32_w]
    rfl
  refine pure_ (i := 10) (N := some 18) (v := ?_) (a' := ?_) #[true, false, false, false, false, true, false, false, false, false, true, false, false, false, false] rfl rfl (any_of HT_.out (by kernel_rfl)) (fun _ _ _ h => h) (Or.inl ⟨by rfl, ?_⟩) ?_ ?_
  rotate_left
  · intro w'
    go_simp
    with_reducible rfl
  rotate_left
  · simp only [Act.put, List.setIfInBounds_toArray, List.set_cons_zero, List.set_cons_succ, i64_w, i32_w]
    rfl
  refine pure_ (i := 3) (N := some 11) (v := ?_) (a' := ?_) #[true, false, false, true, false, true, false, false, false, false, true, false, false, false, false] rfl rfl (any_of HT_.out (by kernel_rfl)) (fun _ _ _ h => h) (Or.inl ⟨by rfl, ?_⟩) ?_ ?_
  rotate_left
  · intro w'
    go_simp
    with_reducible rfl
  rotate_left
  · simp only [Act.put, List.setIfInBounds_toArray, List.set_cons_zero, List.set_cons_succ, i64_w, i32_w]
    rfl
  refine take_ (i := 1) (N := some 9) (v := ?_) (a' := ?_) #[true, true, false, true, false, true, false, false, false, false, true, false, false, false, false] rfl rfl (take_ofW HT_.out HW_.out (by kernel_rfl)) (fun _ _ _ h => h) (Or.inl ⟨by rfl, ?_⟩) hHeld ?_ ?_
  rotate_left
  · rintro w' ⟨s0, s1, s2⟩
    go_simp
    with_reducible rfl
  rotate_left
  · simp only [Act.put, List.setIfInBounds_toArray, List.set_cons_zero, List.set_cons_succ, i64_w, i32_w]
    rfl
  refine take_ (i := 6) (N := some 14) (v := ?_) (a' := ?_) #[true, true, false, true, false, true, true, false, false, false, true, false, false, false, false] rfl rfl (take_ofW HT_.out HW_.out (by kernel_rfl)) (fun _ _ _ h => h) (Or.inl ⟨by rfl, ?_⟩) hHeld ?_ ?_
  rotate_left
  · rintro w' ⟨s0, s1, s2⟩
    go_simp
    with_reducible rfl
  rotate_left
  · simp only [Act.put, List.setIfInBounds_toArray, List.set_cons_zero, List.set_cons_succ, i64_w, i32_w]
    rfl
  refine take_ (i := 11) (N := some 19) (v := ?_) (a' := ?_) #[true, true, false, true, false, true, true, false, false, false, true, true, false, false, false] rfl rfl (take_ofW HT_.out HW_.out (by kernel_rfl)) (fun _ _ _ h => h) (Or.inl ⟨by rfl, ?_⟩) hHeld ?_ ?_
  rotate_left
  · rintro w' ⟨s0, s1, s2⟩
    go_simp
    with_reducible rfl
  rotate_left
  · simp only [Act.put, List.setIfInBounds_toArray, List.set_cons_zero, List.set_cons_succ, i64_w, i32_w]
    rfl
  refine one_ (i := 2) (N := some 10) #[true, true, true, true, false, true, true, false, false, false, true, true, false, false, false] rfl rfl (one_of HT_.out (by kernel_rfl)) (by decide) (fun K hK => ?_)
  refine goes_ Tryd.func68 (by kernel_rfl) rfl #[.int .i64 2026] (by rfl) rfl rfl (by (try simp only [List.map_toArray, List.map_cons, List.map_nil]); first | done | rfl) ?_
  refine (itoa 2026 ⟨#[50, 48, 50, 54]⟩ _ (by omega) (by omega) i1 (tab_below T.out B.out)).mono ?_
  rintro e w2 ⟨rfl, hb⟩
  refine ⟨_, rfl, ?_⟩
  replace B := Lib.hid (below_then B.out B.out.size hb)
  refine hK.out _ _ ⟨pw_cell_below hb hHeld.1, pw_cell_below hb hHeld.2.1, pw_cell_below hb hHeld.2.2⟩ (fun hHeld => ?_)
  clear hK K hb
  refine norm_ (a' := ?_) ?_ ?_
  rotate_left
  · show Act.put _ (some 10) _ = _
    simp only [Act.put, List.setIfInBounds_toArray, List.set_cons_zero, List.set_cons_succ, i64_w, i32_w]
    rfl
  refine pure_ (i := 4) (N := some 12) (v := ?_) (a' := ?_) #[true, true, true, true, true, true, true, false, false, false, true, true, false, false, false] rfl rfl (any_of HT_.out (by kernel_rfl)) (fun _ _ _ h => h) (Or.inl ⟨by rfl, ?_⟩) ?_ ?_
  rotate_left
  · intro w'
    go_simp
    with_reducible rfl
  rotate_left
  · simp only [Act.put, List.setIfInBounds_toArray, List.set_cons_zero, List.set_cons_succ, i64_w, i32_w]
    rfl
  refine one_ (i := 7) (N := some 15) #[true, true, true, true, true, true, true, true, false, false, true, true, false, false, false] rfl rfl (one_of HT_.out (by kernel_rfl)) (by decide) (fun K hK => ?_)
  refine goes_ Tryd.func68 (by kernel_rfl) rfl #[.int .i64 11] (by rfl) rfl rfl (by (try simp only [List.map_toArray, List.map_cons, List.map_nil]); first | done | rfl) ?_
  refine (itoa 11 ⟨#[49, 49]⟩ _ (by omega) (by omega) i2 (tab_below T.out B.out)).mono ?_
  rintro e w3 ⟨rfl, hb⟩
  refine ⟨_, rfl, ?_⟩
  replace B := Lib.hid (below_then B.out B.out.size hb)
  refine hK.out _ _ ⟨pw_cell_below hb hHeld.1, pw_cell_below hb hHeld.2.1, pw_cell_below hb hHeld.2.2⟩ (fun hHeld => ?_)
  clear hK K hb
  refine norm_ (a' := ?_) ?_ ?_
  rotate_left
  · show Act.put _ (some 15) _ = _
    simp only [Act.put, List.setIfInBounds_toArray, List.set_cons_zero, List.set_cons_succ, i64_w, i32_w]
    rfl
  refine pure_ (i := 8) (N := some 16) (v := ?_) (a' := ?_) #[true, true, true, true, true, true, true, true, true, false, true, true, false, false, false] rfl rfl (any_of HT_.out (by kernel_rfl)) (fun _ _ _ h => h) (Or.inl ⟨by rfl, ?_⟩) ?_ ?_
  rotate_left
  · intro w'
    go_simp
    with_reducible rfl
  rotate_left
  · simp only [Act.put, List.setIfInBounds_toArray, List.set_cons_zero, List.set_cons_succ, i64_w, i32_w]
    rfl
  refine pure_ (i := 9) (N := some 17) (v := ?_) (a' := ?_) #[true, true, true, true, true, true, true, true, true, true, true, true, false, false, false] rfl rfl (any_of HT_.out (by kernel_rfl)) (fun _ _ _ h => h) (Or.inl ⟨by rfl, ?_⟩) ?_ ?_
  rotate_left
  · intro w'
    go_simp
    with_reducible rfl
  rotate_left
  · simp only [Act.put, List.setIfInBounds_toArray, List.set_cons_zero, List.set_cons_succ, i64_w, i32_w]
    rfl
  refine one_ (i := 12) (N := some 20) #[true, true, true, true, true, true, true, true, true, true, true, true, true, false, false] rfl rfl (one_of HT_.out (by kernel_rfl)) (by decide) (fun K hK => ?_)
  refine goes_ Tryd.func68 (by kernel_rfl) rfl #[.int .i64 15] (by rfl) rfl rfl (by (try simp only [List.map_toArray, List.map_cons, List.map_nil]); first | done | rfl) ?_
  refine (itoa 15 ⟨#[49, 53]⟩ _ (by omega) (by omega) i3 (tab_below T.out B.out)).mono ?_
  rintro e w4 ⟨rfl, hb⟩
  refine ⟨_, rfl, ?_⟩
  replace B := Lib.hid (below_then B.out B.out.size hb)
  refine hK.out _ _ ⟨pw_cell_below hb hHeld.1, pw_cell_below hb hHeld.2.1, pw_cell_below hb hHeld.2.2⟩ (fun hHeld => ?_)
  clear hK K hb
  refine norm_ (a' := ?_) ?_ ?_
  rotate_left
  · show Act.put _ (some 20) _ = _
    simp only [Act.put, List.setIfInBounds_toArray, List.set_cons_zero, List.set_cons_succ, i64_w, i32_w]
    rfl
  refine pure_ (i := 13) (N := some 21) (v := ?_) (a' := ?_) #[true, true, true, true, true, true, true, true, true, true, true, true, true, true, false] rfl rfl (any_of HT_.out (by kernel_rfl)) (fun _ _ _ h => h) (Or.inl ⟨by rfl, ?_⟩) ?_ ?_
  rotate_left
  · intro w'
    go_simp
    with_reducible rfl
  rotate_left
  · simp only [Act.put, List.setIfInBounds_toArray, List.set_cons_zero, List.set_cons_succ, i64_w, i32_w]
    rfl
  refine pure_ (i := 14) (N := some 4) (v := ?_) (a' := ?_) #[true, true, true, true, true, true, true, true, true, true, true, true, true, true, true] rfl rfl (any_of HT_.out (by kernel_rfl)) (fun _ _ _ h => h) (Or.inl ⟨by rfl, ?_⟩) ?_ ?_
  rotate_left
  · intro w'
    go_simp
    with_reducible rfl
  rotate_left
  · simp only [Act.put, List.setIfInBounds_toArray, List.set_cons_zero, List.set_cons_succ, i64_w, i32_w]
    rfl
  refine done_ (done_of HT_.out (by kernel_rfl)) ?_
  clear HT_ HW_
  go_wp2_with fail
  go_ret
  exact ⟨by kernel_rfl, B.out⟩
set_option maxHeartbeats 4000000 in
set_option maxRecDepth 100000 in
theorem text (w : World) (ht : Tab w) : Calls Tryd.prog 8 #[.int .i64 0, .int .i64 739935] w fun e w' => e = .returned (.tuple #[.string ⟨#[50, 48, 50, 54, 45, 49, 49, 45, 49, 53]⟩, .int .i64 0]) ∧ Below w.heap.size w w' := by
  have T := Lib.hid ht
  clear ht
  go_enter Tryd.func8, Tryd.ntmps8
  go_wp2_with fail
  refine (date _).mono ?_
  rintro e w1 ⟨rfl, hB⟩
  have B := Lib.hid hB
  clear hB
  go_wp2_with fail
  refine (written _ (tab_below T.out (by repeat (with_reducible first | exact B.out | apply pw_below_drewN | apply below_drew | apply below_alloc | refine below_set ?_ (by have := B.out.size; simp; omega))))).mono ?_
  rintro e w2 ⟨rfl, hB⟩
  have B2 : Below w.heap.size w w2 := below_then (by repeat (with_reducible first | exact B.out | apply pw_below_drewN | apply below_drew | apply below_alloc | refine below_set ?_ (by have := B.out.size; simp; omega))) (by have := B.out.size; simp; omega) hB
  clear hB
  go_wp2_with fail
  go_ret2
  exact ⟨rfl, B2⟩
set_option maxHeartbeats 4000000 in
theorem awake (w : World) (ht : Tab w) : Calls Tryd.prog 6 #[] w fun e w' => e = .returned (.bool true) ∧ Below w.heap.size w w' := by
  have T := Lib.hid ht
  clear ht
  go_enter Tryd.func6, Tryd.ntmps6
  go_wp2_with fail
  refine (text _ T.out).mono ?_
  rintro e w1 ⟨rfl, hB⟩
  have B := Lib.hid hB
  clear hB
  go_wp2_with fail
  go_ret
  exact ⟨rfl, B.out⟩
end Go.Proofs.YtgbbgcepcnklkaaDoor.ShowAw
/- Any date of any calendar has the day that the document says, or none. -/
namespace Go.Proofs.YtgbbgcepcnklkaaDoor.Pure
open Go.RowKit Go.Proofs.YtgbbgcepcnklkaaDoorW.PrintWords Go.Proofs.YtgbbgcepcnklkaaDoorW.PrintLast Go.Proofs.YtgbbgcepcnklkaaDoor.Q
set_option linter.unusedVariables false
set_option linter.unusedSimpArgs false
namespace ShowDaysW
set_option maxHeartbeats 4000000 in
theorem out (c y m d : Int) (w : World) (ht : ShowAw.Tab w) (hc : ¬ (0 ≤ c ∧ c ≤ 6)) :
    Calls Tryd.prog 5 #[.int .i64 c, .agg #[.int .i64 y, .int .i64 m, .int .i64 d]] w fun e w' => e = .returned (.bool true) ∧ Below w.heap.size w w' := by
  have T := Lib.hid ht
  clear ht
  have hC := Lib.hid hc
  by_cases a : c < 0
  · have a1 : decide (c < 0) = true := decide_eq_true a
    clear a hc
    go_enter Tryd.func5, Tryd.ntmps5
    go_wp2_with fail
    refine (ShowAw.awake _ (ShowAw.tab_below T.out (below_alloc (Below.refl _ _) _))).mono ?_
    rintro e w1 ⟨rfl, hB⟩
    have i0 : w1.cell? ⟨w.heap.size, 0, none⟩ = some (.int .i64 y) := (hB.cell (p := ⟨w.heap.size, 0, none⟩) (by simp <;> omega)).trans (by go_simp)
    have i1 : w1.cell? ⟨w.heap.size, 1, none⟩ = some (.int .i64 m) := (hB.cell (p := ⟨w.heap.size, 1, none⟩) (by simp <;> omega)).trans (by go_simp)
    have i2 : w1.cell? ⟨w.heap.size, 2, none⟩ = some (.int .i64 d) := (hB.cell (p := ⟨w.heap.size, 2, none⟩) (by simp <;> omega)).trans (by go_simp)
    have B := Lib.hid (below_then (below_alloc (Below.refl w.heap.size w) _) (by simp) hB)
    clear hB
    go_wp2_with fail
    refine (ShowDay.none_ c y m d _ hC.out).mono ?_
    rintro e w2 ⟨rfl, hB⟩
    replace B := Lib.hid (below_then B.out B.out.size hB)
    clear hB
    go_wp2_with fail
    go_ret
    exact ⟨rfl, B.out⟩
  · have a1 : decide (c < 0) = false := decide_eq_false a
    have a2 : decide (c > 6) = true := decide_eq_true (by omega)
    have a3 : decide (6 < c) = true := a2
    clear a hc
    go_enter Tryd.func5, Tryd.ntmps5
    go_wp2_with fail
    refine (ShowAw.awake _ (ShowAw.tab_below T.out (below_alloc (Below.refl _ _) _))).mono ?_
    rintro e w1 ⟨rfl, hB⟩
    have i0 : w1.cell? ⟨w.heap.size, 0, none⟩ = some (.int .i64 y) := (hB.cell (p := ⟨w.heap.size, 0, none⟩) (by simp <;> omega)).trans (by go_simp)
    have i1 : w1.cell? ⟨w.heap.size, 1, none⟩ = some (.int .i64 m) := (hB.cell (p := ⟨w.heap.size, 1, none⟩) (by simp <;> omega)).trans (by go_simp)
    have i2 : w1.cell? ⟨w.heap.size, 2, none⟩ = some (.int .i64 d) := (hB.cell (p := ⟨w.heap.size, 2, none⟩) (by simp <;> omega)).trans (by go_simp)
    have B := Lib.hid (below_then (below_alloc (Below.refl w.heap.size w) _) (by simp) hB)
    clear hB
    go_wp2_with fail
    refine (ShowDay.none_ c y m d _ hC.out).mono ?_
    rintro e w2 ⟨rfl, hB⟩
    replace B := Lib.hid (below_then B.out B.out.size hB)
    clear hB
    go_wp2_with fail
    go_ret
    exact ⟨rfl, B.out⟩
set_option maxHeartbeats 4000000 in
theorem inn (c y m d r1 r2 : Int) (w : World) (ht : ShowAw.Tab w) (hc : 0 ≤ c) (hc' : c ≤ 6) (hr : trystref01_Day.f 40 c y m d = some (r1, r2)) :
    Calls Tryd.prog 5 #[.int .i64 c, .agg #[.int .i64 y, .int .i64 m, .int .i64 d]] w fun e w' => e = .returned (.bool true) ∧ Below w.heap.size w w' := by
  have T := Lib.hid ht
  have HR := Lib.hid hr
  have hC := Lib.hid (And.intro hc hc')
  have a1 : decide (c < 0) = false := decide_eq_false (by omega)
  have a2 : decide (c > 6) = false := decide_eq_false (by omega)
  have a3 : decide (6 < c) = false := a2
  have z1 : (r1 == r1) = true := by simp
  have z2 : (r2 == r2) = true := by simp
  clear ht hr hc hc'
  go_enter Tryd.func5, Tryd.ntmps5
  go_wp2_with fail
  refine (ShowAw.awake _ (ShowAw.tab_below T.out (below_alloc (Below.refl _ _) _))).mono ?_
  rintro e w1 ⟨rfl, hB⟩
  have i0 : w1.cell? ⟨w.heap.size, 0, none⟩ = some (.int .i64 y) := (hB.cell (p := ⟨w.heap.size, 0, none⟩) (by simp <;> omega)).trans (by go_simp)
  have i1 : w1.cell? ⟨w.heap.size, 1, none⟩ = some (.int .i64 m) := (hB.cell (p := ⟨w.heap.size, 1, none⟩) (by simp <;> omega)).trans (by go_simp)
  have i2 : w1.cell? ⟨w.heap.size, 2, none⟩ = some (.int .i64 d) := (hB.cell (p := ⟨w.heap.size, 2, none⟩) (by simp <;> omega)).trans (by go_simp)
  have B := Lib.hid (below_then (below_alloc (Below.refl w.heap.size w) _) (by simp) hB)
  clear hB
  go_wp2_with fail
  refine (ShowDay.day c y m d r1 r2 _ hC.out.1 hC.out.2 HR.out).mono ?_
  rintro e w2 ⟨rfl, hB⟩
  replace i0 := pw_cell_below hB i0
  replace i1 := pw_cell_below hB i1
  replace i2 := pw_cell_below hB i2
  replace B := Lib.hid (below_then B.out B.out.size hB)
  clear hB
  go_wp2_with fail
  refine (trystref01_Day.calls 40 c y m d r1 r2 _ HR.out).mono ?_
  rintro e w3 ⟨rfl, hB⟩
  replace B := Lib.hid (below_then B.out B.out.size hB)
  clear hB i0 i1 i2
  go_wp2_with fail
  go_ret
  exact ⟨rfl, B.out⟩
end ShowDaysW
theorem ShowDays_calls (c y m d : Int) (w : World) (ht : ShowAw.Tab w) : Calls Tryd.prog 5 #[.int .i64 c, .agg #[.int .i64 y, .int .i64 m, .int .i64 d]] w fun e w' => e = .returned (.bool true) ∧ Below w.heap.size w w' := by
  by_cases h : 0 ≤ c ∧ c ≤ 6
  · obtain ⟨r1, r2, hr⟩ := FunY.told c y m d h.1 h.2
    exact ShowDaysW.inn c y m d r1 r2 w ht h.1 h.2 hr
  · exact ShowDaysW.out c y m d w ht h
end Go.Proofs.YtgbbgcepcnklkaaDoor.Pure
