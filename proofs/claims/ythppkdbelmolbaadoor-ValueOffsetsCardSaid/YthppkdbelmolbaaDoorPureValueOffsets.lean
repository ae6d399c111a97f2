/- For every number and string, Offset and ParseOffset return the specified results, and offsets are read unchanged: with no condition. -/
import Derived.Test.YthppkdbelmolbaaDoorOffsP
import Derived.Test.YthppkdbelmolbaaDoorAwake12
import Derived.Lib.Hide
namespace Go.Proofs.YthppkdbelmolbaaDoor.Pure
open Go.RowKit Go.Proofs.YthppkdbelmolbaaDoorW.PrintWords Go.Proofs.YthppkdbelmolbaaDoorW.PrintLast Go.Proofs.YthppkdbelmolbaaDoor.Q Go.Proofs.YthppkdbelmolbaaDoor.Cal Go.Proofs.YthppkdbelmolbaaDoor.Bytes Go.Proofs.YthppkdbelmolbaaDoor.Offs Go.Proofs.YthppkdbelmolbaaDoor.OffsP Go.Proofs.YthppkdbelmolbaaDoor.Awake12
set_option linter.unusedVariables false
set_option linter.unusedSimpArgs false
namespace ValueOffsetsW
set_option maxHeartbeats 4000000 in
theorem long (n : Int) (s : ByteArray) (w : World) (h : (200 : Int) < s.size) :
    Calls Tryd.prog 4 #[.int .i64 n, .string s] w fun e w' => e = .returned (.bool true) ∧ Below w.heap.size w w' := by
  have b0 : decide (200 < (s.size : Int)) = true := decide_eq_true h
  clear h
  go_enter Tryd.func4, Tryd.ntmps4
  go_wp2_with fail
  refine (awake _).mono ?_
  rintro e wA ⟨rfl, hA⟩
  have B := Lib.hid hA
  clear hA
  go_wp2_with fail
  refine (awake _).mono ?_
  rintro e w2 ⟨rfl, hB2⟩
  have B2 := Lib.hid (below_then B.out B.out.size hB2)
  clear hB2 B
  go_wp2
  go_ret
  exact ⟨rfl, by repeat (with_reducible first | exact B2.out | apply pw_below_drewN | apply below_alloc)⟩
set_option maxHeartbeats 8000000 in
set_option maxRecDepth 100000 in
theorem yes (k : Nat) (n : Int) (s t : ByteArray) (a g : Int) (w : World) (h : ¬ (200 : Int) < s.size) (hO : value_Offset.f k n = some (t, 0)) (hO' : trystref12_Offset.f k n = some (t, 0)) (hP : value_ParseOffset.f k s = some (a, g)) (hP' : trystref12_ParseOffset.f k s = some (a, g)) (hB : value_ParseOffset.f k t = some (n, 0)) :
    Calls Tryd.prog 4 #[.int .i64 n, .string s] w fun e w' => e = .returned (.bool true) ∧ Below w.heap.size w w' := by
  have b0 : decide (200 < (s.size : Int)) = false := decide_eq_false h
  have HO := Lib.hid hO; have HO' := Lib.hid hO'; have HP := Lib.hid hP; have HP' := Lib.hid hP'; have HB := Lib.hid hB
  clear h hO hO' hP hP' hB
  go_enter Tryd.func4, Tryd.ntmps4
  go_wp2_with fail
  refine (awake _).mono ?_
  rintro e wA ⟨rfl, hA⟩
  have B := Lib.hid hA
  clear hA
  go_wp2_with fail
  refine (value_Offset.calls k n _ _ _ HO.out).mono ?_
  rintro e w1 ⟨rfl, hB1⟩
  have B1 := Lib.hid (below_then B.out B.out.size hB1)
  clear hB1 B
  go_wp2_with fail
  refine (trystref12_Offset.calls k n _ _ _ HO'.out).mono ?_
  rintro e w2 ⟨rfl, hB2⟩
  have B2 := Lib.hid (below_then B1.out B1.out.size hB2)
  clear hB2 B1
  go_wp2_with fail
  refine (value_ParseOffset.calls k s _ _ _ HP.out).mono ?_
  rintro e w' ⟨rfl, ⟨n1, rfl⟩⟩
  go_wp2_with fail
  refine (trystref12_ParseOffset.calls k s _ _ _ HP'.out).mono ?_
  rintro e w' ⟨rfl, ⟨n2, rfl⟩⟩
  go_wp2_with fail
  refine (value_ParseOffset.calls k t _ _ _ HB.out).mono ?_
  rintro e w' ⟨rfl, ⟨n3, rfl⟩⟩
  go_wp2
  go_ret
  exact ⟨rfl, by repeat (with_reducible first | exact B2.out | apply pw_below_drewN | apply below_alloc)⟩
set_option maxHeartbeats 8000000 in
set_option maxRecDepth 100000 in
theorem no (k : Nat) (n : Int) (s : ByteArray) (a g a' g' : Int) (w : World) (h : ¬ (200 : Int) < s.size) (hO : value_Offset.f k n = some (⟨#[]⟩, 7)) (hO' : trystref12_Offset.f k n = some (⟨#[]⟩, 7)) (hP : value_ParseOffset.f k s = some (a, g)) (hP' : trystref12_ParseOffset.f k s = some (a, g)) (hB : value_ParseOffset.f k ⟨#[]⟩ = some (a', g')) :
    Calls Tryd.prog 4 #[.int .i64 n, .string s] w fun e w' => e = .returned (.bool true) ∧ Below w.heap.size w w' := by
  have b0 : decide (200 < (s.size : Int)) = false := decide_eq_false h
  have HO := Lib.hid hO; have HO' := Lib.hid hO'; have HP := Lib.hid hP; have HP' := Lib.hid hP'; have HB := Lib.hid hB
  clear h hO hO' hP hP' hB
  go_enter Tryd.func4, Tryd.ntmps4
  go_wp2_with fail
  refine (awake _).mono ?_
  rintro e wA ⟨rfl, hA⟩
  have B := Lib.hid hA
  clear hA
  go_wp2_with fail
  refine (value_Offset.calls k n _ _ _ HO.out).mono ?_
  rintro e w1 ⟨rfl, hB1⟩
  have B1 := Lib.hid (below_then B.out B.out.size hB1)
  clear hB1 B
  go_wp2_with fail
  refine (trystref12_Offset.calls k n _ _ _ HO'.out).mono ?_
  rintro e w2 ⟨rfl, hB2⟩
  have B2 := Lib.hid (below_then B1.out B1.out.size hB2)
  clear hB2 B1
  go_wp2_with fail
  refine (value_ParseOffset.calls k s _ _ _ HP.out).mono ?_
  rintro e w' ⟨rfl, ⟨n1, rfl⟩⟩
  go_wp2_with fail
  refine (trystref12_ParseOffset.calls k s _ _ _ HP'.out).mono ?_
  rintro e w' ⟨rfl, ⟨n2, rfl⟩⟩
  go_wp2_with fail
  refine (value_ParseOffset.calls k ⟨#[]⟩ _ _ _ HB.out).mono ?_
  rintro e w' ⟨rfl, ⟨n3, rfl⟩⟩
  go_wp2
  go_ret
  exact ⟨rfl, by repeat (with_reducible first | exact B2.out | apply pw_below_drewN | apply below_alloc)⟩
end ValueOffsetsW
theorem ValueOffsets_calls (n : Int) (s : ByteArray) (w : World) (wn : (Lit.int .i64 n).wf = true) (wf : s.size ≤ maxLen) :
    Calls Tryd.prog 4 #[.int .i64 n, .string s] w fun e w' => e = .returned (.bool true) ∧ Below w.heap.size w w' := by
  by_cases h : (200 : Int) < s.size
  · exact ValueOffsetsW.long n s w h
  · obtain ⟨⟨a, g⟩, h1, h2⟩ := parse 200 (by omega) s.data.toList
    rw [← ofL] at h1 h2
    by_cases hn : -86399 ≤ n ∧ n ≤ 86399
    · obtain ⟨h3, h4⟩ := off_yes 200 (by omega) n hn.1 hn.2
      refine ValueOffsetsW.yes 200 n s _ a g w h h3 h4 h1 h2 ?_
      by_cases c : n < 0
      · rw [if_pos c, back 200 (by omega) 45 (Or.inr rfl) (-n) (by omega) (by omega), if_pos rfl, if_neg (by omega), Int.neg_neg]
      · rw [if_neg c, back 200 (by omega) 43 (Or.inl rfl) n (by omega) (by omega), if_neg (by decide)]
    · obtain ⟨h3, h4⟩ := off_no 199 n hn
      obtain ⟨⟨a', g'⟩, h5, _⟩ := parse 200 (by omega) []
      exact ValueOffsetsW.no 200 n s a g a' g' w h h3 h4 h1 h2 h5
end Go.Proofs.YthppkdbelmolbaaDoor.Pure
