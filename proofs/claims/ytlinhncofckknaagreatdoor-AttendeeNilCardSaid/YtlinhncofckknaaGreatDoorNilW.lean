/- A nil book's methods, and a new book, walked. -/
import Derived.Test.YtlinhncofckknaaGreatDoorQpers
import Derived.Laws.Tables
import Derived.Laws.CopyOwn
import Derived.Maps.Own
import Derived.Lib.Hide
namespace Go.Proofs.YtlinhncofckknaaGreatDoor.NilW
open Go.RowKit Go.Proofs.YtlinhncofckknaaGreatDoorW.PrintWords Go.Proofs.YtlinhncofckknaaGreatDoorW.PrintLast Go.Proofs.YtlinhncofckknaaGreatDoor.Q
set_option linter.unusedVariables false
set_option linter.unusedSimpArgs false
theorem of_nil (s : ByteArray) (w : World) :
    Calls Tryz.prog 23 #[.pointer none, .string s] w fun e w' => e = .returned (.pointer none) ∧ w = w' := by
  go_enter Tryz.func23, Tryz.ntmps23
  go_wp2
  go_ret
  exact ⟨rfl, rfl⟩
theorem asked_nil (s : ByteArray) (n : Int) (w : World) :
    Calls Tryz.prog 37 #[.pointer none, .string s, .int .i64 n] w fun e w' => e = .returned (.tuple #[.pointer none, .int .i64 1]) ∧ w = w' := by
  go_enter Tryz.func37, Tryz.ntmps37
  go_wp2
  go_ret2
  exact ⟨rfl, rfl⟩
theorem take_nil (w : World) :
    Calls Tryz.prog 11 #[.pointer none, .agg #[.int .i64 0, .slice none 0 0, .slice none 0 0]] w fun e w' => e = .returned (.tuple #[.slice none 0 0, .int .i64 1]) ∧ Below w.heap.size w w' := by
  go_enter Tryz.func11, Tryz.ntmps11
  go_wp2
  go_ret2
  exact ⟨rfl, by repeat (with_reducible first | exact Below.refl _ _ | apply pw_below_drewN | apply below_alloc)⟩
set_option maxHeartbeats 1000000 in
theorem reply_nil (s t : ByteArray) (m n : Int) (w : World) :
    Calls Tryz.prog 15 #[.pointer none, .string s, .int .i64 m, .string t, .int .i64 n] w fun e w' => e = .returned (.tuple #[.slice none 0 0, .int .i64 1]) ∧ Below w.heap.size w w' := by
  go_enter Tryz.func15, Tryz.ntmps15
  go_wp2_with fail
  refine (asked_nil s n _).mono ?_
  rintro e w' ⟨rfl, rfl⟩
  go_wp2
  go_ret2
  exact ⟨rfl, by repeat (with_reducible first | exact Below.refl _ _ | apply pw_below_drewN | apply below_alloc)⟩
set_option maxHeartbeats 1000000 in
theorem counter_nil (s : ByteArray) (m n : Int) (w : World) :
    Calls Tryz.prog 16 #[.pointer none, .string s, .int .i64 m, .int .i64 n] w fun e w' => e = .returned (.tuple #[.slice none 0 0, .int .i64 1]) ∧ Below w.heap.size w w' := by
  go_enter Tryz.func16, Tryz.ntmps16
  go_wp2_with fail
  refine (asked_nil s n _).mono ?_
  rintro e w' ⟨rfl, rfl⟩
  go_wp2
  go_ret2
  exact ⟨rfl, by repeat (with_reducible first | exact Below.refl _ _ | apply pw_below_drewN | apply below_alloc)⟩
set_option maxHeartbeats 1000000 in
theorem refresh_nil (s : ByteArray) (n : Int) (w : World) :
    Calls Tryz.prog 17 #[.pointer none, .string s, .int .i64 n] w fun e w' => e = .returned (.tuple #[.slice none 0 0, .int .i64 1]) ∧ Below w.heap.size w w' := by
  go_enter Tryz.func17, Tryz.ntmps17
  go_wp2_with fail
  refine (asked_nil s n _).mono ?_
  rintro e w' ⟨rfl, rfl⟩
  go_wp2
  go_ret2
  exact ⟨rfl, by repeat (with_reducible first | exact Below.refl _ _ | apply pw_below_drewN | apply below_alloc)⟩
theorem uids_nil (w : World) :
    Calls Tryz.prog 9 #[.pointer none] w fun e w' => e = .returned (.slice none 0 0) ∧ w = w' := by
  go_enter Tryz.func9, Tryz.ntmps9
  go_wp2
  go_ret
  exact ⟨rfl, rfl⟩
theorem given_nil (s : ByteArray) (w : World) :
    Calls Tryz.prog 18 #[.pointer none, .string s] w fun e w' => e = .returned (.agg #[.int .i64 0, .int .i64 0, .int .i64 0, .bool false]) ∧ Below w.heap.size w w' := by
  go_enter Tryz.func18, Tryz.ntmps18
  go_wp2_with fail
  refine (of_nil s _).mono ?_
  rintro e w' ⟨rfl, rfl⟩
  go_wp2
  refine bodyPost_ret (v := .agg #[.int .i64 0, .int .i64 0, .int .i64 0, .bool false]) (by simp [results, Tryz.results18, go_sem]) rfl ⟨rfl, ?_⟩
  repeat (with_reducible first | exact Below.refl _ _ | apply pw_below_drewN | apply below_alloc | refine below_set ?_ (by simp; done))
theorem declined_nil (s : ByteArray) (w : World) :
    Calls Tryz.prog 19 #[.pointer none, .string s] w fun e w' => e = .returned (.bool false) ∧ Below w.heap.size w w' := by
  go_enter Tryz.func19, Tryz.ntmps19
  go_wp2_with fail
  refine (of_nil s _).mono ?_
  rintro e w' ⟨rfl, rfl⟩
  go_wp2
  go_ret
  exact ⟨rfl, by repeat (with_reducible first | exact Below.refl _ _ | apply pw_below_drewN | apply below_alloc)⟩
/-- The cells of a meeting of nothing. -/
abbrev mz : Array Value := #[.string ⟨#[]⟩, .int .i64 0, .int .i64 0, .int .i64 0, .int .i64 0, .string ⟨#[]⟩, .bool false, .int .i64 0, .int .i64 0, .int .i64 0, .int .i64 0, .int .i64 0, .string ⟨#[]⟩, .bool false, .int .i64 0, .slice none 0 0, .slice none 0 0, .slice none 0 0, .slice none 0 0, .slice none 0 0, .slice none 0 0, .slice none 0 0, .slice none 0 0, .slice none 0 0, .slice none 0 0, .slice none 0 0, .int .i64 0, .string ⟨#[]⟩, .string ⟨#[]⟩, .int .i64 0, .string ⟨#[]⟩, .slice none 0 0, .bool false, .int .i64 0, .int .i64 0, .string ⟨#[]⟩, .bool false, .slice none 0 0, .slice none 0 0, .slice none 0 0]
@[irreducible] def mzI : Array Value := mz
theorem mzI_size : mzI.size = 40 := by unfold mzI; rfl
theorem mzI_one : mzI.all (·.oneCell') = true := by unfold mzI; kernel_rfl
theorem mzI_info : (Tryz.prog.info? 48).map (·.size) = some mzI.size := by rw [mzI_size]; kernel_rfl
theorem zI (w : World) : (zeroValue 48).run Tryz.prog w = .ok (.agg mzI) w := by unfold mzI; exact Tryz.zeroValue48 w
theorem bI (w : World) : (Instr.build 48 #[]).run Tryz.prog w = .ok (.agg mzI) w := run_build w _ _ _ (by unfold mzI; kernel_rfl)
theorem stI (W : World) (g : Nat) (t : TypeId) (hg : W.heap[g]? = some (.cells mzI t (0, 0))) : (storeVar 48 ⟨g, 0, none⟩ (.agg mzI)).run Tryz.prog W = .ok () (W.setRow g mzI) :=
  run_storeVar_row W g t 48 mzI mzI hg mzI_info rfl mzI_one
theorem stA (W : World) (g : Nat) (t : TypeId) (hg : W.heap[g]? = some (.cells mzI t (0, 0))) : (Instr.storeAt 48 (.pointer (some ⟨g, 0, none⟩)) (.agg mzI)).run Tryz.prog W = .ok () (W.setRow g mzI) := by
  simp only [Instr.storeAt, Instr.sureAddr, Sem.run_bind, Sem.run_pure, Result.andThen_ok, stI W g t hg]
theorem ldI (W : World) (g : Nat) (t : TypeId) (hg : W.heap[g]? = some (.cells mzI t (0, 0))) : (loadVar 48 ⟨g, 0, none⟩).run Tryz.prog W = .ok (.agg mzI) W :=
  run_loadVar_row W g t 48 mzI (0, 0) _ hg Tryz.underlying48 rfl mzI_info
theorem hI (w : World) (t : TypeId) : (w.alloc (.cells mzI t)).heap[w.heap.size]? = some (.cells mzI t (0, 0)) := heap_alloc_new w _
theorem wpList_allocI {ops : Array Oper} {rest : List Oper} {o : Oper} {a : Act} {w : World} {Q : Exit → Act → World → Prop} (hg : o.guard = none) (ho : o.op = .alloc 48)
    (h : wpList Tryz.prog ops Q rest (a.put o.dst (.pointer (some ⟨w.heap.size, 0, none⟩))) (w.alloc (.cells mzI 48))) : wpList Tryz.prog ops Q (o :: rest) a w := by
  refine wpList_plain hg fun _ hK => ?_
  unfold Oper.wp execOp
  simp only [ho, Instr.alloc, Sem.run_bind, zI, Result.andThen_ok, go_sem]
  exact hK _ _ h
theorem wpList_buildI {ops : Array Oper} {rest : List Oper} {o : Oper} {a : Act} {w : World} {Q : Exit → Act → World → Prop} (hg : o.guard = none) (ho : o.op = .build 48 #[])
    (h : wpList Tryz.prog ops Q rest (a.put o.dst (.agg mzI)) w) : wpList Tryz.prog ops Q (o :: rest) a w := by
  refine wpList_plain hg fun _ hK => ?_
  unfold Oper.wp execOp
  simp only [ho, Sem.run_bind, Array.map_empty, bI, Result.andThen_ok]
  exact hK _ _ h
theorem wpList_storeI {ops : Array Oper} {rest : List Oper} {o : Oper} {a : Act} {w : World} {Q : Exit → Act → World → Prop} (hg : o.guard = none) (x y : Operand) (ho : o.op = .store 48 x y)
    (g : Nat) (hx : a.eval x = .pointer (some ⟨g, 0, none⟩)) (hy : a.eval y = .agg mzI) (hh : w.heap[g]? = some (.cells mzI 48 (0, 0)))
    (h : wpList Tryz.prog ops Q rest (a.put o.dst undef) (w.setRow g mzI)) : wpList Tryz.prog ops Q (o :: rest) a w :=
  wpList_store_row hg 48 x y ho g mzI hx hy 48 mzI hh mzI_info rfl mzI_one h
set_option maxHeartbeats 1000000 in
theorem meeting_nil (s : ByteArray) (w : World) :
    Calls Tryz.prog 10 #[.pointer none, .string s] w fun e w' => e = .returned (.tuple #[.agg mzI, .bool false]) ∧ Below w.heap.size w w' := by
  go_enter Tryz.func10, Tryz.ntmps10
  go_wp2_with (with_reducible refine wpList_allocI rfl rfl ?_)
  refine (of_nil s _).mono ?_
  rintro e w' ⟨rfl, rfl⟩
  have h0 := hI w 48
  go_wp2_with (first | (with_reducible refine wpList_buildI rfl rfl ?_) | (with_reducible refine wpList_storeI rfl _ _ rfl w.heap.size rfl rfl h0 ?_))
  have h1 : ((w.alloc (.cells mzI 48)).setRow w.heap.size mzI).heap[w.heap.size]? = some (.cells mzI 48 (0, 0)) := setRow_heap _ _ _ _ _ _ h0
  have l1 := ldI _ _ _ h1
  refine bodyPost_ret (v := .tuple #[.agg mzI, .bool false]) (by simp [results, Tryz.results10, asAddr, l1]) rfl ⟨rfl, ?_⟩
  exact below_setRow (below_alloc (Below.refl _ _) _) (Nat.le_refl _) _
theorem new_yes (k : Nat) (s : ByteArray) (w : World) (h : event_Address.f k s = some true) :
    Calls Tryz.prog 8 #[.string s] w fun e w' => (∃ b, e = .returned (.tuple #[.pointer (some b), .int .i64 0])) ∧ Below w.heap.size w w' := by
  have H := Lib.hid h; clear h
  have hmm := @run_makeMap Tryz.prog
  go_enter Tryz.func8, Tryz.ntmps8
  go_wp2_with fail
  refine (event_Address.calls k s _ _ H.out).mono ?_
  rintro e w1 ⟨rfl, hB⟩
  go_wp2
  go_ret2
  exact ⟨⟨_, rfl⟩, by repeat (with_reducible first | exact hB | apply pw_below_drewN | apply below_alloc)⟩
theorem new_no (k : Nat) (s : ByteArray) (w : World) (h : event_Address.f k s = some false) :
    Calls Tryz.prog 8 #[.string s] w fun e w' => e = .returned (.tuple #[.pointer none, .int .i64 1]) ∧ Below w.heap.size w w' := by
  have H := Lib.hid h; clear h
  have hmm := @run_makeMap Tryz.prog
  go_enter Tryz.func8, Tryz.ntmps8
  go_wp2_with fail
  refine (event_Address.calls k s _ _ H.out).mono ?_
  rintro e w1 ⟨rfl, hB⟩
  go_wp2
  go_ret2
  exact ⟨rfl, by repeat (with_reducible first | exact hB | apply pw_below_drewN | apply below_alloc)⟩
theorem a_yes : event_Address.f 20 ⟨#[97]⟩ = some true := by kernel_rfl
theorem a_no : event_Address.f 20 ⟨#[]⟩ = some false := by kernel_rfl
set_option maxHeartbeats 1000000 in
theorem awake (w : World) : Calls Tryz.prog 6 #[] w fun e w' => e = .returned (.bool true) ∧ Below w.heap.size w w' := by
  go_enter Tryz.func6, Tryz.ntmps6
  go_wp2_with fail
  refine (new_yes 20 _ _ a_yes).mono ?_
  rintro e w1 ⟨⟨b, rfl⟩, hB1⟩
  go_wp2_with fail
  refine (new_no 20 _ _ a_no).mono ?_
  rintro e w2 ⟨rfl, hB2⟩
  have B2 := Lib.hid (below_then hB1 hB1.size hB2)
  clear hB1 hB2
  go_wp2
  go_ret
  exact ⟨rfl, by repeat (with_reducible first | exact B2.out | apply pw_below_drewN | apply below_alloc)⟩
end Go.Proofs.YtlinhncofckknaaGreatDoor.NilW
