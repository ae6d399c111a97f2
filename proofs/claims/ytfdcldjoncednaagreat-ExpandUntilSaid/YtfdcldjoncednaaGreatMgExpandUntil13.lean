/- Texts of this claim, merged: RefL, ShelfIdx, Zn. -/
import Derived.Test.YtfdcldjoncednaaGreatMgExpandUntil12
import Derived.Test.YtfdcldjoncednaaGreatMgExpandUntil1
import Derived.Test.YtfdcldjoncednaaGreatMgExpandUntil2
import Derived.Test.YtfdcldjoncednaaGreatMgExpandUntil7
import Derived.Shelf.Small.Strs
import Derived.Shelf.Small.Wraps
import Derived.Shelf.Strings.Search1
import Derived.Shelf.Slices.Turned
import Derived.Ground.Names2Prog
import Derived.Shelf.Slices.SearchI
import Derived.Test.YtfdcldjoncednaaGreatProg
import Derived.Lib.Hide
import Derived.Deep.LoopGhost
/- trystref12.Lists: a rule's eight lists of numbers. (Written by gen_refl.py.) -/
namespace Go.Proofs.YtfdcldjoncednaaGreat.RefL
open Go.RowKit Go.Proofs.YtfdcldjoncednaaGreatW.PrintWords Go.Proofs.YtfdcldjoncednaaGreatW.PrintLast Go.Proofs.YtfdcldjoncednaaGreatW.PrintMore Go.Proofs.YtfdcldjoncednaaGreat.M
set_option linter.unusedVariables false
set_option linter.unusedSimpArgs false
set_option maxHeartbeats 2000000 in
set_option maxRecDepth 100000 in
theorem lists_ (a0 : Int) (a1 : Int) (a2 : Int) (a3 : Int) (a4 : Int) (a5 : ByteArray) (a6 : Bool) (a7 : Int) (A8 : Option Addr) (c8 : Nat) (l8 : List Int) (A9 : Option Addr) (c9 : Nat) (l9 : List Int) (A10 : Option Addr) (c10 : Nat) (l10 : List Int) (A11 : Option Addr) (c11 : Nat) (l11 : List S80) (A12 : Option Addr) (c12 : Nat) (l12 : List Int) (A13 : Option Addr) (c13 : Nat) (l13 : List Int) (A14 : Option Addr) (c14 : Nat) (l14 : List Int) (A15 : Option Addr) (c15 : Nat) (l15 : List Int) (A16 : Option Addr) (c16 : Nat) (l16 : List Int) (w : World) :
  Calls Tryz.prog 24 #[.agg #[.int .i64 a0, .int .i64 a1, .int .i64 a2, .int .i64 a3, .int .i64 a4, .string a5, .bool a6, .int .i64 a7, .slice A8 l8.length c8, .slice A9 l9.length c9, .slice A10 l10.length c10, .slice A11 l11.length c11, .slice A12 l12.length c12, .slice A13 l13.length c13, .slice A14 l14.length c14, .slice A15 l15.length c15, .slice A16 l16.length c16]] w fun e w' => e = .returned (.agg #[.slice A8 l8.length c8, .slice A9 l9.length c9, .slice A10 l10.length c10, .slice A12 l12.length c12, .slice A13 l13.length c13, .slice A14 l14.length c14, .slice A15 l15.length c15, .slice A16 l16.length c16]) ∧ Below w.heap.size w w' := by
 have HB := Aside0.mk (below_alloc (Below.refl w.heap.size w) (.cells #[.int .i64 a0, .int .i64 a1, .int .i64 a2, .int .i64 a3, .int .i64 a4, .string a5, .bool a6, .int .i64 a7, .slice A8 l8.length c8, .slice A9 l9.length c9, .slice A10 l10.length c10, .slice A11 l11.length c11, .slice A12 l12.length c12, .slice A13 l13.length c13, .slice A14 l14.length c14, .slice A15 l15.length c15, .slice A16 l16.length c16] 27 (0, 0)))
 go_enter Tryz.func24, Tryz.ntmps24
 go_wp2_with fail
 have k8 : ∀ ob, ((w.alloc (.cells #[.int .i64 a0, .int .i64 a1, .int .i64 a2, .int .i64 a3, .int .i64 a4, .string a5, .bool a6, .int .i64 a7, .slice A8 l8.length c8, .slice A9 l9.length c9, .slice A10 l10.length c10, .slice A11 l11.length c11, .slice A12 l12.length c12, .slice A13 l13.length c13, .slice A14 l14.length c14, .slice A15 l15.length c15, .slice A16 l16.length c16] 27 (0, 0))).alloc ob).cell? ⟨w.heap.size, 8, none⟩ = some (.slice A8 l8.length c8) := fun ob => pw_cell_below (below_alloc (Below.refl _ _) ob) ((blk_cell (blk_new w (.cells #[.int .i64 a0, .int .i64 a1, .int .i64 a2, .int .i64 a3, .int .i64 a4, .string a5, .bool a6, .int .i64 a7, .slice A8 l8.length c8, .slice A9 l9.length c9, .slice A10 l10.length c10, .slice A11 l11.length c11, .slice A12 l12.length c12, .slice A13 l13.length c13, .slice A14 l14.length c14, .slice A15 l15.length c15, .slice A16 l16.length c16] 27 (0, 0))) 8).trans rfl)
 have k9 : ∀ ob, ((w.alloc (.cells #[.int .i64 a0, .int .i64 a1, .int .i64 a2, .int .i64 a3, .int .i64 a4, .string a5, .bool a6, .int .i64 a7, .slice A8 l8.length c8, .slice A9 l9.length c9, .slice A10 l10.length c10, .slice A11 l11.length c11, .slice A12 l12.length c12, .slice A13 l13.length c13, .slice A14 l14.length c14, .slice A15 l15.length c15, .slice A16 l16.length c16] 27 (0, 0))).alloc ob).cell? ⟨w.heap.size, 9, none⟩ = some (.slice A9 l9.length c9) := fun ob => pw_cell_below (below_alloc (Below.refl _ _) ob) ((blk_cell (blk_new w (.cells #[.int .i64 a0, .int .i64 a1, .int .i64 a2, .int .i64 a3, .int .i64 a4, .string a5, .bool a6, .int .i64 a7, .slice A8 l8.length c8, .slice A9 l9.length c9, .slice A10 l10.length c10, .slice A11 l11.length c11, .slice A12 l12.length c12, .slice A13 l13.length c13, .slice A14 l14.length c14, .slice A15 l15.length c15, .slice A16 l16.length c16] 27 (0, 0))) 9).trans rfl)
 have k10 : ∀ ob, ((w.alloc (.cells #[.int .i64 a0, .int .i64 a1, .int .i64 a2, .int .i64 a3, .int .i64 a4, .string a5, .bool a6, .int .i64 a7, .slice A8 l8.length c8, .slice A9 l9.length c9, .slice A10 l10.length c10, .slice A11 l11.length c11, .slice A12 l12.length c12, .slice A13 l13.length c13, .slice A14 l14.length c14, .slice A15 l15.length c15, .slice A16 l16.length c16] 27 (0, 0))).alloc ob).cell? ⟨w.heap.size, 10, none⟩ = some (.slice A10 l10.length c10) := fun ob => pw_cell_below (below_alloc (Below.refl _ _) ob) ((blk_cell (blk_new w (.cells #[.int .i64 a0, .int .i64 a1, .int .i64 a2, .int .i64 a3, .int .i64 a4, .string a5, .bool a6, .int .i64 a7, .slice A8 l8.length c8, .slice A9 l9.length c9, .slice A10 l10.length c10, .slice A11 l11.length c11, .slice A12 l12.length c12, .slice A13 l13.length c13, .slice A14 l14.length c14, .slice A15 l15.length c15, .slice A16 l16.length c16] 27 (0, 0))) 10).trans rfl)
 have k12 : ∀ ob, ((w.alloc (.cells #[.int .i64 a0, .int .i64 a1, .int .i64 a2, .int .i64 a3, .int .i64 a4, .string a5, .bool a6, .int .i64 a7, .slice A8 l8.length c8, .slice A9 l9.length c9, .slice A10 l10.length c10, .slice A11 l11.length c11, .slice A12 l12.length c12, .slice A13 l13.length c13, .slice A14 l14.length c14, .slice A15 l15.length c15, .slice A16 l16.length c16] 27 (0, 0))).alloc ob).cell? ⟨w.heap.size, 12, none⟩ = some (.slice A12 l12.length c12) := fun ob => pw_cell_below (below_alloc (Below.refl _ _) ob) ((blk_cell (blk_new w (.cells #[.int .i64 a0, .int .i64 a1, .int .i64 a2, .int .i64 a3, .int .i64 a4, .string a5, .bool a6, .int .i64 a7, .slice A8 l8.length c8, .slice A9 l9.length c9, .slice A10 l10.length c10, .slice A11 l11.length c11, .slice A12 l12.length c12, .slice A13 l13.length c13, .slice A14 l14.length c14, .slice A15 l15.length c15, .slice A16 l16.length c16] 27 (0, 0))) 12).trans rfl)
 have k13 : ∀ ob, ((w.alloc (.cells #[.int .i64 a0, .int .i64 a1, .int .i64 a2, .int .i64 a3, .int .i64 a4, .string a5, .bool a6, .int .i64 a7, .slice A8 l8.length c8, .slice A9 l9.length c9, .slice A10 l10.length c10, .slice A11 l11.length c11, .slice A12 l12.length c12, .slice A13 l13.length c13, .slice A14 l14.length c14, .slice A15 l15.length c15, .slice A16 l16.length c16] 27 (0, 0))).alloc ob).cell? ⟨w.heap.size, 13, none⟩ = some (.slice A13 l13.length c13) := fun ob => pw_cell_below (below_alloc (Below.refl _ _) ob) ((blk_cell (blk_new w (.cells #[.int .i64 a0, .int .i64 a1, .int .i64 a2, .int .i64 a3, .int .i64 a4, .string a5, .bool a6, .int .i64 a7, .slice A8 l8.length c8, .slice A9 l9.length c9, .slice A10 l10.length c10, .slice A11 l11.length c11, .slice A12 l12.length c12, .slice A13 l13.length c13, .slice A14 l14.length c14, .slice A15 l15.length c15, .slice A16 l16.length c16] 27 (0, 0))) 13).trans rfl)
 have k14 : ∀ ob, ((w.alloc (.cells #[.int .i64 a0, .int .i64 a1, .int .i64 a2, .int .i64 a3, .int .i64 a4, .string a5, .bool a6, .int .i64 a7, .slice A8 l8.length c8, .slice A9 l9.length c9, .slice A10 l10.length c10, .slice A11 l11.length c11, .slice A12 l12.length c12, .slice A13 l13.length c13, .slice A14 l14.length c14, .slice A15 l15.length c15, .slice A16 l16.length c16] 27 (0, 0))).alloc ob).cell? ⟨w.heap.size, 14, none⟩ = some (.slice A14 l14.length c14) := fun ob => pw_cell_below (below_alloc (Below.refl _ _) ob) ((blk_cell (blk_new w (.cells #[.int .i64 a0, .int .i64 a1, .int .i64 a2, .int .i64 a3, .int .i64 a4, .string a5, .bool a6, .int .i64 a7, .slice A8 l8.length c8, .slice A9 l9.length c9, .slice A10 l10.length c10, .slice A11 l11.length c11, .slice A12 l12.length c12, .slice A13 l13.length c13, .slice A14 l14.length c14, .slice A15 l15.length c15, .slice A16 l16.length c16] 27 (0, 0))) 14).trans rfl)
 have k15 : ∀ ob, ((w.alloc (.cells #[.int .i64 a0, .int .i64 a1, .int .i64 a2, .int .i64 a3, .int .i64 a4, .string a5, .bool a6, .int .i64 a7, .slice A8 l8.length c8, .slice A9 l9.length c9, .slice A10 l10.length c10, .slice A11 l11.length c11, .slice A12 l12.length c12, .slice A13 l13.length c13, .slice A14 l14.length c14, .slice A15 l15.length c15, .slice A16 l16.length c16] 27 (0, 0))).alloc ob).cell? ⟨w.heap.size, 15, none⟩ = some (.slice A15 l15.length c15) := fun ob => pw_cell_below (below_alloc (Below.refl _ _) ob) ((blk_cell (blk_new w (.cells #[.int .i64 a0, .int .i64 a1, .int .i64 a2, .int .i64 a3, .int .i64 a4, .string a5, .bool a6, .int .i64 a7, .slice A8 l8.length c8, .slice A9 l9.length c9, .slice A10 l10.length c10, .slice A11 l11.length c11, .slice A12 l12.length c12, .slice A13 l13.length c13, .slice A14 l14.length c14, .slice A15 l15.length c15, .slice A16 l16.length c16] 27 (0, 0))) 15).trans rfl)
 have k16 : ∀ ob, ((w.alloc (.cells #[.int .i64 a0, .int .i64 a1, .int .i64 a2, .int .i64 a3, .int .i64 a4, .string a5, .bool a6, .int .i64 a7, .slice A8 l8.length c8, .slice A9 l9.length c9, .slice A10 l10.length c10, .slice A11 l11.length c11, .slice A12 l12.length c12, .slice A13 l13.length c13, .slice A14 l14.length c14, .slice A15 l15.length c15, .slice A16 l16.length c16] 27 (0, 0))).alloc ob).cell? ⟨w.heap.size, 16, none⟩ = some (.slice A16 l16.length c16) := fun ob => pw_cell_below (below_alloc (Below.refl _ _) ob) ((blk_cell (blk_new w (.cells #[.int .i64 a0, .int .i64 a1, .int .i64 a2, .int .i64 a3, .int .i64 a4, .string a5, .bool a6, .int .i64 a7, .slice A8 l8.length c8, .slice A9 l9.length c9, .slice A10 l10.length c10, .slice A11 l11.length c11, .slice A12 l12.length c12, .slice A13 l13.length c13, .slice A14 l14.length c14, .slice A15 l15.length c15, .slice A16 l16.length c16] 27 (0, 0))) 16).trans rfl)
 go_wp2_with fail
 refine bodyPost_ret (v := .agg #[.slice A8 l8.length c8, .slice A9 l9.length c9, .slice A10 l10.length c10, .slice A12 l12.length c12, .slice A13 l13.length c13, .slice A14 l14.length c14, .slice A15 l15.length c15, .slice A16 l16.length c16]) ?_ rfl ⟨rfl, below_alloc HB.out _⟩
 clear HB k8 k9 k10 k12 k13 k14 k15 k16
 simp [results, Tryz.f24, go_sem]

/-- How many numbers and days. -/
def sm (d : Nat) (l : List Nat) : Int := l.foldl (fun (a : Int) (n : Nat) => wrap64 (a + (n : Int))) (d : Int)
def few (d : Nat) (l : List Nat) : Bool := decide (sm d l ≤ 500)
set_option maxHeartbeats 4000000 in
set_option maxRecDepth 100000 in
theorem few0 (a0 : Int) (a1 : Int) (a2 : Int) (a3 : Int) (a4 : Int) (a5 : ByteArray) (a6 : Bool) (a7 : Int) (A8 : Option Addr) (c8 : Nat) (l8 : List Int) (A9 : Option Addr) (c9 : Nat) (l9 : List Int) (A10 : Option Addr) (c10 : Nat) (l10 : List Int) (A11 : Option Addr) (c11 : Nat) (l11 : List S80) (A12 : Option Addr) (c12 : Nat) (l12 : List Int) (A13 : Option Addr) (c13 : Nat) (l13 : List Int) (A14 : Option Addr) (c14 : Nat) (l14 : List Int) (A15 : Option Addr) (c15 : Nat) (l15 : List Int) (A16 : Option Addr) (c16 : Nat) (l16 : List Int) (f : Nat → Int) (hf : f 0 = (l11.length : Int)) (hf0 : f 1 = wrap64 (f 0 + (l8.length : Int))) (hf1 : f 2 = wrap64 (f 1 + (l9.length : Int))) (hf2 : f 3 = wrap64 (f 2 + (l10.length : Int))) (hf3 : f 4 = wrap64 (f 3 + (l12.length : Int))) (hf4 : f 5 = wrap64 (f 4 + (l13.length : Int))) (hf5 : f 6 = wrap64 (f 5 + (l14.length : Int))) (hf6 : f 7 = wrap64 (f 6 + (l15.length : Int))) (hf7 : f 8 = wrap64 (f 7 + (l16.length : Int))) (w : World) :
  Calls Tryz.prog 7 #[.agg #[.int .i64 a0, .int .i64 a1, .int .i64 a2, .int .i64 a3, .int .i64 a4, .string a5, .bool a6, .int .i64 a7, .slice A8 l8.length c8, .slice A9 l9.length c9, .slice A10 l10.length c10, .slice A11 l11.length c11, .slice A12 l12.length c12, .slice A13 l13.length c13, .slice A14 l14.length c14, .slice A15 l15.length c15, .slice A16 l16.length c16]] w fun e w' => e = .returned (.bool (decide (f 8 ≤ 500))) ∧ Below w.heap.size w w' := by
 have HF := Aside0.mk hf
 clear hf
 have HF0 := Aside0.mk hf0; clear hf0
 have HF1 := Aside0.mk hf1; clear hf1
 have HF2 := Aside0.mk hf2; clear hf2
 have HF3 := Aside0.mk hf3; clear hf3
 have HF4 := Aside0.mk hf4; clear hf4
 have HF5 := Aside0.mk hf5; clear hf5
 have HF6 := Aside0.mk hf6; clear hf6
 have HF7 := Aside0.mk hf7; clear hf7
 have hK0 : (w.alloc (.cells #[.int .i64 a0, .int .i64 a1, .int .i64 a2, .int .i64 a3, .int .i64 a4, .string a5, .bool a6, .int .i64 a7, .slice A8 l8.length c8, .slice A9 l9.length c9, .slice A10 l10.length c10, .slice A11 l11.length c11, .slice A12 l12.length c12, .slice A13 l13.length c13, .slice A14 l14.length c14, .slice A15 l15.length c15, .slice A16 l16.length c16] 27 (0, 0))).heap[w.heap.size]? = some (.cells #[.int .i64 a0, .int .i64 a1, .int .i64 a2, .int .i64 a3, .int .i64 a4, .string a5, .bool a6, .int .i64 a7, .slice A8 l8.length c8, .slice A9 l9.length c9, .slice A10 l10.length c10, .slice A11 l11.length c11, .slice A12 l12.length c12, .slice A13 l13.length c13, .slice A14 l14.length c14, .slice A15 l15.length c15, .slice A16 l16.length c16] 27 (0, 0)) := blk_new w _
 have HK := Aside0.mk hK0
 have HB := Aside0.mk (below_alloc (Below.refl w.heap.size w) (.cells #[.int .i64 a0, .int .i64 a1, .int .i64 a2, .int .i64 a3, .int .i64 a4, .string a5, .bool a6, .int .i64 a7, .slice A8 l8.length c8, .slice A9 l9.length c9, .slice A10 l10.length c10, .slice A11 l11.length c11, .slice A12 l12.length c12, .slice A13 l13.length c13, .slice A14 l14.length c14, .slice A15 l15.length c15, .slice A16 l16.length c16] 27 (0, 0)))
 clear hK0
 go_enter Tryz.func7, Tryz.ntmps7
 go_wp2_with fail
 generalize w.alloc (.cells #[.int .i64 a0, .int .i64 a1, .int .i64 a2, .int .i64 a3, .int .i64 a4, .string a5, .bool a6, .int .i64 a7, .slice A8 l8.length c8, .slice A9 l9.length c9, .slice A10 l10.length c10, .slice A11 l11.length c11, .slice A12 l12.length c12, .slice A13 l13.length c13, .slice A14 l14.length c14, .slice A15 l15.length c15, .slice A16 l16.length c16] 27 (0, 0)) = w0 at HK HB ⊢
 generalize hB : w.heap.size = B at HK ⊢
 refine (lists_ a0 a1 a2 a3 a4 a5 a6 a7 A8 c8 l8 A9 c9 l9 A10 c10 l10 A11 c11 l11 A12 c12 l12 A13 c13 l13 A14 c14 l14 A15 c15 l15 A16 c16 l16 w0).mono ?_
 rintro e w1 ⟨rfl, hb⟩
 replace HK := Aside0.mk (blk_below HK.out hb)
 replace HB := Aside0.mk (below_then HB.out HB.out.size hb)
 clear hb
 have k11 : ∀ ob, (w1.alloc ob).cell? ⟨B, 11, none⟩ = some (.slice A11 l11.length c11) := fun ob => pw_cell_below (below_alloc (Below.refl _ _) ob) ((blk_cell HK.out 11).trans rfl)
 have HA0 : (w1.alloc (.cells #[.slice A8 l8.length c8, .slice A9 l9.length c9, .slice A10 l10.length c10, .slice A12 l12.length c12, .slice A13 l13.length c13, .slice A14 l14.length c14, .slice A15 l15.length c15, .slice A16 l16.length c16] 56 (0, 0))).heap[w1.heap.size]? = some (.cells #[.slice A8 l8.length c8, .slice A9 l9.length c9, .slice A10 l10.length c10, .slice A12 l12.length c12, .slice A13 l13.length c13, .slice A14 l14.length c14, .slice A15 l15.length c15, .slice A16 l16.length c16] 56 (0, 0)) := blk_new w1 _
 have HA := Aside0.mk HA0
 clear HA0
 replace HB := Aside0.mk (below_alloc HB.out (.cells #[.slice A8 l8.length c8, .slice A9 l9.length c9, .slice A10 l10.length c10, .slice A12 l12.length c12, .slice A13 l13.length c13, .slice A14 l14.length c14, .slice A15 l15.length c15, .slice A16 l16.length c16] 56 (0, 0)))
 clear HK
 go_wp2_with fail
 generalize w1.alloc (.cells #[.slice A8 l8.length c8, .slice A9 l9.length c9, .slice A10 l10.length c10, .slice A12 l12.length c12, .slice A13 l13.length c13, .slice A14 l14.length c14, .slice A15 l15.length c15, .slice A16 l16.length c16] 56 (0, 0)) = w2 at HA HB ⊢
 generalize w1.heap.size = g at HA ⊢
 go_loopg [4, 11] 8 (fun kq vn vi w' => ∃ (i : Nat) (n x : Int), vn = .int .i64 n ∧ vi = .int .i64 x ∧ Aside0 (n = f i) ∧ Aside0 (x = (i : Int)) ∧ Aside0 (i + kq = 8) ∧ Aside0 (w'.heap[g]? = some (.cells #[.slice A8 l8.length c8, .slice A9 l9.length c9, .slice A10 l10.length c10, .slice A12 l12.length c12, .slice A13 l13.length c13, .slice A14 l14.length c14, .slice A15 l15.length c15, .slice A16 l16.length c16] 56 (0, 0))) ∧ Aside0 (Below w.heap.size w w'))
 case atStart => exact ⟨0, _, 0, rfl, rfl, ⟨HF.out.symm⟩, ⟨rfl⟩, ⟨rfl⟩, HA, HB⟩
 case round =>
  clear HA HB k11
  obtain ⟨i, n, x, rfl, rfl, HN, HX, HI, HA, HB⟩ := hrel
  cases gk with
  | zero =>
   obtain rfl : i = 8 := by have := HI.out; omega
   obtain rfl : x = 8 := HX.out
   go_wp2_with fail
   go_ret
   exact ⟨by rw [← HN.out]; rfl, hB ▸ HB.out⟩
  | succ k1 =>
   have hi : i = 0 ∨ i = 1 ∨ i = 2 ∨ i = 3 ∨ i = 4 ∨ i = 5 ∨ i = 6 ∨ i = 7 := by have := HI.out; omega
   rcases hi with rfl | rfl | rfl | rfl | rfl | rfl | rfl | rfl
   ·obtain rfl : x = 0 := HX.out
    have kk : wr.cell? ⟨g, 0, none⟩ = some (.slice A8 l8.length c8) := (blk_cell HA.out 0).trans rfl
    go_wp2_with fail
    go_roundg k1
    case measure => omega
    case rel => exact ⟨1, _, _, rfl, rfl, ⟨by rw [HN.out]; exact HF0.out.symm⟩, ⟨rfl⟩, ⟨by have := HI.out; omega⟩, HA, HB⟩
   ·obtain rfl : x = 1 := HX.out
    have kk : wr.cell? ⟨g, 1, none⟩ = some (.slice A9 l9.length c9) := (blk_cell HA.out 1).trans rfl
    go_wp2_with fail
    go_roundg k1
    case measure => omega
    case rel => exact ⟨2, _, _, rfl, rfl, ⟨by rw [HN.out]; exact HF1.out.symm⟩, ⟨rfl⟩, ⟨by have := HI.out; omega⟩, HA, HB⟩
   ·obtain rfl : x = 2 := HX.out
    have kk : wr.cell? ⟨g, 2, none⟩ = some (.slice A10 l10.length c10) := (blk_cell HA.out 2).trans rfl
    go_wp2_with fail
    go_roundg k1
    case measure => omega
    case rel => exact ⟨3, _, _, rfl, rfl, ⟨by rw [HN.out]; exact HF2.out.symm⟩, ⟨rfl⟩, ⟨by have := HI.out; omega⟩, HA, HB⟩
   ·obtain rfl : x = 3 := HX.out
    have kk : wr.cell? ⟨g, 3, none⟩ = some (.slice A12 l12.length c12) := (blk_cell HA.out 3).trans rfl
    go_wp2_with fail
    go_roundg k1
    case measure => omega
    case rel => exact ⟨4, _, _, rfl, rfl, ⟨by rw [HN.out]; exact HF3.out.symm⟩, ⟨rfl⟩, ⟨by have := HI.out; omega⟩, HA, HB⟩
   ·obtain rfl : x = 4 := HX.out
    have kk : wr.cell? ⟨g, 4, none⟩ = some (.slice A13 l13.length c13) := (blk_cell HA.out 4).trans rfl
    go_wp2_with fail
    go_roundg k1
    case measure => omega
    case rel => exact ⟨5, _, _, rfl, rfl, ⟨by rw [HN.out]; exact HF4.out.symm⟩, ⟨rfl⟩, ⟨by have := HI.out; omega⟩, HA, HB⟩
   ·obtain rfl : x = 5 := HX.out
    have kk : wr.cell? ⟨g, 5, none⟩ = some (.slice A14 l14.length c14) := (blk_cell HA.out 5).trans rfl
    go_wp2_with fail
    go_roundg k1
    case measure => omega
    case rel => exact ⟨6, _, _, rfl, rfl, ⟨by rw [HN.out]; exact HF5.out.symm⟩, ⟨rfl⟩, ⟨by have := HI.out; omega⟩, HA, HB⟩
   ·obtain rfl : x = 6 := HX.out
    have kk : wr.cell? ⟨g, 6, none⟩ = some (.slice A15 l15.length c15) := (blk_cell HA.out 6).trans rfl
    go_wp2_with fail
    go_roundg k1
    case measure => omega
    case rel => exact ⟨7, _, _, rfl, rfl, ⟨by rw [HN.out]; exact HF6.out.symm⟩, ⟨rfl⟩, ⟨by have := HI.out; omega⟩, HA, HB⟩
   ·obtain rfl : x = 7 := HX.out
    have kk : wr.cell? ⟨g, 7, none⟩ = some (.slice A16 l16.length c16) := (blk_cell HA.out 7).trans rfl
    go_wp2_with fail
    go_roundg k1
    case measure => omega
    case rel => exact ⟨8, _, _, rfl, rfl, ⟨by rw [HN.out]; exact HF7.out.symm⟩, ⟨rfl⟩, ⟨by have := HI.out; omega⟩, HA, HB⟩
end Go.Proofs.YtfdcldjoncednaaGreat.RefL
/- Contracts of Go's library at this seat: written by the kit's lay-shelf.mjs and lay-plain.mjs, picked by shelf_pick.py. -/
namespace Go.Proofs.YtfdcldjoncednaaGreat.Shelf
open Go.Shelf Go.Proofs
set_option linter.unusedVariables false
def lays137_ren : Go.Shelf.Ren := ⟨fun | 137 => 128 | 217 => 130 | 266 => 131 | n => n, fun | 9 => 9 | 5 => 5 | 3 => 3 | n => n, fun | n => n⟩
theorem lays137 : Go.Proofs.Lays.n137 Tryz.prog lays137_ren := {
 mixed := by kernel_rfl
 f137 := Tryz.func128.trans (congrArg some (by kernel_rfl))
 f217 := Tryz.func130.trans (congrArg some (by kernel_rfl))
 f266 := Tryz.func131.trans (congrArg some (by kernel_rfl))
 t3 := Tryz.underlying3
 a3 := Tryz.isAgg3
 z3 := Tryz.sizeOf3
 v3 := Tryz.zeroValue3
 t5 := Tryz.underlying5
 a5 := Tryz.isAgg5
 z5 := Tryz.sizeOf5
 v5 := Tryz.zeroValue5
 t9 := Tryz.underlying9
 a9 := Tryz.isAgg9
 z9 := Tryz.sizeOf9
 v9 := Tryz.zeroValue9 }
open Go.RowKit in
theorem strings_IndexByte (s : ByteArray) (c : Int) (w : World) :
  Calls Tryz.prog 128 #[.string s, .int .u8 c] w fun e w' => e = .returned (.int .i64 (Lib.indexByte s.data.toList c.toNat.toUInt8)) ∧ w' = w := Any.strings_IndexByte lays137 s c w
end Go.Proofs.YtfdcldjoncednaaGreat.Shelf
/- Names of zones: value.ZoneName and the reference's, walked: one plain answer. (Written by gen_zn.py.) -/
namespace Go.Proofs.YtfdcldjoncednaaGreat.Zn
open Go.RowKit Go.Proofs.YtfdcldjoncednaaGreatW.PrintWords Go.Proofs.YtfdcldjoncednaaGreatW.PrintLast
set_option linter.unusedVariables false
set_option linter.unusedSimpArgs false
/-- The signs of zones' names. -/
def zc (z : Int) : Bool := (decide (97 ≤ z) && decide (z ≤ 122)) || (decide (65 ≤ z) && decide (z ≤ 90)) || (decide (48 ≤ z) && decide (z ≤ 57)) || decide (z = 47) || decide (z = 95) || decide (z = 45) || decide (z = 43)
def znB (s : ByteArray) : Bool := (List.range s.size).all (fun j => zc (bt s (j : Int))) && decide (1 ≤ s.size) && decide (s.size ≤ 60)
theorem zn_no {s : ByteArray} {j : Nat} (hj : j < s.size) (h : zc (bt s (j : Int)) = false) : znB s = false := by
 unfold znB
 have : (List.range s.size).all (fun j => zc (bt s (j : Int))) = false := by
  rw [← Bool.not_eq_true, List.all_eq_true]
  intro q
  rw [q j (List.mem_range.2 hj)] at h
  cases h
 rw [this]; rfl
theorem zn_all {s : ByteArray} (h : ∀ j : Nat, j < s.size → zc (bt s (j : Int)) = true) : znB s = (decide (1 ≤ s.size) && decide (s.size ≤ 60)) := by
 unfold znB
 rw [show (List.range s.size).all (fun j => zc (bt s (j : Int))) = true from List.all_eq_true.2 fun j hj => h j (List.mem_range.1 hj), Bool.true_and]
set_option maxRecDepth 100000 in
theorem idxN : ∀ n : Fin 256, decide (Lib.indexByte [47, 95, 45, 43] (n.val).toUInt8 < 0) = decide (¬ (n.val = 47 ∨ n.val = 95 ∨ n.val = 45 ∨ n.val = 43)) := by decide +kernel
theorem idx (z : Int) (h0 : 0 ≤ z) (h1 : z ≤ 255) : decide (Lib.indexByte [47, 95, 45, 43] z.toNat.toUInt8 < 0) = decide (¬ (z = 47 ∨ z = 95 ∨ z = 45 ∨ z = 43)) := by
 have h := idxN ⟨z.toNat, by omega⟩
 simp only at h
 rw [h]
 exact decide_eq_decide.2 (by omega)
set_option maxHeartbeats 8000000 in
set_option maxRecDepth 100000 in
theorem ref (s : ByteArray) (w : World) (hs : s.size ≤ 9223372036854775807) :
  Calls Tryz.prog 74 #[.string s] w fun e w' => e = .returned (.bool (znB s)) ∧ Drawn0 w w' := by
 have HS := Aside0.mk hs; clear hs
 go_enter Tryz.func74, Tryz.ntmps74
 go_wp2
 go_loopg [7] s.size (fun kq v w' => ∃ (i : Nat) (x : Int), v = .int .i64 x ∧ Aside0 (x = (i : Int)) ∧ Aside0 (i + kq = s.size) ∧ Aside0 (∀ j : Nat, j < i → zc (bt s (j : Int)) = true) ∧ Drawn0 w w')
 case atStart => exact ⟨0, 0, rfl, ⟨rfl⟩, ⟨by omega⟩, ⟨fun j hj => by omega⟩, Drawn0.refl _⟩
 case round =>
  obtain ⟨i, x, rfl, HX, HI, HU, ⟨m1, rfl⟩⟩ := hrel
  cases gk with
  | zero =>
   have ZA := Aside0.mk (zn_all (s := s) (fun j hj => HU.out j (by have := HI.out; omega)))
   have l1 : decide (x < (s.size : Int)) = false := decide_eq_false (by have := HX.out; have := HI.out; omega)
   by_cases n1 : 1 ≤ s.size
   ·have m2 : decide ((s.size : Int) > 0) = true := decide_eq_true (by omega)
    have m3 : decide ((s.size : Int) ≥ 1) = true := decide_eq_true (by omega)
    have m4 : decide (0 < s.size) = true := decide_eq_true (by omega)
    have m5 : decide (1 ≤ s.size) = true := decide_eq_true n1
    have M := Aside0.mk m5; clear n1
    by_cases n2 : s.size ≤ 60
    ·have m6 : decide ((s.size : Int) ≤ 60) = true := decide_eq_true (by omega)
     have m7 : decide (s.size ≤ 60) = true := decide_eq_true n2
     have M2 := Aside0.mk m7; clear n2
     go_wp2
     go_ret
     exact ⟨by rw [ZA.out, M.out, M2.out] <;> rfl, Drawn0.step (Drawn0.refl _) _⟩
    ·have m6 : decide ((s.size : Int) ≤ 60) = false := decide_eq_false (by omega)
     have m7 : decide (s.size ≤ 60) = false := decide_eq_false n2
     have M2 := Aside0.mk m7; clear n2
     go_wp2
     go_ret
     exact ⟨by rw [ZA.out, M.out, M2.out] <;> rfl, Drawn0.step (Drawn0.refl _) _⟩
   ·have m2 : decide ((s.size : Int) > 0) = false := decide_eq_false (by omega)
    have m3 : decide ((s.size : Int) ≥ 1) = false := decide_eq_false (by omega)
    have m4 : decide (0 < s.size) = false := decide_eq_false (by omega)
    have m5 : decide (1 ≤ s.size) = false := decide_eq_false n1
    have M := Aside0.mk m5; clear n1
    go_wp2
    go_ret
    exact ⟨by rw [ZA.out, M.out] <;> rfl, Drawn0.step (Drawn0.refl _) _⟩
  | succ k1 =>
   have l1 : decide (x < (s.size : Int)) = true := decide_eq_true (by have := HX.out; have := HI.out; omega)
   have p1 : (0 ≤ x) = True := eq_true (by have := HX.out; omega)
   have q1 : (x < (s.size : Int)) = True := eq_true (by have := HX.out; have := HI.out; omega)
   have hx := bt_at s x
   have hr := bt_range s x
   obtain ⟨z, hz⟩ : ∃ z, bt s x = z := ⟨_, rfl⟩
   have HZ := Aside0.mk hz
   rw [hz] at hx hr
   have HR := Aside0.mk hr
   clear hz hr
   by_cases a : z ≥ 97
   ·by_cases b : z ≤ 122
    ·have h := HR.out
     have HZC := Aside0.mk (show zc z = true by unfold zc; simp; omega)
     have t1 : decide (z ≥ 97) = true := decide_eq_true (by omega)
     have t2 : decide (z ≤ 122) = true := decide_eq_true (by omega)
     clear a b h
     go_wp2
     go_roundg k1
     case measure => omega
     case rel => exact ⟨i + 1, _, rfl, ⟨by have := HX.out; have := HS.out; have := HI.out; unfold wrap64; omega⟩, ⟨by have := HI.out; omega⟩, ⟨fun j hj => by by_cases e : j = i; subst e; rw [← HX.out, HZ.out]; exact HZC.out; exact HU.out j (by omega)⟩, by repeat (first | exact Drawn0.refl _ | apply Drawn0.step)⟩
    ·have h := HR.out
     have HZC := Aside0.mk (show zc z = false by unfold zc; simp; omega)
     have t3 : decide (z ≥ 97) = true := decide_eq_true (by omega)
     have t4 : decide (z ≤ 122) = false := decide_eq_false (by omega)
     have t5 : decide (z ≥ 65) = true := decide_eq_true (by omega)
     have t6 : decide (z ≤ 90) = false := decide_eq_false (by omega)
     have t7 : decide (z ≥ 48) = true := decide_eq_true (by omega)
     have t8 : decide (z ≤ 57) = false := decide_eq_false (by omega)
     have t9 : (z == 47) = false := beq_eq_false_iff_ne.2 (by omega)
     have t10 : (z == 95) = false := beq_eq_false_iff_ne.2 (by omega)
     have t11 : (z == 45) = false := beq_eq_false_iff_ne.2 (by omega)
     have t12 : (z == 43) = false := beq_eq_false_iff_ne.2 (by omega)
     clear a b h
     go_wp2
     go_ret
     exact ⟨by rw [zn_no (s := s) (j := i) (by have := HI.out; omega) (by rw [← HX.out, HZ.out]; exact HZC.out)] <;> rfl, by repeat (first | exact Drawn0.refl _ | apply Drawn0.step)⟩
   by_cases b : z ≥ 65
   ·by_cases c : z ≤ 90
    ·have h := HR.out
     have HZC := Aside0.mk (show zc z = true by unfold zc; simp; omega)
     have t13 : decide (z ≥ 97) = false := decide_eq_false (by omega)
     have t14 : decide (z ≥ 65) = true := decide_eq_true (by omega)
     have t15 : decide (z ≤ 90) = true := decide_eq_true (by omega)
     clear a b c h
     go_wp2
     go_roundg k1
     case measure => omega
     case rel => exact ⟨i + 1, _, rfl, ⟨by have := HX.out; have := HS.out; have := HI.out; unfold wrap64; omega⟩, ⟨by have := HI.out; omega⟩, ⟨fun j hj => by by_cases e : j = i; subst e; rw [← HX.out, HZ.out]; exact HZC.out; exact HU.out j (by omega)⟩, by repeat (first | exact Drawn0.refl _ | apply Drawn0.step)⟩
    by_cases c9 : z = 95
    ·have h := HR.out
     have HZC := Aside0.mk (show zc z = true by unfold zc; simp; omega)
     have t16 : decide (z ≥ 97) = false := decide_eq_false (by omega)
     have t17 : decide (z ≥ 65) = true := decide_eq_true (by omega)
     have t18 : decide (z ≤ 90) = false := decide_eq_false (by omega)
     have t19 : decide (z ≥ 48) = true := decide_eq_true (by omega)
     have t20 : decide (z ≤ 57) = false := decide_eq_false (by omega)
     have t21 : (z == 47) = false := beq_eq_false_iff_ne.2 (by omega)
     have t22 : (z == 95) = true := beq_iff_eq.2 (by omega)
     have t23 : (z == 45) = false := beq_eq_false_iff_ne.2 (by omega)
     have t24 : (z == 43) = false := beq_eq_false_iff_ne.2 (by omega)
     clear a b c c9 h
     go_wp2
     go_roundg k1
     case measure => omega
     case rel => exact ⟨i + 1, _, rfl, ⟨by have := HX.out; have := HS.out; have := HI.out; unfold wrap64; omega⟩, ⟨by have := HI.out; omega⟩, ⟨fun j hj => by by_cases e : j = i; subst e; rw [← HX.out, HZ.out]; exact HZC.out; exact HU.out j (by omega)⟩, by repeat (first | exact Drawn0.refl _ | apply Drawn0.step)⟩
    ·have h := HR.out
     have HZC := Aside0.mk (show zc z = false by unfold zc; simp; omega)
     have t25 : decide (z ≥ 97) = false := decide_eq_false (by omega)
     have t26 : decide (z ≥ 65) = true := decide_eq_true (by omega)
     have t27 : decide (z ≤ 90) = false := decide_eq_false (by omega)
     have t28 : decide (z ≥ 48) = true := decide_eq_true (by omega)
     have t29 : decide (z ≤ 57) = false := decide_eq_false (by omega)
     have t30 : (z == 47) = false := beq_eq_false_iff_ne.2 (by omega)
     have t31 : (z == 95) = false := beq_eq_false_iff_ne.2 (by omega)
     have t32 : (z == 45) = false := beq_eq_false_iff_ne.2 (by omega)
     have t33 : (z == 43) = false := beq_eq_false_iff_ne.2 (by omega)
     clear a b c c9 h
     go_wp2
     go_ret
     exact ⟨by rw [zn_no (s := s) (j := i) (by have := HI.out; omega) (by rw [← HX.out, HZ.out]; exact HZC.out)] <;> rfl, by repeat (first | exact Drawn0.refl _ | apply Drawn0.step)⟩
   by_cases c : z ≥ 48
   ·by_cases c9 : z ≤ 57
    ·have h := HR.out
     have HZC := Aside0.mk (show zc z = true by unfold zc; simp; omega)
     have t34 : decide (z ≥ 97) = false := decide_eq_false (by omega)
     have t35 : decide (z ≥ 65) = false := decide_eq_false (by omega)
     have t36 : decide (z ≥ 48) = true := decide_eq_true (by omega)
     have t37 : decide (z ≤ 57) = true := decide_eq_true (by omega)
     clear a b c c9 h
     go_wp2
     go_roundg k1
     case measure => omega
     case rel => exact ⟨i + 1, _, rfl, ⟨by have := HX.out; have := HS.out; have := HI.out; unfold wrap64; omega⟩, ⟨by have := HI.out; omega⟩, ⟨fun j hj => by by_cases e : j = i; subst e; rw [← HX.out, HZ.out]; exact HZC.out; exact HU.out j (by omega)⟩, by repeat (first | exact Drawn0.refl _ | apply Drawn0.step)⟩
    ·have h := HR.out
     have HZC := Aside0.mk (show zc z = false by unfold zc; simp; omega)
     have t38 : decide (z ≥ 97) = false := decide_eq_false (by omega)
     have t39 : decide (z ≥ 65) = false := decide_eq_false (by omega)
     have t40 : decide (z ≥ 48) = true := decide_eq_true (by omega)
     have t41 : decide (z ≤ 57) = false := decide_eq_false (by omega)
     have t42 : (z == 47) = false := beq_eq_false_iff_ne.2 (by omega)
     have t43 : (z == 95) = false := beq_eq_false_iff_ne.2 (by omega)
     have t44 : (z == 45) = false := beq_eq_false_iff_ne.2 (by omega)
     have t45 : (z == 43) = false := beq_eq_false_iff_ne.2 (by omega)
     clear a b c c9 h
     go_wp2
     go_ret
     exact ⟨by rw [zn_no (s := s) (j := i) (by have := HI.out; omega) (by rw [← HX.out, HZ.out]; exact HZC.out)] <;> rfl, by repeat (first | exact Drawn0.refl _ | apply Drawn0.step)⟩
   by_cases c47 : z = 47
   ·have h := HR.out
    have HZC := Aside0.mk (show zc z = true by unfold zc; simp; omega)
    have t46 : decide (z ≥ 97) = false := decide_eq_false (by omega)
    have t47 : decide (z ≥ 65) = false := decide_eq_false (by omega)
    have t48 : decide (z ≥ 48) = false := decide_eq_false (by omega)
    have t49 : (z == 47) = true := beq_iff_eq.2 (by omega)
    have t50 : (z == 95) = false := beq_eq_false_iff_ne.2 (by omega)
    have t51 : (z == 45) = false := beq_eq_false_iff_ne.2 (by omega)
    have t52 : (z == 43) = false := beq_eq_false_iff_ne.2 (by omega)
    clear a b c h c47
    go_wp2
    go_roundg k1
    case measure => omega
    case rel => exact ⟨i + 1, _, rfl, ⟨by have := HX.out; have := HS.out; have := HI.out; unfold wrap64; omega⟩, ⟨by have := HI.out; omega⟩, ⟨fun j hj => by by_cases e : j = i; subst e; rw [← HX.out, HZ.out]; exact HZC.out; exact HU.out j (by omega)⟩, by repeat (first | exact Drawn0.refl _ | apply Drawn0.step)⟩
   by_cases c45 : z = 45
   ·have h := HR.out
    have HZC := Aside0.mk (show zc z = true by unfold zc; simp; omega)
    have t53 : decide (z ≥ 97) = false := decide_eq_false (by omega)
    have t54 : decide (z ≥ 65) = false := decide_eq_false (by omega)
    have t55 : decide (z ≥ 48) = false := decide_eq_false (by omega)
    have t56 : (z == 47) = false := beq_eq_false_iff_ne.2 (by omega)
    have t57 : (z == 95) = false := beq_eq_false_iff_ne.2 (by omega)
    have t58 : (z == 45) = true := beq_iff_eq.2 (by omega)
    have t59 : (z == 43) = false := beq_eq_false_iff_ne.2 (by omega)
    clear a b c h c47 c45
    go_wp2
    go_roundg k1
    case measure => omega
    case rel => exact ⟨i + 1, _, rfl, ⟨by have := HX.out; have := HS.out; have := HI.out; unfold wrap64; omega⟩, ⟨by have := HI.out; omega⟩, ⟨fun j hj => by by_cases e : j = i; subst e; rw [← HX.out, HZ.out]; exact HZC.out; exact HU.out j (by omega)⟩, by repeat (first | exact Drawn0.refl _ | apply Drawn0.step)⟩
   by_cases c43 : z = 43
   ·have h := HR.out
    have HZC := Aside0.mk (show zc z = true by unfold zc; simp; omega)
    have t60 : decide (z ≥ 97) = false := decide_eq_false (by omega)
    have t61 : decide (z ≥ 65) = false := decide_eq_false (by omega)
    have t62 : decide (z ≥ 48) = false := decide_eq_false (by omega)
    have t63 : (z == 47) = false := beq_eq_false_iff_ne.2 (by omega)
    have t64 : (z == 95) = false := beq_eq_false_iff_ne.2 (by omega)
    have t65 : (z == 45) = false := beq_eq_false_iff_ne.2 (by omega)
    have t66 : (z == 43) = true := beq_iff_eq.2 (by omega)
    clear a b c h c47 c45 c43
    go_wp2
    go_roundg k1
    case measure => omega
    case rel => exact ⟨i + 1, _, rfl, ⟨by have := HX.out; have := HS.out; have := HI.out; unfold wrap64; omega⟩, ⟨by have := HI.out; omega⟩, ⟨fun j hj => by by_cases e : j = i; subst e; rw [← HX.out, HZ.out]; exact HZC.out; exact HU.out j (by omega)⟩, by repeat (first | exact Drawn0.refl _ | apply Drawn0.step)⟩
   have h := HR.out
   have HZC := Aside0.mk (show zc z = false by unfold zc; simp; omega)
   have t67 : decide (z ≥ 97) = false := decide_eq_false (by omega)
   have t68 : decide (z ≥ 65) = false := decide_eq_false (by omega)
   have t69 : decide (z ≥ 48) = false := decide_eq_false (by omega)
   have t70 : (z == 47) = false := beq_eq_false_iff_ne.2 (by omega)
   have t71 : (z == 95) = false := beq_eq_false_iff_ne.2 (by omega)
   have t72 : (z == 45) = false := beq_eq_false_iff_ne.2 (by omega)
   have t73 : (z == 43) = false := beq_eq_false_iff_ne.2 (by omega)
   clear a b c h c47 c45 c43
   go_wp2
   go_ret
   exact ⟨by rw [zn_no (s := s) (j := i) (by have := HI.out; omega) (by rw [← HX.out, HZ.out]; exact HZC.out)] <;> rfl, by repeat (first | exact Drawn0.refl _ | apply Drawn0.step)⟩
set_option maxHeartbeats 8000000 in
set_option maxRecDepth 100000 in
theorem val (s : ByteArray) (w : World) (hs : s.size ≤ 9223372036854775807) :
  Calls Tryz.prog 124 #[.string s] w fun e w' => e = .returned (.bool (znB s)) ∧ Drawn0 w w' := by
 have HS := Aside0.mk hs; clear hs
 go_enter Tryz.func124, Tryz.ntmps124
 go_wp2
 go_loopg [8] s.size (fun kq v w' => ∃ (i : Nat) (x : Int), v = .int .i64 x ∧ Aside0 (x = (i : Int)) ∧ Aside0 (i + kq = s.size) ∧ Aside0 (∀ j : Nat, j < i → zc (bt s (j : Int)) = true) ∧ Drawn0 w w')
 case atStart => exact ⟨0, 0, rfl, ⟨rfl⟩, ⟨by omega⟩, ⟨fun j hj => by omega⟩, Drawn0.refl _⟩
 case round =>
  obtain ⟨i, x, rfl, HX, HI, HU, ⟨m1, rfl⟩⟩ := hrel
  cases gk with
  | zero =>
   have ZA := Aside0.mk (zn_all (s := s) (fun j hj => HU.out j (by have := HI.out; omega)))
   have l1 : decide (x < (s.size : Int)) = false := decide_eq_false (by have := HX.out; have := HI.out; omega)
   by_cases n1 : 1 ≤ s.size
   ·have m2 : decide ((s.size : Int) > 0) = true := decide_eq_true (by omega)
    have m3 : decide ((s.size : Int) ≥ 1) = true := decide_eq_true (by omega)
    have m4 : decide (0 < s.size) = true := decide_eq_true (by omega)
    have m5 : decide (1 ≤ s.size) = true := decide_eq_true n1
    have M := Aside0.mk m5; clear n1
    by_cases n2 : s.size ≤ 60
    ·have m6 : decide ((s.size : Int) ≤ 60) = true := decide_eq_true (by omega)
     have m7 : decide (s.size ≤ 60) = true := decide_eq_true n2
     have M2 := Aside0.mk m7; clear n2
     go_wp2
     go_ret
     exact ⟨by rw [ZA.out, M.out, M2.out] <;> rfl, Drawn0.step (Drawn0.refl _) _⟩
    ·have m6 : decide ((s.size : Int) ≤ 60) = false := decide_eq_false (by omega)
     have m7 : decide (s.size ≤ 60) = false := decide_eq_false n2
     have M2 := Aside0.mk m7; clear n2
     go_wp2
     go_ret
     exact ⟨by rw [ZA.out, M.out, M2.out] <;> rfl, Drawn0.step (Drawn0.refl _) _⟩
   ·have m2 : decide ((s.size : Int) > 0) = false := decide_eq_false (by omega)
    have m3 : decide ((s.size : Int) ≥ 1) = false := decide_eq_false (by omega)
    have m4 : decide (0 < s.size) = false := decide_eq_false (by omega)
    have m5 : decide (1 ≤ s.size) = false := decide_eq_false n1
    have M := Aside0.mk m5; clear n1
    go_wp2
    go_ret
    exact ⟨by rw [ZA.out, M.out] <;> rfl, Drawn0.step (Drawn0.refl _) _⟩
  | succ k1 =>
   have l1 : decide (x < (s.size : Int)) = true := decide_eq_true (by have := HX.out; have := HI.out; omega)
   have p1 : (0 ≤ x) = True := eq_true (by have := HX.out; omega)
   have q1 : (x < (s.size : Int)) = True := eq_true (by have := HX.out; have := HI.out; omega)
   have hx := bt_at s x
   have hr := bt_range s x
   obtain ⟨z, hz⟩ : ∃ z, bt s x = z := ⟨_, rfl⟩
   have HZ := Aside0.mk hz
   rw [hz] at hx hr
   have HR := Aside0.mk hr
   clear hz hr
   by_cases a : z ≥ 97
   ·by_cases b : z ≤ 122
    ·have h := HR.out
     have HZC := Aside0.mk (show zc z = true by unfold zc; simp; omega)
     have t1 : decide (z ≥ 97) = true := decide_eq_true (by omega)
     have t2 : decide (z ≤ 122) = true := decide_eq_true (by omega)
     clear a b h
     go_wp2_with (go_at_call 128; refine (Shelf.strings_IndexByte ⟨#[47, 95, 45, 43]⟩ z _).mono ?_; rintro e w' ⟨rfl, rfl⟩)
     go_roundg k1
     case measure => omega
     case rel => exact ⟨i + 1, _, rfl, ⟨by have := HX.out; have := HS.out; have := HI.out; unfold wrap64; omega⟩, ⟨by have := HI.out; omega⟩, ⟨fun j hj => by by_cases e : j = i; subst e; rw [← HX.out, HZ.out]; exact HZC.out; exact HU.out j (by omega)⟩, by repeat (first | exact Drawn0.refl _ | apply Drawn0.step)⟩
    ·have h := HR.out
     have HZC := Aside0.mk (show zc z = false by unfold zc; simp; omega)
     have t3 : decide (z ≥ 97) = true := decide_eq_true (by omega)
     have t4 : decide (z ≤ 122) = false := decide_eq_false (by omega)
     have t5 : decide (z ≥ 65) = true := decide_eq_true (by omega)
     have t6 : decide (z ≤ 90) = false := decide_eq_false (by omega)
     have t7 : decide (z ≥ 48) = true := decide_eq_true (by omega)
     have t8 : decide (z ≤ 57) = false := decide_eq_false (by omega)
     have t_ := idx z HR.out.1 HR.out.2
     rw [show decide (¬ (z = 47 ∨ z = 95 ∨ z = 45 ∨ z = 43)) = true from decide_eq_true (by omega)] at t_
     clear a b h
     go_wp2_with (go_at_call 128; refine (Shelf.strings_IndexByte ⟨#[47, 95, 45, 43]⟩ z _).mono ?_; rintro e w' ⟨rfl, rfl⟩)
     go_ret
     exact ⟨by rw [zn_no (s := s) (j := i) (by have := HI.out; omega) (by rw [← HX.out, HZ.out]; exact HZC.out)] <;> rfl, by repeat (first | exact Drawn0.refl _ | apply Drawn0.step)⟩
   by_cases b : z ≥ 65
   ·by_cases c : z ≤ 90
    ·have h := HR.out
     have HZC := Aside0.mk (show zc z = true by unfold zc; simp; omega)
     have t9 : decide (z ≥ 97) = false := decide_eq_false (by omega)
     have t10 : decide (z ≥ 65) = true := decide_eq_true (by omega)
     have t11 : decide (z ≤ 90) = true := decide_eq_true (by omega)
     clear a b c h
     go_wp2_with (go_at_call 128; refine (Shelf.strings_IndexByte ⟨#[47, 95, 45, 43]⟩ z _).mono ?_; rintro e w' ⟨rfl, rfl⟩)
     go_roundg k1
     case measure => omega
     case rel => exact ⟨i + 1, _, rfl, ⟨by have := HX.out; have := HS.out; have := HI.out; unfold wrap64; omega⟩, ⟨by have := HI.out; omega⟩, ⟨fun j hj => by by_cases e : j = i; subst e; rw [← HX.out, HZ.out]; exact HZC.out; exact HU.out j (by omega)⟩, by repeat (first | exact Drawn0.refl _ | apply Drawn0.step)⟩
    by_cases c9 : z = 95
    ·have h := HR.out
     have HZC := Aside0.mk (show zc z = true by unfold zc; simp; omega)
     have t12 : decide (z ≥ 97) = false := decide_eq_false (by omega)
     have t13 : decide (z ≥ 65) = true := decide_eq_true (by omega)
     have t14 : decide (z ≤ 90) = false := decide_eq_false (by omega)
     have t15 : decide (z ≥ 48) = true := decide_eq_true (by omega)
     have t16 : decide (z ≤ 57) = false := decide_eq_false (by omega)
     have t_ := idx z HR.out.1 HR.out.2
     rw [show decide (¬ (z = 47 ∨ z = 95 ∨ z = 45 ∨ z = 43)) = false from decide_eq_false (by omega)] at t_
     clear a b c c9 h
     go_wp2_with (go_at_call 128; refine (Shelf.strings_IndexByte ⟨#[47, 95, 45, 43]⟩ z _).mono ?_; rintro e w' ⟨rfl, rfl⟩)
     go_roundg k1
     case measure => omega
     case rel => exact ⟨i + 1, _, rfl, ⟨by have := HX.out; have := HS.out; have := HI.out; unfold wrap64; omega⟩, ⟨by have := HI.out; omega⟩, ⟨fun j hj => by by_cases e : j = i; subst e; rw [← HX.out, HZ.out]; exact HZC.out; exact HU.out j (by omega)⟩, by repeat (first | exact Drawn0.refl _ | apply Drawn0.step)⟩
    ·have h := HR.out
     have HZC := Aside0.mk (show zc z = false by unfold zc; simp; omega)
     have t17 : decide (z ≥ 97) = false := decide_eq_false (by omega)
     have t18 : decide (z ≥ 65) = true := decide_eq_true (by omega)
     have t19 : decide (z ≤ 90) = false := decide_eq_false (by omega)
     have t20 : decide (z ≥ 48) = true := decide_eq_true (by omega)
     have t21 : decide (z ≤ 57) = false := decide_eq_false (by omega)
     have t_ := idx z HR.out.1 HR.out.2
     rw [show decide (¬ (z = 47 ∨ z = 95 ∨ z = 45 ∨ z = 43)) = true from decide_eq_true (by omega)] at t_
     clear a b c c9 h
     go_wp2_with (go_at_call 128; refine (Shelf.strings_IndexByte ⟨#[47, 95, 45, 43]⟩ z _).mono ?_; rintro e w' ⟨rfl, rfl⟩)
     go_ret
     exact ⟨by rw [zn_no (s := s) (j := i) (by have := HI.out; omega) (by rw [← HX.out, HZ.out]; exact HZC.out)] <;> rfl, by repeat (first | exact Drawn0.refl _ | apply Drawn0.step)⟩
   by_cases c : z ≥ 48
   ·by_cases c9 : z ≤ 57
    ·have h := HR.out
     have HZC := Aside0.mk (show zc z = true by unfold zc; simp; omega)
     have t22 : decide (z ≥ 97) = false := decide_eq_false (by omega)
     have t23 : decide (z ≥ 65) = false := decide_eq_false (by omega)
     have t24 : decide (z ≥ 48) = true := decide_eq_true (by omega)
     have t25 : decide (z ≤ 57) = true := decide_eq_true (by omega)
     clear a b c c9 h
     go_wp2_with (go_at_call 128; refine (Shelf.strings_IndexByte ⟨#[47, 95, 45, 43]⟩ z _).mono ?_; rintro e w' ⟨rfl, rfl⟩)
     go_roundg k1
     case measure => omega
     case rel => exact ⟨i + 1, _, rfl, ⟨by have := HX.out; have := HS.out; have := HI.out; unfold wrap64; omega⟩, ⟨by have := HI.out; omega⟩, ⟨fun j hj => by by_cases e : j = i; subst e; rw [← HX.out, HZ.out]; exact HZC.out; exact HU.out j (by omega)⟩, by repeat (first | exact Drawn0.refl _ | apply Drawn0.step)⟩
    ·have h := HR.out
     have HZC := Aside0.mk (show zc z = false by unfold zc; simp; omega)
     have t26 : decide (z ≥ 97) = false := decide_eq_false (by omega)
     have t27 : decide (z ≥ 65) = false := decide_eq_false (by omega)
     have t28 : decide (z ≥ 48) = true := decide_eq_true (by omega)
     have t29 : decide (z ≤ 57) = false := decide_eq_false (by omega)
     have t_ := idx z HR.out.1 HR.out.2
     rw [show decide (¬ (z = 47 ∨ z = 95 ∨ z = 45 ∨ z = 43)) = true from decide_eq_true (by omega)] at t_
     clear a b c c9 h
     go_wp2_with (go_at_call 128; refine (Shelf.strings_IndexByte ⟨#[47, 95, 45, 43]⟩ z _).mono ?_; rintro e w' ⟨rfl, rfl⟩)
     go_ret
     exact ⟨by rw [zn_no (s := s) (j := i) (by have := HI.out; omega) (by rw [← HX.out, HZ.out]; exact HZC.out)] <;> rfl, by repeat (first | exact Drawn0.refl _ | apply Drawn0.step)⟩
   by_cases c47 : z = 47
   ·have h := HR.out
    have HZC := Aside0.mk (show zc z = true by unfold zc; simp; omega)
    have t30 : decide (z ≥ 97) = false := decide_eq_false (by omega)
    have t31 : decide (z ≥ 65) = false := decide_eq_false (by omega)
    have t32 : decide (z ≥ 48) = false := decide_eq_false (by omega)
    have t_ := idx z HR.out.1 HR.out.2
    rw [show decide (¬ (z = 47 ∨ z = 95 ∨ z = 45 ∨ z = 43)) = false from decide_eq_false (by omega)] at t_
    clear a b c h c47
    go_wp2_with (go_at_call 128; refine (Shelf.strings_IndexByte ⟨#[47, 95, 45, 43]⟩ z _).mono ?_; rintro e w' ⟨rfl, rfl⟩)
    go_roundg k1
    case measure => omega
    case rel => exact ⟨i + 1, _, rfl, ⟨by have := HX.out; have := HS.out; have := HI.out; unfold wrap64; omega⟩, ⟨by have := HI.out; omega⟩, ⟨fun j hj => by by_cases e : j = i; subst e; rw [← HX.out, HZ.out]; exact HZC.out; exact HU.out j (by omega)⟩, by repeat (first | exact Drawn0.refl _ | apply Drawn0.step)⟩
   by_cases c45 : z = 45
   ·have h := HR.out
    have HZC := Aside0.mk (show zc z = true by unfold zc; simp; omega)
    have t33 : decide (z ≥ 97) = false := decide_eq_false (by omega)
    have t34 : decide (z ≥ 65) = false := decide_eq_false (by omega)
    have t35 : decide (z ≥ 48) = false := decide_eq_false (by omega)
    have t_ := idx z HR.out.1 HR.out.2
    rw [show decide (¬ (z = 47 ∨ z = 95 ∨ z = 45 ∨ z = 43)) = false from decide_eq_false (by omega)] at t_
    clear a b c h c47 c45
    go_wp2_with (go_at_call 128; refine (Shelf.strings_IndexByte ⟨#[47, 95, 45, 43]⟩ z _).mono ?_; rintro e w' ⟨rfl, rfl⟩)
    go_roundg k1
    case measure => omega
    case rel => exact ⟨i + 1, _, rfl, ⟨by have := HX.out; have := HS.out; have := HI.out; unfold wrap64; omega⟩, ⟨by have := HI.out; omega⟩, ⟨fun j hj => by by_cases e : j = i; subst e; rw [← HX.out, HZ.out]; exact HZC.out; exact HU.out j (by omega)⟩, by repeat (first | exact Drawn0.refl _ | apply Drawn0.step)⟩
   by_cases c43 : z = 43
   ·have h := HR.out
    have HZC := Aside0.mk (show zc z = true by unfold zc; simp; omega)
    have t36 : decide (z ≥ 97) = false := decide_eq_false (by omega)
    have t37 : decide (z ≥ 65) = false := decide_eq_false (by omega)
    have t38 : decide (z ≥ 48) = false := decide_eq_false (by omega)
    have t_ := idx z HR.out.1 HR.out.2
    rw [show decide (¬ (z = 47 ∨ z = 95 ∨ z = 45 ∨ z = 43)) = false from decide_eq_false (by omega)] at t_
    clear a b c h c47 c45 c43
    go_wp2_with (go_at_call 128; refine (Shelf.strings_IndexByte ⟨#[47, 95, 45, 43]⟩ z _).mono ?_; rintro e w' ⟨rfl, rfl⟩)
    go_roundg k1
    case measure => omega
    case rel => exact ⟨i + 1, _, rfl, ⟨by have := HX.out; have := HS.out; have := HI.out; unfold wrap64; omega⟩, ⟨by have := HI.out; omega⟩, ⟨fun j hj => by by_cases e : j = i; subst e; rw [← HX.out, HZ.out]; exact HZC.out; exact HU.out j (by omega)⟩, by repeat (first | exact Drawn0.refl _ | apply Drawn0.step)⟩
   have h := HR.out
   have HZC := Aside0.mk (show zc z = false by unfold zc; simp; omega)
   have t39 : decide (z ≥ 97) = false := decide_eq_false (by omega)
   have t40 : decide (z ≥ 65) = false := decide_eq_false (by omega)
   have t41 : decide (z ≥ 48) = false := decide_eq_false (by omega)
   have t_ := idx z HR.out.1 HR.out.2
   rw [show decide (¬ (z = 47 ∨ z = 95 ∨ z = 45 ∨ z = 43)) = true from decide_eq_true (by omega)] at t_
   clear a b c h c47 c45 c43
   go_wp2_with (go_at_call 128; refine (Shelf.strings_IndexByte ⟨#[47, 95, 45, 43]⟩ z _).mono ?_; rintro e w' ⟨rfl, rfl⟩)
   go_ret
   exact ⟨by rw [zn_no (s := s) (j := i) (by have := HI.out; omega) (by rw [← HX.out, HZ.out]; exact HZC.out)] <;> rfl, by repeat (first | exact Drawn0.refl _ | apply Drawn0.step)⟩
end Go.Proofs.YtfdcldjoncednaaGreat.Zn
