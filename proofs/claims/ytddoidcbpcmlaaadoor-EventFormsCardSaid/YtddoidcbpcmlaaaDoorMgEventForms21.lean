/- Texts of this claim, merged: RefFd, RecS, RecN. -/
import Derived.Test.YtddoidcbpcmlaaaDoorMgEventForms13
import Derived.Test.YtddoidcbpcmlaaaDoorMgEventForms14
import Derived.Test.YtddoidcbpcmlaaaDoorMgEventForms18
import Derived.Test.YtddoidcbpcmlaaaDoorMgEventForms20
import Derived.Test.YtddoidcbpcmlaaaDoorMgEventForms1
import Derived.Test.YtddoidcbpcmlaaaDoorMgEventForms2
import Derived.Test.YtddoidcbpcmlaaaDoorMgEventForms4
import Derived.Test.YtddoidcbpcmlaaaDoorMgEventForms5
import Derived.Test.YtddoidcbpcmlaaaDoorMgEventForms6
import Derived.Test.YtddoidcbpcmlaaaDoorMgEventForms12
import Derived.Lib.Hide
import Derived.Deep.LoopGhost
/- trystref12.Formed: is a rule as the document says? (Written by gen_refform.py.) -/
namespace Go.Proofs.YtddoidcbpcmlaaaDoor.RefF
open Go.RowKit Go.Proofs.YtddoidcbpcmlaaaDoorW.PrintWords Go.Proofs.YtddoidcbpcmlaaaDoorW.PrintLast Go.Proofs.YtddoidcbpcmlaaaDoorW.PrintMore Go.Proofs.YtddoidcbpcmlaaaDoor.M Go.Proofs.YtddoidcbpcmlaaaDoor.Ru
set_option linter.unusedVariables false
set_option linter.unusedSimpArgs false
def LL (r : Ru) : Nat → List Int
 | 0 => r.l8
 | 1 => r.l9
 | 2 => r.l10
 | 3 => r.l12
 | 4 => r.l13
 | 5 => r.l14
 | 6 => r.l15
 | _ => r.l16
def LA (p : Rp) : Nat → Option Addr
 | 0 => p.A8
 | 1 => p.A9
 | 2 => p.A10
 | 3 => p.A12
 | 4 => p.A13
 | 5 => p.A14
 | 6 => p.A15
 | _ => p.A16
def LC (p : Rp) : Nat → Nat
 | 0 => p.c8
 | 1 => p.c9
 | 2 => p.c10
 | 3 => p.c12
 | 4 => p.c13
 | 5 => p.c14
 | 6 => p.c15
 | _ => p.c16
def lo : Nat → Int
 | 0 => 0
 | 1 => 0
 | 2 => 0
 | 3 => (-31)
 | 4 => (-366)
 | 5 => (-53)
 | 6 => 1
 | _ => (-366)
def hi : Nat → Int
 | 0 => 59
 | 1 => 59
 | 2 => 23
 | 3 => 31
 | 4 => 366
 | 5 => 53
 | 6 => 12
 | _ => 366
def nz : Nat → Bool
 | 0 => false
 | 1 => false
 | 2 => false
 | 3 => true
 | 4 => true
 | 5 => true
 | 6 => false
 | _ => true
abbrev arr (r : Ru) (p : Rp) : Array Value := #[.slice p.A8 r.l8.length p.c8, .slice p.A9 r.l9.length p.c9, .slice p.A10 r.l10.length p.c10, .slice p.A12 r.l12.length p.c12, .slice p.A13 r.l13.length p.c13, .slice p.A14 r.l14.length p.c14, .slice p.A15 r.l15.length p.c15, .slice p.A16 r.l16.length p.c16]
abbrev aobj (r : Ru) (p : Rp) : Obj := .cells (arr r p) 81 (0, 0)
theorem arr_at {r : Ru} {p : Rp} {w : World} {g : Nat} (h : w.heap[g]? = some (aobj r p)) (i : Nat) (hi' : i < 8) : w.cell? ⟨g, i, none⟩ = some (.slice (LA p i) (LL r i).length (LC p i)) := by
 match i, hi' with
 | 0, _ => exact (blk_cell h 0).trans rfl
 | 1, _ => exact (blk_cell h 1).trans rfl
 | 2, _ => exact (blk_cell h 2).trans rfl
 | 3, _ => exact (blk_cell h 3).trans rfl
 | 4, _ => exact (blk_cell h 4).trans rfl
 | 5, _ => exact (blk_cell h 5).trans rfl
 | 6, _ => exact (blk_cell h 6).trans rfl
 | 7, _ => exact (blk_cell h 7).trans rfl
 | n + 8, h => exact absurd h (by omega)
theorem ok_at {r : Ru} {p : Rp} {w : World} (h : Ok r p w) (i : Nat) : Kd.C (Kd.int .i64) w (LA p i) (LL r i).length (LL r i) := by
 match i with
 | 0 => exact h.h8
 | 1 => exact h.h9
 | 2 => exact h.h10
 | 3 => exact h.h12
 | 4 => exact h.h13
 | 5 => exact h.h14
 | 6 => exact h.h15
 | 7 => exact h.h16
 | n + 8 => exact h.h16
/-- May a number be in the list i? -/
def mayP (i : Nat) (n : Int) : Bool := RecM.mayF (lo i) (hi i) (nz i) n
theorem may_ (i : Nat) (hi' : i < 8) (n : Int) : trystref12_may.f 3 (i : Int) n = some (mayP i n) := by
 match i, hi' with
 | 0, _ =>
  unfold mayP RecM.mayF lo hi nz trystref12_may.f
  simp [trystref12_may.j0]
  all_goals (try (by_cases e : n = 0 <;> by_cases e2 : 0 ≤ n <;> simp [e, e2]))
 | 1, _ =>
  unfold mayP RecM.mayF lo hi nz trystref12_may.f
  simp [trystref12_may.j0]
  all_goals (try (by_cases e : n = 0 <;> by_cases e2 : 0 ≤ n <;> simp [e, e2]))
 | 2, _ =>
  unfold mayP RecM.mayF lo hi nz trystref12_may.f
  simp [trystref12_may.j0]
  all_goals (try (by_cases e : n = 0 <;> by_cases e2 : 0 ≤ n <;> simp [e, e2]))
 | 3, _ =>
  unfold mayP RecM.mayF lo hi nz trystref12_may.f
  simp [trystref12_may.j0]
  all_goals (try (by_cases e : n = 0 <;> by_cases e2 : (-31) ≤ n <;> simp [e, e2]))
 | 4, _ =>
  unfold mayP RecM.mayF lo hi nz trystref12_may.f
  simp [trystref12_may.j0]
  all_goals (try (by_cases e : n = 0 <;> by_cases e2 : (-366) ≤ n <;> simp [e, e2]))
 | 5, _ =>
  unfold mayP RecM.mayF lo hi nz trystref12_may.f
  simp [trystref12_may.j0]
  all_goals (try (by_cases e : n = 0 <;> by_cases e2 : (-53) ≤ n <;> simp [e, e2]))
 | 6, _ =>
  unfold mayP RecM.mayF lo hi nz trystref12_may.f
  simp [trystref12_may.j0]
  all_goals (try (by_cases e : n = 0 <;> by_cases e2 : 1 ≤ n <;> simp [e, e2]))
 | 7, _ =>
  unfold mayP RecM.mayF lo hi nz trystref12_may.f
  simp [trystref12_may.j0]
  all_goals (try (by_cases e : n = 0 <;> by_cases e2 : (-366) ≤ n <;> simp [e, e2]))
 | n + 8, h => exact absurd h (by omega)
def formL (r : Ru) (i : Nat) : Bool := RecM.formedF (lo i) (hi i) (nz i) (LL r i)
attribute [irreducible] LL LA LC lo hi nz mayP
/-- May a weekday be in a list? -/
def mayDayP (n d : Int) : Bool := decide (d ≥ 0) && decide (d ≤ 6) && decide (n ≥ -53) && decide (n ≤ 53)
theorem mayDay_ (n d : Int) : trystref12_mayDay.f n d = some (mayDayP n d) := by
 unfold trystref12_mayDay.f mayDayP
 by_cases a : d ≥ 0 <;> by_cases b : d ≤ 6 <;> by_cases c : n ≥ -53 <;> simp [a, b, c]
def beforeP (n d n' d' : Int) : Bool := decide (d < d') || (decide (d = d') && decide (n < n'))
theorem before_ (n d n' d' : Int) : trystref12_before.f n d n' d' = some (beforeP n d n' d') := by
 unfold trystref12_before.f beforeP
 by_cases a : d < d' <;> by_cases b : d = d' <;> simp [a, b]
abbrev wd (l : List S101) (j : Int) : S101 := rd_T101 l j
def dayAt (l : List S101) (j : Nat) : Prop := mayDayP (wd l (j : Int)).f0 (wd l (j : Int)).f1 = true ∧ (0 < j → beforeP (wd l ((j - 1 : Nat) : Int)).f0 (wd l ((j - 1 : Nat) : Int)).f1 (wd l (j : Int)).f0 (wd l (j : Int)).f1 = true)
def dayU (l : List S101) (i : Nat) : Prop := ∀ j, j < i → dayAt l j
def daysB (l : List S101) : Bool := (List.range l.length).all fun j => mayDayP (wd l (j : Int)).f0 (wd l (j : Int)).f1 && (decide (j = 0) || beforeP (wd l ((j - 1 : Nat) : Int)).f0 (wd l ((j - 1 : Nat) : Int)).f1 (wd l (j : Int)).f0 (wd l (j : Int)).f1)
theorem daysB_iff (l : List S101) : daysB l = true ↔ dayU l l.length := by
 unfold daysB dayU dayAt
 simp only [List.all_eq_true, List.mem_range, Bool.and_eq_true, Bool.or_eq_true, decide_eq_true_eq]
 constructor
 ·intro h j hj
  exact ⟨(h j hj).1, fun q => by rcases (h j hj).2 with e | e; omega; exact e⟩
 ·intro h j hj
  exact ⟨(h j hj).1, by by_cases q : j = 0; exact Or.inl q; exact Or.inr ((h j hj).2 (by omega))⟩
theorem daysB_not {l : List S101} {j : Nat} (hj : j < l.length) (h : ¬ dayAt l j) : daysB l = false := RecM.not_true fun q => h ((daysB_iff l).1 q j hj)
def nthU (l : List S101) (i : Nat) : Bool := (List.range i).any fun j => (wd l (j : Int)).f0 != 0
theorem nthU_succ (l : List S101) (i : Nat) : nthU l (i + 1) = (nthU l i || ((wd l (i : Int)).f0 != 0)) := by
 unfold nthU; rw [List.range_succ, List.any_append]; simp
/-- The guards on a rule's numbers. -/
def grd (r : Ru) : Bool := !(decide (r.a0 < 1)) && !(decide (r.a0 > 4)) && !(decide (r.a1 < 1)) && !(decide (r.a1 > 1000)) && !(decide (r.a2 < 0)) && !(decide (r.a2 > 1000)) && !(decide (r.a7 < 0)) && !(decide (r.a7 > 6)) && !(decide (r.l11.length > 40))
/-- The end is as it should be (rt: its time is right). -/
def untl (r : Ru) (rt : Bool) : Bool := if r.a6 = true then decide (r.a2 = 0) && (rt && decide (r.a3 ≠ 3)) else (r.a3 == 0 && (r.a4 == 0 && (r.a5.toList == ([] : List UInt8))))
def all8 (r : Ru) : Bool := formL r 0 && formL r 1 && formL r 2 && formL r 3 && formL r 4 && formL r 5 && formL r 6 && formL r 7
theorem all8_yes {r : Ru} (h : ∀ j, j < 8 → formL r j = true) : all8 r = true := by
 unfold all8; rw [h 0 (by omega), h 1 (by omega), h 2 (by omega), h 3 (by omega), h 4 (by omega), h 5 (by omega), h 6 (by omega), h 7 (by omega)]; rfl
theorem all8_at {r : Ru} (h : all8 r = true) (j : Nat) (hj : j < 8) : formL r j = true := by
 unfold all8 at h
 simp only [Bool.and_eq_true] at h
 obtain ⟨⟨⟨⟨⟨⟨⟨h0, h1⟩, h2⟩, h3⟩, h4⟩, h5⟩, h6⟩, h7⟩ := h
 match j, hj with
 | 0, _ => exact h0
 | 1, _ => exact h1
 | 2, _ => exact h2
 | 3, _ => exact h3
 | 4, _ => exact h4
 | 5, _ => exact h5
 | 6, _ => exact h6
 | 7, _ => exact h7
 | n + 8, h => exact absurd h (by omega)
theorem all8_not {r : Ru} {j : Nat} (hj : j < 8) (h : formL r j = false) : all8 r = false := by
 unfold all8
 match j, hj with
 | 0, _ => rw [h]; simp
 | 1, _ => rw [h]; simp
 | 2, _ => rw [h]; simp
 | 3, _ => rw [h]; simp
 | 4, _ => rw [h]; simp
 | 5, _ => rw [h]; simp
 | 6, _ => rw [h]; simp
 | 7, _ => rw [h]; simp
 | n + 8, h => exact absurd h (by omega)
def oth (r : Ru) : Nat → Int
 | 0 => (r.l11.length : Int)
 | i + 1 => oth r i + (if i < 7 then ((LL r i).length : Int) else 0)
def last (r : Ru) (o : Int) : Bool := !((decide (r.a0 ≠ 4) && decide (((r.l13.length + r.l14.length : Nat) : Int) > 0)) || (decide (r.a0 = 2) && decide ((r.l12.length : Int) > 0)) || (decide ((r.l16.length : Int) > 0) && decide (o = 0))) && (!(nthU r.l11 r.l11.length) || decide (r.a0 = 3) || (decide (r.a0 = 4) && decide ((r.l14.length : Int) = 0)))
end Go.Proofs.YtddoidcbpcmlaaaDoor.RefF
/- recur.Lists: how many of a rule's lists aren't empty. (Written by gen_recform.py.) -/
namespace Go.Proofs.YtddoidcbpcmlaaaDoor.RecS
open Go.RowKit Go.Proofs.YtddoidcbpcmlaaaDoorW.PrintWords Go.Proofs.YtddoidcbpcmlaaaDoorW.PrintLast Go.Proofs.YtddoidcbpcmlaaaDoorW.PrintMore Go.Proofs.YtddoidcbpcmlaaaDoor.M Go.Proofs.YtddoidcbpcmlaaaDoor.RecL
set_option linter.unusedVariables false
set_option linter.unusedSimpArgs false
/-- One, if there are any. -/
def m1 (n : Nat) : Int := if (n : Int) < 1 then (n : Int) else 1
theorem min1 (n : Nat) : Builtin.min2 (.int .i64 1) (.int .i64 (n : Int)) = pure (.int .i64 (m1 n)) := by rw [min2_int]; rfl
attribute [irreducible] m1
attribute [local go_sem] min1 min_two
theorem m1_bd (n : Nat) : 0 ≤ m1 n ∧ m1 n ≤ 1 := by unfold m1; split <;> omega
/-- How many of the first so many aren't empty. -/
def sm (l8 l9 l10 l12 l13 l14 l15 l16 : Nat) (i : Nat) : Int := (if 0 < i then m1 l8 else 0) + (if 1 < i then m1 l9 else 0) + (if 2 < i then m1 l10 else 0) + (if 3 < i then m1 l12 else 0) + (if 4 < i then m1 l13 else 0) + (if 5 < i then m1 l14 else 0) + (if 6 < i then m1 l15 else 0) + (if 7 < i then m1 l16 else 0)
def listsF (l8 l9 l10 l11 l12 l13 l14 l15 l16 : Nat) : Int := sm l8 l9 l10 l12 l13 l14 l15 l16 8 + m1 l11
/-- A row of a rule's lists: the cells of one. -/
theorem at_ {B g : Nat} {w : World} (h : ∀ j v, ((C1 B).toList ++ (C2 B).toList)[j]? = some v → w.cell? ⟨g, j, none⟩ = some v) (j : Nat) (v : Value) (e : ((C1 B).toList ++ (C2 B).toList)[j]? = some v) : w.cell? ⟨g, j, none⟩ = some v := h j v e
set_option maxHeartbeats 8000000 in
set_option maxRecDepth 100000 in
theorem lists_ (a0 : Int) (a1 : Int) (a2 : Int) (a3 : Int) (a4 : Int) (a5 : ByteArray) (a6 : Bool) (a7 : Int) (A8 : Option Addr) (c8 : Nat) (l8 : List Int) (A9 : Option Addr) (c9 : Nat) (l9 : List Int) (A10 : Option Addr) (c10 : Nat) (l10 : List Int) (A11 : Option Addr) (c11 : Nat) (l11 : List S101) (A12 : Option Addr) (c12 : Nat) (l12 : List Int) (A13 : Option Addr) (c13 : Nat) (l13 : List Int) (A14 : Option Addr) (c14 : Nat) (l14 : List Int) (A15 : Option Addr) (c15 : Nat) (l15 : List Int) (A16 : Option Addr) (c16 : Nat) (l16 : List Int) (w : World) :
  Calls Tryd.prog 83 #[.agg #[.int .i64 a0, .int .i64 a1, .int .i64 a2, .int .i64 a3, .int .i64 a4, .string a5, .bool a6, .int .i64 a7, .slice A8 l8.length c8, .slice A9 l9.length c9, .slice A10 l10.length c10, .slice A11 l11.length c11, .slice A12 l12.length c12, .slice A13 l13.length c13, .slice A14 l14.length c14, .slice A15 l15.length c15, .slice A16 l16.length c16]] w fun e w' => e = .returned (.int .i64 (listsF l8.length l9.length l10.length l11.length l12.length l13.length l14.length l15.length l16.length)) ∧ Below w.heap.size w w' := by
 have hK0 : (w.alloc (.cells #[.int .i64 a0, .int .i64 a1, .int .i64 a2, .int .i64 a3, .int .i64 a4, .string a5, .bool a6, .int .i64 a7, .slice A8 l8.length c8, .slice A9 l9.length c9, .slice A10 l10.length c10, .slice A11 l11.length c11, .slice A12 l12.length c12, .slice A13 l13.length c13, .slice A14 l14.length c14, .slice A15 l15.length c15, .slice A16 l16.length c16] 27 (0, 0))).heap[w.heap.size]? = some (.cells #[.int .i64 a0, .int .i64 a1, .int .i64 a2, .int .i64 a3, .int .i64 a4, .string a5, .bool a6, .int .i64 a7, .slice A8 l8.length c8, .slice A9 l9.length c9, .slice A10 l10.length c10, .slice A11 l11.length c11, .slice A12 l12.length c12, .slice A13 l13.length c13, .slice A14 l14.length c14, .slice A15 l15.length c15, .slice A16 l16.length c16] 27 (0, 0)) := blk_new w _
 have HK := Aside0.mk hK0
 have HB := Aside0.mk (below_alloc (Below.refl w.heap.size w) (.cells #[.int .i64 a0, .int .i64 a1, .int .i64 a2, .int .i64 a3, .int .i64 a4, .string a5, .bool a6, .int .i64 a7, .slice A8 l8.length c8, .slice A9 l9.length c9, .slice A10 l10.length c10, .slice A11 l11.length c11, .slice A12 l12.length c12, .slice A13 l13.length c13, .slice A14 l14.length c14, .slice A15 l15.length c15, .slice A16 l16.length c16] 27 (0, 0)))
 clear hK0
 go_enter Tryd.func83, Tryd.ntmps83
 go_wp2_with fail
 generalize w.alloc (.cells #[.int .i64 a0, .int .i64 a1, .int .i64 a2, .int .i64 a3, .int .i64 a4, .string a5, .bool a6, .int .i64 a7, .slice A8 l8.length c8, .slice A9 l9.length c9, .slice A10 l10.length c10, .slice A11 l11.length c11, .slice A12 l12.length c12, .slice A13 l13.length c13, .slice A14 l14.length c14, .slice A15 l15.length c15, .slice A16 l16.length c16] 27 (0, 0)) = w0 at HK HB ⊢
 generalize hB : w.heap.size = B at HK ⊢
 refine (RecA.all B w0).mono ?_
 rintro e w1 ⟨g, cap, rfl, hg, hat, hb⟩
 have HT := Aside0.mk hat
 replace HK := Aside0.mk (blk_below HK.out hb)
 replace HB := Aside0.mk (below_then HB.out HB.out.size hb)
 clear hat hb hg
 go_wp2_with fail
 go_loopg [3, 8] 8 (fun kq vn vi w' => ∃ (i : Nat) (n x : Int), vn = .int .i64 n ∧ vi = .int .i64 x ∧ Aside0 (n = sm l8.length l9.length l10.length l12.length l13.length l14.length l15.length l16.length i) ∧ Aside0 (x = (i : Int)) ∧ Aside0 (i + kq = 8) ∧ Aside0 (∀ j v, ((C1 B).toList ++ (C2 B).toList)[j]? = some v → w'.cell? ⟨g, j, none⟩ = some v) ∧ Aside0 (w'.heap[B]? = some (.cells #[.int .i64 a0, .int .i64 a1, .int .i64 a2, .int .i64 a3, .int .i64 a4, .string a5, .bool a6, .int .i64 a7, .slice A8 l8.length c8, .slice A9 l9.length c9, .slice A10 l10.length c10, .slice A11 l11.length c11, .slice A12 l12.length c12, .slice A13 l13.length c13, .slice A14 l14.length c14, .slice A15 l15.length c15, .slice A16 l16.length c16] 27 (0, 0))) ∧ Aside0 (Below w.heap.size w w'))
 case atStart => exact ⟨0, 0, 0, rfl, rfl, ⟨by simp [sm]⟩, ⟨rfl⟩, ⟨rfl⟩, HT, HK, HB⟩
 case round =>
  clear HT HK HB
  obtain ⟨i, n, x, rfl, rfl, HN, HX, HI, HT, HK, HB⟩ := hrel
  cases gk with
  | zero =>
   obtain rfl : i = 8 := by have := HI.out; omega
   obtain rfl : x = 8 := HX.out
   have k11 := (blk_cell HK.out 11).trans rfl
   go_wp2_with fail
   go_ret
   have e : wrap64 (n + m1 l11.length) = listsF l8.length l9.length l10.length l11.length l12.length l13.length l14.length l15.length l16.length := by have := m1_bd l8.length; have := m1_bd l9.length; have := m1_bd l10.length; have := m1_bd l11.length; have := m1_bd l12.length; have := m1_bd l13.length; have := m1_bd l14.length; have := m1_bd l15.length; have := m1_bd l16.length; rw [HN.out]; unfold listsF sm wrap64; simp; omega
   exact ⟨by rw [← e] <;> rfl, hB ▸ HB.out⟩
  | succ k1 =>
   have hi : i = 0 ∨ i = 1 ∨ i = 2 ∨ i = 3 ∨ i = 4 ∨ i = 5 ∨ i = 6 ∨ i = 7 := by have := HI.out; omega
   rcases hi with rfl | rfl | rfl | rfl | rfl | rfl | rfl | rfl
   ·obtain rfl : x = 0 := HX.out
    have e0 := at_ HT.out 0 (.string ⟨#[66, 89, 83, 69, 67, 79, 78, 68]⟩) rfl
    have e1 := at_ HT.out 1 (.pointer (some ⟨B, 8, none⟩)) rfl
    have e2 := at_ HT.out 2 (.int .i64 0) rfl
    have e3 := at_ HT.out 3 (.int .i64 59) rfl
    have e4 := at_ HT.out 4 (.bool false) rfl
    have kk : wr.cell? ⟨B, 8, none⟩ = some (.slice A8 l8.length c8) := (blk_cell HK.out 8).trans rfl
    have kA : ∀ ob, (wr.alloc ob).cell? ⟨B, 8, none⟩ = some (.slice A8 l8.length c8) := fun ob => pw_cell_below (below_alloc (Below.refl _ _) ob) kk
    clear kk
    go_wp2_with fail
    go_roundg k1
    case measure => omega
    case rel => exact ⟨1, _, _, rfl, rfl, ⟨by have := m1_bd l8.length; have := m1_bd l9.length; have := m1_bd l10.length; have := m1_bd l12.length; have := m1_bd l13.length; have := m1_bd l14.length; have := m1_bd l15.length; have := m1_bd l16.length; rw [HN.out]; unfold sm wrap64; simp; omega⟩, ⟨rfl⟩, ⟨by have := HI.out; omega⟩, ⟨fun j v e => pw_cell_below (below_alloc (Below.refl _ _) _) (HT.out j v e)⟩, ⟨blk_below HK.out (below_alloc (Below.refl _ _) _)⟩, ⟨below_alloc HB.out _⟩⟩
   ·obtain rfl : x = 1 := HX.out
    have e0 := at_ HT.out 5 (.string ⟨#[66, 89, 77, 73, 78, 85, 84, 69]⟩) rfl
    have e1 := at_ HT.out 6 (.pointer (some ⟨B, 9, none⟩)) rfl
    have e2 := at_ HT.out 7 (.int .i64 0) rfl
    have e3 := at_ HT.out 8 (.int .i64 59) rfl
    have e4 := at_ HT.out 9 (.bool false) rfl
    have kk : wr.cell? ⟨B, 9, none⟩ = some (.slice A9 l9.length c9) := (blk_cell HK.out 9).trans rfl
    have kA : ∀ ob, (wr.alloc ob).cell? ⟨B, 9, none⟩ = some (.slice A9 l9.length c9) := fun ob => pw_cell_below (below_alloc (Below.refl _ _) ob) kk
    clear kk
    go_wp2_with fail
    go_roundg k1
    case measure => omega
    case rel => exact ⟨2, _, _, rfl, rfl, ⟨by have := m1_bd l8.length; have := m1_bd l9.length; have := m1_bd l10.length; have := m1_bd l12.length; have := m1_bd l13.length; have := m1_bd l14.length; have := m1_bd l15.length; have := m1_bd l16.length; rw [HN.out]; unfold sm wrap64; simp; omega⟩, ⟨rfl⟩, ⟨by have := HI.out; omega⟩, ⟨fun j v e => pw_cell_below (below_alloc (Below.refl _ _) _) (HT.out j v e)⟩, ⟨blk_below HK.out (below_alloc (Below.refl _ _) _)⟩, ⟨below_alloc HB.out _⟩⟩
   ·obtain rfl : x = 2 := HX.out
    have e0 := at_ HT.out 10 (.string ⟨#[66, 89, 72, 79, 85, 82]⟩) rfl
    have e1 := at_ HT.out 11 (.pointer (some ⟨B, 10, none⟩)) rfl
    have e2 := at_ HT.out 12 (.int .i64 0) rfl
    have e3 := at_ HT.out 13 (.int .i64 23) rfl
    have e4 := at_ HT.out 14 (.bool false) rfl
    have kk : wr.cell? ⟨B, 10, none⟩ = some (.slice A10 l10.length c10) := (blk_cell HK.out 10).trans rfl
    have kA : ∀ ob, (wr.alloc ob).cell? ⟨B, 10, none⟩ = some (.slice A10 l10.length c10) := fun ob => pw_cell_below (below_alloc (Below.refl _ _) ob) kk
    clear kk
    go_wp2_with fail
    go_roundg k1
    case measure => omega
    case rel => exact ⟨3, _, _, rfl, rfl, ⟨by have := m1_bd l8.length; have := m1_bd l9.length; have := m1_bd l10.length; have := m1_bd l12.length; have := m1_bd l13.length; have := m1_bd l14.length; have := m1_bd l15.length; have := m1_bd l16.length; rw [HN.out]; unfold sm wrap64; simp; omega⟩, ⟨rfl⟩, ⟨by have := HI.out; omega⟩, ⟨fun j v e => pw_cell_below (below_alloc (Below.refl _ _) _) (HT.out j v e)⟩, ⟨blk_below HK.out (below_alloc (Below.refl _ _) _)⟩, ⟨below_alloc HB.out _⟩⟩
   ·obtain rfl : x = 3 := HX.out
    have e0 := at_ HT.out 15 (.string ⟨#[66, 89, 77, 79, 78, 84, 72, 68, 65, 89]⟩) rfl
    have e1 := at_ HT.out 16 (.pointer (some ⟨B, 12, none⟩)) rfl
    have e2 := at_ HT.out 17 (.int .i64 (-31)) rfl
    have e3 := at_ HT.out 18 (.int .i64 31) rfl
    have e4 := at_ HT.out 19 (.bool true) rfl
    have kk : wr.cell? ⟨B, 12, none⟩ = some (.slice A12 l12.length c12) := (blk_cell HK.out 12).trans rfl
    have kA : ∀ ob, (wr.alloc ob).cell? ⟨B, 12, none⟩ = some (.slice A12 l12.length c12) := fun ob => pw_cell_below (below_alloc (Below.refl _ _) ob) kk
    clear kk
    go_wp2_with fail
    go_roundg k1
    case measure => omega
    case rel => exact ⟨4, _, _, rfl, rfl, ⟨by have := m1_bd l8.length; have := m1_bd l9.length; have := m1_bd l10.length; have := m1_bd l12.length; have := m1_bd l13.length; have := m1_bd l14.length; have := m1_bd l15.length; have := m1_bd l16.length; rw [HN.out]; unfold sm wrap64; simp; omega⟩, ⟨rfl⟩, ⟨by have := HI.out; omega⟩, ⟨fun j v e => pw_cell_below (below_alloc (Below.refl _ _) _) (HT.out j v e)⟩, ⟨blk_below HK.out (below_alloc (Below.refl _ _) _)⟩, ⟨below_alloc HB.out _⟩⟩
   ·obtain rfl : x = 4 := HX.out
    have e0 := at_ HT.out 20 (.string ⟨#[66, 89, 89, 69, 65, 82, 68, 65, 89]⟩) rfl
    have e1 := at_ HT.out 21 (.pointer (some ⟨B, 13, none⟩)) rfl
    have e2 := at_ HT.out 22 (.int .i64 (-366)) rfl
    have e3 := at_ HT.out 23 (.int .i64 366) rfl
    have e4 := at_ HT.out 24 (.bool true) rfl
    have kk : wr.cell? ⟨B, 13, none⟩ = some (.slice A13 l13.length c13) := (blk_cell HK.out 13).trans rfl
    have kA : ∀ ob, (wr.alloc ob).cell? ⟨B, 13, none⟩ = some (.slice A13 l13.length c13) := fun ob => pw_cell_below (below_alloc (Below.refl _ _) ob) kk
    clear kk
    go_wp2_with fail
    go_roundg k1
    case measure => omega
    case rel => exact ⟨5, _, _, rfl, rfl, ⟨by have := m1_bd l8.length; have := m1_bd l9.length; have := m1_bd l10.length; have := m1_bd l12.length; have := m1_bd l13.length; have := m1_bd l14.length; have := m1_bd l15.length; have := m1_bd l16.length; rw [HN.out]; unfold sm wrap64; simp; omega⟩, ⟨rfl⟩, ⟨by have := HI.out; omega⟩, ⟨fun j v e => pw_cell_below (below_alloc (Below.refl _ _) _) (HT.out j v e)⟩, ⟨blk_below HK.out (below_alloc (Below.refl _ _) _)⟩, ⟨below_alloc HB.out _⟩⟩
   ·obtain rfl : x = 5 := HX.out
    have e0 := at_ HT.out 25 (.string ⟨#[66, 89, 87, 69, 69, 75, 78, 79]⟩) rfl
    have e1 := at_ HT.out 26 (.pointer (some ⟨B, 14, none⟩)) rfl
    have e2 := at_ HT.out 27 (.int .i64 (-53)) rfl
    have e3 := at_ HT.out 28 (.int .i64 53) rfl
    have e4 := at_ HT.out 29 (.bool true) rfl
    have kk : wr.cell? ⟨B, 14, none⟩ = some (.slice A14 l14.length c14) := (blk_cell HK.out 14).trans rfl
    have kA : ∀ ob, (wr.alloc ob).cell? ⟨B, 14, none⟩ = some (.slice A14 l14.length c14) := fun ob => pw_cell_below (below_alloc (Below.refl _ _) ob) kk
    clear kk
    go_wp2_with fail
    go_roundg k1
    case measure => omega
    case rel => exact ⟨6, _, _, rfl, rfl, ⟨by have := m1_bd l8.length; have := m1_bd l9.length; have := m1_bd l10.length; have := m1_bd l12.length; have := m1_bd l13.length; have := m1_bd l14.length; have := m1_bd l15.length; have := m1_bd l16.length; rw [HN.out]; unfold sm wrap64; simp; omega⟩, ⟨rfl⟩, ⟨by have := HI.out; omega⟩, ⟨fun j v e => pw_cell_below (below_alloc (Below.refl _ _) _) (HT.out j v e)⟩, ⟨blk_below HK.out (below_alloc (Below.refl _ _) _)⟩, ⟨below_alloc HB.out _⟩⟩
   ·obtain rfl : x = 6 := HX.out
    have e0 := at_ HT.out 30 (.string ⟨#[66, 89, 77, 79, 78, 84, 72]⟩) rfl
    have e1 := at_ HT.out 31 (.pointer (some ⟨B, 15, none⟩)) rfl
    have e2 := at_ HT.out 32 (.int .i64 1) rfl
    have e3 := at_ HT.out 33 (.int .i64 12) rfl
    have e4 := at_ HT.out 34 (.bool false) rfl
    have kk : wr.cell? ⟨B, 15, none⟩ = some (.slice A15 l15.length c15) := (blk_cell HK.out 15).trans rfl
    have kA : ∀ ob, (wr.alloc ob).cell? ⟨B, 15, none⟩ = some (.slice A15 l15.length c15) := fun ob => pw_cell_below (below_alloc (Below.refl _ _) ob) kk
    clear kk
    go_wp2_with fail
    go_roundg k1
    case measure => omega
    case rel => exact ⟨7, _, _, rfl, rfl, ⟨by have := m1_bd l8.length; have := m1_bd l9.length; have := m1_bd l10.length; have := m1_bd l12.length; have := m1_bd l13.length; have := m1_bd l14.length; have := m1_bd l15.length; have := m1_bd l16.length; rw [HN.out]; unfold sm wrap64; simp; omega⟩, ⟨rfl⟩, ⟨by have := HI.out; omega⟩, ⟨fun j v e => pw_cell_below (below_alloc (Below.refl _ _) _) (HT.out j v e)⟩, ⟨blk_below HK.out (below_alloc (Below.refl _ _) _)⟩, ⟨below_alloc HB.out _⟩⟩
   ·obtain rfl : x = 7 := HX.out
    have e0 := at_ HT.out 35 (.string ⟨#[66, 89, 83, 69, 84, 80, 79, 83]⟩) rfl
    have e1 := at_ HT.out 36 (.pointer (some ⟨B, 16, none⟩)) rfl
    have e2 := at_ HT.out 37 (.int .i64 (-366)) rfl
    have e3 := at_ HT.out 38 (.int .i64 366) rfl
    have e4 := at_ HT.out 39 (.bool true) rfl
    have kk : wr.cell? ⟨B, 16, none⟩ = some (.slice A16 l16.length c16) := (blk_cell HK.out 16).trans rfl
    have kA : ∀ ob, (wr.alloc ob).cell? ⟨B, 16, none⟩ = some (.slice A16 l16.length c16) := fun ob => pw_cell_below (below_alloc (Below.refl _ _) ob) kk
    clear kk
    go_wp2_with fail
    go_roundg k1
    case measure => omega
    case rel => exact ⟨8, _, _, rfl, rfl, ⟨by have := m1_bd l8.length; have := m1_bd l9.length; have := m1_bd l10.length; have := m1_bd l12.length; have := m1_bd l13.length; have := m1_bd l14.length; have := m1_bd l15.length; have := m1_bd l16.length; rw [HN.out]; unfold sm wrap64; simp; omega⟩, ⟨rfl⟩, ⟨by have := HI.out; omega⟩, ⟨fun j v e => pw_cell_below (below_alloc (Below.refl _ _) _) (HT.out j v e)⟩, ⟨blk_below HK.out (below_alloc (Below.refl _ _) _)⟩, ⟨below_alloc HB.out _⟩⟩
end Go.Proofs.YtddoidcbpcmlaaaDoor.RecS
/- recur.nth: has one of the weekdays a number? (slices.ContainsFunc with a function of no variables.) -/
namespace Go.Proofs.YtddoidcbpcmlaaaDoor.RecN
open Go.RowKit Go.Proofs.YtddoidcbpcmlaaaDoorW.PrintWords Go.Proofs.YtddoidcbpcmlaaaDoorW.PrintLast Go.Proofs.YtddoidcbpcmlaaaDoor.M
set_option linter.unusedVariables false
set_option linter.unusedSimpArgs false
set_option maxHeartbeats 4000000 in
set_option maxRecDepth 100000 in
theorem one (n d : Int) (w : World) : Calls Tryd.prog 96 #[.agg #[.int .i64 n, .int .i64 d]] w fun e w' => e = .returned (.bool (n != 0)) ∧ Below w.heap.size w w' := by
 go_enter Tryd.func96, Tryd.ntmps96
 go_wp2_with fail
 go_ret
 exact ⟨rfl, by repeat (with_reducible first | exact Below.refl _ _ | apply below_drew | apply pw_below_drewN | apply below_alloc)⟩
abbrev fv : Value := .func (.func 96) #[] #[]
set_option maxHeartbeats 4000000 in
set_option maxRecDepth 100000 in
theorem idx (A : Option Addr) (c : Nat) (l : List S101) (w : World) (hC : Kd.C k101 w A l.length l) :
  Calls Tryd.prog 99 #[.slice A l.length c, fv] w fun e w' => ∃ i : Int, e = .returned (.int .i64 i) ∧ (0 ≤ i ↔ ∃ j : Nat, j < l.length ∧ (rd_T101 l (j : Int)).f0 ≠ 0) ∧ Below w.heap.size w w' := by
 have HR := Aside0.mk hC
 have HL := Aside0.mk hC.2.1
 clear hC
 go_enter Tryd.func99, Tryd.ntmps99
 go_wp2_with fail
 go_loopg [8] l.length (fun kq v w' => ∃ (i : Nat) (x : Int), v = .int .i64 x ∧ Aside0 (x = (i : Int)) ∧ Aside0 (i + kq = l.length) ∧ Aside0 (∀ j : Nat, j < i → (rd_T101 l (j : Int)).f0 = 0) ∧ Aside0 (Below w.heap.size w w'))
 case atStart => exact ⟨0, 0, rfl, ⟨rfl⟩, ⟨by omega⟩, ⟨fun j hj => by omega⟩, ⟨Below.refl _ _⟩⟩
 case round =>
  obtain ⟨i, x, rfl, HX, HI, HU, HB⟩ := hrel
  cases gk with
  | zero =>
   have l1 : decide (x < (l.length : Int)) = false := decide_eq_false (by have := HX.out; have := HI.out; omega)
   go_wp2_with fail
   go_ret
   exact ⟨-1, rfl, ⟨fun h => by omega, fun ⟨j, h1, h2⟩ => absurd (HU.out j (by have := HI.out; omega)) h2⟩, HB.out⟩
  | succ k1 =>
   have l1 : decide (x < (l.length : Int)) = true := decide_eq_true (by have := HX.out; have := HI.out; omega)
   have p1 : (0 ≤ x) = True := eq_true (by have := HX.out; omega)
   have q1 : (x < (l.length : Int)) = True := eq_true (by have := HX.out; have := HI.out; omega)
   obtain ⟨ad, eA, h0, h1⟩ := at_T101 HR.out x (by have := HX.out; omega) (by have := HX.out; have := HI.out; omega)
   replace h0 := pw_cell_below HB.out h0
   replace h1 := pw_cell_below HB.out h1
   subst eA
   go_wp2_with fail
   refine (one _ _ _).mono ?_
   rintro e w2 ⟨rfl, hB⟩
   have B2 := Aside0.mk (below_then HB.out HB.out.size hB)
   clear hB h0 h1 HB
   by_cases m : (rd_T101 l x).f0 = 0
   ·have m1 : ((rd_T101 l x).f0 != 0) = false := bne_eq_false_iff_eq.2 m
    have HM := Aside0.mk m
    clear m
    go_wp2_with fail
    go_roundg k1
    case measure => omega
    case rel => exact ⟨i + 1, _, rfl, ⟨by have := HX.out; have := HL.out; have := HI.out; unfold wrap64; omega⟩, ⟨by have := HI.out; omega⟩, ⟨fun j hj => by
     by_cases e : j = i
     ·subst e; rw [← HX.out]; exact HM.out
     ·exact HU.out j (by omega)⟩, B2⟩
   ·have m1 : ((rd_T101 l x).f0 != 0) = true := bne_iff_ne.2 m
    have HM := Aside0.mk m
    clear m
    go_wp2_with fail
    go_ret
    exact ⟨x, rfl, ⟨fun _ => ⟨i, by have := HI.out; omega, by rw [← HX.out]; exact HM.out⟩, fun _ => by have := HX.out; omega⟩, B2.out⟩
/-- Has one of the weekdays a number? -/
def nthF (l : List S101) : Bool := (List.range l.length).any fun j => (rd_T101 l (j : Int)).f0 != 0
theorem nthF_iff (l : List S101) : nthF l = true ↔ ∃ j : Nat, j < l.length ∧ (rd_T101 l (j : Int)).f0 ≠ 0 := by
 unfold nthF
 simp only [List.any_eq_true, List.mem_range, bne_iff_ne]
set_option maxHeartbeats 4000000 in
set_option maxRecDepth 100000 in
theorem cont (A : Option Addr) (c : Nat) (l : List S101) (w : World) (hC : Kd.C k101 w A l.length l) :
  Calls Tryd.prog 95 #[.slice A l.length c, fv] w fun e w' => e = .returned (.bool (nthF l)) ∧ Below w.heap.size w w' := by
 have HR := Lib.hid hC
 clear hC
 go_enter Tryd.func95, Tryd.ntmps95
 go_wp2_with fail
 refine (idx A c l _ HR.out).mono ?_
 rintro e w1 ⟨i, rfl, hi, hB⟩
 have e : nthF l = decide (i ≥ 0) := by
  rw [Bool.eq_iff_iff, nthF_iff, decide_eq_true_eq]
  exact hi.symm
 have HE := Lib.hid e
 clear e hi
 go_wp2_with fail
 go_ret
 exact ⟨by rw [HE.out] <;> rfl, hB⟩
set_option maxHeartbeats 4000000 in
set_option maxRecDepth 100000 in
theorem nth (A : Option Addr) (c : Nat) (l : List S101) (w : World) (hC : Kd.C k101 w A l.length l) :
  Calls Tryd.prog 82 #[.slice A l.length c] w fun e w' => e = .returned (.bool (nthF l)) ∧ Below w.heap.size w w' := by
 have HR := Lib.hid hC
 clear hC
 go_enter Tryd.func82, Tryd.ntmps82
 go_wp2_with fail
 refine (cont A c l _ HR.out).mono ?_
 rintro e w1 ⟨rfl, hB⟩
 go_wp2_with fail
 go_ret
 exact ⟨rfl, hB⟩
end Go.Proofs.YtddoidcbpcmlaaaDoor.RecN
