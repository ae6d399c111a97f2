/- Texts of this claim, merged: Ths, RecM, ShelfIdx. -/
import Derived.Test.YtddoidcbpcmlaaaDoorMgEventForms17
import Derived.Test.YtddoidcbpcmlaaaDoorMgEventForms9
import Derived.Test.YtddoidcbpcmlaaaDoorMgEventForms12
import Derived.Test.YtddoidcbpcmlaaaDoorMgEventForms13
import Derived.Deep.LoopGhost
import Derived.Shelf.Small.Utf8
import Derived.Shelf.Small.Strs
import Derived.Shelf.Strings.Search1
import Derived.Shelf.Strings.Prefix
import Derived.Shelf.Strings.Runes
import Derived.Shelf.Strings.IndexAny
import Derived.Shelf.Strings.AsciiSet
import Derived.Shelf.Strings.IndexAnyAll
import Derived.Ground.Names2Prog
import Derived.Shelf.Slices.SearchI
import Derived.Test.YtddoidcbpcmlaaaDoorProg
/- trystlaw18.Theirs: an event of the program's out of one of the document's: new people, new lines. (Written by gen_ths.py.) -/
namespace Go.Proofs.YtddoidcbpcmlaaaDoor.Ths
open Go.RowKit Go.Proofs.YtddoidcbpcmlaaaDoorW.PrintWords Go.Proofs.YtddoidcbpcmlaaaDoorW.PrintLast Go.Proofs.YtddoidcbpcmlaaaDoor.M Go.Proofs.YtddoidcbpcmlaaaDoor.Fr Go.Proofs.YtddoidcbpcmlaaaDoor.Clo Go.Proofs.YtddoidcbpcmlaaaDoor.Ru
open Go.Proofs.YtddoidcbpcmlaaaDoor.LinC (twoB)
open Go.Proofs.YtddoidcbpcmlaaaDoor.RecC (results_cell)
open Go.Proofs.YtddoidcbpcmlaaaDoor.SetC (range_of sagg)
open Go.Proofs.YtddoidcbpcmlaaaDoor.EvC (Ev Ep eagg OkE ze szE ldE oneE)
open Go.Proofs.YtddoidcbpcmlaaaDoor.FewL (DL LineOk thL thP OkG theirs10)
set_option linter.unusedVariables false
set_option linter.unusedSimpArgs false
def Tth1 : Bool × List (List Nat × List Nat) := (true, [([], []), ([0], [0]), ([], []), ([2], [2]), ([], []), ([4], [4]), ([], []), ([6], [6]), ([], []), ([8], [8]), ([], []), ([10], [10]), ([], []), ([12], [12]), ([], []), ([14], [14]), ([], []), ([16], [16]), ([], []), ([], []), ([19], [19]), ([18, 20], [18, 20]), ([], []), ([22], [22]), ([], []), ([24], [24]), ([], []), ([26], [26]), ([1, 3, 5, 7, 9, 11, 13, 15, 17, 21, 23, 25, 27], [1, 3, 5, 7, 9, 11, 13, 15, 17, 21, 23, 25, 27]), ([], []), ([29, 28, 21, 0, 1, 2, 3, 4, 5, 6, 7, 8, 9, 10, 11, 12, 13, 14, 15, 16, 17, 18, 19, 20, 21, 22, 23, 24, 25, 26, 27, 28, 29], [28, 29])])
def Bth1 : List Nat := [0, 1, 0, 4, 0, 16, 0, 64, 0, 256, 0, 1024, 0, 4096, 0, 16384, 0, 65536, 0, 0, 524288, 1835008, 0, 4194304, 0, 16777216, 0, 67108864, 268435455, 0, 1073741823]
theorem tabth1 : rtab .any (opsOf Tryd.f7 1) = Tth1 := by kernel_rfl
theorem bitsth1 : waitsOk Tth1.2 Bth1 = true := by kernel_rfl
def Tth5 : Bool × List (List Nat × List Nat) := (true, [([], []), ([0], [0]), ([], []), ([2], [2]), ([], []), ([3, 4], [3, 4]), ([5], [5]), ([6], [6]), ([7], [7]), ([1, 8, 7], [1, 8]), ([0, 1, 2, 3, 4, 5, 6, 7, 8, 9], []), ([10, 9, 9, 0, 1, 2, 3, 4, 5, 6, 7, 8, 9], [9, 10])])
def Bth5 : List Nat := [0, 1, 0, 4, 0, 28, 60, 124, 252, 511, 1023, 2047]
theorem tabth5 : rtab .any (opsOf Tryd.f7 5) = Tth5 := by kernel_rfl
theorem bitsth5 : waitsOk Tth5.2 Bth5 = true := by kernel_rfl
theorem xalloc {ρ : Operand → Value} {o : Oper} (hop : o.op = .alloc 41) (w : World) : (execOp ρ o).run Tryd.prog w = .ok (.value (.pointer (some ⟨w.heap.size, 0, none⟩))) (w.alloc (.cells ze 41 (0, 0))) := by
 unfold execOp
 rw [hop]
 have hz : (zeroValue 41).run Tryd.prog w = .ok (.agg ze) w := Tryd.zeroValue41 w
 show (do pure (Next.value (← Instr.alloc 41 true (.tuple #[]))) : Sem Next).run Tryd.prog w = _
 simp [Instr.alloc, hz, go_sem]
theorem xstore {ρ : Operand → Value} {o : Oper} (x y : Operand) (g : Nat) (v : Ev) (p : Ep) (hop : o.op = .store 41 x y) (hx : ρ x = .pointer (some ⟨g, 0, none⟩)) (hy : ρ y = .agg (eagg v p)) (w : World) (hg : w.heap[g]? = some (.cells ze 41 (0, 0))) : (execOp ρ o).run Tryd.prog w = .ok .skip (w.setRow g (eagg v p)) := by
 unfold execOp
 rw [hop]
 show (do Instr.storeAt 41 (ρ x) (ρ y); pure Next.skip : Sem Next).run Tryd.prog w = _
 rw [hx, hy]
 simp only [Instr.storeAt, Instr.sureAddr, Sem.run_bind, Sem.run_pure, Result.andThen_ok, run_storeVar_row w g 41 41 ze (eagg v p) hg szE rfl (oneE v p)]
theorem xset {ρ : Operand → Value} {o : Oper} (x : Operand) (g : Nat) (v : Ev) (p : Ep) (hop : o.op = .load 30 x) (hx : ρ x = .pointer (some ⟨g, 3, none⟩)) (w : World) (hg : w.heap[g]? = some (.cells (eagg v p) 34 (0, 0))) : (execOp ρ o).run Tryd.prog w = .ok (.value (.agg (sagg v.set p.sp))) w := by
 unfold execOp
 rw [hop]
 show (do pure (Next.value (← Instr.loadAt 30 (ρ x))) : Sem Next).run Tryd.prog w = _
 rw [hx, Sem.run_bind, run_loadAt_mid w g 3 30 (sagg v.set p.sp).toList _ (range_of hg 3 _ _ rfl) Tryd.underlying30 rfl (by kernel_rfl)]
 rfl
/-- An event as its fields are built, its lines wanting. -/
abbrev v0 (v : Ev) : Ev := { v with ex := [] }
abbrev p0 (p : Ep) (A : Option Addr) (c : Nat) : Ep := { p with Ap := A, cp := c, Ax := none, cx := 0 }
abbrev BF : Array (Nat × Operand) := #[(0, .tmp 6), (1, .tmp 8), (2, .tmp 10), (3, .tmp 12), (4, .tmp 14), (5, .tmp 16), (6, .tmp 18), (7, .tmp 20), (8, .tmp 22), (9, .tmp 26), (10, .tmp 28), (11, .tmp 30), (12, .tmp 32)]
set_option maxRecDepth 100000 in
theorem bev (w : World) (v : Ev) (p : Ep) (A : Option Addr) (c : Nat) : (Instr.build 41 #[(0, .string v.uid), (1, .int .i64 v.seq), (2, .int .i64 v.stamp), (3, .agg (sagg v.set p.sp)), (4, .int .i64 v.len), (5, .string v.sum), (6, .string v.com), (7, .int .i64 v.sta), (8, .string v.org), (9, .slice A v.ps.length c), (10, .bool v.is), (11, .agg #[.int .i64 v.part.f0, .int .i64 v.part.f1, .string v.part.f2]), (12, .bool v.fut)]).run Tryd.prog w = .ok (.agg (eagg (v0 v) (p0 p A c))) w :=
 run_build w _ _ _ (by kernel_rfl)
theorem xbuild {ρ : Operand → Value} {o : Oper} (v : Ev) (p : Ep) (A : Option Addr) (c : Nat) (hop : o.op = .build 41 BF) (h6 : ρ (.tmp 6) = .string v.uid) (h8 : ρ (.tmp 8) = .int .i64 v.seq) (h10 : ρ (.tmp 10) = .int .i64 v.stamp) (h12 : ρ (.tmp 12) = .agg (sagg v.set p.sp)) (h14 : ρ (.tmp 14) = .int .i64 v.len) (h16 : ρ (.tmp 16) = .string v.sum) (h18 : ρ (.tmp 18) = .string v.com) (h20 : ρ (.tmp 20) = .int .i64 v.sta) (h22 : ρ (.tmp 22) = .string v.org) (h26 : ρ (.tmp 26) = .slice A v.ps.length c) (h28 : ρ (.tmp 28) = .bool v.is) (h30 : ρ (.tmp 30) = .agg #[.int .i64 v.part.f0, .int .i64 v.part.f1, .string v.part.f2]) (h32 : ρ (.tmp 32) = .bool v.fut) (w : World) : (execOp ρ o).run Tryd.prog w = .ok (.value (.agg (eagg (v0 v) (p0 p A c)))) w := by
 unfold execOp
 rw [hop]
 have e : BF.map (fun p => (p.1, ρ p.2)) = #[(0, .string v.uid), (1, .int .i64 v.seq), (2, .int .i64 v.stamp), (3, .agg (sagg v.set p.sp)), (4, .int .i64 v.len), (5, .string v.sum), (6, .string v.com), (7, .int .i64 v.sta), (8, .string v.org), (9, .slice A v.ps.length c), (10, .bool v.is), (11, .agg #[.int .i64 v.part.f0, .int .i64 v.part.f1, .string v.part.f2]), (12, .bool v.fut)] := by simp only [BF, List.map_toArray, List.map_cons, List.map_nil, h6, h8, h10, h12, h14, h16, h18, h20, h22, h26, h28, h30, h32]
 show (do pure (Next.value (← Instr.build 41 (BF.map (fun p => (p.1, ρ p.2))))) : Sem Next).run Tryd.prog w = _
 rw [e, Sem.run_bind, bev]
 rfl
/-- A row of one's own, its elements' cells read. -/
theorem row_R {α : Type} {d : Kd α} {e base : Nat} {ok : Nat → Prop} {w w0 : World} {v : Value} {xs : List α} (h : Kd.R d e w base ok v xs) (hm : ∀ x cs, d.K w x cs → d.K w0 x cs) : ∃ A c, v = .slice A xs.length c ∧ xs.length ≤ c ∧ Row d e w0 base w A xs := by
 obtain ⟨_, inner, ho, hr⟩ := h
 refine row_of ho fun j p hj => ?_
 refine ⟨_, d.K_len (d.K_of_M (hr.2 j p hj)), hm _ _ (d.K_of_M (hr.2 j p hj)), fun q u hq => ?_⟩
 have hlt : q < d.sz := by
  have := (List.getElem?_eq_some_iff.1 hq).1
  rw [List.length_take] at this
  omega
 rw [List.getElem?_take_of_lt hlt, List.getElem?_drop] at hq
 exact hq
theorem R_base {α : Type} {d : Kd α} {e base : Nat} {ok : Nat → Prop} {w : World} {v : Value} {xs : List α} (h : Kd.R d e w base ok v xs) : Kd.R d e w base (fun k => base ≤ k) v xs := by
 obtain ⟨_, inner, ho, hr⟩ := h
 refine ⟨fun k hk => ?_, inner, ho, hr.imp_ (fun p c hp => d.M_mono (fun k hk => ⟨hk.2.1, hk.1.2⟩) (d.M_bound hp))⟩
 rcases ho.2 with ⟨rfl, _⟩ | ⟨g, cap, cur, rfl, hg, _⟩
 ·simp [Value.ownBlock] at hk
 ·have : g = k := by simpa [Value.ownBlock] using hk
  omega
/-- What Theirs leaves: a row of a type, of so many cells an element. -/
def Own (A : Option Addr) (e sz n base : Nat) (w : World) : Prop := 0 < n → ∃ g cells, A = some ⟨g, 0, none⟩ ∧ base ≤ g ∧ g < w.heap.size ∧ w.heap[g]? = some (.cells cells e (0, 0)) ∧ n * sz ≤ cells.size
theorem Own.low {A : Option Addr} {e sz n b b' : Nat} {w : World} (h : Own A e sz n b w) (hb : b' ≤ b) : Own A e sz n b' w := fun hp => by
 obtain ⟨g, cells, h1, h2, h3, h4, h5⟩ := h hp
 exact ⟨g, cells, h1, by omega, h3, h4, h5⟩
theorem Own.of_row {α : Type} {d : Kd α} {e base : Nat} {w0 w : World} {A : Option Addr} {xs : List α} (h : Row d e w0 base w A xs) (hz : 0 < d.sz) : Own A e d.sz xs.length base w := fun hp => by
 obtain ⟨g, cells, h1, h2, h3, h4, h5⟩ := h hp
 refine ⟨g, cells, h1, h2, h3, h4, ?_⟩
 have hj : xs.length - 1 < xs.length := by omega
 obtain ⟨cs, e1, _, e3⟩ := h5 (xs.length - 1) xs[xs.length - 1] (List.getElem?_eq_getElem hj)
 have hlt : d.sz - 1 < cs.length := by omega
 have := e3 (d.sz - 1) cs[d.sz - 1] (List.getElem?_eq_getElem hlt)
 have h7 := (Array.getElem?_eq_some_iff.1 this).1
 have h8 : xs.length * d.sz = (xs.length - 1) * d.sz + d.sz := by rw [← Nat.succ_mul]; congr 1; omega
 omega
theorem row_stay {α : Type} {d : Kd α} {e n0 : Nat} {w0 w w1 : World} {A : Option Addr} {xs : List α} (h : Row d e w0 n0 w A xs) (hk : ∀ (g : Nat) (cells : Array Value), w.heap[g]? = some (Obj.cells cells e (0, 0)) → w1.heap[g]? = w.heap[g]?) (hs : w.heap.size ≤ w1.heap.size) : Row d e w0 n0 w1 A xs := fun hp => by
 obtain ⟨g, cells, h1, h2, h3, h4, h5⟩ := h hp
 exact ⟨g, cells, h1, h2, by omega, (hk g cells h4).trans h4, h5⟩
theorem row_lower {α : Type} {d : Kd α} {e n0 n1 : Nat} {w0 w : World} {A : Option Addr} {xs : List α} (h : Row d e w0 n0 w A xs) (hn : n1 ≤ n0) : Row d e w0 n1 w A xs := fun hp => by
 obtain ⟨g, cells, h1, h2, h3, h4, h5⟩ := h hp
 exact ⟨g, cells, h1, by omega, h3, h4, h5⟩
theorem row_below {α : Type} {d : Kd α} {e n0 : Nat} {w0 w w1 : World} {A : Option Addr} {xs : List α} (h : Row d e w0 n0 w A xs) (hb : Below w.heap.size w w1) : Row d e w0 n0 w1 A xs :=
 row_stay h (fun g cells hg => hb.block g (blk_lt hg)) hb.size
theorem typed_ne {w : World} {g k e e' : Nat} {c c' : Array Value} (h : w.heap[g]? = some (.cells c e (0, 0))) (h' : w.heap[k]? = some (.cells c' e' (0, 0))) (he : e ≠ e') : g ≠ k := by
 rintro rfl
 rw [h] at h'
 injection h' with h'
 injection h' with _ h2 _
 exact he h2
theorem below_row {h : Nat} {w0 w : World} (hB : Below h w0 w) (g : Nat) (cs : Array Value) (hg : h ≤ g) : Below h w0 (w.setRow g cs) :=
 ⟨hB.os, hB.tape, hB.output, by rw [setRow_size]; exact hB.size, fun k hk => (setRow_other _ _ _ _ (by omega)).trans (hB.block k hk)⟩
theorem own_N {α : Type} {d : Kd α} {e base : Nat} {ok : Nat → Prop} {w : World} {A : Option Addr} {n c : Nat} {xs : List α} (h : Kd.N d e w base ok (.slice A n c) xs) (hz : 0 < d.sz) : Own A e d.sz xs.length base w := by
 obtain ⟨_, rows, hl, hR, _⟩ := h
 obtain ⟨A1, c1, e1, _, hrow⟩ := row_R (w0 := w) hR (fun x cs h => h)
 cases e1
 rw [← hl]
 exact Own.of_row hrow hz
abbrev vI (v : Ev) (L : List S58) : Ev := { v with ex := L }
abbrev pI (p : Ep) (A : Option Addr) (c : Nat) (A2 : Option Addr) (c2 : Nat) : Ep := ⟨p.sp, A, c, A2, c2⟩
def PK (v : Ev) (p : Ep) (h gE : Nat) (A : Option Addr) (c : Nat) (w w' : World) : Prop := w'.heap[h]? = some (.cells (eagg v p) 34 (0, 0)) ∧ w'.heap[h + 1]? = some (.cells ze 41 (0, 0)) ∧ w'.heap[gE]? = some (.cells ze 41 (0, 0)) ∧ h + 2 ≤ gE ∧ gE < w'.heap.size ∧ Below h w w' ∧ Row k46 46 w h w' A v.ps ∧ v.ps.length ≤ c
theorem flatP {w w1 : World} (x : S46) (cs : List Value) (h : k46.K w x cs) : k46.K w1 x cs := by
 obtain rfl := k46_open h
 exact k46_mk w1 x
theorem setLines (v : Ev) (p : Ep) (l : List S58) (A : Option Addr) (c : Nat) : (eagg v p).setIfInBounds 37 (.slice A l.length c) = eagg { v with ex := l } { p with Ax := A, cx := c } := by
 simp only [List.cons_append, List.nil_append, List.setIfInBounds_toArray, List.set_cons_zero, List.set_cons_succ]
 rfl
/-- What Theirs answers. -/
def ThQ (v : Ev) (p : Ep) (w : World) (q : Ending) (w' : World) : Prop := ∃ A c A' c', q = .returned (.agg (eagg v ⟨p.sp, A, c, A', c'⟩)) ∧ OkE v ⟨p.sp, A, c, A', c'⟩ w' ∧ Own A 46 6 v.ps.length w.heap.size w' ∧ Own A' 58 3 v.ex.length w.heap.size w' ∧ Below w.heap.size w w'
set_option maxHeartbeats 4000000 in
set_option maxRecDepth 100000 in
theorem theirs (v : Ev) (l : List DL) (p : Ep) (w : World) (ok : OkG v l p w) (hp : v.ps.length ≤ 100) (hl : l.length ≤ 100) (hL : ∀ x ∈ l, LineOk x) :
  Calls Tryd.prog 7 #[.agg (eagg v p)] w (ThQ v p w) := by
 have OK := Aside0.mk ok; have HP := Aside0.mk hp; have HL := Aside0.mk hl; have LO := Aside0.mk hL; have LN := Aside0.mk ok.len
 clear ok hp hl hL
 go_enter Tryd.func7, Tryd.ntmps7
 go_upto_region 1 with fail
 obtain ⟨w0, hw0, z0, q1, q2, qb⟩ := twoB w (.cells (eagg v p) 34 (0, 0)) (.cells ze 41 (0, 0))
 rw [← hw0]
 clear hw0
 have K1 := Aside0.mk (blk_drew q1); have ZZ := Aside0.mk (blk_drew q2); have HB := Aside0.mk (below_drew1 qb); have S0 := Aside0.mk (show w0.drew.heap.size = w.heap.size + 2 from z0)
 refine start_ (n := 31) (S := fun w' => w'.heap[w.heap.size]? = some (.cells (eagg v p) 34 (0, 0))) (ds := []) (tt 31 0) (by kernel_rfl) rfl rfl K1.out (fun hHeld => ?_)
 refine with_tabW tabth1 bitsth1 (fun HT_ HW_ => ?_)
 clear z0 q1 q2 qb
 generalize w0.drew = wd_ at K1 ZZ HB S0 hHeld ⊢
 refine pu 0 (some 5) (tt 31 1) HT_ ?_
 refine take_ (i := 1) (N := some 6) (v := ?_) (a' := ?_) (tt 31 2) rfl rfl (take_ofW HT_.out HW_.out (by kernel_rfl)) (fun _ _ _ h => h) (Or.inl ⟨by rfl, ?_⟩) hHeld ?_ ?_
 rotate_left
 ·intro w' hs
  have q_ : w'.cell? ⟨w.heap.size, 0, none⟩ = some (.string v.uid) := (blk_cell hs 0).trans rfl
  go_simp
  with_reducible rfl
 rotate_left
 ·simp only [Act.put, sA, sB, sC, i64_w, i32_w]
  rfl
 refine pu 2 (some 7) (tt 31 3) HT_ ?_
 refine take_ (i := 3) (N := some 8) (v := ?_) (a' := ?_) (tt 31 4) rfl rfl (take_ofW HT_.out HW_.out (by kernel_rfl)) (fun _ _ _ h => h) (Or.inl ⟨by rfl, ?_⟩) hHeld ?_ ?_
 rotate_left
 ·intro w' hs
  have q_ : w'.cell? ⟨w.heap.size, 1, none⟩ = some (.int .i64 v.seq) := (blk_cell hs 1).trans rfl
  go_simp
  with_reducible rfl
 rotate_left
 ·simp only [Act.put, sA, sB, sC, i64_w, i32_w]
  rfl
 refine pu 4 (some 9) (tt 31 5) HT_ ?_
 refine take_ (i := 5) (N := some 10) (v := ?_) (a' := ?_) (tt 31 6) rfl rfl (take_ofW HT_.out HW_.out (by kernel_rfl)) (fun _ _ _ h => h) (Or.inl ⟨by rfl, ?_⟩) hHeld ?_ ?_
 rotate_left
 ·intro w' hs
  have q_ : w'.cell? ⟨w.heap.size, 2, none⟩ = some (.int .i64 v.stamp) := (blk_cell hs 2).trans rfl
  go_simp
  with_reducible rfl
 rotate_left
 ·simp only [Act.put, sA, sB, sC, i64_w, i32_w]
  rfl
 refine pu 6 (some 11) (tt 31 7) HT_ ?_
 refine take_ (i := 7) (N := some 12) (v := .agg (sagg v.set p.sp)) (a' := ?_) (tt 31 8) rfl rfl (take_ofW HT_.out HW_.out (by kernel_rfl)) (fun _ _ _ h => h) (Or.inl ⟨by rfl, fun w' hs => xset (.tmp 11) w.heap.size v p rfl rfl w' hs⟩) hHeld ?_ ?_
 rotate_left
 ·simp only [Act.put, sA, sB, sC, i64_w, i32_w]
  rfl
 refine pu 8 (some 13) (tt 31 9) HT_ ?_
 refine take_ (i := 9) (N := some 14) (v := ?_) (a' := ?_) (tt 31 10) rfl rfl (take_ofW HT_.out HW_.out (by kernel_rfl)) (fun _ _ _ h => h) (Or.inl ⟨by rfl, ?_⟩) hHeld ?_ ?_
 rotate_left
 ·intro w' hs
  have q_ : w'.cell? ⟨w.heap.size, 26, none⟩ = some (.int .i64 v.len) := (blk_cell hs 26).trans rfl
  go_simp
  with_reducible rfl
 rotate_left
 ·simp only [Act.put, sA, sB, sC, i64_w, i32_w]
  rfl
 refine pu 10 (some 15) (tt 31 11) HT_ ?_
 refine take_ (i := 11) (N := some 16) (v := ?_) (a' := ?_) (tt 31 12) rfl rfl (take_ofW HT_.out HW_.out (by kernel_rfl)) (fun _ _ _ h => h) (Or.inl ⟨by rfl, ?_⟩) hHeld ?_ ?_
 rotate_left
 ·intro w' hs
  have q_ : w'.cell? ⟨w.heap.size, 27, none⟩ = some (.string v.sum) := (blk_cell hs 27).trans rfl
  go_simp
  with_reducible rfl
 rotate_left
 ·simp only [Act.put, sA, sB, sC, i64_w, i32_w]
  rfl
 refine pu 12 (some 17) (tt 31 13) HT_ ?_
 refine take_ (i := 13) (N := some 18) (v := ?_) (a' := ?_) (tt 31 14) rfl rfl (take_ofW HT_.out HW_.out (by kernel_rfl)) (fun _ _ _ h => h) (Or.inl ⟨by rfl, ?_⟩) hHeld ?_ ?_
 rotate_left
 ·intro w' hs
  have q_ : w'.cell? ⟨w.heap.size, 28, none⟩ = some (.string v.com) := (blk_cell hs 28).trans rfl
  go_simp
  with_reducible rfl
 rotate_left
 ·simp only [Act.put, sA, sB, sC, i64_w, i32_w]
  rfl
 refine pu 14 (some 19) (tt 31 15) HT_ ?_
 refine take_ (i := 15) (N := some 20) (v := ?_) (a' := ?_) (tt 31 16) rfl rfl (take_ofW HT_.out HW_.out (by kernel_rfl)) (fun _ _ _ h => h) (Or.inl ⟨by rfl, ?_⟩) hHeld ?_ ?_
 rotate_left
 ·intro w' hs
  have q_ : w'.cell? ⟨w.heap.size, 29, none⟩ = some (.int .i64 v.sta) := (blk_cell hs 29).trans rfl
  go_simp
  with_reducible rfl
 rotate_left
 ·simp only [Act.put, sA, sB, sC, i64_w, i32_w]
  rfl
 refine pu 16 (some 21) (tt 31 17) HT_ ?_
 refine take_ (i := 17) (N := some 22) (v := ?_) (a' := ?_) (tt 31 18) rfl rfl (take_ofW HT_.out HW_.out (by kernel_rfl)) (fun _ _ _ h => h) (Or.inl ⟨by rfl, ?_⟩) hHeld ?_ ?_
 rotate_left
 ·intro w' hs
  have q_ : w'.cell? ⟨w.heap.size, 30, none⟩ = some (.string v.org) := (blk_cell hs 30).trans rfl
  go_simp
  with_reducible rfl
 rotate_left
 ·simp only [Act.put, sA, sB, sC, i64_w, i32_w]
  rfl
 refine pu 19 (some 24) #[true, true, true, true, true, true, true, true, true, true, true, true, true, true, true, true, true, true, false, true, false, false, false, false, false, false, false, false, false, false, false] HT_ ?_
 refine take_ (i := 20) (N := some 25) (v := ?_) (a' := ?_) #[true, true, true, true, true, true, true, true, true, true, true, true, true, true, true, true, true, true, false, true, true, false, false, false, false, false, false, false, false, false, false] rfl rfl (take_ofW HT_.out HW_.out (by kernel_rfl)) (fun _ _ _ h => h) (Or.inl ⟨by rfl, ?_⟩) hHeld ?_ ?_
 rotate_left
 ·intro w' hs
  have q_ : w'.cell? ⟨w.heap.size, 31, none⟩ = some (.slice p.Ap v.ps.length p.cp) := (blk_cell hs 31).trans rfl
  go_simp
  with_reducible rfl
 rotate_left
 ·simp only [Act.put, sA, sB, sC, i64_w, i32_w]
  rfl
 refine pu 22 (some 27) #[true, true, true, true, true, true, true, true, true, true, true, true, true, true, true, true, true, true, false, true, true, false, true, false, false, false, false, false, false, false, false] HT_ ?_
 refine take_ (i := 23) (N := some 28) (v := ?_) (a' := ?_) #[true, true, true, true, true, true, true, true, true, true, true, true, true, true, true, true, true, true, false, true, true, false, true, true, false, false, false, false, false, false, false] rfl rfl (take_ofW HT_.out HW_.out (by kernel_rfl)) (fun _ _ _ h => h) (Or.inl ⟨by rfl, ?_⟩) hHeld ?_ ?_
 rotate_left
 ·intro w' hs
  have q_ : w'.cell? ⟨w.heap.size, 32, none⟩ = some (.bool v.is) := (blk_cell hs 32).trans rfl
  go_simp
  with_reducible rfl
 rotate_left
 ·simp only [Act.put, sA, sB, sC, i64_w, i32_w]
  rfl
 refine pu 24 (some 29) #[true, true, true, true, true, true, true, true, true, true, true, true, true, true, true, true, true, true, false, true, true, false, true, true, true, false, false, false, false, false, false] HT_ ?_
 refine take_ (i := 25) (N := some 30) (v := ?_) (a' := ?_) #[true, true, true, true, true, true, true, true, true, true, true, true, true, true, true, true, true, true, false, true, true, false, true, true, true, true, false, false, false, false, false] rfl rfl (take_ofW HT_.out HW_.out (by kernel_rfl)) (fun _ _ _ h => h) (Or.inl ⟨by rfl, ?_⟩) hHeld ?_ ?_
 rotate_left
 ·intro w' hs
  have q0_ : w'.cell? ⟨w.heap.size, 33, none⟩ = some (.int .i64 v.part.f0) := (blk_cell hs 33).trans rfl
  have q1_ : w'.cell? ⟨w.heap.size, 34, none⟩ = some (.int .i64 v.part.f1) := (blk_cell hs 34).trans rfl
  have q2_ : w'.cell? ⟨w.heap.size, 35, none⟩ = some (.string v.part.f2) := (blk_cell hs 35).trans rfl
  go_simp
  with_reducible rfl
 rotate_left
 ·simp only [Act.put, sA, sB, sC, i64_w, i32_w]
  rfl
 refine pu 26 (some 31) #[true, true, true, true, true, true, true, true, true, true, true, true, true, true, true, true, true, true, false, true, true, false, true, true, true, true, true, false, false, false, false] HT_ ?_
 refine take_ (i := 27) (N := some 32) (v := ?_) (a' := ?_) #[true, true, true, true, true, true, true, true, true, true, true, true, true, true, true, true, true, true, false, true, true, false, true, true, true, true, true, true, false, false, false] rfl rfl (take_ofW HT_.out HW_.out (by kernel_rfl)) (fun _ _ _ h => h) (Or.inl ⟨by rfl, ?_⟩) hHeld ?_ ?_
 rotate_left
 ·intro w' hs
  have q_ : w'.cell? ⟨w.heap.size, 36, none⟩ = some (.bool v.fut) := (blk_cell hs 36).trans rfl
  go_simp
  with_reducible rfl
 rotate_left
 ·simp only [Act.put, sA, sB, sC, i64_w, i32_w]
  rfl
 refine join_ (σ := Value × (Option Addr × Nat) × Nat) 1 (tt 31 30) (fun s_ => [(23, s_.1), (26, .slice s_.2.1.1 v.ps.length s_.2.1.2), (3, .pointer (some ⟨s_.2.2, 0, none⟩)), (33, .agg (eagg (v0 v) (p0 p s_.2.1.1 s_.2.1.2)))]) (fun s_ w' => PK v p w.heap.size s_.2.2 s_.2.1.1 s_.2.1.2 w w') ?_ ?_
 rotate_left
 ·intro hCont
  refine two_ (i := 18) (j := 29) (Ni := some 23) (Nj := some 3) #[true, true, true, true, true, true, true, true, true, true, true, true, true, true, true, true, true, true, true, true, true, false, true, true, true, true, true, true, false, false, false] #[true, true, true, true, true, true, true, true, true, true, true, true, true, true, true, true, true, true, false, true, true, false, true, true, true, true, true, true, false, true, false] rfl rfl rfl rfl (two_of HT_.out (by kernel_rfl)) (by decide) (by decide) (fun K hK => ?_) (fun K hK => ?_)
  ·skip
   refine Kd.R_lit_step k46 _ 46 (by rfl) (N := 23) rfl (xs := ([] : List S46)) (inner := []) (ok := fun _ => True) (okp := fun _ => True) ?hr (Reps.none _ _) (fun _ hk => hk) trivial (Below.refl _ _) (Nat.le_refl _) (by simp) ?_
   (case hr => first | (go_simp; done) | (go_simp; rfl))
   intro v23 wl ho hb _ _
   have HN := Aside0.mk hb; have HO := Aside0.mk ho
   replace ZZ := Aside0.mk (blk_below ZZ.out hb)
   refine hK.out _ _ (blk_below hHeld hb) (fun hHeld => ?_)
   clear hK K ho hb
   refine norm_ (a' := ?_) ?_ ?_
   rotate_left
   ·show Act.put _ (some 23) _ = _
    simp only [Act.put, sA, sB, sC, i64_w, i32_w]
    rfl
   refine two_ (i := 21) (j := 29) (Ni := some 26) (Nj := some 3) (tt 31 28) #[true, true, true, true, true, true, true, true, true, true, true, true, true, true, true, true, true, true, true, true, true, false, true, true, true, true, true, true, false, true, false] rfl rfl rfl rfl (two_of HT_.out (by kernel_rfl)) (by decide) (by decide) (fun K hK => ?_) (fun K hK => ?_)
   ·skip
    refine Kd.R_append_rows_step k46 (w0 := wd_) wd_.heap.size (by rfl) (.tmp 23) (.tmp 25) 31 46 (.agg #[(.string ⟨#[]⟩), (.int .i64 0), (.int .i64 0), (.bool false), (.string ⟨#[]⟩), (.string ⟨#[]⟩)]) 72 rfl Tryd.underlying31 info46 rfl (by decide) (by omega) v23 [] v.ps p.Ap v.ps.length p.cp (fun _ => True) (fun _ => False) rfl rfl HO.out (Kd.C_below OK.out.hp (below_then HB.out HB.out.size HN.out)) (fun _ _ h => h) (fun _ h => h.elim) (fun _ _ => trivial) HN.out HN.out.size (by have := HP.out; simp; omega) ?_
    intro v26 wa ho hb hg hat
    obtain ⟨A', c', rfl, hc', hrow⟩ := row_R (w0 := w) ho (fun x cs hx => flatP x cs hx)
    simp only [List.nil_append] at hc' hrow ⊢
    replace ZZ := Aside0.mk (blk_grown ZZ.out hg (Kd.R_ne HO.out ZZ.out (by decide)))
    have hk := blk_grown hHeld hg (Kd.R_ne HO.out hHeld (by decide))
    replace HB := Aside0.mk (below_then HB.out HB.out.size hb)
    have RW := Aside0.mk (row_lower hrow (show w.heap.size ≤ wd_.heap.size by have := S0.out; omega)); have HC := Aside0.mk hc'; have SZ := Aside0.mk (show w.heap.size + 2 ≤ wa.heap.size by have := S0.out; have := hb.size; omega)
    refine hK.out _ _ hk (fun hHeld => ?_)
    clear hK K ho hb hg hat hrow hc' hk HO HN
    refine norm_ (a' := ?_) ?_ ?_
    rotate_left
    ·show Act.put _ (some 26) _ = _
     simp only [Act.put, sA, sB, sC, i64_w, i32_w]
     rfl
    refine pure_ (i := 28) (N := some 33) (v := .agg (eagg (v0 v) (p0 p A' c'))) (a' := ?_) (tt 31 29) rfl rfl (any_of HT_.out (by kernel_rfl)) (fun _ _ _ h => h) (Or.inl ⟨by rfl, fun w' => xbuild v p A' c' rfl rfl rfl rfl rfl rfl rfl rfl rfl rfl rfl rfl rfl rfl w'⟩) ?_ ?_
    rotate_left
    ·simp only [Act.put, sA, sB, sC, i64_w, i32_w]
     rfl
    refine one_ (i := 29) (N := some 3) (tt 31 30) rfl rfl (one_of HT_.out (by kernel_rfl)) (by decide) (fun K hK => ?_)
    refine box_step (by rfl) (N := 3) rfl (cs := ze) (t := 41) (xalloc rfl _) ?_
    intro gE hgE wb hy hb
    have YE := Aside0.mk hy; have GE := Aside0.mk (show w.heap.size + 2 ≤ gE by rw [hgE]; exact SZ.out)
    replace ZZ := Aside0.mk (blk_below ZZ.out hb); replace HB := Aside0.mk (below_then HB.out HB.out.size hb); replace RW := Aside0.mk (row_below RW.out hb)
    refine hK.out _ _ (blk_below hHeld hb) (fun hHeld => ?_)
    clear hK K hb hy
    refine norm_ (a' := ?_) ?_ ?_
    rotate_left
    ·show Act.put _ (some 3) _ = _
     simp only [Act.put, sA, sB, sC, i64_w, i32_w]
     rfl
    exact norm_ (by simp only [putAll, Act.put, List.setIfInBounds_toArray, List.set_cons_zero, List.set_cons_succ]) (hCont (v23, (A', c'), gE) _ ⟨hHeld, ZZ.out, YE.out, GE.out, blk_lt YE.out, HB.out, RW.out, HC.out⟩)
   ·skip
    refine box_step (by rfl) (N := 3) rfl (cs := ze) (t := 41) (xalloc rfl _) ?_
    intro gE hgE wb hy hb
    have YE := Aside0.mk hy; have GE := Aside0.mk (show w.heap.size + 2 ≤ gE by rw [hgE]; have := S0.out; have := HN.out.size; omega)
    replace ZZ := Aside0.mk (blk_below ZZ.out hb); replace HO := Aside0.mk (Kd.R_below HO.out hb); replace HN := Aside0.mk (below_then HN.out HN.out.size hb)
    refine hK.out _ _ (blk_below hHeld hb) (fun hHeld => ?_)
    clear hK K hb hy
    refine norm_ (a' := ?_) ?_ ?_
    rotate_left
    ·show Act.put _ (some 3) _ = _
     simp only [Act.put, sA, sB, sC, i64_w, i32_w]
     rfl
    refine one_ (i := 21) (N := some 26) #[true, true, true, true, true, true, true, true, true, true, true, true, true, true, true, true, true, true, true, true, true, true, true, true, true, true, true, true, false, true, false] rfl rfl (one_of HT_.out (by kernel_rfl)) (by decide) (fun K hK => ?_)
    refine Kd.R_append_rows_step k46 (w0 := wd_) wd_.heap.size (by rfl) (.tmp 23) (.tmp 25) 31 46 (.agg #[(.string ⟨#[]⟩), (.int .i64 0), (.int .i64 0), (.bool false), (.string ⟨#[]⟩), (.string ⟨#[]⟩)]) 72 rfl Tryd.underlying31 info46 rfl (by decide) (by omega) v23 [] v.ps p.Ap v.ps.length p.cp (fun _ => True) (fun _ => False) rfl rfl HO.out (Kd.C_below OK.out.hp (below_then HB.out HB.out.size HN.out)) (fun _ _ h => h) (fun _ h => h.elim) (fun _ _ => trivial) HN.out HN.out.size (by have := HP.out; simp; omega) ?_
    intro v26 wa ho hb hg hat
    obtain ⟨A', c', rfl, hc', hrow⟩ := row_R (w0 := w) ho (fun x cs hx => flatP x cs hx)
    simp only [List.nil_append] at hc' hrow ⊢
    replace ZZ := Aside0.mk (blk_grown ZZ.out hg (Kd.R_ne HO.out ZZ.out (by decide)))
    replace YE := Aside0.mk (blk_grown YE.out hg (Kd.R_ne HO.out YE.out (by decide)))
    have hk := blk_grown hHeld hg (Kd.R_ne HO.out hHeld (by decide))
    replace HB := Aside0.mk (below_then HB.out HB.out.size hb)
    have RW := Aside0.mk (row_lower hrow (show w.heap.size ≤ wd_.heap.size by have := S0.out; omega)); have HC := Aside0.mk hc'
    refine hK.out _ _ hk (fun hHeld => ?_)
    clear hK K ho hb hg hat hrow hc' hk HO HN
    refine norm_ (a' := ?_) ?_ ?_
    rotate_left
    ·show Act.put _ (some 26) _ = _
     simp only [Act.put, sA, sB, sC, i64_w, i32_w]
     rfl
    refine pure_ (i := 28) (N := some 33) (v := .agg (eagg (v0 v) (p0 p A' c'))) (a' := ?_) (tt 31 30) rfl rfl (any_of HT_.out (by kernel_rfl)) (fun _ _ _ h => h) (Or.inl ⟨by rfl, fun w' => xbuild v p A' c' rfl rfl rfl rfl rfl rfl rfl rfl rfl rfl rfl rfl rfl rfl w'⟩) ?_ ?_
    rotate_left
    ·simp only [Act.put, sA, sB, sC, i64_w, i32_w]
     rfl
    exact norm_ (by simp only [putAll, Act.put, List.setIfInBounds_toArray, List.set_cons_zero, List.set_cons_succ]) (hCont (v23, (A', c'), gE) _ ⟨hHeld, ZZ.out, YE.out, GE.out, blk_lt YE.out, HB.out, RW.out, HC.out⟩)
  ·skip
   refine box_step (by rfl) (N := 3) rfl (cs := ze) (t := 41) (xalloc rfl _) ?_
   intro gE hgE wb hy hb
   have YE := Aside0.mk hy; have GE := Aside0.mk (show w.heap.size + 2 ≤ gE by rw [hgE]; have := S0.out; omega); have SB := Aside0.mk hb.size
   replace ZZ := Aside0.mk (blk_below ZZ.out hb); replace HB := Aside0.mk (below_then HB.out HB.out.size hb)
   refine hK.out _ _ (blk_below hHeld hb) (fun hHeld => ?_)
   clear hK K hb hy
   refine norm_ (a' := ?_) ?_ ?_
   rotate_left
   ·show Act.put _ (some 3) _ = _
    simp only [Act.put, sA, sB, sC, i64_w, i32_w]
    rfl
   refine one_ (i := 18) (N := some 23) #[true, true, true, true, true, true, true, true, true, true, true, true, true, true, true, true, true, true, true, true, true, false, true, true, true, true, true, true, false, true, false] rfl rfl (one_of HT_.out (by kernel_rfl)) (by decide) (fun K hK => ?_)
   refine Kd.R_lit_step k46 _ 46 (by rfl) (N := 23) rfl (xs := ([] : List S46)) (inner := []) (ok := fun _ => True) (okp := fun _ => True) ?hr (Reps.none _ _) (fun _ hk => hk) trivial (Below.refl _ _) (Nat.le_refl _) (by simp) ?_
   (case hr => first | (go_simp; done) | (go_simp; rfl))
   intro v23 wl ho hb _ _
   have HN := Aside0.mk hb; have HO := Aside0.mk ho
   replace ZZ := Aside0.mk (blk_below ZZ.out hb); replace YE := Aside0.mk (blk_below YE.out hb)
   refine hK.out _ _ (blk_below hHeld hb) (fun hHeld => ?_)
   clear hK K ho hb
   refine norm_ (a' := ?_) ?_ ?_
   rotate_left
   ·show Act.put _ (some 23) _ = _
    simp only [Act.put, sA, sB, sC, i64_w, i32_w]
    rfl
   refine one_ (i := 21) (N := some 26) #[true, true, true, true, true, true, true, true, true, true, true, true, true, true, true, true, true, true, true, true, true, true, true, true, true, true, true, true, false, true, false] rfl rfl (one_of HT_.out (by kernel_rfl)) (by decide) (fun K hK => ?_)
   refine Kd.R_append_rows_step k46 (w0 := wb) wb.heap.size (by rfl) (.tmp 23) (.tmp 25) 31 46 (.agg #[(.string ⟨#[]⟩), (.int .i64 0), (.int .i64 0), (.bool false), (.string ⟨#[]⟩), (.string ⟨#[]⟩)]) 72 rfl Tryd.underlying31 info46 rfl (by decide) (by omega) v23 [] v.ps p.Ap v.ps.length p.cp (fun _ => True) (fun _ => False) rfl rfl HO.out (Kd.C_below OK.out.hp (below_then HB.out HB.out.size HN.out)) (fun _ _ h => h) (fun _ h => h.elim) (fun _ _ => trivial) HN.out HN.out.size (by have := HP.out; simp; omega) ?_
   intro v26 wa ho hb hg hat
   obtain ⟨A', c', rfl, hc', hrow⟩ := row_R (w0 := w) ho (fun x cs hx => flatP x cs hx)
   simp only [List.nil_append] at hc' hrow ⊢
   replace ZZ := Aside0.mk (blk_grown ZZ.out hg (Kd.R_ne HO.out ZZ.out (by decide)))
   replace YE := Aside0.mk (blk_grown YE.out hg (Kd.R_ne HO.out YE.out (by decide)))
   have hk := blk_grown hHeld hg (Kd.R_ne HO.out hHeld (by decide))
   replace HB := Aside0.mk (below_then HB.out HB.out.size hb)
   have RW := Aside0.mk (row_lower hrow (show w.heap.size ≤ wb.heap.size by have := S0.out; have := SB.out; omega)); have HC := Aside0.mk hc'
   refine hK.out _ _ hk (fun hHeld => ?_)
   clear hK K ho hb hg hat hrow hc' hk HO HN
   refine norm_ (a' := ?_) ?_ ?_
   rotate_left
   ·show Act.put _ (some 26) _ = _
    simp only [Act.put, sA, sB, sC, i64_w, i32_w]
    rfl
   refine pure_ (i := 28) (N := some 33) (v := .agg (eagg (v0 v) (p0 p A' c'))) (a' := ?_) (tt 31 30) rfl rfl (any_of HT_.out (by kernel_rfl)) (fun _ _ _ h => h) (Or.inl ⟨by rfl, fun w' => xbuild v p A' c' rfl rfl rfl rfl rfl rfl rfl rfl rfl rfl rfl rfl rfl rfl w'⟩) ?_ ?_
   rotate_left
   ·simp only [Act.put, sA, sB, sC, i64_w, i32_w]
    rfl
   exact norm_ (by simp only [putAll, Act.put, List.setIfInBounds_toArray, List.set_cons_zero, List.set_cons_succ]) (hCont (v23, (A', c'), gE) _ ⟨hHeld, ZZ.out, YE.out, GE.out, blk_lt YE.out, HB.out, RW.out, HC.out⟩)
 ·rintro ⟨v23, ⟨A', c'⟩, gE⟩ w3 ⟨j1, j2, j3, j4, j5, j6, j7, j8⟩
  dsimp only at j3 j4 j5 j7 j8
  clear K1 ZZ HB S0 hHeld
  clear wd_
  refine norm_ (a' := ?_) ?_ ?_
  rotate_left
  ·simp only [putAll]
   simp only [Act.put, sA, sB, sC, i64_w, i32_w]
   rfl
  refine one_ (i := 30) (N := none) (tt 31 31) rfl rfl (one_of HT_.out (by kernel_rfl)) (by decide) (fun K hK => ?_)
  refine skip_ (by rfl) rfl (xstore (.tmp 3) (.tmp 33) gE (v0 v) (p0 p A' c') rfl rfl rfl _ j3) ?_
  have K1 := Aside0.mk ((setRow_other w3 gE _ (eagg (v0 v) (p0 p A' c')) (show w.heap.size ≠ gE by omega)).trans j1)
  have ZZ := Aside0.mk ((setRow_other w3 gE _ (eagg (v0 v) (p0 p A' c')) (show w.heap.size + 1 ≠ gE by omega)).trans j2)
  have KE := Aside0.mk (setRow_heap w3 gE _ (eagg (v0 v) (p0 p A' c')) _ _ j3)
  have RW := Aside0.mk (row_stay (w1 := w3.setRow gE (eagg (v0 v) (p0 p A' c'))) j7 (fun g cells hg => setRow_other _ _ _ _ (typed_ne hg j3 (by decide))) (Nat.le_of_eq (setRow_size _ _ _).symm))
  have HB := Aside0.mk (show Below w.heap.size w (w3.setRow gE (eagg (v0 v) (p0 p A' c'))) from below_row j6 gE _ (by omega))
  have GE := Aside0.mk (show w.heap.size + 2 ≤ gE ∧ gE < (w3.setRow gE (eagg (v0 v) (p0 p A' c'))).heap.size from ⟨j4, by rw [setRow_size]; exact j5⟩); have HC := Aside0.mk j8
  refine hK.out _ _ K1.out (fun hHeld => ?_)
  clear hK K j1 j2 j3 j4 j5 j6 j7 j8 hHeld
  generalize w3.setRow gE (eagg (v0 v) (p0 p A' c')) = w4 at K1 ZZ KE RW HB GE ⊢
  clear w3
  have KE0 := Aside0.mk KE.out
  refine done_ (done_of HT_.out (by kernel_rfl)) ?_
  clear HT_ HW_
  have x37 : w4.cell? ⟨w.heap.size, 37, none⟩ = some (.slice p.Ax l.length p.cx) := by rw [← LN.out]; exact (blk_cell K1.out 37).trans rfl
  go_wp2_with fail
  clear x37
  go_loopg [37] l.length (fun kq v37 w' => ∃ (i : Nat) (X : Int) (A2 : Option Addr) (c2 : Nat), v37 = .int .i64 X ∧ Aside0 (X = (i : Int)) ∧ Aside0 (i + kq = l.length) ∧ Aside0 (Kd.N k58 58 w' w4.heap.size (fun k => w4.heap.size ≤ k) (.slice A2 ((l.map thL).take i).length c2) ((l.map thL).take i)) ∧ Aside0 (w'.heap[gE]? = some (.cells (eagg (vI v ((l.map thL).take i)) (pI p A' c' A2 c2)) 41 (0, 0))) ∧ Aside0 (w4.heap.size ≤ w'.heap.size ∧ ∀ k, k < w4.heap.size → k ≠ gE → w'.heap[k]? = w4.heap[k]?) ∧ Aside0 (Below w.heap.size w w'))
  case atStart => exact ⟨0, 0, none, 0, rfl, ⟨rfl⟩, ⟨by omega⟩, ⟨Kd.N_nil _ _ _ _ _⟩, KE, ⟨Nat.le_refl _, fun _ _ _ => rfl⟩, HB⟩
  case round =>
   obtain ⟨i, X, A2, c2, rfl, HX, HI, HN, KE, FR, HB2⟩ := hrel
   have k1 := (FR.out.2 w.heap.size (by have := GE.out; omega) (by have := GE.out; omega)).trans K1.out
   cases gk with
   | zero =>
    have hi : i = l.length := by have := HI.out; omega
    have l1 : decide (X < (l.length : Int)) = false := decide_eq_false (by have := HX.out; omega)
    have hT : (l.map thL).take i = v.ex := by rw [hi, OK.out.hv, List.take_of_length_le (by simp)]
    have HN2 := HN.out
    have KE2 := KE.out
    rw [hT] at HN2 KE2
    have ZZ2 := (FR.out.2 (w.heap.size + 1) (by have := GE.out; omega) (by have := GE.out; omega)).trans ZZ.out
    have HN3 := Aside0.mk HN2; have KE3 := Aside0.mk (show wr.heap[gE]? = some (.cells (eagg v (pI p A' c' A2 c2)) 41 (0, 0)) from KE2); have ZZ3 := Aside0.mk ZZ2
    have RW3 := Aside0.mk (row_stay (w1 := wr) RW.out (fun g cells hg => FR.out.2 g (blk_lt hg) (typed_ne hg KE0.out (by decide))) FR.out.1)
    clear HN2 KE2 ZZ2 HN KE hT
    go_wp2_with (first | ((with_reducible refine gate_ (.load 41 (.tmp 3)) rfl ?_); (try (refine gate_guard (by rfl) ?_; dsimp only)); refine Kd.event_run rfl (EvC.xR (.tmp 3) gE v (pI p A' c' A2 c2) rfl rfl _ KE3.out) ?_) | ((with_reducible refine gate_ (.store 41 (.tmp 2) (.tmp 52)) rfl ?_); (try (refine gate_guard (by rfl) ?_; dsimp only)); refine wpList_store_row rfl 41 (.tmp 2) (.tmp 52) rfl (w.heap.size + 1) (eagg v (pI p A' c' A2 c2)) rfl rfl 41 ze ZZ3.out szE rfl (oneE _ _) ?_))
    have PZ := setRow_heap wr (w.heap.size + 1) _ (eagg v (pI p A' c' A2 c2)) _ _ ZZ3.out
    have hB := below_row HB2.out (w.heap.size + 1) (eagg v (pI p A' c' A2 c2)) (by omega)
    have hR := row_stay (w1 := wr.setRow (w.heap.size + 1) (eagg v (pI p A' c' A2 c2))) RW3.out (fun g cells hg => setRow_other _ _ _ _ (typed_ne hg ZZ3.out (by decide))) (Nat.le_of_eq (setRow_size _ _ _).symm)
    have hN := Kd.N_step (w1 := wr.setRow (w.heap.size + 1) (eagg v (pI p A' c' A2 c2))) HN3.out (fun k hk _ => setRow_other _ _ _ _ (by have := GE.out; omega))
    have hF := Row.fr (e' := 46) hR (fun x cs h => EvC.flatP x cs h) HC.out (by have := HP.out; omega)
    obtain ⟨Af, cf, ef, lf, gf⟩ := RecC.fr_open hF
    cases ef
    obtain ⟨_, nc, nC⟩ := Kd.N_reads' hN
    refine bodyPost_ret (v := .agg (eagg v (pI p A' c' A2 c2))) (results_cell Tryd.results7 rfl (ldE PZ)) rfl ⟨A', c', A2, c2, rfl, ⟨OK.out.s.below hB, gf _ (fun _ _ _ => rfl), HC.out, nC, nc⟩, Own.of_row hR (by decide), Own.low (own_N hN (by decide)) (by have := GE.out; omega), hB⟩
   | succ k1_ =>
    have hi : i < l.length := by have := HI.out; omega
    have p1 : 0 ≤ X := by have := HX.out; omega
    have q1 : X < (l.length : Int) := by have := HX.out; omega
    have l1 : decide (X < (l.length : Int)) = true := decide_eq_true q1
    have nx : wrap64 (X + 1) = X + 1 := by have := HX.out; have := HI.out; have := HL.out; unfold wrap64; omega
    obtain ⟨ad, B1, b1, hAx, y0, y1, y2, ly, gy⟩ := at_T51 (Kd.C_below OK.out.hx HB2.out) X p1 q1
    have hxi : rd_T51 l X = l[i] := by simp [rd_T51, HX.out, hi]
    have hm : LineOk l[i] := LO.out _ (List.getElem_mem hi)
    have hT : (l.map thL).take (i + 1) = (l.map thL).take i ++ [thL l[i]] := by rw [List.take_succ_eq_append_getElem (by simpa using hi)]; simp
    obtain ⟨x, hx⟩ : ∃ x, l[i] = x := ⟨_, rfl⟩
    rw [hxi] at y0 y1 y2 ly gy
    rw [hx] at y0 y1 y2 ly gy hm hT
    have x37 : wr.cell? ⟨w.heap.size, 37, none⟩ = some (.slice (some ad) l.length p.cx) := by rw [← hAx, ← LN.out]; exact (blk_cell k1 37).trans rfl
    have LY := Aside0.mk ly; have GY := Aside0.mk gy; have HM := Aside0.mk hm; have HT2 := Aside0.mk hT
    obtain ⟨L, hL⟩ : ∃ L, (l.map thL).take i = L := ⟨_, rfl⟩
    have LL := Aside0.mk (show L.length ≤ 100 by rw [← hL]; have := HL.out; simp; omega)
    rw [hL] at HN KE HT2
    replace p1 := eq_true p1; replace q1 := eq_true q1
    clear ly gy hm hx hxi hT hAx hi k1
    go_upto_region 5 with fail
    have HR := Aside0.mk (below_drew1 (Below.refl w4.heap.size wr))
    refine start_ (n := 12) (S := fun w' => w'.heap[gE]? = some (.cells (eagg (vI v L) (pI p A' c' A2 c2)) 41 (0, 0)) ∧ w'.cell? ⟨w.heap.size, 37, none⟩ = some (.slice (some ad) l.length p.cx) ∧ w'.cell? (ad.add (X.toNat * 3)) = some (.string x.f0) ∧ w'.cell? ⟨(ad.add (X.toNat * 3)).block, (ad.add (X.toNat * 3)).off + 1, none⟩ = some (.slice B1 x.f1.length b1) ∧ w'.cell? ⟨(ad.add (X.toNat * 3)).block, (ad.add (X.toNat * 3)).off + 2, none⟩ = some (.string x.f2)) (ds := [9, 11]) (tt 12 0) (by kernel_rfl) rfl rfl ⟨blk_drew KE.out, pw_cell_below (below_drew1 (Below.refl _ _)) x37, pw_cell_below (below_drew1 (Below.refl _ _)) y0, pw_cell_below (below_drew1 (Below.refl _ _)) y1, pw_cell_below (below_drew1 (Below.refl _ _)) y2⟩ (fun hHeld => ?_)
    refine with_tabW tabth5 bitsth5 (fun HT_ HW_ => ?_)
    replace HN := Aside0.mk (Kd.N_drew HN.out); have SW := Aside0.mk (show w4.heap.size ≤ wr.drew.heap.size from FR.out.1); have GY2 := Aside0.mk (Kd.C_below GY.out (below_drew1 (Below.refl wr.heap.size wr)))
    generalize wr.drew = wd_ at HR HN SW GY2 hHeld ⊢
    refine pu 0 (some 40) (tt 12 1) HT_ ?_
    refine take_ (i := 1) (N := some 41) (v := ?_) (a' := ?_) (tt 12 2) rfl rfl (take_ofW HT_.out HW_.out (by kernel_rfl)) (fun _ _ _ h => h) (Or.inl ⟨by rfl, ?_⟩) hHeld ?_ ?_
    rotate_left
    ·rintro w' ⟨s0, s1, s2, s3, s4⟩
     have q_ : w'.cell? ⟨gE, 37, none⟩ = some (.slice A2 L.length c2) := (blk_cell s0 37).trans rfl
     go_simp
     with_reducible rfl
    rotate_left
    ·simp only [Act.put, sA, sB, sC, i64_w, i32_w]
     rfl
    refine pu 2 (some 42) (tt 12 3) HT_ ?_
    refine take_ (i := 3) (N := some 43) (v := ?_) (a' := ?_) (tt 12 4) rfl rfl (take_ofW HT_.out HW_.out (by kernel_rfl)) (fun _ _ _ h => h) (Or.inl ⟨by rfl, ?_⟩) hHeld ?_ ?_
    rotate_left
    ·rintro w' ⟨s0, s1, s2, s3, s4⟩
     go_simp
     with_reducible rfl
    rotate_left
    ·simp only [Act.put, sA, sB, sC, i64_w, i32_w]
     rfl
    refine pu 4 (some 44) (tt 12 5) HT_ ?_
    refine pu 5 (some 45) (tt 12 6) HT_ ?_
    refine take_ (i := 6) (N := some 46) (v := ?_) (a' := ?_) (tt 12 7) rfl rfl (take_ofW HT_.out HW_.out (by kernel_rfl)) (fun _ _ _ h => h) (Or.inl ⟨by rfl, ?_⟩) hHeld ?_ ?_
    rotate_left
    ·rintro w' ⟨s0, s1, s2, s3, s4⟩
     go_simp
     with_reducible rfl
    rotate_left
    ·simp only [Act.put, sA, sB, sC, i64_w, i32_w]
     rfl
    refine one_ (i := 7) (N := some 47) (tt 12 8) rfl rfl (one_of HT_.out (by kernel_rfl)) (by decide) (fun K hK => ?_)
    refine goes_ Tryd.func22 (by kernel_rfl) rfl #[.agg #[.string x.f0, .slice B1 x.f1.length b1, .string x.f2]] (by rfl) rfl rfl (by (try simp only [List.map_toArray, List.map_cons, List.map_nil]); first | done | rfl) ?_
    refine (theirs10 x HM.out B1 b1 wd_ GY2.out LY.out).mono ?_
    rintro q wq ⟨v1, rfl, hS, hd⟩
    obtain ⟨Ao, co, rfl⟩ := Kd.S_slice hS
    refine ⟨_, rfl, ?_⟩
    have HS := Aside0.mk (R_base (Kd.S_R hS)); have NB := Aside0.mk (fun k hk => Nat.lt_of_lt_of_le (Kd.N_lt HN.out k hk) (Nat.le_refl wd_.heap.size)); replace HN := Aside0.mk (Kd.N_below HN.out hd); replace HR := Aside0.mk (below_then HR.out SW.out hd)
    have SW2 := Aside0.mk (show w4.heap.size ≤ wq.heap.size from Nat.le_trans SW.out hd.size)
    refine hK.out _ _ ⟨blk_below hHeld.1 hd, pw_cell_below hd hHeld.2.1, pw_cell_below hd hHeld.2.2.1, pw_cell_below hd hHeld.2.2.2.1, pw_cell_below hd hHeld.2.2.2.2⟩ (fun hHeld => ?_)
    clear hK K
    refine norm_ (a' := ?_) ?_ ?_
    rotate_left
    ·show Act.put _ (some 47) _ = _
     simp only [Act.put, sA, sB, sC, i64_w, i32_w]
     rfl
    clear hS hd
    refine one_ (i := 8) (N := some 48) (tt 12 9) rfl rfl (one_of HT_.out (by kernel_rfl)) (by decide) (fun K hK => ?_)
    refine value_ (w1 := ?_) (v := ?_) (by rfl) rfl ?_ ?_
    rotate_left 2
    ·go_simp
     constructor
     ·rfl
     ·rfl
    refine hK.out _ _ ⟨blk_alloc hHeld.1 _, Lib.cell?_alloc_some _ hHeld.2.1, Lib.cell?_alloc_some _ hHeld.2.2.1, Lib.cell?_alloc_some _ hHeld.2.2.2.1, Lib.cell?_alloc_some _ hHeld.2.2.2.2⟩ (fun hHeld2 => ?_)
    clear hK K hHeld2
    refine norm_ (a' := ?_) ?_ ?_
    rotate_left
    ·show Act.put _ (some 48) _ = _
     simp only [Act.put, sA, sB, sC, i64_w, i32_w]
     rfl
    refine last_ (i := 9) (N := some 49) (tt 12 10) rfl rfl (one_of HT_.out (by kernel_rfl)) (by decide) (fun K hK => ?_)
    refine Kd.N_append_step k58 (w0 := wr) w4.heap.size rfl (.tmp 41) (.tmp 48) 39 58 (.agg #[(.string ⟨#[]⟩), (.slice none 0 0), (.string ⟨#[]⟩)]) 56 rfl Tryd.underlying39 info58 rfl (by decide) (by omega) (.slice A2 L.length c2) L (thL x) [.string x.f0, .slice Ao x.f1.length co, .string x.f2] (fun k => w4.heap.size ≤ k) (fun k => wd_.heap.size ≤ k) rfl rfl ?aP (fun k hk => ⟨Nat.le_trans SW.out hk, fun e => by have := NB.out k e.symm; omega⟩) (fun k hk => Nat.le_trans SW2.out hk) HN.out HR.out SW2.out (by have := LL.out; omega) ?_
    (case aP => rw [show x.f1.length = (thL x).f1.length from (List.length_map ..).symm]; exact k58_mkF _ _ (thL x) (Kd.R_reads' HS.out).2.1 (Kd.N_F (Kd.R_N HS.out)))
    intro v4 w5 ho hb hg hat
    rw [← HT2.out] at ho
    obtain ⟨A3, c3, e3⟩ := Kd.N_slice ho
    subst e3
    have HO := Aside0.mk ho; have HB3 := Aside0.mk hb
    have KE2 := Aside0.mk ((hb.block gE (by have := GE.out; omega)).trans KE.out)
    refine hK.out _ _ ?_
    clear hK K ho hb hg hat
    refine norm_ (a' := ?_) ?_ ?_
    rotate_left
    ·show Act.put _ (some 49) _ = _
     simp only [Act.put, sA, sB, sC, i64_w, i32_w]
     rfl
    refine pu 10 (some 50) (tt 12 11) HT_ ?_
    refine last_ (i := 11) (N := none) (tt 12 12) rfl rfl (one_of HT_.out (by kernel_rfl)) (by decide) (fun K hK => ?_)
    have hs1 : w5.cell? ⟨gE, 37, none⟩ = some (.slice A2 L.length c2) := (blk_cell KE2.out 37).trans rfl
    have hs2 := blk_frozen KE2.out 37
    refine skip_ (w1 := ?_) (by rfl) rfl ?_ ?_
    rotate_left
    ·go_simp
     rfl
    refine hK.out _ _ ?_
    clear hK K
    refine done_ (done_of HT_.out (by kernel_rfl)) ?_
    clear HT_ HW_ hs1 hs2 x37 y0 y1 y2
    go_wp2_with fail
    go_roundg k1_
    case measure => omega
    case rel =>
     refine ⟨i + 1, X + 1, A3, c3, by simp [nx], ⟨by have := HX.out; push_cast; omega⟩, ⟨by have := HI.out; omega⟩, ⟨Kd.N_far HO.out (p := ⟨gE, 37, none⟩) (fun k hk => by have := GE.out; show k ≠ gE; omega) _⟩, ⟨?_⟩, ⟨?_, ?_⟩, ⟨(HB2.out.trans (HB3.out.mono HB.out.size)).setCell (p := ⟨gE, 37, none⟩) (by show w.heap.size ≤ gE; have := GE.out; omega) _⟩⟩
     ·rw [← setLines (vI v L) (pI p A' c' A2 c2) ((l.map thL).take (i + 1)) A3 c3]
      have e_ : min (i + 1) l.length = ((l.map thL).take (i + 1)).length := by simp
      rw [e_]
      exact blk_set KE2.out 37 _
     ·have := HB3.out.size; have := FR.out.1; simp [World.setCell]; omega
     ·intro k h1 h2
      exact (Below.heap_setCell w5 ⟨gE, 37, none⟩ _ k h2).trans ((HB3.out.block k h1).trans (FR.out.2 k h1 h2))
end Go.Proofs.YtddoidcbpcmlaaaDoor.Ths
/- (list).may and (list).formed: which numbers may stand in a list, and in which order. -/
namespace Go.Proofs.YtddoidcbpcmlaaaDoor.RecM
open Go.RowKit Go.Proofs.YtddoidcbpcmlaaaDoorW.PrintWords Go.Proofs.YtddoidcbpcmlaaaDoorW.PrintLast
set_option linter.unusedVariables false
set_option linter.unusedSimpArgs false
/-- May a number be in a list? -/
def mayF (lo hi : Int) (z : Bool) (n : Int) : Bool := decide (lo ≤ n) && decide (n ≤ hi) && (decide (n ≠ 0) || !z)
/-- Is a list as it should be, as far as so many? -/
def upto (lo hi : Int) (z : Bool) (l : List Int) (i : Nat) : Prop := ∀ j, j < i → mayF lo hi z (rd l (j : Int)) = true ∧ (0 < j → rd l ((j - 1 : Nat) : Int) < rd l (j : Int))
def formedF (lo hi : Int) (z : Bool) (l : List Int) : Bool := decide (l.length ≤ 40) && (List.range l.length).all fun j => mayF lo hi z (rd l (j : Int)) && (decide (j = 0) || decide (rd l ((j - 1 : Nat) : Int) < rd l (j : Int)))
theorem formedF_iff (lo hi : Int) (z : Bool) (l : List Int) : formedF lo hi z l = true ↔ l.length ≤ 40 ∧ upto lo hi z l l.length := by
 unfold formedF upto
 simp only [Bool.and_eq_true, decide_eq_true_eq, List.all_eq_true, List.mem_range, Bool.or_eq_true]
 constructor
 ·rintro ⟨h1, h2⟩
  exact ⟨h1, fun j hj => ⟨(h2 j hj).1, fun q => by rcases (h2 j hj).2 with e | e; omega; exact e⟩⟩
 ·rintro ⟨h1, h2⟩
  exact ⟨h1, fun j hj => ⟨(h2 j hj).1, by by_cases q : j = 0; exact Or.inl q; exact Or.inr ((h2 j hj).2 (by omega))⟩⟩
abbrev lv (nm : ByteArray) (p : Option Addr) (lo hi : Int) (z : Bool) : Value := .agg #[.string nm, .pointer p, .int .i64 lo, .int .i64 hi, .bool z]
set_option maxHeartbeats 4000000 in
set_option maxRecDepth 100000 in
theorem may (nm : ByteArray) (p : Option Addr) (lo hi n : Int) (z : Bool) (w : World) :
  Calls Tryd.prog 81 #[lv nm p lo hi z, .int .i64 n] w fun e w' => e = .returned (.bool (mayF lo hi z n)) ∧ Below w.heap.size w w' := by
 unfold mayF
 by_cases a : lo ≤ n
 ·have a1 : decide (lo ≤ n) = true := decide_eq_true a
  by_cases b : n ≤ hi
  ·have b1 : decide (n ≤ hi) = true := decide_eq_true b
   by_cases c : n = 0
   ·have c1 : (n != 0) = false := bne_eq_false_iff_eq.2 c
    have c2 : decide (n ≠ 0) = false := decide_eq_false (by simpa using c)
    rw [a1, b1, c2]
    clear a b c c2
    cases z
    all_goals
     go_enter Tryd.func81, Tryd.ntmps81
     go_wp2_with fail
     go_ret
     exact ⟨by simp, by repeat (with_reducible first | exact Below.refl _ _ | apply below_drew | apply pw_below_drewN | apply below_alloc)⟩
   ·have c1 : (n != 0) = true := bne_iff_ne.2 c
    have c2 : decide (n ≠ 0) = true := decide_eq_true c
    rw [a1, b1, c2]
    clear a b c c2
    go_enter Tryd.func81, Tryd.ntmps81
    go_wp2_with fail
    go_ret
    exact ⟨by simp, by repeat (with_reducible first | exact Below.refl _ _ | apply below_drew | apply pw_below_drewN | apply below_alloc)⟩
  ·have b1 : decide (n ≤ hi) = false := decide_eq_false b
   rw [a1, b1]
   clear a b
   go_enter Tryd.func81, Tryd.ntmps81
   go_wp2_with fail
   go_ret
   exact ⟨by simp, by repeat (with_reducible first | exact Below.refl _ _ | apply below_drew | apply pw_below_drewN | apply below_alloc)⟩
 ·have a1 : decide (lo ≤ n) = false := decide_eq_false a
  rw [a1]
  clear a
  go_enter Tryd.func81, Tryd.ntmps81
  go_wp2_with fail
  go_ret
  exact ⟨by simp, by repeat (with_reducible first | exact Below.refl _ _ | apply below_drew | apply pw_below_drewN | apply below_alloc)⟩
theorem upto_succ {lo hi : Int} {z : Bool} {l : List Int} {i : Nat} (h : upto lo hi z l i) (h1 : mayF lo hi z (rd l (i : Int)) = true) (h2 : 0 < i → rd l ((i - 1 : Nat) : Int) < rd l (i : Int)) : upto lo hi z l (i + 1) := fun j hj => by
 by_cases e : j = i
 ·subst e; exact ⟨h1, h2⟩
 ·exact h j (by omega)
theorem formed_yes {lo hi : Int} {z : Bool} {l : List Int} (h : l.length ≤ 40) (hu : upto lo hi z l l.length) : formedF lo hi z l = true := (formedF_iff lo hi z l).2 ⟨h, hu⟩
theorem not_true {b : Bool} (h : ¬ b = true) : b = false := by simpa using h
theorem formed_long {lo hi : Int} {z : Bool} {l : List Int} (h : ¬ l.length ≤ 40) : formedF lo hi z l = false := not_true fun q => h ((formedF_iff lo hi z l).1 q).1
theorem formed_not {lo hi : Int} {z : Bool} {l : List Int} {i : Nat} (hi' : i < l.length) (h : ¬ (mayF lo hi z (rd l (i : Int)) = true ∧ (0 < i → rd l ((i - 1 : Nat) : Int) < rd l (i : Int)))) : formedF lo hi z l = false :=
 not_true fun q => h (((formedF_iff lo hi z l).1 q).2 i hi')
set_option maxHeartbeats 4000000 in
set_option maxRecDepth 100000 in
theorem formed (nm : ByteArray) (ad : Addr) (lo hi : Int) (z : Bool) (A : Option Addr) (c : Nat) (l : List Int) (w : World) (hp : w.cell? ad = some (.slice A l.length c)) (hC : Kd.C (Kd.int .i64) w A l.length l) :
  Calls Tryd.prog 58 #[lv nm (some ad) lo hi z] w fun e w' => e = .returned (.bool (formedF lo hi z l)) ∧ Below w.heap.size w w' := by
 have HR := Aside0.mk hC
 have kept : ∀ o, (w.alloc o).cell? ad = some (.slice A l.length c) := fun o => pw_cell_below (below_alloc (Below.refl _ _) o) hp
 have hB0 : ∀ o, Below w.heap.size w (w.alloc o) := fun o => below_alloc (Below.refl _ _) o
 have hK0 : (w.alloc (.cells #[.string nm, .pointer (some ad), .int .i64 lo, .int .i64 hi, .bool z] 94 (0, 0))).heap[w.heap.size]? = some (.cells #[.string nm, .pointer (some ad), .int .i64 lo, .int .i64 hi, .bool z] 94 (0, 0)) := blk_new w _
 have HB := Aside0.mk (hB0 (.cells #[.string nm, .pointer (some ad), .int .i64 lo, .int .i64 hi, .bool z] 94 (0, 0)))
 have HK := Aside0.mk hK0
 clear hp hC hB0 hK0
 go_enter Tryd.func58, Tryd.ntmps58
 by_cases big : l.length ≤ 40
 ·have b1 : decide ((l.length : Int) > 40) = false := decide_eq_false (by omega)
  have BG := Aside0.mk big
  clear big
  go_wp2_with fail
  clear kept
  generalize w.alloc (.cells #[.string nm, .pointer (some ad), .int .i64 lo, .int .i64 hi, .bool z] 94 (0, 0)) = w0 at HB HK ⊢
  generalize hg : w.heap.size = g at HK HB ⊢
  go_loopg [15] l.length (fun kq v w' => ∃ (i : Nat) (x : Int), v = .int .i64 x ∧ Aside0 (x = (i : Int)) ∧ Aside0 (i + kq = l.length) ∧ Aside0 (upto lo hi z l i) ∧ Aside0 (w'.heap[g]? = some (.cells #[.string nm, .pointer (some ad), .int .i64 lo, .int .i64 hi, .bool z] 94 (0, 0))) ∧ Aside0 (Below g w w'))
  case atStart => exact ⟨0, 0, rfl, ⟨rfl⟩, ⟨by omega⟩, ⟨fun j hj => by omega⟩, HK, HB⟩
  case round =>
   clear HK HB
   obtain ⟨i, x, rfl, HX, HI, HU, HK, HB⟩ := hrel
   cases gk with
   | zero =>
    have e := HI.out
    obtain rfl : i = l.length := by omega
    have l1 : decide (x < (l.length : Int)) = false := decide_eq_false (by have := HX.out; omega)
    go_wp2_with fail
    go_ret
    exact ⟨by rw [formed_yes BG.out HU.out] <;> rfl, hg ▸ HB.out⟩
   | succ k1 =>
    have l1 : decide (x < (l.length : Int)) = true := decide_eq_true (by have := HX.out; have := HI.out; omega)
    have p1 : (0 ≤ x) = True := eq_true (by have := HX.out; omega)
    have q1 : (x < (l.length : Int)) = True := eq_true (by have := HX.out; have := HI.out; omega)
    obtain ⟨ab, eA, hx⟩ := Kd.at_int HR.out x (by have := HX.out; omega) (by have := HX.out; have := HI.out; omega)
    have hxw : wr.cell? (ab.add x.toNat) = some (.int .i64 (rd l x)) := by have := HB.out; rw [← hg] at this; exact pw_cell_below this hx
    have k0 := (blk_cell HK.out 0).trans rfl
    have k1_ := (blk_cell HK.out 1).trans rfl
    have k2 := (blk_cell HK.out 2).trans rfl
    have k3 := (blk_cell HK.out 3).trans rfl
    have k4 := (blk_cell HK.out 4).trans rfl
    subst eA
    go_wp2_with fail
    refine (may nm (some ad) lo hi (rd l x) z _).mono ?_
    rintro e w2 ⟨rfl, hB⟩
    have B1 : Below w.heap.size w wr := hg ▸ HB.out
    have B2 := Aside0.mk (below_then B1 B1.size hB)
    have HK2 := Aside0.mk (blk_below HK.out hB)
    replace hxw := pw_cell_below hB hxw
    clear hB B1 HK HB k0 k1_ k2 k3 k4
    by_cases m : mayF lo hi z (rd l x) = true
    ·rw [m]
     have HM := Aside0.mk (show mayF lo hi z (rd l (i : Int)) = true by rw [← HX.out]; exact m)
     clear m
     by_cases i0 : x > 0
     ·have c0 : decide (x > 0) = true := decide_eq_true i0
      obtain ⟨y, hy⟩ : ∃ y, y = wrap64 (x - 1) := ⟨_, rfl⟩
      have e3 : y = ((i - 1 : Nat) : Int) := by have := HX.out; have := BG.out; have := HI.out; rw [hy]; unfold wrap64; omega
      have l3 : wrap64 (x - 1) = y := hy.symm
      have p2 : (0 ≤ y) = True := eq_true (by omega)
      have q2 : (y < (l.length : Int)) = True := eq_true (by have := HI.out; omega)
      obtain ⟨ab2, eA2, hx2⟩ := Kd.at_int HR.out y (by omega) (by have := HI.out; omega)
      obtain rfl : ab = ab2 := Option.some.inj eA2
      have hxw2 := pw_cell_below B2.out hx2
      have HJ := Aside0.mk e3
      have HZ := Aside0.mk i0
      clear i0 hx hx2 eA2 e3 hy
      by_cases c : rd l y ≥ rd l x
      ·have c1 : decide (rd l y ≥ rd l x) = true := decide_eq_true c
       have HC := Aside0.mk c
       clear c
       go_wp2_with fail
       go_ret
       exact ⟨by rw [formed_not (i := i) (by have := HI.out; omega) (fun q => by have h1 := HZ.out; have h2 := q.2 (by have := HX.out; omega); rw [← HJ.out, ← HX.out] at h2; have := HC.out; omega)] <;> rfl, B2.out⟩
      ·have c1 : decide (rd l y ≥ rd l x) = false := decide_eq_false c
       have HC := Aside0.mk c
       clear c
       go_wp2_with fail
       go_roundg k1
       case measure => omega
       case rel => exact ⟨i + 1, _, rfl, ⟨by have := HX.out; have := BG.out; have := HI.out; unfold wrap64; omega⟩, ⟨by have := HI.out; omega⟩, ⟨upto_succ HU.out HM.out (fun _ => by have := HC.out; rw [← HJ.out, ← HX.out]; omega)⟩, HK2, ⟨hg ▸ B2.out⟩⟩
     ·have c0 : decide (x > 0) = false := decide_eq_false i0
      have HZ := Aside0.mk i0
      clear i0
      go_wp2_with fail
      go_roundg k1
      case measure => omega
      case rel => exact ⟨i + 1, _, rfl, ⟨by have := HX.out; have := BG.out; have := HI.out; unfold wrap64; omega⟩, ⟨by have := HI.out; omega⟩, ⟨upto_succ HU.out HM.out (fun q => absurd HZ.out (by have := HX.out; omega))⟩, HK2, ⟨hg ▸ B2.out⟩⟩
    ·have m1 : mayF lo hi z (rd l x) = false := by simpa using m
     rw [m1]
     have HM := Aside0.mk (show ¬ mayF lo hi z (rd l (i : Int)) = true by rw [← HX.out]; exact m)
     clear m m1
     go_wp2_with fail
     go_ret
     exact ⟨by rw [formed_not (i := i) (by have := HI.out; omega) (fun q => HM.out q.1)] <;> rfl, B2.out⟩
 ·have b1 : decide ((l.length : Int) > 40) = true := decide_eq_true (by omega)
  rw [formed_long big]
  clear big
  go_wp2_with fail
  go_ret
  exact ⟨rfl, HB.out⟩
end Go.Proofs.YtddoidcbpcmlaaaDoor.RecM
/- Contracts of Go's library at this seat: written by the kit's lay-shelf.mjs and lay-plain.mjs, picked by shelf_pick.py. -/
namespace Go.Proofs.YtddoidcbpcmlaaaDoor.Shelf
open Go.Shelf Go.Proofs
set_option linter.unusedVariables false
def lays137_ren : Go.Shelf.Ren := ⟨fun | 137 => 77 | 217 => 92 | 266 => 97 | n => n, fun | 9 => 9 | 5 => 5 | 3 => 3 | n => n, fun | n => n⟩
theorem lays137 : Go.Proofs.Lays.n137 Tryd.prog lays137_ren := {
 mixed := by kernel_rfl
 f137 := Tryd.func77.trans (congrArg some (by kernel_rfl))
 f217 := Tryd.func92.trans (congrArg some (by kernel_rfl))
 f266 := Tryd.func97.trans (congrArg some (by kernel_rfl))
 t3 := Tryd.underlying3
 a3 := Tryd.isAgg3
 z3 := Tryd.sizeOf3
 v3 := Tryd.zeroValue3
 t5 := Tryd.underlying5
 a5 := Tryd.isAgg5
 z5 := Tryd.sizeOf5
 v5 := Tryd.zeroValue5
 t9 := Tryd.underlying9
 a9 := Tryd.isAgg9
 z9 := Tryd.sizeOf9
 v9 := Tryd.zeroValue9 }
open Go.RowKit in
theorem strings_IndexByte (s : ByteArray) (c : Int) (w : World) :
  Calls Tryd.prog 77 #[.string s, .int .u8 c] w fun e w' => e = .returned (.int .i64 (Lib.indexByte s.data.toList c.toNat.toUInt8)) ∧ w' = w := Any.strings_IndexByte lays137 s c w
end Go.Proofs.YtddoidcbpcmlaaaDoor.Shelf
