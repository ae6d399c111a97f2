/- Texts of this claim, merged: ExU, ExS, Mmatchmonth. -/
import Derived.Test.YtfdcldjoncednaaGreatMgExpandUntil21
import Derived.RangeFuncWrites
import Derived.RangeFuncBox
import Derived.Maps.OwnIn
import Derived.Maps.AppendAt
import Derived.Test.YtfdcldjoncednaaGreatMgExpandUntil20
import Derived.Test.YtfdcldjoncednaaGreatMgExpandUntil18
import Derived.Test.YtfdcldjoncednaaGreatMgExpandUntil7
import Derived.Test.YtfdcldjoncednaaGreatMgExpandUntil8
/- expand.Until: the loop over Each. -/
namespace Go.Proofs.YtfdcldjoncednaaGreat.ExU
open Go.RowKit Go.Proofs.YtfdcldjoncednaaGreatW.PrintWords Go.Proofs.YtfdcldjoncednaaGreatW.PrintLast Go.Proofs.YtfdcldjoncednaaGreatW.PrintMore Go.Proofs.YtfdcldjoncednaaGreat.M Go.Proofs.YtfdcldjoncednaaGreat.Ru Go.Proofs.YtfdcldjoncednaaGreat.MatP Go.Proofs.YtfdcldjoncednaaGreat.MatG Go.Proofs.YtfdcldjoncednaaGreat.ExD Go.Proofs.YtfdcldjoncednaaGreat.ExO Go.Proofs.YtfdcldjoncednaaGreat.ExT Go.Proofs.YtfdcldjoncednaaGreat.ExE Go.Proofs.YtfdcldjoncednaaGreat.ExI
set_option linter.unusedVariables false
set_option linter.unusedSimpArgs false
attribute [local go_sem] Oper.semAt_some
theorem Kp_t {n Bx : Nat} {A B C : World} (h : Kp n Bx A B) (k : Kp n Bx B C) : Kp n Bx A C := by
 obtain ⟨h1, h2, h3⟩ := h; obtain ⟨k1, k2, k3⟩ := k
 have s1 := h1.size; have s2 := k1.size
 refine ⟨h1.trans k1, fun g cs t s hg hne ho => ?_, ?_⟩
 ·have e := h2 g cs t s hg hne ho
  have hlt := (Array.getElem?_eq_some_iff.1 hg).1
  refine (k2 g cs t s (e.trans hg) hne (fun q => ?_)).trans e
  rcases h3 with o | ⟨g', o, q1, q2⟩
  ·rw [o] at q; exact ho q
  ·rw [o] at q; have := Option.some.inj q; omega
 ·rcases k3 with o | ⟨g', o, q1, q2⟩
  ·rcases h3 with o' | ⟨g'', o', q1', q2'⟩
   ·exact .inl (o.trans o')
   ·exact .inr ⟨g'', o.trans o', q1', by omega⟩
  ·exact .inr ⟨g', o, by omega, q2⟩
theorem Kp_b {n Bx : Nat} {w : World} (hn : n ≤ w.heap.size) (hx : Bx < w.heap.size) (W : World) (l : Nat) (o o' : Obj) (hl : w.heap.size ≤ l) (h : W.heap[l]? = some o) (hc : o.isCells = false) (_ : o.isWalk = false) : Kp n Bx W (W.putObj l o') := by
 refine ⟨belowK_b hn W l o o' hl h hc ‹_›, fun g cs t s hg _ _ => ?_, .inl ?_⟩
 ·refine World.putObj_heap_other (fun e => ?_)
  subst e
  rw [h] at hg
  cases hg
  simp [Obj.isCells] at hc
 ·unfold own
  rw [World.cell?_of_block (w := W) (w' := W.putObj l o') (a := ⟨Bx, 0, none⟩) (World.putObj_heap_other (by show Bx ≠ l; omega))]
/-- The iterator's contract. -/
theorem stops (n Bx gR gB gL N S0 : Nat) (r : Ru) (p : Rp) (b last le dy : Int) (sf sl se : Int → Int) (tm : Int → List Int) (Pd : Int → Prop) (rest : List Int) (K : Nat) (we w : World)
  (ok : Ok r p we) (hI : Inv r p b last gR gB gL Bx S0 we w) (hS0 : S0 ≤ w.heap.size)
  (hd : clock_Day.f b = some dy) (hle : endF r last = le) (hP0 : Pd 0) (hPs : ∀ per, Pd per → se per = 0 → Pd (wrap64 (per + r.a1))) (hS : ∀ n, Pd n → SpanC r p dy n (sf n) (sl n) (se n)) (hT : ∀ n, Pd n → se n = 0 → TimC r p b n (tm n)) (hTl : ∀ n, (tm n).length ≤ 17000000000000)
  (hU : b ≤ last → eachL b le r.a1 sf se tm K 0 (wrap64 (r.a2 - 1)) = some rest) (hN : rest.length + 1 ≤ N) :
  SeqStopsK Fence.wide n Tryz.prog 71 #[.pointer (some ⟨gB, 0, none⟩), .pointer (some ⟨gL, 0, none⟩), .pointer (some ⟨gR, 0, none⟩)] (fun x : Int => #[Value.int .i64 x]) (Kp we.heap.size Bx) (fun xs => xs = allU b last rest) (fun pre => pre <+: allU b last rest) N w := fun l J Jx W hW hJ _ hY h0 => by
 refine callsIn_wide.2 ?_
 exact each1 (n - 1) l Bx gR gB gL N S0 r p b last le dy sf sl se tm Pd rest K we W J Jx
  (fun s W1 W2 hs hb => hJ s W1 W2 none hs ⟨hb.os, hb.tape, hb.output, hb.size, fun k hk _ => hb.block k hk⟩ (fun r e => by cases e)) hY ok (hI.below hW) hd hle hP0 hPs hS hT hTl hU hN h0
/-- What Until answers: a list, whether there is more, what is wrong. -/
def OutU (w' : World) (L : List Int) (more : Bool) (e : Int) (q : Ending) : Prop := ∃ A c, q = .returned (.tuple #[.slice A L.length c, .bool more, .int .i64 e]) ∧ (Kd.int .i64).C w' A L.length L ∧ L.length ≤ c
/-- Five blocks laid. -/
theorem five (w : World) (o1 o2 o3 o4 o5 : Obj) : ∃ w0, w0 = ((((w.alloc o1).alloc o2).alloc o3).alloc o4).alloc o5 ∧ w0.heap.size = w.heap.size + 5 ∧ w0.heap[w.heap.size]? = some o1 ∧ w0.heap[w.heap.size + 1]? = some o2 ∧ w0.heap[w.heap.size + 2]? = some o3 ∧ w0.heap[w.heap.size + 3]? = some o4 ∧ w0.heap[w.heap.size + 4]? = some o5 ∧ Below w.heap.size w w0 := by
 have b : ∀ (v : World) (o : Obj), Below v.heap.size v (v.alloc o) := fun v o => below_alloc (Below.refl _ _) o
 have h1 := blk_new w o1
 have h2 := blk_new (w.alloc o1) o2
 have h3 := blk_new ((w.alloc o1).alloc o2) o3
 have h4 := blk_new (((w.alloc o1).alloc o2).alloc o3) o4
 have h5 := blk_new ((((w.alloc o1).alloc o2).alloc o3).alloc o4) o5
 simp only [World.size_alloc] at h2 h3 h4 h5
 refine ⟨_, rfl, by simp only [World.size_alloc], ?_, ?_, ?_, ?_, h5, below_alloc (below_alloc (below_alloc (below_alloc (below_alloc (Below.refl _ _) _) _) _) _) _⟩
 ·exact blk_below (blk_below (blk_below (blk_below h1 (b _ _)) (b _ _)) (b _ _)) (b _ _)
 ·exact blk_below (blk_below (blk_below h2 (b _ _)) (b _ _)) (b _ _)
 ·exact blk_below (blk_below h3 (b _ _)) (b _ _)
 ·exact blk_below h4 (b _ _)
theorem triple (w : World) (o1 o2 o3 : Obj) : ∃ w0, w0 = ((w.alloc o1).alloc o2).alloc o3 ∧ w0.heap.size = w.heap.size + 3 ∧ w0.heap[w.heap.size]? = some o1 ∧ w0.heap[w.heap.size + 1]? = some o2 ∧ w0.heap[w.heap.size + 2]? = some o3 ∧ Below w.heap.size w w0 := by
 have b : ∀ (v : World) (o : Obj), Below v.heap.size v (v.alloc o) := fun v o => below_alloc (Below.refl _ _) o
 have h1 := blk_new w o1
 have h2 := blk_new (w.alloc o1) o2
 have h3 := blk_new ((w.alloc o1).alloc o2) o3
 simp only [World.size_alloc] at h2 h3
 exact ⟨_, rfl, by simp only [World.size_alloc], blk_below (blk_below h1 (b _ _)) (b _ _), blk_below h2 (b _ _), h3, below_alloc (below_alloc (below_alloc (Below.refl _ _) _) _) _⟩
/-- A row of the call's own behind the turn of a block that is no cells. -/
theorem R_turn {e base : Nat} {ok : Nat → Prop} {W W' : World} {v : Value} {xs : List Int} {row : Option Nat} (h : (Kd.int .i64).R e W base ok v xs) (hg : W.grownBy W' row) (hr : ∀ r, row = some r → ∃ o : Obj, W.heap[r]? = some o ∧ o.isCells = false) : (Kd.int .i64).R e W' base ok v xs := by
 refine Kd.R_mono (Kd.R_grown (Kd.R_bound h) hg (fun k hk q => ?_)) (fun k hk => hk.1)
 obtain ⟨_, _, _, _, _, cells, hc⟩ := hk
 obtain ⟨o, ho, hn⟩ := hr k q.symm
 rw [hc] at ho; cases ho; simp [Obj.isCells] at hn
/-- What the caller's own cells hold between two rounds. -/
def IU (w w3 : World) (Bx : Nat) (most : Int) (pre : List Int) (W : World) : Prop := (∃ v, Boxed W Bx 42 v ∧ (Kd.int .i64).R 2 W w3.heap.size (fun _ => True) v pre) ∧ (pre.length : Int) ≤ most ∧ Below w.heap.size w W ∧ w3.heap.size ≤ W.heap.size ∧ ∀ g, g < w3.heap.size → g ≠ Bx → W.heap[g]? = w3.heap[g]?
/-- A round has left. -/
def IX (w w3 : World) (most : Int) (c : Code) (q : List Int) (W : World) : Prop := c = .ret ∧ ∃ pre x v, q = pre ++ [x] ∧ (pre.length : Int) = most ∧ Boxed W (w.heap.size + 2) 42 v ∧ (Kd.int .i64).R 2 W w3.heap.size (fun _ => True) v pre ∧ Boxed W (w.heap.size + 3) 4 (.bool true) ∧ Boxed W (w.heap.size + 4) 30 (.int .i64 0) ∧ Below w.heap.size w W ∧ w3.heap.size ≤ W.heap.size
theorem box_turn {W W' : World} {B : Nat} {t : TypeId} {v : Value} {row : Option Nat} (h : Boxed W B t v) (hg : W.grownBy W' row) (hr : ∀ r, row = some r → ∃ o : Obj, W.heap[r]? = some o ∧ o.isCells = false) : Boxed W' B t v :=
 h.kept hg (fun e' => by obtain ⟨o, ho, hc⟩ := hr B e'.symm; rw [show W.heap[B]? = _ from h] at ho; cases ho; simp [Obj.isCells] at hc)
theorem IU_own (w w3 : World) (Bx : Nat) (most : Int) (hw : w.heap.size ≤ w3.heap.size) : OwnFrom w3.heap.size (IU w w3 Bx most) := by
 rintro pre W W' row ⟨⟨v, hv, hR⟩, hl, hb, hs, hk⟩ hg hr
 have hr' : ∀ r, row = some r → ∃ o : Obj, W.heap[r]? = some o ∧ o.isCells = false := fun r e => (hr r e).2
 refine ⟨⟨v, box_turn hv hg hr', R_turn hR hg hr'⟩, hl, hb.grown hg hb.size (fun k e => Nat.le_trans hw (hr k e).1), Nat.le_trans hs hg.size, fun g h1 h2 => ?_⟩
 rw [hg.block g (Nat.lt_of_lt_of_le h1 hs) (fun e => by have := (hr g e.symm).1; omega)]
 exact hk g h1 h2
theorem IX_own (w w3 : World) (most : Int) (hw : w.heap.size ≤ w3.heap.size) (c : Code) : OwnFrom w3.heap.size (IX w w3 most c) := by
 rintro q W W' row ⟨hc, pre, x, v, e, hl, h1, h2, h3, h4, hb, hs⟩ hg hr
 have hr' : ∀ r, row = some r → ∃ o : Obj, W.heap[r]? = some o ∧ o.isCells = false := fun r e => (hr r e).2
 exact ⟨hc, pre, x, v, e, hl, box_turn h1 hg hr', R_turn h2 hg hr', box_turn h3 hg hr', box_turn h4 hg hr', hb.grown hg hb.size (fun k e => Nat.le_trans hw (hr k e).1), Nat.le_trans hs hg.size⟩
theorem R_set {e base : Nat} {ok : Nat → Prop} {W : World} {v : Value} {xs : List Int} (h : (Kd.int .i64).R e W base ok v xs) {b : Nat} (hb : b < base) (u : Value) : (Kd.int .i64).R e (W.setCell ⟨b, 0, none⟩ u) base ok v xs :=
 Kd.R_mono (Kd.R_grown (Kd.R_bound h) (grownBy_setCell' W b u) (fun k hk q => by have := hk.2.1; have := Option.some.inj q; omega)) (fun k hk => hk.1)
theorem box_set {W : World} {B b : Nat} {t : TypeId} {v : Value} (h : Boxed W B t v) (hne : B ≠ b) (u : Value) : Boxed (W.setCell ⟨b, 0, none⟩ u) B t v := h.kept (grownBy_setCell' W b u) (fun q => hne (Option.some.inj q))
theorem size_set (W : World) (a : Addr) (u : Value) : (W.setCell a u).heap.size = W.heap.size := by
 have := (grownBy_setCell' W a.block u); simp [World.setCell]
/-- The three results stored. -/
theorem stored {W w : World} {b base n : Nat} {v v8 : Value} {m m9 : Bool} {pre : List Int} {e : Nat} {t8 t9 t10 : TypeId} (h8 : Boxed W b t8 v8) (h9 : Boxed W (b + 1) t9 (.bool m9)) (h10 : Boxed W (b + 1 + 1) t10 (.int .i64 0)) (hR : (Kd.int .i64).R e W base (fun _ => True) v pre) (hb : b + 2 < base) (hB : Below n w W) (hn : n ≤ b) :
  ∃ W3, W3 = ((W.setCell ⟨b, 0, none⟩ v).setCell ⟨b + 1, 0, none⟩ (.bool m)).setCell ⟨b + 1 + 1, 0, none⟩ (.int .i64 0) ∧ Boxed W3 b t8 v ∧ Boxed W3 (b + 1) t9 (.bool m) ∧ Boxed W3 (b + 1 + 1) t10 (.int .i64 0) ∧ (Kd.int .i64).R e W3 base (fun _ => True) v pre ∧ Below n w W3 ∧ W3.heap.size = W.heap.size ∧ KeepsOthers W W3 :=
 ⟨_, rfl, box_set (box_set (h8.set _) (by omega) _) (by omega) _, box_set ((box_set h9 (by omega) _).set _) (by omega) _, (box_set (box_set h10 (by omega) _) (by omega) _).set _, R_set (R_set (R_set hR (by omega) _) (by omega) _) (by omega) _,
  ((hB.setCell (p := ⟨b, 0, none⟩) hn _).setCell (p := ⟨b + 1, 0, none⟩) (by show n ≤ b + 1; omega) _).setCell (p := ⟨b + 1 + 1, 0, none⟩) (by show n ≤ b + 1 + 1; omega) _, by rw [size_set, size_set, size_set], (KeepsOthers.setCell _ _ _).trans ((KeepsOthers.setCell _ _ _).trans (KeepsOthers.setCell _ _ _))⟩
theorem own_box {W : World} {Bx : Nat} {t : TypeId} {v : Value} (h : Boxed W Bx t v) : own W Bx = v.ownBlock := by unfold own; rw [h.cell]; rfl
set_option maxRecDepth 100000 in
theorem infoL : (Tryz.prog.info? 2).map (fun i => (i.zero, i.size, i.bytes)) = some (some (.int .i64 0), 1, 8) := by kernel_rfl
/-- Behind 'l = append(l, x)' in a round: all that the round owes. -/
theorem appended {w w4 W w1 : World} {Bx : Nat} {most x : Int} {v v' : Value} {pre : List Int} {inner : List Value} (hv : Boxed W Bx 42 v) (h0 : ∀ k, v.ownBlock = some k → True)
  (hown : W.ownsRow w4.heap.size 2 1 v pre.length inner) (hrp : Reps ((Kd.int .i64).M W w4.heap.size (fun k => True ∧ some k ≠ v.ownBlock)) 1 pre inner) (hl : (pre.length : Int) < most) (hb : Below w.heap.size w W) (hs : w4.heap.size ≤ W.heap.size) (hw : w.heap.size ≤ w4.heap.size) (hB : w.heap.size ≤ Bx) (hBx : Bx < w4.heap.size) (hk : ∀ g, g < w4.heap.size → g ≠ Bx → W.heap[g]? = w4.heap[g]?) {tmp : Obj}
  (hown' : w1.ownsRow w4.heap.size 2 1 v' (pre.length + 1) (inner ++ [.int .i64 x])) (hg : (W.alloc tmp).grownBy w1 v.ownBlock) (hat : v'.ownBlock = v.ownBlock ∨ v'.ownBlock = some (W.alloc tmp).heap.size) :
  Boxed w1 Bx 42 v ∧ KeepsOthers W (w1.setCell ⟨Bx, 0, none⟩ v') ∧ Kp w.heap.size Bx W (w1.setCell ⟨Bx, 0, none⟩ v') ∧ IU w w4 Bx most (pre ++ [x]) (w1.setCell ⟨Bx, 0, none⟩ v') := by
 have hg2 : W.grownBy w1 v.ownBlock := World.grownBy.trans (World.grownBy_alloc W tmp _) hg
 have hv1 : Boxed w1 Bx 42 v := hv.kept hg2 (hv.not_row (by decide) hown)
 have hv2 := hv1.set v'
 have hge : ∀ k, v.ownBlock = some k → w4.heap.size ≤ k := fun k e => (hown.lt k e).1
 have hat2 : v'.ownBlock = v.ownBlock ∨ ∃ b, v'.ownBlock = some b ∧ W.heap.size ≤ b := hat.imp id (fun e => ⟨_, e, by simp⟩)
 have hR : (Kd.int .i64).R 2 w1 w4.heap.size (fun _ => True) v' (pre ++ [x]) := Kd.R_appended (okp := fun _ => False) (p := x) (cs := [.int .i64 x]) (fun _ _ => trivial) hrp rfl (fun _ h => h.elim) (fun _ _ => trivial) hown' hg2 hat2
 have hR2 : (Kd.int .i64).R 2 (w1.setCell ⟨Bx, 0, none⟩ v') w4.heap.size (fun _ => True) v' (pre ++ [x]) := R_set hR hBx _
 have hsz : (w1.setCell ⟨Bx, 0, none⟩ v').heap.size = w1.heap.size := size_set _ _ _
 have blk : ∀ g, g < W.heap.size → g ≠ Bx → v.ownBlock ≠ some g → (w1.setCell ⟨Bx, 0, none⟩ v').heap[g]? = W.heap[g]? := fun g h1 h2 h3 => by
  rw [(grownBy_setCell' w1 Bx v').block g (Nat.lt_of_lt_of_le h1 hg2.size) (fun e => h2 (Option.some.inj e)), hg2.block g h1 (fun e => h3 e.symm)]
 have hbel : Below w.heap.size W (w1.setCell ⟨Bx, 0, none⟩ v') := ((Below.refl w.heap.size W).grown hg2 (Nat.le_trans hw hs) (fun k e => Nat.le_trans hw (hge k e))).setCell (p := ⟨Bx, 0, none⟩) hB _
 refine ⟨hv1, ?_, ⟨hbel, fun g cs t s hg' hne ho => ?_, ?_⟩, ⟨⟨v', hv2, hR2⟩, by simp; omega, hb.trans hbel, by rw [hsz]; exact Nat.le_trans hs hg2.size, fun g h1 h2 => ?_⟩⟩
 ·refine (KeepsOthers.of_grownBy hg2 fun j o ej hj => ?_).trans (KeepsOthers.setCell _ _ _)
  rcases hown.2 with ⟨rfl, _⟩ | ⟨g, cap, cur, rfl, _, hgb, _⟩
  ·simp [Value.ownBlock] at ej
  ·obtain rfl : g = j := by simpa [Value.ownBlock] using ej
   rw [hgb] at hj; cases hj; rfl
 ·rw [own_box hv] at ho
  exact blk g (Array.getElem?_eq_some_iff.1 hg').1 hne ho
 ·rw [own_box hv, own_box hv2]
  rcases hat2 with e | ⟨g, e, h1⟩
  ·exact .inl e
  ·exact .inr ⟨g, e, h1, by rw [hsz]; exact Kd.R_lt hR g e⟩
 ·rw [blk g (Nat.lt_of_lt_of_le h1 hs) h2 (fun e => by have := hge g e; omega)]
  exact hk g h1 h2
set_option maxHeartbeats 8000000 in
set_option maxRecDepth 100000 in
theorem untilOk (k : Nat) (r : Ru) (p : Rp) (b last most le dy : Int) (sf sl se : Int → Int) (tm : Int → List Int) (Pd : Int → Prop) (rest : List Int) (K : Nat) (w : World) (ok : Ok r p w) (hf : FormOk k r true) (hr : clock_Right.f b = some true) (hm : ¬ most < 0)
  (hd : clock_Day.f b = some dy) (hle : endF r last = le) (hP0 : Pd 0) (hPs : ∀ per, Pd per → se per = 0 → Pd (wrap64 (per + r.a1))) (hS : ∀ n, Pd n → SpanC r p dy n (sf n) (sl n) (se n)) (hT : ∀ n, Pd n → se n = 0 → TimC r p b n (tm n)) (hTl : ∀ n, (tm n).length ≤ 17000000000000)
  (hU : b ≤ last → eachL b le r.a1 sf se tm K 0 (wrap64 (r.a2 - 1)) = some rest) (hN : rest.length ≤ 17000000000000 ∨ most ≤ 17000000000000) :
  Calls Tryz.prog 15 #[.agg (agg r p), .int .i64 b, .int .i64 last, .int .i64 most] w fun e W' => OutU W' ((allU b last rest).take most.toNat) (decide (most < ((allU b last rest).length : Int))) 0 e ∧ Below w.heap.size w W' := by
 have OK := Aside0.mk ok
 have HK := Aside0.mk (blk_new w (obj r p))
 have HB := Aside0.mk (below_alloc (Below.refl w.heap.size w) (obj r p))
 refine (callsIn_wide (n := 10)).1 ?_
 refine callsIn_of_wp_marks Tryz.func15 rfl trivial ?_ rfl
 simp only [Tryz.ntmps15, List.size_toArray, List.length_cons, List.length_nil, Nat.reduceAdd, Nat.reduceSub, Array.replicate_succ, Array.replicate_zero, List.push_toArray, List.append_toArray, List.nil_append, List.cons_append]
 refine wpIn_wide.2 ?_
 go_upto_region 1 with fail
 obtain ⟨w0, hw0, hz0, q1, q2, q3, q4, q5, qb⟩ := five w (.cells (agg r p) 27 (0, 0)) (.cells #[.int .i64 most] 3 (0, 0)) (.cells #[.slice none 0 0] 42 (0, 0)) (.cells #[.bool false] 4 (0, 0)) (.cells #[.int .i64 0] 30 (0, 0))
 rw [← hw0]
 clear hw0 HK HB
 have HB := Aside0.mk qb; have HK := Aside0.mk (show w0.heap[w.heap.size]? = some (obj r p) from q1); have HM := Aside0.mk q2; have H8 := Aside0.mk q3; have H9 := Aside0.mk q4; have H10 := Aside0.mk q5; have HZ := Aside0.mk hz0
 clear qb q1 q2 q3 q4 q5 hz0
 have HF := Aside0.mk hf; have HR := Aside0.mk hr; clear hf hr
 go_wp2_with ((with_reducible refine gate_ (.load 27 (.tmp 4)) rfl ?_); refine Kd.event_run rfl (xR (.tmp 4) (w.heap.size) r p rfl rfl _ HK.out) ?_)
 refine (asked k r p true true b _ (OK.out.below HB.out) HF.out HR.out).mono ?_
 rintro q w1 ⟨rfl, hb⟩
 have e0 : askE true true = 0 := rfl
 rw [e0]; clear e0
 replace HK := Aside0.mk (blk_below HK.out hb); replace HM := Aside0.mk (blk_below HM.out hb); replace H8 := Aside0.mk (blk_below H8.out hb); replace H9 := Aside0.mk (blk_below H9.out hb); replace H10 := Aside0.mk (blk_below H10.out hb)
 have HZ1 := Aside0.mk (show w.heap.size + 5 ≤ w1.heap.size by have := hb.size; have := HZ.out; omega)
 replace HB := Aside0.mk (below_then HB.out HB.out.size hb)
 clear hb HZ HF HR
 have km : w1.cell? ⟨w.heap.size + 1, 0, none⟩ = some (.int .i64 most) := (blk_cell HM.out 0).trans rfl
 have m1 : decide (most < 0) = false := decide_eq_false (by omega)
 go_upto_region 7 with fail
 have HX := Aside0.mk (blk_new w1 (.cells #[.slice none 0 0] 42 (0, 0)))
 have hb : Below w1.heap.size w1 (w1.alloc (.cells #[.slice none 0 0] 42 (0, 0))) := below_alloc (Below.refl _ _) _
 replace HK := Aside0.mk (blk_below HK.out hb); replace HM := Aside0.mk (blk_below HM.out hb); replace H8 := Aside0.mk (blk_below H8.out hb); replace H9 := Aside0.mk (blk_below H9.out hb); replace H10 := Aside0.mk (blk_below H10.out hb)
 replace HB := Aside0.mk (below_then HB.out HB.out.size hb)
 have HZ2 := Aside0.mk (show (w1.alloc (.cells #[.slice none 0 0] 42 (0, 0))).heap.size = w1.heap.size + 1 from World.size_alloc _ _)
 clear hb km m1
 generalize hBx : w1.heap.size = Bx at HX HZ1 HZ2 ⊢
 generalize w1.alloc (.cells #[.slice none 0 0] 42 (0, 0)) = w2 at HX HK HM H8 H9 H10 HB HZ2 ⊢
 clear hBx
 go_wp2_with ((with_reducible refine gate_ (.load 27 (.tmp 4)) rfl ?_); refine Kd.event_run rfl (xR (.tmp 4) (w.heap.size) r p rfl rfl _ HK.out) ?_)
 refine (each r p b last w2).mono ?_
 rintro q w3 ⟨rfl, hw3⟩
 rw [HZ2.out]
 obtain ⟨w4, hw4, hz4, t1, t2, t3, tb⟩ := triple w2 (obj r p) (.cells #[.int .i64 b] 2 (0, 0)) (.cells #[.int .i64 last] 2 (0, 0))
 rw [hw3, ← hw4]
 clear hw3 hw4 w3
 rw [HZ2.out] at t1 t2 t3 hz4
 have tb2 : Below w2.heap.size w2 w4 := tb
 have HI := Aside0.mk (show Inv r p b last (Bx + 1) (Bx + 1 + 1) (Bx + 1 + 2) Bx w4.heap.size w w4 from
  ⟨below_then HB.out HB.out.size tb2, t1, t2, t3, by omega, Nat.le_refl _, fun g e => by
   exfalso
   have hc : w4.cell? ⟨Bx, 0, none⟩ = some (.slice none 0 0) := (blk_cell (blk_below HX.out tb2) 0).trans rfl
   unfold own at e; rw [hc] at e; simp [Value.ownBlock] at e, by omega, by omega⟩)
 have HX4 := Aside0.mk (show Boxed w4 Bx 42 (.slice none 0 0) from blk_below HX.out tb2)
 have HM4 := Aside0.mk (blk_below HM.out tb2); have H84 := Aside0.mk (blk_below H8.out tb2); have H94 := Aside0.mk (blk_below H9.out tb2); have H104 := Aside0.mk (blk_below H10.out tb2)
 have HB4 := Aside0.mk (below_then HB.out HB.out.size tb2)
 have HZ4 := Aside0.mk hz4
 clear tb tb2 t1 t2 t3 hz4 HK HX HM H8 H9 H10 HB
 have MM := Aside0.mk hm
 have HST := Aside0.mk (stops 9 Bx (Bx + 1) (Bx + 1 + 1) (Bx + 1 + 2) (rest.length + 1) w4.heap.size r p b last le dy sf sl se tm Pd rest K w w4 OK.out HI.out (Nat.le_refl _) hd hle hP0 hPs hS hT hTl hU (Nat.le_refl _))
 have LR := Aside0.mk hN
 clear hd hle hP0 hPs hS hT hTl hU hN hm ok HI HZ2 w2
 go_wp2_with fail
 refine (wpIn_wide (n := 10)).1 ?_
 refine wpIn_rangeFunc_ownG rfl (by decide) (gf := 71) (lb := #[.pointer (some ⟨Bx + 1 + 1, 0, none⟩), .pointer (some ⟨Bx + 1 + 2, 0, none⟩), .pointer (some ⟨Bx + 1, 0, none⟩)]) rfl trivial (enters_of Tryz.func71 (by kernel_rfl) rfl)
  HST.out Kp_t (Kp_b HB4.out.size (by have := HZ4.out; have := HZ1.out; omega)) (Below.refl _ _) (fun _ => rfl)
  (IU w w4 Bx most) (IX w w4 most) (IU_own w w4 Bx most HB4.out.size) (IX_own w w4 most HB4.out.size)
  ⟨⟨_, HX4.out, Kd.R_nil _ _ _ _ _⟩, by have := MM.out; simp; omega, HB4.out, Nat.le_refl _, fun _ _ _ => rfl⟩
  (fun x => { tmps := #[Value.agg (agg r p), Value.int IntKind.i64 b, Value.int IntKind.i64 last, Value.int IntKind.i64 most,
     Value.pointer (some ⟨w.heap.size, 0, none⟩), undef, undef,
     Value.pointer (some ⟨w.heap.size + 1, 0, none⟩),
     Value.pointer (some ⟨w.heap.size + 1 + 1, 0, none⟩),
     Value.pointer (some ⟨w.heap.size + 1 + 1 + 1, 0, none⟩),
     Value.pointer (some ⟨w.heap.size + 1 + 1 + 1 + 1, 0, none⟩), Value.int IntKind.i64 0,
     Value.pointer (some ⟨Bx, 0, none⟩), .int .i64 x, Value.agg (agg r p), Value.int IntKind.i64 b,
     Value.int IntKind.i64 0, Value.int IntKind.i64 0, Value.bool false, undef, Value.int IntKind.i64 most,
     Value.bool false, Value.agg (agg r p), Value.int IntKind.i64 b, Value.int IntKind.i64 last,
     Value.func (Fn.func 71) #[]
      #[Value.pointer (some ⟨Bx + 1 + 1, 0, none⟩),
       Value.pointer (some ⟨Bx + 1 + 2, 0, none⟩),
       Value.pointer (some ⟨Bx + 1, 0, none⟩)],
     .int .i64 x, undef, undef, undef, undef, undef, undef, undef, undef, undef, undef], defers := [] }) ?assign ?body ?done ?stop
 case assign =>
  intro l x W K hK
  gi_wp2
  exact hK
 case body =>
  rintro l pre x W ⟨⟨v, hv, hR⟩, hl, hb, hs, hk⟩ hlt
  have bM : Boxed W (w.heap.size + 1) 3 (.int .i64 most) := (hk _ (by have := HZ4.out; have := HZ1.out; omega) (by have := HZ1.out; omega)).trans HM4.out
  have cM := bM.cell
  obtain ⟨A, c, rfl, hlc, hC⟩ := Kd.R_reads hR
  have hc := hv.cell
  have hf := hv.frozen
  by_cases z : (pre.length : Int) = most
  ·have z1 : ((pre.length : Int) == most) = true := beq_iff_eq.2 z
   have b8 : Boxed W (w.heap.size + 1 + 1) 42 (.slice none 0 0) := (hk _ (by have := HZ4.out; have := HZ1.out; omega) (by have := HZ1.out; omega)).trans H84.out
   have b9 : Boxed W (w.heap.size + 1 + 1 + 1) 4 (.bool false) := (hk _ (by have := HZ4.out; have := HZ1.out; omega) (by have := HZ1.out; omega)).trans H94.out
   have b10 : Boxed W (w.heap.size + 1 + 1 + 1 + 1) 30 (.int .i64 0) := (hk _ (by have := HZ4.out; have := HZ1.out; omega) (by have := HZ1.out; omega)).trans H104.out
   have f8 := b8.frozen; have f9 := b9.frozen; have f10 := b10.frozen
   have c8 := b8.cell; have c9 := b9.cell; have c10 := b10.cell
   gi_wp2
   have g := HZ1.out
   have g4 := HZ4.out
   refine ⟨((KeepsOthers.setCell _ _ _).trans ((KeepsOthers.setCell _ _ _).trans (KeepsOthers.setCell _ _ _))).from _, rfl, pre, x, _, rfl, z, box_set (box_set (b8.set _) (by omega) _) (by omega) _, R_set (R_set (R_set hR (by omega) _) (by omega) _) (by omega) _, box_set ((box_set b9 (by omega) _).set _) (by omega) _, (box_set (box_set b10 (by omega) _) (by omega) _).set _, ?_, ?_⟩
   ·exact ((hb.setCell (p := ⟨w.heap.size + 1 + 1, 0, none⟩) (by show w.heap.size ≤ w.heap.size + 1 + 1; omega) _).setCell (p := ⟨w.heap.size + 1 + 1 + 1, 0, none⟩) (by show w.heap.size ≤ w.heap.size + 1 + 1 + 1; omega) _).setCell (p := ⟨w.heap.size + 1 + 1 + 1 + 1, 0, none⟩) (by show w.heap.size ≤ w.heap.size + 1 + 1 + 1 + 1; omega) _
   ·rw [size_set, size_set, size_set]; exact hs
  ·have z1 : ((pre.length : Int) == most) = false := beq_eq_false_iff_ne.2 z
   obtain ⟨h0, inner, hown, hrp⟩ := hR
   obtain ⟨i0, hi, hz0, hz1, hz2⟩ := info_parts infoL
   have ZZ := HZ1.out
   have Z4 := HZ4.out
   have LR_ := LR.out
   have hB4 := HB4.out.size
   have lt : (pre.length : Int) < most := by omega
   have e1 : (Kd.int .i64).sz = 1 := rfl
   gi_wp2_with (gi_at_builtin; refine wpListIn_append_own_at _ rfl _ _ 42 rfl w4.heap.size 2 i0 (.int .i64 0) 1 8 Tryz.underlying42 hi hz0 hz1 hz2 rfl (by decide) _ _ _ rfl (hown.alloc _) ⟨W.heap.size, 0, none⟩ 1 1 [.int .i64 x] rfl rfl (cell_one_new _ _ _) (by simp [Value.oneCell']) (by simp only [maxLen]; omega) (by omega) (by simp; omega) ?_; intro v' w1 hown' hgrow _ hat; obtain ⟨g', cap', rfl⟩ := ownsRow_succ hown'; obtain ⟨hv1, hk1, hk2, hk3⟩ := appended (most := most) hv (fun _ _ => trivial) hown hrp lt hb hs hB4 (by omega) (by omega) hk hown' hgrow hat; have hc1 := hv1.cell; have hf1 := hv1.frozen)
   exact ⟨hk1.from _, hk2, hk3⟩
 case done =>
  rintro D xs W hD hS ⟨⟨v, hv, hR⟩, hl, hb, hs, hk⟩ hK
  obtain ⟨A, c, rfl, hlc, hC⟩ := Kd.R_reads hR
  have hc := hv.cell
  have b8 : Boxed W (w.heap.size + 1 + 1) 42 (.slice none 0 0) := (hk _ (by have := HZ4.out; have := HZ1.out; omega) (by have := HZ1.out; omega)).trans H84.out
  have b9 : Boxed W (w.heap.size + 1 + 1 + 1) 4 (.bool false) := (hk _ (by have := HZ4.out; have := HZ1.out; omega) (by have := HZ1.out; omega)).trans H94.out
  have b10 : Boxed W (w.heap.size + 1 + 1 + 1 + 1) 30 (.int .i64 0) := (hk _ (by have := HZ4.out; have := HZ1.out; omega) (by have := HZ1.out; omega)).trans H104.out
  have f8 := b8.frozen; have f9 := b9.frozen; have f10 := b10.frozen
  have c8 := b8.cell; have c9 := b9.cell; have c10 := b10.cell
  have ZZ := HZ1.out
  have Z4 := HZ4.out
  obtain ⟨W3, hW3, d8, d9, d10, dR, dB, dS, dK⟩ := stored (m := false) b8 b9 b10 hR (by omega) hb (by omega)
  have DK := Aside0.mk (dK.same D _ hK rfl)
  have D8 := Aside0.mk d8; have D9 := Aside0.mk d9; have D10 := Aside0.mk d10; have DR := Aside0.mk dR; have DB := Aside0.mk dB; have HS_ := Aside0.mk hS; have HL := Aside0.mk hl; have HD_ := Aside0.mk hD; have DS := Aside0.mk dS; have HSZ := Aside0.mk hs
  clear d8 d9 d10 dR dB dK dS hS hl hb hs hk hK hD hR hC hlc
  gi_wp2
  go_wp2_with fail
  rw [← hW3]
  refine ⟨by simp, .inl ⟨_, _, rfl, run_takeDeferred DK.out, ?_⟩⟩
  have nc : ∀ r, some D = some r → ∃ o : Obj, W3.heap[r]? = some o ∧ o.isCells = false := fun r e => by cases e; exact ⟨_, DK.out, rfl⟩
  have gb := grownBy_putObj' W3 D (.deferred none)
  have c8' := (box_turn D8.out gb nc).cell
  have c9' := (box_turn D9.out gb nc).cell
  have c10' := (box_turn D10.out gb nc).cell
  have DR' := R_turn DR.out gb nc
  obtain ⟨A', c', hv', hlc', hC'⟩ := Kd.R_reads DR'
  have DB' := DB.out.grown gb DB.out.size (fun k e => by cases e; have := HD_.out; have := HB4.out.size; omega)
  refine ⟨.tuple #[.slice A xs.length c, .bool false, .int .i64 0], ?_, ?_⟩
  ·simp [results, go_sem, c8', c9', c10']
  ·have e1 : (allU b last rest).take most.toNat = xs := by rw [← HS_.out]; exact List.take_of_length_le (by have := HL.out; omega)
   have e2 : decide (most < ((allU b last rest).length : Int)) = false := by rw [← HS_.out]; exact decide_eq_false (by have := HL.out; omega)
   rw [e1, e2]
   cases hv'
   exact ⟨⟨A, c, rfl, hC', hlc'⟩, DB'⟩
 case stop =>
  rintro D c0 q W hD hSp ⟨rfl, pre, x, v, rfl, hl, b8, hR, b9, b10, hb, hs⟩ hK
  obtain ⟨A, c, rfl, hlc, hC⟩ := Kd.R_reads hR
  have DK := Aside0.mk hK
  have D8 := Aside0.mk b8; have D9 := Aside0.mk b9; have D10 := Aside0.mk b10; have DR := Aside0.mk hR; have DB := Aside0.mk hb; have HS_ := Aside0.mk hSp; have HL := Aside0.mk hl; have HD_ := Aside0.mk hD
  clear b8 b9 b10 hR hb hSp hl hD hK hC hlc hs
  gi_wp2
  refine ⟨by simp, .inl ⟨_, _, rfl, run_takeDeferred DK.out, ?_⟩⟩
  have nc : ∀ r, some D = some r → ∃ o : Obj, W.heap[r]? = some o ∧ o.isCells = false := fun r e => by cases e; exact ⟨_, DK.out, rfl⟩
  have gb := grownBy_putObj' W D (.deferred none)
  have c8' := (box_turn D8.out gb nc).cell
  have c9' := (box_turn D9.out gb nc).cell
  have c10' := (box_turn D10.out gb nc).cell
  have DR' := R_turn DR.out gb nc
  obtain ⟨A', c', hv', hlc', hC'⟩ := Kd.R_reads DR'
  have DB' := DB.out.grown gb DB.out.size (fun k e => by cases e; have := HD_.out; have := HB4.out.size; omega)
  refine ⟨.tuple #[.slice A pre.length c, .bool true, .int .i64 0], ?_, ?_⟩
  ·simp [results, go_sem, c8', c9', c10']
  ·have hp : pre ++ [x] <+: allU b last rest := HS_.out
   have hp2 : pre <+: allU b last rest := (List.prefix_append pre [x]).trans hp
   have e1 : (allU b last rest).take most.toNat = pre := by
    rw [show most.toNat = pre.length by have := HL.out; omega]
    exact (List.prefix_iff_eq_take.1 hp2).symm
   have e2 : decide (most < ((allU b last rest).length : Int)) = true := decide_eq_true (by have := hp.length_le; have := HL.out; simp at *; omega)
   rw [e1, e2]
   cases hv'
   exact ⟨⟨A, c, rfl, hC', hlc'⟩, DB'⟩
set_option maxHeartbeats 4000000 in
set_option maxRecDepth 100000 in
theorem untilBad (k : Nat) (r : Ru) (p : Rp) (fb rb : Bool) (b last most e : Int) (w : World) (ok : Ok r p w) (hf : FormOk k r fb) (hr : clock_Right.f b = some rb) (he : askE fb rb = e) (ne : e ≠ 0) :
  Calls Tryz.prog 15 #[.agg (agg r p), .int .i64 b, .int .i64 last, .int .i64 most] w fun q W' => OutU W' [] false (e) q ∧ Below w.heap.size w W' := by
 have OK := Aside0.mk ok; have HF := Aside0.mk hf; have HR := Aside0.mk hr; have HE := Aside0.mk he; clear ok hf hr he
 have n1 : (e != 0) = true := bne_iff_ne.2 ne; clear ne
 go_enter Tryz.func15, Tryz.ntmps15
 go_upto_region 1 with fail
 obtain ⟨w0, hw0, hz0, q1, q2, q3, q4, q5, qb⟩ := five w (.cells (agg r p) 27 (0, 0)) (.cells #[.int .i64 most] 3 (0, 0)) (.cells #[.slice none 0 0] 42 (0, 0)) (.cells #[.bool false] 4 (0, 0)) (.cells #[.int .i64 0] 30 (0, 0))
 rw [← hw0]
 clear hw0
 have HB := Aside0.mk qb; have HK := Aside0.mk (show w0.heap[w.heap.size]? = some (obj r p) from q1); have HM := Aside0.mk q2; have H8 := Aside0.mk q3; have H9 := Aside0.mk q4; have H10 := Aside0.mk q5
 clear qb q1 q2 q3 q4 q5 hz0
 go_wp2_with ((with_reducible refine gate_ (.load 27 (.tmp 4)) rfl ?_); refine Kd.event_run rfl (xR (.tmp 4) (w.heap.size) r p rfl rfl _ HK.out) ?_)
 refine (asked k r p fb rb b _ (OK.out.below HB.out) HF.out HR.out).mono ?_
 rintro q w1 ⟨rfl, hb⟩
 rw [HE.out]
 replace HM := Aside0.mk (blk_below HM.out hb); replace H8 := Aside0.mk (blk_below H8.out hb); replace H9 := Aside0.mk (blk_below H9.out hb); replace H10 := Aside0.mk (blk_below H10.out hb)
 replace HB := Aside0.mk (below_then HB.out HB.out.size hb)
 clear hb HK
 have km : w1.cell? ⟨w.heap.size + 1, 0, none⟩ = some (.int .i64 most) := (blk_cell HM.out 0).trans rfl
 have b8 : Boxed w1 (w.heap.size + 1 + 1) 42 (.slice none 0 0) := H8.out
 have b9 : Boxed w1 (w.heap.size + 1 + 1 + 1) 4 (.bool false) := H9.out
 have b10 : Boxed w1 (w.heap.size + 1 + 1 + 1 + 1) 30 (.int .i64 0) := H10.out
 have f8 := b8.frozen; have f9 := b9.frozen; have f10 := b10.frozen
 have c8 := b8.cell; have c9 := b9.cell; have c10 := b10.cell
 go_wp2_with fail
 have d8 := (box_set (b := w.heap.size + 1 + 1 + 1 + 1) (box_set (b := w.heap.size + 1 + 1 + 1) (b8.set (.slice none 0 0)) (by omega) (.bool false)) (by omega) (.int .i64 (e))).cell
 have d9 := (box_set (b := w.heap.size + 1 + 1 + 1 + 1) ((box_set (b := w.heap.size + 1 + 1) b9 (by omega) (.slice none 0 0)).set (.bool false)) (by omega) (.int .i64 (e))).cell
 have d10 := ((box_set (b := w.heap.size + 1 + 1 + 1) (box_set (b := w.heap.size + 1 + 1) b10 (by omega) (.slice none 0 0)) (by omega) (.bool false)).set (.int .i64 (e))).cell
 refine bodyPost_ret (v := .tuple #[.slice none 0 0, .bool false, .int .i64 (e)]) (by simp [results, go_sem, d8, d9, d10]) rfl ⟨⟨none, 0, rfl, Kd.C_nil _ _, Nat.le_refl _⟩, ?_⟩
 exact ((HB.out.setCell (p := ⟨w.heap.size + 1 + 1, 0, none⟩) (by show w.heap.size ≤ w.heap.size + 1 + 1; omega) _).setCell (p := ⟨w.heap.size + 1 + 1 + 1, 0, none⟩) (by show w.heap.size ≤ w.heap.size + 1 + 1 + 1; omega) _).setCell (p := ⟨w.heap.size + 1 + 1 + 1 + 1, 0, none⟩) (by show w.heap.size ≤ w.heap.size + 1 + 1 + 1 + 1; omega) _
set_option maxHeartbeats 4000000 in
set_option maxRecDepth 100000 in
theorem untilNeg (k : Nat) (r : Ru) (p : Rp) (fb rb : Bool) (b last most e : Int) (w : World) (ok : Ok r p w) (hf : FormOk k r fb) (hr : clock_Right.f b = some rb) (he : askE fb rb = 0) (hm : most < 0) :
  Calls Tryz.prog 15 #[.agg (agg r p), .int .i64 b, .int .i64 last, .int .i64 most] w fun q W' => OutU W' [] false (1) q ∧ Below w.heap.size w W' := by
 have OK := Aside0.mk ok; have HF := Aside0.mk hf; have HR := Aside0.mk hr; have HE := Aside0.mk he; clear ok hf hr he
 have m1 : decide (most < 0) = true := decide_eq_true hm; clear hm
 go_enter Tryz.func15, Tryz.ntmps15
 go_upto_region 1 with fail
 obtain ⟨w0, hw0, hz0, q1, q2, q3, q4, q5, qb⟩ := five w (.cells (agg r p) 27 (0, 0)) (.cells #[.int .i64 most] 3 (0, 0)) (.cells #[.slice none 0 0] 42 (0, 0)) (.cells #[.bool false] 4 (0, 0)) (.cells #[.int .i64 0] 30 (0, 0))
 rw [← hw0]
 clear hw0
 have HB := Aside0.mk qb; have HK := Aside0.mk (show w0.heap[w.heap.size]? = some (obj r p) from q1); have HM := Aside0.mk q2; have H8 := Aside0.mk q3; have H9 := Aside0.mk q4; have H10 := Aside0.mk q5
 clear qb q1 q2 q3 q4 q5 hz0
 go_wp2_with ((with_reducible refine gate_ (.load 27 (.tmp 4)) rfl ?_); refine Kd.event_run rfl (xR (.tmp 4) (w.heap.size) r p rfl rfl _ HK.out) ?_)
 refine (asked k r p fb rb b _ (OK.out.below HB.out) HF.out HR.out).mono ?_
 rintro q w1 ⟨rfl, hb⟩
 rw [HE.out]
 replace HM := Aside0.mk (blk_below HM.out hb); replace H8 := Aside0.mk (blk_below H8.out hb); replace H9 := Aside0.mk (blk_below H9.out hb); replace H10 := Aside0.mk (blk_below H10.out hb)
 replace HB := Aside0.mk (below_then HB.out HB.out.size hb)
 clear hb HK
 have km : w1.cell? ⟨w.heap.size + 1, 0, none⟩ = some (.int .i64 most) := (blk_cell HM.out 0).trans rfl
 have b8 : Boxed w1 (w.heap.size + 1 + 1) 42 (.slice none 0 0) := H8.out
 have b9 : Boxed w1 (w.heap.size + 1 + 1 + 1) 4 (.bool false) := H9.out
 have b10 : Boxed w1 (w.heap.size + 1 + 1 + 1 + 1) 30 (.int .i64 0) := H10.out
 have f8 := b8.frozen; have f9 := b9.frozen; have f10 := b10.frozen
 have c8 := b8.cell; have c9 := b9.cell; have c10 := b10.cell
 go_wp2_with fail
 have d8 := (box_set (b := w.heap.size + 1 + 1 + 1 + 1) (box_set (b := w.heap.size + 1 + 1 + 1) (b8.set (.slice none 0 0)) (by omega) (.bool false)) (by omega) (.int .i64 (1))).cell
 have d9 := (box_set (b := w.heap.size + 1 + 1 + 1 + 1) ((box_set (b := w.heap.size + 1 + 1) b9 (by omega) (.slice none 0 0)).set (.bool false)) (by omega) (.int .i64 (1))).cell
 have d10 := ((box_set (b := w.heap.size + 1 + 1 + 1) (box_set (b := w.heap.size + 1 + 1) b10 (by omega) (.slice none 0 0)) (by omega) (.bool false)).set (.int .i64 (1))).cell
 refine bodyPost_ret (v := .tuple #[.slice none 0 0, .bool false, .int .i64 (1)]) (by simp [results, go_sem, d8, d9, d10]) rfl ⟨⟨none, 0, rfl, Kd.C_nil _ _, Nat.le_refl _⟩, ?_⟩
 exact ((HB.out.setCell (p := ⟨w.heap.size + 1 + 1, 0, none⟩) (by show w.heap.size ≤ w.heap.size + 1 + 1; omega) _).setCell (p := ⟨w.heap.size + 1 + 1 + 1, 0, none⟩) (by show w.heap.size ≤ w.heap.size + 1 + 1 + 1; omega) _).setCell (p := ⟨w.heap.size + 1 + 1 + 1 + 1, 0, none⟩) (by show w.heap.size ≤ w.heap.size + 1 + 1 + 1 + 1; omega) _
end Go.Proofs.YtfdcldjoncednaaGreat.ExU
/- expand.seconds. (Written by gen_exs.py.) -/
namespace Go.Proofs.YtfdcldjoncednaaGreat.ExS
open Go.RowKit Go.Proofs.YtfdcldjoncednaaGreatW.PrintWords Go.Proofs.YtfdcldjoncednaaGreatW.PrintLast Go.Proofs.YtfdcldjoncednaaGreatW.PrintMore Go.Proofs.YtfdcldjoncednaaGreat.M Go.Proofs.YtfdcldjoncednaaGreat.Ru Go.Proofs.YtfdcldjoncednaaGreat.ExD Go.Proofs.YtfdcldjoncednaaGreat.ExO
set_option linter.unusedVariables false
set_option linter.unusedSimpArgs false
theorem lies_or {w0 w w' : World} {A A' : Option Addr} {l m xs : List Int} {e base : Nat} {ok : Nat → Prop} {v : Value} (hor : (l ≠ [] ∧ A' = A) ∨ ∃ g, A' = some ⟨g, 0, none⟩ ∧ w.heap.size ≤ g) (hC0 : (Kd.int .i64).C w0 A l.length l) (h0 : w0.heap.size ≤ base) (hR : (Kd.int .i64).R e w base ok v xs) (hC : (Kd.int .i64).C w' A' m.length m) : Lies w' v A' m := by
 refine ⟨hC, fun _ ad e1 e2 => ?_⟩
 rcases hor with ⟨hne, rfl⟩ | ⟨g, rfl, hg⟩
 ·have hp : 0 < l.length := List.length_pos_iff.2 hne
  obtain ⟨ad', e', hc⟩ := Kd.at_int hC0 0 (by omega) (by omega)
  obtain rfl : ad = ad' := Option.some.inj (e1.symm.trans e')
  have h1 := cell_lt hc
  rw [blk_add] at h1
  have h2 := Kd.R_base hR _ e2.symm
  omega
 ·cases e1
  have h2 := Kd.R_lt hR _ e2.symm
  simp at h2
  omega
/-- A second of the day. -/
def secV (h m x : Int) : Int := wrap64 (wrap64 (wrap64 (3600 * h) + wrap64 (60 * m)) + x)
set_option maxHeartbeats 8000000 in
set_option maxRecDepth 100000 in
theorem seconds (r : Ru) (p : Rp) (b s h0 q0 m0 s0 : Int) (H M S : List Int) (F1 : Nat → List Int) (F2 : Nat → Nat → List Int) (F3 : Nat → Nat → Nat → List Int) (w : World) (ok : Ok r p w) (hsec : clock_Second.f b = some s) (e1 : wrap64 (Int.tdiv s 3600) = h0) (e2 : wrap64 (Int.tdiv s 60) = q0) (e3 : Int.tmod q0 60 = m0) (e4 : Int.tmod s 60 = s0)
  (hH : orL r.l10 h0 = H) (hM : orL r.l9 m0 = M) (hS : orL r.l8 s0 = S) (hb : H.length ≤ 1000000000 ∧ M.length ≤ 1000000000 ∧ S.length ≤ 1000000000) (f0 : F1 0 = []) (f1 : ∀ i, F2 i 0 = F1 i) (f2 : ∀ i j, F3 i j 0 = F2 i j) (f3 : ∀ i j q, F3 i j (q + 1) = F3 i j q ++ [secV (rd H (i : Int)) (rd M (j : Int)) (rd S (q : Int))]) (f4 : ∀ i j, F2 i (j + 1) = F3 i j S.length) (f5 : ∀ i, F1 (i + 1) = F2 i M.length) (fl : ∀ i j q, i < H.length → j < M.length → q < S.length → (F3 i j q).length ≤ 17000000000000) :
  Calls Tryz.prog 75 #[.agg (agg r p), .int .i64 b] w fun q w' => Out w.heap.size w' (F1 H.length) q ∧ Below w.heap.size w w' := by
 have OK := Aside0.mk ok; have HSEC := Aside0.mk hsec; have HH := Aside0.mk hH; have HM := Aside0.mk hM; have HS := Aside0.mk hS; have HBD := Aside0.mk hb; have A0 := Aside0.mk f0; have A1 := Aside0.mk f1; have A2 := Aside0.mk f2; have A3 := Aside0.mk f3; have A4 := Aside0.mk f4; have A5 := Aside0.mk f5; have AL := Aside0.mk fl
 clear ok hsec hH hM hS hb f0 f1 f2 f3 f4 f5 fl
 have HK := Aside0.mk (blk_new w (obj r p))
 have HB := Aside0.mk (below_alloc (Below.refl w.heap.size w) (obj r p))
 go_enter Tryz.func75, Tryz.ntmps75
 go_upto_region 1 with fail
 generalize w.alloc (obj r p) = w0 at HK HB ⊢
 go_wp2_with fail
 refine (clock_Second.calls b s _ HSEC.out).mono ?_
 rintro q wa ⟨rfl, ⟨nd, rfl⟩⟩
 replace HK := Aside0.mk (blk_drewN HK.out nd)
 replace HB := Aside0.mk (pw_below_drewN HB.out nd)
 generalize w0.drewN nd = wa at HK HB ⊢
 have k10 : wa.cell? ⟨w.heap.size, 10, none⟩ = some (.slice p.A10 r.l10.length p.c10) := (blk_cell HK.out 10).trans rfl
 go_wp2_with fail
 refine (or_ p.A10 p.c10 r.l10 h0 wa (OK.out.below HB.out).h10 OK.out.d10).mono ?_
 rintro q wb ⟨⟨AH, cH, rfl, hCH, hcH, horH⟩, hb⟩
 clear k10 horH
 replace HK := Aside0.mk (blk_below HK.out hb)
 replace HB := Aside0.mk (below_then HB.out HB.out.size hb)
 clear hb
 rw [HH.out] at hCH hcH ⊢
 have CH := Aside0.mk hCH; have CCH := Aside0.mk hcH; clear hCH hcH HH
 go_wp2_with fail
 go_loopg [6, 21] H.length (fun kq v6 v21 w' => ∃ (i : Nat) (x : Int), v21 = .int .i64 x ∧ Aside0 (x = (i : Int)) ∧ Aside0 (i + kq = H.length) ∧ Aside0 ((Kd.int .i64).R 2 w' wb.heap.size (fun _ => True) v6 (F1 i)) ∧ Aside0 (Below wb.heap.size wb w'))
 case atStart => exact ⟨0, 0, rfl, ⟨rfl⟩, ⟨by omega⟩, ⟨by rw [A0.out]; exact Kd.R_nil _ _ _ _ _⟩, ⟨Below.refl _ _⟩⟩
 case round =>
  obtain ⟨i, x, rfl, HX, HI, HO, HL⟩ := hrel
  cases gk with
  | zero =>
   have l1 : decide (x < (H.length : Int)) = false := decide_eq_false (by have := HX.out; have := HI.out; omega)
   have e : i = H.length := by have := HI.out; omega
   have EI := Aside0.mk e; clear e
   go_wp2_with fail
   go_ret
   refine ⟨?_, below_then HB.out HB.out.size HL.out⟩
   rw [← EI.out]; exact out_of HO.out HB.out.size
  | succ k1 =>
   have p1 : 0 ≤ x := by have := HX.out; omega
   have q1 : x < (H.length : Int) := by have := HX.out; have := HI.out; omega
   have l1 : decide (x < (H.length : Int)) = true := decide_eq_true q1
   obtain ⟨ad, e, hx⟩ := Kd.at_int (Kd.C_below CH.out HL.out) x p1 q1
   cases e
   replace p1 := eq_true p1
   replace q1 := eq_true q1
   have nx : wrap64 (x + 1) = x + 1 := by have := HX.out; have := HI.out; have := HBD.out; unfold wrap64; omega
   obtain ⟨hv, hhv⟩ : ∃ hv, rd H x = hv := ⟨_, rfl⟩
   rw [hhv] at hx
   have HV := Aside0.mk hhv; rw [HX.out] at HV; clear hhv
   have k9 : wr.cell? ⟨w.heap.size, 9, none⟩ = some (.slice p.A9 r.l9.length p.c9) := (blk_cell (blk_below HK.out HL.out) 9).trans rfl
   go_wp2_with fail
   refine (or_ p.A9 p.c9 r.l9 m0 wr (OK.out.below (below_then HB.out HB.out.size HL.out)).h9 OK.out.d9).mono ?_
   rintro q wc ⟨⟨AM, cM, rfl, hCM, hcM, horM⟩, hb⟩
   rw [HM.out] at hCM hcM ⊢
   have LM := Aside0.mk (lies_or horM OK.out.h9 HB.out.size HO.out hCM)
   replace HO := Aside0.mk (Kd.R_below HO.out hb)
   replace HL := Aside0.mk (below_then HL.out HL.out.size hb)
   clear k9 hx hb hCM hcM horM
   go_wp2_with fail
   go_loopg [6, 32] M.length (fun kq v6 v32 w' => ∃ (j : Nat) (y : Int), v32 = .int .i64 y ∧ Aside0 (y = (j : Int)) ∧ Aside0 (j + kq = M.length) ∧ Aside0 ((Kd.int .i64).R 2 w' wb.heap.size (fun _ => True) v6 (F2 i j)) ∧ Aside0 (Below wb.heap.size wb w') ∧ Aside0 (Lies w' v6 AM M))
   case atStart => exact ⟨0, 0, rfl, ⟨rfl⟩, ⟨by omega⟩, ⟨by rw [A1.out]; exact HO.out⟩, HL, LM⟩
   case round =>
    clear HO HL LM
    obtain ⟨j, y, rfl, HY, HJ, HO, HL, LM⟩ := hrel
    cases gk with
    | zero =>
     have l1 : decide (y < (M.length : Int)) = false := decide_eq_false (by have := HY.out; have := HJ.out; omega)
     have e : j = M.length := by have := HJ.out; omega
     have EJ := Aside0.mk e; clear e
     go_wp2_with fail
     go_roundg k1
     case measure => omega
     case rel => exact ⟨i + 1, x + 1, by simp [nx], ⟨by have := HX.out; push_cast; omega⟩, ⟨by have := HI.out; omega⟩, ⟨by rw [A5.out, ← EJ.out]; exact HO.out⟩, HL⟩
    | succ k2 =>
     have p2 : 0 ≤ y := by have := HY.out; omega
     have q2 : y < (M.length : Int) := by have := HY.out; have := HJ.out; omega
     have l2 : decide (y < (M.length : Int)) = true := decide_eq_true q2
     obtain ⟨ad2, e, hy⟩ := Kd.at_int LM.out.1 y p2 q2
     cases e
     replace p2 := eq_true p2
     replace q2 := eq_true q2
     have ny : wrap64 (y + 1) = y + 1 := by have := HY.out; have := HJ.out; have := HBD.out; unfold wrap64; omega
     obtain ⟨mv, hmv⟩ : ∃ mv, rd M y = mv := ⟨_, rfl⟩
     rw [hmv] at hy
     have MV := Aside0.mk hmv; rw [HY.out] at MV; clear hmv
     have k8 : wr.cell? ⟨w.heap.size, 8, none⟩ = some (.slice p.A8 r.l8.length p.c8) := (blk_cell (blk_below HK.out HL.out) 8).trans rfl
     go_wp2_with fail
     refine (or_ p.A8 p.c8 r.l8 s0 wr (OK.out.below (below_then HB.out HB.out.size HL.out)).h8 OK.out.d8).mono ?_
     rintro q wd ⟨⟨AS, cS, rfl, hCS, hcS, horS⟩, hb⟩
     rw [HS.out] at hCS hcS ⊢
     have LS := Aside0.mk (lies_or horS OK.out.h8 HB.out.size HO.out hCS)
     replace HO := Aside0.mk (Kd.R_below HO.out hb)
     replace LM := Aside0.mk (LM.out.below hb)
     replace HL := Aside0.mk (below_then HL.out HL.out.size hb)
     clear k8 hy hb hCS hcS horS
     go_wp2_with fail
     go_loopg [6, 42] S.length (fun kq v6 v42 w' => ∃ (o : Nat) (z : Int), v42 = .int .i64 z ∧ Aside0 (z = (o : Int)) ∧ Aside0 (o + kq = S.length) ∧ Aside0 ((Kd.int .i64).R 2 w' wb.heap.size (fun _ => True) v6 (F3 i j o)) ∧ Aside0 (Below wb.heap.size wb w') ∧ Aside0 (Lies w' v6 (some ad2) M) ∧ Aside0 (Lies w' v6 AS S))
     case atStart => exact ⟨0, 0, rfl, ⟨rfl⟩, ⟨by omega⟩, ⟨by rw [A2.out]; exact HO.out⟩, HL, LM, LS⟩
     case round =>
      clear HO HL LM LS
      obtain ⟨o, z, rfl, HZ, HQ, HO, HL, LM, LS⟩ := hrel
      cases gk with
      | zero =>
       have l3 : decide (z < (S.length : Int)) = false := decide_eq_false (by have := HZ.out; have := HQ.out; omega)
       have e : o = S.length := by have := HQ.out; omega
       have EO := Aside0.mk e; clear e
       go_wp2_with fail
       go_roundg k2
       case measure => omega
       case rel => exact ⟨j + 1, y + 1, by simp [ny], ⟨by have := HY.out; push_cast; omega⟩, ⟨by have := HJ.out; omega⟩, ⟨by rw [A4.out, ← EO.out]; exact HO.out⟩, HL, LM⟩
      | succ k3 =>
       have p3 : 0 ≤ z := by have := HZ.out; omega
       have q3 : z < (S.length : Int) := by have := HZ.out; have := HQ.out; omega
       have l3 : decide (z < (S.length : Int)) = true := decide_eq_true q3
       obtain ⟨ad3, e, hz⟩ := Kd.at_int LS.out.1 z p3 q3
       cases e
       replace p3 := eq_true p3
       replace q3 := eq_true q3
       have nz : wrap64 (z + 1) = z + 1 := by have := HZ.out; have := HQ.out; have := HBD.out; unfold wrap64; omega
       obtain ⟨sv, hsv⟩ : ∃ sv, rd S z = sv := ⟨_, rfl⟩
       rw [hsv] at hz
       have SV := Aside0.mk hsv; rw [HZ.out] at SV; clear hsv
       have GN := Aside0.mk (A3.out i j o); rw [HV.out, MV.out, SV.out] at GN
       obtain ⟨y1, hy1⟩ : ∃ y1, secV hv mv sv = y1 := ⟨_, rfl⟩
       rw [hy1] at GN
       unfold secV at hy1
       obtain ⟨li, hli⟩ : ∃ li, F3 i j o = li := ⟨_, rfl⟩
       have LN := Aside0.mk (AL.out i j o (by have := HI.out; omega) (by have := HJ.out; omega) (by have := HQ.out; omega))
       rw [hli] at HO LN GN; clear hli
       go_wp2_with ((with_reducible refine gate_builtin (b := .append) (xs := #[.tmp 46, .tmp 54]) rfl ?_); (try (refine gate_guard (by rfl) ?_; dsimp only)); at_builtin; refine Kd.R_append (Kd.int .i64) (w0 := wb) wb.heap.size rfl (.tmp 46) (.tmp 54) 42 2 (.int .i64 0) 8 rfl Tryz.underlying42 (by kernel_rfl) rfl (by decide) (by omega) _ li (y1) [.int .i64 (y1)] (fun _ => True) (fun _ => False) rfl rfl ?aP (fun _ hk => hk.elim) ?aF ?aO ?aB ?aS ?aL ?_; (case aP => exact rfl); (case aB => exact (by repeat (first | (with_reducible first | exact HL.out | apply below_alloc | apply pw_below_drewN | apply below_drew1) | exact HL.out))); (case aF => exact (fun _ _ => trivial)); (case aO => exact (by (with_reducible repeat (first | apply Kd.R_alloc | apply Kd.R_drewN | apply Kd.R_drew)); exact HO.out)); (case aS => exact (below_size (by repeat (first | (with_reducible first | exact HL.out | apply below_alloc | apply pw_below_drewN | apply below_drew1) | exact HL.out)))); (case aL => have := LN.out; omega); intro v_ w_ ho hb hg hat; replace LM := Aside0.mk (LM.out.appended hg hat); replace LS := Aside0.mk (LS.out.appended hg hat); clear hg hat; replace HO := Aside0.mk ho; replace HL := Aside0.mk hb; clear ho hb)
       go_roundg k3
       case measure => omega
       case rel => exact ⟨o + 1, z + 1, by simp [nz], ⟨by have := HZ.out; push_cast; omega⟩, ⟨by have := HQ.out; omega⟩, ⟨by rw [GN.out]; exact HO.out⟩, HL, LM, LS⟩
end Go.Proofs.YtfdcldjoncednaaGreat.ExS
namespace Go.Proofs.YtfdcldjoncednaaGreat.M
open Go.RowKit Go.Proofs.YtfdcldjoncednaaGreatW.PrintWords Go.Proofs.YtfdcldjoncednaaGreatW.PrintLast Go.Proofs.YtfdcldjoncednaaGreatW.PrintMore
attribute [local go_sem] max2_int min2_int max_two min_two
set_option linter.unusedVariables false
set_option linter.unusedSimpArgs false
/-! ### match_month: function 55 -/
def match_month.j0 : Nat → Int → Int → Bool → Option (Int × Int)
 | 0, _, _, _ => none
 | k + 1, x7, x8, x30 => if x30 = true then (some (0, (-1))) else ((rata_Day.f k x7 x8 1).bind fun bt232 => ((rata_Length.f k x7 x8).bind fun t234 => (some (bt232.1, wrap64 ((wrap64 (bt232.1 + t234)) - 1)))))
def match_month.f (k : Nat) (a0_0 : Int) (a0_1 : Int) (a0_2 : Int) (a1 : Int) : Option (Int × Int) := (rata_Floor.f (wrap64 ((wrap64 ((wrap64 ((wrap64 (12 * a0_0)) + a0_1)) - 1)) + a1)) 12).bind fun t230 => ((rata_Mod.f (wrap64 ((wrap64 ((wrap64 ((wrap64 (12 * a0_0)) + a0_1)) - 1)) + a1)) 12).bind fun t231 => (if t230 < 1 then (match_month.j0 k t230 (wrap64 (t231 + 1)) true) else (match_month.j0 k t230 (wrap64 (t231 + 1)) (decide (t230 > 9999)))))
set_option maxHeartbeats 8000000 in
set_option maxRecDepth 100000 in
theorem match_month.calls (k : Nat) (a0_0 : Int) (a0_1 : Int) (a0_2 : Int) (a1 : Int) (r1 : Int) (r2 : Int) (w : World) (h : match_month.f k a0_0 a0_1 a0_2 a1 = some (r1, r2)) :
  Calls Tryz.prog 55 #[.agg #[.int .i64 a0_0, .int .i64 a0_1, .int .i64 a0_2], .int .i64 a1] w fun e w' => e = .returned (.tuple #[.int .i64 r1, .int .i64 r2]) ∧ Below w.heap.size w w' := by
 have hu61 := Tryz.underlying61
 have HB := Aside0.mk (Below.refl w.heap.size w)
 have H : ((rata_Floor.f (wrap64 ((wrap64 ((wrap64 ((wrap64 (12 * a0_0)) + a0_1)) - 1)) + a1)) 12).bind fun t230 => ((rata_Mod.f (wrap64 ((wrap64 ((wrap64 ((wrap64 (12 * a0_0)) + a0_1)) - 1)) + a1)) 12).bind fun t231 => (if t230 < 1 then (match_month.j0 k t230 (wrap64 (t231 + 1)) true) else (match_month.j0 k t230 (wrap64 (t231 + 1)) (decide (t230 > 9999)))))) = some (r1, r2) := h
 clear h
 replace H := Option.bind_eq_some_iff.mp H
 obtain ⟨t230, A30, H⟩ := H
 replace H : ((rata_Mod.f (wrap64 ((wrap64 ((wrap64 ((wrap64 (12 * a0_0)) + a0_1)) - 1)) + a1)) 12).bind fun t231 => (if t230 < 1 then (match_month.j0 k t230 (wrap64 (t231 + 1)) true) else (match_month.j0 k t230 (wrap64 (t231 + 1)) (decide (t230 > 9999))))) = some (r1, r2) := H
 have A3 := Aside0.mk A30
 clear A30
 replace H := Option.bind_eq_some_iff.mp H
 obtain ⟨t231, A40, H⟩ := H
 replace H : (if t230 < 1 then (match_month.j0 k t230 (wrap64 (t231 + 1)) true) else (match_month.j0 k t230 (wrap64 (t231 + 1)) (decide (t230 > 9999)))) = some (r1, r2) := H
 have A4 := Aside0.mk A40
 clear A40
 have HC5 := Aside0.mk H
 clear H
 go_enter Tryz.func55, Tryz.ntmps55
 go_upto_region 3 with (first | ((with_reducible refine gate_dst (N := 2) rfl ?_); refine box_event ?hg (N := 2) ?hd (cs := #[.int .i64 a0_0, .int .i64 a0_1, .int .i64 a0_2]) (t := 61) ?hr ?_; (case hd => rfl); (case hg => rfl); (case hr => first | (go_simp; done) | (go_simp; rfl)); intro gb229 hg w6 hbox hb; have n0_ := Aside0.mk (below_step (by repeat (first | (with_reducible first | exact HB.out | apply below_alloc | apply pw_below_drewN | apply below_drew1) | exact HB.out)) hb); have n1_ := Aside0.mk (hbox); have n2_ := Aside0.mk ((by rw [hg]; exact (below_size (by repeat (first | (with_reducible first | exact HB.out | apply below_alloc | apply pw_below_drewN | apply below_drew1) | exact HB.out))) : w.heap.size ≤ gb229)); have n3_ := Aside0.mk ((by rw [hg]; exact (below_size (by repeat (first | (with_reducible first | exact HB.out | apply below_alloc | apply pw_below_drewN | apply below_drew1) | exact HB.out))) : w.heap.size ≤ gb229)); clear HB; have HB := n0_; have BK229 := n1_; have GW229 := n2_; have GE229 := n3_; clear n0_ n1_ n2_ n3_; clear hb hbox hg; have hcz7_0 : w6.cell? ⟨gb229, 0, none⟩ = some (.int .i64 a0_0) := (blk_cell BK229.out 0).trans rfl; have hcz7_1 : w6.cell? ⟨gb229, 1, none⟩ = some (.int .i64 a0_1) := (blk_cell BK229.out 1).trans rfl; have hcz7_2 : w6.cell? ⟨gb229, 2, none⟩ = some (.int .i64 a0_2) := (blk_cell BK229.out 2).trans rfl; have hfz7_0 := blk_frozen BK229.out 0; have hfz7_1 := blk_frozen BK229.out 1; have hfz7_2 := blk_frozen BK229.out 2) | ((with_reducible refine gate_callee (f := 95) rfl ?_); refine gm_ (some 21) Tryz.func95 #[.int .i64 (wrap64 ((wrap64 ((wrap64 ((wrap64 (12 * a0_0)) + a0_1)) - 1)) + a1)), .int .i64 12] ?_; (with_reducible refine (rata_Floor.calls (wrap64 ((wrap64 ((wrap64 ((wrap64 (12 * a0_0)) + a0_1)) - 1)) + a1)) 12 t230 _ A3.out).mono ?_); rintro e w' ⟨rfl, ⟨nd, rfl⟩⟩; refine ⟨_, rfl, ?_⟩) | ((with_reducible refine gate_callee (f := 92) rfl ?_); refine gm_ (some 23) Tryz.func92 #[.int .i64 (wrap64 ((wrap64 ((wrap64 ((wrap64 (12 * a0_0)) + a0_1)) - 1)) + a1)), .int .i64 12] ?_; (with_reducible refine (rata_Mod.calls (wrap64 ((wrap64 ((wrap64 ((wrap64 (12 * a0_0)) + a0_1)) - 1)) + a1)) 12 t231 _ A4.out).mono ?_); rintro e w' ⟨rfl, ⟨nd, rfl⟩⟩; refine ⟨_, rfl, ?_⟩))
 (try simp only [Act.put, List.setIfInBounds_toArray, List.set_cons_zero, List.set_cons_succ])
 go_cut [30] (fun v30 wc => ∃ (kq : Nat) (x30_4 : Bool), v30 = .bool x30_4 ∧ Aside0 (match_month.j0 kq t230 (wrap64 (t231 + 1)) x30_4 = some (r1, r2)) ∧ Aside0 (kq ≤ k) ∧ Aside0 (wc.heap[gb229]? = some (.cells #[.int .i64 a0_0, .int .i64 a0_1, .int .i64 a0_2] 61 (0, 0))) ∧ Aside0 (Below w.heap.size w wc))
 case first =>
  have H := HC5.out
  clear HC5
  by_cases c8 : t230 < 1
  ·rw [if_pos c8] at H
   have c8b0 : decide (t230 < 1) = true := decide_eq_true c8
   clear c8
   (first | rw [c8b0] | (simp only [i64_w, i32_w]; rw [c8b0]) | skip)
   have H' := Aside0.mk H
   clear H
   go_wp2
   go_meet
   case rel => exact ⟨_, (true), (by first | rfl | (simp; done) | (simp [*]; done)), H', ⟨by first | omega | exact Nat.le_refl _⟩, ⟨by (with_reducible repeat (first | refine blk_drewN ?_ _ | refine blk_drew ?_ | refine blk_alloc ?_ _)); exact BK229.out⟩, ⟨by repeat (first | (with_reducible first | exact HB.out | apply below_alloc | apply pw_below_drewN | apply below_drew1 | refine below_set ?_ GE229.out) | exact HB.out)⟩⟩
  ·rw [if_neg c8] at H
   have c8b0 : decide (t230 < 1) = false := decide_eq_false c8
   clear c8
   (first | rw [c8b0] | (simp only [i64_w, i32_w]; rw [c8b0]) | skip)
   have H' := Aside0.mk H
   clear H
   go_wp2
   go_meet
   case rel => exact ⟨_, (decide (t230 > 9999)), (by first | rfl | (simp; done) | (simp [*]; done)), H', ⟨by first | omega | exact Nat.le_refl _⟩, ⟨by (with_reducible repeat (first | refine blk_drewN ?_ _ | refine blk_drew ?_ | refine blk_alloc ?_ _)); exact BK229.out⟩, ⟨by repeat (first | (with_reducible first | exact HB.out | apply below_alloc | apply pw_below_drewN | apply below_drew1 | refine below_set ?_ GE229.out) | exact HB.out)⟩⟩
 case rest =>
  clear HC5
  try clear p2
  try clear c5
  try clear p6
  try clear c8
  try clear c8b0
  try clear hcz7_0
  try clear hcz7_1
  try clear hcz7_2
  try clear hfz7_0
  try clear hfz7_1
  try clear hfz7_2
  obtain ⟨kq, x30_4, rfl, HA, HJ4, BK229, HB⟩ := hcut
  cases kq with
  | zero => exact absurd HA.out (by simp [match_month.j0])
  | succ kj4 =>
   have H := HA.out
   clear HA
   simp only [match_month.j0] at H
   by_cases c9 : x30_4 = true
   ·subst c9
    have H1 : (some (0, (-1))) = some (r1, r2) := by rw [if_pos rfl] at H; exact H
    clear H
    have H := H1
    clear H1
    simp only [Option.some.injEq, Prod.mk.injEq] at H
    obtain ⟨rfl, rfl⟩ := H
    go_wp2
    go_ret2
    exact ⟨by first | rfl | (simp [i64_w]; done) | (simp [errW_none, errW_some] <;> rfl) | (simp [*, errW_none, errW_some] <;> rfl), by repeat (first | (with_reducible first | exact HB.out | apply below_alloc | apply pw_below_drewN | apply below_drew1 | refine below_set ?_ GE229.out) | exact HB.out)⟩
   ·replace c9 := Bool.eq_false_iff.mpr c9
    subst c9
    have H1 : ((rata_Day.f kj4 t230 (wrap64 (t231 + 1)) 1).bind fun bt232 => ((rata_Length.f kj4 t230 (wrap64 (t231 + 1))).bind fun t234 => (some (bt232.1, wrap64 ((wrap64 (bt232.1 + t234)) - 1))))) = some (r1, r2) := by rw [if_neg (show ¬ (false = true) by decide)] at H; exact H
    clear H
    have H := H1
    clear H1
    replace H := Option.bind_eq_some_iff.mp H
    obtain ⟨⟨t232, t233⟩, A100, H⟩ := H
    replace H : ((rata_Length.f kj4 t230 (wrap64 (t231 + 1))).bind fun t234 => (some (t232, wrap64 ((wrap64 (t232 + t234)) - 1)))) = some (r1, r2) := H
    have A10 := Aside0.mk A100
    clear A100
    replace H := Option.bind_eq_some_iff.mp H
    obtain ⟨t234, A110, H⟩ := H
    replace H : (some (t232, wrap64 ((wrap64 (t232 + t234)) - 1))) = some (r1, r2) := H
    have A11 := Aside0.mk A110
    clear A110
    simp only [Option.some.injEq, Prod.mk.injEq] at H
    obtain ⟨rfl, rfl⟩ := H
    go_wp2_with (first | ((with_reducible refine gate_callee (f := 96) rfl ?_); refine gm_ (some 35) Tryz.func96 #[.agg #[.int .i64 t230, .int .i64 (wrap64 (t231 + 1)), .int .i64 1]] ?_; (with_reducible refine (rata_Day.calls kj4 t230 (wrap64 (t231 + 1)) 1 t232 t233 _ A10.out).mono ?_); rintro e w12 ⟨rfl, hb⟩; refine ⟨_, rfl, ?_⟩; have n0_ := Aside0.mk (blk_below (g := gb229) (o := .cells #[.int .i64 a0_0, .int .i64 a0_1, .int .i64 a0_2] 61 (0, 0)) (by (with_reducible repeat (first | refine blk_drewN ?_ _ | refine blk_drew ?_ | refine blk_alloc ?_ _)); exact BK229.out) hb); have n1_ := Aside0.mk (below_step (by repeat (first | (with_reducible first | exact HB.out | apply below_alloc | apply pw_below_drewN | apply below_drew1 | refine below_set ?_ GE229.out) | exact HB.out)) hb); clear BK229; clear HB; have BK229 := n0_; have HB := n1_; clear n0_ n1_; (try clear hb); (try clear hb2); (try clear hk); (try clear hi)) | ((with_reducible refine gate_callee (f := 54) rfl ?_); refine gm_ (some 42) Tryz.func54 #[.int .i64 t230, .int .i64 (wrap64 (t231 + 1))] ?_; (with_reducible refine (rata_Length.calls kj4 t230 (wrap64 (t231 + 1)) t234 _ A11.out).mono ?_); rintro e w' ⟨rfl, ⟨nd, rfl⟩⟩; refine ⟨_, rfl, ?_⟩))
    go_ret2
    exact ⟨by first | rfl | (simp [i64_w]; done) | (simp [errW_none, errW_some] <;> rfl) | (simp [*, errW_none, errW_some] <;> rfl), by repeat (first | (with_reducible first | exact HB.out | apply below_alloc | apply pw_below_drewN | apply below_drew1 | refine below_set ?_ GE229.out) | exact HB.out)⟩

end Go.Proofs.YtfdcldjoncednaaGreat.M
