/- Texts of this claim, merged: ExI, ExU. -/
import Derived.Test.YtfdcldjoncednaaGreatMgExpandTimes20
import Derived.RangeFuncNested
import Derived.RangeFuncBound
import Derived.RangeFuncCalls
import Derived.RangeFuncLeaves
import Derived.OwnWalkIn
import Derived.TacticsInMore
import Derived.LoopNIn
import Derived.LoopIn
import Derived.RangeFuncWrites
import Derived.RangeFuncBox
import Derived.Maps.OwnIn
import Derived.Maps.AppendAt
/- expand.Each: the iterator. -/
namespace Go.Proofs.YtfdcldjoncednaaGreat.ExI
open Go.RowKit Go.Proofs.YtfdcldjoncednaaGreatW.PrintWords Go.Proofs.YtfdcldjoncednaaGreatW.PrintLast Go.Proofs.YtfdcldjoncednaaGreatW.PrintMore Go.Proofs.YtfdcldjoncednaaGreat.M Go.Proofs.YtfdcldjoncednaaGreat.Ru Go.Proofs.YtfdcldjoncednaaGreat.MatP Go.Proofs.YtfdcldjoncednaaGreat.ExD Go.Proofs.YtfdcldjoncednaaGreat.ExO Go.Proofs.YtfdcldjoncednaaGreat.ExT Go.Proofs.YtfdcldjoncednaaGreat.ExE
set_option linter.unusedVariables false
set_option linter.unusedSimpArgs false
attribute [local go_sem] Oper.semAt_some
/-- The block of the slice that the box Bx holds. -/
def own (W : World) (Bx : Nat) : Option Nat := (W.cell? ⟨Bx, 0, none⟩).bind Value.ownBlock
/-- What a round of the caller's keeps: all below n, and every row of cells that is neither its variable nor that variable's own. -/
def Kp (n Bx : Nat) (W W' : World) : Prop := Below n W W' ∧ (∀ g cs t s, W.heap[g]? = some (.cells cs t s) → g ≠ Bx → own W Bx ≠ some g → W'.heap[g]? = W.heap[g]?) ∧ (own W' Bx = own W Bx ∨ ∃ g, own W' Bx = some g ∧ W.heap.size ≤ g ∧ g < W'.heap.size)
set_option maxHeartbeats 1000000 in
/-- The function value that Each hands back. -/
theorem each (r : Ru) (p : Rp) (b l : Int) (w : World) :
  Calls Tryz.prog 37 #[.agg (agg r p), .int .i64 b, .int .i64 l] w fun e w' => e = .returned (.func (.func 71) #[] #[.pointer (some ⟨w.heap.size + 1, 0, none⟩), .pointer (some ⟨w.heap.size + 2, 0, none⟩), .pointer (some ⟨w.heap.size, 0, none⟩)]) ∧ w' = ((w.alloc (obj r p)).alloc (.cells #[.int .i64 b] 2 (0, 0))).alloc (.cells #[.int .i64 l] 2 (0, 0)) := by
 go_enter Tryz.func37, Tryz.ntmps37
 go_wp2_with fail
 go_ret
 exact ⟨rfl, rfl⟩
/-- What a row of times gives: those to come, how many are left, whether it ends there. -/
def inner (b last : Int) : List Int → Int → List Int × Int × Bool
 | [], left => ([], left, false)
 | t :: ts, left => if t ≤ b then inner b last ts left else if t > last ∨ left = 0 then ([], left, true) else (t :: (inner b last ts (wrap64 (left - 1))).1, (inner b last ts (wrap64 (left - 1))).2)
/-- What comes from a period on. -/
def eachL (b last I : Int) (sf se : Int → Int) (tm : Int → List Int) : Nat → Int → Int → Option (List Int)
 | 0, _, _ => none
 | k + 1, per, left => if left = 0 then some [] else if se per ≠ 0 ∨ wrap64 (sf per * 86400) > last then some [] else
   if (inner b last (tm per) left).2.2 = true then some (inner b last (tm per) left).1
   else (eachL b last I sf se tm k (wrap64 (per + I)) (inner b last (tm per) left).2.1).map ((inner b last (tm per) left).1 ++ ·)
abbrev TimC (r : Ru) (p : Rp) (b n : Int) (T : List Int) : Prop := ∀ w, Ok r p w → Calls Tryz.prog 42 #[.agg (agg r p), .int .i64 b, .int .i64 n] w fun q w' => Out w.heap.size w' T q ∧ Below w.heap.size w w'
/-- All that comes. -/
def allU (b last : Int) (rest : List Int) : List Int := if b > last then [] else b :: rest
theorem cells_of {w : World} {a : Addr} {v : Value} (h : w.cell? a = some v) : ∃ cs t s, w.heap[a.block]? = some (.cells cs t s) := by
 unfold World.cell? at h
 cases e : w.heap[a.block]? with
 | none => rw [e] at h; simp at h
 | some o =>
  rw [e] at h
  cases o with
  | cells cs t s => exact ⟨cs, t, s, rfl⟩
  | _ => simp at h
theorem C_same {w w1 : World} {A : Option Addr} {xs : List Int} (h : (Kd.int .i64).C w A xs.length xs) (hf : xs ≠ [] → ∀ ad, A = some ad → w1.heap[ad.block]? = w.heap[ad.block]?) : (Kd.int .i64).C w1 A xs.length xs := by
 refine Kd.C_of_reads (enc := Value.int .i64) (d := (0 : Int)) (h1 := fun _ => rfl) ⟨rfl, h.2.1, fun hn => ?_⟩
 have hne : xs ≠ [] := by intro e; rw [e] at hn; simp at hn
 obtain ⟨ad, e, h0⟩ := Kd.at_int h 0 (by omega) (by omega)
 refine ⟨ad, e, fun j hj => ?_⟩
 obtain ⟨ad', e', hj'⟩ := Kd.at_int h (j : Int) (by omega) (by omega)
 obtain rfl : ad = ad' := Option.some.inj (e.symm.trans e')
 rw [show ((j : Int)).toNat = j by omega] at hj'
 have := World.cell?_of_block (w := w) (w' := w1) (a := ad.add j) (by rw [blk_add]; exact hf hne ad e)
 rw [← this] at hj'
 simpa [rd, rdOf] using hj'
theorem own_below {W W' : World} {Bx : Nat} (h : Bx < W.heap.size) (hb : Below W.heap.size W W') : own W' Bx = own W Bx := by
 unfold own; rw [World.cell?_of_block (a := ⟨Bx, 0, none⟩) (hb.block Bx h)]
/-- What the iterator's world holds between two rounds. -/
structure Inv (r : Ru) (p : Rp) (b last : Int) (gR gB gL Bx S0 : Nat) (we W : World) : Prop where
 be : Below we.heap.size we W
 hR : W.heap[gR]? = some (obj r p)
 hB : W.heap[gB]? = some (.cells #[.int .i64 b] 2 (0, 0))
 hL : W.heap[gL]? = some (.cells #[.int .i64 last] 2 (0, 0))
 bx : Bx < S0
 sz : S0 ≤ W.heap.size
 ow : ∀ g, own W Bx = some g → S0 ≤ g ∧ g < W.heap.size
 lt : gR < S0 ∧ gB < S0 ∧ gL < S0
 ne : gR ≠ Bx ∧ gB ≠ Bx ∧ gL ≠ Bx
theorem Inv.below {r : Ru} {p : Rp} {b last : Int} {gR gB gL Bx S0 : Nat} {we W W' : World} (h : Inv r p b last gR gB gL Bx S0 we W) (hb : Below W.heap.size W W') : Inv r p b last gR gB gL Bx S0 we W' :=
 ⟨below_then h.be h.be.size hb, blk_below h.hR hb, blk_below h.hB hb, blk_below h.hL hb, h.bx, Nat.le_trans h.sz hb.size, fun g e => by
  rw [own_below (Nat.lt_of_lt_of_le h.bx h.sz) hb] at e
  have := h.ow g e; have := hb.size; omega, h.lt, h.ne⟩
theorem Inv.far {r : Ru} {p : Rp} {b last : Int} {gR gB gL Bx S0 : Nat} {we W : World} (h : Inv r p b last gR gB gL Bx S0 we W) {g : Nat} (hg : g < S0) : own W Bx ≠ some g := fun e => by
 have := h.ow g e; omega
theorem Inv.round {r : Ru} {p : Rp} {b last : Int} {gR gB gL Bx S0 : Nat} {we W W' : World} (h : Inv r p b last gR gB gL Bx S0 we W) (hk : Kp we.heap.size Bx W W') : Inv r p b last gR gB gL Bx S0 we W' := by
 obtain ⟨h1, h2, h3⟩ := hk
 refine ⟨h.be.trans h1, (h2 gR _ _ _ h.hR h.ne.1 (h.far h.lt.1)).trans h.hR, (h2 gB _ _ _ h.hB h.ne.2.1 (h.far h.lt.2.1)).trans h.hB, (h2 gL _ _ _ h.hL h.ne.2.2 (h.far h.lt.2.2)).trans h.hL, h.bx, Nat.le_trans h.sz h1.size, fun g e => ?_, h.lt, h.ne⟩
 have hs := h1.size
 rcases h3 with q | ⟨g', q, q1, q2⟩
 ·rw [q] at e; have := h.ow g e; omega
 ·rw [q] at e; have := Option.some.inj e; have := h.sz; omega
/-- A row of times that lies apart from what the caller's rounds write. -/
def TIn (Bx : Nat) (A : Option Addr) (T : List Int) (W : World) : Prop := (Kd.int .i64).C W A T.length T ∧ (T ≠ [] → ∀ ad, A = some ad → ad.block ≠ Bx ∧ own W Bx ≠ some ad.block)
theorem TIn.round {n Bx : Nat} {A : Option Addr} {T : List Int} {W W' : World} (h : TIn Bx A T W) (hk : Kp n Bx W W') : TIn Bx A T W' := by
 obtain ⟨h1, h2, h3⟩ := hk
 by_cases z : T = []
 ·exact ⟨C_same h.1 (fun q => absurd z q), fun q => absurd z q⟩
 have blk : ∀ ad, A = some ad → ∃ cs t s, W.heap[ad.block]? = some (.cells cs t s) := fun ad e => by
  have hp : 0 < T.length := List.length_pos_iff.2 z
  obtain ⟨ad', e', h0⟩ := Kd.at_int h.1 0 (by omega) (by omega)
  obtain rfl : ad = ad' := Option.some.inj (e.symm.trans e')
  have := cells_of h0
  rw [blk_add] at this
  exact this
 refine ⟨C_same h.1 (fun _ ad e => ?_), fun _ ad e => ⟨(h.2 z ad e).1, fun q => ?_⟩⟩
 ·obtain ⟨cs, t, s, q⟩ := blk ad e
  exact h2 ad.block cs t s q (h.2 z ad e).1 (h.2 z ad e).2
 ·rcases h3 with o | ⟨g', o, q1, q2⟩
  ·rw [o] at q; exact (h.2 z ad e).2 q
  ·rw [o] at q
   have e1 := Option.some.inj q
   obtain ⟨cs, t, s, qq⟩ := blk ad e
   have := (Array.getElem?_eq_some_iff.1 qq).1
   omega
theorem tin_of {r : Ru} {p : Rp} {b last : Int} {gR gB gL Bx S0 : Nat} {we W W' : World} {A : Option Addr} {T : List Int} (hC : (Kd.int .i64).C W' A T.length T) (hf : ∀ ad, A = some ad → W.heap.size ≤ ad.block) (hI : Inv r p b last gR gB gL Bx S0 we W) (hb : Below W.heap.size W W') : TIn Bx A T W' := by
 have hx : Bx < W.heap.size := Nat.lt_of_lt_of_le hI.bx hI.sz
 refine ⟨hC, fun _ ad e => ⟨fun q => ?_, fun q => ?_⟩⟩
 ·have := hf ad e; omega
 ·rw [own_below hx hb] at q
  have := hf ad e; have := hI.ow _ q; omega
theorem rd_get (T : List Int) {i : Nat} (h : i < T.length) : rd T (i : Int) = T[i] := by simp [rd, rdOf, h]
def Ti6 : Bool × List (List Nat × List Nat) := (true, [([], []), ([], []), ([1], [1]), ([], []), ([0, 2, 3, 2], [0, 2, 3]), ([4], [4]), ([5], [5]), ([5], [5]), ([5], [5]), ([6, 4, 0, 1, 2, 3, 4, 5, 6], [6]), ([7, 9, 0, 1, 2, 3, 4, 5, 6, 7, 9], [7]), ([8, 10, 0, 1, 2, 3, 4, 5, 6, 7, 8, 9, 10], [8])])
def Bi6 : List Nat := [0, 0, 2, 0, 15, 31, 63, 63, 63, 127, 767, 2047]
theorem tabi6 : rtab .any (opsOf Tryz.f71 6) = Ti6 := by kernel_rfl
theorem bitsi6 : waitsOk Ti6.2 Bi6 = true := by kernel_rfl
set_option maxHeartbeats 8000000 in
set_option maxRecDepth 100000 in
theorem each1 (m l Bx gR gB gL N S0 : Nat) (r : Ru) (p : Rp) (b last le dy : Int) (sf sl se : Int → Int) (tm : Int → List Int) (Pd : Int → Prop) (rest : List Int) (K : Nat) (we W : World) (J Jx : List Int → World → Prop)
  (hJ : ∀ s W1 W2, J s W1 → Below W1.heap.size W1 W2 → J s W2)
  (hY : ∀ pre x W1, J pre W1 → pre.length < N → YieldAt Fence.wide m Tryz.prog l #[.int .i64 x] W1 fun e W' => (e = .returned (.bool true) ∧ J (pre ++ [x]) W' ∧ Kp we.heap.size Bx W1 W') ∨ (e = .returned (.bool false) ∧ Jx (pre ++ [x]) W'))
  (ok : Ok r p we) (hI : Inv r p b last gR gB gL Bx S0 we W)
  (hd : clock_Day.f b = some dy) (hle : endF r last = le) (hP0 : Pd 0) (hPs : ∀ per, Pd per → se per = 0 → Pd (wrap64 (per + r.a1))) (hS : ∀ n, Pd n → SpanC r p dy n (sf n) (sl n) (se n)) (hT : ∀ n, Pd n → se n = 0 → TimC r p b n (tm n)) (hTl : ∀ n, (tm n).length ≤ 17000000000000)
  (hU : b ≤ last → eachL b le r.a1 sf se tm K 0 (wrap64 (r.a2 - 1)) = some rest) (hN : rest.length + 1 ≤ N) (h0 : J [] W) :
  Calls Tryz.prog 71 #[.func (.yield l) #[] #[], .pointer (some ⟨gB, 0, none⟩), .pointer (some ⟨gL, 0, none⟩), .pointer (some ⟨gR, 0, none⟩)] W fun e W' => (∃ v, e = .returned v) ∧
   ((∃ xs, xs = allU b last rest ∧ J xs W') ∨ (∃ pre, pre <+: allU b last rest ∧ Jx pre W')) := by
 have kB : W.cell? ⟨gB, 0, none⟩ = some (.int .i64 b) := (blk_cell hI.hB 0).trans rfl
 have kL : W.cell? ⟨gL, 0, none⟩ = some (.int .i64 last) := (blk_cell hI.hL 0).trans rfl
 by_cases c : b > last
 ·have c1 : decide (b > last) = true := decide_eq_true c
  have CU := Aside0.mk (show allU b last rest = [] from if_pos c)
  clear c
  go_enter Tryz.func71, Tryz.ntmps71
  go_wp2_with fail
  refine bodyPost_ret (results_none rfl _ _ _) rfl ?_
  exact ⟨⟨_, rfl⟩, .inl ⟨[], CU.out.symm, h0⟩⟩
 have c1 : decide (b > last) = false := decide_eq_false c
 have CU := Aside0.mk (show allU b last rest = b :: rest from if_neg c)
 have HU := Aside0.mk (hU (by omega)); clear c hU
 have HJ := Aside0.mk hJ; have HY := Aside0.mk hY; have OK := Aside0.mk ok; have HI := Aside0.mk hI; have HD := Aside0.mk hd; have HP0 := Aside0.mk hP0; have HPs := Aside0.mk hPs; have HS := Aside0.mk hS; have HT := Aside0.mk hT; have HTl := Aside0.mk hTl; have HN := Aside0.mk hN; have HLE := Aside0.mk hle
 clear hJ ok hI hd hP0 hPs hS hT hTl hN hle
 obtain ⟨fn, tmps, assign, body, hy, hR⟩ := hY [] b W h0 (by have := HN.out; simp; omega)
 clear hY h0
 go_enter Tryz.func71, Tryz.ntmps71
 go_upto_region 0 with fail
 refine (wpIn_wide (n := m + 1)).1 ?_
 gi_wp2
 refine hR.mono ?_
 clear hR hy kB kL
 rintro e W3 (⟨rfl, hJ3, hk3⟩ | ⟨rfl, hJx3⟩)
 rotate_left
 ·gi_wp2
  go_wp2_with fail
  refine bodyPost_ret (results_none rfl _ _ _) rfl ?_
  exact ⟨⟨_, rfl⟩, .inr ⟨[b], by rw [CU.out]; exact ⟨rest, rfl⟩, hJx3⟩⟩
 replace HI := Aside0.mk (HI.out.round hk3)
 have J3 := Aside0.mk hJ3
 clear hk3 hJ3
 gi_wp2
 have kc : W3.cell? ⟨gR, 2, none⟩ = some (.int .i64 r.a2) := (blk_cell HI.out.hR 2).trans rfl
 obtain ⟨lf0, hlf0⟩ : ∃ lf0, wrap64 (r.a2 - 1) = lf0 := ⟨_, rfl⟩
 rw [hlf0] at HU
 go_upto_region 2 with fail
 have kL : W3.cell? ⟨gL, 0, none⟩ = some (.int .i64 last) := (blk_cell HI.out.hL 0).trans rfl
 go_wp2_with ((with_reducible refine gate_ (.load 27 (.tmp 3)) rfl ?_); (try (refine gate_guard (by rfl) ?_; dsimp only)); refine Kd.event_run rfl (MatP.xR (.tmp 3) gR r p rfl rfl _ HI.out.hR) ?_)
 refine (end_ r p last _).mono ?_
 rintro q W4 ⟨rfl, hb⟩
 rw [HLE.out]
 replace J3 := Aside0.mk (HJ.out _ _ _ J3.out hb)
 replace HI := Aside0.mk (HI.out.below hb)
 clear hb kc kL HLE
 go_wp2_with fail
 go_loopg [5, 7] K (fun kq v5 v7 w' => ∃ (left per : Int) (pre rest' : List Int), v5 = .int .i64 left ∧ v7 = .int .i64 per ∧ Aside0 (Pd per) ∧ Aside0 (eachL b le r.a1 sf se tm kq per left = some rest') ∧ Aside0 (b :: rest = pre ++ rest') ∧ Aside0 (J pre w') ∧ Aside0 (Inv r p b last gR gB gL Bx S0 we w'))
 case atStart => exact ⟨lf0, 0, [b], rest, rfl, rfl, HP0, HU, ⟨rfl⟩, J3, HI⟩
 case round =>
  clear HI J3 HU hlf0
  obtain ⟨left, per, pre, rest', rfl, rfl, HP, HE, HX, HJ3, HI⟩ := hrel
  cases gk with
  | zero => exact absurd HE.out (by simp [eachL])
  | succ k1 =>
   have E := HE.out
   clear HE
   unfold eachL at E
   by_cases z : left = 0
   ·rw [if_pos z] at E
    obtain rfl := Option.some.inj E
    have z1 : (left != 0) = false := bne_eq_false_iff_eq.2 z
    clear E z
    go_wp2_with fail
    go_end0
    exact ⟨⟨_, rfl⟩, .inl ⟨_, rfl, by rw [CU.out, HX.out, List.append_nil]; exact HJ3.out⟩⟩
   rw [if_neg z] at E
   have z1 : (left != 0) = true := bne_iff_ne.2 z
   have EE := Aside0.mk E
   clear z E
   go_upto_region 6 with fail
   have HRB := Aside0.mk (below_drew1 (Below.refl wr.heap.size wr))
   refine start_ (n := 12) (S := fun w' => w'.heap[gR]? = some (obj r p) ∧ w'.cell? ⟨gB, 0, none⟩ = some (.int .i64 b)) (ds := []) (tt 12 0) (by kernel_rfl) rfl rfl ⟨blk_drew HI.out.hR, (pw_cell_below (below_drew1 (Below.refl _ _)) ((blk_cell HI.out.hB 0).trans rfl))⟩ (fun hHeld => ?_)
   refine with_tabW tabi6 bitsi6 (fun HT_ HW_ => ?_)
   generalize wr.drew = wd_ at HRB hHeld ⊢
   refine take_ (i := 0) (N := some 35) (v := .agg (agg r p)) (a' := ?_) (tt 12 1) rfl rfl (take_ofW HT_.out HW_.out (by kernel_rfl)) (fun _ _ _ h => h) (Or.inl ⟨by rfl, fun w' hs => xR (.tmp 3) gR r p rfl rfl w' hs.1⟩) hHeld ?_ ?_
   rotate_left
   ·simp only [Act.put, sA, sB, sC, i64_w, i32_w]
    rfl
   refine take_ (i := 1) (N := some 36) (v := ?_) (a' := ?_) (tt 12 2) rfl rfl (take_ofW HT_.out HW_.out (by kernel_rfl)) (fun _ _ _ h => h) (Or.inl ⟨by rfl, ?_⟩) hHeld ?_ ?_
   rotate_left
   ·rintro w' ⟨s0, s1⟩
    go_simp
    with_reducible rfl
   rotate_left
   ·simp only [Act.put, sA, sB, sC, i64_w, i32_w]
    rfl
   refine pu 3 (some 38) #[true, true, false, true, false, false, false, false, false, false, false, false] HT_ ?_
   refine one_ (i := 2) (N := some 37) (tt 12 4) rfl rfl (one_of HT_.out (by kernel_rfl)) (by decide) (fun K hK => ?_)
   refine goes_ Tryz.func73 (by kernel_rfl) rfl #[.int .i64 b] (by rfl) rfl rfl (by (try simp only [List.map_toArray, List.map_cons, List.map_nil]); first | done | rfl) ?_
   refine (clock_Day.calls b dy _ HD.out).mono ?_
   rintro q wq1 ⟨rfl, ⟨nd, rfl⟩⟩
   refine ⟨_, rfl, ?_⟩
   replace HRB := Aside0.mk (pw_below_drewN HRB.out nd)
   refine hK.out _ _ ⟨blk_drewN hHeld.1 nd, (pw_cell_below (pw_below_drewN (Below.refl _ _) nd) hHeld.2)⟩ (fun hHeld => ?_)
   clear hK K
   refine norm_ (a' := ?_) ?_ ?_
   rotate_left
   ·show Act.put _ (some 37) _ = _
    simp only [Act.put, sA, sB, sC, i64_w, i32_w]
    rfl
   refine one_ (i := 4) (N := some 39) (tt 12 5) rfl rfl (one_of HT_.out (by kernel_rfl)) (by decide) (fun K hK => ?_)
   refine goes_ Tryz.func9 (by kernel_rfl) rfl #[.agg (agg r p), .int .i64 dy, .int .i64 per] (by rfl) rfl rfl (by (try simp only [List.map_toArray, List.map_cons, List.map_nil]); first | done | rfl) ?_
   refine (HS.out per HP.out _ (OK.out.below (below_then HI.out.be HI.out.be.size HRB.out))).mono ?_
   rintro q wq2 ⟨rfl, hb⟩
   refine ⟨_, rfl, ?_⟩
   replace HRB := Aside0.mk (below_then HRB.out HRB.out.size hb)
   refine hK.out _ _ ⟨blk_below hHeld.1 hb, pw_cell_below hb hHeld.2⟩ (fun hHeld => ?_)
   clear hK K
   refine norm_ (a' := ?_) ?_ ?_
   rotate_left
   ·show Act.put _ (some 39) _ = _
    simp only [Act.put, sA, sB, sC, i64_w, i32_w]
    rfl
   refine pu 5 (some 34) (tt 12 6) HT_ ?_
   refine pu 6 (some 40) (tt 12 7) HT_ ?_
   refine pu 7 (some 41) (tt 12 8) HT_ ?_
   refine pu 8 (some 42) (tt 12 9) HT_ ?_
   refine pu 9 (some 8) (tt 12 10) HT_ ?_
   refine pu 10 (some 9) (tt 12 11) HT_ ?_
   refine pu 11 (some 10) (tt 12 12) HT_ ?_
   refine done_ (done_of HT_.out (by kernel_rfl)) ?_
   clear HT_ HW_
   replace HJ3 := Aside0.mk (HJ.out _ _ _ HJ3.out HRB.out)
   replace HI := Aside0.mk (HI.out.below HRB.out)
   clear hHeld HRB
   by_cases y : se per = 0
   rotate_left
   ·have y1 : (se per != 0) = true := bne_iff_ne.2 y
    have E := EE.out; rw [if_pos (Or.inl y)] at E
    obtain rfl := Option.some.inj E
    clear E EE y
    go_wp2_with fail
    refine bodyPost_ret (results_none rfl _ _ _) rfl ?_
    exact ⟨⟨_, rfl⟩, .inl ⟨_, rfl, by rw [CU.out, HX.out, List.append_nil]; exact HJ3.out⟩⟩
   have y1 : (se per != 0) = false := bne_eq_false_iff_eq.2 y
   obtain ⟨ff, hff⟩ : ∃ ff, wrap64 (sf per * 86400) = ff := ⟨_, rfl⟩
   have YS := Aside0.mk y
   by_cases v : ff > le
   ·have v1 : decide (ff > le) = true := decide_eq_true v
    have E := EE.out; rw [if_pos (Or.inr (by rw [hff]; exact v))] at E
    obtain rfl := Option.some.inj E
    clear E EE y v
    go_wp2_with fail
    refine bodyPost_ret (results_none rfl _ _ _) rfl ?_
    exact ⟨⟨_, rfl⟩, .inl ⟨_, rfl, by rw [CU.out, HX.out, List.append_nil]; exact HJ3.out⟩⟩
   have v1 : decide (ff > le) = false := decide_eq_false v
   have E := EE.out; rw [if_neg (by rw [hff]; exact fun q => q.elim (fun a => a y) v)] at E
   have EI := Aside0.mk E
   clear E EE y v
   go_upto_region 8 with fail
   have kB : wq2.cell? ⟨gB, 0, none⟩ = some (.int .i64 b) := (blk_cell HI.out.hB 0).trans rfl
   go_wp2_with ((with_reducible refine gate_ (.load 27 (.tmp 3)) rfl ?_); (try (refine gate_guard (by rfl) ?_; dsimp only)); refine Kd.event_run rfl (MatP.xR (.tmp 3) gR r p rfl rfl _ HI.out.hR) ?_)
   refine (HT.out per HP.out YS.out _ (OK.out.below HI.out.be)).mono ?_
   rintro q wt ⟨⟨AT, cT, rfl, hCT, hcT, hfT⟩, hb⟩
   have TI := Aside0.mk (tin_of hCT hfT HI.out hb)
   replace HJ3 := Aside0.mk (HJ.out _ _ _ HJ3.out hb)
   replace HI := Aside0.mk (HI.out.below hb)
   have LT := Aside0.mk (HTl.out per)
   clear hb hCT hcT hfT kB hff
   obtain ⟨T, hTT⟩ : ∃ T, tm per = T := ⟨_, rfl⟩
   rw [hTT] at TI EI LT ⊢
   clear hTT
   go_wp2_with fail
   go_loopg [5, 56] T.length (fun kq v5 v56 w' => ∃ (i : Nat) (x left2 : Int) (pre2 : List Int), v5 = .int .i64 left2 ∧ v56 = .int .i64 x ∧ Aside0 (x = (i : Int)) ∧ Aside0 (i + kq = T.length) ∧ Aside0 (pre2 ++ (inner b le (T.drop i) left2).1 = pre ++ (inner b le T left).1) ∧ Aside0 ((inner b le (T.drop i) left2).2 = (inner b le T left).2) ∧ Aside0 (J pre2 w') ∧ Aside0 (Inv r p b last gR gB gL Bx S0 we w') ∧ Aside0 (TIn Bx AT T w'))
   case atStart => exact ⟨0, 0, left, pre, rfl, rfl, ⟨rfl⟩, ⟨by omega⟩, ⟨rfl⟩, ⟨rfl⟩, HJ3, HI, TI⟩
   case round =>
    clear HJ3 HI TI
    obtain ⟨i, x, left2, pre2, rfl, rfl, HXI, HIK, HA1, HA2, HJ3, HI, TI⟩ := hrel
    cases gk with
    | zero =>
     have l1 : decide (x < (T.length : Int)) = false := decide_eq_false (by have := HXI.out; have := HIK.out; omega)
     have e0 : T.drop i = [] := List.drop_eq_nil_of_le (by have := HIK.out; omega)
     rw [e0] at HA1 HA2
     have k1_ : wr.cell? ⟨gR, 1, none⟩ = some (.int .i64 r.a1) := (blk_cell HI.out.hR 1).trans rfl
     have HA3 := Aside0.mk (show (inner b le T left).2.1 = left2 ∧ (inner b le T left).2.2 = false from by rw [← HA2.out]; exact ⟨rfl, rfl⟩)
     have HA4 := Aside0.mk (show pre2 = pre ++ (inner b le T left).1 from by rw [← HA1.out]; simp [inner])
     clear HA1 HA2 e0
     have E := EI.out
     rw [if_neg (by rw [HA3.out.2]; simp), HA3.out.1] at E
     obtain ⟨r2, hr2, hr3⟩ := Option.map_eq_some_iff.1 E
     have R2 := Aside0.mk hr2; have R3 := Aside0.mk hr3
     have R4 := Aside0.mk (show b :: rest = pre2 ++ r2 from by rw [HX.out, HA4.out, ← hr3, List.append_assoc])
     clear E hr2 hr3
     go_wp2_with fail
     go_roundg k1
     case measure => omega
     case rel => exact ⟨left2, _, pre2, r2, rfl, rfl, ⟨HPs.out per HP.out YS.out⟩, R2, R4, HJ3, HI⟩
    | succ k2 =>
     have p1 : 0 ≤ x := by have := HXI.out; omega
     have q1 : x < (T.length : Int) := by have := HXI.out; have := HIK.out; omega
     have l1 : decide (x < (T.length : Int)) = true := decide_eq_true q1
     obtain ⟨ad, e, hx⟩ := Kd.at_int TI.out.1 x p1 q1
     cases e
     replace p1 := eq_true p1
     replace q1 := eq_true q1
     have nx : wrap64 (x + 1) = x + 1 := by have := HXI.out; have := HIK.out; have := LT.out; unfold wrap64; omega
     obtain ⟨t, ht⟩ : ∃ t, rd T x = t := ⟨_, rfl⟩
     rw [ht] at hx
     have HD2 := Aside0.mk (show T.drop i = t :: T.drop (i + 1) from by
      have hlt : i < T.length := by have := HIK.out; omega
      rw [List.drop_eq_getElem_cons hlt, ← ht, HXI.out, rd_get T hlt])
     clear ht
     rw [HD2.out] at HA1 HA2
     have kB : wr.cell? ⟨gB, 0, none⟩ = some (.int .i64 b) := (blk_cell HI.out.hB 0).trans rfl
     by_cases y : t ≤ b
     ·have y1 : decide (t ≤ b) = true := decide_eq_true y
      have e1 : inner b le (t :: T.drop (i + 1)) left2 = inner b le (T.drop (i + 1)) left2 := by rw [inner, if_pos y]
      rw [e1] at HA1 HA2
      clear y e1
      go_wp2_with fail
      go_roundg k2
      case measure => omega
      case rel => exact ⟨i + 1, x + 1, left2, pre2, rfl, by simp [nx], ⟨by have := HXI.out; push_cast; omega⟩, ⟨by have := HIK.out; omega⟩, HA1, HA2, HJ3, HI, TI⟩
     have y1 : decide (t ≤ b) = false := decide_eq_false y
     by_cases v : t > le ∨ left2 = 0
     ·have e1 : inner b le (t :: T.drop (i + 1)) left2 = ([], left2, true) := by rw [inner, if_neg y, if_pos v]
      rw [e1] at HA1 HA2
      have E := EI.out
      rw [if_pos (by rw [← HA2.out])] at E
      obtain rfl := Option.some.inj E
      have HE2 := Aside0.mk (show allU b last rest = pre2 from by rw [CU.out, HX.out, ← HA1.out]; simp)
      clear E e1 y
      by_cases v1 : t > le
      ·have v2 : decide (t > le) = true := decide_eq_true v1
       clear v v1
       go_wp2_with fail
       refine bodyPost_ret (results_none rfl _ _ _) rfl ?_
       first | exact ⟨⟨_, rfl⟩, .inl ⟨_, rfl, by rw [HE2.out]; exact HJ3.out⟩⟩ | exact ⟨⟨_, rfl⟩, .inl (by rw [HE2.out]; exact HJ3.out)⟩
      ·have v2 : decide (t > le) = false := decide_eq_false v1
       have v3 : (left2 == 0) = true := beq_iff_eq.2 (v.resolve_left v1)
       clear v v1
       go_wp2_with fail
       refine bodyPost_ret (results_none rfl _ _ _) rfl ?_
       first | exact ⟨⟨_, rfl⟩, .inl ⟨_, rfl, by rw [HE2.out]; exact HJ3.out⟩⟩ | exact ⟨⟨_, rfl⟩, .inl (by rw [HE2.out]; exact HJ3.out)⟩
     have e1 : inner b le (t :: T.drop (i + 1)) left2 = (t :: (inner b le (T.drop (i + 1)) (wrap64 (left2 - 1))).1, (inner b le (T.drop (i + 1)) (wrap64 (left2 - 1))).2) := by rw [inner, if_neg y, if_neg v]
     rw [e1] at HA1 HA2
     have v2 : decide (t > le) = false := decide_eq_false (fun q => v (Or.inl q))
     have v3 : (left2 == 0) = false := beq_eq_false_iff_ne.2 (fun q => v (Or.inr q))
     clear e1 y v
     have HPX := Aside0.mk (show pre2 ++ [t] <+: allU b last rest from by
      have E := EI.out
      have h1 : pre2 ++ [t] <+: pre ++ (inner b le T left).1 := by rw [← HA1.out]; exact ⟨_, by rw [List.append_assoc]; rfl⟩
      rw [CU.out, HX.out]
      split at E
      ·obtain rfl := Option.some.inj E; exact h1
      ·obtain ⟨r2, _, hr3⟩ := Option.map_eq_some_iff.1 E
       rw [← hr3, ← List.append_assoc]; exact h1.trans ⟨_, rfl⟩)
     obtain ⟨fn, tmps, assign, body, hy, hR⟩ := HY.out pre2 t wr HJ3.out (by
      have h1 := HPX.out.length_le
      rw [CU.out] at h1
      have := HN.out
      simp at h1; omega)
     go_upto_region 12 with fail
     refine (wpIn_wide (n := m + 1)).1 ?_
     gi_wp2
     refine hR.mono ?_
     clear hR hy kB hx
     rintro e W5 (⟨rfl, hJ5, hk5⟩ | ⟨rfl, hJx5⟩)
     rotate_left
     ·gi_wp2
      go_wp2_with fail
      refine bodyPost_ret (results_none rfl _ _ _) rfl ?_
      exact ⟨⟨_, rfl⟩, .inr ⟨_, HPX.out, hJx5⟩⟩
     replace TI := Aside0.mk (TI.out.round hk5)
     replace HI := Aside0.mk (HI.out.round hk5)
     replace HJ3 := Aside0.mk hJ5
     clear hk5 hJ5
     gi_wp2
     go_wp2_with fail
     go_roundg k2
     case measure => omega
     case rel => exact ⟨i + 1, x + 1, _, pre2 ++ [t], rfl, by simp [nx], ⟨by have := HXI.out; push_cast; omega⟩, ⟨by have := HIK.out; omega⟩, ⟨by rw [List.append_assoc]; exact HA1.out⟩, HA2, HJ3, HI, TI⟩
end Go.Proofs.YtfdcldjoncednaaGreat.ExI
/- expand.Until: the loop over Each. -/
namespace Go.Proofs.YtfdcldjoncednaaGreat.ExU
open Go.RowKit Go.Proofs.YtfdcldjoncednaaGreatW.PrintWords Go.Proofs.YtfdcldjoncednaaGreatW.PrintLast Go.Proofs.YtfdcldjoncednaaGreatW.PrintMore Go.Proofs.YtfdcldjoncednaaGreat.M Go.Proofs.YtfdcldjoncednaaGreat.Ru Go.Proofs.YtfdcldjoncednaaGreat.MatP Go.Proofs.YtfdcldjoncednaaGreat.MatG Go.Proofs.YtfdcldjoncednaaGreat.ExD Go.Proofs.YtfdcldjoncednaaGreat.ExO Go.Proofs.YtfdcldjoncednaaGreat.ExT Go.Proofs.YtfdcldjoncednaaGreat.ExE Go.Proofs.YtfdcldjoncednaaGreat.ExI
set_option linter.unusedVariables false
set_option linter.unusedSimpArgs false
attribute [local go_sem] Oper.semAt_some
theorem Kp_t {n Bx : Nat} {A B C : World} (h : Kp n Bx A B) (k : Kp n Bx B C) : Kp n Bx A C := by
 obtain ⟨h1, h2, h3⟩ := h; obtain ⟨k1, k2, k3⟩ := k
 have s1 := h1.size; have s2 := k1.size
 refine ⟨h1.trans k1, fun g cs t s hg hne ho => ?_, ?_⟩
 ·have e := h2 g cs t s hg hne ho
  have hlt := (Array.getElem?_eq_some_iff.1 hg).1
  refine (k2 g cs t s (e.trans hg) hne (fun q => ?_)).trans e
  rcases h3 with o | ⟨g', o, q1, q2⟩
  ·rw [o] at q; exact ho q
  ·rw [o] at q; have := Option.some.inj q; omega
 ·rcases k3 with o | ⟨g', o, q1, q2⟩
  ·rcases h3 with o' | ⟨g'', o', q1', q2'⟩
   ·exact .inl (o.trans o')
   ·exact .inr ⟨g'', o.trans o', q1', by omega⟩
  ·exact .inr ⟨g', o, by omega, q2⟩
theorem Kp_b {n Bx : Nat} {w : World} (hn : n ≤ w.heap.size) (hx : Bx < w.heap.size) (W : World) (l : Nat) (o o' : Obj) (hl : w.heap.size ≤ l) (h : W.heap[l]? = some o) (hc : o.isCells = false) (_ : o.isWalk = false) : Kp n Bx W (W.putObj l o') := by
 refine ⟨belowK_b hn W l o o' hl h hc ‹_›, fun g cs t s hg _ _ => ?_, .inl ?_⟩
 ·refine World.putObj_heap_other (fun e => ?_)
  subst e
  rw [h] at hg
  cases hg
  simp [Obj.isCells] at hc
 ·unfold own
  rw [World.cell?_of_block (w := W) (w' := W.putObj l o') (a := ⟨Bx, 0, none⟩) (World.putObj_heap_other (by show Bx ≠ l; omega))]
/-- The iterator's contract. -/
theorem stops (n Bx gR gB gL N S0 : Nat) (r : Ru) (p : Rp) (b last le dy : Int) (sf sl se : Int → Int) (tm : Int → List Int) (Pd : Int → Prop) (rest : List Int) (K : Nat) (we w : World)
  (ok : Ok r p we) (hI : Inv r p b last gR gB gL Bx S0 we w) (hS0 : S0 ≤ w.heap.size)
  (hd : clock_Day.f b = some dy) (hle : endF r last = le) (hP0 : Pd 0) (hPs : ∀ per, Pd per → se per = 0 → Pd (wrap64 (per + r.a1))) (hS : ∀ n, Pd n → SpanC r p dy n (sf n) (sl n) (se n)) (hT : ∀ n, Pd n → se n = 0 → TimC r p b n (tm n)) (hTl : ∀ n, (tm n).length ≤ 17000000000000)
  (hU : b ≤ last → eachL b le r.a1 sf se tm K 0 (wrap64 (r.a2 - 1)) = some rest) (hN : rest.length + 1 ≤ N) :
  SeqStopsK Fence.wide n Tryz.prog 71 #[.pointer (some ⟨gB, 0, none⟩), .pointer (some ⟨gL, 0, none⟩), .pointer (some ⟨gR, 0, none⟩)] (fun x : Int => #[Value.int .i64 x]) (Kp we.heap.size Bx) (fun xs => xs = allU b last rest) (fun pre => pre <+: allU b last rest) N w := fun l J Jx W hW hJ _ hY h0 => by
 refine callsIn_wide.2 ?_
 exact each1 (n - 1) l Bx gR gB gL N S0 r p b last le dy sf sl se tm Pd rest K we W J Jx
  (fun s W1 W2 hs hb => hJ s W1 W2 none hs ⟨hb.os, hb.tape, hb.output, hb.size, fun k hk _ => hb.block k hk⟩ (fun r e => by cases e)) hY ok (hI.below hW) hd hle hP0 hPs hS hT hTl hU hN h0
/-- What Until answers: a list, whether there is more, what is wrong. -/
def OutU (w' : World) (L : List Int) (more : Bool) (e : Int) (q : Ending) : Prop := ∃ A c, q = .returned (.tuple #[.slice A L.length c, .bool more, .int .i64 e]) ∧ (Kd.int .i64).C w' A L.length L ∧ L.length ≤ c
/-- Five blocks laid. -/
theorem five (w : World) (o1 o2 o3 o4 o5 : Obj) : ∃ w0, w0 = ((((w.alloc o1).alloc o2).alloc o3).alloc o4).alloc o5 ∧ w0.heap.size = w.heap.size + 5 ∧ w0.heap[w.heap.size]? = some o1 ∧ w0.heap[w.heap.size + 1]? = some o2 ∧ w0.heap[w.heap.size + 2]? = some o3 ∧ w0.heap[w.heap.size + 3]? = some o4 ∧ w0.heap[w.heap.size + 4]? = some o5 ∧ Below w.heap.size w w0 := by
 have b : ∀ (v : World) (o : Obj), Below v.heap.size v (v.alloc o) := fun v o => below_alloc (Below.refl _ _) o
 have h1 := blk_new w o1
 have h2 := blk_new (w.alloc o1) o2
 have h3 := blk_new ((w.alloc o1).alloc o2) o3
 have h4 := blk_new (((w.alloc o1).alloc o2).alloc o3) o4
 have h5 := blk_new ((((w.alloc o1).alloc o2).alloc o3).alloc o4) o5
 simp only [World.size_alloc] at h2 h3 h4 h5
 refine ⟨_, rfl, by simp only [World.size_alloc], ?_, ?_, ?_, ?_, h5, below_alloc (below_alloc (below_alloc (below_alloc (below_alloc (Below.refl _ _) _) _) _) _) _⟩
 ·exact blk_below (blk_below (blk_below (blk_below h1 (b _ _)) (b _ _)) (b _ _)) (b _ _)
 ·exact blk_below (blk_below (blk_below h2 (b _ _)) (b _ _)) (b _ _)
 ·exact blk_below (blk_below h3 (b _ _)) (b _ _)
 ·exact blk_below h4 (b _ _)
theorem triple (w : World) (o1 o2 o3 : Obj) : ∃ w0, w0 = ((w.alloc o1).alloc o2).alloc o3 ∧ w0.heap.size = w.heap.size + 3 ∧ w0.heap[w.heap.size]? = some o1 ∧ w0.heap[w.heap.size + 1]? = some o2 ∧ w0.heap[w.heap.size + 2]? = some o3 ∧ Below w.heap.size w w0 := by
 have b : ∀ (v : World) (o : Obj), Below v.heap.size v (v.alloc o) := fun v o => below_alloc (Below.refl _ _) o
 have h1 := blk_new w o1
 have h2 := blk_new (w.alloc o1) o2
 have h3 := blk_new ((w.alloc o1).alloc o2) o3
 simp only [World.size_alloc] at h2 h3
 exact ⟨_, rfl, by simp only [World.size_alloc], blk_below (blk_below h1 (b _ _)) (b _ _), blk_below h2 (b _ _), h3, below_alloc (below_alloc (below_alloc (Below.refl _ _) _) _) _⟩
/-- A row of the call's own behind the turn of a block that is no cells. -/
theorem R_turn {e base : Nat} {ok : Nat → Prop} {W W' : World} {v : Value} {xs : List Int} {row : Option Nat} (h : (Kd.int .i64).R e W base ok v xs) (hg : W.grownBy W' row) (hr : ∀ r, row = some r → ∃ o : Obj, W.heap[r]? = some o ∧ o.isCells = false) : (Kd.int .i64).R e W' base ok v xs := by
 refine Kd.R_mono (Kd.R_grown (Kd.R_bound h) hg (fun k hk q => ?_)) (fun k hk => hk.1)
 obtain ⟨_, _, _, _, _, cells, hc⟩ := hk
 obtain ⟨o, ho, hn⟩ := hr k q.symm
 rw [hc] at ho; cases ho; simp [Obj.isCells] at hn
/-- What the caller's own cells hold between two rounds. -/
def IU (w w3 : World) (Bx : Nat) (most : Int) (pre : List Int) (W : World) : Prop := (∃ v, Boxed W Bx 42 v ∧ (Kd.int .i64).R 2 W w3.heap.size (fun _ => True) v pre) ∧ (pre.length : Int) ≤ most ∧ Below w.heap.size w W ∧ w3.heap.size ≤ W.heap.size ∧ ∀ g, g < w3.heap.size → g ≠ Bx → W.heap[g]? = w3.heap[g]?
/-- A round has left. -/
def IX (w w3 : World) (most : Int) (c : Code) (q : List Int) (W : World) : Prop := c = .ret ∧ ∃ pre x v, q = pre ++ [x] ∧ (pre.length : Int) = most ∧ Boxed W (w.heap.size + 2) 42 v ∧ (Kd.int .i64).R 2 W w3.heap.size (fun _ => True) v pre ∧ Boxed W (w.heap.size + 3) 4 (.bool true) ∧ Boxed W (w.heap.size + 4) 30 (.int .i64 0) ∧ Below w.heap.size w W ∧ w3.heap.size ≤ W.heap.size
theorem box_turn {W W' : World} {B : Nat} {t : TypeId} {v : Value} {row : Option Nat} (h : Boxed W B t v) (hg : W.grownBy W' row) (hr : ∀ r, row = some r → ∃ o : Obj, W.heap[r]? = some o ∧ o.isCells = false) : Boxed W' B t v :=
 h.kept hg (fun e' => by obtain ⟨o, ho, hc⟩ := hr B e'.symm; rw [show W.heap[B]? = _ from h] at ho; cases ho; simp [Obj.isCells] at hc)
theorem IU_own (w w3 : World) (Bx : Nat) (most : Int) (hw : w.heap.size ≤ w3.heap.size) : OwnFrom w3.heap.size (IU w w3 Bx most) := by
 rintro pre W W' row ⟨⟨v, hv, hR⟩, hl, hb, hs, hk⟩ hg hr
 have hr' : ∀ r, row = some r → ∃ o : Obj, W.heap[r]? = some o ∧ o.isCells = false := fun r e => (hr r e).2
 refine ⟨⟨v, box_turn hv hg hr', R_turn hR hg hr'⟩, hl, hb.grown hg hb.size (fun k e => Nat.le_trans hw (hr k e).1), Nat.le_trans hs hg.size, fun g h1 h2 => ?_⟩
 rw [hg.block g (Nat.lt_of_lt_of_le h1 hs) (fun e => by have := (hr g e.symm).1; omega)]
 exact hk g h1 h2
theorem IX_own (w w3 : World) (most : Int) (hw : w.heap.size ≤ w3.heap.size) (c : Code) : OwnFrom w3.heap.size (IX w w3 most c) := by
 rintro q W W' row ⟨hc, pre, x, v, e, hl, h1, h2, h3, h4, hb, hs⟩ hg hr
 have hr' : ∀ r, row = some r → ∃ o : Obj, W.heap[r]? = some o ∧ o.isCells = false := fun r e => (hr r e).2
 exact ⟨hc, pre, x, v, e, hl, box_turn h1 hg hr', R_turn h2 hg hr', box_turn h3 hg hr', box_turn h4 hg hr', hb.grown hg hb.size (fun k e => Nat.le_trans hw (hr k e).1), Nat.le_trans hs hg.size⟩
theorem R_set {e base : Nat} {ok : Nat → Prop} {W : World} {v : Value} {xs : List Int} (h : (Kd.int .i64).R e W base ok v xs) {b : Nat} (hb : b < base) (u : Value) : (Kd.int .i64).R e (W.setCell ⟨b, 0, none⟩ u) base ok v xs :=
 Kd.R_mono (Kd.R_grown (Kd.R_bound h) (grownBy_setCell' W b u) (fun k hk q => by have := hk.2.1; have := Option.some.inj q; omega)) (fun k hk => hk.1)
theorem box_set {W : World} {B b : Nat} {t : TypeId} {v : Value} (h : Boxed W B t v) (hne : B ≠ b) (u : Value) : Boxed (W.setCell ⟨b, 0, none⟩ u) B t v := h.kept (grownBy_setCell' W b u) (fun q => hne (Option.some.inj q))
theorem size_set (W : World) (a : Addr) (u : Value) : (W.setCell a u).heap.size = W.heap.size := by
 have := (grownBy_setCell' W a.block u); simp [World.setCell]
/-- The three results stored. -/
theorem stored {W w : World} {b base n : Nat} {v v8 : Value} {m m9 : Bool} {pre : List Int} {e : Nat} {t8 t9 t10 : TypeId} (h8 : Boxed W b t8 v8) (h9 : Boxed W (b + 1) t9 (.bool m9)) (h10 : Boxed W (b + 1 + 1) t10 (.int .i64 0)) (hR : (Kd.int .i64).R e W base (fun _ => True) v pre) (hb : b + 2 < base) (hB : Below n w W) (hn : n ≤ b) :
  ∃ W3, W3 = ((W.setCell ⟨b, 0, none⟩ v).setCell ⟨b + 1, 0, none⟩ (.bool m)).setCell ⟨b + 1 + 1, 0, none⟩ (.int .i64 0) ∧ Boxed W3 b t8 v ∧ Boxed W3 (b + 1) t9 (.bool m) ∧ Boxed W3 (b + 1 + 1) t10 (.int .i64 0) ∧ (Kd.int .i64).R e W3 base (fun _ => True) v pre ∧ Below n w W3 ∧ W3.heap.size = W.heap.size ∧ KeepsOthers W W3 :=
 ⟨_, rfl, box_set (box_set (h8.set _) (by omega) _) (by omega) _, box_set ((box_set h9 (by omega) _).set _) (by omega) _, (box_set (box_set h10 (by omega) _) (by omega) _).set _, R_set (R_set (R_set hR (by omega) _) (by omega) _) (by omega) _,
  ((hB.setCell (p := ⟨b, 0, none⟩) hn _).setCell (p := ⟨b + 1, 0, none⟩) (by show n ≤ b + 1; omega) _).setCell (p := ⟨b + 1 + 1, 0, none⟩) (by show n ≤ b + 1 + 1; omega) _, by rw [size_set, size_set, size_set], (KeepsOthers.setCell _ _ _).trans ((KeepsOthers.setCell _ _ _).trans (KeepsOthers.setCell _ _ _))⟩
theorem own_box {W : World} {Bx : Nat} {t : TypeId} {v : Value} (h : Boxed W Bx t v) : own W Bx = v.ownBlock := by unfold own; rw [h.cell]; rfl
set_option maxRecDepth 100000 in
theorem infoL : (Tryz.prog.info? 2).map (fun i => (i.zero, i.size, i.bytes)) = some (some (.int .i64 0), 1, 8) := by kernel_rfl
/-- Behind 'l = append(l, x)' in a round: all that the round owes. -/
theorem appended {w w4 W w1 : World} {Bx : Nat} {most x : Int} {v v' : Value} {pre : List Int} {inner : List Value} (hv : Boxed W Bx 42 v) (h0 : ∀ k, v.ownBlock = some k → True)
  (hown : W.ownsRow w4.heap.size 2 1 v pre.length inner) (hrp : Reps ((Kd.int .i64).M W w4.heap.size (fun k => True ∧ some k ≠ v.ownBlock)) 1 pre inner) (hl : (pre.length : Int) < most) (hb : Below w.heap.size w W) (hs : w4.heap.size ≤ W.heap.size) (hw : w.heap.size ≤ w4.heap.size) (hB : w.heap.size ≤ Bx) (hBx : Bx < w4.heap.size) (hk : ∀ g, g < w4.heap.size → g ≠ Bx → W.heap[g]? = w4.heap[g]?) {tmp : Obj}
  (hown' : w1.ownsRow w4.heap.size 2 1 v' (pre.length + 1) (inner ++ [.int .i64 x])) (hg : (W.alloc tmp).grownBy w1 v.ownBlock) (hat : v'.ownBlock = v.ownBlock ∨ v'.ownBlock = some (W.alloc tmp).heap.size) :
  Boxed w1 Bx 42 v ∧ KeepsOthers W (w1.setCell ⟨Bx, 0, none⟩ v') ∧ Kp w.heap.size Bx W (w1.setCell ⟨Bx, 0, none⟩ v') ∧ IU w w4 Bx most (pre ++ [x]) (w1.setCell ⟨Bx, 0, none⟩ v') := by
 have hg2 : W.grownBy w1 v.ownBlock := World.grownBy.trans (World.grownBy_alloc W tmp _) hg
 have hv1 : Boxed w1 Bx 42 v := hv.kept hg2 (hv.not_row (by decide) hown)
 have hv2 := hv1.set v'
 have hge : ∀ k, v.ownBlock = some k → w4.heap.size ≤ k := fun k e => (hown.lt k e).1
 have hat2 : v'.ownBlock = v.ownBlock ∨ ∃ b, v'.ownBlock = some b ∧ W.heap.size ≤ b := hat.imp id (fun e => ⟨_, e, by simp⟩)
 have hR : (Kd.int .i64).R 2 w1 w4.heap.size (fun _ => True) v' (pre ++ [x]) := Kd.R_appended (okp := fun _ => False) (p := x) (cs := [.int .i64 x]) (fun _ _ => trivial) hrp rfl (fun _ h => h.elim) (fun _ _ => trivial) hown' hg2 hat2
 have hR2 : (Kd.int .i64).R 2 (w1.setCell ⟨Bx, 0, none⟩ v') w4.heap.size (fun _ => True) v' (pre ++ [x]) := R_set hR hBx _
 have hsz : (w1.setCell ⟨Bx, 0, none⟩ v').heap.size = w1.heap.size := size_set _ _ _
 have blk : ∀ g, g < W.heap.size → g ≠ Bx → v.ownBlock ≠ some g → (w1.setCell ⟨Bx, 0, none⟩ v').heap[g]? = W.heap[g]? := fun g h1 h2 h3 => by
  rw [(grownBy_setCell' w1 Bx v').block g (Nat.lt_of_lt_of_le h1 hg2.size) (fun e => h2 (Option.some.inj e)), hg2.block g h1 (fun e => h3 e.symm)]
 have hbel : Below w.heap.size W (w1.setCell ⟨Bx, 0, none⟩ v') := ((Below.refl w.heap.size W).grown hg2 (Nat.le_trans hw hs) (fun k e => Nat.le_trans hw (hge k e))).setCell (p := ⟨Bx, 0, none⟩) hB _
 refine ⟨hv1, ?_, ⟨hbel, fun g cs t s hg' hne ho => ?_, ?_⟩, ⟨⟨v', hv2, hR2⟩, by simp; omega, hb.trans hbel, by rw [hsz]; exact Nat.le_trans hs hg2.size, fun g h1 h2 => ?_⟩⟩
 ·refine (KeepsOthers.of_grownBy hg2 fun j o ej hj => ?_).trans (KeepsOthers.setCell _ _ _)
  rcases hown.2 with ⟨rfl, _⟩ | ⟨g, cap, cur, rfl, _, hgb, _⟩
  ·simp [Value.ownBlock] at ej
  ·obtain rfl : g = j := by simpa [Value.ownBlock] using ej
   rw [hgb] at hj; cases hj; rfl
 ·rw [own_box hv] at ho
  exact blk g (Array.getElem?_eq_some_iff.1 hg').1 hne ho
 ·rw [own_box hv, own_box hv2]
  rcases hat2 with e | ⟨g, e, h1⟩
  ·exact .inl e
  ·exact .inr ⟨g, e, h1, by rw [hsz]; exact Kd.R_lt hR g e⟩
 ·rw [blk g (Nat.lt_of_lt_of_le h1 hs) h2 (fun e => by have := hge g e; omega)]
  exact hk g h1 h2
set_option maxHeartbeats 8000000 in
set_option maxRecDepth 100000 in
theorem untilOk (k : Nat) (r : Ru) (p : Rp) (b last most le dy : Int) (sf sl se : Int → Int) (tm : Int → List Int) (Pd : Int → Prop) (rest : List Int) (K : Nat) (w : World) (ok : Ok r p w) (hf : FormOk k r true) (hr : clock_Right.f b = some true) (hm : ¬ most < 0)
  (hd : clock_Day.f b = some dy) (hle : endF r last = le) (hP0 : Pd 0) (hPs : ∀ per, Pd per → se per = 0 → Pd (wrap64 (per + r.a1))) (hS : ∀ n, Pd n → SpanC r p dy n (sf n) (sl n) (se n)) (hT : ∀ n, Pd n → se n = 0 → TimC r p b n (tm n)) (hTl : ∀ n, (tm n).length ≤ 17000000000000)
  (hU : b ≤ last → eachL b le r.a1 sf se tm K 0 (wrap64 (r.a2 - 1)) = some rest) (hN : rest.length ≤ 17000000000000 ∨ most ≤ 17000000000000) :
  Calls Tryz.prog 15 #[.agg (agg r p), .int .i64 b, .int .i64 last, .int .i64 most] w fun e W' => OutU W' ((allU b last rest).take most.toNat) (decide (most < ((allU b last rest).length : Int))) 0 e ∧ Below w.heap.size w W' := by
 have OK := Aside0.mk ok
 have HK := Aside0.mk (blk_new w (obj r p))
 have HB := Aside0.mk (below_alloc (Below.refl w.heap.size w) (obj r p))
 refine (callsIn_wide (n := 10)).1 ?_
 refine callsIn_of_wp_marks Tryz.func15 rfl trivial ?_ rfl
 simp only [Tryz.ntmps15, List.size_toArray, List.length_cons, List.length_nil, Nat.reduceAdd, Nat.reduceSub, Array.replicate_succ, Array.replicate_zero, List.push_toArray, List.append_toArray, List.nil_append, List.cons_append]
 refine wpIn_wide.2 ?_
 go_upto_region 1 with fail
 obtain ⟨w0, hw0, hz0, q1, q2, q3, q4, q5, qb⟩ := five w (.cells (agg r p) 27 (0, 0)) (.cells #[.int .i64 most] 3 (0, 0)) (.cells #[.slice none 0 0] 42 (0, 0)) (.cells #[.bool false] 4 (0, 0)) (.cells #[.int .i64 0] 30 (0, 0))
 rw [← hw0]
 clear hw0 HK HB
 have HB := Aside0.mk qb; have HK := Aside0.mk (show w0.heap[w.heap.size]? = some (obj r p) from q1); have HM := Aside0.mk q2; have H8 := Aside0.mk q3; have H9 := Aside0.mk q4; have H10 := Aside0.mk q5; have HZ := Aside0.mk hz0
 clear qb q1 q2 q3 q4 q5 hz0
 have HF := Aside0.mk hf; have HR := Aside0.mk hr; clear hf hr
 go_wp2_with ((with_reducible refine gate_ (.load 27 (.tmp 4)) rfl ?_); refine Kd.event_run rfl (xR (.tmp 4) (w.heap.size) r p rfl rfl _ HK.out) ?_)
 refine (asked k r p true true b _ (OK.out.below HB.out) HF.out HR.out).mono ?_
 rintro q w1 ⟨rfl, hb⟩
 have e0 : askE true true = 0 := rfl
 rw [e0]; clear e0
 replace HK := Aside0.mk (blk_below HK.out hb); replace HM := Aside0.mk (blk_below HM.out hb); replace H8 := Aside0.mk (blk_below H8.out hb); replace H9 := Aside0.mk (blk_below H9.out hb); replace H10 := Aside0.mk (blk_below H10.out hb)
 have HZ1 := Aside0.mk (show w.heap.size + 5 ≤ w1.heap.size by have := hb.size; have := HZ.out; omega)
 replace HB := Aside0.mk (below_then HB.out HB.out.size hb)
 clear hb HZ HF HR
 have km : w1.cell? ⟨w.heap.size + 1, 0, none⟩ = some (.int .i64 most) := (blk_cell HM.out 0).trans rfl
 have m1 : decide (most < 0) = false := decide_eq_false (by omega)
 go_upto_region 7 with fail
 have HX := Aside0.mk (blk_new w1 (.cells #[.slice none 0 0] 42 (0, 0)))
 have hb : Below w1.heap.size w1 (w1.alloc (.cells #[.slice none 0 0] 42 (0, 0))) := below_alloc (Below.refl _ _) _
 replace HK := Aside0.mk (blk_below HK.out hb); replace HM := Aside0.mk (blk_below HM.out hb); replace H8 := Aside0.mk (blk_below H8.out hb); replace H9 := Aside0.mk (blk_below H9.out hb); replace H10 := Aside0.mk (blk_below H10.out hb)
 replace HB := Aside0.mk (below_then HB.out HB.out.size hb)
 have HZ2 := Aside0.mk (show (w1.alloc (.cells #[.slice none 0 0] 42 (0, 0))).heap.size = w1.heap.size + 1 from World.size_alloc _ _)
 clear hb km m1
 generalize hBx : w1.heap.size = Bx at HX HZ1 HZ2 ⊢
 generalize w1.alloc (.cells #[.slice none 0 0] 42 (0, 0)) = w2 at HX HK HM H8 H9 H10 HB HZ2 ⊢
 clear hBx
 go_wp2_with ((with_reducible refine gate_ (.load 27 (.tmp 4)) rfl ?_); refine Kd.event_run rfl (xR (.tmp 4) (w.heap.size) r p rfl rfl _ HK.out) ?_)
 refine (each r p b last w2).mono ?_
 rintro q w3 ⟨rfl, hw3⟩
 rw [HZ2.out]
 obtain ⟨w4, hw4, hz4, t1, t2, t3, tb⟩ := triple w2 (obj r p) (.cells #[.int .i64 b] 2 (0, 0)) (.cells #[.int .i64 last] 2 (0, 0))
 rw [hw3, ← hw4]
 clear hw3 hw4 w3
 rw [HZ2.out] at t1 t2 t3 hz4
 have tb2 : Below w2.heap.size w2 w4 := tb
 have HI := Aside0.mk (show Inv r p b last (Bx + 1) (Bx + 1 + 1) (Bx + 1 + 2) Bx w4.heap.size w w4 from
  ⟨below_then HB.out HB.out.size tb2, t1, t2, t3, by omega, Nat.le_refl _, fun g e => by
   exfalso
   have hc : w4.cell? ⟨Bx, 0, none⟩ = some (.slice none 0 0) := (blk_cell (blk_below HX.out tb2) 0).trans rfl
   unfold own at e; rw [hc] at e; simp [Value.ownBlock] at e, by omega, by omega⟩)
 have HX4 := Aside0.mk (show Boxed w4 Bx 42 (.slice none 0 0) from blk_below HX.out tb2)
 have HM4 := Aside0.mk (blk_below HM.out tb2); have H84 := Aside0.mk (blk_below H8.out tb2); have H94 := Aside0.mk (blk_below H9.out tb2); have H104 := Aside0.mk (blk_below H10.out tb2)
 have HB4 := Aside0.mk (below_then HB.out HB.out.size tb2)
 have HZ4 := Aside0.mk hz4
 clear tb tb2 t1 t2 t3 hz4 HK HX HM H8 H9 H10 HB
 have MM := Aside0.mk hm
 have HST := Aside0.mk (stops 9 Bx (Bx + 1) (Bx + 1 + 1) (Bx + 1 + 2) (rest.length + 1) w4.heap.size r p b last le dy sf sl se tm Pd rest K w w4 OK.out HI.out (Nat.le_refl _) hd hle hP0 hPs hS hT hTl hU (Nat.le_refl _))
 have LR := Aside0.mk hN
 clear hd hle hP0 hPs hS hT hTl hU hN hm ok HI HZ2 w2
 go_wp2_with fail
 refine (wpIn_wide (n := 10)).1 ?_
 refine wpIn_rangeFunc_ownG rfl (by decide) (gf := 71) (lb := #[.pointer (some ⟨Bx + 1 + 1, 0, none⟩), .pointer (some ⟨Bx + 1 + 2, 0, none⟩), .pointer (some ⟨Bx + 1, 0, none⟩)]) rfl trivial (enters_of Tryz.func71 (by kernel_rfl) rfl)
  HST.out Kp_t (Kp_b HB4.out.size (by have := HZ4.out; have := HZ1.out; omega)) (Below.refl _ _) (fun _ => rfl)
  (IU w w4 Bx most) (IX w w4 most) (IU_own w w4 Bx most HB4.out.size) (IX_own w w4 most HB4.out.size)
  ⟨⟨_, HX4.out, Kd.R_nil _ _ _ _ _⟩, by have := MM.out; simp; omega, HB4.out, Nat.le_refl _, fun _ _ _ => rfl⟩
  (fun x => { tmps := #[Value.agg (agg r p), Value.int IntKind.i64 b, Value.int IntKind.i64 last, Value.int IntKind.i64 most,
     Value.pointer (some ⟨w.heap.size, 0, none⟩), undef, undef,
     Value.pointer (some ⟨w.heap.size + 1, 0, none⟩),
     Value.pointer (some ⟨w.heap.size + 1 + 1, 0, none⟩),
     Value.pointer (some ⟨w.heap.size + 1 + 1 + 1, 0, none⟩),
     Value.pointer (some ⟨w.heap.size + 1 + 1 + 1 + 1, 0, none⟩), Value.int IntKind.i64 0,
     Value.pointer (some ⟨Bx, 0, none⟩), .int .i64 x, Value.agg (agg r p), Value.int IntKind.i64 b,
     Value.int IntKind.i64 0, Value.int IntKind.i64 0, Value.bool false, undef, Value.int IntKind.i64 most,
     Value.bool false, Value.agg (agg r p), Value.int IntKind.i64 b, Value.int IntKind.i64 last,
     Value.func (Fn.func 71) #[]
      #[Value.pointer (some ⟨Bx + 1 + 1, 0, none⟩),
       Value.pointer (some ⟨Bx + 1 + 2, 0, none⟩),
       Value.pointer (some ⟨Bx + 1, 0, none⟩)],
     .int .i64 x, undef, undef, undef, undef, undef, undef, undef, undef, undef, undef], defers := [] }) ?assign ?body ?done ?stop
 case assign =>
  intro l x W K hK
  gi_wp2
  exact hK
 case body =>
  rintro l pre x W ⟨⟨v, hv, hR⟩, hl, hb, hs, hk⟩ hlt
  have bM : Boxed W (w.heap.size + 1) 3 (.int .i64 most) := (hk _ (by have := HZ4.out; have := HZ1.out; omega) (by have := HZ1.out; omega)).trans HM4.out
  have cM := bM.cell
  obtain ⟨A, c, rfl, hlc, hC⟩ := Kd.R_reads hR
  have hc := hv.cell
  have hf := hv.frozen
  by_cases z : (pre.length : Int) = most
  ·have z1 : ((pre.length : Int) == most) = true := beq_iff_eq.2 z
   have b8 : Boxed W (w.heap.size + 1 + 1) 42 (.slice none 0 0) := (hk _ (by have := HZ4.out; have := HZ1.out; omega) (by have := HZ1.out; omega)).trans H84.out
   have b9 : Boxed W (w.heap.size + 1 + 1 + 1) 4 (.bool false) := (hk _ (by have := HZ4.out; have := HZ1.out; omega) (by have := HZ1.out; omega)).trans H94.out
   have b10 : Boxed W (w.heap.size + 1 + 1 + 1 + 1) 30 (.int .i64 0) := (hk _ (by have := HZ4.out; have := HZ1.out; omega) (by have := HZ1.out; omega)).trans H104.out
   have f8 := b8.frozen; have f9 := b9.frozen; have f10 := b10.frozen
   have c8 := b8.cell; have c9 := b9.cell; have c10 := b10.cell
   gi_wp2
   have g := HZ1.out
   have g4 := HZ4.out
   refine ⟨((KeepsOthers.setCell _ _ _).trans ((KeepsOthers.setCell _ _ _).trans (KeepsOthers.setCell _ _ _))).from _, rfl, pre, x, _, rfl, z, box_set (box_set (b8.set _) (by omega) _) (by omega) _, R_set (R_set (R_set hR (by omega) _) (by omega) _) (by omega) _, box_set ((box_set b9 (by omega) _).set _) (by omega) _, (box_set (box_set b10 (by omega) _) (by omega) _).set _, ?_, ?_⟩
   ·exact ((hb.setCell (p := ⟨w.heap.size + 1 + 1, 0, none⟩) (by show w.heap.size ≤ w.heap.size + 1 + 1; omega) _).setCell (p := ⟨w.heap.size + 1 + 1 + 1, 0, none⟩) (by show w.heap.size ≤ w.heap.size + 1 + 1 + 1; omega) _).setCell (p := ⟨w.heap.size + 1 + 1 + 1 + 1, 0, none⟩) (by show w.heap.size ≤ w.heap.size + 1 + 1 + 1 + 1; omega) _
   ·rw [size_set, size_set, size_set]; exact hs
  ·have z1 : ((pre.length : Int) == most) = false := beq_eq_false_iff_ne.2 z
   obtain ⟨h0, inner, hown, hrp⟩ := hR
   obtain ⟨i0, hi, hz0, hz1, hz2⟩ := info_parts infoL
   have ZZ := HZ1.out
   have Z4 := HZ4.out
   have LR_ := LR.out
   have hB4 := HB4.out.size
   have lt : (pre.length : Int) < most := by omega
   have e1 : (Kd.int .i64).sz = 1 := rfl
   gi_wp2_with (gi_at_builtin; refine wpListIn_append_own_at _ rfl _ _ 42 rfl w4.heap.size 2 i0 (.int .i64 0) 1 8 Tryz.underlying42 hi hz0 hz1 hz2 rfl (by decide) _ _ _ rfl (hown.alloc _) ⟨W.heap.size, 0, none⟩ 1 1 [.int .i64 x] rfl rfl (cell_one_new _ _ _) (by simp [Value.oneCell']) (by simp only [maxLen]; omega) (by omega) (by simp; omega) ?_; intro v' w1 hown' hgrow _ hat; obtain ⟨g', cap', rfl⟩ := ownsRow_succ hown'; obtain ⟨hv1, hk1, hk2, hk3⟩ := appended (most := most) hv (fun _ _ => trivial) hown hrp lt hb hs hB4 (by omega) (by omega) hk hown' hgrow hat; have hc1 := hv1.cell; have hf1 := hv1.frozen)
   exact ⟨hk1.from _, hk2, hk3⟩
 case done =>
  rintro D xs W hD hS ⟨⟨v, hv, hR⟩, hl, hb, hs, hk⟩ hK
  obtain ⟨A, c, rfl, hlc, hC⟩ := Kd.R_reads hR
  have hc := hv.cell
  have b8 : Boxed W (w.heap.size + 1 + 1) 42 (.slice none 0 0) := (hk _ (by have := HZ4.out; have := HZ1.out; omega) (by have := HZ1.out; omega)).trans H84.out
  have b9 : Boxed W (w.heap.size + 1 + 1 + 1) 4 (.bool false) := (hk _ (by have := HZ4.out; have := HZ1.out; omega) (by have := HZ1.out; omega)).trans H94.out
  have b10 : Boxed W (w.heap.size + 1 + 1 + 1 + 1) 30 (.int .i64 0) := (hk _ (by have := HZ4.out; have := HZ1.out; omega) (by have := HZ1.out; omega)).trans H104.out
  have f8 := b8.frozen; have f9 := b9.frozen; have f10 := b10.frozen
  have c8 := b8.cell; have c9 := b9.cell; have c10 := b10.cell
  have ZZ := HZ1.out
  have Z4 := HZ4.out
  obtain ⟨W3, hW3, d8, d9, d10, dR, dB, dS, dK⟩ := stored (m := false) b8 b9 b10 hR (by omega) hb (by omega)
  have DK := Aside0.mk (dK.same D _ hK rfl)
  have D8 := Aside0.mk d8; have D9 := Aside0.mk d9; have D10 := Aside0.mk d10; have DR := Aside0.mk dR; have DB := Aside0.mk dB; have HS_ := Aside0.mk hS; have HL := Aside0.mk hl; have HD_ := Aside0.mk hD; have DS := Aside0.mk dS; have HSZ := Aside0.mk hs
  clear d8 d9 d10 dR dB dK dS hS hl hb hs hk hK hD hR hC hlc
  gi_wp2
  go_wp2_with fail
  rw [← hW3]
  refine ⟨by simp, .inl ⟨_, _, rfl, run_takeDeferred DK.out, ?_⟩⟩
  have nc : ∀ r, some D = some r → ∃ o : Obj, W3.heap[r]? = some o ∧ o.isCells = false := fun r e => by cases e; exact ⟨_, DK.out, rfl⟩
  have gb := grownBy_putObj' W3 D (.deferred none)
  have c8' := (box_turn D8.out gb nc).cell
  have c9' := (box_turn D9.out gb nc).cell
  have c10' := (box_turn D10.out gb nc).cell
  have DR' := R_turn DR.out gb nc
  obtain ⟨A', c', hv', hlc', hC'⟩ := Kd.R_reads DR'
  have DB' := DB.out.grown gb DB.out.size (fun k e => by cases e; have := HD_.out; have := HB4.out.size; omega)
  refine ⟨.tuple #[.slice A xs.length c, .bool false, .int .i64 0], ?_, ?_⟩
  ·simp [results, go_sem, c8', c9', c10']
  ·have e1 : (allU b last rest).take most.toNat = xs := by rw [← HS_.out]; exact List.take_of_length_le (by have := HL.out; omega)
   have e2 : decide (most < ((allU b last rest).length : Int)) = false := by rw [← HS_.out]; exact decide_eq_false (by have := HL.out; omega)
   rw [e1, e2]
   cases hv'
   exact ⟨⟨A, c, rfl, hC', hlc'⟩, DB'⟩
 case stop =>
  rintro D c0 q W hD hSp ⟨rfl, pre, x, v, rfl, hl, b8, hR, b9, b10, hb, hs⟩ hK
  obtain ⟨A, c, rfl, hlc, hC⟩ := Kd.R_reads hR
  have DK := Aside0.mk hK
  have D8 := Aside0.mk b8; have D9 := Aside0.mk b9; have D10 := Aside0.mk b10; have DR := Aside0.mk hR; have DB := Aside0.mk hb; have HS_ := Aside0.mk hSp; have HL := Aside0.mk hl; have HD_ := Aside0.mk hD
  clear b8 b9 b10 hR hb hSp hl hD hK hC hlc hs
  gi_wp2
  refine ⟨by simp, .inl ⟨_, _, rfl, run_takeDeferred DK.out, ?_⟩⟩
  have nc : ∀ r, some D = some r → ∃ o : Obj, W.heap[r]? = some o ∧ o.isCells = false := fun r e => by cases e; exact ⟨_, DK.out, rfl⟩
  have gb := grownBy_putObj' W D (.deferred none)
  have c8' := (box_turn D8.out gb nc).cell
  have c9' := (box_turn D9.out gb nc).cell
  have c10' := (box_turn D10.out gb nc).cell
  have DR' := R_turn DR.out gb nc
  obtain ⟨A', c', hv', hlc', hC'⟩ := Kd.R_reads DR'
  have DB' := DB.out.grown gb DB.out.size (fun k e => by cases e; have := HD_.out; have := HB4.out.size; omega)
  refine ⟨.tuple #[.slice A pre.length c, .bool true, .int .i64 0], ?_, ?_⟩
  ·simp [results, go_sem, c8', c9', c10']
  ·have hp : pre ++ [x] <+: allU b last rest := HS_.out
   have hp2 : pre <+: allU b last rest := (List.prefix_append pre [x]).trans hp
   have e1 : (allU b last rest).take most.toNat = pre := by
    rw [show most.toNat = pre.length by have := HL.out; omega]
    exact (List.prefix_iff_eq_take.1 hp2).symm
   have e2 : decide (most < ((allU b last rest).length : Int)) = true := decide_eq_true (by have := hp.length_le; have := HL.out; simp at *; omega)
   rw [e1, e2]
   cases hv'
   exact ⟨⟨A, c, rfl, hC', hlc'⟩, DB'⟩
end Go.Proofs.YtfdcldjoncednaaGreat.ExU
