/- Texts of this claim, merged: ExI. -/
import Derived.Test.YtfdcldjoncednaaGreatMgExpandUntil20
import Derived.RangeFuncNested
import Derived.RangeFuncBound
import Derived.RangeFuncCalls
import Derived.RangeFuncLeaves
import Derived.OwnWalkIn
import Derived.TacticsInMore
import Derived.LoopNIn
import Derived.LoopIn
/- expand.Each: the iterator. -/
namespace Go.Proofs.YtfdcldjoncednaaGreat.ExI
open Go.RowKit Go.Proofs.YtfdcldjoncednaaGreatW.PrintWords Go.Proofs.YtfdcldjoncednaaGreatW.PrintLast Go.Proofs.YtfdcldjoncednaaGreatW.PrintMore Go.Proofs.YtfdcldjoncednaaGreat.M Go.Proofs.YtfdcldjoncednaaGreat.Ru Go.Proofs.YtfdcldjoncednaaGreat.MatP Go.Proofs.YtfdcldjoncednaaGreat.ExD Go.Proofs.YtfdcldjoncednaaGreat.ExO Go.Proofs.YtfdcldjoncednaaGreat.ExT Go.Proofs.YtfdcldjoncednaaGreat.ExE
set_option linter.unusedVariables false
set_option linter.unusedSimpArgs false
attribute [local go_sem] Oper.semAt_some
/-- The block of the slice that the box Bx holds. -/
def own (W : World) (Bx : Nat) : Option Nat := (W.cell? ⟨Bx, 0, none⟩).bind Value.ownBlock
/-- What a round of the caller's keeps: all below n, and every row of cells that is neither its variable nor that variable's own. -/
def Kp (n Bx : Nat) (W W' : World) : Prop := Below n W W' ∧ (∀ g cs t s, W.heap[g]? = some (.cells cs t s) → g ≠ Bx → own W Bx ≠ some g → W'.heap[g]? = W.heap[g]?) ∧ (own W' Bx = own W Bx ∨ ∃ g, own W' Bx = some g ∧ W.heap.size ≤ g ∧ g < W'.heap.size)
set_option maxHeartbeats 1000000 in
/-- The function value that Each hands back. -/
theorem each (r : Ru) (p : Rp) (b l : Int) (w : World) :
  Calls Tryz.prog 37 #[.agg (agg r p), .int .i64 b, .int .i64 l] w fun e w' => e = .returned (.func (.func 71) #[] #[.pointer (some ⟨w.heap.size + 1, 0, none⟩), .pointer (some ⟨w.heap.size + 2, 0, none⟩), .pointer (some ⟨w.heap.size, 0, none⟩)]) ∧ w' = ((w.alloc (obj r p)).alloc (.cells #[.int .i64 b] 2 (0, 0))).alloc (.cells #[.int .i64 l] 2 (0, 0)) := by
 go_enter Tryz.func37, Tryz.ntmps37
 go_wp2_with fail
 go_ret
 exact ⟨rfl, rfl⟩
/-- What a row of times gives: those to come, how many are left, whether it ends there. -/
def inner (b last : Int) : List Int → Int → List Int × Int × Bool
 | [], left => ([], left, false)
 | t :: ts, left => if t ≤ b then inner b last ts left else if t > last ∨ left = 0 then ([], left, true) else (t :: (inner b last ts (wrap64 (left - 1))).1, (inner b last ts (wrap64 (left - 1))).2)
/-- What comes from a period on. -/
def eachL (b last I : Int) (sf se : Int → Int) (tm : Int → List Int) : Nat → Int → Int → Option (List Int)
 | 0, _, _ => none
 | k + 1, per, left => if left = 0 then some [] else if se per ≠ 0 ∨ wrap64 (sf per * 86400) > last then some [] else
   if (inner b last (tm per) left).2.2 = true then some (inner b last (tm per) left).1
   else (eachL b last I sf se tm k (wrap64 (per + I)) (inner b last (tm per) left).2.1).map ((inner b last (tm per) left).1 ++ ·)
abbrev TimC (r : Ru) (p : Rp) (b n : Int) (T : List Int) : Prop := ∀ w, Ok r p w → Calls Tryz.prog 42 #[.agg (agg r p), .int .i64 b, .int .i64 n] w fun q w' => Out w.heap.size w' T q ∧ Below w.heap.size w w'
/-- All that comes. -/
def allU (b last : Int) (rest : List Int) : List Int := if b > last then [] else b :: rest
theorem cells_of {w : World} {a : Addr} {v : Value} (h : w.cell? a = some v) : ∃ cs t s, w.heap[a.block]? = some (.cells cs t s) := by
 unfold World.cell? at h
 cases e : w.heap[a.block]? with
 | none => rw [e] at h; simp at h
 | some o =>
  rw [e] at h
  cases o with
  | cells cs t s => exact ⟨cs, t, s, rfl⟩
  | _ => simp at h
theorem C_same {w w1 : World} {A : Option Addr} {xs : List Int} (h : (Kd.int .i64).C w A xs.length xs) (hf : xs ≠ [] → ∀ ad, A = some ad → w1.heap[ad.block]? = w.heap[ad.block]?) : (Kd.int .i64).C w1 A xs.length xs := by
 refine Kd.C_of_reads (enc := Value.int .i64) (d := (0 : Int)) (h1 := fun _ => rfl) ⟨rfl, h.2.1, fun hn => ?_⟩
 have hne : xs ≠ [] := by intro e; rw [e] at hn; simp at hn
 obtain ⟨ad, e, h0⟩ := Kd.at_int h 0 (by omega) (by omega)
 refine ⟨ad, e, fun j hj => ?_⟩
 obtain ⟨ad', e', hj'⟩ := Kd.at_int h (j : Int) (by omega) (by omega)
 obtain rfl : ad = ad' := Option.some.inj (e.symm.trans e')
 rw [show ((j : Int)).toNat = j by omega] at hj'
 have := World.cell?_of_block (w := w) (w' := w1) (a := ad.add j) (by rw [blk_add]; exact hf hne ad e)
 rw [← this] at hj'
 simpa [rd, rdOf] using hj'
theorem own_below {W W' : World} {Bx : Nat} (h : Bx < W.heap.size) (hb : Below W.heap.size W W') : own W' Bx = own W Bx := by
 unfold own; rw [World.cell?_of_block (a := ⟨Bx, 0, none⟩) (hb.block Bx h)]
/-- What the iterator's world holds between two rounds. -/
structure Inv (r : Ru) (p : Rp) (b last : Int) (gR gB gL Bx S0 : Nat) (we W : World) : Prop where
 be : Below we.heap.size we W
 hR : W.heap[gR]? = some (obj r p)
 hB : W.heap[gB]? = some (.cells #[.int .i64 b] 2 (0, 0))
 hL : W.heap[gL]? = some (.cells #[.int .i64 last] 2 (0, 0))
 bx : Bx < S0
 sz : S0 ≤ W.heap.size
 ow : ∀ g, own W Bx = some g → S0 ≤ g ∧ g < W.heap.size
 lt : gR < S0 ∧ gB < S0 ∧ gL < S0
 ne : gR ≠ Bx ∧ gB ≠ Bx ∧ gL ≠ Bx
theorem Inv.below {r : Ru} {p : Rp} {b last : Int} {gR gB gL Bx S0 : Nat} {we W W' : World} (h : Inv r p b last gR gB gL Bx S0 we W) (hb : Below W.heap.size W W') : Inv r p b last gR gB gL Bx S0 we W' :=
 ⟨below_then h.be h.be.size hb, blk_below h.hR hb, blk_below h.hB hb, blk_below h.hL hb, h.bx, Nat.le_trans h.sz hb.size, fun g e => by
  rw [own_below (Nat.lt_of_lt_of_le h.bx h.sz) hb] at e
  have := h.ow g e; have := hb.size; omega, h.lt, h.ne⟩
theorem Inv.far {r : Ru} {p : Rp} {b last : Int} {gR gB gL Bx S0 : Nat} {we W : World} (h : Inv r p b last gR gB gL Bx S0 we W) {g : Nat} (hg : g < S0) : own W Bx ≠ some g := fun e => by
 have := h.ow g e; omega
theorem Inv.round {r : Ru} {p : Rp} {b last : Int} {gR gB gL Bx S0 : Nat} {we W W' : World} (h : Inv r p b last gR gB gL Bx S0 we W) (hk : Kp we.heap.size Bx W W') : Inv r p b last gR gB gL Bx S0 we W' := by
 obtain ⟨h1, h2, h3⟩ := hk
 refine ⟨h.be.trans h1, (h2 gR _ _ _ h.hR h.ne.1 (h.far h.lt.1)).trans h.hR, (h2 gB _ _ _ h.hB h.ne.2.1 (h.far h.lt.2.1)).trans h.hB, (h2 gL _ _ _ h.hL h.ne.2.2 (h.far h.lt.2.2)).trans h.hL, h.bx, Nat.le_trans h.sz h1.size, fun g e => ?_, h.lt, h.ne⟩
 have hs := h1.size
 rcases h3 with q | ⟨g', q, q1, q2⟩
 ·rw [q] at e; have := h.ow g e; omega
 ·rw [q] at e; have := Option.some.inj e; have := h.sz; omega
/-- A row of times that lies apart from what the caller's rounds write. -/
def TIn (Bx : Nat) (A : Option Addr) (T : List Int) (W : World) : Prop := (Kd.int .i64).C W A T.length T ∧ (T ≠ [] → ∀ ad, A = some ad → ad.block ≠ Bx ∧ own W Bx ≠ some ad.block)
theorem TIn.round {n Bx : Nat} {A : Option Addr} {T : List Int} {W W' : World} (h : TIn Bx A T W) (hk : Kp n Bx W W') : TIn Bx A T W' := by
 obtain ⟨h1, h2, h3⟩ := hk
 by_cases z : T = []
 ·exact ⟨C_same h.1 (fun q => absurd z q), fun q => absurd z q⟩
 have blk : ∀ ad, A = some ad → ∃ cs t s, W.heap[ad.block]? = some (.cells cs t s) := fun ad e => by
  have hp : 0 < T.length := List.length_pos_iff.2 z
  obtain ⟨ad', e', h0⟩ := Kd.at_int h.1 0 (by omega) (by omega)
  obtain rfl : ad = ad' := Option.some.inj (e.symm.trans e')
  have := cells_of h0
  rw [blk_add] at this
  exact this
 refine ⟨C_same h.1 (fun _ ad e => ?_), fun _ ad e => ⟨(h.2 z ad e).1, fun q => ?_⟩⟩
 ·obtain ⟨cs, t, s, q⟩ := blk ad e
  exact h2 ad.block cs t s q (h.2 z ad e).1 (h.2 z ad e).2
 ·rcases h3 with o | ⟨g', o, q1, q2⟩
  ·rw [o] at q; exact (h.2 z ad e).2 q
  ·rw [o] at q
   have e1 := Option.some.inj q
   obtain ⟨cs, t, s, qq⟩ := blk ad e
   have := (Array.getElem?_eq_some_iff.1 qq).1
   omega
theorem tin_of {r : Ru} {p : Rp} {b last : Int} {gR gB gL Bx S0 : Nat} {we W W' : World} {A : Option Addr} {T : List Int} (hC : (Kd.int .i64).C W' A T.length T) (hf : ∀ ad, A = some ad → W.heap.size ≤ ad.block) (hI : Inv r p b last gR gB gL Bx S0 we W) (hb : Below W.heap.size W W') : TIn Bx A T W' := by
 have hx : Bx < W.heap.size := Nat.lt_of_lt_of_le hI.bx hI.sz
 refine ⟨hC, fun _ ad e => ⟨fun q => ?_, fun q => ?_⟩⟩
 ·have := hf ad e; omega
 ·rw [own_below hx hb] at q
  have := hf ad e; have := hI.ow _ q; omega
theorem rd_get (T : List Int) {i : Nat} (h : i < T.length) : rd T (i : Int) = T[i] := by simp [rd, rdOf, h]
def Ti6 : Bool × List (List Nat × List Nat) := (true, [([], []), ([], []), ([1], [1]), ([], []), ([0, 2, 3, 2], [0, 2, 3]), ([4], [4]), ([5], [5]), ([5], [5]), ([5], [5]), ([6, 4, 0, 1, 2, 3, 4, 5, 6], [6]), ([7, 9, 0, 1, 2, 3, 4, 5, 6, 7, 9], [7]), ([8, 10, 0, 1, 2, 3, 4, 5, 6, 7, 8, 9, 10], [8])])
def Bi6 : List Nat := [0, 0, 2, 0, 15, 31, 63, 63, 63, 127, 767, 2047]
theorem tabi6 : rtab .any (opsOf Tryz.f71 6) = Ti6 := by kernel_rfl
theorem bitsi6 : waitsOk Ti6.2 Bi6 = true := by kernel_rfl
set_option maxHeartbeats 8000000 in
set_option maxRecDepth 100000 in
theorem each1 (m l Bx gR gB gL N S0 : Nat) (r : Ru) (p : Rp) (b last le dy : Int) (sf sl se : Int → Int) (tm : Int → List Int) (Pd : Int → Prop) (rest : List Int) (K : Nat) (we W : World) (J Jx : List Int → World → Prop)
  (hJ : ∀ s W1 W2, J s W1 → Below W1.heap.size W1 W2 → J s W2)
  (hY : ∀ pre x W1, J pre W1 → pre.length < N → YieldAt Fence.wide m Tryz.prog l #[.int .i64 x] W1 fun e W' => (e = .returned (.bool true) ∧ J (pre ++ [x]) W' ∧ Kp we.heap.size Bx W1 W') ∨ (e = .returned (.bool false) ∧ Jx (pre ++ [x]) W'))
  (ok : Ok r p we) (hI : Inv r p b last gR gB gL Bx S0 we W)
  (hd : clock_Day.f b = some dy) (hle : endF r last = le) (hP0 : Pd 0) (hPs : ∀ per, Pd per → se per = 0 → Pd (wrap64 (per + r.a1))) (hS : ∀ n, Pd n → SpanC r p dy n (sf n) (sl n) (se n)) (hT : ∀ n, Pd n → se n = 0 → TimC r p b n (tm n)) (hTl : ∀ n, (tm n).length ≤ 17000000000000)
  (hU : b ≤ last → eachL b le r.a1 sf se tm K 0 (wrap64 (r.a2 - 1)) = some rest) (hN : rest.length + 1 ≤ N) (h0 : J [] W) :
  Calls Tryz.prog 71 #[.func (.yield l) #[] #[], .pointer (some ⟨gB, 0, none⟩), .pointer (some ⟨gL, 0, none⟩), .pointer (some ⟨gR, 0, none⟩)] W fun e W' => (∃ v, e = .returned v) ∧
   ((∃ xs, xs = allU b last rest ∧ J xs W') ∨ (∃ pre, pre <+: allU b last rest ∧ Jx pre W')) := by
 have kB : W.cell? ⟨gB, 0, none⟩ = some (.int .i64 b) := (blk_cell hI.hB 0).trans rfl
 have kL : W.cell? ⟨gL, 0, none⟩ = some (.int .i64 last) := (blk_cell hI.hL 0).trans rfl
 by_cases c : b > last
 ·have c1 : decide (b > last) = true := decide_eq_true c
  have CU := Aside0.mk (show allU b last rest = [] from if_pos c)
  clear c
  go_enter Tryz.func71, Tryz.ntmps71
  go_wp2_with fail
  refine bodyPost_ret (results_none rfl _ _ _) rfl ?_
  exact ⟨⟨_, rfl⟩, .inl ⟨[], CU.out.symm, h0⟩⟩
 have c1 : decide (b > last) = false := decide_eq_false c
 have CU := Aside0.mk (show allU b last rest = b :: rest from if_neg c)
 have HU := Aside0.mk (hU (by omega)); clear c hU
 have HJ := Aside0.mk hJ; have HY := Aside0.mk hY; have OK := Aside0.mk ok; have HI := Aside0.mk hI; have HD := Aside0.mk hd; have HP0 := Aside0.mk hP0; have HPs := Aside0.mk hPs; have HS := Aside0.mk hS; have HT := Aside0.mk hT; have HTl := Aside0.mk hTl; have HN := Aside0.mk hN; have HLE := Aside0.mk hle
 clear hJ ok hI hd hP0 hPs hS hT hTl hN hle
 obtain ⟨fn, tmps, assign, body, hy, hR⟩ := hY [] b W h0 (by have := HN.out; simp; omega)
 clear hY h0
 go_enter Tryz.func71, Tryz.ntmps71
 go_upto_region 0 with fail
 refine (wpIn_wide (n := m + 1)).1 ?_
 gi_wp2
 refine hR.mono ?_
 clear hR hy kB kL
 rintro e W3 (⟨rfl, hJ3, hk3⟩ | ⟨rfl, hJx3⟩)
 rotate_left
 ·gi_wp2
  go_wp2_with fail
  refine bodyPost_ret (results_none rfl _ _ _) rfl ?_
  exact ⟨⟨_, rfl⟩, .inr ⟨[b], by rw [CU.out]; exact ⟨rest, rfl⟩, hJx3⟩⟩
 replace HI := Aside0.mk (HI.out.round hk3)
 have J3 := Aside0.mk hJ3
 clear hk3 hJ3
 gi_wp2
 have kc : W3.cell? ⟨gR, 2, none⟩ = some (.int .i64 r.a2) := (blk_cell HI.out.hR 2).trans rfl
 obtain ⟨lf0, hlf0⟩ : ∃ lf0, wrap64 (r.a2 - 1) = lf0 := ⟨_, rfl⟩
 rw [hlf0] at HU
 go_upto_region 2 with fail
 have kL : W3.cell? ⟨gL, 0, none⟩ = some (.int .i64 last) := (blk_cell HI.out.hL 0).trans rfl
 go_wp2_with ((with_reducible refine gate_ (.load 27 (.tmp 3)) rfl ?_); (try (refine gate_guard (by rfl) ?_; dsimp only)); refine Kd.event_run rfl (MatP.xR (.tmp 3) gR r p rfl rfl _ HI.out.hR) ?_)
 refine (end_ r p last _).mono ?_
 rintro q W4 ⟨rfl, hb⟩
 rw [HLE.out]
 replace J3 := Aside0.mk (HJ.out _ _ _ J3.out hb)
 replace HI := Aside0.mk (HI.out.below hb)
 clear hb kc kL HLE
 go_wp2_with fail
 go_loopg [5, 7] K (fun kq v5 v7 w' => ∃ (left per : Int) (pre rest' : List Int), v5 = .int .i64 left ∧ v7 = .int .i64 per ∧ Aside0 (Pd per) ∧ Aside0 (eachL b le r.a1 sf se tm kq per left = some rest') ∧ Aside0 (b :: rest = pre ++ rest') ∧ Aside0 (J pre w') ∧ Aside0 (Inv r p b last gR gB gL Bx S0 we w'))
 case atStart => exact ⟨lf0, 0, [b], rest, rfl, rfl, HP0, HU, ⟨rfl⟩, J3, HI⟩
 case round =>
  clear HI J3 HU hlf0
  obtain ⟨left, per, pre, rest', rfl, rfl, HP, HE, HX, HJ3, HI⟩ := hrel
  cases gk with
  | zero => exact absurd HE.out (by simp [eachL])
  | succ k1 =>
   have E := HE.out
   clear HE
   unfold eachL at E
   by_cases z : left = 0
   ·rw [if_pos z] at E
    obtain rfl := Option.some.inj E
    have z1 : (left != 0) = false := bne_eq_false_iff_eq.2 z
    clear E z
    go_wp2_with fail
    go_end0
    exact ⟨⟨_, rfl⟩, .inl ⟨_, rfl, by rw [CU.out, HX.out, List.append_nil]; exact HJ3.out⟩⟩
   rw [if_neg z] at E
   have z1 : (left != 0) = true := bne_iff_ne.2 z
   have EE := Aside0.mk E
   clear z E
   go_upto_region 6 with fail
   have HRB := Aside0.mk (below_drew1 (Below.refl wr.heap.size wr))
   refine start_ (n := 12) (S := fun w' => w'.heap[gR]? = some (obj r p) ∧ w'.cell? ⟨gB, 0, none⟩ = some (.int .i64 b)) (ds := []) (tt 12 0) (by kernel_rfl) rfl rfl ⟨blk_drew HI.out.hR, (pw_cell_below (below_drew1 (Below.refl _ _)) ((blk_cell HI.out.hB 0).trans rfl))⟩ (fun hHeld => ?_)
   refine with_tabW tabi6 bitsi6 (fun HT_ HW_ => ?_)
   generalize wr.drew = wd_ at HRB hHeld ⊢
   refine take_ (i := 0) (N := some 35) (v := .agg (agg r p)) (a' := ?_) (tt 12 1) rfl rfl (take_ofW HT_.out HW_.out (by kernel_rfl)) (fun _ _ _ h => h) (Or.inl ⟨by rfl, fun w' hs => xR (.tmp 3) gR r p rfl rfl w' hs.1⟩) hHeld ?_ ?_
   rotate_left
   ·simp only [Act.put, sA, sB, sC, i64_w, i32_w]
    rfl
   refine take_ (i := 1) (N := some 36) (v := ?_) (a' := ?_) (tt 12 2) rfl rfl (take_ofW HT_.out HW_.out (by kernel_rfl)) (fun _ _ _ h => h) (Or.inl ⟨by rfl, ?_⟩) hHeld ?_ ?_
   rotate_left
   ·rintro w' ⟨s0, s1⟩
    go_simp
    with_reducible rfl
   rotate_left
   ·simp only [Act.put, sA, sB, sC, i64_w, i32_w]
    rfl
   refine pu 3 (some 38) #[true, true, false, true, false, false, false, false, false, false, false, false] HT_ ?_
   refine one_ (i := 2) (N := some 37) (tt 12 4) rfl rfl (one_of HT_.out (by kernel_rfl)) (by decide) (fun K hK => ?_)
   refine goes_ Tryz.func73 (by kernel_rfl) rfl #[.int .i64 b] (by rfl) rfl rfl (by (try simp only [List.map_toArray, List.map_cons, List.map_nil]); first | done | rfl) ?_
   refine (clock_Day.calls b dy _ HD.out).mono ?_
   rintro q wq1 ⟨rfl, ⟨nd, rfl⟩⟩
   refine ⟨_, rfl, ?_⟩
   replace HRB := Aside0.mk (pw_below_drewN HRB.out nd)
   refine hK.out _ _ ⟨blk_drewN hHeld.1 nd, (pw_cell_below (pw_below_drewN (Below.refl _ _) nd) hHeld.2)⟩ (fun hHeld => ?_)
   clear hK K
   refine norm_ (a' := ?_) ?_ ?_
   rotate_left
   ·show Act.put _ (some 37) _ = _
    simp only [Act.put, sA, sB, sC, i64_w, i32_w]
    rfl
   refine one_ (i := 4) (N := some 39) (tt 12 5) rfl rfl (one_of HT_.out (by kernel_rfl)) (by decide) (fun K hK => ?_)
   refine goes_ Tryz.func9 (by kernel_rfl) rfl #[.agg (agg r p), .int .i64 dy, .int .i64 per] (by rfl) rfl rfl (by (try simp only [List.map_toArray, List.map_cons, List.map_nil]); first | done | rfl) ?_
   refine (HS.out per HP.out _ (OK.out.below (below_then HI.out.be HI.out.be.size HRB.out))).mono ?_
   rintro q wq2 ⟨rfl, hb⟩
   refine ⟨_, rfl, ?_⟩
   replace HRB := Aside0.mk (below_then HRB.out HRB.out.size hb)
   refine hK.out _ _ ⟨blk_below hHeld.1 hb, pw_cell_below hb hHeld.2⟩ (fun hHeld => ?_)
   clear hK K
   refine norm_ (a' := ?_) ?_ ?_
   rotate_left
   ·show Act.put _ (some 39) _ = _
    simp only [Act.put, sA, sB, sC, i64_w, i32_w]
    rfl
   refine pu 5 (some 34) (tt 12 6) HT_ ?_
   refine pu 6 (some 40) (tt 12 7) HT_ ?_
   refine pu 7 (some 41) (tt 12 8) HT_ ?_
   refine pu 8 (some 42) (tt 12 9) HT_ ?_
   refine pu 9 (some 8) (tt 12 10) HT_ ?_
   refine pu 10 (some 9) (tt 12 11) HT_ ?_
   refine pu 11 (some 10) (tt 12 12) HT_ ?_
   refine done_ (done_of HT_.out (by kernel_rfl)) ?_
   clear HT_ HW_
   replace HJ3 := Aside0.mk (HJ.out _ _ _ HJ3.out HRB.out)
   replace HI := Aside0.mk (HI.out.below HRB.out)
   clear hHeld HRB
   by_cases y : se per = 0
   rotate_left
   ·have y1 : (se per != 0) = true := bne_iff_ne.2 y
    have E := EE.out; rw [if_pos (Or.inl y)] at E
    obtain rfl := Option.some.inj E
    clear E EE y
    go_wp2_with fail
    refine bodyPost_ret (results_none rfl _ _ _) rfl ?_
    exact ⟨⟨_, rfl⟩, .inl ⟨_, rfl, by rw [CU.out, HX.out, List.append_nil]; exact HJ3.out⟩⟩
   have y1 : (se per != 0) = false := bne_eq_false_iff_eq.2 y
   obtain ⟨ff, hff⟩ : ∃ ff, wrap64 (sf per * 86400) = ff := ⟨_, rfl⟩
   have YS := Aside0.mk y
   by_cases v : ff > le
   ·have v1 : decide (ff > le) = true := decide_eq_true v
    have E := EE.out; rw [if_pos (Or.inr (by rw [hff]; exact v))] at E
    obtain rfl := Option.some.inj E
    clear E EE y v
    go_wp2_with fail
    refine bodyPost_ret (results_none rfl _ _ _) rfl ?_
    exact ⟨⟨_, rfl⟩, .inl ⟨_, rfl, by rw [CU.out, HX.out, List.append_nil]; exact HJ3.out⟩⟩
   have v1 : decide (ff > le) = false := decide_eq_false v
   have E := EE.out; rw [if_neg (by rw [hff]; exact fun q => q.elim (fun a => a y) v)] at E
   have EI := Aside0.mk E
   clear E EE y v
   go_upto_region 8 with fail
   have kB : wq2.cell? ⟨gB, 0, none⟩ = some (.int .i64 b) := (blk_cell HI.out.hB 0).trans rfl
   go_wp2_with ((with_reducible refine gate_ (.load 27 (.tmp 3)) rfl ?_); (try (refine gate_guard (by rfl) ?_; dsimp only)); refine Kd.event_run rfl (MatP.xR (.tmp 3) gR r p rfl rfl _ HI.out.hR) ?_)
   refine (HT.out per HP.out YS.out _ (OK.out.below HI.out.be)).mono ?_
   rintro q wt ⟨⟨AT, cT, rfl, hCT, hcT, hfT⟩, hb⟩
   have TI := Aside0.mk (tin_of hCT hfT HI.out hb)
   replace HJ3 := Aside0.mk (HJ.out _ _ _ HJ3.out hb)
   replace HI := Aside0.mk (HI.out.below hb)
   have LT := Aside0.mk (HTl.out per)
   clear hb hCT hcT hfT kB hff
   obtain ⟨T, hTT⟩ : ∃ T, tm per = T := ⟨_, rfl⟩
   rw [hTT] at TI EI LT ⊢
   clear hTT
   go_wp2_with fail
   go_loopg [5, 56] T.length (fun kq v5 v56 w' => ∃ (i : Nat) (x left2 : Int) (pre2 : List Int), v5 = .int .i64 left2 ∧ v56 = .int .i64 x ∧ Aside0 (x = (i : Int)) ∧ Aside0 (i + kq = T.length) ∧ Aside0 (pre2 ++ (inner b le (T.drop i) left2).1 = pre ++ (inner b le T left).1) ∧ Aside0 ((inner b le (T.drop i) left2).2 = (inner b le T left).2) ∧ Aside0 (J pre2 w') ∧ Aside0 (Inv r p b last gR gB gL Bx S0 we w') ∧ Aside0 (TIn Bx AT T w'))
   case atStart => exact ⟨0, 0, left, pre, rfl, rfl, ⟨rfl⟩, ⟨by omega⟩, ⟨rfl⟩, ⟨rfl⟩, HJ3, HI, TI⟩
   case round =>
    clear HJ3 HI TI
    obtain ⟨i, x, left2, pre2, rfl, rfl, HXI, HIK, HA1, HA2, HJ3, HI, TI⟩ := hrel
    cases gk with
    | zero =>
     have l1 : decide (x < (T.length : Int)) = false := decide_eq_false (by have := HXI.out; have := HIK.out; omega)
     have e0 : T.drop i = [] := List.drop_eq_nil_of_le (by have := HIK.out; omega)
     rw [e0] at HA1 HA2
     have k1_ : wr.cell? ⟨gR, 1, none⟩ = some (.int .i64 r.a1) := (blk_cell HI.out.hR 1).trans rfl
     have HA3 := Aside0.mk (show (inner b le T left).2.1 = left2 ∧ (inner b le T left).2.2 = false from by rw [← HA2.out]; exact ⟨rfl, rfl⟩)
     have HA4 := Aside0.mk (show pre2 = pre ++ (inner b le T left).1 from by rw [← HA1.out]; simp [inner])
     clear HA1 HA2 e0
     have E := EI.out
     rw [if_neg (by rw [HA3.out.2]; simp), HA3.out.1] at E
     obtain ⟨r2, hr2, hr3⟩ := Option.map_eq_some_iff.1 E
     have R2 := Aside0.mk hr2; have R3 := Aside0.mk hr3
     have R4 := Aside0.mk (show b :: rest = pre2 ++ r2 from by rw [HX.out, HA4.out, ← hr3, List.append_assoc])
     clear E hr2 hr3
     go_wp2_with fail
     go_roundg k1
     case measure => omega
     case rel => exact ⟨left2, _, pre2, r2, rfl, rfl, ⟨HPs.out per HP.out YS.out⟩, R2, R4, HJ3, HI⟩
    | succ k2 =>
     have p1 : 0 ≤ x := by have := HXI.out; omega
     have q1 : x < (T.length : Int) := by have := HXI.out; have := HIK.out; omega
     have l1 : decide (x < (T.length : Int)) = true := decide_eq_true q1
     obtain ⟨ad, e, hx⟩ := Kd.at_int TI.out.1 x p1 q1
     cases e
     replace p1 := eq_true p1
     replace q1 := eq_true q1
     have nx : wrap64 (x + 1) = x + 1 := by have := HXI.out; have := HIK.out; have := LT.out; unfold wrap64; omega
     obtain ⟨t, ht⟩ : ∃ t, rd T x = t := ⟨_, rfl⟩
     rw [ht] at hx
     have HD2 := Aside0.mk (show T.drop i = t :: T.drop (i + 1) from by
      have hlt : i < T.length := by have := HIK.out; omega
      rw [List.drop_eq_getElem_cons hlt, ← ht, HXI.out, rd_get T hlt])
     clear ht
     rw [HD2.out] at HA1 HA2
     have kB : wr.cell? ⟨gB, 0, none⟩ = some (.int .i64 b) := (blk_cell HI.out.hB 0).trans rfl
     by_cases y : t ≤ b
     ·have y1 : decide (t ≤ b) = true := decide_eq_true y
      have e1 : inner b le (t :: T.drop (i + 1)) left2 = inner b le (T.drop (i + 1)) left2 := by rw [inner, if_pos y]
      rw [e1] at HA1 HA2
      clear y e1
      go_wp2_with fail
      go_roundg k2
      case measure => omega
      case rel => exact ⟨i + 1, x + 1, left2, pre2, rfl, by simp [nx], ⟨by have := HXI.out; push_cast; omega⟩, ⟨by have := HIK.out; omega⟩, HA1, HA2, HJ3, HI, TI⟩
     have y1 : decide (t ≤ b) = false := decide_eq_false y
     by_cases v : t > le ∨ left2 = 0
     ·have e1 : inner b le (t :: T.drop (i + 1)) left2 = ([], left2, true) := by rw [inner, if_neg y, if_pos v]
      rw [e1] at HA1 HA2
      have E := EI.out
      rw [if_pos (by rw [← HA2.out])] at E
      obtain rfl := Option.some.inj E
      have HE2 := Aside0.mk (show allU b last rest = pre2 from by rw [CU.out, HX.out, ← HA1.out]; simp)
      clear E e1 y
      by_cases v1 : t > le
      ·have v2 : decide (t > le) = true := decide_eq_true v1
       clear v v1
       go_wp2_with fail
       refine bodyPost_ret (results_none rfl _ _ _) rfl ?_
       first | exact ⟨⟨_, rfl⟩, .inl ⟨_, rfl, by rw [HE2.out]; exact HJ3.out⟩⟩ | exact ⟨⟨_, rfl⟩, .inl (by rw [HE2.out]; exact HJ3.out)⟩
      ·have v2 : decide (t > le) = false := decide_eq_false v1
       have v3 : (left2 == 0) = true := beq_iff_eq.2 (v.resolve_left v1)
       clear v v1
       go_wp2_with fail
       refine bodyPost_ret (results_none rfl _ _ _) rfl ?_
       first | exact ⟨⟨_, rfl⟩, .inl ⟨_, rfl, by rw [HE2.out]; exact HJ3.out⟩⟩ | exact ⟨⟨_, rfl⟩, .inl (by rw [HE2.out]; exact HJ3.out)⟩
     have e1 : inner b le (t :: T.drop (i + 1)) left2 = (t :: (inner b le (T.drop (i + 1)) (wrap64 (left2 - 1))).1, (inner b le (T.drop (i + 1)) (wrap64 (left2 - 1))).2) := by rw [inner, if_neg y, if_neg v]
     rw [e1] at HA1 HA2
     have v2 : decide (t > le) = false := decide_eq_false (fun q => v (Or.inl q))
     have v3 : (left2 == 0) = false := beq_eq_false_iff_ne.2 (fun q => v (Or.inr q))
     clear e1 y v
     have HPX := Aside0.mk (show pre2 ++ [t] <+: allU b last rest from by
      have E := EI.out
      have h1 : pre2 ++ [t] <+: pre ++ (inner b le T left).1 := by rw [← HA1.out]; exact ⟨_, by rw [List.append_assoc]; rfl⟩
      rw [CU.out, HX.out]
      split at E
      ·obtain rfl := Option.some.inj E; exact h1
      ·obtain ⟨r2, _, hr3⟩ := Option.map_eq_some_iff.1 E
       rw [← hr3, ← List.append_assoc]; exact h1.trans ⟨_, rfl⟩)
     obtain ⟨fn, tmps, assign, body, hy, hR⟩ := HY.out pre2 t wr HJ3.out (by
      have h1 := HPX.out.length_le
      rw [CU.out] at h1
      have := HN.out
      simp at h1; omega)
     go_upto_region 12 with fail
     refine (wpIn_wide (n := m + 1)).1 ?_
     gi_wp2
     refine hR.mono ?_
     clear hR hy kB hx
     rintro e W5 (⟨rfl, hJ5, hk5⟩ | ⟨rfl, hJx5⟩)
     rotate_left
     ·gi_wp2
      go_wp2_with fail
      refine bodyPost_ret (results_none rfl _ _ _) rfl ?_
      exact ⟨⟨_, rfl⟩, .inr ⟨_, HPX.out, hJx5⟩⟩
     replace TI := Aside0.mk (TI.out.round hk5)
     replace HI := Aside0.mk (HI.out.round hk5)
     replace HJ3 := Aside0.mk hJ5
     clear hk5 hJ5
     gi_wp2
     go_wp2_with fail
     go_roundg k2
     case measure => omega
     case rel => exact ⟨i + 1, x + 1, _, pre2 ++ [t], rfl, by simp [nx], ⟨by have := HXI.out; push_cast; omega⟩, ⟨by have := HIK.out; omega⟩, ⟨by rw [List.append_assoc]; exact HA1.out⟩, HA2, HJ3, HI, TI⟩
end Go.Proofs.YtfdcldjoncednaaGreat.ExI
