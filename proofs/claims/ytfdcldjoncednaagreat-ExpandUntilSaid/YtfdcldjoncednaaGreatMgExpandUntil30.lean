/- Texts of this claim, merged: RefQ. -/
import Derived.Test.YtfdcldjoncednaaGreatMgExpandUntil29
import Derived.Test.YtfdcldjoncednaaGreatMgExpandUntil12
/- trystref14.Fits: does a day fit, by the document? (Written by gen_refq.py.) -/
namespace Go.Proofs.YtfdcldjoncednaaGreat.RefQ
open Go.RowKit Go.Proofs.YtfdcldjoncednaaGreatW.PrintWords Go.Proofs.YtfdcldjoncednaaGreatW.PrintLast Go.Proofs.YtfdcldjoncednaaGreatW.PrintMore Go.Proofs.YtfdcldjoncednaaGreat.M Go.Proofs.YtfdcldjoncednaaGreat.Ru Go.Proofs.YtfdcldjoncednaaGreat.MatF Go.Proofs.YtfdcldjoncednaaGreat.RefP
set_option linter.unusedVariables false
set_option linter.unusedSimpArgs false
/-- Is a day's week one of the rule's (bw)? -/
def WeekOk (k : Nat) (r : Ru) (day : Int) (bw : Bool) : Prop := ∃ (y m d y1 f1 f2 q1 q2 : Int) (b : Bool), trystref14_date.f k day = some (y, m, d) ∧ wrap64 (y + 1) = y1 ∧ trystref01_Week1.f k y r.a7 = some f1 ∧ trystref01_Week1.f k y1 r.a7 = some f2 ∧ wrap64 (wrap64 (Int.tdiv (wrap64 (day - f1)) 7) + 1) = q1 ∧ wrap64 (Int.tdiv (wrap64 (f2 - f1)) 7) = q2 ∧ trystref14_counted.f k r.l14 q1 q2 = some b ∧ bw = (decide (f1 ≤ day) && decide (day < f2) && b)
theorem weekX (k : Nat) (r : Ru) (p : Rp) (day : Int) (bw : Bool) (w : World) (ok : Ok r p w) (h : WeekOk k r day bw) :
  Calls Tryz.prog 79 #[.agg (agg r p), .int .i64 day] w fun e w' => e = .returned (.bool bw) ∧ Below w.heap.size w w' := by
 obtain ⟨y, m, d, y1, f1, f2, q1, q2, b, h1, h2, h3, h4, h5, h6, h7, rfl⟩ := h
 exact RefK.inWeek k r p day y m d y1 f1 f2 q1 q2 b w ok h1 h2 h3 h4 h5 h6 h7
/-- Is a day one of the rule's weekdays (bd)? -/
def DaysOk (k : Nat) (r : Ru) (d : Int) (bd : Bool) : Prop := ∃ (y m dd fy ny fm nm fr n s : Int) (A B : Nat → Int), trystref14_date.f k d = some (y, m, dd) ∧ trystref01_Fixed.f k 0 y 1 1 = some fy ∧ trystref14_year.f k y = some ny ∧ (MatD.inMonth r = true → trystref01_Fixed.f k 0 y m 1 = some fm) ∧ (MatD.inMonth r = true → trystref01_Length.f k 0 y m = some nm) ∧
  (fr = if MatD.inMonth r = true then fm else fy) ∧ (n = if MatD.inMonth r = true then nm else ny) ∧ wrap64 (fr + n) = s ∧ 0 ≤ n ∧ n ≤ 400 ∧ -100000000 ≤ fr ∧ fr ≤ 100000000 ∧ (∀ x : Int, -1000000000 ≤ x → x ≤ 1000000000 → trystref14_weekday.f x = some (x % 7)) ∧ -1000000000 ≤ d ∧ d ≤ 1000000000 ∧
  A 0 = 1 ∧ (∀ i, A (i + 1) = A i + (if (fr + (i : Int)) % 7 = d % 7 ∧ fr + (i : Int) < d then 1 else 0)) ∧ B 0 = 1 ∧ (∀ i, B (i + 1) = B i + (if (fr + (i : Int)) % 7 = d % 7 ∧ fr + (i : Int) > d then 1 else 0)) ∧ r.l11.length ≤ 40 ∧ bd = anyR d (A n.toNat) (B n.toNat) r.l11
theorem daysX (k : Nat) (r : Ru) (p : Rp) (d : Int) (bd : Bool) (w : World) (ok : Ok r p w) (h : DaysOk k r d bd) :
  Calls Tryz.prog 81 #[.agg (agg r p), .int .i64 d] w fun e w' => e = .returned (.bool bd) ∧ Below w.heap.size w w' := by
 obtain ⟨y, m, dd, fy, ny, fm, nm, fr, n, s, A, B, h1, h2, h3, h4, h5, h6, h7, h8, h9, h10, h11, h12, h13, h14, h15, h16, h17, h18, h19, h20, rfl⟩ := h
 exact onDay k r p d y m dd fy ny fm nm fr n s A B w ok h1 h2 h3 h4 h5 h6 h7 h8 h9 h10 h11 h12 h13 h14 h15 h16 h17 h18 h19 h20
/-- Is a day like the begin, where the rule says nothing, by the document? -/
def usualR (r : Ru) (wb wd am ad dm dd : Int) : Bool := if 0 < r.l13.length + r.l12.length + r.l11.length then true else if r.a0 = 2 then wb == wd else if r.a0 = 3 then ad == dd else if r.a0 = 4 ∧ 0 < r.l14.length then wb == wd else if r.a0 = 4 then (if ad = dd then (if 0 < r.l15.length then true else am == dm) else false) else true
def all5 (r : Ru) (hm bw b13 b12 bd : Bool) : Bool := say r.l15.length hm && (say r.l14.length bw && (say r.l13.length b13 && (say r.l12.length b12 && say r.l11.length bd)))
theorem fitsF_off {r : Ru} {pv : Int} (hm bw b13 b12 bd u : Bool) (h : off pv r.a1 = true) : fitsF r pv hm bw b13 b12 bd u = false := by unfold fitsF; rw [h]; rfl
theorem fitsF_no {r : Ru} {pv : Int} {hm bw b13 b12 bd : Bool} (u : Bool) (h : all5 r hm bw b13 b12 bd = false) : fitsF r pv hm bw b13 b12 bd u = false := by
 unfold all5 at h; unfold fitsF
 generalize say r.l15.length hm = a at h ⊢; generalize say r.l14.length bw = b at h ⊢; generalize say r.l13.length b13 = c at h ⊢; generalize say r.l12.length b12 = d at h ⊢; generalize say r.l11.length bd = e at h ⊢; generalize off pv r.a1 = o
 revert h; cases a <;> cases b <;> cases c <;> cases d <;> cases e <;> cases o <;> simp
theorem fitsF_yes {r : Ru} {pv : Int} {hm bw b13 b12 bd : Bool} (u : Bool) (h0 : off pv r.a1 = false) (h : all5 r hm bw b13 b12 bd = true) : fitsF r pv hm bw b13 b12 bd u = u := by
 unfold all5 at h; unfold fitsF; rw [h0]
 generalize say r.l15.length hm = a at h ⊢; generalize say r.l14.length bw = b at h ⊢; generalize say r.l13.length b13 = c at h ⊢; generalize say r.l12.length b12 = d at h ⊢; generalize say r.l11.length bd = e at h ⊢
 revert h; cases a <;> cases b <;> cases c <;> cases d <;> cases e <;> simp
def T6 : Bool × List (List Nat × List Nat) := (true, [([], []), ([0], [0]), ([1], [1]), ([2], [2]), ([3], [3]), ([4], [4]), ([5, 4], [4, 5]), ([4], [4]), ([7, 4], [4, 7]), ([6, 8, 4, 4], [4, 6, 8]), ([9, 4], [4, 9]), ([4, 10], [4, 10]), ([11, 9], [11]), ([12], [12]), ([13, 12], [12, 13]), ([14, 12], [12, 14]), ([15, 12], [12, 15]), ([16, 12, 12], [12, 16]), ([17], [17]), ([17], [17]), ([18, 19, 17, 17], [17, 18, 19]), ([20, 17], [17, 20]), ([17, 21, 12], [12, 17, 21]), ([12, 22], [12, 22]), ([23, 20], [23]), ([24], [24]), ([25, 24], [24, 25]), ([26, 24], [24, 26]), ([27, 24], [24, 27]), ([28, 24, 24], [24, 28]), ([29], [29]), ([30, 29], [29, 30]), ([29], [29]), ([29], [29]), ([33, 29], [29, 33]), ([34, 29, 29], [29, 34]), ([31, 32, 35, 35, 29], [29, 31, 32, 35]), ([36, 29], [29, 36]), ([29, 37, 24], [24, 29, 37]), ([24, 38], [24, 38]), ([39, 36], [39]), ([40], [40]), ([41, 40], [40, 41]), ([42, 40], [40, 42]), ([43, 40], [40, 43]), ([44, 40, 40], [40, 44]), ([45], [45]), ([46, 45], [45, 46]), ([45], [45]), ([48, 45], [45, 48]), ([45], [45]), ([50, 45], [45, 50]), ([45], [45]), ([52, 45], [45, 52]), ([51, 53, 45, 45], [45, 51, 53]), ([47, 49, 54, 54, 45], [45, 47, 49, 54]), ([55, 45], [45, 55]), ([45, 56, 40], [40, 45, 56]), ([40, 57], [40, 57]), ([58, 55], [58]), ([59], [59]), ([60, 59], [59, 60]), ([61, 59], [59, 61]), ([62, 59], [59, 62]), ([63, 59, 59], [59, 63]), ([64], [64]), ([64], [64]), ([65, 66, 64, 64], [64, 65, 66]), ([67, 64], [64, 67]), ([64, 68, 59], [59, 64, 68]), ([59, 69], [59, 69])])
def B6 : List Nat := [0, 1, 3, 7, 15, 31, 63, 31, 159, 511, 1023, 2047, 4095, 8191, 16383, 32767, 65535, 131071, 262143, 262143, 1048575, 2097151, 4194303, 8388607, 16777215, 33554431, 67108863, 134217727, 268435455, 536870911, 1073741823, 2147483647, 1073741823, 1073741823, 9663676415, 26843545599, 68719476735, 137438953471, 274877906943, 549755813887, 1099511627775, 2199023255551, 4398046511103, 8796093022207, 17592186044415, 35184372088831, 70368744177663, 140737488355327, 70368744177663, 351843720888319, 70368744177663, 1196268651020287, 70368744177663, 4573968371548159, 16958867346817023, 36028797018963967, 72057594037927935, 144115188075855871, 288230376151711743, 576460752303423487, 1152921504606846975, 2305843009213693951, 4611686018427387903, 9223372036854775807, 18446744073709551615, 36893488147419103231, 36893488147419103231, 147573952589676412927, 295147905179352825855, 590295810358705651711, 1180591620717411303423]
theorem tab6 : rtab .any (opsOf Tryz.f43 6) = T6 := by kernel_rfl
theorem bits6 : waitsOk T6.2 B6 = true := by kernel_rfl
set_option maxHeartbeats 16000000 in
set_option maxRecDepth 100000 in
theorem fits (k : Nat) (r : Ru) (p : Rp) (b d ay am ad dy dm dd w1 w2 fy nd ny nm wb wd : Int) (hm bw b13 b12 bd : Bool) (w : World) (ok : Ok r p w) (hi : 1 ≤ r.a1)
  (h1 : trystref14_date.f k b = some (ay, am, ad)) (h2 : trystref14_date.f k d = some (dy, dm, dd)) (h3 : trystref14_Begin.f k d r.a7 = some w1) (h4 : trystref14_Begin.f k b r.a7 = some w2) (h5 : trystref01_Fixed.f k 0 dy 1 1 = some fy) (h6 : wrap64 (wrap64 (d - fy) + 1) = nd) (h7 : trystref14_has.f k r.l15 dm = some hm) (h8 : WeekOk k r d bw)
  (h9 : trystref14_year.f k dy = some ny) (h10 : trystref14_counted.f k r.l13 nd ny = some b13) (h11 : trystref01_Length.f k 0 dy dm = some nm) (h12 : trystref14_counted.f k r.l12 dd nm = some b12) (h13 : DaysOk k r d bd) (h14 : trystref14_weekday.f b = some wb) (h15 : trystref14_weekday.f d = some wd) (l13 : r.l13.length ≤ 40) (l12 : r.l12.length ≤ 40) (l11 : r.l11.length ≤ 40) :
  Calls Tryz.prog 43 #[.agg (agg r p), .int .i64 b, .int .i64 d] w fun e w' => e = .returned (.bool (fitsF r (perR r b d ay am dy dm w1 w2) hm bw b13 b12 bd (usualR r wb wd am ad dm dd))) ∧ Below w.heap.size w w' := by
 have OK := Aside0.mk ok; clear ok
 have HI := Aside0.mk hi; clear hi
 have H1 := Aside0.mk h1; clear h1
 have H2 := Aside0.mk h2; clear h2
 have H3 := Aside0.mk h3; clear h3
 have H4 := Aside0.mk h4; clear h4
 have H5 := Aside0.mk h5; clear h5
 have H6 := Aside0.mk h6; clear h6
 have H7 := Aside0.mk h7; clear h7
 have H8 := Aside0.mk h8; clear h8
 have H9 := Aside0.mk h9; clear h9
 have H10 := Aside0.mk h10; clear h10
 have H11 := Aside0.mk h11; clear h11
 have H12 := Aside0.mk h12; clear h12
 have H13 := Aside0.mk h13; clear h13
 have H14 := Aside0.mk h14; clear h14
 have H15 := Aside0.mk h15; clear h15
 have L13 := Aside0.mk l13; clear l13
 have L12 := Aside0.mk l12; clear l12
 have L11 := Aside0.mk l11; clear l11
 have HK := Aside0.mk (blk_new w (obj r p))
 have HB := Aside0.mk (below_alloc (Below.refl w.heap.size w) (obj r p))
 obtain ⟨n11, e11⟩ : ∃ n : Nat, r.l11.length = n := ⟨_, rfl⟩
 have N11 := Aside0.mk e11; clear e11
 obtain ⟨n12, e12⟩ : ∃ n : Nat, r.l12.length = n := ⟨_, rfl⟩
 have N12 := Aside0.mk e12; clear e12
 obtain ⟨n13, e13⟩ : ∃ n : Nat, r.l13.length = n := ⟨_, rfl⟩
 have N13 := Aside0.mk e13; clear e13
 obtain ⟨n14, e14⟩ : ∃ n : Nat, r.l14.length = n := ⟨_, rfl⟩
 have N14 := Aside0.mk e14; clear e14
 obtain ⟨n15, e15⟩ : ∃ n : Nat, r.l15.length = n := ⟨_, rfl⟩
 have N15 := Aside0.mk e15; clear e15
 go_enter Tryz.func43, Tryz.ntmps43
 go_upto_region 1 with fail
 generalize w.alloc (obj r p) = w0 at HK HB ⊢
 go_wp2_with (((with_reducible refine gate_ (.load 27 (.tmp 3)) rfl ?_); (try (refine gate_guard (by rfl) ?_; dsimp only)); refine Kd.event_run rfl (MatP.xR (.tmp 3) (w.heap.size) r p rfl rfl _ HK.out) ?_))
 refine (period k r p b d ay am ad dy dm dd w1 w2 w0 H1.out H2.out H3.out H4.out).mono ?_
 rintro e wa ⟨rfl, hb⟩
 replace HK := Aside0.mk (blk_below HK.out hb)
 replace HB := Aside0.mk (below_then HB.out HB.out.size hb)
 clear hb
 generalize hpv : perR r b d ay am dy dm w1 w2 = pv
 have PV := Aside0.mk hpv; clear hpv
 go_upto_region 2 with fail
 go_cut [24] (fun v wc => v = .bool (off pv r.a1) ∧ Aside0 (wc.heap[w.heap.size]? = some (obj r p)) ∧ Aside0 (Below w.heap.size w wc))
 case first => as_aux_lemma =>
  have kb1 : wa.cell? ⟨w.heap.size, 1, none⟩ = some (.int .i64 r.a1) := (blk_cell HK.out 1).trans rfl
  have i0 : (r.a1 == 0) = false := beq_eq_false_iff_ne.2 (by have := HI.out; omega)
  have i1 : ¬ r.a1 = 0 := by have := HI.out; omega
  by_cases c : pv < 0
  ·have c1 : decide (pv < 0) = true := decide_eq_true c
   have C := Aside0.mk c1; clear c
   go_wp2_with fail; go_meet
   case rel => exact ⟨by rw [show off pv r.a1 = true by unfold off; rw [C.out]; rfl] <;> rfl, HK, HB⟩
  ·have c1 : decide (pv < 0) = false := decide_eq_false c
   have C := Aside0.mk c1; clear c
   obtain ⟨z, hz⟩ : ∃ z, Int.tmod pv r.a1 = z := ⟨_, rfl⟩
   have Z := Aside0.mk hz
   go_wp2_with fail; go_meet
   case rel => exact ⟨by rw [show off pv r.a1 = (z != 0) by unfold off; rw [C.out, Z.out]; rfl] <;> first | rfl | simp [Z.out], HK, HB⟩
 case rest =>
  obtain ⟨rfl, HK, HB⟩ := hcut
  cases ho : off pv r.a1 with
  | true =>
   have O := Aside0.mk ho; clear ho
   go_wp2_with fail
   go_ret
   exact ⟨by rw [PV.out, fitsF_off _ _ _ _ _ _ O.out] <;> rfl, HB.out⟩
  | false =>
   have O := Aside0.mk ho; clear ho
   go_wp2_with fail
   refine (trystref14_date.calls k b ay am ad _ H1.out).mono ?_
   rintro e wq ⟨rfl, hb⟩
   replace HK := Aside0.mk (blk_below HK.out hb)
   replace HB := Aside0.mk (below_then HB.out HB.out.size hb)
   clear hb
   go_wp2_with fail
   refine (trystref14_date.calls k d dy dm dd _ H2.out).mono ?_
   rintro e wq ⟨rfl, hb⟩
   replace HK := Aside0.mk (blk_below HK.out hb)
   replace HB := Aside0.mk (below_then HB.out HB.out.size hb)
   clear hb
   go_upto_region 5 with fail
   have HD := Aside0.mk (show ((wq.alloc (.cells #[.int .i64 ay, .int .i64 am, .int .i64 ad] 61 (0, 0))).alloc (.cells #[.int .i64 dy, .int .i64 dm, .int .i64 dd] 61 (0, 0))).heap[wq.heap.size + 1]? = some (.cells #[.int .i64 dy, .int .i64 dm, .int .i64 dd] 61 (0, 0)) by have h := blk_new (wq.alloc (.cells #[.int .i64 ay, .int .i64 am, .int .i64 ad] 61 (0, 0))) (.cells #[.int .i64 dy, .int .i64 dm, .int .i64 dd] 61 (0, 0)); rw [show (wq.alloc (.cells #[.int .i64 ay, .int .i64 am, .int .i64 ad] 61 (0, 0))).heap.size = wq.heap.size + 1 by simp] at h; exact h)
   have HA := Aside0.mk (blk_below (blk_new wq (.cells #[.int .i64 ay, .int .i64 am, .int .i64 ad] 61 (0, 0))) (below_alloc (Below.refl _ _) (.cells #[.int .i64 dy, .int .i64 dm, .int .i64 dd] 61 (0, 0))))
   replace HK := Aside0.mk (blk_below (blk_below HK.out (below_alloc (Below.refl _ _) (.cells #[.int .i64 ay, .int .i64 am, .int .i64 ad] 61 (0, 0)))) (below_alloc (Below.refl _ _) (.cells #[.int .i64 dy, .int .i64 dm, .int .i64 dd] 61 (0, 0))))
   replace HB := Aside0.mk (below_alloc (below_alloc HB.out (.cells #[.int .i64 ay, .int .i64 am, .int .i64 ad] 61 (0, 0))) (.cells #[.int .i64 dy, .int .i64 dm, .int .i64 dd] 61 (0, 0)))
   generalize (wq.alloc (.cells #[.int .i64 ay, .int .i64 am, .int .i64 ad] 61 (0, 0))).alloc (.cells #[.int .i64 dy, .int .i64 dm, .int .i64 dd] 61 (0, 0)) = we at HD HA HK HB ⊢
   generalize wq.heap.size = g at HD HA ⊢
   have d0 : we.cell? ⟨g + 1, 0, none⟩ = some (.int .i64 dy) := (blk_cell HD.out 0).trans rfl
   have h6 := H6.out
   go_wp2_with fail
   refine (trystref01_Fixed.calls k 0 dy 1 1 fy _ H5.out).mono ?_
   rintro e wq2 ⟨rfl, ⟨nq, rfl⟩⟩
   replace HK := Aside0.mk (blk_drewN HK.out nq)
   replace HD := Aside0.mk (blk_drewN HD.out nq)
   replace HA := Aside0.mk (blk_drewN HA.out nq)
   replace HB := Aside0.mk (pw_below_drewN HB.out nq)
   clear d0
   generalize we.drewN nq = wf at HK HD HA HB ⊢
   go_upto_region 6 with fail
   rw [H6.out]
   clear h6
   go_cut [105] (fun v wc => v = .bool (!(all5 r hm bw b13 b12 bd)) ∧ Aside0 (wc.heap[w.heap.size]? = some (obj r p)) ∧ Aside0 (wc.heap[g + 1]? = some (.cells #[.int .i64 dy, .int .i64 dm, .int .i64 dd] 61 (0, 0))) ∧ Aside0 (wc.heap[g]? = some (.cells #[.int .i64 ay, .int .i64 am, .int .i64 ad] 61 (0, 0))) ∧ Aside0 (Below w.heap.size w wc))
   case first => as_aux_lemma =>
    have H0 : (fun w' => w'.heap[w.heap.size]? = some (obj r p) ∧ w'.heap[g + 1]? = some (.cells #[.int .i64 dy, .int .i64 dm, .int .i64 dd] 61 (0, 0)) ∧ w'.heap[g]? = some (.cells #[.int .i64 ay, .int .i64 am, .int .i64 ad] 61 (0, 0)) ∧ Below w.heap.size w w') wf.drew := ⟨blk_drew HK.out, blk_drew HD.out, blk_drew HA.out, below_drew1 HB.out⟩
    refine start_ (n := 71) (S := fun w' => w'.heap[w.heap.size]? = some (obj r p) ∧ w'.heap[g + 1]? = some (.cells #[.int .i64 dy, .int .i64 dm, .int .i64 dd] 61 (0, 0)) ∧ w'.heap[g]? = some (.cells #[.int .i64 ay, .int .i64 am, .int .i64 ad] 61 (0, 0)) ∧ Below w.heap.size w w') (ds := []) (tt 71 0) (by kernel_rfl) rfl rfl H0 (fun hHeld => ?_)
    refine with_tabW tab6 bits6 (fun HT_ HW_ => ?_)
    clear H0 HK HD HA HB
    generalize wf.drew = wz0 at hHeld ⊢
    refine join_ (σ := Value × Value × Value × Value × Value × Value × Value × Value × Value × Value × Value × Value × Unit) 58 (tt 71 13) (fun x => [(35, x.1), (36, x.2.1), (37, x.2.2.1), (38, x.2.2.2.1), (39, x.2.2.2.2.1), (40, x.2.2.2.2.2.1), (41, x.2.2.2.2.2.2.1), (42, x.2.2.2.2.2.2.2.1), (43, x.2.2.2.2.2.2.2.2.1), (44, x.2.2.2.2.2.2.2.2.2.1), (45, x.2.2.2.2.2.2.2.2.2.2.1), (46, x.2.2.2.2.2.2.2.2.2.2.2.1), (47, .bool (!(say r.l15.length hm)))]) (fun x w' => (fun w' => w'.heap[w.heap.size]? = some (obj r p) ∧ w'.heap[g + 1]? = some (.cells #[.int .i64 dy, .int .i64 dm, .int .i64 dd] 61 (0, 0)) ∧ w'.heap[g]? = some (.cells #[.int .i64 ay, .int .i64 am, .int .i64 ad] 61 (0, 0)) ∧ Below w.heap.size w w') w') ?_ ?_
    rotate_left
    ·intro hc
     simp only [putAll, Act.put, List.setIfInBounds_toArray, List.set_cons_zero, List.set_cons_succ, i64_w, i32_w] at hc
     by_cases z : 0 < n15
     ·have z1 : decide ((n15 : Int) > 0) = true := decide_eq_true (by omega); have z2 : decide (0 < n15) = true := decide_eq_true z; have Z := Aside0.mk (show 0 < r.l15.length by rw [N15.out]; exact z); clear z
      rw [say1 hm Z.out] at hc
      refine pu 0 (some 35) (tt 71 1) HT_ ?_
      refine take_ (i := 1) (N := some 36) (v := ?_) (a' := ?_) (tt 71 2) rfl rfl (take_ofW HT_.out HW_.out (by kernel_rfl)) (fun _ _ _ h => h) (Or.inl ⟨by rfl, ?_⟩) hHeld ?_ ?_
      rotate_left
      ·rintro w' ⟨hK, hD, hA, hB⟩
       have c : w'.cell? ⟨w.heap.size, 15, none⟩ = some (.slice p.A15 n15 p.c15) := by rw [← N15.out]; exact (blk_cell hK 15).trans rfl
       clear hK hD hA hB
       go_simp
       with_reducible rfl
      rotate_left
      ·simp only [Act.put, sA, sB, sC, i64_w, i32_w]
       rfl
      refine pu 2 (some 37) (tt 71 3) HT_ ?_
      refine pu 3 (some 38) (tt 71 4) HT_ ?_
      refine pu 4 (some 39) (tt 71 5) HT_ ?_
      refine pu 5 (some 40) (tt 71 6) HT_ ?_
      refine take_ (i := 6) (N := some 41) (v := ?_) (a' := ?_) (tt 71 7) rfl rfl (take_ofW HT_.out HW_.out (by kernel_rfl)) (fun _ _ _ h => h) (Or.inl ⟨by rfl, ?_⟩) hHeld ?_ ?_
      rotate_left
      ·rintro w' ⟨hK, hD, hA, hB⟩
       have c : w'.cell? ⟨w.heap.size, 15, none⟩ = some (.slice p.A15 n15 p.c15) := by rw [← N15.out]; exact (blk_cell hK 15).trans rfl
       clear hK hD hA hB
       go_simp
       with_reducible rfl
      rotate_left
      ·simp only [Act.put, sA, sB, sC, i64_w, i32_w]
       rfl
      refine pu 7 (some 42) (tt 71 8) HT_ ?_
      refine take_ (i := 8) (N := some 43) (v := ?_) (a' := ?_) (tt 71 9) rfl rfl (take_ofW HT_.out HW_.out (by kernel_rfl)) (fun _ _ _ h => h) (Or.inl ⟨by rfl, ?_⟩) hHeld ?_ ?_
      rotate_left
      ·rintro w' ⟨hK, hD, hA, hB⟩
       have c : w'.cell? ⟨g + 1, 1, none⟩ = some (.int .i64 dm) := (blk_cell hD 1).trans rfl
       clear hK hD hA hB
       go_simp
       with_reducible rfl
      rotate_left
      ·simp only [Act.put, sA, sB, sC, i64_w, i32_w]
       rfl
      refine one_ (i := 9) (N := some 44) (tt 71 10) rfl rfl (one_of HT_.out (by kernel_rfl)) (by decide) (fun K hK => ?_)
      refine goes_ Tryz.func78 (by kernel_rfl) rfl #[.slice p.A15 n15 p.c15, .int .i64 dm] (by rfl) rfl rfl (by (try simp only [List.map_toArray, List.map_cons, List.map_nil]); first | done | rfl) ?_
      refine ((calls_of_args (by rw [N15.out]) (trystref14_has.calls k p.A15 p.c15 r.l15 dm hm _ (Kd.C_below OK.out.h15 hHeld.2.2.2) OK.out.d15 H7.out))).mono ?_
      rintro e wn ⟨rfl, ⟨nq, rfl⟩⟩
      refine ⟨_, rfl, ?_⟩
      refine hK.out _ _ ⟨blk_drewN hHeld.1 nq, blk_drewN hHeld.2.1 nq, blk_drewN hHeld.2.2.1 nq, pw_below_drewN hHeld.2.2.2 nq⟩ (fun hHeld => ?_)
      clear hK K
      refine norm_ (a' := ?_) ?_ ?_
      rotate_left
      ·show Act.put _ (some 44) _ = _
       simp only [Act.put, sA, sB, sC, i64_w, i32_w]
       rfl
      refine pu 10 (some 45) (tt 71 11) HT_ ?_
      refine pu 11 (some 46) (tt 71 12) HT_ ?_
      refine pu 12 (some 47) (tt 71 13) HT_ ?_
      exact hc (_, _, _, _, _, _, _, _, _, _, _, _, ()) _ hHeld
     ·have z1 : decide ((n15 : Int) > 0) = false := decide_eq_false (by omega); have z2 : decide (0 < n15) = false := decide_eq_false z; have Z := Aside0.mk (show ¬ 0 < r.l15.length by rw [N15.out]; exact z); clear z
      rw [say0 hm Z.out] at hc
      refine pu 0 (some 35) (tt 71 1) HT_ ?_
      refine take_ (i := 1) (N := some 36) (v := ?_) (a' := ?_) (tt 71 2) rfl rfl (take_ofW HT_.out HW_.out (by kernel_rfl)) (fun _ _ _ h => h) (Or.inl ⟨by rfl, ?_⟩) hHeld ?_ ?_
      rotate_left
      ·rintro w' ⟨hK, hD, hA, hB⟩
       have c : w'.cell? ⟨w.heap.size, 15, none⟩ = some (.slice p.A15 n15 p.c15) := by rw [← N15.out]; exact (blk_cell hK 15).trans rfl
       clear hK hD hA hB
       go_simp
       with_reducible rfl
      rotate_left
      ·simp only [Act.put, sA, sB, sC, i64_w, i32_w]
       rfl
      refine pu 2 (some 37) (tt 71 3) HT_ ?_
      refine pu 3 (some 38) (tt 71 4) HT_ ?_
      refine pu 4 (some 39) (tt 71 5) HT_ ?_
      refine puO 5 (some 40) (tt 71 6) HT_ ?_
      refine puO 6 (some 41) (tt 71 7) HT_ ?_
      refine puO 7 (some 42) (tt 71 8) HT_ ?_
      refine puO 8 (some 43) (tt 71 9) HT_ ?_
      refine puO 9 (some 44) (tt 71 10) HT_ ?_
      refine puO 10 (some 45) (tt 71 11) HT_ ?_
      refine pu 11 (some 46) (tt 71 12) HT_ ?_
      refine pu 12 (some 47) (tt 71 13) HT_ ?_
      exact hc (_, _, _, _, _, _, _, _, _, _, _, _, ()) _ hHeld
    rintro ⟨x35, x36, x37, x38, x39, x40, x41, x42, x43, x44, x45, x46, xu⟩ wz1 hHeld
    refine norm_ (a' := ?_) ?_ ?_
    rotate_left
    ·simp only [putAll]
     simp only [Act.put, sA, sB, sC, i64_w, i32_w]
     rfl
    refine join_ (σ := Value × Value × Value × Value × Value × Value × Value × Value × Value × Value × Value × Unit) 46 (tt 71 25) (fun x => [(48, x.1), (49, x.2.1), (50, x.2.2.1), (51, x.2.2.2.1), (52, x.2.2.2.2.1), (53, x.2.2.2.2.2.1), (54, x.2.2.2.2.2.2.1), (55, x.2.2.2.2.2.2.2.1), (56, x.2.2.2.2.2.2.2.2.1), (57, x.2.2.2.2.2.2.2.2.2.1), (58, x.2.2.2.2.2.2.2.2.2.2.1), (59, .bool (!((say r.l15.length hm && say r.l14.length bw))))]) (fun x w' => (fun w' => w'.heap[w.heap.size]? = some (obj r p) ∧ w'.heap[g + 1]? = some (.cells #[.int .i64 dy, .int .i64 dm, .int .i64 dd] 61 (0, 0)) ∧ w'.heap[g]? = some (.cells #[.int .i64 ay, .int .i64 am, .int .i64 ad] 61 (0, 0)) ∧ Below w.heap.size w w') w') ?_ ?_
    rotate_left
    ·intro hc
     simp only [putAll, Act.put, List.setIfInBounds_toArray, List.set_cons_zero, List.set_cons_succ, i64_w, i32_w] at hc
     cases ha : say r.l15.length hm with
     | false =>
      rw [ha] at hc
      refine puO 13 (some 48) (tt 71 14) HT_ ?_
      refine puO 14 (some 49) (tt 71 15) HT_ ?_
      refine puO 15 (some 50) (tt 71 16) HT_ ?_
      refine puO 16 (some 51) (tt 71 17) HT_ ?_
      refine puO 17 (some 52) (tt 71 18) HT_ ?_
      refine puO 18 (some 53) (tt 71 19) HT_ ?_
      refine puO 19 (some 54) (tt 71 20) HT_ ?_
      refine puO 20 (some 55) (tt 71 21) HT_ ?_
      refine puO 21 (some 56) (tt 71 22) HT_ ?_
      refine puO 22 (some 57) (tt 71 23) HT_ ?_
      refine pu 23 (some 58) (tt 71 24) HT_ ?_
      refine pu 24 (some 59) (tt 71 25) HT_ ?_
      exact hc (_, _, _, _, _, _, _, _, _, _, _, ()) _ hHeld
     | true =>
      rw [ha] at hc
      clear ha
      by_cases z : 0 < n14
      ·have z1 : decide ((n14 : Int) > 0) = true := decide_eq_true (by omega); have z2 : decide (0 < n14) = true := decide_eq_true z; have Z := Aside0.mk (show 0 < r.l14.length by rw [N14.out]; exact z); clear z
       rw [say1 bw Z.out] at hc
       refine pu 13 (some 48) (tt 71 14) HT_ ?_
       refine take_ (i := 14) (N := some 49) (v := ?_) (a' := ?_) (tt 71 15) rfl rfl (take_ofW HT_.out HW_.out (by kernel_rfl)) (fun _ _ _ h => h) (Or.inl ⟨by rfl, ?_⟩) hHeld ?_ ?_
       rotate_left
       ·rintro w' ⟨hK, hD, hA, hB⟩
        have c : w'.cell? ⟨w.heap.size, 14, none⟩ = some (.slice p.A14 n14 p.c14) := by rw [← N14.out]; exact (blk_cell hK 14).trans rfl
        clear hK hD hA hB
        go_simp
        with_reducible rfl
       rotate_left
       ·simp only [Act.put, sA, sB, sC, i64_w, i32_w]
        rfl
       refine pu 15 (some 50) (tt 71 16) HT_ ?_
       refine pu 16 (some 51) (tt 71 17) HT_ ?_
       refine pu 17 (some 52) (tt 71 18) HT_ ?_
       refine take_ (i := 18) (N := some 53) (v := .agg (agg r p)) (a' := ?_) (tt 71 19) rfl rfl (take_ofW HT_.out HW_.out (by kernel_rfl)) (fun _ _ _ h => h) (Or.inl ⟨by rfl, fun w' hs => MatP.xR (.tmp 3) (w.heap.size) r p rfl rfl w' hs.1⟩) hHeld ?_ ?_
       rotate_left
       ·simp only [Act.put, sA, sB, sC, i64_w, i32_w]
        rfl
       refine pu 19 (some 54) (tt 71 20) HT_ ?_
       refine one_ (i := 20) (N := some 55) (tt 71 21) rfl rfl (one_of HT_.out (by kernel_rfl)) (by decide) (fun K hK => ?_)
       refine goes_ Tryz.func79 (by kernel_rfl) rfl #[.agg (agg r p), .int .i64 d] (by rfl) rfl rfl (by (try simp only [List.map_toArray, List.map_cons, List.map_nil]); first | done | rfl) ?_
       refine (weekX k r p d bw _ (OK.out.below hHeld.2.2.2) H8.out).mono ?_
       rintro e wn ⟨rfl, hb⟩
       refine ⟨_, rfl, ?_⟩
       refine hK.out _ _ ⟨blk_below hHeld.1 hb, blk_below hHeld.2.1 hb, blk_below hHeld.2.2.1 hb, below_then hHeld.2.2.2 hHeld.2.2.2.size hb⟩ (fun hHeld => ?_)
       clear hK K
       refine norm_ (a' := ?_) ?_ ?_
       rotate_left
       ·show Act.put _ (some 55) _ = _
        simp only [Act.put, sA, sB, sC, i64_w, i32_w]
        rfl
       refine pu 21 (some 56) (tt 71 22) HT_ ?_
       refine pu 22 (some 57) (tt 71 23) HT_ ?_
       refine pu 23 (some 58) (tt 71 24) HT_ ?_
       refine pu 24 (some 59) (tt 71 25) HT_ ?_
       exact hc (_, _, _, _, _, _, _, _, _, _, _, ()) _ hHeld
      ·have z1 : decide ((n14 : Int) > 0) = false := decide_eq_false (by omega); have z2 : decide (0 < n14) = false := decide_eq_false z; have Z := Aside0.mk (show ¬ 0 < r.l14.length by rw [N14.out]; exact z); clear z
       rw [say0 bw Z.out] at hc
       refine pu 13 (some 48) (tt 71 14) HT_ ?_
       refine take_ (i := 14) (N := some 49) (v := ?_) (a' := ?_) (tt 71 15) rfl rfl (take_ofW HT_.out HW_.out (by kernel_rfl)) (fun _ _ _ h => h) (Or.inl ⟨by rfl, ?_⟩) hHeld ?_ ?_
       rotate_left
       ·rintro w' ⟨hK, hD, hA, hB⟩
        have c : w'.cell? ⟨w.heap.size, 14, none⟩ = some (.slice p.A14 n14 p.c14) := by rw [← N14.out]; exact (blk_cell hK 14).trans rfl
        clear hK hD hA hB
        go_simp
        with_reducible rfl
       rotate_left
       ·simp only [Act.put, sA, sB, sC, i64_w, i32_w]
        rfl
       refine pu 15 (some 50) (tt 71 16) HT_ ?_
       refine pu 16 (some 51) (tt 71 17) HT_ ?_
       refine pu 17 (some 52) (tt 71 18) HT_ ?_
       refine puO 18 (some 53) (tt 71 19) HT_ ?_
       refine puO 19 (some 54) (tt 71 20) HT_ ?_
       refine puO 20 (some 55) (tt 71 21) HT_ ?_
       refine puO 21 (some 56) (tt 71 22) HT_ ?_
       refine pu 22 (some 57) (tt 71 23) HT_ ?_
       refine pu 23 (some 58) (tt 71 24) HT_ ?_
       refine pu 24 (some 59) (tt 71 25) HT_ ?_
       exact hc (_, _, _, _, _, _, _, _, _, _, _, ()) _ hHeld
    rintro ⟨x48, x49, x50, x51, x52, x53, x54, x55, x56, x57, x58, xu⟩ wz2 hHeld
    refine norm_ (a' := ?_) ?_ ?_
    rotate_left
    ·simp only [putAll]
     simp only [Act.put, sA, sB, sC, i64_w, i32_w]
     rfl
    refine join_ (σ := Value × Value × Value × Value × Value × Value × Value × Value × Value × Value × Value × Value × Value × Value × Value × Unit) 30 (tt 71 41) (fun x => [(60, x.1), (61, x.2.1), (62, x.2.2.1), (63, x.2.2.2.1), (64, x.2.2.2.2.1), (65, x.2.2.2.2.2.1), (66, x.2.2.2.2.2.2.1), (67, x.2.2.2.2.2.2.2.1), (68, x.2.2.2.2.2.2.2.2.1), (69, x.2.2.2.2.2.2.2.2.2.1), (70, x.2.2.2.2.2.2.2.2.2.2.1), (71, x.2.2.2.2.2.2.2.2.2.2.2.1), (72, x.2.2.2.2.2.2.2.2.2.2.2.2.1), (73, x.2.2.2.2.2.2.2.2.2.2.2.2.2.1), (74, x.2.2.2.2.2.2.2.2.2.2.2.2.2.2.1), (75, .bool (!(((say r.l15.length hm && say r.l14.length bw) && say r.l13.length b13))))]) (fun x w' => (fun w' => w'.heap[w.heap.size]? = some (obj r p) ∧ w'.heap[g + 1]? = some (.cells #[.int .i64 dy, .int .i64 dm, .int .i64 dd] 61 (0, 0)) ∧ w'.heap[g]? = some (.cells #[.int .i64 ay, .int .i64 am, .int .i64 ad] 61 (0, 0)) ∧ Below w.heap.size w w') w') ?_ ?_
    rotate_left
    ·intro hc
     simp only [putAll, Act.put, List.setIfInBounds_toArray, List.set_cons_zero, List.set_cons_succ, i64_w, i32_w] at hc
     cases ha : (say r.l15.length hm && say r.l14.length bw) with
     | false =>
      rw [ha] at hc
      refine puO 25 (some 60) (tt 71 26) HT_ ?_
      refine puO 26 (some 61) (tt 71 27) HT_ ?_
      refine puO 27 (some 62) (tt 71 28) HT_ ?_
      refine puO 28 (some 63) (tt 71 29) HT_ ?_
      refine puO 29 (some 64) (tt 71 30) HT_ ?_
      refine puO 30 (some 65) (tt 71 31) HT_ ?_
      refine puO 31 (some 66) (tt 71 32) HT_ ?_
      refine puO 32 (some 67) (tt 71 33) HT_ ?_
      refine puO 33 (some 68) (tt 71 34) HT_ ?_
      refine puO 34 (some 69) (tt 71 35) HT_ ?_
      refine puO 35 (some 70) (tt 71 36) HT_ ?_
      refine puO 36 (some 71) (tt 71 37) HT_ ?_
      refine puO 37 (some 72) (tt 71 38) HT_ ?_
      refine puO 38 (some 73) (tt 71 39) HT_ ?_
      refine pu 39 (some 74) (tt 71 40) HT_ ?_
      refine pu 40 (some 75) (tt 71 41) HT_ ?_
      exact hc (_, _, _, _, _, _, _, _, _, _, _, _, _, _, _, ()) _ hHeld
     | true =>
      rw [ha] at hc
      clear ha
      by_cases z : 0 < n13
      ·have z1 : decide ((n13 : Int) > 0) = true := decide_eq_true (by omega); have z2 : decide (0 < n13) = true := decide_eq_true z; have Z := Aside0.mk (show 0 < r.l13.length by rw [N13.out]; exact z); clear z
       rw [say1 b13 Z.out] at hc
       refine pu 25 (some 60) (tt 71 26) HT_ ?_
       refine take_ (i := 26) (N := some 61) (v := ?_) (a' := ?_) (tt 71 27) rfl rfl (take_ofW HT_.out HW_.out (by kernel_rfl)) (fun _ _ _ h => h) (Or.inl ⟨by rfl, ?_⟩) hHeld ?_ ?_
       rotate_left
       ·rintro w' ⟨hK, hD, hA, hB⟩
        have c : w'.cell? ⟨w.heap.size, 13, none⟩ = some (.slice p.A13 n13 p.c13) := by rw [← N13.out]; exact (blk_cell hK 13).trans rfl
        clear hK hD hA hB
        go_simp
        with_reducible rfl
       rotate_left
       ·simp only [Act.put, sA, sB, sC, i64_w, i32_w]
        rfl
       refine pu 27 (some 62) (tt 71 28) HT_ ?_
       refine pu 28 (some 63) (tt 71 29) HT_ ?_
       refine pu 29 (some 64) (tt 71 30) HT_ ?_
       refine pu 30 (some 65) (tt 71 31) HT_ ?_
       refine take_ (i := 31) (N := some 66) (v := ?_) (a' := ?_) (tt 71 32) rfl rfl (take_ofW HT_.out HW_.out (by kernel_rfl)) (fun _ _ _ h => h) (Or.inl ⟨by rfl, ?_⟩) hHeld ?_ ?_
       rotate_left
       ·rintro w' ⟨hK, hD, hA, hB⟩
        have c : w'.cell? ⟨w.heap.size, 13, none⟩ = some (.slice p.A13 n13 p.c13) := by rw [← N13.out]; exact (blk_cell hK 13).trans rfl
        clear hK hD hA hB
        go_simp
        with_reducible rfl
       rotate_left
       ·simp only [Act.put, sA, sB, sC, i64_w, i32_w]
        rfl
       refine pu 32 (some 67) (tt 71 33) HT_ ?_
       refine pu 33 (some 68) (tt 71 34) HT_ ?_
       refine take_ (i := 34) (N := some 69) (v := ?_) (a' := ?_) (tt 71 35) rfl rfl (take_ofW HT_.out HW_.out (by kernel_rfl)) (fun _ _ _ h => h) (Or.inl ⟨by rfl, ?_⟩) hHeld ?_ ?_
       rotate_left
       ·rintro w' ⟨hK, hD, hA, hB⟩
        have c : w'.cell? ⟨g + 1, 0, none⟩ = some (.int .i64 dy) := (blk_cell hD 0).trans rfl
        clear hK hD hA hB
        go_simp
        with_reducible rfl
       rotate_left
       ·simp only [Act.put, sA, sB, sC, i64_w, i32_w]
        rfl
       refine one_ (i := 35) (N := some 70) (tt 71 36) rfl rfl (one_of HT_.out (by kernel_rfl)) (by decide) (fun K hK => ?_)
       refine goes_ Tryz.func80 (by kernel_rfl) rfl #[.int .i64 dy] (by rfl) rfl rfl (by (try simp only [List.map_toArray, List.map_cons, List.map_nil]); first | done | rfl) ?_
       refine (trystref14_year.calls k dy ny _ H9.out).mono ?_
       rintro e wn ⟨rfl, ⟨nq, rfl⟩⟩
       refine ⟨_, rfl, ?_⟩
       refine hK.out _ _ ⟨blk_drewN hHeld.1 nq, blk_drewN hHeld.2.1 nq, blk_drewN hHeld.2.2.1 nq, pw_below_drewN hHeld.2.2.2 nq⟩ (fun hHeld => ?_)
       clear hK K
       refine norm_ (a' := ?_) ?_ ?_
       rotate_left
       ·show Act.put _ (some 70) _ = _
        simp only [Act.put, sA, sB, sC, i64_w, i32_w]
        rfl
       refine one_ (i := 36) (N := some 71) (tt 71 37) rfl rfl (one_of HT_.out (by kernel_rfl)) (by decide) (fun K hK => ?_)
       refine goes_ Tryz.func44 (by kernel_rfl) rfl #[.slice p.A13 n13 p.c13, .int .i64 nd, .int .i64 ny] (by rfl) rfl rfl (by (try simp only [List.map_toArray, List.map_cons, List.map_nil]); first | done | rfl) ?_
       refine ((calls_of_args (by rw [N13.out]) (trystref14_counted.calls k p.A13 p.c13 r.l13 nd ny b13 _ (Kd.C_below OK.out.h13 hHeld.2.2.2) OK.out.d13 H10.out))).mono ?_
       rintro e wn ⟨rfl, ⟨nq, rfl⟩⟩
       refine ⟨_, rfl, ?_⟩
       refine hK.out _ _ ⟨blk_drewN hHeld.1 nq, blk_drewN hHeld.2.1 nq, blk_drewN hHeld.2.2.1 nq, pw_below_drewN hHeld.2.2.2 nq⟩ (fun hHeld => ?_)
       clear hK K
       refine norm_ (a' := ?_) ?_ ?_
       rotate_left
       ·show Act.put _ (some 71) _ = _
        simp only [Act.put, sA, sB, sC, i64_w, i32_w]
        rfl
       refine pu 37 (some 72) (tt 71 38) HT_ ?_
       refine pu 38 (some 73) (tt 71 39) HT_ ?_
       refine pu 39 (some 74) (tt 71 40) HT_ ?_
       refine pu 40 (some 75) (tt 71 41) HT_ ?_
       exact hc (_, _, _, _, _, _, _, _, _, _, _, _, _, _, _, ()) _ hHeld
      ·have z1 : decide ((n13 : Int) > 0) = false := decide_eq_false (by omega); have z2 : decide (0 < n13) = false := decide_eq_false z; have Z := Aside0.mk (show ¬ 0 < r.l13.length by rw [N13.out]; exact z); clear z
       rw [say0 b13 Z.out] at hc
       refine pu 25 (some 60) (tt 71 26) HT_ ?_
       refine take_ (i := 26) (N := some 61) (v := ?_) (a' := ?_) (tt 71 27) rfl rfl (take_ofW HT_.out HW_.out (by kernel_rfl)) (fun _ _ _ h => h) (Or.inl ⟨by rfl, ?_⟩) hHeld ?_ ?_
       rotate_left
       ·rintro w' ⟨hK, hD, hA, hB⟩
        have c : w'.cell? ⟨w.heap.size, 13, none⟩ = some (.slice p.A13 n13 p.c13) := by rw [← N13.out]; exact (blk_cell hK 13).trans rfl
        clear hK hD hA hB
        go_simp
        with_reducible rfl
       rotate_left
       ·simp only [Act.put, sA, sB, sC, i64_w, i32_w]
        rfl
       refine pu 27 (some 62) (tt 71 28) HT_ ?_
       refine pu 28 (some 63) (tt 71 29) HT_ ?_
       refine pu 29 (some 64) (tt 71 30) HT_ ?_
       refine puO 30 (some 65) (tt 71 31) HT_ ?_
       refine puO 31 (some 66) (tt 71 32) HT_ ?_
       refine puO 32 (some 67) (tt 71 33) HT_ ?_
       refine puO 33 (some 68) (tt 71 34) HT_ ?_
       refine puO 34 (some 69) (tt 71 35) HT_ ?_
       refine puO 35 (some 70) (tt 71 36) HT_ ?_
       refine puO 36 (some 71) (tt 71 37) HT_ ?_
       refine puO 37 (some 72) (tt 71 38) HT_ ?_
       refine pu 38 (some 73) (tt 71 39) HT_ ?_
       refine pu 39 (some 74) (tt 71 40) HT_ ?_
       refine pu 40 (some 75) (tt 71 41) HT_ ?_
       exact hc (_, _, _, _, _, _, _, _, _, _, _, _, _, _, _, ()) _ hHeld
    rintro ⟨x60, x61, x62, x63, x64, x65, x66, x67, x68, x69, x70, x71, x72, x73, x74, xu⟩ wz3 hHeld
    refine norm_ (a' := ?_) ?_ ?_
    rotate_left
    ·simp only [putAll]
     simp only [Act.put, sA, sB, sC, i64_w, i32_w]
     rfl
    refine join_ (σ := Value × Value × Value × Value × Value × Value × Value × Value × Value × Value × Value × Value × Value × Value × Value × Value × Value × Value × Unit) 11 (tt 71 60) (fun x => [(76, x.1), (77, x.2.1), (78, x.2.2.1), (79, x.2.2.2.1), (80, x.2.2.2.2.1), (81, x.2.2.2.2.2.1), (82, x.2.2.2.2.2.2.1), (83, x.2.2.2.2.2.2.2.1), (84, x.2.2.2.2.2.2.2.2.1), (85, x.2.2.2.2.2.2.2.2.2.1), (86, x.2.2.2.2.2.2.2.2.2.2.1), (87, x.2.2.2.2.2.2.2.2.2.2.2.1), (88, x.2.2.2.2.2.2.2.2.2.2.2.2.1), (89, x.2.2.2.2.2.2.2.2.2.2.2.2.2.1), (90, x.2.2.2.2.2.2.2.2.2.2.2.2.2.2.1), (91, x.2.2.2.2.2.2.2.2.2.2.2.2.2.2.2.1), (92, x.2.2.2.2.2.2.2.2.2.2.2.2.2.2.2.2.1), (93, x.2.2.2.2.2.2.2.2.2.2.2.2.2.2.2.2.2.1), (94, .bool (!((((say r.l15.length hm && say r.l14.length bw) && say r.l13.length b13) && say r.l12.length b12))))]) (fun x w' => (fun w' => w'.heap[w.heap.size]? = some (obj r p) ∧ w'.heap[g + 1]? = some (.cells #[.int .i64 dy, .int .i64 dm, .int .i64 dd] 61 (0, 0)) ∧ w'.heap[g]? = some (.cells #[.int .i64 ay, .int .i64 am, .int .i64 ad] 61 (0, 0)) ∧ Below w.heap.size w w') w') ?_ ?_
    rotate_left
    ·intro hc
     simp only [putAll, Act.put, List.setIfInBounds_toArray, List.set_cons_zero, List.set_cons_succ, i64_w, i32_w] at hc
     cases ha : ((say r.l15.length hm && say r.l14.length bw) && say r.l13.length b13) with
     | false =>
      rw [ha] at hc
      refine puO 41 (some 76) (tt 71 42) HT_ ?_
      refine puO 42 (some 77) (tt 71 43) HT_ ?_
      refine puO 43 (some 78) (tt 71 44) HT_ ?_
      refine puO 44 (some 79) (tt 71 45) HT_ ?_
      refine puO 45 (some 80) (tt 71 46) HT_ ?_
      refine puO 46 (some 81) (tt 71 47) HT_ ?_
      refine puO 47 (some 82) (tt 71 48) HT_ ?_
      refine puO 48 (some 83) (tt 71 49) HT_ ?_
      refine puO 49 (some 84) (tt 71 50) HT_ ?_
      refine puO 50 (some 85) (tt 71 51) HT_ ?_
      refine puO 51 (some 86) (tt 71 52) HT_ ?_
      refine puO 52 (some 87) (tt 71 53) HT_ ?_
      refine puO 53 (some 88) (tt 71 54) HT_ ?_
      refine puO 54 (some 89) (tt 71 55) HT_ ?_
      refine puO 55 (some 90) (tt 71 56) HT_ ?_
      refine puO 56 (some 91) (tt 71 57) HT_ ?_
      refine puO 57 (some 92) (tt 71 58) HT_ ?_
      refine pu 58 (some 93) (tt 71 59) HT_ ?_
      refine pu 59 (some 94) (tt 71 60) HT_ ?_
      exact hc (_, _, _, _, _, _, _, _, _, _, _, _, _, _, _, _, _, _, ()) _ hHeld
     | true =>
      rw [ha] at hc
      clear ha
      by_cases z : 0 < n12
      ·have z1 : decide ((n12 : Int) > 0) = true := decide_eq_true (by omega); have z2 : decide (0 < n12) = true := decide_eq_true z; have Z := Aside0.mk (show 0 < r.l12.length by rw [N12.out]; exact z); clear z
       rw [say1 b12 Z.out] at hc
       refine pu 41 (some 76) (tt 71 42) HT_ ?_
       refine take_ (i := 42) (N := some 77) (v := ?_) (a' := ?_) (tt 71 43) rfl rfl (take_ofW HT_.out HW_.out (by kernel_rfl)) (fun _ _ _ h => h) (Or.inl ⟨by rfl, ?_⟩) hHeld ?_ ?_
       rotate_left
       ·rintro w' ⟨hK, hD, hA, hB⟩
        have c : w'.cell? ⟨w.heap.size, 12, none⟩ = some (.slice p.A12 n12 p.c12) := by rw [← N12.out]; exact (blk_cell hK 12).trans rfl
        clear hK hD hA hB
        go_simp
        with_reducible rfl
       rotate_left
       ·simp only [Act.put, sA, sB, sC, i64_w, i32_w]
        rfl
       refine pu 43 (some 78) (tt 71 44) HT_ ?_
       refine pu 44 (some 79) (tt 71 45) HT_ ?_
       refine pu 45 (some 80) (tt 71 46) HT_ ?_
       refine pu 46 (some 81) (tt 71 47) HT_ ?_
       refine take_ (i := 47) (N := some 82) (v := ?_) (a' := ?_) (tt 71 48) rfl rfl (take_ofW HT_.out HW_.out (by kernel_rfl)) (fun _ _ _ h => h) (Or.inl ⟨by rfl, ?_⟩) hHeld ?_ ?_
       rotate_left
       ·rintro w' ⟨hK, hD, hA, hB⟩
        have c : w'.cell? ⟨w.heap.size, 12, none⟩ = some (.slice p.A12 n12 p.c12) := by rw [← N12.out]; exact (blk_cell hK 12).trans rfl
        clear hK hD hA hB
        go_simp
        with_reducible rfl
       rotate_left
       ·simp only [Act.put, sA, sB, sC, i64_w, i32_w]
        rfl
       refine pu 48 (some 83) (tt 71 49) HT_ ?_
       refine take_ (i := 49) (N := some 84) (v := ?_) (a' := ?_) (tt 71 50) rfl rfl (take_ofW HT_.out HW_.out (by kernel_rfl)) (fun _ _ _ h => h) (Or.inl ⟨by rfl, ?_⟩) hHeld ?_ ?_
       rotate_left
       ·rintro w' ⟨hK, hD, hA, hB⟩
        have c : w'.cell? ⟨g + 1, 2, none⟩ = some (.int .i64 dd) := (blk_cell hD 2).trans rfl
        clear hK hD hA hB
        go_simp
        with_reducible rfl
       rotate_left
       ·simp only [Act.put, sA, sB, sC, i64_w, i32_w]
        rfl
       refine pu 50 (some 85) (tt 71 51) HT_ ?_
       refine take_ (i := 51) (N := some 86) (v := ?_) (a' := ?_) (tt 71 52) rfl rfl (take_ofW HT_.out HW_.out (by kernel_rfl)) (fun _ _ _ h => h) (Or.inl ⟨by rfl, ?_⟩) hHeld ?_ ?_
       rotate_left
       ·rintro w' ⟨hK, hD, hA, hB⟩
        have c : w'.cell? ⟨g + 1, 0, none⟩ = some (.int .i64 dy) := (blk_cell hD 0).trans rfl
        clear hK hD hA hB
        go_simp
        with_reducible rfl
       rotate_left
       ·simp only [Act.put, sA, sB, sC, i64_w, i32_w]
        rfl
       refine pu 52 (some 87) (tt 71 53) HT_ ?_
       refine take_ (i := 53) (N := some 88) (v := ?_) (a' := ?_) (tt 71 54) rfl rfl (take_ofW HT_.out HW_.out (by kernel_rfl)) (fun _ _ _ h => h) (Or.inl ⟨by rfl, ?_⟩) hHeld ?_ ?_
       rotate_left
       ·rintro w' ⟨hK, hD, hA, hB⟩
        have c : w'.cell? ⟨g + 1, 1, none⟩ = some (.int .i64 dm) := (blk_cell hD 1).trans rfl
        clear hK hD hA hB
        go_simp
        with_reducible rfl
       rotate_left
       ·simp only [Act.put, sA, sB, sC, i64_w, i32_w]
        rfl
       refine one_ (i := 54) (N := some 89) (tt 71 55) rfl rfl (one_of HT_.out (by kernel_rfl)) (by decide) (fun K hK => ?_)
       refine goes_ Tryz.func35 (by kernel_rfl) rfl #[.int .i64 0, .int .i64 dy, .int .i64 dm] (by rfl) rfl rfl (by (try simp only [List.map_toArray, List.map_cons, List.map_nil]); first | done | rfl) ?_
       refine (trystref01_Length.calls k 0 dy dm nm _ H11.out).mono ?_
       rintro e wn ⟨rfl, ⟨nq, rfl⟩⟩
       refine ⟨_, rfl, ?_⟩
       refine hK.out _ _ ⟨blk_drewN hHeld.1 nq, blk_drewN hHeld.2.1 nq, blk_drewN hHeld.2.2.1 nq, pw_below_drewN hHeld.2.2.2 nq⟩ (fun hHeld => ?_)
       clear hK K
       refine norm_ (a' := ?_) ?_ ?_
       rotate_left
       ·show Act.put _ (some 89) _ = _
        simp only [Act.put, sA, sB, sC, i64_w, i32_w]
        rfl
       refine one_ (i := 55) (N := some 90) (tt 71 56) rfl rfl (one_of HT_.out (by kernel_rfl)) (by decide) (fun K hK => ?_)
       refine goes_ Tryz.func44 (by kernel_rfl) rfl #[.slice p.A12 n12 p.c12, .int .i64 dd, .int .i64 nm] (by rfl) rfl rfl (by (try simp only [List.map_toArray, List.map_cons, List.map_nil]); first | done | rfl) ?_
       refine ((calls_of_args (by rw [N12.out]) (trystref14_counted.calls k p.A12 p.c12 r.l12 dd nm b12 _ (Kd.C_below OK.out.h12 hHeld.2.2.2) OK.out.d12 H12.out))).mono ?_
       rintro e wn ⟨rfl, ⟨nq, rfl⟩⟩
       refine ⟨_, rfl, ?_⟩
       refine hK.out _ _ ⟨blk_drewN hHeld.1 nq, blk_drewN hHeld.2.1 nq, blk_drewN hHeld.2.2.1 nq, pw_below_drewN hHeld.2.2.2 nq⟩ (fun hHeld => ?_)
       clear hK K
       refine norm_ (a' := ?_) ?_ ?_
       rotate_left
       ·show Act.put _ (some 90) _ = _
        simp only [Act.put, sA, sB, sC, i64_w, i32_w]
        rfl
       refine pu 56 (some 91) (tt 71 57) HT_ ?_
       refine pu 57 (some 92) (tt 71 58) HT_ ?_
       refine pu 58 (some 93) (tt 71 59) HT_ ?_
       refine pu 59 (some 94) (tt 71 60) HT_ ?_
       exact hc (_, _, _, _, _, _, _, _, _, _, _, _, _, _, _, _, _, _, ()) _ hHeld
      ·have z1 : decide ((n12 : Int) > 0) = false := decide_eq_false (by omega); have z2 : decide (0 < n12) = false := decide_eq_false z; have Z := Aside0.mk (show ¬ 0 < r.l12.length by rw [N12.out]; exact z); clear z
       rw [say0 b12 Z.out] at hc
       refine pu 41 (some 76) (tt 71 42) HT_ ?_
       refine take_ (i := 42) (N := some 77) (v := ?_) (a' := ?_) (tt 71 43) rfl rfl (take_ofW HT_.out HW_.out (by kernel_rfl)) (fun _ _ _ h => h) (Or.inl ⟨by rfl, ?_⟩) hHeld ?_ ?_
       rotate_left
       ·rintro w' ⟨hK, hD, hA, hB⟩
        have c : w'.cell? ⟨w.heap.size, 12, none⟩ = some (.slice p.A12 n12 p.c12) := by rw [← N12.out]; exact (blk_cell hK 12).trans rfl
        clear hK hD hA hB
        go_simp
        with_reducible rfl
       rotate_left
       ·simp only [Act.put, sA, sB, sC, i64_w, i32_w]
        rfl
       refine pu 43 (some 78) (tt 71 44) HT_ ?_
       refine pu 44 (some 79) (tt 71 45) HT_ ?_
       refine pu 45 (some 80) (tt 71 46) HT_ ?_
       refine puO 46 (some 81) (tt 71 47) HT_ ?_
       refine puO 47 (some 82) (tt 71 48) HT_ ?_
       refine puO 48 (some 83) (tt 71 49) HT_ ?_
       refine puO 49 (some 84) (tt 71 50) HT_ ?_
       refine puO 50 (some 85) (tt 71 51) HT_ ?_
       refine puO 51 (some 86) (tt 71 52) HT_ ?_
       refine puO 52 (some 87) (tt 71 53) HT_ ?_
       refine puO 53 (some 88) (tt 71 54) HT_ ?_
       refine puO 54 (some 89) (tt 71 55) HT_ ?_
       refine puO 55 (some 90) (tt 71 56) HT_ ?_
       refine puO 56 (some 91) (tt 71 57) HT_ ?_
       refine pu 57 (some 92) (tt 71 58) HT_ ?_
       refine pu 58 (some 93) (tt 71 59) HT_ ?_
       refine pu 59 (some 94) (tt 71 60) HT_ ?_
       exact hc (_, _, _, _, _, _, _, _, _, _, _, _, _, _, _, _, _, _, ()) _ hHeld
    rintro ⟨x76, x77, x78, x79, x80, x81, x82, x83, x84, x85, x86, x87, x88, x89, x90, x91, x92, x93, xu⟩ wz4 hHeld
    refine norm_ (a' := ?_) ?_ ?_
    rotate_left
    ·simp only [putAll]
     simp only [Act.put, sA, sB, sC, i64_w, i32_w]
     rfl
    refine join_ (σ := Value × Value × Value × Value × Value × Value × Value × Value × Value × Value × Unit) 0 (tt 71 71) (fun x => [(95, x.1), (96, x.2.1), (97, x.2.2.1), (98, x.2.2.2.1), (99, x.2.2.2.2.1), (100, x.2.2.2.2.2.1), (101, x.2.2.2.2.2.2.1), (102, x.2.2.2.2.2.2.2.1), (103, x.2.2.2.2.2.2.2.2.1), (104, x.2.2.2.2.2.2.2.2.2.1), (105, .bool (!(((((say r.l15.length hm && say r.l14.length bw) && say r.l13.length b13) && say r.l12.length b12) && say r.l11.length bd))))]) (fun x w' => (fun w' => w'.heap[w.heap.size]? = some (obj r p) ∧ w'.heap[g + 1]? = some (.cells #[.int .i64 dy, .int .i64 dm, .int .i64 dd] 61 (0, 0)) ∧ w'.heap[g]? = some (.cells #[.int .i64 ay, .int .i64 am, .int .i64 ad] 61 (0, 0)) ∧ Below w.heap.size w w') w') ?_ ?_
    rotate_left
    ·intro hc
     simp only [putAll, Act.put, List.setIfInBounds_toArray, List.set_cons_zero, List.set_cons_succ, i64_w, i32_w] at hc
     cases ha : (((say r.l15.length hm && say r.l14.length bw) && say r.l13.length b13) && say r.l12.length b12) with
     | false =>
      rw [ha] at hc
      refine puO 60 (some 95) (tt 71 61) HT_ ?_
      refine puO 61 (some 96) (tt 71 62) HT_ ?_
      refine puO 62 (some 97) (tt 71 63) HT_ ?_
      refine puO 63 (some 98) (tt 71 64) HT_ ?_
      refine puO 64 (some 99) (tt 71 65) HT_ ?_
      refine puO 65 (some 100) (tt 71 66) HT_ ?_
      refine puO 66 (some 101) (tt 71 67) HT_ ?_
      refine puO 67 (some 102) (tt 71 68) HT_ ?_
      refine puO 68 (some 103) (tt 71 69) HT_ ?_
      refine puO 69 (some 104) (tt 71 70) HT_ ?_
      refine pu 70 (some 105) (tt 71 71) HT_ ?_
      exact hc (_, _, _, _, _, _, _, _, _, _, ()) _ hHeld
     | true =>
      rw [ha] at hc
      clear ha
      by_cases z : 0 < n11
      ·have z1 : decide ((n11 : Int) > 0) = true := decide_eq_true (by omega); have z2 : decide (0 < n11) = true := decide_eq_true z; have Z := Aside0.mk (show 0 < r.l11.length by rw [N11.out]; exact z); clear z
       rw [say1 bd Z.out] at hc
       refine pu 60 (some 95) (tt 71 61) HT_ ?_
       refine take_ (i := 61) (N := some 96) (v := ?_) (a' := ?_) (tt 71 62) rfl rfl (take_ofW HT_.out HW_.out (by kernel_rfl)) (fun _ _ _ h => h) (Or.inl ⟨by rfl, ?_⟩) hHeld ?_ ?_
       rotate_left
       ·rintro w' ⟨hK, hD, hA, hB⟩
        have c : w'.cell? ⟨w.heap.size, 11, none⟩ = some (.slice p.A11 n11 p.c11) := by rw [← N11.out]; exact (blk_cell hK 11).trans rfl
        clear hK hD hA hB
        go_simp
        with_reducible rfl
       rotate_left
       ·simp only [Act.put, sA, sB, sC, i64_w, i32_w]
        rfl
       refine pu 62 (some 97) (tt 71 63) HT_ ?_
       refine pu 63 (some 98) (tt 71 64) HT_ ?_
       refine pu 64 (some 99) (tt 71 65) HT_ ?_
       refine take_ (i := 65) (N := some 100) (v := .agg (agg r p)) (a' := ?_) (tt 71 66) rfl rfl (take_ofW HT_.out HW_.out (by kernel_rfl)) (fun _ _ _ h => h) (Or.inl ⟨by rfl, fun w' hs => MatP.xR (.tmp 3) (w.heap.size) r p rfl rfl w' hs.1⟩) hHeld ?_ ?_
       rotate_left
       ·simp only [Act.put, sA, sB, sC, i64_w, i32_w]
        rfl
       refine pu 66 (some 101) (tt 71 67) HT_ ?_
       refine one_ (i := 67) (N := some 102) (tt 71 68) rfl rfl (one_of HT_.out (by kernel_rfl)) (by decide) (fun K hK => ?_)
       refine goes_ Tryz.func81 (by kernel_rfl) rfl #[.agg (agg r p), .int .i64 d] (by rfl) rfl rfl (by (try simp only [List.map_toArray, List.map_cons, List.map_nil]); first | done | rfl) ?_
       refine (daysX k r p d bd _ (OK.out.below hHeld.2.2.2) H13.out).mono ?_
       rintro e wn ⟨rfl, hb⟩
       refine ⟨_, rfl, ?_⟩
       refine hK.out _ _ ⟨blk_below hHeld.1 hb, blk_below hHeld.2.1 hb, blk_below hHeld.2.2.1 hb, below_then hHeld.2.2.2 hHeld.2.2.2.size hb⟩ (fun hHeld => ?_)
       clear hK K
       refine norm_ (a' := ?_) ?_ ?_
       rotate_left
       ·show Act.put _ (some 102) _ = _
        simp only [Act.put, sA, sB, sC, i64_w, i32_w]
        rfl
       refine pu 68 (some 103) (tt 71 69) HT_ ?_
       refine pu 69 (some 104) (tt 71 70) HT_ ?_
       refine pu 70 (some 105) (tt 71 71) HT_ ?_
       exact hc (_, _, _, _, _, _, _, _, _, _, ()) _ hHeld
      ·have z1 : decide ((n11 : Int) > 0) = false := decide_eq_false (by omega); have z2 : decide (0 < n11) = false := decide_eq_false z; have Z := Aside0.mk (show ¬ 0 < r.l11.length by rw [N11.out]; exact z); clear z
       rw [say0 bd Z.out] at hc
       refine pu 60 (some 95) (tt 71 61) HT_ ?_
       refine take_ (i := 61) (N := some 96) (v := ?_) (a' := ?_) (tt 71 62) rfl rfl (take_ofW HT_.out HW_.out (by kernel_rfl)) (fun _ _ _ h => h) (Or.inl ⟨by rfl, ?_⟩) hHeld ?_ ?_
       rotate_left
       ·rintro w' ⟨hK, hD, hA, hB⟩
        have c : w'.cell? ⟨w.heap.size, 11, none⟩ = some (.slice p.A11 n11 p.c11) := by rw [← N11.out]; exact (blk_cell hK 11).trans rfl
        clear hK hD hA hB
        go_simp
        with_reducible rfl
       rotate_left
       ·simp only [Act.put, sA, sB, sC, i64_w, i32_w]
        rfl
       refine pu 62 (some 97) (tt 71 63) HT_ ?_
       refine pu 63 (some 98) (tt 71 64) HT_ ?_
       refine pu 64 (some 99) (tt 71 65) HT_ ?_
       refine puO 65 (some 100) (tt 71 66) HT_ ?_
       refine puO 66 (some 101) (tt 71 67) HT_ ?_
       refine puO 67 (some 102) (tt 71 68) HT_ ?_
       refine puO 68 (some 103) (tt 71 69) HT_ ?_
       refine pu 69 (some 104) (tt 71 70) HT_ ?_
       refine pu 70 (some 105) (tt 71 71) HT_ ?_
       exact hc (_, _, _, _, _, _, _, _, _, _, ()) _ hHeld
    rintro ⟨x95, x96, x97, x98, x99, x100, x101, x102, x103, x104, xu⟩ wz5 hHeld
    refine norm_ (a' := ?_) ?_ ?_
    rotate_left
    ·simp only [putAll]
     simp only [Act.put, sA, sB, sC, i64_w, i32_w]
     rfl
    refine done_ (done_of HT_.out (by kernel_rfl)) ?_
    clear HT_ HW_
    try go_wp2_with fail
    go_meet
    case rel => exact ⟨by rw [show all5 r hm bw b13 b12 bd = ((((say r.l15.length hm && say r.l14.length bw) && say r.l13.length b13) && say r.l12.length b12) && say r.l11.length bd) by unfold all5; simp only [Bool.and_assoc]] <;> rfl, ⟨hHeld.1⟩, ⟨hHeld.2.1⟩, ⟨hHeld.2.2.1⟩, ⟨hHeld.2.2.2⟩⟩
   case rest =>
    clear HK HD HA HB
    obtain ⟨rfl, HK, HD, HA, HB⟩ := hcut
    cases ha : all5 r hm bw b13 b12 bd with
    | false =>
     have V := Aside0.mk ha; clear ha
     go_wp2_with fail
     go_ret
     exact ⟨by rw [fitsF_no _ V.out] <;> rfl, HB.out⟩
    | true =>
     have V := Aside0.mk (fun u => fitsF_yes (pv := pv) u O.out ha); clear ha
     obtain ⟨s1, hs1⟩ : ∃ s : Int, wrap64 ((n13 : Int) + (n12 : Int)) = s := ⟨_, rfl⟩
     obtain ⟨s2, hs2⟩ : ∃ s : Int, wrap64 (s1 + (n11 : Int)) = s := ⟨_, rfl⟩
     have q1 : s1 = (n13 : Int) + (n12 : Int) := by have := L13.out; have := L12.out; have := N13.out; have := N12.out; rw [← hs1]; unfold wrap64; omega
     have q1a : 0 ≤ s1 := by omega
     have q1b : s1 ≤ 80 := by have := L13.out; have := L12.out; have := N13.out; have := N12.out; omega
     have q2 : s2 = s1 + (n11 : Int) := by rw [← hs2]; clear hs2 hs1 q1; have := L11.out; have := N11.out; unfold wrap64; omega
     have S2 := Aside0.mk (show s2 = ((n13 + n12 + n11 : Nat) : Int) by rw [q2, q1]; push_cast; omega)
     clear q1 q1a q1b q2
     have kb13 : wc.cell? ⟨w.heap.size, 13, none⟩ = some (.slice p.A13 n13 p.c13) := by rw [← N13.out]; exact (blk_cell HK.out 13).trans rfl
     have kb12 : wc.cell? ⟨w.heap.size, 12, none⟩ = some (.slice p.A12 n12 p.c12) := by rw [← N12.out]; exact (blk_cell HK.out 12).trans rfl
     have kb11 : wc.cell? ⟨w.heap.size, 11, none⟩ = some (.slice p.A11 n11 p.c11) := by rw [← N11.out]; exact (blk_cell HK.out 11).trans rfl
     by_cases a : s2 > 0
     ·have a1 : decide (s2 > 0) = true := decide_eq_true a
      have A := Aside0.mk (show 0 < r.l13.length + r.l12.length + r.l11.length by rw [N13.out, N12.out, N11.out]; have := S2.out; omega); clear a
      go_wp2_with fail
      go_ret
      exact ⟨by rw [PV.out, V.out]; unfold usualR; rw [if_pos A.out] <;> rfl, HB.out⟩
     have a1 : decide (s2 > 0) = false := decide_eq_false a
     have A := Aside0.mk (show ¬ 0 < r.l13.length + r.l12.length + r.l11.length by rw [N13.out, N12.out, N11.out]; have := S2.out; omega); clear a
     go_wp2_with fail
     refine (trystref14_weekday.calls b wb _ H14.out).mono ?_
     rintro e wx ⟨rfl, ⟨nq, rfl⟩⟩
     replace HK := Aside0.mk (blk_drewN HK.out nq)
     replace HD := Aside0.mk (blk_drewN HD.out nq)
     replace HA := Aside0.mk (blk_drewN HA.out nq)
     replace HB := Aside0.mk (pw_below_drewN HB.out nq)
     clear kb13 kb12 kb11
     generalize wc.drewN nq = wx at HK HD HA HB ⊢
     go_wp2_with fail
     refine (trystref14_weekday.calls d wd _ H15.out).mono ?_
     rintro e wy ⟨rfl, ⟨nq, rfl⟩⟩
     replace HK := Aside0.mk (blk_drewN HK.out nq)
     replace HD := Aside0.mk (blk_drewN HD.out nq)
     replace HA := Aside0.mk (blk_drewN HA.out nq)
     replace HB := Aside0.mk (pw_below_drewN HB.out nq)
     generalize wx.drewN nq = wy at HK HD HA HB ⊢
     have k0 : wy.cell? ⟨w.heap.size, 0, none⟩ = some (.int .i64 r.a0) := (blk_cell HK.out 0).trans rfl
     have kb14 : wy.cell? ⟨w.heap.size, 14, none⟩ = some (.slice p.A14 n14 p.c14) := by rw [← N14.out]; exact (blk_cell HK.out 14).trans rfl
     have kb15 : wy.cell? ⟨w.heap.size, 15, none⟩ = some (.slice p.A15 n15 p.c15) := by rw [← N15.out]; exact (blk_cell HK.out 15).trans rfl
     have x1 : wy.cell? ⟨g, 1, none⟩ = some (.int .i64 am) := (blk_cell HA.out 1).trans rfl
     have x2 : wy.cell? ⟨g, 2, none⟩ = some (.int .i64 ad) := (blk_cell HA.out 2).trans rfl
     have y1 : wy.cell? ⟨g + 1, 1, none⟩ = some (.int .i64 dm) := (blk_cell HD.out 1).trans rfl
     have y2 : wy.cell? ⟨g + 1, 2, none⟩ = some (.int .i64 dd) := (blk_cell HD.out 2).trans rfl
     by_cases a : r.a0 = 2
     ·have a2 : (r.a0 == 2) = true := beq_iff_eq.2 a
      have b3 : (r.a0 == 3) = false := beq_eq_false_iff_ne.2 (by omega)
      have b4 : (r.a0 == 4) = false := beq_eq_false_iff_ne.2 (by omega)
      have A2 := Aside0.mk a; clear a
      go_wp2_with fail
      go_ret
      exact ⟨by rw [PV.out, V.out]; unfold usualR; rw [if_neg A.out, if_pos A2.out] <;> rfl, HB.out⟩
     have a2 : (r.a0 == 2) = false := beq_eq_false_iff_ne.2 a
     have A2 := Aside0.mk a; clear a
     by_cases a : r.a0 = 3
     ·have a3 : (r.a0 == 3) = true := beq_iff_eq.2 a
      have b2 : (r.a0 == 2) = false := beq_eq_false_iff_ne.2 (by omega)
      have b4 : (r.a0 == 4) = false := beq_eq_false_iff_ne.2 (by omega)
      have A3 := Aside0.mk a; clear a
      have A2b := A2
      go_wp2_with fail
      go_ret
      exact ⟨by rw [PV.out, V.out]; unfold usualR; rw [if_neg A.out, if_neg A2.out, if_pos A3.out] <;> rfl, HB.out⟩
     have a3 : (r.a0 == 3) = false := beq_eq_false_iff_ne.2 a
     have A3 := Aside0.mk a; clear a
     by_cases a : r.a0 = 4
     ·have a4 : (r.a0 == 4) = true := beq_iff_eq.2 a
      have b2 : (r.a0 == 2) = false := beq_eq_false_iff_ne.2 (by omega)
      have b3 : (r.a0 == 3) = false := beq_eq_false_iff_ne.2 (by omega)
      have A4 := Aside0.mk a; clear a
      by_cases z : 0 < n14
      ·have z1 : decide ((n14 : Int) > 0) = true := decide_eq_true (by omega); have z2 : decide (0 < n14) = true := decide_eq_true z; have Z := Aside0.mk (show r.a0 = 4 ∧ 0 < r.l14.length from ⟨A4.out, by rw [N14.out]; exact z⟩); clear z
       go_wp2_with fail
       go_ret
       exact ⟨by rw [PV.out, V.out]; unfold usualR; rw [if_neg A.out, if_neg A2.out, if_neg A3.out, if_pos Z.out] <;> rfl, HB.out⟩
      have z1 : decide ((n14 : Int) > 0) = false := decide_eq_false (by omega); have z2 : decide (0 < n14) = false := decide_eq_false z; have Z := Aside0.mk (show ¬ (r.a0 = 4 ∧ 0 < r.l14.length) from fun q => z (by rw [← N14.out]; exact q.2)); clear z
      by_cases c : ad = dd
      ·have c1 : (ad == dd) = true := beq_iff_eq.2 c; have C := Aside0.mk c; clear c
       by_cases z : 0 < n15
       ·have y15 : decide ((n15 : Int) > 0) = true := decide_eq_true (by omega); have y16 : decide (0 < n15) = true := decide_eq_true z; have Y := Aside0.mk (show 0 < r.l15.length by rw [N15.out]; exact z); clear z
        go_wp2_with fail
        go_ret
        exact ⟨by rw [PV.out, V.out]; unfold usualR; rw [if_neg A.out, if_neg A2.out, if_neg A3.out, if_neg Z.out, if_pos A4.out, if_pos C.out, if_pos Y.out] <;> rfl, HB.out⟩
       ·have y15 : decide ((n15 : Int) > 0) = false := decide_eq_false (by omega); have y16 : decide (0 < n15) = false := decide_eq_false z; have Y := Aside0.mk (show ¬ 0 < r.l15.length by rw [N15.out]; exact z); clear z
        go_wp2_with fail
        go_ret
        exact ⟨by rw [PV.out, V.out]; unfold usualR; rw [if_neg A.out, if_neg A2.out, if_neg A3.out, if_neg Z.out, if_pos A4.out, if_pos C.out, if_neg Y.out] <;> rfl, HB.out⟩
      ·have c1 : (ad == dd) = false := beq_eq_false_iff_ne.2 c; have C := Aside0.mk c; clear c
       go_wp2_with fail
       go_ret
       exact ⟨by rw [PV.out, V.out]; unfold usualR; rw [if_neg A.out, if_neg A2.out, if_neg A3.out, if_neg Z.out, if_pos A4.out, if_neg C.out] <;> rfl, HB.out⟩
     have a4 : (r.a0 == 4) = false := beq_eq_false_iff_ne.2 a
     have A4 := Aside0.mk a; clear a
     have Z := Aside0.mk (show ¬ (r.a0 = 4 ∧ 0 < r.l14.length) from fun q => A4.out q.1)
     go_wp2_with fail
     go_ret
     exact ⟨by rw [PV.out, V.out]; unfold usualR; rw [if_neg A.out, if_neg A2.out, if_neg A3.out, if_neg Z.out, if_neg A4.out] <;> rfl, HB.out⟩
end Go.Proofs.YtfdcldjoncednaaGreat.RefQ
