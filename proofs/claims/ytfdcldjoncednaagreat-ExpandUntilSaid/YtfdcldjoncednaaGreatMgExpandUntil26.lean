/- Texts of this claim, merged: ExL, ExR, Mr14A. -/
import Derived.Test.YtfdcldjoncednaaGreatMgExpandUntil25
import Derived.Test.YtfdcldjoncednaaGreatMgExpandUntil7
import Derived.Test.YtfdcldjoncednaaGreatMgExpandUntil14
import Derived.Test.YtfdcldjoncednaaGreatMgExpandUntil24
/- What the laws of expand share: the first look, the rule's size, what Until answers of what is asked wrongly. -/
namespace Go.Proofs.YtfdcldjoncednaaGreat.ExL
open Go.RowKit Go.Proofs.YtfdcldjoncednaaGreatW.PrintWords Go.Proofs.YtfdcldjoncednaaGreatW.PrintLast Go.Proofs.YtfdcldjoncednaaGreat.M Go.Proofs.YtfdcldjoncednaaGreat.Cal Go.Proofs.YtfdcldjoncednaaGreat.FunA Go.Proofs.YtfdcldjoncednaaGreat.FunB Go.Proofs.YtfdcldjoncednaaGreat.Ru Go.Proofs.YtfdcldjoncednaaGreat.MatD Go.Proofs.YtfdcldjoncednaaGreat.MatP Go.Proofs.YtfdcldjoncednaaGreat.MatF Go.Proofs.YtfdcldjoncednaaGreat.MatG Go.Proofs.YtfdcldjoncednaaGreat.MatS Go.Proofs.YtfdcldjoncednaaGreat.RefF Go.Proofs.YtfdcldjoncednaaGreat.RecG Go.Proofs.YtfdcldjoncednaaGreat.ExD Go.Proofs.YtfdcldjoncednaaGreat.ExO Go.Proofs.YtfdcldjoncednaaGreat.ExS Go.Proofs.YtfdcldjoncednaaGreat.ExT Go.Proofs.YtfdcldjoncednaaGreat.ExE Go.Proofs.YtfdcldjoncednaaGreat.ExI Go.Proofs.YtfdcldjoncednaaGreat.ExU Go.Proofs.YtfdcldjoncednaaGreat.PureE Go.Proofs.YtfdcldjoncednaaGreat.ExB
set_option linter.unusedVariables false
set_option linter.unusedSimpArgs false
theorem fewX (r : Ru) (p : Rp) (w : World) : Calls Tryz.prog 7 #[.agg (agg r p)] w fun e w' => e = .returned (.bool (RefW.few r.l11.length r.l8.length r.l9.length r.l10.length r.l12.length r.l13.length r.l14.length r.l15.length r.l16.length)) ∧ Below w.heap.size w w' :=
 RefW.few_ r.a0 r.a1 r.a2 r.a3 r.a4 r.a5 r.a6 r.a7 p.A8 p.c8 r.l8 p.A9 p.c9 r.l9 p.A10 p.c10 r.l10 p.A11 p.c11 r.l11 p.A12 p.c12 r.l12 p.A13 p.c13 r.l13 p.A14 p.c14 r.l14 p.A15 p.c15 r.l15 p.A16 p.c16 r.l16 w
/-- At how many seconds of a day a rule may mean something. -/
def pd (r : Ru) : Int := wrap64 ((wrap64 ((mx 1 (r.l10.length : Int)) * (mx 1 (r.l9.length : Int)))) * (mx 1 (r.l8.length : Int)))
theorem perX (r : Ru) (p : Rp) (w : World) (ok : Ok r p w) : Calls Tryz.prog 14 #[.agg (agg r p)] w fun e w' => e = .returned (.int .i64 (pd r)) ∧ Below w.heap.size w w' :=
 trystlaw13_PerDay.calls r.a0 r.a1 r.a2 r.a3 r.a4 r.a5 r.a6 r.a7 p.A8 p.c8 r.l8 p.A9 p.c9 r.l9 p.A10 p.c10 r.l10 p.A11 p.c11 r.l11 p.A12 p.c12 r.l12 p.A13 p.c13 r.l13 p.A14 p.c14 r.l14 p.A15 p.c15 r.l15 p.A16 p.c16 r.l16 (pd r) w ok.h8 ok.d8 ok.h9 ok.d9 ok.h10 ok.d10 ok.h11 ok.d11 ok.h12 ok.d12 ok.h13 ok.d13 ok.h14 ok.d14 ok.h15 ok.d15 ok.h16 ok.d16 rfl
/-- The rule of the first look. -/
abbrev r0 : Ru := ⟨1, 1, 0, 0, 0, ⟨#[]⟩, false, 0, [], [], [], [], [], [], [], [], []⟩
abbrev p0 : Rp := ⟨none, 0, none, 0, none, 0, none, 0, none, 0, none, 0, none, 0, none, 0, none, 0⟩
theorem ok0 (w : World) : Ok r0 p0 w := ⟨Kd.C_nil _ _, Nat.le_refl _, Kd.C_nil _ _, Nat.le_refl _, Kd.C_nil _ _, Nat.le_refl _, Kd.C_nil _ _, Nat.le_refl _, Kd.C_nil _ _, Nat.le_refl _, Kd.C_nil _ _, Nat.le_refl _, Kd.C_nil _ _, Nat.le_refl _, Kd.C_nil _ _, Nat.le_refl _, Kd.C_nil _ _, Nat.le_refl _⟩
theorem LL0 (i : Nat) : LL r0 i = [] := by unfold LL; split <;> rfl
theorem frm0 (rt : Bool) : frmB r0 rt = true := by
 unfold frmB
 have h1 : grd r0 = true := rfl
 have h2 : untl r0 rt = true := by
  unfold untl
  rw [if_neg (by simp)]
  show (_ && (_ && ((⟨#[]⟩ : ByteArray).toList == _))) = _
  rw [ByteArray.toList_eq]; rfl
 have h3 : all8 r0 = true := all8_yes fun j hj => by
  unfold formL
  rw [LL0]; rfl
 have h4 : daysB r0.l11 = true := rfl
 have h5 : last r0 (oth r0 8) = true := by
  rw [oth_eq]; rfl
 rw [h1, h2, h3, h4, h5]; rfl
theorem v0 {k : Nat} {X Y : MatD.Fa} {v : Bool} (h : FitsOk k r0 X Y v) (x0 : 0 ≤ X.day) (hy : X.day ≤ Y.day) (y9 : Y.day ≤ 3652059) : v = true := by
 obtain ⟨w1, w2, y, n, e1, t, e2, hm, b14, b13, b12, _, _, _, _, _, _, _, _, _, _, _, _, rfl⟩ := h
 have hp : perF r0 X Y w1 w2 = Y.day - X.day := by
  unfold perF
  rw [if_pos rfl, w64 (by omega) (by omega)]
 rw [hp]
 obtain ⟨n, hn⟩ : ∃ n : Nat, Y.day - X.day = (n : Int) := ⟨(Y.day - X.day).toNat, by omega⟩
 rw [hn]
 unfold fitsF
 have ho : off (n : Int) r0.a1 = false := by
  unfold off
  show (decide ((n : Int) < 0) || _) = false
  rw [decide_eq_false (by omega)]
  simp
 rw [ho]
 rfl
theorem sp0 {k : Nat} {n f l e : Int} (h : SpOk k r0 true 1 n f l e) (n0 : 0 ≤ n) (n1 : n ≤ 10) : f = 1 + n ∧ l = 1 + n ∧ e = 0 := by
 have a0 : askF true [1] = 0 := by rfl
 cases h with
 | ask e he ne => exact absurd (he.symm.trans a0) ne
 | far he hn => omega
 | ok y m dd ee r1 r2 f l he h hd b1 b2 _ _ y1 y2 hfe hle_ hle =>
  cases h with
  | day c => subst hfe; subst hle_; refine ⟨?_, ?_, rfl⟩ <;> split <;> omega
  | week _ c => exact absurd c (by decide)
  | month _ _ c => exact absurd c (by decide)
  | year _ _ c => exact absurd c (by decide)
  | none c => exact absurd c (by decide)
 | none y m dd ee r1 r2 f l he h hd b1 b2 _ _ y1 y2 hfe hle_ hgt =>
  cases h with
  | day c => subst hfe; subst hle_; split at hgt <;> split at hgt <;> omega
  | week _ c => exact absurd c (by decide)
  | month _ _ c => exact absurd c (by decide)
  | year _ _ c => exact absurd c (by decide)
  | none c => exact absurd c (by decide)
theorem tim0 {B : Fa} {sf sl se : Int → Int} {fit : Int → Bool} {k : Nat} (h : Has r0 86400 1 0 B sf sl se fit k) (hk : 130 ≤ k) (n : Int) (n0 : 0 ≤ n) (n1 : n ≤ 10) : timL r0 sf sl se fit 0 n = [86400 * (1 + n)] := by
 obtain ⟨e1, e2, e3⟩ := sp0 (h.sp n) n0 n1
 obtain ⟨X, hX, hF⟩ := h.ft (1 + n) ⟨by omega, by omega⟩
 obtain ⟨y, m, dd, _, _, _, _, ey⟩ := dateP k hk (1 + n) ⟨by omega, by omega⟩
 have hd : X.day = 1 + n := by
  have : match_of.f k (1 + n) = some (X.day, X.y, X.m, X.d, X.wd, X.mn, X.mo, X.yn, X.yo) := hX
  rw [ey] at this
  exact ((Prod.mk.inj (Option.some.inj this)).1).symm
 have hv := v0 hF (by rw [h.bday]; omega) (by rw [h.bday, hd]; omega) (by rw [hd]; omega)
 have hdays : daysL fit (sf n) (sl n) = [1 + n] := by
  unfold daysL
  rw [e1, e2, show (1 + n + 1 - (1 + n)).toNat = 1 by omega]
  simp [dayG, hv]
 have hs : secL r0 0 = [0] := by
  unfold secL
  simp [orL, allH, blkM, rowS, secV, rd, rdOf, w64]
 unfold timL
 rw [if_neg (by omega), if_neg (by show ¬ Int.tmod n 1 ≠ 0; rw [Int.tmod_eq_emod_of_nonneg n0]; omega), if_neg (by omega), hdays, hs]
 have ht : timV (1 + n) 0 = 86400 * (1 + n) := by unfold timV; rw [w64 (x := (1 + n) * 86400) (by omega) (by omega), w64 (by omega) (by omega)]; omega
 unfold choT choL
 rw [if_pos (show r0.l16.length = 0 from rfl)]
 simp [allT, dayT, rd, rdOf, ht]
theorem inner1 (b last t left : Int) (h1 : b < t) (h2 : t ≤ last) (h3 : left ≠ 0) (h4 : -100 ≤ left) (h5 : left ≤ 100) : inner b last [t] left = ([t], left - 1, false) := by
 unfold inner
 rw [if_neg (by omega), if_neg (by omega), w64 (x := left - 1) (by omega) (by omega)]
 rfl
theorem each0 {B : Fa} {sf sl se : Int → Int} {fit : Int → Bool} {k : Nat} (h : Has r0 86400 1 0 B sf sl se fit k) (hk : 130 ≤ k) (K : Nat) : eachL 86400 432000 1 sf se (timL r0 sf sl se fit 0) (K + 6) 0 (-1) = some [172800, 259200, 345600, 432000] := by
 have t := fun n n0 n1 => tim0 h hk n n0 n1
 have s := fun n n0 n1 => sp0 (h.sp n) n0 n1
 have t0 := t 0 (by omega) (by omega); have t1 := t 1 (by omega) (by omega); have t2 := t 2 (by omega) (by omega); have t3 := t 3 (by omega) (by omega); have t4 := t 4 (by omega) (by omega)
 have s0 := s 0 (by omega) (by omega); have s1 := s 1 (by omega) (by omega); have s2 := s 2 (by omega) (by omega); have s3 := s 3 (by omega) (by omega); have s4 := s 4 (by omega) (by omega); have s5 := s 5 (by omega) (by omega)
 generalize timL r0 sf sl se fit 0 = tm at *
 have step : ∀ (K : Nat) (n left : Int) (T : List Int) (o : List Int) (left' : Int), sf n = 1 + n → se n = 0 → 0 ≤ n → n ≤ 10 → left ≠ 0 → tm n = T → ¬ 86400 * (1 + n) > 432000 → inner 86400 432000 T left = (o, left', false) → eachL 86400 432000 1 sf se tm (K + 1) n left = (eachL 86400 432000 1 sf se tm K (n + 1) left').map (o ++ ·) := by
  intro K n left T o left' h1 h2 h3 h4 h5 h6 h7 h8
  rw [eachL, if_neg h5, if_neg (by rw [h1, w64 (x := (1 + n) * 86400) (by omega) (by omega)]; omega), h6, h8]
  rw [if_neg (by simp), w64 (x := n + 1) (by omega) (by omega)]
 rw [step (K + 5) 0 (-1) [86400] [] (-1) s0.1 s0.2.2 (by omega) (by omega) (by omega) (by rw [t0]; rfl) (by omega) (by unfold inner; rw [if_pos (by omega)]; rfl)]
 rw [step (K + 4) (0 + 1) (-1) [172800] [172800] (-2) s1.1 s1.2.2 (by omega) (by omega) (by omega) (by rw [show (0 : Int) + 1 = 1 from rfl, t1]; rfl) (by omega) (inner1 86400 432000 172800 (-1) (by omega) (by omega) (by omega) (by omega) (by omega))]
 rw [step (K + 3) (0 + 1 + 1) (-2) [259200] [259200] (-3) s2.1 s2.2.2 (by omega) (by omega) (by omega) (by rw [show (0 : Int) + 1 + 1 = 2 from rfl, t2]; rfl) (by omega) (inner1 86400 432000 259200 (-2) (by omega) (by omega) (by omega) (by omega) (by omega))]
 rw [step (K + 2) (0 + 1 + 1 + 1) (-3) [345600] [345600] (-4) s3.1 s3.2.2 (by omega) (by omega) (by omega) (by rw [show (0 : Int) + 1 + 1 + 1 = 3 from rfl, t3]; rfl) (by omega) (inner1 86400 432000 345600 (-3) (by omega) (by omega) (by omega) (by omega) (by omega))]
 rw [step (K + 1) (0 + 1 + 1 + 1 + 1) (-4) [432000] [432000] (-5) s4.1 s4.2.2 (by omega) (by omega) (by omega) (by rw [show (0 : Int) + 1 + 1 + 1 + 1 = 4 from rfl, t4]; rfl) (by omega) (inner1 86400 432000 432000 (-4) (by omega) (by omega) (by omega) (by omega) (by omega))]
 have e : eachL 86400 432000 1 sf se tm (K + 1) (0 + 1 + 1 + 1 + 1 + 1) (-5) = some [] := by
  rw [eachL, if_neg (by omega), if_pos (Or.inr (by rw [show (0 : Int) + 1 + 1 + 1 + 1 + 1 = 5 from rfl, s5.1, w64 (by omega) (by omega)]; omega))]
 rw [e]
 rfl
set_option maxHeartbeats 4000000 in
set_option maxRecDepth 100000 in
theorem awake (w : World) : Calls Tryz.prog 13 #[] w fun e w' => e = .returned (.bool true) ∧ Below w.heap.size w w' := by
 obtain ⟨rt, hrt⟩ := both r0 (by decide)
 have hf := (hrt 300 (by decide)).2
 rw [frm0] at hf
 obtain ⟨B, sf, sl, se, fit, hH⟩ := has_ r0 rt 300 (by omega) (frm0 rt) hf 86400 (by omega) (by omega)
 have hr : clock_Right.f 86400 = some true := by rw [Right.cRight]; rfl
 replace hH : Has r0 86400 1 0 B sf sl se fit 300 := hH
 have hE := each0 hH (by omega) 0
 have hE : eachL 86400 (endF r0 432000) r0.a1 sf se (timL r0 sf sl se fit 0) (0 + 6) 0 (wrap64 (r0.a2 - 1)) = some [172800, 259200, 345600, 432000] := by
  rw [show endF r0 432000 = 432000 from rfl, show wrap64 (r0.a2 - 1) = -1 from w64 (x := 0 - 1) (by omega) (by omega)]; exact hE
 have U := Aside0.mk (fun w => until_ hH hr p0 432000 3 _ (0 + 6) hE (Or.inr (by omega)) (by omega) w (ok0 w))
 clear hrt hf hH hr hE
 go_enter Tryz.func13, Tryz.ntmps13
 go_wp2_with fail
 refine (U.out w).mono ?_
 rintro e w1 ⟨⟨A, c, rfl, hC, hc⟩, hb⟩
 have e1 : (allU 86400 432000 [172800, 259200, 345600, 432000]).take (3 : Int).toNat = [86400, 172800, 259200] := by decide
 have e2 : decide ((3 : Int) < ((allU 86400 432000 [172800, 259200, 345600, 432000]).length : Int)) = true := by decide
 rw [e1] at hC hc ⊢
 rw [e2]
 have HB := Aside0.mk hb
 obtain ⟨ad, rfl, hx⟩ := Kd.at_int hC 2 (by omega) (by decide)
 rw [show rd [86400, 172800, 259200] 2 = 259200 from rfl] at hx
 replace hx : w1.cell? ⟨ad.block, ad.off + 2, none⟩ = some (.int .i64 259200) := hx
 clear hb hC hc U e1 e2
 go_wp2_with fail
 go_ret
 exact ⟨rfl, HB.out⟩
end Go.Proofs.YtfdcldjoncednaaGreat.ExL
/- What a formed rule means rises: plain. -/
namespace Go.Proofs.YtfdcldjoncednaaGreat.ExR
open Go.RowKit Go.Proofs.YtfdcldjoncednaaGreatW.PrintWords Go.Proofs.YtfdcldjoncednaaGreatW.PrintLast Go.Proofs.YtfdcldjoncednaaGreat.M Go.Proofs.YtfdcldjoncednaaGreat.Cal Go.Proofs.YtfdcldjoncednaaGreat.FunA Go.Proofs.YtfdcldjoncednaaGreat.FunB Go.Proofs.YtfdcldjoncednaaGreat.FunC Go.Proofs.YtfdcldjoncednaaGreat.Ru Go.Proofs.YtfdcldjoncednaaGreat.MatD Go.Proofs.YtfdcldjoncednaaGreat.MatP Go.Proofs.YtfdcldjoncednaaGreat.MatG Go.Proofs.YtfdcldjoncednaaGreat.MatS Go.Proofs.YtfdcldjoncednaaGreat.RecG Go.Proofs.YtfdcldjoncednaaGreat.ExO Go.Proofs.YtfdcldjoncednaaGreat.ExS Go.Proofs.YtfdcldjoncednaaGreat.ExT Go.Proofs.YtfdcldjoncednaaGreat.ExE Go.Proofs.YtfdcldjoncednaaGreat.ExI Go.Proofs.YtfdcldjoncednaaGreat.PureE Go.Proofs.YtfdcldjoncednaaGreat.ExB
set_option linter.unusedVariables false
set_option linter.unusedSimpArgs false
abbrev Up (l : List Int) : Prop := l.Pairwise (· < ·)
theorem Nums.lt {lo hi : Int} {l : List Int} (h : Nums lo hi l) : ∀ (d i : Nat), i + d + 1 < l.length → rd l (i : Int) < rd l ((i + d + 1 : Nat) : Int)
 | 0, i, hl => h.up i hl
 | d + 1, i, hl => Int.lt_trans (Nums.lt h d i (by omega)) (h.up (i + d + 1) hl)
theorem Nums.lt' {lo hi : Int} {l : List Int} (h : Nums lo hi l) {i j : Nat} (hij : i < j) (hj : j < l.length) : rd l (i : Int) < rd l (j : Int) := by
 have := Nums.lt h (j - i - 1) i (by omega)
 rwa [show i + (j - i - 1) + 1 = j by omega] at this
theorem nums_or {lo hi n : Int} {l : List Int} (h : Nums lo hi l) (h0 : lo ≤ n) (h1 : n ≤ hi) : Nums lo hi (orL l n) := by
 unfold orL
 split
 ·have e : ∀ j : Nat, j < [n].length → rd [n] (j : Int) = n := fun j hj => by
   have : j = 0 := by simp at hj; omega
   subst this; rfl
  exact ⟨by simp, fun j hj => by rw [e j hj]; exact h0, fun j hj => by rw [e j hj]; exact h1, fun j hj => by simp at hj⟩
 ·exact h
theorem up_add {l m : List Int} (h : Up l) (k : Up m) (c : ∀ a ∈ l, ∀ b ∈ m, a < b) : Up (l ++ m) := List.pairwise_append.2 ⟨h, k, c⟩
theorem secV_ {h m x : Int} (h0 : 0 ≤ h) (h1 : h ≤ 23) (m0 : 0 ≤ m) (m1 : m ≤ 59) (x0 : 0 ≤ x) (x1 : x ≤ 59) : secV h m x = 3600 * h + 60 * m + x := by
 unfold secV
 rw [w64 (x := 3600 * h) (by omega) (by omega), w64 (x := 60 * m) (by omega) (by omega), w64 (x := 3600 * h + 60 * m) (by omega) (by omega), w64 (by omega) (by omega)]
theorem rowS_up {h m : Int} {S : List Int} (h0 : 0 ≤ h) (h1 : h ≤ 23) (m0 : 0 ≤ m) (m1 : m ≤ 59) (hS : Nums 0 59 S) : ∀ q, q ≤ S.length → Up (rowS h m S q) ∧ ∀ x ∈ rowS h m S q, ∃ i, i < q ∧ x = 3600 * h + 60 * m + rd S (i : Int) := by
 intro q
 induction q with
 | zero => intro _; exact ⟨List.Pairwise.nil, fun x hx => by cases hx⟩
 | succ q ih =>
  intro hq
  obtain ⟨a, c⟩ := ih (by omega)
  have e := secV_ h0 h1 m0 m1 (hS.ge q (by omega)) (hS.le q (by omega))
  rw [rowS, e]
  refine ⟨up_add a (List.pairwise_singleton _ _) (fun x hx y hy => ?_), fun x hx => ?_⟩
  ·obtain ⟨i, hi, rfl⟩ := c x hx
   rw [List.mem_singleton.1 hy]
   have := Nums.lt' hS hi (by omega); omega
  ·rcases List.mem_append.1 hx with hx | hx
   ·obtain ⟨i, hi, rfl⟩ := c x hx; exact ⟨i, by omega, rfl⟩
   ·exact ⟨q, by omega, List.mem_singleton.1 hx⟩
theorem blkM_up {h : Int} {M S : List Int} (h0 : 0 ≤ h) (h1 : h ≤ 23) (hM : Nums 0 59 M) (hS : Nums 0 59 S) : ∀ q, q ≤ M.length → Up (blkM h M S q) ∧ ∀ x ∈ blkM h M S q, ∃ i j : Nat, i < q ∧ j < S.length ∧ x = 3600 * h + 60 * rd M (i : Int) + rd S (j : Int) := by
 intro q
 induction q with
 | zero => intro _; exact ⟨List.Pairwise.nil, fun x hx => by cases hx⟩
 | succ q ih =>
  intro hq
  obtain ⟨a, c⟩ := ih (by omega)
  obtain ⟨a2, c2⟩ := rowS_up h0 h1 (hM.ge q (by omega)) (hM.le q (by omega)) hS S.length (Nat.le_refl _)
  rw [blkM]
  refine ⟨up_add a a2 (fun x hx y hy => ?_), fun x hx => ?_⟩
  ·obtain ⟨i, j, hi, hj, rfl⟩ := c x hx
   obtain ⟨j', hj', rfl⟩ := c2 y hy
   have := Nums.lt' hM hi (by omega)
   have := hS.le j hj; have := hS.ge j' hj'; omega
  ·rcases List.mem_append.1 hx with hx | hx
   ·obtain ⟨i, j, hi, hj, rfl⟩ := c x hx; exact ⟨i, j, by omega, hj, rfl⟩
   ·obtain ⟨j, hj, rfl⟩ := c2 x hx; exact ⟨q, j, by omega, hj, rfl⟩
theorem allH_up {H M S : List Int} (hH : Nums 0 23 H) (hM : Nums 0 59 M) (hS : Nums 0 59 S) : ∀ q, q ≤ H.length → Up (allH H M S q) ∧ ∀ x ∈ allH H M S q, ∃ o i j : Nat, o < q ∧ i < M.length ∧ j < S.length ∧ x = 3600 * rd H (o : Int) + 60 * rd M (i : Int) + rd S (j : Int) := by
 intro q
 induction q with
 | zero => intro _; exact ⟨List.Pairwise.nil, fun x hx => by cases hx⟩
 | succ q ih =>
  intro hq
  obtain ⟨a, c⟩ := ih (by omega)
  obtain ⟨a2, c2⟩ := blkM_up (hH.ge q (by omega)) (hH.le q (by omega)) hM hS M.length (Nat.le_refl _)
  rw [allH]
  refine ⟨up_add a a2 (fun x hx y hy => ?_), fun x hx => ?_⟩
  ·obtain ⟨o, i, j, ho, hi, hj, rfl⟩ := c x hx
   obtain ⟨i', j', hi', hj', rfl⟩ := c2 y hy
   have := Nums.lt' hH ho (by omega)
   have := hS.le j hj; have := hS.ge j' hj'; have := hM.le i hi; have := hM.ge i' hi'; omega
  ·rcases List.mem_append.1 hx with hx | hx
   ·obtain ⟨o, i, j, ho, hi, hj, rfl⟩ := c x hx; exact ⟨o, i, j, by omega, hi, hj, rfl⟩
   ·obtain ⟨i, j, hi, hj, rfl⟩ := c2 x hx; exact ⟨q, i, j, by omega, hi, hj, rfl⟩
theorem secL_up {r : Ru} (f : Full r) {s : Int} (s0 : 0 ≤ s) (s1 : s < 86400) : Up (secL r s) ∧ ∀ x ∈ secL r s, 0 ≤ x ∧ x < 86400 := by
 have nH := nums_or (n := s / 3600) f.l10 (by omega) (by omega)
 have nM := nums_or (n := s / 60 % 60) f.l9 (by omega) (by omega)
 have nS := nums_or (n := s % 60) f.l8 (by omega) (by omega)
 obtain ⟨a, c⟩ := allH_up nH nM nS _ (Nat.le_refl _)
 refine ⟨a, fun x hx => ?_⟩
 obtain ⟨o, i, j, ho, hi, hj, rfl⟩ := c x hx
 have := nH.ge o ho; have := nH.le o ho; have := nM.ge i hi; have := nM.le i hi; have := nS.ge j hj; have := nS.le j hj
 omega
theorem dayG_up (fit : Int → Bool) (f : Int) : ∀ i, Up (dayG fit f i) ∧ ∀ x ∈ dayG fit f i, f ≤ x ∧ x < f + i
 | 0 => ⟨List.Pairwise.nil, fun x hx => by cases hx⟩
 | i + 1 => by
  obtain ⟨a, c⟩ := dayG_up fit f i
  unfold dayG
  split
  ·refine ⟨up_add a (List.pairwise_singleton _ _) (fun x hx y hy => ?_), fun x hx => ?_⟩
   ·rw [List.mem_singleton.1 hy]; exact (c x hx).2
   ·rcases List.mem_append.1 hx with hx | hx
    ·have := c x hx; omega
    ·rw [List.mem_singleton.1 hx]; omega
  ·exact ⟨a, fun x hx => by have := c x hx; omega⟩
theorem up_rd {l : List Int} (h : Up l) {i j : Nat} (hij : i < j) (hj : j < l.length) : rd l (i : Int) < rd l (j : Int) := by
 rw [rd_get l hj, rd_get l (show i < l.length by omega)]
 exact List.pairwise_iff_getElem.1 h i j (by omega) hj hij
theorem rd_mem {l : List Int} {i : Nat} (h : i < l.length) : rd l (i : Int) ∈ l := by rw [rd_get l h]; exact List.getElem_mem h
theorem timV_ {d x : Int} (d0 : -1 ≤ d) (d1 : d ≤ 3652060) (x0 : 0 ≤ x) (x1 : x < 86400) : timV d x = 86400 * d + x := by
 unfold timV
 rw [w64 (x := d * 86400) (by omega) (by omega), w64 (by omega) (by omega)]; omega
theorem dayT_up {d : Int} {D : List Int} (d0 : 1 ≤ d) (d1 : d ≤ 3652059) (hD : Up D) (h : ∀ x ∈ D, 0 ≤ x ∧ x < 86400) : ∀ q, q ≤ D.length → Up (dayT d D q) ∧ ∀ x ∈ dayT d D q, ∃ i, i < q ∧ x = 86400 * d + rd D (i : Int) := by
 intro q
 induction q with
 | zero => intro _; exact ⟨List.Pairwise.nil, fun x hx => by cases hx⟩
 | succ q ih =>
  intro hq
  obtain ⟨a, c⟩ := ih (by omega)
  have b := h _ (rd_mem (l := D) (i := q) (by omega))
  rw [dayT, timV_ (by omega) (by omega) b.1 b.2]
  refine ⟨up_add a (List.pairwise_singleton _ _) (fun x hx y hy => ?_), fun x hx => ?_⟩
  ·obtain ⟨i, hi, rfl⟩ := c x hx
   rw [List.mem_singleton.1 hy]
   have := up_rd hD hi (by omega); omega
  ·rcases List.mem_append.1 hx with hx | hx
   ·obtain ⟨i, hi, rfl⟩ := c x hx; exact ⟨i, by omega, rfl⟩
   ·exact ⟨q, by omega, List.mem_singleton.1 hx⟩
theorem allT_up {L D : List Int} (hL : Up L) (l : ∀ d ∈ L, 1 ≤ d ∧ d ≤ 3652059) (hD : Up D) (h : ∀ x ∈ D, 0 ≤ x ∧ x < 86400) : ∀ q, q ≤ L.length → Up (allT L D q) ∧ ∀ x ∈ allT L D q, ∃ i j : Nat, i < q ∧ j < D.length ∧ x = 86400 * rd L (i : Int) + rd D (j : Int) := by
 intro q
 induction q with
 | zero => intro _; exact ⟨List.Pairwise.nil, fun x hx => by cases hx⟩
 | succ q ih =>
  intro hq
  obtain ⟨a, c⟩ := ih (by omega)
  have b := l _ (rd_mem (l := L) (i := q) (by omega))
  obtain ⟨a2, c2⟩ := dayT_up b.1 b.2 hD h D.length (Nat.le_refl _)
  rw [allT]
  refine ⟨up_add a a2 (fun x hx y hy => ?_), fun x hx => ?_⟩
  ·obtain ⟨i, j, hi, hj, rfl⟩ := c x hx
   obtain ⟨j', hj', rfl⟩ := c2 y hy
   have := up_rd hL hi (by omega)
   have := h _ (rd_mem (l := D) hj); have := h _ (rd_mem (l := D) hj'); omega
  ·rcases List.mem_append.1 hx with hx | hx
   ·obtain ⟨i, j, hi, hj, rfl⟩ := c x hx; exact ⟨i, j, by omega, hj, rfl⟩
   ·obtain ⟨j, hj, rfl⟩ := c2 x hx; exact ⟨q, j, by omega, hj, rfl⟩
theorem selG_sub (sel : Nat → Bool) (T : List Int) : ∀ i, i ≤ T.length → (selG sel T i).Sublist (T.take i)
 | 0, _ => by simp [selG]
 | i + 1, h => by
  have a := selG_sub sel T i (by omega)
  have e : T.take (i + 1) = T.take i ++ [rd T (i : Int)] := by rw [rd_get T (show i < T.length by omega), ← List.take_append_getElem (show i < T.length by omega)]
  rw [e, selG]
  split
  ·exact a.append (List.Sublist.refl _)
  ·exact a.trans (List.sublist_append_left _ _)
theorem choT_sub (ps T : List Int) : (choT ps T).Sublist T := by
 unfold choT choL
 split
 ·exact List.Sublist.refl _
 ·have := selG_sub (selP ps T) T T.length (Nat.le_refl _)
  rwa [List.take_length] at this
theorem tim_up {r : Ru} {b dy s : Int} {B : Fa} {sf sl se : Int → Int} {fit : Int → Bool} {k : Nat} (h : Has r b dy s B sf sl se fit k) (n : Int) : Up (timL r sf sl se fit s n) ∧ ∀ x ∈ timL r sf sl se fit s n, 86400 * sf n ≤ x ∧ x < 86400 * (sl n + 1) := by
 have none : Up ([] : List Int) ∧ ∀ x ∈ ([] : List Int), 86400 * sf n ≤ x ∧ x < 86400 * (sl n + 1) := ⟨List.Pairwise.nil, fun x hx => by cases hx⟩
 unfold timL
 split; · exact none
 split; · exact none
 split; · exact none
 rename_i e
 obtain ⟨q1, q2, q3, q4⟩ := h.ok n (Decidable.not_not.1 e)
 obtain ⟨d1, d2⟩ := dayG_up fit (sf n) (sl n + 1 - sf n).toNat
 obtain ⟨s1, s2⟩ := secL_up h.full h.s0 h.s1
 have dd : ∀ d ∈ daysL fit (sf n) (sl n), sf n ≤ d ∧ d ≤ sl n := fun d hd => by have := d2 d hd; omega
 obtain ⟨a, c⟩ := allT_up (L := daysL fit (sf n) (sl n)) d1 (fun d hd => by have := dd d hd; omega) s1 s2 _ (Nat.le_refl _)
 refine ⟨List.Pairwise.sublist (choT_sub _ _) a, fun x hx => ?_⟩
 obtain ⟨i, j, hi, hj, rfl⟩ := c x ((choT_sub _ _).subset hx)
 have := dd _ (rd_mem hi); have := s2 _ (rd_mem hj); omega
/-- The day ahead of a month's first. -/
def mnF (q : Int) : Int := ah (q / 12) + cum (lp (q / 12)) (q % 12 + 1)
theorem mnF_lt {p q : Int} (h : p < q) : mnF p + dim (lp (p / 12)) (p % 12 + 1) ≤ mnF q := by
 have hl := lp_01 (p / 12)
 have cs := cum_succ (lp (p / 12)) (p % 12 + 1) (by omega) (by omega)
 unfold mnF
 by_cases c : p / 12 = q / 12
 ·have := cum_le (l := lp (p / 12)) (a := p % 12 + 1 + 1) (b := q % 12 + 1) hl (by omega) (by omega) (by omega)
  rw [← c]; omega
 ·have ce := cum_le (l := lp (p / 12)) (a := p % 12 + 1 + 1) (b := 13) hl (by omega) (by omega) (by omega)
  rw [cum_end] at ce
  have asu := ah_succ (p / 12)
  have al := ah_le (show p / 12 + 1 ≤ q / 12 by omega)
  have cb := cum_bd (l := lp (q / 12)) (m := q % 12 + 1) (lp_01 _) (by omega) (by omega)
  omega
/-- A later period lies behind. -/
theorem spans {r : Ru} {k : Nat} (hk : 130 ≤ k) {b n n' f l f' l' : Int} (h : SpOk k r true b n f l 0) (h' : SpOk k r true b n' f' l' 0) (hn : n < n') : l < f' := by
 cases h with
 | ask _ _ ne => exact absurd rfl ne
 | ok y m dd e r1 r2 f l he h hd b1 b2 n1 n2 y1 y2 hfe hle_ hle =>
  cases h' with
  | ask _ _ ne => exact absurd rfl ne
  | ok y_ m_ dd_ e_ r1' r2' f' l' he' h' hd' _ _ n1' n2' _ _ hfe' hle_' hle' =>
   rw [hd] at hd'
   have e1 := Option.some.inj hd'
   obtain ⟨rfl, rfl, rfl, rfl⟩ : y = y_ ∧ m = m_ ∧ dd = dd_ ∧ e = e_ := by simpa [Prod.mk.injEq] using e1
   have key : r1 ≤ r2 → r1' ≤ r2' → 1 ≤ r2 → 1 ≤ r2' → r2 < r1' := by
    obtain ⟨m', d', ed, iy⟩ := rDate_yes k (by omega) b ⟨b1, b2⟩
    rw [ed] at hd
    obtain ⟨hy, rfl, rfl, _⟩ : yr b = y ∧ m' = m ∧ d' = dd ∧ 0 = e := by simpa [Prod.mk.injEq] using Option.some.inj hd
    rw [hy] at iy
    have m1 := iy.m1; have m2 := iy.m2
    intro g1 g2 g3 g4
    cases h with
    | day c => cases h' with
     | day c' => omega
     | week _ c' => omega
     | month _ _ c' => omega
     | year _ _ c' => omega
     | none c' => omega
    | week wk c hw => cases h' with
     | day c' => omega
     | week wk' c' hw' => rw [hw] at hw'; cases hw'; omega
     | month _ _ c' => omega
     | year _ _ c' => omega
     | none c' => omega
    | month r1 r2 c hm => cases h' with
     | day c' => omega
     | week _ c' => omega
     | month r1' r2' c' hm' =>
      obtain ⟨q, hq⟩ : ∃ q, 12 * y + m' - 1 + n = q := ⟨_, rfl⟩
      obtain ⟨q', hq'⟩ : ∃ q', 12 * y + m' - 1 + n' = q' := ⟨_, rfl⟩
      by_cases g : 1 ≤ q / 12 ∧ q / 12 ≤ 9999
      ·by_cases g' : 1 ≤ q' / 12 ∧ q' / 12 ≤ 9999
       ·rw [month_in k (by omega) y m' d' n q y1 y2 m1 m2 (by omega) (by omega) hq g.1 g.2] at hm
        rw [month_in k (by omega) y m' d' n' q' y1 y2 m1 m2 (by omega) (by omega) hq' g'.1 g'.2] at hm'
        cases hm; cases hm'
        have := mnF_lt (show q < q' by omega)
        unfold mnF at this; omega
       ·rw [month_out k (by omega) y m' d' n' q' y1 y2 m1 m2 (by omega) (by omega) hq' g'] at hm'
        cases hm'; omega
      ·rw [month_out k (by omega) y m' d' n q y1 y2 m1 m2 (by omega) (by omega) hq g] at hm
       cases hm; omega
     | year _ _ c' => omega
     | none c' => omega
    | year g1_ g2_ c x1 x2 hg hg2 => cases h' with
     | day c' => omega
     | week _ c' => omega
     | month _ _ c' => omega
     | year g1' g2' c' x1' x2' hg' hg2' =>
      rw [rBegins _ (by omega) (by omega)] at hg2 hg'
      cases hg2; cases hg'
      have := ah_le (show y + n + 1 ≤ y + n' by omega); omega
     | none c' => omega
    | none c => omega
   split at hfe <;> split at hle_ <;> split at hfe' <;> split at hle_' <;> (subst hfe; subst hle_; subst hfe'; subst hle_'; have := key (by omega) (by omega) (by omega) (by omega); omega)
/-- Of a row, what comes is later than the begin, and rises. -/
theorem inner_sub (b last : Int) : ∀ (T : List Int) (left : Int), (inner b last T left).1.Sublist T ∧ (∀ x ∈ (inner b last T left).1, b < x) ∧ (0 ≤ left → left ≤ 1000 → ((inner b last T left).1.length : Int) + (inner b last T left).2.1 = left ∧ 0 ≤ (inner b last T left).2.1) := by
 intro T
 induction T with
 | nil => intro left; exact ⟨List.Sublist.refl _, (fun x hx => by cases hx), fun h _ => ⟨by simp [inner], h⟩⟩
 | cons t ts ih =>
  intro left
  unfold inner
  by_cases c : t ≤ b
  ·rw [if_pos c]
   obtain ⟨h1, h2, h3⟩ := ih left
   exact ⟨h1.cons _, h2, h3⟩
  rw [if_neg c]
  by_cases c1 : t > last ∨ left = 0
  ·rw [if_pos c1]; exact ⟨List.nil_sublist _, (fun x hx => by cases hx), fun h _ => ⟨by simp, h⟩⟩
  rw [if_neg c1]
  obtain ⟨h1, h2, h3⟩ := ih (wrap64 (left - 1))
  refine ⟨h1.cons_cons _, fun x hx => ?_, fun h h' => ?_⟩
  ·rcases List.mem_cons.1 hx with rfl | hx
   ·omega
   ·exact h2 x hx
  ·have : left ≠ 0 := fun q => c1 (Or.inr q)
   rw [w64 (x := left - 1) (by omega) (by omega)] at *
   obtain ⟨a, d⟩ := h3 (by omega) (by omega)
   simp only [List.length_cons]
   exact ⟨by omega, d⟩
theorem each_up {r : Ru} {b dy s : Int} {B : Fa} {sf sl se : Int → Int} {fit : Int → Bool} {k : Nat} (hk : 130 ≤ k) (h : Has r b dy s B sf sl se fit k) (last : Int) : ∀ (K : Nat) (per left : Int) (rest : List Int), 0 ≤ per → per ≤ 4000000 → eachL b last r.a1 sf se (timL r sf sl se fit s) K per left = some rest →
  Up rest ∧ (∀ x ∈ rest, b < x) ∧ (∀ x ∈ rest, ∃ n, per ≤ n ∧ se n = 0 ∧ 86400 * sf n ≤ x) ∧ (0 ≤ left → left ≤ 1000 → (rest.length : Int) ≤ left) := by
 have i1 := h.full.f.i1; have i2 := h.full.i2
 intro K
 induction K with
 | zero => intro per left rest _ _ hr; simp [eachL] at hr
 | succ K ih =>
  intro per left rest p0 p9 hr
  have none : Up ([] : List Int) ∧ (∀ x ∈ ([] : List Int), b < x) ∧ (∀ x ∈ ([] : List Int), ∃ n, per ≤ n ∧ se n = 0 ∧ 86400 * sf n ≤ x) ∧ (0 ≤ left → left ≤ 1000 → (([] : List Int).length : Int) ≤ left) :=
   ⟨List.Pairwise.nil, (fun x hx => by cases hx), (fun x hx => by cases hx), fun q _ => by simpa using q⟩
  unfold eachL at hr
  by_cases c : left = 0
  ·rw [if_pos c] at hr; cases hr; exact none
  rw [if_neg c] at hr
  by_cases c1 : se per ≠ 0 ∨ wrap64 (sf per * 86400) > last
  ·rw [if_pos c1] at hr; cases hr; exact none
  rw [if_neg c1] at hr
  have ez : se per = 0 := Decidable.not_not.1 fun q => c1 (Or.inl q)
  obtain ⟨t1, t2⟩ := tim_up h per
  obtain ⟨u1, u2, u3⟩ := inner_sub b last (timL r sf sl se fit s per) left
  have a1 : Up (inner b last (timL r sf sl se fit s per) left).1 := List.Pairwise.sublist u1 t1
  have a2 : ∀ x ∈ (inner b last (timL r sf sl se fit s per) left).1, 86400 * sf per ≤ x ∧ x < 86400 * (sl per + 1) := fun x hx => t2 x (u1.subset hx)
  by_cases d : (inner b last (timL r sf sl se fit s per) left).2.2 = true
  ·rw [if_pos d] at hr; cases hr
   exact ⟨a1, u2, fun x hx => ⟨per, Int.le_refl _, ez, (a2 x hx).1⟩, fun q q' => by have := u3 q q'; omega⟩
  rw [if_neg d] at hr
  obtain ⟨x, hx, rfl⟩ := Option.map_eq_some_iff.1 hr
  have pe := h.ok per ez
  rw [w64 (x := per + r.a1) (by omega) (by omega)] at hx
  obtain ⟨v1, v2, v3, v4⟩ := ih _ _ x (by omega) (by omega) hx
  refine ⟨up_add a1 v1 (fun y hy z hz => ?_), fun y hy => ?_, fun y hy => ?_, fun q q' => ?_⟩
  ·obtain ⟨n, hn, hn0, hz'⟩ := v3 z hz
   have s1 := h.sp per; have s2 := h.sp n
   rw [ez] at s1; rw [hn0] at s2
   have := spans hk s1 s2 (by omega)
   have := a2 y hy; omega
  ·rcases List.mem_append.1 hy with hy | hy
   ·exact u2 y hy
   ·exact v2 y hy
  ·rcases List.mem_append.1 hy with hy | hy
   ·exact ⟨per, Int.le_refl _, ez, (a2 y hy).1⟩
   ·obtain ⟨n, hn, q⟩ := v3 y hy; exact ⟨n, by omega, q⟩
  ·obtain ⟨e1, e2⟩ := u3 q q'
   have := v4 e2 (by omega)
   simp only [List.length_append]; omega
end Go.Proofs.YtfdcldjoncednaaGreat.ExR
namespace Go.Proofs.YtfdcldjoncednaaGreat.M
open Go.RowKit Go.Proofs.YtfdcldjoncednaaGreatW.PrintWords Go.Proofs.YtfdcldjoncednaaGreatW.PrintLast Go.Proofs.YtfdcldjoncednaaGreatW.PrintMore
attribute [local go_sem] max2_int min2_int max_two min_two
set_option linter.unusedVariables false
set_option linter.unusedSimpArgs false
/-! ### trystref14_date: function 30 -/
def trystref14_date.f (k : Nat) (a0 : Int) : Option (Int × Int × Int) := (trystref01_Date.f k 0 a0).bind fun bt309 => (some (bt309.1, bt309.2.1, bt309.2.2.1))
set_option maxHeartbeats 8000000 in
set_option maxRecDepth 100000 in
theorem trystref14_date.calls (k : Nat) (a0 : Int) (r1 : Int) (r2 : Int) (r3 : Int) (w : World) (h : trystref14_date.f k a0 = some (r1, r2, r3)) :
  Calls Tryz.prog 30 #[.int .i64 a0] w fun e w' => e = .returned (.agg #[.int .i64 r1, .int .i64 r2, .int .i64 r3]) ∧ Below w.heap.size w w' := by
 have hu61 := Tryz.underlying61
 have HB := Aside0.mk (Below.refl w.heap.size w)
 have H : ((trystref01_Date.f k 0 a0).bind fun bt309 => (some (bt309.1, bt309.2.1, bt309.2.2.1))) = some (r1, r2, r3) := h
 clear h
 replace H := Option.bind_eq_some_iff.mp H
 obtain ⟨⟨t309, t310, t311, t312⟩, A20, H⟩ := H
 replace H : (some (t309, t310, t311)) = some (r1, r2, r3) := H
 have A2 := Aside0.mk A20
 clear A20
 simp only [Option.some.injEq, Prod.mk.injEq] at H
 obtain ⟨rfl, rfl, rfl⟩ := H
 go_enter Tryz.func30, Tryz.ntmps30
 go_wp2_with (first | ((with_reducible refine gate_dst (N := 2) rfl ?_); refine box_event ?hg (N := 2) ?hd (cs := #[.int .i64 0, .int .i64 0, .int .i64 0]) (t := 61) ?hr ?_; (case hd => rfl); (case hg => rfl); (case hr => first | (go_simp; done) | (go_simp; rfl)); intro gb308 hg w3 hbox hb; have n0_ := Aside0.mk (below_step (by repeat (first | (with_reducible first | exact HB.out | apply below_alloc | apply pw_below_drewN | apply below_drew1) | exact HB.out)) hb); have n1_ := Aside0.mk (hbox); have n2_ := Aside0.mk ((by rw [hg]; exact (below_size (by repeat (first | (with_reducible first | exact HB.out | apply below_alloc | apply pw_below_drewN | apply below_drew1) | exact HB.out))) : w.heap.size ≤ gb308)); have n3_ := Aside0.mk ((by rw [hg]; exact (below_size (by repeat (first | (with_reducible first | exact HB.out | apply below_alloc | apply pw_below_drewN | apply below_drew1) | exact HB.out))) : w.heap.size ≤ gb308)); clear HB; have HB := n0_; have BK308 := n1_; have GW308 := n2_; have GE308 := n3_; clear n0_ n1_ n2_ n3_; clear hb hbox hg) | ((with_reducible refine gate_callee (f := 57) rfl ?_); refine gm_ (some 7) Tryz.func57 #[.int .i64 0, .int .i64 a0] ?_; (with_reducible refine (trystref01_Date.calls k 0 a0 t309 t310 t311 t312 _ A2.out).mono ?_); rintro e w4 ⟨rfl, hb⟩; refine ⟨_, rfl, ?_⟩; have n0_ := Aside0.mk (blk_below (g := gb308) (o := .cells #[.int .i64 0, .int .i64 0, .int .i64 0] 61 (0, 0)) (by (with_reducible repeat (first | refine blk_drewN ?_ _ | refine blk_drew ?_ | refine blk_alloc ?_ _)); exact BK308.out) hb); have n1_ := Aside0.mk (below_step (by repeat (first | (with_reducible first | exact HB.out | apply below_alloc | apply pw_below_drewN | apply below_drew1 | refine below_set ?_ GE308.out) | exact HB.out)) hb); clear BK308; clear HB; have BK308 := n0_; have HB := n1_; clear n0_ n1_; (try clear hb); (try clear hb2); (try clear hk); (try clear hi)) | ((with_reducible refine gate_dst (N := 3) rfl ?_); refine box_event ?hg (N := 3) ?hd (cs := #[.int .i64 0, .int .i64 0, .int .i64 0]) (t := 61) ?hr ?_; (case hd => rfl); (case hg => rfl); (case hr => first | (go_simp; done) | (go_simp; rfl)); intro gb313 hg w5 hbox hb; have n0_ := Aside0.mk (blk_below (g := gb308) (o := .cells #[.int .i64 0, .int .i64 0, .int .i64 0] 61 (0, 0)) (by (with_reducible repeat (first | refine blk_drewN ?_ _ | refine blk_drew ?_ | refine blk_alloc ?_ _)); exact BK308.out) hb); have n1_ := Aside0.mk (below_step (by repeat (first | (with_reducible first | exact HB.out | apply below_alloc | apply pw_below_drewN | apply below_drew1 | refine below_set ?_ GE308.out) | exact HB.out)) hb); have n2_ := Aside0.mk (hbox); have n3_ := Aside0.mk ((by rw [hg]; exact (below_size (by repeat (first | (with_reducible first | exact HB.out | apply below_alloc | apply pw_below_drewN | apply below_drew1 | refine below_set ?_ GE308.out) | exact HB.out))) : w.heap.size ≤ gb313)); have n4_ := Aside0.mk ((by rw [hg]; exact (below_size (by repeat (first | (with_reducible first | exact HB.out | apply below_alloc | apply pw_below_drewN | apply below_drew1 | refine below_set ?_ GE308.out) | exact HB.out))) : w.heap.size ≤ gb313)); have n5_ := Aside0.mk ((by rw [hg]; exact Nat.ne_of_lt (blk_lt (g := gb308) (o := .cells #[.int .i64 0, .int .i64 0, .int .i64 0] 61 (0, 0)) (by (with_reducible repeat (first | refine blk_drewN ?_ _ | refine blk_drew ?_ | refine blk_alloc ?_ _)); exact BK308.out)) : gb308 ≠ gb313)); have n6_ := Aside0.mk ((by rw [hg]; exact Nat.ne_of_gt (blk_lt (g := gb308) (o := .cells #[.int .i64 0, .int .i64 0, .int .i64 0] 61 (0, 0)) (by (with_reducible repeat (first | refine blk_drewN ?_ _ | refine blk_drew ?_ | refine blk_alloc ?_ _)); exact BK308.out)) : gb313 ≠ gb308)); clear BK308; clear HB; have BK308 := n0_; have HB := n1_; have BK313 := n2_; have GW313 := n3_; have GE313 := n4_; have NB308_313 := n5_; have NB313_308 := n6_; clear n0_ n1_ n2_ n3_ n4_ n5_ n6_; clear hb hbox hg; have hnb6 := NB313_308.out; have hnc6 := NB308_313.out; have hcz7_0 : w5.cell? ⟨gb313, 0, none⟩ = some (.int .i64 0) := (blk_cell BK313.out 0).trans rfl; have hcz7_1 : w5.cell? ⟨gb313, 1, none⟩ = some (.int .i64 0) := (blk_cell BK313.out 1).trans rfl; have hcz7_2 : w5.cell? ⟨gb313, 2, none⟩ = some (.int .i64 0) := (blk_cell BK313.out 2).trans rfl; have hfz7_0 := blk_frozen BK313.out 0; have hfz7_1 := blk_frozen BK313.out 1; have hfz7_2 := blk_frozen BK313.out 2; have hcz8_0 : w5.cell? ⟨gb308, 0, none⟩ = some (.int .i64 0) := (blk_cell BK308.out 0).trans rfl; have hcz8_1 : w5.cell? ⟨gb308, 1, none⟩ = some (.int .i64 0) := (blk_cell BK308.out 1).trans rfl; have hcz8_2 : w5.cell? ⟨gb308, 2, none⟩ = some (.int .i64 0) := (blk_cell BK308.out 2).trans rfl; have hfz8_0 := blk_frozen BK308.out 0; have hfz8_1 := blk_frozen BK308.out 1; have hfz8_2 := blk_frozen BK308.out 2))
 refine bodyPost_ret (results_cell_row rfl _ _ gb308 61 #[.int .i64 t309, .int .i64 t310, .int .i64 t311] (0, 0) _ rfl (by (with_reducible repeat (first | refine blk_drewN ?_ _ | refine blk_drew ?_ | refine blk_alloc ?_ _)); refine blk_put (cs := #[.int .i64 t309, .int .i64 t310, .int .i64 0]) ?_ 2 _ rfl; (with_reducible repeat (first | refine blk_drewN ?_ _ | refine blk_drew ?_ | refine blk_alloc ?_ _)); refine blk_put (cs := #[.int .i64 t309, .int .i64 0, .int .i64 0]) ?_ 1 _ rfl; (with_reducible repeat (first | refine blk_drewN ?_ _ | refine blk_drew ?_ | refine blk_alloc ?_ _)); refine blk_put (cs := #[.int .i64 0, .int .i64 0, .int .i64 0]) ?_ 0 _ rfl; (with_reducible repeat (first | refine blk_drewN ?_ _ | refine blk_drew ?_ | refine blk_alloc ?_ _)); refine blk_far ?_ NB308_313.out _; (with_reducible repeat (first | refine blk_drewN ?_ _ | refine blk_drew ?_ | refine blk_alloc ?_ _)); refine blk_far ?_ NB308_313.out _; (with_reducible repeat (first | refine blk_drewN ?_ _ | refine blk_drew ?_ | refine blk_alloc ?_ _)); refine blk_far ?_ NB308_313.out _; (with_reducible repeat (first | refine blk_drewN ?_ _ | refine blk_drew ?_ | refine blk_alloc ?_ _)); exact BK308.out) Tryz.underlying61 rfl (by kernel_rfl)) rfl ?_
 exact ⟨by first | rfl | (simp [i64_w]; done) | (simp [errW_none, errW_some] <;> rfl) | (simp [*, errW_none, errW_some] <;> rfl), by repeat (first | (with_reducible first | exact HB.out | apply below_alloc | apply pw_below_drewN | apply below_drew1 | refine below_set ?_ GE308.out | refine below_set ?_ GE313.out) | exact HB.out)⟩

/-! ### trystref14_weekday: function 58 -/
def trystref14_weekday.f (a0 : Int) : Option (Int) := (trystref01_Mod.f a0 7).bind fun t314 => (some t314)
set_option maxHeartbeats 8000000 in
set_option maxRecDepth 100000 in
theorem trystref14_weekday.calls (a0 : Int) (r : Int) (w : World) (h : trystref14_weekday.f a0 = some r) :
  Calls Tryz.prog 58 #[.int .i64 a0] w fun e w' => e = .returned (.int .i64 r) ∧ Drawn0 w w' := by
 have H : ((trystref01_Mod.f a0 7).bind fun t314 => (some t314)) = some r := h
 clear h
 replace H := Option.bind_eq_some_iff.mp H
 obtain ⟨t314, A20, H⟩ := H
 replace H : (some t314) = some r := H
 have A2 := Aside0.mk A20
 clear A20
 obtain rfl := Option.some.inj H
 go_enter Tryz.func58, Tryz.ntmps58
 go_wp2_with (first | ((with_reducible refine gate_callee (f := 33) rfl ?_); refine gm_ (some 4) Tryz.func33 #[.int .i64 a0, .int .i64 7] ?_; (with_reducible refine (trystref01_Mod.calls a0 7 t314 _ A2.out).mono ?_); rintro e w' ⟨rfl, ⟨nd, rfl⟩⟩; refine ⟨_, rfl, ?_⟩))
 go_ret
 exact ⟨by first | rfl | simp | simp [*] | simp [bne_nil_], by repeat (first | exact Drawn0.refl _ | apply Drawn0.step)⟩

/-! ### trystref14_Begin: function 31 -/
def trystref14_Begin.l0 : Nat → Int → Int → Option (Int)
 | 0, _, _ => none
 | k + 1, x0, x1 => (trystref14_weekday.f x0).bind fun t315 => (if t315 = x1 then (some x0) else (trystref14_Begin.l0 k (wrap64 (x0 - 1)) x1))
def trystref14_Begin.f (k : Nat) (a0 : Int) (a1 : Int) : Option (Int) := trystref14_Begin.l0 k a0 a1
set_option maxHeartbeats 8000000 in
set_option maxRecDepth 100000 in
theorem trystref14_Begin.calls (k : Nat) (a0 : Int) (a1 : Int) (r : Int) (w : World) (h : trystref14_Begin.f k a0 a1 = some r) :
  Calls Tryz.prog 31 #[.int .i64 a0, .int .i64 a1] w fun e w' => e = .returned (.int .i64 r) ∧ Drawn0 w w' := by
 have H : (trystref14_Begin.l0 k a0 a1) = some r := h
 clear h
 have H' := Aside0.mk H
 clear H
 go_enter Tryz.func31, Tryz.ntmps31
 go_wp2
 go_loopg [0] k (fun kq v0 w' => ∃ (x0_1 : Int), v0 = .int .i64 x0_1 ∧ Aside0 (trystref14_Begin.l0 kq x0_1 a1 = some r) ∧ Aside0 (kq ≤ k) ∧ Drawn0 w w')
 case atStart => exact ⟨(a0), (by first | rfl | (simp; done) | (simp [*]; done)), H', ⟨Nat.le_refl _⟩, by repeat (first | exact Drawn0.refl _ | apply Drawn0.step)⟩
 case round =>
  clear H'
  try clear p2
  obtain ⟨x0_1, rfl, HA, HK1, ⟨m1, rfl⟩⟩ := hrel
  cases gk with
  | zero => exact absurd HA.out (by simp [trystref14_Begin.l0])
  | succ k1 =>
   have H := HA.out
   clear HA
   simp only [trystref14_Begin.l0] at H
   replace H := Option.bind_eq_some_iff.mp H
   obtain ⟨t315, A30, H⟩ := H
   replace H : (if t315 = a1 then (some x0_1) else (trystref14_Begin.l0 k1 (wrap64 (x0_1 - 1)) a1)) = some r := H
   have A3 := Aside0.mk A30
   clear A30
   by_cases c4 : t315 = a1
   ·rw [if_pos c4] at H
    have c4b0 : (t315 == a1) = true := beq_iff_eq.mpr c4
    have c4b1 : (t315 != a1) = false := bne_eq_false_iff_eq.mpr c4
    clear c4
    obtain rfl := Option.some.inj H
    go_wp2_with (first | ((with_reducible refine gate_callee (f := 58) rfl ?_); refine gm_ (some 6) Tryz.func58 #[.int .i64 x0_1] ?_; (with_reducible refine (trystref14_weekday.calls x0_1 t315 _ A3.out).mono ?_); rintro e w' ⟨rfl, ⟨nd, rfl⟩⟩; refine ⟨_, rfl, ?_⟩))
    go_ret
    exact ⟨by first | rfl | simp | simp [*] | simp [bne_nil_], by repeat (first | exact Drawn0.refl _ | apply Drawn0.step)⟩
   ·rw [if_neg c4] at H
    have c4b0 : (t315 == a1) = false := beq_eq_false_iff_ne.mpr c4
    have c4b1 : (t315 != a1) = true := bne_iff_ne.mpr c4
    have H' := Aside0.mk H
    clear H
    go_wp2_with (first | ((with_reducible refine gate_callee (f := 58) rfl ?_); refine gm_ (some 6) Tryz.func58 #[.int .i64 x0_1] ?_; (with_reducible refine (trystref14_weekday.calls x0_1 t315 _ A3.out).mono ?_); rintro e w' ⟨rfl, ⟨nd, rfl⟩⟩; refine ⟨_, rfl, ?_⟩))
    go_roundg k1
    case measure => have := HK1.out; omega
    case rel => exact ⟨(wrap64 (x0_1 - 1)), (by first | rfl | (simp; done) | (simp [*]; done)), H', ⟨by have := HK1.out; omega⟩, by repeat (first | exact Drawn0.refl _ | apply Drawn0.step)⟩

/-! ### trystref14_has: function 78 -/
def trystref14_has.l0 : Nat → List Int → Int → Int → Int → Option (Bool)
 | 0, _, _, _, _ => none
 | k + 1, x0, x1, x7, x8 => if x8 < x7 then (if 0 ≤ x8 then (if x8 < (x0.length : Int) then (if (rd x0 x8) = x1 then (some true) else (trystref14_has.l0 k x0 x1 x7 (wrap64 (x8 + 1)))) else (none)) else (none)) else (some false)
def trystref14_has.f (k : Nat) (l0 : List Int) (a1 : Int) : Option (Bool) := trystref14_has.l0 k l0 a1 (l0.length : Int) 0
set_option maxHeartbeats 8000000 in
set_option maxRecDepth 100000 in
theorem trystref14_has.calls (k : Nat) (A0 : Option Addr) (c0 : Nat) (l0 : List Int) (a1 : Int) (r : Bool) (w : World) (hr0 : Kd.C (Kd.int .i64) w A0 l0.length l0) (hc0 : l0.length ≤ c0) (h : trystref14_has.f k l0 a1 = some r) :
  Calls Tryz.prog 78 #[.slice A0 l0.length c0, .int .i64 a1] w fun e w' => e = .returned (.bool r) ∧ Drawn0 w w' := by
 have HR0 := Aside0.mk hr0
 have HC0 := Aside0.mk hc0
 clear hr0 hc0
 have H : (trystref14_has.l0 k l0 a1 (l0.length : Int) 0) = some r := h
 clear h
 have H' := Aside0.mk H
 clear H
 go_enter Tryz.func78, Tryz.ntmps78
 go_wp2
 go_loopg [8] k (fun kq v8 w' => ∃ (x8_1 : Int), v8 = .int .i64 x8_1 ∧ Aside0 (trystref14_has.l0 kq l0 a1 (l0.length : Int) x8_1 = some r) ∧ Aside0 (kq ≤ k) ∧ Drawn0 w w')
 case atStart => exact ⟨(0), (by first | rfl | (simp; done) | (simp [*]; done)), H', ⟨Nat.le_refl _⟩, by repeat (first | exact Drawn0.refl _ | apply Drawn0.step)⟩
 case round =>
  clear H'
  try clear p2
  obtain ⟨x8_1, rfl, HA, HK1, ⟨m1, rfl⟩⟩ := hrel
  cases gk with
  | zero => exact absurd HA.out (by simp [trystref14_has.l0])
  | succ k1 =>
   have H := HA.out
   clear HA
   simp only [trystref14_has.l0] at H
   by_cases c3 : x8_1 < (l0.length : Int)
   ·rw [if_pos c3] at H
    have c3b0 : decide (x8_1 < (l0.length : Int)) = true := decide_eq_true c3
    clear c3
    by_cases c4 : 0 ≤ x8_1
    ·rw [if_pos c4] at H
     have c4b0 : decide (0 ≤ x8_1) = true := decide_eq_true c4
     clear c4
     by_cases c5 : x8_1 < (l0.length : Int)
     ·rw [if_pos c5] at H
      have c5b0 : decide (x8_1 < (l0.length : Int)) = true := decide_eq_true c5
      clear c5
      by_cases c6 : (rd l0 x8_1) = a1
      ·rw [if_pos c6] at H
       have c6b0 : ((rd l0 x8_1) == a1) = true := beq_iff_eq.mpr c6
       have c6b1 : ((rd l0 x8_1) != a1) = false := bne_eq_false_iff_eq.mpr c6
       clear c6
       obtain rfl := Option.some.inj H
       have p351 : 0 ≤ (x8_1 : Int) := of_decide_eq_true (by first | (with_reducible assumption) | assumption)
       have q351 : x8_1 < (l0.length : Int) := of_decide_eq_true (by first | (with_reducible assumption) | assumption)
       obtain ⟨ad351, e351, hx351_0⟩ := Kd.at_int HR0.out x8_1 p351 q351
       cases e351
       replace p351 := eq_true p351
       replace q351 := eq_true q351
       go_wp2
       go_ret
       exact ⟨by first | rfl | simp | simp [*] | simp [bne_nil_], by repeat (first | exact Drawn0.refl _ | apply Drawn0.step)⟩
      ·rw [if_neg c6] at H
       have c6b0 : ((rd l0 x8_1) == a1) = false := beq_eq_false_iff_ne.mpr c6
       have c6b1 : ((rd l0 x8_1) != a1) = true := bne_iff_ne.mpr c6
       have H' := Aside0.mk H
       clear H
       have p351 : 0 ≤ (x8_1 : Int) := of_decide_eq_true (by first | (with_reducible assumption) | assumption)
       have q351 : x8_1 < (l0.length : Int) := of_decide_eq_true (by first | (with_reducible assumption) | assumption)
       obtain ⟨ad351, e351, hx351_0⟩ := Kd.at_int HR0.out x8_1 p351 q351
       cases e351
       replace p351 := eq_true p351
       replace q351 := eq_true q351
       go_wp2
       go_roundg k1
       case measure => have := HK1.out; omega
       case rel => exact ⟨(wrap64 (x8_1 + 1)), (by first | rfl | (simp; done) | (simp [*]; done)), H', ⟨by have := HK1.out; omega⟩, by repeat (first | exact Drawn0.refl _ | apply Drawn0.step)⟩
     ·rw [if_neg c5] at H
      exact absurd H (by simp)
    ·rw [if_neg c4] at H
     exact absurd H (by simp)
   ·rw [if_neg c3] at H
    have c3b0 : decide (x8_1 < (l0.length : Int)) = false := decide_eq_false c3
    clear c3
    obtain rfl := Option.some.inj H
    go_wp2
    go_ret
    exact ⟨by first | rfl | simp | simp [*] | simp [bne_nil_], by repeat (first | exact Drawn0.refl _ | apply Drawn0.step)⟩

/-! ### trystref14_counted: function 44 -/
def trystref14_counted.f (k : Nat) (l0 : List Int) (a1 : Int) (a2 : Int) : Option (Bool) := (trystref14_has.f k l0 a1).bind fun t352 => (if t352 = true then (some true) else ((trystref14_has.f k l0 (wrap64 ((wrap64 (a1 - a2)) - 1))).bind fun t353 => (some t353)))
set_option maxHeartbeats 8000000 in
set_option maxRecDepth 100000 in
theorem trystref14_counted.calls (k : Nat) (A0 : Option Addr) (c0 : Nat) (l0 : List Int) (a1 : Int) (a2 : Int) (r : Bool) (w : World) (hr0 : Kd.C (Kd.int .i64) w A0 l0.length l0) (hc0 : l0.length ≤ c0) (h : trystref14_counted.f k l0 a1 a2 = some r) :
  Calls Tryz.prog 44 #[.slice A0 l0.length c0, .int .i64 a1, .int .i64 a2] w fun e w' => e = .returned (.bool r) ∧ Drawn0 w w' := by
 have HR0 := Aside0.mk hr0
 have HC0 := Aside0.mk hc0
 clear hr0 hc0
 have H : ((trystref14_has.f k l0 a1).bind fun t352 => (if t352 = true then (some true) else ((trystref14_has.f k l0 (wrap64 ((wrap64 (a1 - a2)) - 1))).bind fun t353 => (some t353)))) = some r := h
 clear h
 replace H := Option.bind_eq_some_iff.mp H
 obtain ⟨t352, A40, H⟩ := H
 replace H : (if t352 = true then (some true) else ((trystref14_has.f k l0 (wrap64 ((wrap64 (a1 - a2)) - 1))).bind fun t353 => (some t353))) = some r := H
 have A4 := Aside0.mk A40
 clear A40
 by_cases c5 : t352 = true
 ·subst c5
  have H1 : (some true) = some r := by rw [if_pos rfl] at H; exact H
  clear H
  have H := H1
  clear H1
  obtain rfl := Option.some.inj H
  go_enter Tryz.func44, Tryz.ntmps44
  go_wp2_with (first | ((with_reducible refine gate_callee (f := 78) rfl ?_); refine gm_ (some 9) Tryz.func78 #[.slice A0 l0.length c0, .int .i64 a1] ?_; (with_reducible refine (trystref14_has.calls k _ _ l0 a1 true _ ?side1 ?side2 A4.out).mono ?_); (case side1 => repeat (first | exact HR0.out | (with_reducible refine Kd.C_alloc ?_ _) | (with_reducible refine Kd.C_drewN ?_ _) | (with_reducible refine Kd.C_drew ?_))); (case side2 => exact HC0.out); rintro e w' ⟨rfl, ⟨nd, rfl⟩⟩; refine ⟨_, rfl, ?_⟩))
  go_ret
  exact ⟨by first | rfl | simp | simp [*] | simp [bne_nil_], by repeat (first | exact Drawn0.refl _ | apply Drawn0.step)⟩
 ·replace c5 := Bool.eq_false_iff.mpr c5
  subst c5
  have H1 : ((trystref14_has.f k l0 (wrap64 ((wrap64 (a1 - a2)) - 1))).bind fun t353 => (some t353)) = some r := by rw [if_neg (show ¬ (false = true) by decide)] at H; exact H
  clear H
  have H := H1
  clear H1
  replace H := Option.bind_eq_some_iff.mp H
  obtain ⟨t353, A60, H⟩ := H
  replace H : (some t353) = some r := H
  have A6 := Aside0.mk A60
  clear A60
  obtain rfl := Option.some.inj H
  go_enter Tryz.func44, Tryz.ntmps44
  go_wp2_with (first | ((with_reducible refine gate_callee (f := 78) rfl ?_); refine gm_ (some 9) Tryz.func78 #[.slice A0 l0.length c0, .int .i64 a1] ?_; (with_reducible refine (trystref14_has.calls k _ _ l0 a1 false _ ?side1 ?side2 A4.out).mono ?_); (case side1 => repeat (first | exact HR0.out | (with_reducible refine Kd.C_alloc ?_ _) | (with_reducible refine Kd.C_drewN ?_ _) | (with_reducible refine Kd.C_drew ?_))); (case side2 => exact HC0.out); rintro e w' ⟨rfl, ⟨nd, rfl⟩⟩; refine ⟨_, rfl, ?_⟩) | (go_at_call 78; (with_reducible refine (trystref14_has.calls k _ _ l0 (wrap64 ((wrap64 (a1 - a2)) - 1)) t353 _ ?side1 ?side2 A6.out).mono ?_); (case side1 => repeat (first | exact HR0.out | (with_reducible refine Kd.C_alloc ?_ _) | (with_reducible refine Kd.C_drewN ?_ _) | (with_reducible refine Kd.C_drew ?_))); (case side2 => exact HC0.out); rintro e w' ⟨rfl, ⟨nd, rfl⟩⟩))
  go_ret
  exact ⟨by first | rfl | simp | simp [*] | simp [bne_nil_], by repeat (first | exact Drawn0.refl _ | apply Drawn0.step)⟩

/-! ### trystref14_year: function 80 -/
def trystref14_year.f (k : Nat) (a0 : Int) : Option (Int) := (trystref01_Fixed.f k 0 (wrap64 (a0 + 1)) 1 1).bind fun t361 => ((trystref01_Fixed.f k 0 a0 1 1).bind fun t362 => (some (wrap64 (t361 - t362))))
set_option maxHeartbeats 8000000 in
set_option maxRecDepth 100000 in
theorem trystref14_year.calls (k : Nat) (a0 : Int) (r : Int) (w : World) (h : trystref14_year.f k a0 = some r) :
  Calls Tryz.prog 80 #[.int .i64 a0] w fun e w' => e = .returned (.int .i64 r) ∧ Drawn0 w w' := by
 have H : ((trystref01_Fixed.f k 0 (wrap64 (a0 + 1)) 1 1).bind fun t361 => ((trystref01_Fixed.f k 0 a0 1 1).bind fun t362 => (some (wrap64 (t361 - t362))))) = some r := h
 clear h
 replace H := Option.bind_eq_some_iff.mp H
 obtain ⟨t361, A20, H⟩ := H
 replace H : ((trystref01_Fixed.f k 0 a0 1 1).bind fun t362 => (some (wrap64 (t361 - t362)))) = some r := H
 have A2 := Aside0.mk A20
 clear A20
 replace H := Option.bind_eq_some_iff.mp H
 obtain ⟨t362, A30, H⟩ := H
 replace H : (some (wrap64 (t361 - t362))) = some r := H
 have A3 := Aside0.mk A30
 clear A30
 obtain rfl := Option.some.inj H
 go_enter Tryz.func80, Tryz.ntmps80
 go_wp2_with (first | ((with_reducible refine gate_callee (f := 34) rfl ?_); refine gm_ (some 5) Tryz.func34 #[.int .i64 0, .int .i64 (wrap64 (a0 + 1)), .int .i64 1, .int .i64 1] ?_; (with_reducible refine (trystref01_Fixed.calls k 0 (wrap64 (a0 + 1)) 1 1 t361 _ A2.out).mono ?_); rintro e w' ⟨rfl, ⟨nd, rfl⟩⟩; refine ⟨_, rfl, ?_⟩) | ((with_reducible refine gate_callee (f := 34) rfl ?_); refine gm_ (some 7) Tryz.func34 #[.int .i64 0, .int .i64 a0, .int .i64 1, .int .i64 1] ?_; (with_reducible refine (trystref01_Fixed.calls k 0 a0 1 1 t362 _ A3.out).mono ?_); rintro e w' ⟨rfl, ⟨nd, rfl⟩⟩; refine ⟨_, rfl, ?_⟩))
 go_ret
 exact ⟨by first | rfl | simp | simp [*] | simp [bne_nil_], by repeat (first | exact Drawn0.refl _ | apply Drawn0.step)⟩

end Go.Proofs.YtfdcldjoncednaaGreat.M
