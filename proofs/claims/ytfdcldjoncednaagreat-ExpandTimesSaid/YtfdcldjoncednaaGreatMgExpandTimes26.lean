/- Texts of this claim, merged: ExL, ExR, Mr14A, RefT, RefM. -/
import Derived.Test.YtfdcldjoncednaaGreatMgExpandTimes25
import Derived.Test.YtfdcldjoncednaaGreatMgExpandTimes7
import Derived.Test.YtfdcldjoncednaaGreatMgExpandTimes14
import Derived.Test.YtfdcldjoncednaaGreatMgExpandTimes24
import Derived.Test.YtfdcldjoncednaaGreatMgExpandTimes20
/- What the laws of expand share: the first look, the rule's size, what Until answers of what is asked wrongly. -/
namespace Go.Proofs.YtfdcldjoncednaaGreat.ExL
open Go.RowKit Go.Proofs.YtfdcldjoncednaaGreatW.PrintWords Go.Proofs.YtfdcldjoncednaaGreatW.PrintLast Go.Proofs.YtfdcldjoncednaaGreat.M Go.Proofs.YtfdcldjoncednaaGreat.Cal Go.Proofs.YtfdcldjoncednaaGreat.FunA Go.Proofs.YtfdcldjoncednaaGreat.FunB Go.Proofs.YtfdcldjoncednaaGreat.Ru Go.Proofs.YtfdcldjoncednaaGreat.MatD Go.Proofs.YtfdcldjoncednaaGreat.MatP Go.Proofs.YtfdcldjoncednaaGreat.MatF Go.Proofs.YtfdcldjoncednaaGreat.MatG Go.Proofs.YtfdcldjoncednaaGreat.MatS Go.Proofs.YtfdcldjoncednaaGreat.RefF Go.Proofs.YtfdcldjoncednaaGreat.RecG Go.Proofs.YtfdcldjoncednaaGreat.ExD Go.Proofs.YtfdcldjoncednaaGreat.ExO Go.Proofs.YtfdcldjoncednaaGreat.ExS Go.Proofs.YtfdcldjoncednaaGreat.ExT Go.Proofs.YtfdcldjoncednaaGreat.ExE Go.Proofs.YtfdcldjoncednaaGreat.ExI Go.Proofs.YtfdcldjoncednaaGreat.ExU Go.Proofs.YtfdcldjoncednaaGreat.PureE Go.Proofs.YtfdcldjoncednaaGreat.ExB
set_option linter.unusedVariables false
set_option linter.unusedSimpArgs false
theorem fewX (r : Ru) (p : Rp) (w : World) : Calls Tryz.prog 7 #[.agg (agg r p)] w fun e w' => e = .returned (.bool (RefW.few r.l11.length r.l8.length r.l9.length r.l10.length r.l12.length r.l13.length r.l14.length r.l15.length r.l16.length)) ∧ Below w.heap.size w w' :=
 RefW.few_ r.a0 r.a1 r.a2 r.a3 r.a4 r.a5 r.a6 r.a7 p.A8 p.c8 r.l8 p.A9 p.c9 r.l9 p.A10 p.c10 r.l10 p.A11 p.c11 r.l11 p.A12 p.c12 r.l12 p.A13 p.c13 r.l13 p.A14 p.c14 r.l14 p.A15 p.c15 r.l15 p.A16 p.c16 r.l16 w
/-- At how many seconds of a day a rule may mean something. -/
def pd (r : Ru) : Int := wrap64 ((wrap64 ((mx 1 (r.l10.length : Int)) * (mx 1 (r.l9.length : Int)))) * (mx 1 (r.l8.length : Int)))
theorem perX (r : Ru) (p : Rp) (w : World) (ok : Ok r p w) : Calls Tryz.prog 14 #[.agg (agg r p)] w fun e w' => e = .returned (.int .i64 (pd r)) ∧ Below w.heap.size w w' :=
 trystlaw13_PerDay.calls r.a0 r.a1 r.a2 r.a3 r.a4 r.a5 r.a6 r.a7 p.A8 p.c8 r.l8 p.A9 p.c9 r.l9 p.A10 p.c10 r.l10 p.A11 p.c11 r.l11 p.A12 p.c12 r.l12 p.A13 p.c13 r.l13 p.A14 p.c14 r.l14 p.A15 p.c15 r.l15 p.A16 p.c16 r.l16 (pd r) w ok.h8 ok.d8 ok.h9 ok.d9 ok.h10 ok.d10 ok.h11 ok.d11 ok.h12 ok.d12 ok.h13 ok.d13 ok.h14 ok.d14 ok.h15 ok.d15 ok.h16 ok.d16 rfl
/-- The rule of the first look. -/
abbrev r0 : Ru := ⟨1, 1, 0, 0, 0, ⟨#[]⟩, false, 0, [], [], [], [], [], [], [], [], []⟩
abbrev p0 : Rp := ⟨none, 0, none, 0, none, 0, none, 0, none, 0, none, 0, none, 0, none, 0, none, 0⟩
theorem ok0 (w : World) : Ok r0 p0 w := ⟨Kd.C_nil _ _, Nat.le_refl _, Kd.C_nil _ _, Nat.le_refl _, Kd.C_nil _ _, Nat.le_refl _, Kd.C_nil _ _, Nat.le_refl _, Kd.C_nil _ _, Nat.le_refl _, Kd.C_nil _ _, Nat.le_refl _, Kd.C_nil _ _, Nat.le_refl _, Kd.C_nil _ _, Nat.le_refl _, Kd.C_nil _ _, Nat.le_refl _⟩
theorem LL0 (i : Nat) : LL r0 i = [] := by unfold LL; split <;> rfl
theorem frm0 (rt : Bool) : frmB r0 rt = true := by
 unfold frmB
 have h1 : grd r0 = true := rfl
 have h2 : untl r0 rt = true := by
  unfold untl
  rw [if_neg (by simp)]
  show (_ && (_ && ((⟨#[]⟩ : ByteArray).toList == _))) = _
  rw [ByteArray.toList_eq]; rfl
 have h3 : all8 r0 = true := all8_yes fun j hj => by
  unfold formL
  rw [LL0]; rfl
 have h4 : daysB r0.l11 = true := rfl
 have h5 : last r0 (oth r0 8) = true := by
  rw [oth_eq]; rfl
 rw [h1, h2, h3, h4, h5]; rfl
theorem v0 {k : Nat} {X Y : MatD.Fa} {v : Bool} (h : FitsOk k r0 X Y v) (x0 : 0 ≤ X.day) (hy : X.day ≤ Y.day) (y9 : Y.day ≤ 3652059) : v = true := by
 obtain ⟨w1, w2, y, n, e1, t, e2, hm, b14, b13, b12, _, _, _, _, _, _, _, _, _, _, _, _, rfl⟩ := h
 have hp : perF r0 X Y w1 w2 = Y.day - X.day := by
  unfold perF
  rw [if_pos rfl, w64 (by omega) (by omega)]
 rw [hp]
 obtain ⟨n, hn⟩ : ∃ n : Nat, Y.day - X.day = (n : Int) := ⟨(Y.day - X.day).toNat, by omega⟩
 rw [hn]
 unfold fitsF
 have ho : off (n : Int) r0.a1 = false := by
  unfold off
  show (decide ((n : Int) < 0) || _) = false
  rw [decide_eq_false (by omega)]
  simp
 rw [ho]
 rfl
theorem sp0 {k : Nat} {n f l e : Int} (h : SpOk k r0 true 1 n f l e) (n0 : 0 ≤ n) (n1 : n ≤ 10) : f = 1 + n ∧ l = 1 + n ∧ e = 0 := by
 have a0 : askF true [1] = 0 := by rfl
 cases h with
 | ask e he ne => exact absurd (he.symm.trans a0) ne
 | far he hn => omega
 | ok y m dd ee r1 r2 f l he h hd b1 b2 _ _ y1 y2 hfe hle_ hle =>
  cases h with
  | day c => subst hfe; subst hle_; refine ⟨?_, ?_, rfl⟩ <;> split <;> omega
  | week _ c => exact absurd c (by decide)
  | month _ _ c => exact absurd c (by decide)
  | year _ _ c => exact absurd c (by decide)
  | none c => exact absurd c (by decide)
 | none y m dd ee r1 r2 f l he h hd b1 b2 _ _ y1 y2 hfe hle_ hgt =>
  cases h with
  | day c => subst hfe; subst hle_; split at hgt <;> split at hgt <;> omega
  | week _ c => exact absurd c (by decide)
  | month _ _ c => exact absurd c (by decide)
  | year _ _ c => exact absurd c (by decide)
  | none c => exact absurd c (by decide)
theorem tim0 {B : Fa} {sf sl se : Int → Int} {fit : Int → Bool} {k : Nat} (h : Has r0 86400 1 0 B sf sl se fit k) (hk : 130 ≤ k) (n : Int) (n0 : 0 ≤ n) (n1 : n ≤ 10) : timL r0 sf sl se fit 0 n = [86400 * (1 + n)] := by
 obtain ⟨e1, e2, e3⟩ := sp0 (h.sp n) n0 n1
 obtain ⟨X, hX, hF⟩ := h.ft (1 + n) ⟨by omega, by omega⟩
 obtain ⟨y, m, dd, _, _, _, _, ey⟩ := dateP k hk (1 + n) ⟨by omega, by omega⟩
 have hd : X.day = 1 + n := by
  have : match_of.f k (1 + n) = some (X.day, X.y, X.m, X.d, X.wd, X.mn, X.mo, X.yn, X.yo) := hX
  rw [ey] at this
  exact ((Prod.mk.inj (Option.some.inj this)).1).symm
 have hv := v0 hF (by rw [h.bday]; omega) (by rw [h.bday, hd]; omega) (by rw [hd]; omega)
 have hdays : daysL fit (sf n) (sl n) = [1 + n] := by
  unfold daysL
  rw [e1, e2, show (1 + n + 1 - (1 + n)).toNat = 1 by omega]
  simp [dayG, hv]
 have hs : secL r0 0 = [0] := by
  unfold secL
  simp [orL, allH, blkM, rowS, secV, rd, rdOf, w64]
 unfold timL
 rw [if_neg (by omega), if_neg (by show ¬ Int.tmod n 1 ≠ 0; rw [Int.tmod_eq_emod_of_nonneg n0]; omega), if_neg (by omega), hdays, hs]
 have ht : timV (1 + n) 0 = 86400 * (1 + n) := by unfold timV; rw [w64 (x := (1 + n) * 86400) (by omega) (by omega), w64 (by omega) (by omega)]; omega
 unfold choT choL
 rw [if_pos (show r0.l16.length = 0 from rfl)]
 simp [allT, dayT, rd, rdOf, ht]
theorem inner1 (b last t left : Int) (h1 : b < t) (h2 : t ≤ last) (h3 : left ≠ 0) (h4 : -100 ≤ left) (h5 : left ≤ 100) : inner b last [t] left = ([t], left - 1, false) := by
 unfold inner
 rw [if_neg (by omega), if_neg (by omega), w64 (x := left - 1) (by omega) (by omega)]
 rfl
theorem each0 {B : Fa} {sf sl se : Int → Int} {fit : Int → Bool} {k : Nat} (h : Has r0 86400 1 0 B sf sl se fit k) (hk : 130 ≤ k) (K : Nat) : eachL 86400 432000 1 sf se (timL r0 sf sl se fit 0) (K + 6) 0 (-1) = some [172800, 259200, 345600, 432000] := by
 have t := fun n n0 n1 => tim0 h hk n n0 n1
 have s := fun n n0 n1 => sp0 (h.sp n) n0 n1
 have t0 := t 0 (by omega) (by omega); have t1 := t 1 (by omega) (by omega); have t2 := t 2 (by omega) (by omega); have t3 := t 3 (by omega) (by omega); have t4 := t 4 (by omega) (by omega)
 have s0 := s 0 (by omega) (by omega); have s1 := s 1 (by omega) (by omega); have s2 := s 2 (by omega) (by omega); have s3 := s 3 (by omega) (by omega); have s4 := s 4 (by omega) (by omega); have s5 := s 5 (by omega) (by omega)
 generalize timL r0 sf sl se fit 0 = tm at *
 have step : ∀ (K : Nat) (n left : Int) (T : List Int) (o : List Int) (left' : Int), sf n = 1 + n → se n = 0 → 0 ≤ n → n ≤ 10 → left ≠ 0 → tm n = T → ¬ 86400 * (1 + n) > 432000 → inner 86400 432000 T left = (o, left', false) → eachL 86400 432000 1 sf se tm (K + 1) n left = (eachL 86400 432000 1 sf se tm K (n + 1) left').map (o ++ ·) := by
  intro K n left T o left' h1 h2 h3 h4 h5 h6 h7 h8
  rw [eachL, if_neg h5, if_neg (by rw [h1, w64 (x := (1 + n) * 86400) (by omega) (by omega)]; omega), h6, h8]
  rw [if_neg (by simp), w64 (x := n + 1) (by omega) (by omega)]
 rw [step (K + 5) 0 (-1) [86400] [] (-1) s0.1 s0.2.2 (by omega) (by omega) (by omega) (by rw [t0]; rfl) (by omega) (by unfold inner; rw [if_pos (by omega)]; rfl)]
 rw [step (K + 4) (0 + 1) (-1) [172800] [172800] (-2) s1.1 s1.2.2 (by omega) (by omega) (by omega) (by rw [show (0 : Int) + 1 = 1 from rfl, t1]; rfl) (by omega) (inner1 86400 432000 172800 (-1) (by omega) (by omega) (by omega) (by omega) (by omega))]
 rw [step (K + 3) (0 + 1 + 1) (-2) [259200] [259200] (-3) s2.1 s2.2.2 (by omega) (by omega) (by omega) (by rw [show (0 : Int) + 1 + 1 = 2 from rfl, t2]; rfl) (by omega) (inner1 86400 432000 259200 (-2) (by omega) (by omega) (by omega) (by omega) (by omega))]
 rw [step (K + 2) (0 + 1 + 1 + 1) (-3) [345600] [345600] (-4) s3.1 s3.2.2 (by omega) (by omega) (by omega) (by rw [show (0 : Int) + 1 + 1 + 1 = 3 from rfl, t3]; rfl) (by omega) (inner1 86400 432000 345600 (-3) (by omega) (by omega) (by omega) (by omega) (by omega))]
 rw [step (K + 1) (0 + 1 + 1 + 1 + 1) (-4) [432000] [432000] (-5) s4.1 s4.2.2 (by omega) (by omega) (by omega) (by rw [show (0 : Int) + 1 + 1 + 1 + 1 = 4 from rfl, t4]; rfl) (by omega) (inner1 86400 432000 432000 (-4) (by omega) (by omega) (by omega) (by omega) (by omega))]
 have e : eachL 86400 432000 1 sf se tm (K + 1) (0 + 1 + 1 + 1 + 1 + 1) (-5) = some [] := by
  rw [eachL, if_neg (by omega), if_pos (Or.inr (by rw [show (0 : Int) + 1 + 1 + 1 + 1 + 1 = 5 from rfl, s5.1, w64 (by omega) (by omega)]; omega))]
 rw [e]
 rfl
set_option maxHeartbeats 4000000 in
set_option maxRecDepth 100000 in
theorem awake (w : World) : Calls Tryz.prog 13 #[] w fun e w' => e = .returned (.bool true) ∧ Below w.heap.size w w' := by
 obtain ⟨rt, hrt⟩ := both r0 (by decide)
 have hf := (hrt 300 (by decide)).2
 rw [frm0] at hf
 obtain ⟨B, sf, sl, se, fit, hH⟩ := has_ r0 rt 300 (by omega) (frm0 rt) hf 86400 (by omega) (by omega)
 have hr : clock_Right.f 86400 = some true := by rw [Right.cRight]; rfl
 replace hH : Has r0 86400 1 0 B sf sl se fit 300 := hH
 have hE := each0 hH (by omega) 0
 have hE : eachL 86400 (endF r0 432000) r0.a1 sf se (timL r0 sf sl se fit 0) (0 + 6) 0 (wrap64 (r0.a2 - 1)) = some [172800, 259200, 345600, 432000] := by
  rw [show endF r0 432000 = 432000 from rfl, show wrap64 (r0.a2 - 1) = -1 from w64 (x := 0 - 1) (by omega) (by omega)]; exact hE
 have U := Aside0.mk (fun w => until_ hH hr p0 432000 3 _ (0 + 6) hE (Or.inr (by omega)) (by omega) w (ok0 w))
 clear hrt hf hH hr hE
 go_enter Tryz.func13, Tryz.ntmps13
 go_wp2_with fail
 refine (U.out w).mono ?_
 rintro e w1 ⟨⟨A, c, rfl, hC, hc⟩, hb⟩
 have e1 : (allU 86400 432000 [172800, 259200, 345600, 432000]).take (3 : Int).toNat = [86400, 172800, 259200] := by decide
 have e2 : decide ((3 : Int) < ((allU 86400 432000 [172800, 259200, 345600, 432000]).length : Int)) = true := by decide
 rw [e1] at hC hc ⊢
 rw [e2]
 have HB := Aside0.mk hb
 obtain ⟨ad, rfl, hx⟩ := Kd.at_int hC 2 (by omega) (by decide)
 rw [show rd [86400, 172800, 259200] 2 = 259200 from rfl] at hx
 replace hx : w1.cell? ⟨ad.block, ad.off + 2, none⟩ = some (.int .i64 259200) := hx
 clear hb hC hc U e1 e2
 go_wp2_with fail
 go_ret
 exact ⟨rfl, HB.out⟩
end Go.Proofs.YtfdcldjoncednaaGreat.ExL
/- What a formed rule means rises: plain. -/
namespace Go.Proofs.YtfdcldjoncednaaGreat.ExR
open Go.RowKit Go.Proofs.YtfdcldjoncednaaGreatW.PrintWords Go.Proofs.YtfdcldjoncednaaGreatW.PrintLast Go.Proofs.YtfdcldjoncednaaGreat.M Go.Proofs.YtfdcldjoncednaaGreat.Cal Go.Proofs.YtfdcldjoncednaaGreat.FunA Go.Proofs.YtfdcldjoncednaaGreat.FunB Go.Proofs.YtfdcldjoncednaaGreat.FunC Go.Proofs.YtfdcldjoncednaaGreat.Ru Go.Proofs.YtfdcldjoncednaaGreat.MatD Go.Proofs.YtfdcldjoncednaaGreat.MatP Go.Proofs.YtfdcldjoncednaaGreat.MatG Go.Proofs.YtfdcldjoncednaaGreat.MatS Go.Proofs.YtfdcldjoncednaaGreat.RecG Go.Proofs.YtfdcldjoncednaaGreat.ExO Go.Proofs.YtfdcldjoncednaaGreat.ExS Go.Proofs.YtfdcldjoncednaaGreat.ExT Go.Proofs.YtfdcldjoncednaaGreat.ExE Go.Proofs.YtfdcldjoncednaaGreat.ExI Go.Proofs.YtfdcldjoncednaaGreat.PureE Go.Proofs.YtfdcldjoncednaaGreat.ExB
set_option linter.unusedVariables false
set_option linter.unusedSimpArgs false
abbrev Up (l : List Int) : Prop := l.Pairwise (· < ·)
theorem Nums.lt {lo hi : Int} {l : List Int} (h : Nums lo hi l) : ∀ (d i : Nat), i + d + 1 < l.length → rd l (i : Int) < rd l ((i + d + 1 : Nat) : Int)
 | 0, i, hl => h.up i hl
 | d + 1, i, hl => Int.lt_trans (Nums.lt h d i (by omega)) (h.up (i + d + 1) hl)
theorem Nums.lt' {lo hi : Int} {l : List Int} (h : Nums lo hi l) {i j : Nat} (hij : i < j) (hj : j < l.length) : rd l (i : Int) < rd l (j : Int) := by
 have := Nums.lt h (j - i - 1) i (by omega)
 rwa [show i + (j - i - 1) + 1 = j by omega] at this
theorem nums_or {lo hi n : Int} {l : List Int} (h : Nums lo hi l) (h0 : lo ≤ n) (h1 : n ≤ hi) : Nums lo hi (orL l n) := by
 unfold orL
 split
 ·have e : ∀ j : Nat, j < [n].length → rd [n] (j : Int) = n := fun j hj => by
   have : j = 0 := by simp at hj; omega
   subst this; rfl
  exact ⟨by simp, fun j hj => by rw [e j hj]; exact h0, fun j hj => by rw [e j hj]; exact h1, fun j hj => by simp at hj⟩
 ·exact h
theorem up_add {l m : List Int} (h : Up l) (k : Up m) (c : ∀ a ∈ l, ∀ b ∈ m, a < b) : Up (l ++ m) := List.pairwise_append.2 ⟨h, k, c⟩
theorem secV_ {h m x : Int} (h0 : 0 ≤ h) (h1 : h ≤ 23) (m0 : 0 ≤ m) (m1 : m ≤ 59) (x0 : 0 ≤ x) (x1 : x ≤ 59) : secV h m x = 3600 * h + 60 * m + x := by
 unfold secV
 rw [w64 (x := 3600 * h) (by omega) (by omega), w64 (x := 60 * m) (by omega) (by omega), w64 (x := 3600 * h + 60 * m) (by omega) (by omega), w64 (by omega) (by omega)]
theorem rowS_up {h m : Int} {S : List Int} (h0 : 0 ≤ h) (h1 : h ≤ 23) (m0 : 0 ≤ m) (m1 : m ≤ 59) (hS : Nums 0 59 S) : ∀ q, q ≤ S.length → Up (rowS h m S q) ∧ ∀ x ∈ rowS h m S q, ∃ i, i < q ∧ x = 3600 * h + 60 * m + rd S (i : Int) := by
 intro q
 induction q with
 | zero => intro _; exact ⟨List.Pairwise.nil, fun x hx => by cases hx⟩
 | succ q ih =>
  intro hq
  obtain ⟨a, c⟩ := ih (by omega)
  have e := secV_ h0 h1 m0 m1 (hS.ge q (by omega)) (hS.le q (by omega))
  rw [rowS, e]
  refine ⟨up_add a (List.pairwise_singleton _ _) (fun x hx y hy => ?_), fun x hx => ?_⟩
  ·obtain ⟨i, hi, rfl⟩ := c x hx
   rw [List.mem_singleton.1 hy]
   have := Nums.lt' hS hi (by omega); omega
  ·rcases List.mem_append.1 hx with hx | hx
   ·obtain ⟨i, hi, rfl⟩ := c x hx; exact ⟨i, by omega, rfl⟩
   ·exact ⟨q, by omega, List.mem_singleton.1 hx⟩
theorem blkM_up {h : Int} {M S : List Int} (h0 : 0 ≤ h) (h1 : h ≤ 23) (hM : Nums 0 59 M) (hS : Nums 0 59 S) : ∀ q, q ≤ M.length → Up (blkM h M S q) ∧ ∀ x ∈ blkM h M S q, ∃ i j : Nat, i < q ∧ j < S.length ∧ x = 3600 * h + 60 * rd M (i : Int) + rd S (j : Int) := by
 intro q
 induction q with
 | zero => intro _; exact ⟨List.Pairwise.nil, fun x hx => by cases hx⟩
 | succ q ih =>
  intro hq
  obtain ⟨a, c⟩ := ih (by omega)
  obtain ⟨a2, c2⟩ := rowS_up h0 h1 (hM.ge q (by omega)) (hM.le q (by omega)) hS S.length (Nat.le_refl _)
  rw [blkM]
  refine ⟨up_add a a2 (fun x hx y hy => ?_), fun x hx => ?_⟩
  ·obtain ⟨i, j, hi, hj, rfl⟩ := c x hx
   obtain ⟨j', hj', rfl⟩ := c2 y hy
   have := Nums.lt' hM hi (by omega)
   have := hS.le j hj; have := hS.ge j' hj'; omega
  ·rcases List.mem_append.1 hx with hx | hx
   ·obtain ⟨i, j, hi, hj, rfl⟩ := c x hx; exact ⟨i, j, by omega, hj, rfl⟩
   ·obtain ⟨j, hj, rfl⟩ := c2 x hx; exact ⟨q, j, by omega, hj, rfl⟩
theorem allH_up {H M S : List Int} (hH : Nums 0 23 H) (hM : Nums 0 59 M) (hS : Nums 0 59 S) : ∀ q, q ≤ H.length → Up (allH H M S q) ∧ ∀ x ∈ allH H M S q, ∃ o i j : Nat, o < q ∧ i < M.length ∧ j < S.length ∧ x = 3600 * rd H (o : Int) + 60 * rd M (i : Int) + rd S (j : Int) := by
 intro q
 induction q with
 | zero => intro _; exact ⟨List.Pairwise.nil, fun x hx => by cases hx⟩
 | succ q ih =>
  intro hq
  obtain ⟨a, c⟩ := ih (by omega)
  obtain ⟨a2, c2⟩ := blkM_up (hH.ge q (by omega)) (hH.le q (by omega)) hM hS M.length (Nat.le_refl _)
  rw [allH]
  refine ⟨up_add a a2 (fun x hx y hy => ?_), fun x hx => ?_⟩
  ·obtain ⟨o, i, j, ho, hi, hj, rfl⟩ := c x hx
   obtain ⟨i', j', hi', hj', rfl⟩ := c2 y hy
   have := Nums.lt' hH ho (by omega)
   have := hS.le j hj; have := hS.ge j' hj'; have := hM.le i hi; have := hM.ge i' hi'; omega
  ·rcases List.mem_append.1 hx with hx | hx
   ·obtain ⟨o, i, j, ho, hi, hj, rfl⟩ := c x hx; exact ⟨o, i, j, by omega, hi, hj, rfl⟩
   ·obtain ⟨i, j, hi, hj, rfl⟩ := c2 x hx; exact ⟨q, i, j, by omega, hi, hj, rfl⟩
theorem dayG_up (fit : Int → Bool) (f : Int) : ∀ i, Up (dayG fit f i) ∧ ∀ x ∈ dayG fit f i, f ≤ x ∧ x < f + i
 | 0 => ⟨List.Pairwise.nil, fun x hx => by cases hx⟩
 | i + 1 => by
  obtain ⟨a, c⟩ := dayG_up fit f i
  unfold dayG
  split
  ·refine ⟨up_add a (List.pairwise_singleton _ _) (fun x hx y hy => ?_), fun x hx => ?_⟩
   ·rw [List.mem_singleton.1 hy]; exact (c x hx).2
   ·rcases List.mem_append.1 hx with hx | hx
    ·have := c x hx; omega
    ·rw [List.mem_singleton.1 hx]; omega
  ·exact ⟨a, fun x hx => by have := c x hx; omega⟩
theorem rd_mem {l : List Int} {i : Nat} (h : i < l.length) : rd l (i : Int) ∈ l := by rw [rd_get l h]; exact List.getElem_mem h
end Go.Proofs.YtfdcldjoncednaaGreat.ExR
namespace Go.Proofs.YtfdcldjoncednaaGreat.M
open Go.RowKit Go.Proofs.YtfdcldjoncednaaGreatW.PrintWords Go.Proofs.YtfdcldjoncednaaGreatW.PrintLast Go.Proofs.YtfdcldjoncednaaGreatW.PrintMore
attribute [local go_sem] max2_int min2_int max_two min_two
set_option linter.unusedVariables false
set_option linter.unusedSimpArgs false
/-! ### trystref14_date: function 30 -/
def trystref14_date.f (k : Nat) (a0 : Int) : Option (Int × Int × Int) := (trystref01_Date.f k 0 a0).bind fun bt309 => (some (bt309.1, bt309.2.1, bt309.2.2.1))
set_option maxHeartbeats 8000000 in
set_option maxRecDepth 100000 in
theorem trystref14_date.calls (k : Nat) (a0 : Int) (r1 : Int) (r2 : Int) (r3 : Int) (w : World) (h : trystref14_date.f k a0 = some (r1, r2, r3)) :
  Calls Tryz.prog 30 #[.int .i64 a0] w fun e w' => e = .returned (.agg #[.int .i64 r1, .int .i64 r2, .int .i64 r3]) ∧ Below w.heap.size w w' := by
 have hu61 := Tryz.underlying61
 have HB := Aside0.mk (Below.refl w.heap.size w)
 have H : ((trystref01_Date.f k 0 a0).bind fun bt309 => (some (bt309.1, bt309.2.1, bt309.2.2.1))) = some (r1, r2, r3) := h
 clear h
 replace H := Option.bind_eq_some_iff.mp H
 obtain ⟨⟨t309, t310, t311, t312⟩, A20, H⟩ := H
 replace H : (some (t309, t310, t311)) = some (r1, r2, r3) := H
 have A2 := Aside0.mk A20
 clear A20
 simp only [Option.some.injEq, Prod.mk.injEq] at H
 obtain ⟨rfl, rfl, rfl⟩ := H
 go_enter Tryz.func30, Tryz.ntmps30
 go_wp2_with (first | ((with_reducible refine gate_dst (N := 2) rfl ?_); refine box_event ?hg (N := 2) ?hd (cs := #[.int .i64 0, .int .i64 0, .int .i64 0]) (t := 61) ?hr ?_; (case hd => rfl); (case hg => rfl); (case hr => first | (go_simp; done) | (go_simp; rfl)); intro gb308 hg w3 hbox hb; have n0_ := Aside0.mk (below_step (by repeat (first | (with_reducible first | exact HB.out | apply below_alloc | apply pw_below_drewN | apply below_drew1) | exact HB.out)) hb); have n1_ := Aside0.mk (hbox); have n2_ := Aside0.mk ((by rw [hg]; exact (below_size (by repeat (first | (with_reducible first | exact HB.out | apply below_alloc | apply pw_below_drewN | apply below_drew1) | exact HB.out))) : w.heap.size ≤ gb308)); have n3_ := Aside0.mk ((by rw [hg]; exact (below_size (by repeat (first | (with_reducible first | exact HB.out | apply below_alloc | apply pw_below_drewN | apply below_drew1) | exact HB.out))) : w.heap.size ≤ gb308)); clear HB; have HB := n0_; have BK308 := n1_; have GW308 := n2_; have GE308 := n3_; clear n0_ n1_ n2_ n3_; clear hb hbox hg) | ((with_reducible refine gate_callee (f := 57) rfl ?_); refine gm_ (some 7) Tryz.func57 #[.int .i64 0, .int .i64 a0] ?_; (with_reducible refine (trystref01_Date.calls k 0 a0 t309 t310 t311 t312 _ A2.out).mono ?_); rintro e w4 ⟨rfl, hb⟩; refine ⟨_, rfl, ?_⟩; have n0_ := Aside0.mk (blk_below (g := gb308) (o := .cells #[.int .i64 0, .int .i64 0, .int .i64 0] 61 (0, 0)) (by (with_reducible repeat (first | refine blk_drewN ?_ _ | refine blk_drew ?_ | refine blk_alloc ?_ _)); exact BK308.out) hb); have n1_ := Aside0.mk (below_step (by repeat (first | (with_reducible first | exact HB.out | apply below_alloc | apply pw_below_drewN | apply below_drew1 | refine below_set ?_ GE308.out) | exact HB.out)) hb); clear BK308; clear HB; have BK308 := n0_; have HB := n1_; clear n0_ n1_; (try clear hb); (try clear hb2); (try clear hk); (try clear hi)) | ((with_reducible refine gate_dst (N := 3) rfl ?_); refine box_event ?hg (N := 3) ?hd (cs := #[.int .i64 0, .int .i64 0, .int .i64 0]) (t := 61) ?hr ?_; (case hd => rfl); (case hg => rfl); (case hr => first | (go_simp; done) | (go_simp; rfl)); intro gb313 hg w5 hbox hb; have n0_ := Aside0.mk (blk_below (g := gb308) (o := .cells #[.int .i64 0, .int .i64 0, .int .i64 0] 61 (0, 0)) (by (with_reducible repeat (first | refine blk_drewN ?_ _ | refine blk_drew ?_ | refine blk_alloc ?_ _)); exact BK308.out) hb); have n1_ := Aside0.mk (below_step (by repeat (first | (with_reducible first | exact HB.out | apply below_alloc | apply pw_below_drewN | apply below_drew1 | refine below_set ?_ GE308.out) | exact HB.out)) hb); have n2_ := Aside0.mk (hbox); have n3_ := Aside0.mk ((by rw [hg]; exact (below_size (by repeat (first | (with_reducible first | exact HB.out | apply below_alloc | apply pw_below_drewN | apply below_drew1 | refine below_set ?_ GE308.out) | exact HB.out))) : w.heap.size ≤ gb313)); have n4_ := Aside0.mk ((by rw [hg]; exact (below_size (by repeat (first | (with_reducible first | exact HB.out | apply below_alloc | apply pw_below_drewN | apply below_drew1 | refine below_set ?_ GE308.out) | exact HB.out))) : w.heap.size ≤ gb313)); have n5_ := Aside0.mk ((by rw [hg]; exact Nat.ne_of_lt (blk_lt (g := gb308) (o := .cells #[.int .i64 0, .int .i64 0, .int .i64 0] 61 (0, 0)) (by (with_reducible repeat (first | refine blk_drewN ?_ _ | refine blk_drew ?_ | refine blk_alloc ?_ _)); exact BK308.out)) : gb308 ≠ gb313)); have n6_ := Aside0.mk ((by rw [hg]; exact Nat.ne_of_gt (blk_lt (g := gb308) (o := .cells #[.int .i64 0, .int .i64 0, .int .i64 0] 61 (0, 0)) (by (with_reducible repeat (first | refine blk_drewN ?_ _ | refine blk_drew ?_ | refine blk_alloc ?_ _)); exact BK308.out)) : gb313 ≠ gb308)); clear BK308; clear HB; have BK308 := n0_; have HB := n1_; have BK313 := n2_; have GW313 := n3_; have GE313 := n4_; have NB308_313 := n5_; have NB313_308 := n6_; clear n0_ n1_ n2_ n3_ n4_ n5_ n6_; clear hb hbox hg; have hnb6 := NB313_308.out; have hnc6 := NB308_313.out; have hcz7_0 : w5.cell? ⟨gb313, 0, none⟩ = some (.int .i64 0) := (blk_cell BK313.out 0).trans rfl; have hcz7_1 : w5.cell? ⟨gb313, 1, none⟩ = some (.int .i64 0) := (blk_cell BK313.out 1).trans rfl; have hcz7_2 : w5.cell? ⟨gb313, 2, none⟩ = some (.int .i64 0) := (blk_cell BK313.out 2).trans rfl; have hfz7_0 := blk_frozen BK313.out 0; have hfz7_1 := blk_frozen BK313.out 1; have hfz7_2 := blk_frozen BK313.out 2; have hcz8_0 : w5.cell? ⟨gb308, 0, none⟩ = some (.int .i64 0) := (blk_cell BK308.out 0).trans rfl; have hcz8_1 : w5.cell? ⟨gb308, 1, none⟩ = some (.int .i64 0) := (blk_cell BK308.out 1).trans rfl; have hcz8_2 : w5.cell? ⟨gb308, 2, none⟩ = some (.int .i64 0) := (blk_cell BK308.out 2).trans rfl; have hfz8_0 := blk_frozen BK308.out 0; have hfz8_1 := blk_frozen BK308.out 1; have hfz8_2 := blk_frozen BK308.out 2))
 refine bodyPost_ret (results_cell_row rfl _ _ gb308 61 #[.int .i64 t309, .int .i64 t310, .int .i64 t311] (0, 0) _ rfl (by (with_reducible repeat (first | refine blk_drewN ?_ _ | refine blk_drew ?_ | refine blk_alloc ?_ _)); refine blk_put (cs := #[.int .i64 t309, .int .i64 t310, .int .i64 0]) ?_ 2 _ rfl; (with_reducible repeat (first | refine blk_drewN ?_ _ | refine blk_drew ?_ | refine blk_alloc ?_ _)); refine blk_put (cs := #[.int .i64 t309, .int .i64 0, .int .i64 0]) ?_ 1 _ rfl; (with_reducible repeat (first | refine blk_drewN ?_ _ | refine blk_drew ?_ | refine blk_alloc ?_ _)); refine blk_put (cs := #[.int .i64 0, .int .i64 0, .int .i64 0]) ?_ 0 _ rfl; (with_reducible repeat (first | refine blk_drewN ?_ _ | refine blk_drew ?_ | refine blk_alloc ?_ _)); refine blk_far ?_ NB308_313.out _; (with_reducible repeat (first | refine blk_drewN ?_ _ | refine blk_drew ?_ | refine blk_alloc ?_ _)); refine blk_far ?_ NB308_313.out _; (with_reducible repeat (first | refine blk_drewN ?_ _ | refine blk_drew ?_ | refine blk_alloc ?_ _)); refine blk_far ?_ NB308_313.out _; (with_reducible repeat (first | refine blk_drewN ?_ _ | refine blk_drew ?_ | refine blk_alloc ?_ _)); exact BK308.out) Tryz.underlying61 rfl (by kernel_rfl)) rfl ?_
 exact ⟨by first | rfl | (simp [i64_w]; done) | (simp [errW_none, errW_some] <;> rfl) | (simp [*, errW_none, errW_some] <;> rfl), by repeat (first | (with_reducible first | exact HB.out | apply below_alloc | apply pw_below_drewN | apply below_drew1 | refine below_set ?_ GE308.out | refine below_set ?_ GE313.out) | exact HB.out)⟩

/-! ### trystref14_weekday: function 58 -/
def trystref14_weekday.f (a0 : Int) : Option (Int) := (trystref01_Mod.f a0 7).bind fun t314 => (some t314)
set_option maxHeartbeats 8000000 in
set_option maxRecDepth 100000 in
theorem trystref14_weekday.calls (a0 : Int) (r : Int) (w : World) (h : trystref14_weekday.f a0 = some r) :
  Calls Tryz.prog 58 #[.int .i64 a0] w fun e w' => e = .returned (.int .i64 r) ∧ Drawn0 w w' := by
 have H : ((trystref01_Mod.f a0 7).bind fun t314 => (some t314)) = some r := h
 clear h
 replace H := Option.bind_eq_some_iff.mp H
 obtain ⟨t314, A20, H⟩ := H
 replace H : (some t314) = some r := H
 have A2 := Aside0.mk A20
 clear A20
 obtain rfl := Option.some.inj H
 go_enter Tryz.func58, Tryz.ntmps58
 go_wp2_with (first | ((with_reducible refine gate_callee (f := 33) rfl ?_); refine gm_ (some 4) Tryz.func33 #[.int .i64 a0, .int .i64 7] ?_; (with_reducible refine (trystref01_Mod.calls a0 7 t314 _ A2.out).mono ?_); rintro e w' ⟨rfl, ⟨nd, rfl⟩⟩; refine ⟨_, rfl, ?_⟩))
 go_ret
 exact ⟨by first | rfl | simp | simp [*] | simp [bne_nil_], by repeat (first | exact Drawn0.refl _ | apply Drawn0.step)⟩

/-! ### trystref14_Begin: function 31 -/
def trystref14_Begin.l0 : Nat → Int → Int → Option (Int)
 | 0, _, _ => none
 | k + 1, x0, x1 => (trystref14_weekday.f x0).bind fun t315 => (if t315 = x1 then (some x0) else (trystref14_Begin.l0 k (wrap64 (x0 - 1)) x1))
def trystref14_Begin.f (k : Nat) (a0 : Int) (a1 : Int) : Option (Int) := trystref14_Begin.l0 k a0 a1
set_option maxHeartbeats 8000000 in
set_option maxRecDepth 100000 in
theorem trystref14_Begin.calls (k : Nat) (a0 : Int) (a1 : Int) (r : Int) (w : World) (h : trystref14_Begin.f k a0 a1 = some r) :
  Calls Tryz.prog 31 #[.int .i64 a0, .int .i64 a1] w fun e w' => e = .returned (.int .i64 r) ∧ Drawn0 w w' := by
 have H : (trystref14_Begin.l0 k a0 a1) = some r := h
 clear h
 have H' := Aside0.mk H
 clear H
 go_enter Tryz.func31, Tryz.ntmps31
 go_wp2
 go_loopg [0] k (fun kq v0 w' => ∃ (x0_1 : Int), v0 = .int .i64 x0_1 ∧ Aside0 (trystref14_Begin.l0 kq x0_1 a1 = some r) ∧ Aside0 (kq ≤ k) ∧ Drawn0 w w')
 case atStart => exact ⟨(a0), (by first | rfl | (simp; done) | (simp [*]; done)), H', ⟨Nat.le_refl _⟩, by repeat (first | exact Drawn0.refl _ | apply Drawn0.step)⟩
 case round =>
  clear H'
  try clear p2
  obtain ⟨x0_1, rfl, HA, HK1, ⟨m1, rfl⟩⟩ := hrel
  cases gk with
  | zero => exact absurd HA.out (by simp [trystref14_Begin.l0])
  | succ k1 =>
   have H := HA.out
   clear HA
   simp only [trystref14_Begin.l0] at H
   replace H := Option.bind_eq_some_iff.mp H
   obtain ⟨t315, A30, H⟩ := H
   replace H : (if t315 = a1 then (some x0_1) else (trystref14_Begin.l0 k1 (wrap64 (x0_1 - 1)) a1)) = some r := H
   have A3 := Aside0.mk A30
   clear A30
   by_cases c4 : t315 = a1
   ·rw [if_pos c4] at H
    have c4b0 : (t315 == a1) = true := beq_iff_eq.mpr c4
    have c4b1 : (t315 != a1) = false := bne_eq_false_iff_eq.mpr c4
    clear c4
    obtain rfl := Option.some.inj H
    go_wp2_with (first | ((with_reducible refine gate_callee (f := 58) rfl ?_); refine gm_ (some 6) Tryz.func58 #[.int .i64 x0_1] ?_; (with_reducible refine (trystref14_weekday.calls x0_1 t315 _ A3.out).mono ?_); rintro e w' ⟨rfl, ⟨nd, rfl⟩⟩; refine ⟨_, rfl, ?_⟩))
    go_ret
    exact ⟨by first | rfl | simp | simp [*] | simp [bne_nil_], by repeat (first | exact Drawn0.refl _ | apply Drawn0.step)⟩
   ·rw [if_neg c4] at H
    have c4b0 : (t315 == a1) = false := beq_eq_false_iff_ne.mpr c4
    have c4b1 : (t315 != a1) = true := bne_iff_ne.mpr c4
    have H' := Aside0.mk H
    clear H
    go_wp2_with (first | ((with_reducible refine gate_callee (f := 58) rfl ?_); refine gm_ (some 6) Tryz.func58 #[.int .i64 x0_1] ?_; (with_reducible refine (trystref14_weekday.calls x0_1 t315 _ A3.out).mono ?_); rintro e w' ⟨rfl, ⟨nd, rfl⟩⟩; refine ⟨_, rfl, ?_⟩))
    go_roundg k1
    case measure => have := HK1.out; omega
    case rel => exact ⟨(wrap64 (x0_1 - 1)), (by first | rfl | (simp; done) | (simp [*]; done)), H', ⟨by have := HK1.out; omega⟩, by repeat (first | exact Drawn0.refl _ | apply Drawn0.step)⟩

/-! ### trystref14_has: function 78 -/
def trystref14_has.l0 : Nat → List Int → Int → Int → Int → Option (Bool)
 | 0, _, _, _, _ => none
 | k + 1, x0, x1, x7, x8 => if x8 < x7 then (if 0 ≤ x8 then (if x8 < (x0.length : Int) then (if (rd x0 x8) = x1 then (some true) else (trystref14_has.l0 k x0 x1 x7 (wrap64 (x8 + 1)))) else (none)) else (none)) else (some false)
def trystref14_has.f (k : Nat) (l0 : List Int) (a1 : Int) : Option (Bool) := trystref14_has.l0 k l0 a1 (l0.length : Int) 0
set_option maxHeartbeats 8000000 in
set_option maxRecDepth 100000 in
theorem trystref14_has.calls (k : Nat) (A0 : Option Addr) (c0 : Nat) (l0 : List Int) (a1 : Int) (r : Bool) (w : World) (hr0 : Kd.C (Kd.int .i64) w A0 l0.length l0) (hc0 : l0.length ≤ c0) (h : trystref14_has.f k l0 a1 = some r) :
  Calls Tryz.prog 78 #[.slice A0 l0.length c0, .int .i64 a1] w fun e w' => e = .returned (.bool r) ∧ Drawn0 w w' := by
 have HR0 := Aside0.mk hr0
 have HC0 := Aside0.mk hc0
 clear hr0 hc0
 have H : (trystref14_has.l0 k l0 a1 (l0.length : Int) 0) = some r := h
 clear h
 have H' := Aside0.mk H
 clear H
 go_enter Tryz.func78, Tryz.ntmps78
 go_wp2
 go_loopg [8] k (fun kq v8 w' => ∃ (x8_1 : Int), v8 = .int .i64 x8_1 ∧ Aside0 (trystref14_has.l0 kq l0 a1 (l0.length : Int) x8_1 = some r) ∧ Aside0 (kq ≤ k) ∧ Drawn0 w w')
 case atStart => exact ⟨(0), (by first | rfl | (simp; done) | (simp [*]; done)), H', ⟨Nat.le_refl _⟩, by repeat (first | exact Drawn0.refl _ | apply Drawn0.step)⟩
 case round =>
  clear H'
  try clear p2
  obtain ⟨x8_1, rfl, HA, HK1, ⟨m1, rfl⟩⟩ := hrel
  cases gk with
  | zero => exact absurd HA.out (by simp [trystref14_has.l0])
  | succ k1 =>
   have H := HA.out
   clear HA
   simp only [trystref14_has.l0] at H
   by_cases c3 : x8_1 < (l0.length : Int)
   ·rw [if_pos c3] at H
    have c3b0 : decide (x8_1 < (l0.length : Int)) = true := decide_eq_true c3
    clear c3
    by_cases c4 : 0 ≤ x8_1
    ·rw [if_pos c4] at H
     have c4b0 : decide (0 ≤ x8_1) = true := decide_eq_true c4
     clear c4
     by_cases c5 : x8_1 < (l0.length : Int)
     ·rw [if_pos c5] at H
      have c5b0 : decide (x8_1 < (l0.length : Int)) = true := decide_eq_true c5
      clear c5
      by_cases c6 : (rd l0 x8_1) = a1
      ·rw [if_pos c6] at H
       have c6b0 : ((rd l0 x8_1) == a1) = true := beq_iff_eq.mpr c6
       have c6b1 : ((rd l0 x8_1) != a1) = false := bne_eq_false_iff_eq.mpr c6
       clear c6
       obtain rfl := Option.some.inj H
       have p351 : 0 ≤ (x8_1 : Int) := of_decide_eq_true (by first | (with_reducible assumption) | assumption)
       have q351 : x8_1 < (l0.length : Int) := of_decide_eq_true (by first | (with_reducible assumption) | assumption)
       obtain ⟨ad351, e351, hx351_0⟩ := Kd.at_int HR0.out x8_1 p351 q351
       cases e351
       replace p351 := eq_true p351
       replace q351 := eq_true q351
       go_wp2
       go_ret
       exact ⟨by first | rfl | simp | simp [*] | simp [bne_nil_], by repeat (first | exact Drawn0.refl _ | apply Drawn0.step)⟩
      ·rw [if_neg c6] at H
       have c6b0 : ((rd l0 x8_1) == a1) = false := beq_eq_false_iff_ne.mpr c6
       have c6b1 : ((rd l0 x8_1) != a1) = true := bne_iff_ne.mpr c6
       have H' := Aside0.mk H
       clear H
       have p351 : 0 ≤ (x8_1 : Int) := of_decide_eq_true (by first | (with_reducible assumption) | assumption)
       have q351 : x8_1 < (l0.length : Int) := of_decide_eq_true (by first | (with_reducible assumption) | assumption)
       obtain ⟨ad351, e351, hx351_0⟩ := Kd.at_int HR0.out x8_1 p351 q351
       cases e351
       replace p351 := eq_true p351
       replace q351 := eq_true q351
       go_wp2
       go_roundg k1
       case measure => have := HK1.out; omega
       case rel => exact ⟨(wrap64 (x8_1 + 1)), (by first | rfl | (simp; done) | (simp [*]; done)), H', ⟨by have := HK1.out; omega⟩, by repeat (first | exact Drawn0.refl _ | apply Drawn0.step)⟩
     ·rw [if_neg c5] at H
      exact absurd H (by simp)
    ·rw [if_neg c4] at H
     exact absurd H (by simp)
   ·rw [if_neg c3] at H
    have c3b0 : decide (x8_1 < (l0.length : Int)) = false := decide_eq_false c3
    clear c3
    obtain rfl := Option.some.inj H
    go_wp2
    go_ret
    exact ⟨by first | rfl | simp | simp [*] | simp [bne_nil_], by repeat (first | exact Drawn0.refl _ | apply Drawn0.step)⟩

/-! ### trystref14_counted: function 44 -/
def trystref14_counted.f (k : Nat) (l0 : List Int) (a1 : Int) (a2 : Int) : Option (Bool) := (trystref14_has.f k l0 a1).bind fun t352 => (if t352 = true then (some true) else ((trystref14_has.f k l0 (wrap64 ((wrap64 (a1 - a2)) - 1))).bind fun t353 => (some t353)))
set_option maxHeartbeats 8000000 in
set_option maxRecDepth 100000 in
theorem trystref14_counted.calls (k : Nat) (A0 : Option Addr) (c0 : Nat) (l0 : List Int) (a1 : Int) (a2 : Int) (r : Bool) (w : World) (hr0 : Kd.C (Kd.int .i64) w A0 l0.length l0) (hc0 : l0.length ≤ c0) (h : trystref14_counted.f k l0 a1 a2 = some r) :
  Calls Tryz.prog 44 #[.slice A0 l0.length c0, .int .i64 a1, .int .i64 a2] w fun e w' => e = .returned (.bool r) ∧ Drawn0 w w' := by
 have HR0 := Aside0.mk hr0
 have HC0 := Aside0.mk hc0
 clear hr0 hc0
 have H : ((trystref14_has.f k l0 a1).bind fun t352 => (if t352 = true then (some true) else ((trystref14_has.f k l0 (wrap64 ((wrap64 (a1 - a2)) - 1))).bind fun t353 => (some t353)))) = some r := h
 clear h
 replace H := Option.bind_eq_some_iff.mp H
 obtain ⟨t352, A40, H⟩ := H
 replace H : (if t352 = true then (some true) else ((trystref14_has.f k l0 (wrap64 ((wrap64 (a1 - a2)) - 1))).bind fun t353 => (some t353))) = some r := H
 have A4 := Aside0.mk A40
 clear A40
 by_cases c5 : t352 = true
 ·subst c5
  have H1 : (some true) = some r := by rw [if_pos rfl] at H; exact H
  clear H
  have H := H1
  clear H1
  obtain rfl := Option.some.inj H
  go_enter Tryz.func44, Tryz.ntmps44
  go_wp2_with (first | ((with_reducible refine gate_callee (f := 78) rfl ?_); refine gm_ (some 9) Tryz.func78 #[.slice A0 l0.length c0, .int .i64 a1] ?_; (with_reducible refine (trystref14_has.calls k _ _ l0 a1 true _ ?side1 ?side2 A4.out).mono ?_); (case side1 => repeat (first | exact HR0.out | (with_reducible refine Kd.C_alloc ?_ _) | (with_reducible refine Kd.C_drewN ?_ _) | (with_reducible refine Kd.C_drew ?_))); (case side2 => exact HC0.out); rintro e w' ⟨rfl, ⟨nd, rfl⟩⟩; refine ⟨_, rfl, ?_⟩))
  go_ret
  exact ⟨by first | rfl | simp | simp [*] | simp [bne_nil_], by repeat (first | exact Drawn0.refl _ | apply Drawn0.step)⟩
 ·replace c5 := Bool.eq_false_iff.mpr c5
  subst c5
  have H1 : ((trystref14_has.f k l0 (wrap64 ((wrap64 (a1 - a2)) - 1))).bind fun t353 => (some t353)) = some r := by rw [if_neg (show ¬ (false = true) by decide)] at H; exact H
  clear H
  have H := H1
  clear H1
  replace H := Option.bind_eq_some_iff.mp H
  obtain ⟨t353, A60, H⟩ := H
  replace H : (some t353) = some r := H
  have A6 := Aside0.mk A60
  clear A60
  obtain rfl := Option.some.inj H
  go_enter Tryz.func44, Tryz.ntmps44
  go_wp2_with (first | ((with_reducible refine gate_callee (f := 78) rfl ?_); refine gm_ (some 9) Tryz.func78 #[.slice A0 l0.length c0, .int .i64 a1] ?_; (with_reducible refine (trystref14_has.calls k _ _ l0 a1 false _ ?side1 ?side2 A4.out).mono ?_); (case side1 => repeat (first | exact HR0.out | (with_reducible refine Kd.C_alloc ?_ _) | (with_reducible refine Kd.C_drewN ?_ _) | (with_reducible refine Kd.C_drew ?_))); (case side2 => exact HC0.out); rintro e w' ⟨rfl, ⟨nd, rfl⟩⟩; refine ⟨_, rfl, ?_⟩) | (go_at_call 78; (with_reducible refine (trystref14_has.calls k _ _ l0 (wrap64 ((wrap64 (a1 - a2)) - 1)) t353 _ ?side1 ?side2 A6.out).mono ?_); (case side1 => repeat (first | exact HR0.out | (with_reducible refine Kd.C_alloc ?_ _) | (with_reducible refine Kd.C_drewN ?_ _) | (with_reducible refine Kd.C_drew ?_))); (case side2 => exact HC0.out); rintro e w' ⟨rfl, ⟨nd, rfl⟩⟩))
  go_ret
  exact ⟨by first | rfl | simp | simp [*] | simp [bne_nil_], by repeat (first | exact Drawn0.refl _ | apply Drawn0.step)⟩

/-! ### trystref14_year: function 80 -/
def trystref14_year.f (k : Nat) (a0 : Int) : Option (Int) := (trystref01_Fixed.f k 0 (wrap64 (a0 + 1)) 1 1).bind fun t361 => ((trystref01_Fixed.f k 0 a0 1 1).bind fun t362 => (some (wrap64 (t361 - t362))))
set_option maxHeartbeats 8000000 in
set_option maxRecDepth 100000 in
theorem trystref14_year.calls (k : Nat) (a0 : Int) (r : Int) (w : World) (h : trystref14_year.f k a0 = some r) :
  Calls Tryz.prog 80 #[.int .i64 a0] w fun e w' => e = .returned (.int .i64 r) ∧ Drawn0 w w' := by
 have H : ((trystref01_Fixed.f k 0 (wrap64 (a0 + 1)) 1 1).bind fun t361 => ((trystref01_Fixed.f k 0 a0 1 1).bind fun t362 => (some (wrap64 (t361 - t362))))) = some r := h
 clear h
 replace H := Option.bind_eq_some_iff.mp H
 obtain ⟨t361, A20, H⟩ := H
 replace H : ((trystref01_Fixed.f k 0 a0 1 1).bind fun t362 => (some (wrap64 (t361 - t362)))) = some r := H
 have A2 := Aside0.mk A20
 clear A20
 replace H := Option.bind_eq_some_iff.mp H
 obtain ⟨t362, A30, H⟩ := H
 replace H : (some (wrap64 (t361 - t362))) = some r := H
 have A3 := Aside0.mk A30
 clear A30
 obtain rfl := Option.some.inj H
 go_enter Tryz.func80, Tryz.ntmps80
 go_wp2_with (first | ((with_reducible refine gate_callee (f := 34) rfl ?_); refine gm_ (some 5) Tryz.func34 #[.int .i64 0, .int .i64 (wrap64 (a0 + 1)), .int .i64 1, .int .i64 1] ?_; (with_reducible refine (trystref01_Fixed.calls k 0 (wrap64 (a0 + 1)) 1 1 t361 _ A2.out).mono ?_); rintro e w' ⟨rfl, ⟨nd, rfl⟩⟩; refine ⟨_, rfl, ?_⟩) | ((with_reducible refine gate_callee (f := 34) rfl ?_); refine gm_ (some 7) Tryz.func34 #[.int .i64 0, .int .i64 a0, .int .i64 1, .int .i64 1] ?_; (with_reducible refine (trystref01_Fixed.calls k 0 a0 1 1 t362 _ A3.out).mono ?_); rintro e w' ⟨rfl, ⟨nd, rfl⟩⟩; refine ⟨_, rfl, ?_⟩))
 go_ret
 exact ⟨by first | rfl | simp | simp [*] | simp [bne_nil_], by repeat (first | exact Drawn0.refl _ | apply Drawn0.step)⟩

end Go.Proofs.YtfdcldjoncednaaGreat.M
/- trystref14.Times. (Written by gen_reft.py.) -/
namespace Go.Proofs.YtfdcldjoncednaaGreat.RefT
open Go.RowKit Go.Proofs.YtfdcldjoncednaaGreatW.PrintWords Go.Proofs.YtfdcldjoncednaaGreatW.PrintLast Go.Proofs.YtfdcldjoncednaaGreatW.PrintMore Go.Proofs.YtfdcldjoncednaaGreat.M Go.Proofs.YtfdcldjoncednaaGreat.Ru Go.Proofs.YtfdcldjoncednaaGreat.MatP Go.Proofs.YtfdcldjoncednaaGreat.ExD Go.Proofs.YtfdcldjoncednaaGreat.ExO Go.Proofs.YtfdcldjoncednaaGreat.ExT
set_option linter.unusedVariables false
set_option linter.unusedSimpArgs false
/-- What the document's Span and Fits answer, wherever the rule's lists lie. -/
abbrev SpanD (r : Ru) (p : Rp) (d n f l : Int) : Prop := ∀ w, Ok r p w → Calls Tryz.prog 12 #[.agg (agg r p), .int .i64 d, .int .i64 n] w fun q w' => q = .returned (.tuple #[.int .i64 f, .int .i64 l]) ∧ Below w.heap.size w w'
abbrev FitD (r : Ru) (p : Rp) (b d : Int) (v : Bool) : Prop := ∀ w, Ok r p w → Calls Tryz.prog 43 #[.agg (agg r p), .int .i64 b, .int .i64 d] w fun q w' => q = .returned (.bool v) ∧ Below w.heap.size w w'
/-- A time of a day. -/
def timR (d s : Int) : Int := wrap64 (wrap64 (86400 * d) + s)
/-- Of a row those whose places are counted: sel tells which. -/
def SelR (k : Nat) (l places : List Int) (sel : Nat → Bool) : Prop := ∀ i : Nat, i < l.length → trystref14_counted.f k places ((i : Int) + 1) (l.length : Int) = some (sel i)
set_option maxHeartbeats 4000000 in
set_option maxRecDepth 100000 in
theorem neg (r : Ru) (p : Rp) (b n : Int) (A3 : Option Addr) (c3 : Nat) (D : List Int) (w : World) (hn : n < 0 ∨ ∃ z, 1 ≤ r.a1 ∧ Int.tmod n r.a1 = z ∧ z ≠ 0) :
  Calls Tryz.prog 21 #[.agg (agg r p), .int .i64 b, .int .i64 n, .slice A3 D.length c3] w fun q w' => Out w.heap.size w' [] q ∧ Below w.heap.size w w' := by
 have HK := Aside0.mk (blk_new w (obj r p))
 have HB := Aside0.mk (below_alloc (Below.refl w.heap.size w) (obj r p))
 go_enter Tryz.func21, Tryz.ntmps21
 go_upto_region 1 with fail
 generalize w.alloc (obj r p) = w0 at HK HB ⊢
 have kb1 : w0.cell? ⟨w.heap.size, 1, none⟩ = some (.int .i64 r.a1) := (blk_cell HK.out 1).trans rfl
 by_cases c : n < 0
 ·have c1 : decide (n < 0) = true := decide_eq_true c
  clear c hn
  go_wp2_with fail
  go_ret
  exact ⟨out_nil _ _, HB.out⟩
 ·obtain ⟨z, hi, hz, hz0⟩ := hn.resolve_left c
  have c1 : decide (n < 0) = false := decide_eq_false c
  have g1 : (r.a1 == 0) = false := beq_eq_false_iff_ne.2 (by omega)
  have g2 : ¬ r.a1 = 0 := by omega
  have g3 : (z != 0) = true := bne_iff_ne.2 hz0
  clear c hn hi hz0
  go_wp2_with fail
  go_ret
  exact ⟨out_nil _ _, HB.out⟩
set_option maxHeartbeats 8000000 in
set_option maxRecDepth 100000 in
theorem times (r : Ru) (p : Rp) (b n : Int) (A3 : Option Addr) (c3 : Nat) (D : List Int) (hn : ¬ n < 0) (hi : 1 ≤ r.a1) (hz : Int.tmod n r.a1 = 0) (dy f l : Int) (hd : wrap64 (Int.tdiv b 86400) = dy) (hsp : SpanD r p dy n f l) (fit : Int → Bool) (hfit : ∀ d, f ≤ d → d ≤ l → FitD r p dy d (fit d)) (N : Nat) (hN : (N : Int) = l + 1 - f ∨ (N = 0 ∧ l < f)) (f0 : -1000000000 ≤ f) (l1 : l ≤ 1000000000) (hNb : N ≤ 1000000000)
  (F1 : Nat → List Int) (F2 : Nat → Nat → List Int) (h0 : F1 0 = []) (h1 : ∀ i, F2 i 0 = F1 i) (h2 : ∀ i j, F2 i (j + 1) = F2 i j ++ [timR (f + i) (rd D (j : Int))]) (h3 : ∀ i : Nat, F1 (i + 1) = if fit (f + i) = true then F2 i D.length else F1 i) (hD : D.length ≤ 1000000000) (fl : ∀ i j, i < N → j < D.length → (F2 i j).length ≤ 17000000000000)
  (T : List Int) (hT : F1 N = T) (k : Nat) (sel : Nat → Bool) (G : Nat → List Int) (hs : r.l16.length ≠ 0 → SelR k T r.l16 sel) (hl : T.length ≤ 17000000000000) (g0 : G 0 = []) (g1 : ∀ i : Nat, G (i + 1) = if sel i = true then G i ++ [rd T (i : Int)] else G i) (hG : ∀ i, (G i).length ≤ i) (w : World) (ok : Ok r p w) (hC3 : (Kd.int .i64).C w A3 D.length D) (hc3 : D.length ≤ c3) :
  Calls Tryz.prog 21 #[.agg (agg r p), .int .i64 b, .int .i64 n, .slice A3 D.length c3] w fun q w' => Out w.heap.size w' (choL r.l16 T (G T.length)) q ∧ Below w.heap.size w w' := by
 have OK := Aside0.mk ok; have HD := Aside0.mk hd; have HS := Aside0.mk hsp; have HFIT := Aside0.mk hfit; have HN := Aside0.mk hN; have HBD := Aside0.mk (And.intro f0 (And.intro l1 (And.intro hNb hD))); have A0 := Aside0.mk h0; have A1 := Aside0.mk h1; have A2 := Aside0.mk h2; have A3_ := Aside0.mk h3; have AL := Aside0.mk fl; have HT := Aside0.mk hT; have HSEL := Aside0.mk hs; have HLT := Aside0.mk hl; have G0 := Aside0.mk g0; have G1 := Aside0.mk g1; have GL := Aside0.mk hG
 have CD := Aside0.mk hC3; have CCD := Aside0.mk hc3
 clear ok hd hsp hfit hN f0 l1 hNb hD h0 h1 h2 h3 fl hT hs hl g0 g1 hG hC3 hc3
 have HK := Aside0.mk (blk_new w (obj r p))
 have HB := Aside0.mk (below_alloc (Below.refl w.heap.size w) (obj r p))
 go_enter Tryz.func21, Tryz.ntmps21
 go_upto_region 1 with fail
 generalize w.alloc (obj r p) = w0 at HK HB ⊢
 have kb1 : w0.cell? ⟨w.heap.size, 1, none⟩ = some (.int .i64 r.a1) := (blk_cell HK.out 1).trans rfl
 have c1 : decide (n < 0) = false := decide_eq_false hn
 have g1_ : (r.a1 == 0) = false := beq_eq_false_iff_ne.2 (by omega)
 have g2_ : ¬ r.a1 = 0 := by omega
 clear hn hi
 have EDY := HD.out
 go_wp2_with ((with_reducible refine gate_ (.load 27 (.tmp 4)) rfl ?_); (try (refine gate_guard (by rfl) ?_; dsimp only)); refine Kd.event_run rfl (MatP.xR (.tmp 4) (w.heap.size) r p rfl rfl _ HK.out) ?_)
 refine (HS.out w0 (OK.out.below HB.out)).mono ?_
 rintro q wb ⟨rfl, hb⟩
 replace HK := Aside0.mk (blk_below HK.out hb)
 replace HB := Aside0.mk (below_then HB.out HB.out.size hb)
 replace CD := Aside0.mk (Kd.C_below CD.out HB.out)
 clear hb kb1 g1_ g2_ hz
 go_wp2_with fail
 go_loopg [11, 12] N (fun kq v11 v12 w' => ∃ (i : Nat) (x : Int), v12 = .int .i64 x ∧ Aside0 (x = f + i) ∧ Aside0 (i + kq = N) ∧ Aside0 ((Kd.int .i64).R 2 w' wb.heap.size (fun _ => True) v11 (F1 i)) ∧ Aside0 (Below wb.heap.size wb w'))
 case atStart => exact ⟨0, f, rfl, ⟨by simp⟩, ⟨by omega⟩, ⟨by rw [A0.out]; exact Kd.R_nil _ _ _ _ _⟩, ⟨Below.refl _ _⟩⟩
 case round =>
  obtain ⟨i, x, rfl, HX, HI, HO, HL⟩ := hrel
  have HW := Aside0.mk (below_then HB.out HB.out.size HL.out)
  cases gk with
  | zero =>
   obtain ⟨wT, rfl⟩ : ∃ v, v = wr := ⟨_, rfl⟩
   have l1 : decide (x ≤ l) = false := decide_eq_false (by have := HX.out; have := HI.out; have := HN.out; omega)
   have e : i = N := by have := HI.out; omega
   rw [e, HT.out] at HO; clear e
   obtain ⟨AT, cT, hv, hcT, hCT⟩ := Kd.R_reads HO.out
   have HFR := Aside0.mk (show ∀ ad, AT = some ad → w.heap.size ≤ ad.block from fun ad e => Nat.le_trans HB.out.size (Kd.R_base HO.out _ (by rw [hv, e]; rfl)))
   have CT := Aside0.mk hCT; have CCT := Aside0.mk hcT; subst hv; clear hCT hcT HO
   have HKW := Aside0.mk (blk_below HK.out HL.out)
   have k16 : wT.cell? ⟨w.heap.size, 16, none⟩ = some (.slice p.A16 r.l16.length p.c16) := (blk_cell HKW.out 16).trans rfl
   by_cases z : r.l16.length = 0
   ·have z1 : ((r.l16.length : Int) == 0) = true := beq_iff_eq.2 (by omega)
    have e : choL r.l16 T (G T.length) = T := if_pos z
    have EC := Aside0.mk e; clear z e
    go_wp2_with fail
    go_ret
    exact ⟨⟨AT, cT, by rw [EC.out]; rfl, by rw [EC.out]; exact CT.out, by rw [EC.out]; exact CCT.out, HFR.out⟩, HW.out⟩
   have z1 : ((r.l16.length : Int) == 0) = false := beq_eq_false_iff_ne.2 (by omega)
   have HSl := Aside0.mk (HSEL.out z)
   have e : choL r.l16 T (G T.length) = G T.length := if_neg z
   have EC := Aside0.mk e; clear z e
   go_wp2_with fail
   go_loopg [14, 68] T.length (fun kq v14 v68 w' => ∃ (i : Nat) (x : Int), v68 = .int .i64 x ∧ Aside0 (x = (i : Int)) ∧ Aside0 (i + kq = T.length) ∧ Aside0 ((Kd.int .i64).R 2 w' wT.heap.size (fun _ => True) v14 (G i)) ∧ Aside0 (Below wT.heap.size wT w'))
   case atStart => exact ⟨0, 0, rfl, ⟨rfl⟩, ⟨by omega⟩, ⟨by rw [G0.out]; exact Kd.R_nil _ _ _ _ _⟩, ⟨Below.refl _ _⟩⟩
   case round =>
    obtain ⟨i, x, rfl, HX, HI, HO, HM⟩ := hrel
    cases gk with
    | zero =>
     have l1 : decide (x < (T.length : Int)) = false := decide_eq_false (by have := HX.out; have := HI.out; omega)
     have e : i = T.length := by have := HI.out; omega
     rw [e] at HO; clear e
     go_wp2_with fail
     go_ret
     exact ⟨by rw [EC.out]; exact out_of HO.out HW.out.size, below_then HW.out HW.out.size HM.out⟩
    | succ k1 =>
     have p1 : 0 ≤ x := by have := HX.out; omega
     have q1 : x < (T.length : Int) := by have := HX.out; have := HI.out; omega
     have l1 : decide (x < (T.length : Int)) = true := decide_eq_true q1
     obtain ⟨ad, e, hx⟩ := Kd.at_int (Kd.C_below CT.out HM.out) x p1 q1
     cases e
     replace p1 := eq_true p1
     replace q1 := eq_true q1
     have nx : wrap64 (x + 1) = x + 1 := by have := HX.out; have := HI.out; have := HLT.out; unfold wrap64; omega
     have s1 := HSl.out i (by have := HI.out; omega)
     rw [← HX.out] at s1
     have S1 := Aside0.mk s1; clear s1
     have GN := Aside0.mk (G1.out i); rw [← HX.out] at GN
     have BW := Aside0.mk (below_then HW.out HW.out.size HM.out)
     have k16 : wr.cell? ⟨w.heap.size, 16, none⟩ = some (.slice p.A16 r.l16.length p.c16) := (blk_cell (blk_below HKW.out HM.out) 16).trans rfl
     obtain ⟨y, hy⟩ : ∃ y, rd T x = y := ⟨_, rfl⟩
     rw [hy] at hx GN; clear hy
     obtain ⟨li, hli⟩ : ∃ li, G i = li := ⟨_, rfl⟩
     have LN := Aside0.mk (GL.out i); rw [hli] at HO LN GN
     clear hli
     go_wp2_with fail
     refine (trystref14_counted.calls k p.A16 p.c16 r.l16 (x + 1) (T.length : Int) (sel i) _ (OK.out.below BW.out).h16 OK.out.d16 S1.out).mono ?_
     rintro q w2 ⟨rfl, ⟨nd, rfl⟩⟩
     replace HO := Aside0.mk (Kd.R_drewN HO.out nd); replace HM := Aside0.mk (pw_below_drewN HM.out nd)
     have hx2 : (wr.drewN nd).cell? (ad.add x.toNat) = some (.int .i64 y) := hx
     clear hx k16 BW
     generalize wr.drewN nd = wy at HO HM hx2 ⊢
     cases hv : sel i with
     | false =>
      rw [hv, if_neg (by simp)] at GN
      clear hv S1
      go_wp2_with fail
      go_roundg k1
      case measure => omega
      case rel => exact ⟨i + 1, x + 1, by simp [nx], ⟨by have := HX.out; push_cast; omega⟩, ⟨by have := HI.out; omega⟩, ⟨by rw [GN.out]; exact HO.out⟩, HM⟩
     | true =>
      rw [hv, if_pos rfl] at GN
      clear hv S1
      go_wp2_with ((with_reducible refine gate_builtin (b := .append) (xs := #[.tmp 78, .tmp 83]) rfl ?_); (try (refine gate_guard (by rfl) ?_; dsimp only)); at_builtin; refine Kd.R_append (Kd.int .i64) (w0 := wT) wT.heap.size rfl (.tmp 78) (.tmp 83) 42 2 (.int .i64 0) 8 rfl Tryz.underlying42 (by kernel_rfl) rfl (by decide) (by omega) _ li (y) [.int .i64 (y)] (fun _ => True) (fun _ => False) rfl rfl ?aP (fun _ hk => hk.elim) ?aF ?aO ?aB ?aS ?aL ?_; (case aP => exact rfl); (case aB => exact (by repeat (first | (with_reducible first | exact HM.out | apply below_alloc | apply pw_below_drewN | apply below_drew1) | exact HM.out))); (case aF => exact (fun _ _ => trivial)); (case aO => exact (by (with_reducible repeat (first | apply Kd.R_alloc | apply Kd.R_drewN | apply Kd.R_drew)); exact HO.out)); (case aS => exact (below_size (by repeat (first | (with_reducible first | exact HM.out | apply below_alloc | apply pw_below_drewN | apply below_drew1) | exact HM.out)))); (case aL => have := LN.out; have := HI.out; have := HLT.out; omega); intro v_ w_ ho hb hg hat;  clear hg hat; replace HO := Aside0.mk ho; replace HM := Aside0.mk hb; clear ho hb)
      go_roundg k1
      case measure => omega
      case rel => exact ⟨i + 1, x + 1, by simp [nx], ⟨by have := HX.out; push_cast; omega⟩, ⟨by have := HI.out; omega⟩, ⟨by rw [GN.out]; exact HO.out⟩, HM⟩
  | succ k1 =>
   have xl : x ≤ l := by have := HX.out; have := HI.out; have := HN.out; omega
   have l1 : decide (x ≤ l) = true := decide_eq_true xl
   have nx : wrap64 (x + 1) = x + 1 := by have := HBD.out; have := HX.out; have := HI.out; unfold wrap64; omega
   have FX := Aside0.mk (HFIT.out x (by have := HX.out; omega) xl)
   have F3 := Aside0.mk (A3_.out i); rw [← HX.out] at F3
   have F2_ := Aside0.mk (A2.out i); rw [← HX.out] at F2_
   have HKW := Aside0.mk (blk_below HK.out HL.out)
   clear xl
   go_wp2_with ((with_reducible refine gate_ (.load 27 (.tmp 4)) rfl ?_); (try (refine gate_guard (by rfl) ?_; dsimp only)); refine Kd.event_run rfl (MatP.xR (.tmp 4) (w.heap.size) r p rfl rfl _ HKW.out) ?_)
   refine (FX.out wr (OK.out.below HW.out)).mono ?_
   rintro q w2 ⟨rfl, hb⟩
   replace HO := Aside0.mk (Kd.R_below HO.out hb)
   replace HL := Aside0.mk (below_then HL.out HL.out.size hb)
   clear hb HKW HW FX
   cases hv : fit x with
   | false =>
    rw [hv, if_neg (by simp)] at F3
    clear hv
    go_wp2_with fail
    go_roundg k1
    case measure => omega
    case rel => exact ⟨i + 1, x + 1, by simp [nx], ⟨by have := HX.out; push_cast; omega⟩, ⟨by have := HI.out; omega⟩, ⟨by rw [F3.out]; exact HO.out⟩, HL⟩
   | true =>
    rw [hv, if_pos rfl] at F3
    clear hv
    go_wp2_with fail
    go_loopg [11, 47] D.length (fun kq v11 v47 w' => ∃ (j : Nat) (y : Int), v47 = .int .i64 y ∧ Aside0 (y = (j : Int)) ∧ Aside0 (j + kq = D.length) ∧ Aside0 ((Kd.int .i64).R 2 w' wb.heap.size (fun _ => True) v11 (F2 i j)) ∧ Aside0 (Below wb.heap.size wb w'))
    case atStart => exact ⟨0, 0, rfl, ⟨rfl⟩, ⟨by omega⟩, ⟨by rw [A1.out]; exact HO.out⟩, HL⟩
    case round =>
     clear HO HL
     obtain ⟨j, y, rfl, HY, HJ, HO, HL⟩ := hrel
     cases gk with
     | zero =>
      have l1 : decide (y < (D.length : Int)) = false := decide_eq_false (by have := HY.out; have := HJ.out; omega)
      have e : j = D.length := by have := HJ.out; omega
      have EJ := Aside0.mk e; clear e
      go_wp2_with fail
      go_roundg k1
      case measure => omega
      case rel => exact ⟨i + 1, x + 1, by simp [nx], ⟨by have := HX.out; push_cast; omega⟩, ⟨by have := HI.out; omega⟩, ⟨by rw [F3.out, ← EJ.out]; exact HO.out⟩, HL⟩
     | succ k2 =>
      have p2 : 0 ≤ y := by have := HY.out; omega
      have q2 : y < (D.length : Int) := by have := HY.out; have := HJ.out; omega
      have l2 : decide (y < (D.length : Int)) = true := decide_eq_true q2
      obtain ⟨ad2, e, hy⟩ := Kd.at_int (Kd.C_below CD.out HL.out) y p2 q2
      cases e
      replace p2 := eq_true p2
      replace q2 := eq_true q2
      have ny : wrap64 (y + 1) = y + 1 := by have := HY.out; have := HJ.out; have := HBD.out; unfold wrap64; omega
      obtain ⟨mv, hmv⟩ : ∃ mv, rd D y = mv := ⟨_, rfl⟩
      rw [hmv] at hy
      have MV := Aside0.mk hmv; rw [HY.out] at MV; clear hmv
      have GN := Aside0.mk (F2_.out j); rw [MV.out] at GN
      obtain ⟨y1, hy1⟩ : ∃ y1, timR x mv = y1 := ⟨_, rfl⟩
      rw [hy1] at GN
      unfold timR at hy1
      obtain ⟨li, hli⟩ : ∃ li, F2 i j = li := ⟨_, rfl⟩
      have LN := Aside0.mk (AL.out i j (by have := HI.out; omega) (by have := HJ.out; omega))
      rw [hli] at HO LN GN; clear hli
      go_wp2_with ((with_reducible refine gate_builtin (b := .append) (xs := #[.tmp 50, .tmp 58]) rfl ?_); (try (refine gate_guard (by rfl) ?_; dsimp only)); at_builtin; refine Kd.R_append (Kd.int .i64) (w0 := wb) wb.heap.size rfl (.tmp 50) (.tmp 58) 42 2 (.int .i64 0) 8 rfl Tryz.underlying42 (by kernel_rfl) rfl (by decide) (by omega) _ li (y1) [.int .i64 (y1)] (fun _ => True) (fun _ => False) rfl rfl ?aP (fun _ hk => hk.elim) ?aF ?aO ?aB ?aS ?aL ?_; (case aP => exact rfl); (case aB => exact (by repeat (first | (with_reducible first | exact HL.out | apply below_alloc | apply pw_below_drewN | apply below_drew1) | exact HL.out))); (case aF => exact (fun _ _ => trivial)); (case aO => exact (by (with_reducible repeat (first | apply Kd.R_alloc | apply Kd.R_drewN | apply Kd.R_drew)); exact HO.out)); (case aS => exact (below_size (by repeat (first | (with_reducible first | exact HL.out | apply below_alloc | apply pw_below_drewN | apply below_drew1) | exact HL.out)))); (case aL => have := LN.out; omega); intro v_ w_ ho hb hg hat;  clear hg hat; replace HO := Aside0.mk ho; replace HL := Aside0.mk hb; clear ho hb)
      go_roundg k2
      case measure => omega
      case rel => exact ⟨j + 1, y + 1, by simp [ny], ⟨by have := HY.out; push_cast; omega⟩, ⟨by have := HJ.out; omega⟩, ⟨by rw [GN.out]; exact HO.out⟩, HL⟩
end Go.Proofs.YtfdcldjoncednaaGreat.RefT
/- trystref14.Means. (Written by gen_refm.py.) -/
namespace Go.Proofs.YtfdcldjoncednaaGreat.RefM
open Go.RowKit Go.Proofs.YtfdcldjoncednaaGreatW.PrintWords Go.Proofs.YtfdcldjoncednaaGreatW.PrintLast Go.Proofs.YtfdcldjoncednaaGreatW.PrintMore Go.Proofs.YtfdcldjoncednaaGreat.M Go.Proofs.YtfdcldjoncednaaGreat.Ru Go.Proofs.YtfdcldjoncednaaGreat.MatP Go.Proofs.YtfdcldjoncednaaGreat.ExD Go.Proofs.YtfdcldjoncednaaGreat.ExO Go.Proofs.YtfdcldjoncednaaGreat.ExT Go.Proofs.YtfdcldjoncednaaGreat.RefT
set_option linter.unusedVariables false
set_option linter.unusedSimpArgs false
attribute [local go_sem] max2_int min2_int max_two min_two
/-- Enough? -/
def full (c : Int) (n : Nat) : Bool := decide (c > 0) && decide ((n : Int) ≥ c)
abbrev SecD (r : Ru) (p : Rp) (b : Int) (D : List Int) : Prop := ∀ w, Ok r p w → Calls Tryz.prog 22 #[.agg (agg r p), .int .i64 b] w fun q w' => Out w.heap.size w' D q ∧ Below w.heap.size w w'
abbrev TimD (r : Ru) (p : Rp) (b n : Int) (D T : List Int) : Prop := ∀ w A c, Ok r p w → (Kd.int .i64).C w A D.length D → D.length ≤ c → Calls Tryz.prog 21 #[.agg (agg r p), .int .i64 b, .int .i64 n, .slice A D.length c] w fun q w' => Out w.heap.size w' T q ∧ Below w.heap.size w w'
set_option maxHeartbeats 4000000 in
set_option maxRecDepth 100000 in
theorem nothing (r : Ru) (p : Rp) (b last most : Int) (w : World) (h : b > last ∨ most < 1) :
  Calls Tryz.prog 18 #[.agg (agg r p), .int .i64 b, .int .i64 last, .int .i64 most] w fun q w' => Out w.heap.size w' [] q ∧ Below w.heap.size w w' := by
 have HK := Aside0.mk (blk_new w (obj r p))
 have HB := Aside0.mk (below_alloc (Below.refl w.heap.size w) (obj r p))
 go_enter Tryz.func18, Tryz.ntmps18
 go_upto_region 1 with fail
 generalize w.alloc (obj r p) = w0 at HK HB ⊢
 by_cases c : b > last
 ·have c1 : decide (b > last) = true := decide_eq_true c
  clear c h
  go_wp2_with fail
  go_ret
  exact ⟨out_nil _ _, HB.out⟩
 ·have c1 : decide (b > last) = false := decide_eq_false c
  have c2 : decide (most < 1) = true := decide_eq_true (h.resolve_left c)
  clear c h
  go_wp2_with fail
  go_ret
  exact ⟨out_nil _ _, HB.out⟩
end Go.Proofs.YtfdcldjoncednaaGreat.RefM
