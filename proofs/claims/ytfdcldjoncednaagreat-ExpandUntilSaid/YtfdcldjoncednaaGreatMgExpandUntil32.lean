/- Texts of this claim, merged: ExV, ExM. -/
import Derived.Test.YtfdcldjoncednaaGreatMgExpandUntil26
import Derived.Test.YtfdcldjoncednaaGreatMgExpandUntil27
import Derived.Test.YtfdcldjoncednaaGreatMgExpandUntil28
import Derived.Test.YtfdcldjoncednaaGreatMgExpandUntil31
/- What a formed rule means, by the document too: plain (seat .Z). -/
namespace Go.Proofs.YtfdcldjoncednaaGreat.ExV
open Go.RowKit Go.Proofs.YtfdcldjoncednaaGreatW.PrintWords Go.Proofs.YtfdcldjoncednaaGreatW.PrintLast Go.Proofs.YtfdcldjoncednaaGreat.M Go.Proofs.YtfdcldjoncednaaGreat.Cal Go.Proofs.YtfdcldjoncednaaGreat.FunA Go.Proofs.YtfdcldjoncednaaGreat.FunB Go.Proofs.YtfdcldjoncednaaGreat.FunC Go.Proofs.YtfdcldjoncednaaGreat.FunD Go.Proofs.YtfdcldjoncednaaGreat.Ru Go.Proofs.YtfdcldjoncednaaGreat.MatD Go.Proofs.YtfdcldjoncednaaGreat.MatP Go.Proofs.YtfdcldjoncednaaGreat.MatG Go.Proofs.YtfdcldjoncednaaGreat.MatS Go.Proofs.YtfdcldjoncednaaGreat.RecG Go.Proofs.YtfdcldjoncednaaGreat.ExD Go.Proofs.YtfdcldjoncednaaGreat.ExO Go.Proofs.YtfdcldjoncednaaGreat.ExS Go.Proofs.YtfdcldjoncednaaGreat.ExT Go.Proofs.YtfdcldjoncednaaGreat.ExE Go.Proofs.YtfdcldjoncednaaGreat.ExI Go.Proofs.YtfdcldjoncednaaGreat.PureE Go.Proofs.YtfdcldjoncednaaGreat.ExB Go.Proofs.YtfdcldjoncednaaGreat.ExR Go.Proofs.YtfdcldjoncednaaGreat.RefT Go.Proofs.YtfdcldjoncednaaGreat.RefM Go.Proofs.YtfdcldjoncednaaGreat.RefS Go.Proofs.YtfdcldjoncednaaGreat.RefSec
set_option linter.unusedVariables false
set_option linter.unusedSimpArgs false
/-- What is told of a formed rule and a right begin, by both. -/
structure Both (r : Ru) (b dy s : Int) (B : Fa) (sf sl se : Int → Int) (fit : Int → Bool) (k : Nat) : Prop where
 has : Has r b dy s B sf sl se fit k
 ref : ∀ d, In d → PureFits.RefOk k r dy d (fit d)
theorem frm2 {r : Ru} (f : Frm r) : PureFits.Frm r := ⟨f.f1, f.f4, f.i1, f.s0, f.s6, f.l11, f.l12, f.l13, f.l14, f.l15, f.nw⟩
theorem fa_one {k : Nat} {d : Int} {X Y : Fa} (h : dayOf k d X) (h' : dayOf k d Y) : X = Y := by
 have e := Option.some.inj (h.symm.trans h')
 obtain ⟨a, b, c, d, e1, f, g, i, j⟩ := X
 obtain ⟨a', b', c', d', e1', f', g', i', j'⟩ := Y
 simp only [Prod.mk.injEq] at e
 obtain ⟨rfl, rfl, rfl, rfl, rfl, rfl, rfl, rfl, rfl⟩ := e
 rfl
theorem both_ (r : Ru) (rt : Bool) (k : Nat) (hk : 130 ≤ k) (hf : frmB r rt = true) (fo : FormOk k r true) (b : Int) (b0 : 86400 ≤ b) (b1 : b < 315537984000) : ∃ B sf sl se fit, Both r b (b / 86400) (b % 86400) B sf sl se fit k := by
 obtain ⟨B, sf, sl, se, _, h⟩ := has_ r rt k hk hf fo b b0 b1
 have e2 : ∀ d, ∃ v : Bool, In d → (∃ X, dayOf k d X ∧ FitsOk k r B X v) ∧ PureFits.RefOk k r (b / 86400) d v := fun d => by
  by_cases c : In d
  ·obtain ⟨X, Y, v, h1, h2, h3, h4, _, _⟩ := PureFits.main r (frm2 h.full.f) (b / 86400) d h.din c k hk
   rw [fa_one h1 h.bd] at h3
   exact ⟨v, fun _ => ⟨⟨Y, h2, h3⟩, h4⟩⟩
  ·exact ⟨true, fun q => absurd q c⟩
 obtain ⟨fit, hfit⟩ := Classical.axiomOfChoice e2
 exact ⟨B, sf, sl, se, fit, ⟨h.full, h.day, h.sec, h.s0, h.s1, h.din, h.bt, h.bd, h.bday, h.form, h.sp, h.ok, fun d hd => (hfit d hd).1⟩, fun d hd => (hfit d hd).2⟩
theorem fitD {r : Ru} {b dy s : Int} {B : Fa} {sf sl se : Int → Int} {fit : Int → Bool} {k : Nat} (h : Both r b dy s B sf sl se fit k) (p : Rp) (d : Int) (hd : In d) : FitD r p dy d (fit d) := fun w ok => PureFits.refX k r p dy d (fit d) w ok (h.ref d hd)
/-- A period's first and last day by the document are those by the program. -/
theorem ref_of {k : Nat} (hk : 130 ≤ k) {r : Ru} (f : Frm r) {b : Int} (hb : In b) {y m dd : Int} (y1 : 1 ≤ y) (y9 : y ≤ 9999) (ib : Is ah lp y m dd b) {n : Int} (n1 : 0 ≤ n) (n2 : n ≤ 4000000) {r1 r2 : Int} (h : SpanOk k r b n y m dd r1 r2) :
  SpanR k r b n y m r1 r2 ∧ (3652059 < n → r1 > 3652059 ∨ r2 < r1) := by
 have hb1 := hb.1; have hb2 := hb.2
 have m1 := ib.m1; have m2 := ib.m2
 cases h with
 | day c => exact ⟨.day _ c (w64 (by omega) (by omega)), fun _ => by omega⟩
 | week wk c hw h0 h1 =>
  rw [wb_p b r.a7 hb f.s0 f.s6] at hw
  obtain rfl := Option.some.inj hw
  have u := wbg_bd b r.a7
  exact ⟨.week (wbg b r.a7) (7 * n) _ _ c (PureFits.wb_r k (by omega) b r.a7 hb f.s0 f.s6) (w64 (by omega) (by omega)) (w64 (by omega) (by omega)) (w64 (by omega) (by omega)), fun _ => by omega⟩
 | month r1 r2 c hm =>
  obtain ⟨q, hq⟩ : ∃ q, 12 * y + m - 1 + n = q := ⟨_, rfl⟩
  obtain ⟨e1, e2, e3, e4, iq⟩ := nest y1 y9 m1 m2 (show -4000000 ≤ n by omega) n2 hq
  have e5 : wrap64 (q % 12 + 1) = q % 12 + 1 := w64 (by omega) (by omega)
  by_cases g : 1 ≤ q / 12 ∧ q / 12 ≤ 9999
  ·have ab := ah_bd (q / 12) (by omega) (by omega)
   have cb := cum_bd (l := lp (q / 12)) (m := q % 12 + 1) (lp_01 _) (by omega) (by omega)
   have db := dim_le (q / 12) (q % 12 + 1) (by omega) (by omega)
   rw [month_in k (by omega) y m dd n q y1 y9 m1 m2 (by omega) n2 hq g.1 g.2] at hm
   cases hm
   exact ⟨.month (12 * y) (12 * y + m) (12 * y + m - 1) q (q / 12) (q % 12) (q % 12 + 1) _ _ (ah (q / 12) + cum (lp (q / 12)) (q % 12 + 1) + 1) (ah (q / 12) + cum (lp (q / 12)) (q % 12 + 1) + 1 + dim (lp (q / 12)) (q % 12 + 1) - 1) c e1 e2 e3 e4 (fFloor q 12 (by omega) (by omega) iq) (fMod q 12 (by omega) (by omega) iq) e5 g.1 g.2 (PureFits.fixedM k (by omega) _ _ (by omega) (by omega) (by omega) (by omega)) (PureFits.lengthM k (by omega) _ _ (by omega) (by omega)) (w64 (by omega) (by omega)) (w64 (by omega) (by omega)), fun _ => by omega⟩
  ·rw [month_out k (by omega) y m dd n q y1 y9 m1 m2 (by omega) n2 hq g] at hm
   cases hm
   exact ⟨.mnone (12 * y) (12 * y + m) (12 * y + m - 1) q (q / 12) (q % 12) (q % 12 + 1) c e1 e2 e3 e4 (fFloor q 12 (by omega) (by omega) iq) (fMod q 12 (by omega) (by omega) iq) e5 g, fun _ => by omega⟩
 | year g1 g2 c h1 h2 hg hg2 c0 c1 =>
  have ab := ah_bd (y + n) (by omega) (by omega)
  have ab2 := ah_bd (y + n + 1) (by omega) (by omega)
  rw [rBegins _ (by omega) (by omega)] at hg hg2
  cases hg; cases hg2
  exact ⟨.year (y + n) (y + n + 1) _ _ _ c (w64 (by omega) (by omega)) h1 h2 (PureFits.fixed1 k (by omega) _ (by omega) (by omega)) (w64 (by omega) (by omega)) (PureFits.fixed1 k (by omega) _ (by omega) (by omega)) (w64 (by omega) (by omega)), fun _ => by omega⟩
 | none c h1 => exact ⟨.ynone (y + n) c (w64 (by omega) (by omega)) h1, fun _ => by omega⟩
/-- What Span answers by the document. -/
theorem spanD {r : Ru} {b dy s : Int} {B : Fa} {sf sl se : Int → Int} {fit : Int → Bool} {k : Nat} (h : Has r b dy s B sf sl se fit k) (hk : 130 ≤ k) (n : Int) (n0 : 0 ≤ n) (n9 : n ≤ 4000000) : ∃ F L : Int, (∀ p, SpanD r p dy n F L) ∧ (se n = 0 → F = sf n ∧ L = sl n) ∧ (se n ≠ 0 → F = 0 ∧ L = -1) := by
 obtain ⟨y, m, dd, y1, y9, iy, e3, em⟩ := PureFits.date_ k hk dy h.din
 obtain ⟨y', m', dd', _, _, _, er, em'⟩ := dateP k hk dy h.din
 rw [em] at em'
 obtain ⟨rfl, rfl, rfl⟩ : y = y' ∧ m = m' ∧ dd = dd' := by
  have := Option.some.inj em'
  simp only [Prod.mk.injEq] at this
  exact ⟨this.2.1, this.2.2.1, this.2.2.2.1⟩
 have big : ∀ r1 r2, SpanOk k r dy n y m dd r1 r2 → ∀ f l, (if r1 < 1 then 1 else r1) = f → (if 3652059 < r2 then 3652059 else r2) = l → ∀ p, SpanD r p dy n (if f > l then 0 else f) (if f > l then -1 else l) := fun r1 r2 hS f l hf hl p w _ =>
  RefS.Span k r p dy n y m dd r1 r2 f l _ _ w (ref_of hk h.full.f h.din y1 y9 iy n0 n9 hS).1 e3 hf hl rfl rfl
 have q := h.sp n
 generalize sf n = f at q ⊢
 generalize sl n = l at q ⊢
 generalize se n = e at q ⊢
 cases q with
 | ask e he ne => exact absurd (he.symm.trans (ask_one h.din)) ne
 | far he hn =>
  obtain ⟨r1, r2, hS⟩ := rawP k hk r h.full.f dy h.din y m dd y1 y9 iy n (by omega) n9
  have hO := (ref_of hk h.full.f h.din y1 y9 iy n0 n9 hS).2 (by omega)
  have := big r1 r2 hS _ _ rfl rfl
  have g : (if r1 < 1 then 1 else r1) > (if 3652059 < r2 then 3652059 else r2) := by split <;> split <;> omega
  rw [if_pos g, if_pos g] at this
  exact ⟨0, -1, this, fun q => by omega, fun _ => ⟨rfl, rfl⟩⟩
 | ok y2 m2 dd2 ee r1 r2 f l he hS hd b1 b2 n1 n2 y1' y2' hfe hle_ hle =>
  rw [er] at hd
  obtain ⟨rfl, rfl, rfl⟩ : y = y2 ∧ m = m2 ∧ dd = dd2 := by
   have := Option.some.inj hd
   simp only [Prod.mk.injEq] at this
   exact ⟨this.1, this.2.1, this.2.2.1⟩
  have := big r1 r2 hS f l hfe hle_
  rw [if_neg hle, if_neg hle] at this
  exact ⟨f, l, this, fun _ => ⟨rfl, rfl⟩, fun q => absurd rfl q⟩
 | none y2 m2 dd2 ee r1 r2 f l he hS hd b1 b2 n1 n2 y1' y2' hfe hle_ hgt =>
  rw [er] at hd
  obtain ⟨rfl, rfl, rfl⟩ : y = y2 ∧ m = m2 ∧ dd = dd2 := by
   have := Option.some.inj hd
   simp only [Prod.mk.injEq] at this
   exact ⟨this.1, this.2.1, this.2.2.1⟩
  have := big r1 r2 hS f l hfe hle_
  rw [if_pos hgt, if_pos hgt] at this
  exact ⟨0, -1, this, fun q => by omega, fun _ => ⟨rfl, rfl⟩⟩
/-! ### Seconds -/
/-- Two rising lists of the same numbers are one. -/
theorem up_ext : ∀ {l m : List Int}, Up l → Up m → (∀ x, x ∈ l ↔ x ∈ m) → l = m
 | [], [], _, _, _ => rfl
 | [], b :: m, _, _, h => by have := (h b).2 (by simp); simp at this
 | a :: l, [], _, _, h => by have := (h a).1 (by simp); simp at this
 | a :: l, b :: m, hl, hm, h => by
  obtain ⟨l1, l2⟩ := List.pairwise_cons.1 hl
  obtain ⟨m1, m2⟩ := List.pairwise_cons.1 hm
  have e : a = b := by
   rcases List.mem_cons.1 ((h a).1 (by simp)) with q | q
   ·exact q
   ·rcases List.mem_cons.1 ((h b).2 (by simp)) with q' | q'
    ·exact q'.symm
    ·have := m1 a q; have := l1 b q'; omega
  subst e
  rw [up_ext l2 m2 (fun x => ⟨fun hx => by
   rcases List.mem_cons.1 ((h x).1 (List.mem_cons_of_mem _ hx)) with q | q
   ·have := l1 x hx; omega
   ·exact q, fun hx => by
   rcases List.mem_cons.1 ((h x).2 (List.mem_cons_of_mem _ hx)) with q | q
   ·have := m1 x hx; omega
   ·exact q⟩)]
theorem dayG_mem (fit : Int → Bool) (f : Int) : ∀ (i : Nat) (x : Int), x ∈ dayG fit f i ↔ f ≤ x ∧ x < f + i ∧ fit x = true
 | 0, x => by simp [dayG]; omega
 | i + 1, x => by
  have ih := dayG_mem fit f i x
  unfold dayG
  by_cases c : fit (f + i) = true
  ·rw [if_pos c, List.mem_append, ih, List.mem_singleton]
   constructor
   ·rintro (h | rfl)
    ·exact ⟨h.1, by omega, h.2.2⟩
    ·exact ⟨by omega, by omega, c⟩
   ·rintro ⟨h1, h2, h3⟩
    by_cases e : x = f + i
    ·exact .inr e
    ·exact .inl ⟨h1, by omega, h3⟩
  ·rw [if_neg c, ih]
   constructor
   ·rintro ⟨h1, h2, h3⟩; exact ⟨h1, by omega, h3⟩
   ·rintro ⟨h1, h2, h3⟩
    refine ⟨h1, ?_, h3⟩
    have : x ≠ f + i := fun e => c (e ▸ h3)
    omega
theorem mem_rd {l : List Int} {x : Int} (h : x ∈ l) : ∃ i : Nat, i < l.length ∧ rd l (i : Int) = x := by
 obtain ⟨i, hi, e⟩ := List.getElem_of_mem h
 exact ⟨i, hi, by rw [rd_get l hi]; exact e⟩
theorem rowS_mem {h m : Int} {S : List Int} (h0 : 0 ≤ h) (h1 : h ≤ 23) (m0 : 0 ≤ m) (m1 : m ≤ 59) (hS : Nums 0 59 S) : ∀ q, q ≤ S.length → ∀ j, j < q → 3600 * h + 60 * m + rd S (j : Int) ∈ rowS h m S q := by
 intro q
 induction q with
 | zero => intro _ j hj; omega
 | succ q ih =>
  intro hq j hj
  rw [rowS, secV_ h0 h1 m0 m1 (hS.ge q (by omega)) (hS.le q (by omega)), List.mem_append]
  by_cases e : j = q
  ·subst e; exact .inr (by simp)
  ·exact .inl (ih (by omega) j (by omega))
theorem blkM_mem {h : Int} {M S : List Int} (h0 : 0 ≤ h) (h1 : h ≤ 23) (hM : Nums 0 59 M) (hS : Nums 0 59 S) : ∀ q, q ≤ M.length → ∀ i j : Nat, i < q → j < S.length → 3600 * h + 60 * rd M (i : Int) + rd S (j : Int) ∈ blkM h M S q := by
 intro q
 induction q with
 | zero => intro _ i j hi; omega
 | succ q ih =>
  intro hq i j hi hj
  rw [blkM, List.mem_append]
  by_cases e : i = q
  ·subst e; exact .inr (rowS_mem h0 h1 (hM.ge i (by omega)) (hM.le i (by omega)) hS _ (Nat.le_refl _) j hj)
  ·exact .inl (ih (by omega) i j (by omega) hj)
theorem allH_mem {H M S : List Int} (hH : Nums 0 23 H) (hM : Nums 0 59 M) (hS : Nums 0 59 S) : ∀ q, q ≤ H.length → ∀ o i j : Nat, o < q → i < M.length → j < S.length → 3600 * rd H (o : Int) + 60 * rd M (i : Int) + rd S (j : Int) ∈ allH H M S q := by
 intro q
 induction q with
 | zero => intro _ o i j ho; omega
 | succ q ih =>
  intro hq o i j ho hi hj
  rw [allH, List.mem_append]
  by_cases e : o = q
  ·subst e; exact .inr (blkM_mem (hH.ge o (by omega)) (hH.le o (by omega)) hM hS _ (Nat.le_refl _) i j hi hj)
  ·exact .inl (ih (by omega) o i j (by omega) hi hj)
theorem sec_eq (r : Ru) (f : Full r) (s : Int) (s0 : 0 ≤ s) (s1 : s < 86400) : dayG (onB r s) 0 86400 = secL r s := by
 have nH := nums_or (n := s / 3600) f.l10 (by omega) (by omega)
 have nM := nums_or (n := s / 60 % 60) f.l9 (by omega) (by omega)
 have nS := nums_or (n := s % 60) f.l8 (by omega) (by omega)
 obtain ⟨a1, a2⟩ := allH_up nH nM nS _ (Nat.le_refl _)
 refine up_ext (dayG_up _ _ _).1 a1 (fun x => ?_)
 rw [dayG_mem]
 unfold onB
 simp only [Bool.and_eq_true, decide_eq_true_eq]
 constructor
 ·rintro ⟨x0, x1, h1, h2, h3⟩
  obtain ⟨o, ho, e1⟩ := mem_rd h1
  obtain ⟨i, hi, e2⟩ := mem_rd h2
  obtain ⟨j, hj, e3⟩ := mem_rd h3
  have := allH_mem nH nM nS _ (Nat.le_refl _) o i j ho hi hj
  rw [e1, e2, e3] at this
  rwa [show 3600 * (x / 3600) + 60 * (x / 60 % 60) + x % 60 = x by omega] at this
 ·intro hx
  obtain ⟨o, i, j, ho, hi, hj, rfl⟩ := a2 x hx
  have b1 := nH.ge o ho; have b2 := nH.le o ho; have b3 := nM.ge i hi; have b4 := nM.le i hi; have b5 := nS.ge j hj; have b6 := nS.le j hj
  have m1 := rd_mem ho; have m2 := rd_mem hi; have m3 := rd_mem hj
  generalize rd (orL r.l10 (s / 3600)) (o : Int) = h at *
  generalize rd (orL r.l9 (s / 60 % 60)) (i : Int) = m at *
  generalize rd (orL r.l8 (s % 60)) (j : Int) = q at *
  refine ⟨by omega, by omega, ?_, ?_, ?_⟩
  ·rwa [show (3600 * h + 60 * m + q) / 3600 = h by omega]
  ·rwa [show (3600 * h + 60 * m + q) / 60 % 60 = m by omega]
  ·rwa [show (3600 * h + 60 * m + q) % 60 = q by omega]
theorem secD {r : Ru} {b dy s : Int} {B : Fa} {sf sl se : Int → Int} {fit : Int → Bool} {k : Nat} (h : Has r b dy s B sf sl se fit k) (p : Rp) : SecD r p b (secL r s) := by
 intro w ok
 have din := h.din.1; have s0 := h.s0; have s1 := h.s1; have bt := h.bt
 have hs : b % 86400 = s := by omega
 have := RefSec.seconds r p h.full b s hs (by omega) (dayG (onB r s) 0) rfl (fun i => by show (if onB r s (0 + (i : Int)) = true then _ ++ [0 + (i : Int)] else _) = _; rw [Int.zero_add]) (dayG_len _ _) w ok
 rwa [sec_eq r h.full s s0 s1] at this
/-! ### Times -/
theorem timR_eq (d s : Int) : timR d s = timV d s := by unfold timR timV; rw [Int.mul_comm]
theorem allT_pre (L D : List Int) (x : Int) : ∀ i, i ≤ L.length → allT (L ++ [x]) D i = allT L D i
 | 0, _ => rfl
 | i + 1, h => by
  rw [allT, allT, allT_pre L D x i (by omega)]
  have e : rd (L ++ [x]) (i : Int) = rd L (i : Int) := by
   rw [rd_get (L ++ [x]) (show i < (L ++ [x]).length by simp; omega), rd_get L (show i < L.length by omega)]
   exact List.getElem_append_left (by omega)
  rw [e]
theorem allT_snoc (L D : List Int) (x : Int) : allT (L ++ [x]) D (L ++ [x]).length = allT L D L.length ++ dayT x D D.length := by
 rw [List.length_append]
 show allT (L ++ [x]) D (L.length + 1) = _
 rw [allT, allT_pre L D x L.length (Nat.le_refl _)]
 have e : rd (L ++ [x]) (L.length : Int) = x := by
  rw [rd_get (L ++ [x]) (show L.length < (L ++ [x]).length by simp)]
  simp
 rw [e]
theorem selR (ps T : List Int) (h : ps.length ≤ 40) (hT : T.length ≤ 17000000000000) : SelR 100 T ps (selP ps T) := fun i hi => by
 unfold trystref14_counted.f selP
 rw [has_eq ps _ h 100 (by omega), Option.bind_some, w64 (x := (i : Int) + 1 - (T.length : Int)) (by omega) (by omega), w64 (by omega) (by omega), show (i : Int) + 1 - (T.length : Int) - 1 = (i : Int) - (T.length : Int) by omega, has_eq ps _ h 100 (by omega), Option.bind_some]
 by_cases c : (i : Int) + 1 ∈ ps
 ·rw [decide_eq_true c]; rfl
 ·rw [decide_eq_false c]; rfl
theorem timD {r : Ru} {b dy s : Int} {B : Fa} {sf sl se : Int → Int} {fit : Int → Bool} {k : Nat} (hh : Both r b dy s B sf sl se fit k) (hk : 130 ≤ k) (p : Rp) (n : Int) (n0 : 0 ≤ n) (n9 : n ≤ 4000000) : TimD r p b n (secL r s) (timL r sf sl se fit s n) := by
 intro w A c ok hC hc
 have h := hh.has
 have i1 := h.full.f.i1
 have hd : wrap64 (Int.tdiv b 86400) = dy := by
  have := h.din.1; have := h.din.2; have := h.s0; have := h.s1; have := h.bt
  rw [Int.tdiv_eq_ediv_of_nonneg (by omega), w64 (by omega) (by omega)]; omega
 unfold timL
 rw [if_neg (show ¬ n < 0 by omega)]
 by_cases c2 : Int.tmod n r.a1 ≠ 0
 ·rw [if_pos c2]; exact RefT.neg r p b n A c (secL r s) w (.inr ⟨_, i1, rfl, c2⟩)
 rw [if_neg c2]
 have c2' : Int.tmod n r.a1 = 0 := Decidable.not_not.1 c2
 obtain ⟨F, L, hS, e0, e1⟩ := spanD h hk n n0 n9
 have sl_ := secL_len h.full s
 by_cases c3 : se n ≠ 0
 ·rw [if_pos c3]
  obtain ⟨rfl, rfl⟩ := e1 c3
  have := RefT.times r p b n A c (secL r s) (by omega) i1 c2' dy 0 (-1) hd (hS p) fit (fun d h1 h2 => by omega) 0 (.inl (by omega)) (by omega) (by omega) (by omega) (fun i => if i = 0 then [] else allT (dayG fit 0 i) (secL r s) (dayG fit 0 i).length) (fun i j => (if i = 0 then [] else allT (dayG fit 0 i) (secL r s) (dayG fit 0 i).length) ++ dayT (0 + i) (secL r s) j) rfl (fun i => by simp [dayT]) (fun i j => by simp [dayT, timR_eq]) (fun i => by
    show allT (dayG fit 0 (i + 1)) (secL r s) (dayG fit 0 (i + 1)).length = _
    have z : (if i = 0 then [] else allT (dayG fit 0 i) (secL r s) (dayG fit 0 i).length) = allT (dayG fit 0 i) (secL r s) (dayG fit 0 i).length := by
     by_cases q : i = 0
     ·subst q; rfl
     ·rw [if_neg q]
    show _ = if fit (0 + i) = true then (if i = 0 then [] else allT (dayG fit 0 i) (secL r s) (dayG fit 0 i).length) ++ dayT (0 + i) (secL r s) (secL r s).length else (if i = 0 then [] else allT (dayG fit 0 i) (secL r s) (dayG fit 0 i).length)
    rw [z]
    by_cases q : fit (0 + i) = true
    ·have e : dayG fit 0 (i + 1) = dayG fit 0 i ++ [0 + (i : Int)] := if_pos q
     rw [if_pos q, e, allT_snoc]
    ·have e : dayG fit 0 (i + 1) = dayG fit 0 i := if_neg q
     rw [if_neg q, e]) (by omega) (fun i j hi => by omega) [] rfl 100 (selP r.l16 []) (selG (selP r.l16 []) []) (fun _ => selR _ _ h.full.l16 (by simp)) (by simp) rfl (fun i => rfl) (selG_len _ _) w ok hC hc
  have ez : choL r.l16 [] (selG (selP r.l16 []) [] ([] : List Int).length) = [] := by unfold choL; split <;> rfl
  rwa [ez] at this
 rw [if_neg c3]
 have c3' : se n = 0 := Decidable.not_not.1 c3
 obtain ⟨rfl, rfl⟩ := e0 c3'
 obtain ⟨q1, q2, q3, q4⟩ := h.ok n c3'
 have F_ : ∀ d, sf n ≤ d → d ≤ sl n → FitD r p dy d (fit d) := fun d h1 h2 => fitD hh p d ⟨by omega, by omega⟩
 have dl := fun i => dayG_len fit (sf n) i
 unfold daysL
 generalize sf n = f at *
 generalize sl n = l at *
 generalize secL r s = D at *
 have tl : ∀ i, i ≤ (l + 1 - f).toNat → (allT (dayG fit f i) D (dayG fit f i).length).length ≤ 64000 * 3652059 := fun i hi => by have := allT_len (dayG fit f i) D sl_ (dayG fit f i).length; have := dl i; omega
 exact RefT.times r p b n A c D (by omega) i1 c2' dy f l hd (hS p) fit F_ (l + 1 - f).toNat (.inl (by omega)) (by omega) (by omega) (by omega) (fun i => allT (dayG fit f i) D (dayG fit f i).length) (fun i j => allT (dayG fit f i) D (dayG fit f i).length ++ dayT (f + i) D j) rfl (fun i => by simp [dayT]) (fun i j => by simp [dayT, timR_eq]) (fun i => by
   by_cases q : fit (f + i) = true
   ·have e : dayG fit f (i + 1) = dayG fit f i ++ [f + (i : Int)] := if_pos q
    show allT (dayG fit f (i + 1)) D (dayG fit f (i + 1)).length = _
    rw [if_pos q, e, allT_snoc]
   ·have e : dayG fit f (i + 1) = dayG fit f i := if_neg q
    show allT (dayG fit f (i + 1)) D (dayG fit f (i + 1)).length = _
    rw [if_neg q, e]) (by omega) (fun i j hi hj => by have := tl i (by omega); have := dayT_len (f + i) D j; simp only [List.length_append]; omega)
  _ rfl 100 (selP r.l16 _) (selG (selP r.l16 _) _) (fun _ => selR _ _ h.full.l16 (by have := tl _ (Nat.le_refl _); omega)) (by have := tl _ (Nat.le_refl _); omega) rfl (fun i => rfl) (selG_len _ _) w ok hC hc
end Go.Proofs.YtfdcldjoncednaaGreat.ExV
/- What a formed rule means by the document is what it means by the program: plain (seat .Z). -/
namespace Go.Proofs.YtfdcldjoncednaaGreat.ExM
open Go.RowKit Go.Proofs.YtfdcldjoncednaaGreatW.PrintWords Go.Proofs.YtfdcldjoncednaaGreatW.PrintLast Go.Proofs.YtfdcldjoncednaaGreat.M Go.Proofs.YtfdcldjoncednaaGreat.Cal Go.Proofs.YtfdcldjoncednaaGreat.FunA Go.Proofs.YtfdcldjoncednaaGreat.Ru Go.Proofs.YtfdcldjoncednaaGreat.MatD Go.Proofs.YtfdcldjoncednaaGreat.MatG Go.Proofs.YtfdcldjoncednaaGreat.MatS Go.Proofs.YtfdcldjoncednaaGreat.ExD Go.Proofs.YtfdcldjoncednaaGreat.ExE Go.Proofs.YtfdcldjoncednaaGreat.ExI Go.Proofs.YtfdcldjoncednaaGreat.PureE Go.Proofs.YtfdcldjoncednaaGreat.ExB Go.Proofs.YtfdcldjoncednaaGreat.ExR Go.Proofs.YtfdcldjoncednaaGreat.RefT Go.Proofs.YtfdcldjoncednaaGreat.RefM Go.Proofs.YtfdcldjoncednaaGreat.ExV
set_option linter.unusedVariables false
set_option linter.unusedSimpArgs false
theorem end_eq (r : Ru) (l : Int) : endR r l = endF r l := by
 unfold endR endF
 have e : wrap64 (r.a4 + 86399) = wrap64 (wrap64 (r.a4 + 86400) - 1) := by unfold wrap64; omega
 rw [e]
/-- One time looked at. -/
def step (b le m c : Int) (out : List Int) (t : Int) : List Int := if takes b le m c t out.length = true then out ++ [t] else out
theorem pick_fold (b le m c : Int) (T out : List Int) : ∀ i, i ≤ T.length → pickN b le m c T out i = (T.take i).foldl (step b le m c) out
 | 0, _ => by simp [pickN]
 | i + 1, h => by
  have e : T.take (i + 1) = T.take i ++ [rd T (i : Int)] := by rw [rd_get T (show i < T.length by omega), ← List.take_append_getElem (show i < T.length by omega)]
  rw [e, List.foldl_append, ← pick_fold b le m c T out i (by omega)]
  rfl
theorem pick_all (b le m c : Int) (T out : List Int) : pickN b le m c T out T.length = T.foldl (step b le m c) out := by
 rw [pick_fold b le m c T out T.length (Nat.le_refl _), List.take_length]
theorem fold_none {b le m c : Int} {out : List Int} : ∀ (T : List Int), (∀ t ∈ T, takes b le m c t out.length = false) → T.foldl (step b le m c) out = out
 | [], _ => rfl
 | t :: T, h => by
  have e : step b le m c out t = out := if_neg (by rw [h t (by simp)]; simp)
  rw [List.foldl_cons, e]
  exact fold_none T fun x hx => h x (List.mem_cons_of_mem _ hx)
theorem takes_le {b le m c t : Int} {n : Nat} (h : t > le) : takes b le m c t n = false := by
 unfold takes
 rw [decide_eq_false (show ¬ t ≤ le by omega)]; simp
theorem takes_m {b le m c t : Int} {n : Nat} (h : ¬ (n : Int) < m) : takes b le m c t n = false := by
 unfold takes
 rw [decide_eq_false h]; simp
theorem takes_c {b le m c t : Int} {n : Nat} (h : c ≠ 0) (h' : ¬ (n : Int) < c) : takes b le m c t n = false := by
 unfold takes
 rw [decide_eq_false h', beq_eq_false_iff_ne.2 h]; simp
theorem take_le {m : Int} {l k : List Int} (h : (l.length : Int) ≤ m) (h' : (l.length : Int) = m ∨ k = []) : (l ++ k).take m.toNat = l := by
 rcases h' with q | rfl
 ·rw [show m.toNat = l.length by omega, List.take_append_of_le_length (Nat.le_refl _), List.take_length]
 ·rw [List.append_nil]; exact List.take_of_length_le (by omega)
/-- What is taken of a row by the document is what comes of it by the program, as far as so many. -/
theorem fold_inner (b le m c : Int) : ∀ (T : List Int), Up T → ∀ (out : List Int) (left : Int), left = c - (out.length : Int) → (c = 0 ∨ (out.length : Int) ≤ c) → 0 ≤ c → c ≤ 1000 → m ≤ 1000 → 1 ≤ out.length → (out.length : Int) ≤ m →
  T.foldl (step b le m c) out = (out ++ (inner b le T left).1).take m.toNat := by
 intro T
 induction T with
 | nil => intro _ out left _ _ _ _ _ _ h7; exact (take_le h7 (.inr rfl)).symm
 | cons t ts ih =>
  intro up out left h1 h2 h3 h4 h5 h6 h7
  obtain ⟨u1, u2⟩ := List.pairwise_cons.1 up
  rw [List.foldl_cons]
  unfold inner
  by_cases c1 : t ≤ b
  ·have e : step b le m c out t = out := if_neg (by unfold takes; rw [decide_eq_false (show ¬ t > b by omega)]; simp)
   rw [if_pos c1, e]
   exact ih u2 out left h1 h2 h3 h4 h5 h6 h7
  rw [if_neg c1]
  by_cases c2 : t > le ∨ left = 0
  ·rw [if_pos c2, take_le h7 (.inr rfl)]
   have all : ∀ x ∈ t :: ts, takes b le m c x out.length = false := fun x hx => by
    rcases c2 with q | q
    ·rcases List.mem_cons.1 hx with rfl | hx
     ·exact takes_le q
     ·exact takes_le (by have := u1 x hx; omega)
    ·exact takes_c (by omega) (by omega)
   exact fold_none (t :: ts) all
  rw [if_neg c2]
  by_cases c3 : (out.length : Int) < m
  ·have tk : takes b le m c t out.length = true := by
    unfold takes
    rw [decide_eq_true (show t > b by omega), decide_eq_true (show t ≤ le by omega), decide_eq_true c3]
    rcases h2 with rfl | q
    ·rfl
    ·by_cases z : c = 0
     ·subst z; rfl
     ·rw [decide_eq_true (show (out.length : Int) < c by omega)]; simp
   have e : step b le m c out t = out ++ [t] := if_pos tk
   rw [e, w64 (x := left - 1) (by omega) (by omega)]
   have := ih u2 (out ++ [t]) (left - 1) (by simp; omega) (by simp; omega) h3 h4 h5 (by simp) (by simp; omega)
   rw [this, List.append_assoc]; rfl
  ·have all : ∀ x ∈ t :: ts, takes b le m c x out.length = false := fun x _ => takes_m c3
   have := fold_none (t :: ts) all
   rw [List.foldl_cons] at this
   rw [this]
   exact (take_le h7 (.inl (by omega))).symm
theorem inner_left (b le : Int) : ∀ (T : List Int) (left : Int), -4000000000000000000 ≤ left → left ≤ 1000 → (T.length : Int) ≤ 4000000000000000000 → (inner b le T left).2.1 = left - ((inner b le T left).1.length : Int) := by
 intro T left h1 h2 h3
 have key : ∀ (T : List Int) (left : Int), -8000000000000000000 ≤ left - (T.length : Int) → left ≤ 1000 → (inner b le T left).2.1 = left - ((inner b le T left).1.length : Int) := by
  intro T
  induction T with
  | nil => intro left _ _; simp [inner]
  | cons t ts ih =>
   intro left h1 h2
   simp only [List.length_cons] at h1
   unfold inner
   split
   ·exact ih left (by omega) h2
   ·split
    ·simp
    ·rw [w64 (x := left - 1) (by omega) (by omega)]
     have := ih (left - 1) (by omega) (by omega)
     simp only [List.length_cons]
     omega
 exact key T left (by omega) h2
theorem inner_stop (b le : Int) : ∀ (T : List Int) (left : Int), (inner b le T left).2.2 = true → (∃ t ∈ T, t > le) ∨ (inner b le T left).2.1 = 0 := by
 intro T
 induction T with
 | nil => intro left h; simp [inner] at h
 | cons t ts ih =>
  intro left h
  unfold inner at h ⊢
  by_cases c : t ≤ b
  ·rw [if_pos c] at h ⊢
   exact (ih left h).imp (fun ⟨x, hx, q⟩ => ⟨x, List.mem_cons_of_mem _ hx, q⟩) id
  rw [if_neg c] at h ⊢
  by_cases c1 : t > le ∨ left = 0
  ·rw [if_pos c1]
   exact c1.imp (fun q => ⟨t, by simp, q⟩) id
  rw [if_neg c1] at h ⊢
  exact (ih _ h).imp (fun ⟨x, hx, q⟩ => ⟨x, List.mem_cons_of_mem _ hx, q⟩) id
/-- A period's days by the document: none where there is none. -/
def dF (sf se : Int → Int) (n : Int) : Int := if se n = 0 then sf n else 0
def dL (sl se : Int → Int) (n : Int) : Int := if se n = 0 then sl n else -1
section
variable {r : Ru} {b dy s : Int} {B : Fa} {sf sl se : Int → Int} {fit : Int → Bool} {k : Nat}
theorem lt_iff (h : Has r b dy s B sf sl se fit k) (n : Int) : dL sl se n < dF sf se n ↔ se n ≠ 0 := by
 unfold dL dF
 constructor
 ·intro q e
  rw [if_pos e, if_pos e] at q
  have := h.ok n e; omega
 ·intro e
  rw [if_neg e, if_neg e]; omega
theorem first_eq (n : Int) (e : se n = 0) : wrap64 (86400 * dF sf se n) = wrap64 (sf n * 86400) := by
 unfold dF; rw [if_pos e, Int.mul_comm]
/-- Where nothing more may come, nothing more is taken. -/
theorem idle (h : Has r b dy s B sf sl se fit k) (le m c : Int) (out : List Int) : ∀ (j : Nat) (per : Int), 0 ≤ per → per ≤ 4000000 → 3652060 ≤ per + j → (∀ n, per ≤ n → se n = 0 → ∀ x ∈ timL r sf sl se fit s n, x > le) → ∀ K, j + 1 ≤ K →
  meanL b le m c r.a1 (dF sf se) (dL sl se) (timL r sf sl se fit s) K per out = some out := by
 have i1 := h.full.f.i1; have i2 := h.full.i2
 intro j
 induction j with
 | zero =>
  intro per p0 p9 pm _ K hK
  obtain ⟨K, rfl⟩ : ∃ K', K = K' + 1 := ⟨K - 1, by omega⟩
  unfold meanL
  have : se per ≠ 0 := fun q => by have := h.ok per q; omega
  rw [if_pos ((lt_iff h per).2 this)]
  split <;> rfl
 | succ j ih =>
  intro per p0 p9 pm hx K hK
  obtain ⟨K, rfl⟩ : ∃ K', K = K' + 1 := ⟨K - 1, by omega⟩
  unfold meanL
  split
  ·by_cases e : se per = 0
   ·have pe := h.ok per e
    rw [if_neg (fun q => (lt_iff h per).1 q e)]
    split
    ·rfl
    ·rw [pick_all, fold_none _ (fun t ht => takes_le (hx per (Int.le_refl _) e t ht))]
     split
     ·rfl
     ·rw [w64 (x := per + r.a1) (by omega) (by omega)]
      exact ih (per + r.a1) (by omega) (by omega) (by omega) (fun n hn => hx n (by omega)) K (by omega)
   ·rw [if_pos ((lt_iff h per).2 e)]
  ·rfl
theorem mean_each (h : Has r b dy s B sf sl se fit k) (hk : 130 ≤ k) (le m : Int) (m9 : m ≤ 1000) : ∀ (j : Nat) (per left : Int) (out rest : List Int) (K1 : Nat), 0 ≤ per → per ≤ 4000000 → 3652060 ≤ per + j → left = r.a2 - (out.length : Int) → (r.a2 = 0 ∨ (out.length : Int) ≤ r.a2) → 1 ≤ out.length → (out.length : Int) ≤ m →
  eachL b le r.a1 sf se (timL r sf sl se fit s) K1 per left = some rest → ∀ K, j + 1 ≤ K → meanL b le m r.a2 r.a1 (dF sf se) (dL sl se) (timL r sf sl se fit s) K per out = some ((out ++ rest).take m.toNat) := by
 have i1 := h.full.f.i1; have i2 := h.full.i2; have c0 := h.full.c0; have c1 := h.full.c1
 intro j
 induction j with
 | zero =>
  intro per left out rest K1 p0 p9 pm hl hc h6 h7 hE K hK
  obtain ⟨K, rfl⟩ : ∃ K', K = K' + 1 := ⟨K - 1, by omega⟩
  have e : se per ≠ 0 := fun q => by have := h.ok per q; omega
  have hr : rest = [] := by
   cases K1 with
   | zero => simp [eachL] at hE
   | succ K1 =>
    unfold eachL at hE
    split at hE
    ·exact (Option.some.inj hE).symm
    ·rw [if_pos (Or.inl e)] at hE; exact (Option.some.inj hE).symm
  subst hr
  rw [take_le h7 (.inr rfl)]
  unfold meanL
  rw [if_pos ((lt_iff h per).2 e)]
  split <;> rfl
 | succ j ih =>
  intro per left out rest K1 p0 p9 pm hl hc h6 h7 hE K hK
  obtain ⟨K, rfl⟩ : ∃ K', K = K' + 1 := ⟨K - 1, by omega⟩
  unfold meanL
  by_cases z : (out.length : Int) < m
  rotate_left
  ·rw [if_neg z, take_le h7 (.inl (by omega))]
  rw [if_pos z]
  cases K1 with
  | zero => simp [eachL] at hE
  | succ K1 =>
   unfold eachL at hE
   by_cases e : se per = 0
   rotate_left
   ·have hr : rest = [] := by
     split at hE
     ·exact (Option.some.inj hE).symm
     ·rw [if_pos (Or.inl e)] at hE; exact (Option.some.inj hE).symm
    subst hr
    rw [if_pos ((lt_iff h per).2 e), take_le h7 (.inr rfl)]
   rw [if_neg (fun q => (lt_iff h per).1 q e), first_eq per e]
   have pe := h.ok per e
   by_cases g : wrap64 (sf per * 86400) > le
   ·have hr : rest = [] := by
     split at hE
     ·exact (Option.some.inj hE).symm
     ·rw [if_pos (Or.inr g)] at hE; exact (Option.some.inj hE).symm
    subst hr
    rw [if_pos g, take_le h7 (.inr rfl)]
   rw [if_neg g, pick_all]
   obtain ⟨t1, t2⟩ := tim_up h per
   rw [fold_inner b le m r.a2 _ t1 out left hl hc c0 c1 m9 h6 h7]
   by_cases z0 : left = 0
   ·rw [if_pos z0] at hE
    obtain rfl := Option.some.inj hE
    have hi : (inner b le (timL r sf sl se fit s per) left).1 = [] := by
     have := (inner_sub b le (timL r sf sl se fit s per) left).2.2 (by omega) (by omega)
     exact List.eq_nil_of_length_eq_zero (by omega)
    rw [hi, take_le h7 (.inr rfl), if_pos]
    unfold full
    rw [decide_eq_true (show r.a2 > 0 by omega), decide_eq_true (show (out.length : Int) ≥ r.a2 by omega)]; rfl
   rw [if_neg z0, if_neg (fun q => q.elim (fun q => q e) g)] at hE
   have hT := h.tim_len per
   have hleft := inner_left b le (timL r sf sl se fit s per) left (by omega) (by omega) (by omega)
   have later : (∃ t ∈ timL r sf sl se fit s per, t > le) → ∀ n, per + r.a1 ≤ n → se n = 0 → ∀ x ∈ timL r sf sl se fit s n, x > le := fun ⟨t, ht, q⟩ n hn hn0 x hx => by
    have a1 := t2 t ht
    have a2 := (tim_up h n).2 x hx
    have s1 := h.sp per; have s2 := h.sp n
    rw [e] at s1; rw [hn0] at s2
    have := spans hk s1 s2 (by omega)
    omega
   have stop := inner_stop b le (timL r sf sl se fit s per) left
   have sub := (inner_sub b le (timL r sf sl se fit s per) left).2.2
   generalize inner b le (timL r sf sl se fit s per) left = I at hE hleft stop sub ⊢
   obtain ⟨a, left', en⟩ := I
   simp only at hE hleft stop sub ⊢
   have wn : wrap64 (per + r.a1) = per + r.a1 := w64 (by omega) (by omega)
   rw [wn]
   rw [wn] at hE
   have hlen : (((out ++ a).take m.toNat).length : Int) ≤ m := by rw [List.length_take]; omega
   by_cases big : ((out ++ a).length : Int) < m
   ·have e1 : (out ++ a).take m.toNat = out ++ a := List.take_of_length_le (by omega)
    rw [e1]
    have inv : r.a2 = 0 ∨ ((out ++ a).length : Int) ≤ r.a2 := by
     rcases hc with q | q
     ·exact .inl q
     ·refine .inr ?_
      have := sub (by omega) (by omega)
      simp only [List.length_append]; omega
    by_cases f : full r.a2 (out ++ a).length = true
    ·rw [if_pos f]
     unfold full at f
     simp only [Bool.and_eq_true, decide_eq_true_eq] at f
     have l0 : left' = 0 := by
      rcases inv with q | q
      ·omega
      ·simp only [List.length_append] at q f; omega
     cases en with
     | true => rw [if_pos rfl] at hE; obtain rfl := Option.some.inj hE; rw [e1]
     | false =>
      rw [if_neg (by simp)] at hE
      obtain ⟨x, hx, rfl⟩ := Option.map_eq_some_iff.1 hE
      have hx0 : x = [] := by
       cases K1 with
       | zero => simp [eachL] at hx
       | succ K1 => unfold eachL at hx; rw [if_pos l0] at hx; exact (Option.some.inj hx).symm
      subst hx0
      rw [List.append_nil, e1]
    ·rw [if_neg f]
     cases en with
     | true =>
      rw [if_pos rfl] at hE
      obtain rfl := Option.some.inj hE
      rw [e1]
      rcases stop rfl with q | q
      ·exact idle h le m r.a2 (out ++ a) j (per + r.a1) (by omega) (by omega) (by omega) (later q) K (by omega)
      ·exfalso
       apply f
       unfold full
       have : r.a2 > 0 := by
        rcases inv with q' | q'
        ·simp only [List.length_append] at *; omega
        ·simp only [List.length_append] at *; omega
       rw [decide_eq_true this, decide_eq_true (show ((out ++ a).length : Int) ≥ r.a2 by simp only [List.length_append]; omega)]; rfl
     | false =>
      rw [if_neg (by simp)] at hE
      obtain ⟨x, hx, rfl⟩ := Option.map_eq_some_iff.1 hE
      rw [← List.append_assoc]
      exact ih (per + r.a1) left' (out ++ a) x K1 (by omega) (by omega) (by omega) (by simp only [List.length_append]; omega) inv (by simp only [List.length_append]; omega) (by omega) hx K (by omega)
   ·have e2 : ∀ x : List Int, (out ++ (a ++ x)).take m.toNat = (out ++ a).take m.toNat := fun x => by
     rw [← List.append_assoc, List.take_append_of_le_length (by omega)]
    have e3 : (out ++ rest).take m.toNat = (out ++ a).take m.toNat := by
     cases en with
     | true => rw [if_pos rfl] at hE; obtain rfl := Option.some.inj hE; rfl
     | false =>
      rw [if_neg (by simp)] at hE
      obtain ⟨x, hx, rfl⟩ := Option.map_eq_some_iff.1 hE
      exact e2 x
    rw [e3]
    split
    ·rfl
    ·obtain ⟨K, rfl⟩ : ∃ K', K = K' + 1 := ⟨K - 1, by omega⟩
     unfold meanL
     rw [if_neg (by rw [List.length_take]; omega)]
end
/-- How many come at most. -/
theorem up_len : ∀ (l : List Int) (lo hi : Int), Up l → (∀ x ∈ l, lo < x ∧ x < hi) → lo ≤ hi → (l.length : Int) ≤ hi - lo
 | [], lo, hi, _, _, h => by simp; omega
 | a :: l, lo, hi, hu, h, _ => by
  obtain ⟨u1, u2⟩ := List.pairwise_cons.1 hu
  have ha := h a (by simp)
  have := up_len l a hi u2 (fun x hx => ⟨u1 x hx, (h x (List.mem_cons_of_mem _ hx)).2⟩) (by omega)
  simp only [List.length_cons]; omega
theorem each_top {r : Ru} {b dy s : Int} {B : Fa} {sf sl se : Int → Int} {fit : Int → Bool} {k : Nat} (h : Has r b dy s B sf sl se fit k) (last : Int) : ∀ (K : Nat) (per left : Int) (rest : List Int), eachL b last r.a1 sf se (timL r sf sl se fit s) K per left = some rest → ∀ x ∈ rest, x < 315537984000 := by
 intro K
 induction K with
 | zero => intro per left rest hr; simp [eachL] at hr
 | succ K ih =>
  intro per left rest hr
  unfold eachL at hr
  split at hr
  ·cases hr; intro x hx; cases hx
  split at hr
  ·cases hr; intro x hx; cases hx
  rename_i c1
  have ez : se per = 0 := Decidable.not_not.1 fun q => c1 (Or.inl q)
  obtain ⟨u1, u2, u3⟩ := inner_sub b last (timL r sf sl se fit s per) left
  have t2 := (tim_up h per).2
  have o := h.ok per ez
  have a2 : ∀ x ∈ (inner b last (timL r sf sl se fit s per) left).1, x < 315537984000 := fun x hx => by have := t2 x (u1.subset hx); omega
  split at hr
  ·cases hr; exact a2
  ·obtain ⟨x, hx, rfl⟩ := Option.map_eq_some_iff.1 hr
   intro y hy
   rcases List.mem_append.1 hy with hy | hy
   ·exact a2 y hy
   ·exact ih _ _ x hx y hy
end Go.Proofs.YtfdcldjoncednaaGreat.ExM
