/- Texts of this claim, merged: ExR. -/
import Derived.Test.YtfdcldjoncednaaMgExpandCounts18
/- What a formed rule means rises: plain. -/
namespace Go.Proofs.Ytfdcldjoncednaa.ExR
open Go.RowKit Go.Proofs.YtfdcldjoncednaaW.PrintWords Go.Proofs.YtfdcldjoncednaaW.PrintLast Go.Proofs.Ytfdcldjoncednaa.M Go.Proofs.Ytfdcldjoncednaa.Cal Go.Proofs.Ytfdcldjoncednaa.FunA Go.Proofs.Ytfdcldjoncednaa.FunB Go.Proofs.Ytfdcldjoncednaa.FunC Go.Proofs.Ytfdcldjoncednaa.Ru Go.Proofs.Ytfdcldjoncednaa.MatD Go.Proofs.Ytfdcldjoncednaa.MatP Go.Proofs.Ytfdcldjoncednaa.MatG Go.Proofs.Ytfdcldjoncednaa.MatS Go.Proofs.Ytfdcldjoncednaa.RecG Go.Proofs.Ytfdcldjoncednaa.ExO Go.Proofs.Ytfdcldjoncednaa.ExS Go.Proofs.Ytfdcldjoncednaa.ExT Go.Proofs.Ytfdcldjoncednaa.ExE Go.Proofs.Ytfdcldjoncednaa.ExI Go.Proofs.Ytfdcldjoncednaa.PureE Go.Proofs.Ytfdcldjoncednaa.ExB
set_option linter.unusedVariables false
set_option linter.unusedSimpArgs false
abbrev Up (l : List Int) : Prop := l.Pairwise (· < ·)
theorem Nums.lt {lo hi : Int} {l : List Int} (h : Nums lo hi l) : ∀ (d i : Nat), i + d + 1 < l.length → rd l (i : Int) < rd l ((i + d + 1 : Nat) : Int)
 | 0, i, hl => h.up i hl
 | d + 1, i, hl => Int.lt_trans (Nums.lt h d i (by omega)) (h.up (i + d + 1) hl)
theorem Nums.lt' {lo hi : Int} {l : List Int} (h : Nums lo hi l) {i j : Nat} (hij : i < j) (hj : j < l.length) : rd l (i : Int) < rd l (j : Int) := by
 have := Nums.lt h (j - i - 1) i (by omega)
 rwa [show i + (j - i - 1) + 1 = j by omega] at this
theorem nums_or {lo hi n : Int} {l : List Int} (h : Nums lo hi l) (h0 : lo ≤ n) (h1 : n ≤ hi) : Nums lo hi (orL l n) := by
 unfold orL
 split
 ·have e : ∀ j : Nat, j < [n].length → rd [n] (j : Int) = n := fun j hj => by
   have : j = 0 := by simp at hj; omega
   subst this; rfl
  exact ⟨by simp, fun j hj => by rw [e j hj]; exact h0, fun j hj => by rw [e j hj]; exact h1, fun j hj => by simp at hj⟩
 ·exact h
theorem up_add {l m : List Int} (h : Up l) (k : Up m) (c : ∀ a ∈ l, ∀ b ∈ m, a < b) : Up (l ++ m) := List.pairwise_append.2 ⟨h, k, c⟩
theorem secV_ {h m x : Int} (h0 : 0 ≤ h) (h1 : h ≤ 23) (m0 : 0 ≤ m) (m1 : m ≤ 59) (x0 : 0 ≤ x) (x1 : x ≤ 59) : secV h m x = 3600 * h + 60 * m + x := by
 unfold secV
 rw [w64 (x := 3600 * h) (by omega) (by omega), w64 (x := 60 * m) (by omega) (by omega), w64 (x := 3600 * h + 60 * m) (by omega) (by omega), w64 (by omega) (by omega)]
theorem rowS_up {h m : Int} {S : List Int} (h0 : 0 ≤ h) (h1 : h ≤ 23) (m0 : 0 ≤ m) (m1 : m ≤ 59) (hS : Nums 0 59 S) : ∀ q, q ≤ S.length → Up (rowS h m S q) ∧ ∀ x ∈ rowS h m S q, ∃ i, i < q ∧ x = 3600 * h + 60 * m + rd S (i : Int) := by
 intro q
 induction q with
 | zero => intro _; exact ⟨List.Pairwise.nil, fun x hx => by cases hx⟩
 | succ q ih =>
  intro hq
  obtain ⟨a, c⟩ := ih (by omega)
  have e := secV_ h0 h1 m0 m1 (hS.ge q (by omega)) (hS.le q (by omega))
  rw [rowS, e]
  refine ⟨up_add a (List.pairwise_singleton _ _) (fun x hx y hy => ?_), fun x hx => ?_⟩
  ·obtain ⟨i, hi, rfl⟩ := c x hx
   rw [List.mem_singleton.1 hy]
   have := Nums.lt' hS hi (by omega); omega
  ·rcases List.mem_append.1 hx with hx | hx
   ·obtain ⟨i, hi, rfl⟩ := c x hx; exact ⟨i, by omega, rfl⟩
   ·exact ⟨q, by omega, List.mem_singleton.1 hx⟩
theorem blkM_up {h : Int} {M S : List Int} (h0 : 0 ≤ h) (h1 : h ≤ 23) (hM : Nums 0 59 M) (hS : Nums 0 59 S) : ∀ q, q ≤ M.length → Up (blkM h M S q) ∧ ∀ x ∈ blkM h M S q, ∃ i j : Nat, i < q ∧ j < S.length ∧ x = 3600 * h + 60 * rd M (i : Int) + rd S (j : Int) := by
 intro q
 induction q with
 | zero => intro _; exact ⟨List.Pairwise.nil, fun x hx => by cases hx⟩
 | succ q ih =>
  intro hq
  obtain ⟨a, c⟩ := ih (by omega)
  obtain ⟨a2, c2⟩ := rowS_up h0 h1 (hM.ge q (by omega)) (hM.le q (by omega)) hS S.length (Nat.le_refl _)
  rw [blkM]
  refine ⟨up_add a a2 (fun x hx y hy => ?_), fun x hx => ?_⟩
  ·obtain ⟨i, j, hi, hj, rfl⟩ := c x hx
   obtain ⟨j', hj', rfl⟩ := c2 y hy
   have := Nums.lt' hM hi (by omega)
   have := hS.le j hj; have := hS.ge j' hj'; omega
  ·rcases List.mem_append.1 hx with hx | hx
   ·obtain ⟨i, j, hi, hj, rfl⟩ := c x hx; exact ⟨i, j, by omega, hj, rfl⟩
   ·obtain ⟨j, hj, rfl⟩ := c2 x hx; exact ⟨q, j, by omega, hj, rfl⟩
theorem allH_up {H M S : List Int} (hH : Nums 0 23 H) (hM : Nums 0 59 M) (hS : Nums 0 59 S) : ∀ q, q ≤ H.length → Up (allH H M S q) ∧ ∀ x ∈ allH H M S q, ∃ o i j : Nat, o < q ∧ i < M.length ∧ j < S.length ∧ x = 3600 * rd H (o : Int) + 60 * rd M (i : Int) + rd S (j : Int) := by
 intro q
 induction q with
 | zero => intro _; exact ⟨List.Pairwise.nil, fun x hx => by cases hx⟩
 | succ q ih =>
  intro hq
  obtain ⟨a, c⟩ := ih (by omega)
  obtain ⟨a2, c2⟩ := blkM_up (hH.ge q (by omega)) (hH.le q (by omega)) hM hS M.length (Nat.le_refl _)
  rw [allH]
  refine ⟨up_add a a2 (fun x hx y hy => ?_), fun x hx => ?_⟩
  ·obtain ⟨o, i, j, ho, hi, hj, rfl⟩ := c x hx
   obtain ⟨i', j', hi', hj', rfl⟩ := c2 y hy
   have := Nums.lt' hH ho (by omega)
   have := hS.le j hj; have := hS.ge j' hj'; have := hM.le i hi; have := hM.ge i' hi'; omega
  ·rcases List.mem_append.1 hx with hx | hx
   ·obtain ⟨o, i, j, ho, hi, hj, rfl⟩ := c x hx; exact ⟨o, i, j, by omega, hi, hj, rfl⟩
   ·obtain ⟨i, j, hi, hj, rfl⟩ := c2 x hx; exact ⟨q, i, j, by omega, hi, hj, rfl⟩
theorem secL_up {r : Ru} (f : Full r) {s : Int} (s0 : 0 ≤ s) (s1 : s < 86400) : Up (secL r s) ∧ ∀ x ∈ secL r s, 0 ≤ x ∧ x < 86400 := by
 have nH := nums_or (n := s / 3600) f.l10 (by omega) (by omega)
 have nM := nums_or (n := s / 60 % 60) f.l9 (by omega) (by omega)
 have nS := nums_or (n := s % 60) f.l8 (by omega) (by omega)
 obtain ⟨a, c⟩ := allH_up nH nM nS _ (Nat.le_refl _)
 refine ⟨a, fun x hx => ?_⟩
 obtain ⟨o, i, j, ho, hi, hj, rfl⟩ := c x hx
 have := nH.ge o ho; have := nH.le o ho; have := nM.ge i hi; have := nM.le i hi; have := nS.ge j hj; have := nS.le j hj
 omega
theorem dayG_up (fit : Int → Bool) (f : Int) : ∀ i, Up (dayG fit f i) ∧ ∀ x ∈ dayG fit f i, f ≤ x ∧ x < f + i
 | 0 => ⟨List.Pairwise.nil, fun x hx => by cases hx⟩
 | i + 1 => by
  obtain ⟨a, c⟩ := dayG_up fit f i
  unfold dayG
  split
  ·refine ⟨up_add a (List.pairwise_singleton _ _) (fun x hx y hy => ?_), fun x hx => ?_⟩
   ·rw [List.mem_singleton.1 hy]; exact (c x hx).2
   ·rcases List.mem_append.1 hx with hx | hx
    ·have := c x hx; omega
    ·rw [List.mem_singleton.1 hx]; omega
  ·exact ⟨a, fun x hx => by have := c x hx; omega⟩
theorem up_rd {l : List Int} (h : Up l) {i j : Nat} (hij : i < j) (hj : j < l.length) : rd l (i : Int) < rd l (j : Int) := by
 rw [rd_get l hj, rd_get l (show i < l.length by omega)]
 exact List.pairwise_iff_getElem.1 h i j (by omega) hj hij
theorem rd_mem {l : List Int} {i : Nat} (h : i < l.length) : rd l (i : Int) ∈ l := by rw [rd_get l h]; exact List.getElem_mem h
theorem timV_ {d x : Int} (d0 : -1 ≤ d) (d1 : d ≤ 3652060) (x0 : 0 ≤ x) (x1 : x < 86400) : timV d x = 86400 * d + x := by
 unfold timV
 rw [w64 (x := d * 86400) (by omega) (by omega), w64 (by omega) (by omega)]; omega
theorem dayT_up {d : Int} {D : List Int} (d0 : 1 ≤ d) (d1 : d ≤ 3652059) (hD : Up D) (h : ∀ x ∈ D, 0 ≤ x ∧ x < 86400) : ∀ q, q ≤ D.length → Up (dayT d D q) ∧ ∀ x ∈ dayT d D q, ∃ i, i < q ∧ x = 86400 * d + rd D (i : Int) := by
 intro q
 induction q with
 | zero => intro _; exact ⟨List.Pairwise.nil, fun x hx => by cases hx⟩
 | succ q ih =>
  intro hq
  obtain ⟨a, c⟩ := ih (by omega)
  have b := h _ (rd_mem (l := D) (i := q) (by omega))
  rw [dayT, timV_ (by omega) (by omega) b.1 b.2]
  refine ⟨up_add a (List.pairwise_singleton _ _) (fun x hx y hy => ?_), fun x hx => ?_⟩
  ·obtain ⟨i, hi, rfl⟩ := c x hx
   rw [List.mem_singleton.1 hy]
   have := up_rd hD hi (by omega); omega
  ·rcases List.mem_append.1 hx with hx | hx
   ·obtain ⟨i, hi, rfl⟩ := c x hx; exact ⟨i, by omega, rfl⟩
   ·exact ⟨q, by omega, List.mem_singleton.1 hx⟩
theorem allT_up {L D : List Int} (hL : Up L) (l : ∀ d ∈ L, 1 ≤ d ∧ d ≤ 3652059) (hD : Up D) (h : ∀ x ∈ D, 0 ≤ x ∧ x < 86400) : ∀ q, q ≤ L.length → Up (allT L D q) ∧ ∀ x ∈ allT L D q, ∃ i j : Nat, i < q ∧ j < D.length ∧ x = 86400 * rd L (i : Int) + rd D (j : Int) := by
 intro q
 induction q with
 | zero => intro _; exact ⟨List.Pairwise.nil, fun x hx => by cases hx⟩
 | succ q ih =>
  intro hq
  obtain ⟨a, c⟩ := ih (by omega)
  have b := l _ (rd_mem (l := L) (i := q) (by omega))
  obtain ⟨a2, c2⟩ := dayT_up b.1 b.2 hD h D.length (Nat.le_refl _)
  rw [allT]
  refine ⟨up_add a a2 (fun x hx y hy => ?_), fun x hx => ?_⟩
  ·obtain ⟨i, j, hi, hj, rfl⟩ := c x hx
   obtain ⟨j', hj', rfl⟩ := c2 y hy
   have := up_rd hL hi (by omega)
   have := h _ (rd_mem (l := D) hj); have := h _ (rd_mem (l := D) hj'); omega
  ·rcases List.mem_append.1 hx with hx | hx
   ·obtain ⟨i, j, hi, hj, rfl⟩ := c x hx; exact ⟨i, j, by omega, hj, rfl⟩
   ·obtain ⟨j, hj, rfl⟩ := c2 x hx; exact ⟨q, j, by omega, hj, rfl⟩
theorem selG_sub (sel : Nat → Bool) (T : List Int) : ∀ i, i ≤ T.length → (selG sel T i).Sublist (T.take i)
 | 0, _ => by simp [selG]
 | i + 1, h => by
  have a := selG_sub sel T i (by omega)
  have e : T.take (i + 1) = T.take i ++ [rd T (i : Int)] := by rw [rd_get T (show i < T.length by omega), ← List.take_append_getElem (show i < T.length by omega)]
  rw [e, selG]
  split
  ·exact a.append (List.Sublist.refl _)
  ·exact a.trans (List.sublist_append_left _ _)
theorem choT_sub (ps T : List Int) : (choT ps T).Sublist T := by
 unfold choT choL
 split
 ·exact List.Sublist.refl _
 ·have := selG_sub (selP ps T) T T.length (Nat.le_refl _)
  rwa [List.take_length] at this
theorem tim_up {r : Ru} {b dy s : Int} {B : Fa} {sf sl se : Int → Int} {fit : Int → Bool} {k : Nat} (h : Has r b dy s B sf sl se fit k) (n : Int) : Up (timL r sf sl se fit s n) ∧ ∀ x ∈ timL r sf sl se fit s n, 86400 * sf n ≤ x ∧ x < 86400 * (sl n + 1) := by
 have none : Up ([] : List Int) ∧ ∀ x ∈ ([] : List Int), 86400 * sf n ≤ x ∧ x < 86400 * (sl n + 1) := ⟨List.Pairwise.nil, fun x hx => by cases hx⟩
 unfold timL
 split; · exact none
 split; · exact none
 split; · exact none
 rename_i e
 obtain ⟨q1, q2, q3, q4⟩ := h.ok n (Decidable.not_not.1 e)
 obtain ⟨d1, d2⟩ := dayG_up fit (sf n) (sl n + 1 - sf n).toNat
 obtain ⟨s1, s2⟩ := secL_up h.full h.s0 h.s1
 have dd : ∀ d ∈ daysL fit (sf n) (sl n), sf n ≤ d ∧ d ≤ sl n := fun d hd => by have := d2 d hd; omega
 obtain ⟨a, c⟩ := allT_up (L := daysL fit (sf n) (sl n)) d1 (fun d hd => by have := dd d hd; omega) s1 s2 _ (Nat.le_refl _)
 refine ⟨List.Pairwise.sublist (choT_sub _ _) a, fun x hx => ?_⟩
 obtain ⟨i, j, hi, hj, rfl⟩ := c x ((choT_sub _ _).subset hx)
 have := dd _ (rd_mem hi); have := s2 _ (rd_mem hj); omega
/-- The day ahead of a month's first. -/
def mnF (q : Int) : Int := ah (q / 12) + cum (lp (q / 12)) (q % 12 + 1)
theorem mnF_lt {p q : Int} (h : p < q) : mnF p + dim (lp (p / 12)) (p % 12 + 1) ≤ mnF q := by
 have hl := lp_01 (p / 12)
 have cs := cum_succ (lp (p / 12)) (p % 12 + 1) (by omega) (by omega)
 unfold mnF
 by_cases c : p / 12 = q / 12
 ·have := cum_le (l := lp (p / 12)) (a := p % 12 + 1 + 1) (b := q % 12 + 1) hl (by omega) (by omega) (by omega)
  rw [← c]; omega
 ·have ce := cum_le (l := lp (p / 12)) (a := p % 12 + 1 + 1) (b := 13) hl (by omega) (by omega) (by omega)
  rw [cum_end] at ce
  have asu := ah_succ (p / 12)
  have al := ah_le (show p / 12 + 1 ≤ q / 12 by omega)
  have cb := cum_bd (l := lp (q / 12)) (m := q % 12 + 1) (lp_01 _) (by omega) (by omega)
  omega
/-- A later period lies behind. -/
theorem spans {r : Ru} {k : Nat} (hk : 130 ≤ k) {b n n' f l f' l' : Int} (h : SpOk k r true b n f l 0) (h' : SpOk k r true b n' f' l' 0) (hn : n < n') : l < f' := by
 cases h with
 | ask _ _ ne => exact absurd rfl ne
 | ok y m dd e r1 r2 f l he h hd b1 b2 n1 n2 y1 y2 hfe hle_ hle =>
  cases h' with
  | ask _ _ ne => exact absurd rfl ne
  | ok y_ m_ dd_ e_ r1' r2' f' l' he' h' hd' _ _ n1' n2' _ _ hfe' hle_' hle' =>
   rw [hd] at hd'
   have e1 := Option.some.inj hd'
   obtain ⟨rfl, rfl, rfl, rfl⟩ : y = y_ ∧ m = m_ ∧ dd = dd_ ∧ e = e_ := by simpa [Prod.mk.injEq] using e1
   have key : r1 ≤ r2 → r1' ≤ r2' → 1 ≤ r2 → 1 ≤ r2' → r2 < r1' := by
    obtain ⟨m', d', ed, iy⟩ := rDate_yes k (by omega) b ⟨b1, b2⟩
    rw [ed] at hd
    obtain ⟨hy, rfl, rfl, _⟩ : yr b = y ∧ m' = m ∧ d' = dd ∧ 0 = e := by simpa [Prod.mk.injEq] using Option.some.inj hd
    rw [hy] at iy
    have m1 := iy.m1; have m2 := iy.m2
    intro g1 g2 g3 g4
    cases h with
    | day c => cases h' with
     | day c' => omega
     | week _ c' => omega
     | month _ _ c' => omega
     | year _ _ c' => omega
     | none c' => omega
    | week wk c hw => cases h' with
     | day c' => omega
     | week wk' c' hw' => rw [hw] at hw'; cases hw'; omega
     | month _ _ c' => omega
     | year _ _ c' => omega
     | none c' => omega
    | month r1 r2 c hm => cases h' with
     | day c' => omega
     | week _ c' => omega
     | month r1' r2' c' hm' =>
      obtain ⟨q, hq⟩ : ∃ q, 12 * y + m' - 1 + n = q := ⟨_, rfl⟩
      obtain ⟨q', hq'⟩ : ∃ q', 12 * y + m' - 1 + n' = q' := ⟨_, rfl⟩
      by_cases g : 1 ≤ q / 12 ∧ q / 12 ≤ 9999
      ·by_cases g' : 1 ≤ q' / 12 ∧ q' / 12 ≤ 9999
       ·rw [month_in k (by omega) y m' d' n q y1 y2 m1 m2 (by omega) (by omega) hq g.1 g.2] at hm
        rw [month_in k (by omega) y m' d' n' q' y1 y2 m1 m2 (by omega) (by omega) hq' g'.1 g'.2] at hm'
        cases hm; cases hm'
        have := mnF_lt (show q < q' by omega)
        unfold mnF at this; omega
       ·rw [month_out k (by omega) y m' d' n' q' y1 y2 m1 m2 (by omega) (by omega) hq' g'] at hm'
        cases hm'; omega
      ·rw [month_out k (by omega) y m' d' n q y1 y2 m1 m2 (by omega) (by omega) hq g] at hm
       cases hm; omega
     | year _ _ c' => omega
     | none c' => omega
    | year g1_ g2_ c x1 x2 hg hg2 => cases h' with
     | day c' => omega
     | week _ c' => omega
     | month _ _ c' => omega
     | year g1' g2' c' x1' x2' hg' hg2' =>
      rw [rBegins _ (by omega) (by omega)] at hg2 hg'
      cases hg2; cases hg'
      have := ah_le (show y + n + 1 ≤ y + n' by omega); omega
     | none c' => omega
    | none c => omega
   split at hfe <;> split at hle_ <;> split at hfe' <;> split at hle_' <;> (subst hfe; subst hle_; subst hfe'; subst hle_'; have := key (by omega) (by omega) (by omega) (by omega); omega)
/-- Of a row, what comes is later than the begin, and rises. -/
theorem inner_sub (b last : Int) : ∀ (T : List Int) (left : Int), (inner b last T left).1.Sublist T ∧ (∀ x ∈ (inner b last T left).1, b < x) ∧ (0 ≤ left → left ≤ 1000 → ((inner b last T left).1.length : Int) + (inner b last T left).2.1 = left ∧ 0 ≤ (inner b last T left).2.1) := by
 intro T
 induction T with
 | nil => intro left; exact ⟨List.Sublist.refl _, (fun x hx => by cases hx), fun h _ => ⟨by simp [inner], h⟩⟩
 | cons t ts ih =>
  intro left
  unfold inner
  by_cases c : t ≤ b
  ·rw [if_pos c]
   obtain ⟨h1, h2, h3⟩ := ih left
   exact ⟨h1.cons _, h2, h3⟩
  rw [if_neg c]
  by_cases c1 : t > last ∨ left = 0
  ·rw [if_pos c1]; exact ⟨List.nil_sublist _, (fun x hx => by cases hx), fun h _ => ⟨by simp, h⟩⟩
  rw [if_neg c1]
  obtain ⟨h1, h2, h3⟩ := ih (wrap64 (left - 1))
  refine ⟨h1.cons_cons _, fun x hx => ?_, fun h h' => ?_⟩
  ·rcases List.mem_cons.1 hx with rfl | hx
   ·omega
   ·exact h2 x hx
  ·have : left ≠ 0 := fun q => c1 (Or.inr q)
   rw [w64 (x := left - 1) (by omega) (by omega)] at *
   obtain ⟨a, d⟩ := h3 (by omega) (by omega)
   simp only [List.length_cons]
   exact ⟨by omega, d⟩
theorem each_up {r : Ru} {b dy s : Int} {B : Fa} {sf sl se : Int → Int} {fit : Int → Bool} {k : Nat} (hk : 130 ≤ k) (h : Has r b dy s B sf sl se fit k) (last : Int) : ∀ (K : Nat) (per left : Int) (rest : List Int), 0 ≤ per → per ≤ 4000000 → eachL b last r.a1 sf se (timL r sf sl se fit s) K per left = some rest →
  Up rest ∧ (∀ x ∈ rest, b < x) ∧ (∀ x ∈ rest, ∃ n, per ≤ n ∧ se n = 0 ∧ 86400 * sf n ≤ x) ∧ (0 ≤ left → left ≤ 1000 → (rest.length : Int) ≤ left) := by
 have i1 := h.full.f.i1; have i2 := h.full.i2
 intro K
 induction K with
 | zero => intro per left rest _ _ hr; simp [eachL] at hr
 | succ K ih =>
  intro per left rest p0 p9 hr
  have none : Up ([] : List Int) ∧ (∀ x ∈ ([] : List Int), b < x) ∧ (∀ x ∈ ([] : List Int), ∃ n, per ≤ n ∧ se n = 0 ∧ 86400 * sf n ≤ x) ∧ (0 ≤ left → left ≤ 1000 → (([] : List Int).length : Int) ≤ left) :=
   ⟨List.Pairwise.nil, (fun x hx => by cases hx), (fun x hx => by cases hx), fun q _ => by simpa using q⟩
  unfold eachL at hr
  by_cases c : left = 0
  ·rw [if_pos c] at hr; cases hr; exact none
  rw [if_neg c] at hr
  by_cases c1 : se per ≠ 0 ∨ wrap64 (sf per * 86400) > last
  ·rw [if_pos c1] at hr; cases hr; exact none
  rw [if_neg c1] at hr
  have ez : se per = 0 := Decidable.not_not.1 fun q => c1 (Or.inl q)
  obtain ⟨t1, t2⟩ := tim_up h per
  obtain ⟨u1, u2, u3⟩ := inner_sub b last (timL r sf sl se fit s per) left
  have a1 : Up (inner b last (timL r sf sl se fit s per) left).1 := List.Pairwise.sublist u1 t1
  have a2 : ∀ x ∈ (inner b last (timL r sf sl se fit s per) left).1, 86400 * sf per ≤ x ∧ x < 86400 * (sl per + 1) := fun x hx => t2 x (u1.subset hx)
  by_cases d : (inner b last (timL r sf sl se fit s per) left).2.2 = true
  ·rw [if_pos d] at hr; cases hr
   exact ⟨a1, u2, fun x hx => ⟨per, Int.le_refl _, ez, (a2 x hx).1⟩, fun q q' => by have := u3 q q'; omega⟩
  rw [if_neg d] at hr
  obtain ⟨x, hx, rfl⟩ := Option.map_eq_some_iff.1 hr
  have pe := h.ok per ez
  rw [w64 (x := per + r.a1) (by omega) (by omega)] at hx
  obtain ⟨v1, v2, v3, v4⟩ := ih _ _ x (by omega) (by omega) hx
  refine ⟨up_add a1 v1 (fun y hy z hz => ?_), fun y hy => ?_, fun y hy => ?_, fun q q' => ?_⟩
  ·obtain ⟨n, hn, hn0, hz'⟩ := v3 z hz
   have s1 := h.sp per; have s2 := h.sp n
   rw [ez] at s1; rw [hn0] at s2
   have := spans hk s1 s2 (by omega)
   have := a2 y hy; omega
  ·rcases List.mem_append.1 hy with hy | hy
   ·exact u2 y hy
   ·exact v2 y hy
  ·rcases List.mem_append.1 hy with hy | hy
   ·exact ⟨per, Int.le_refl _, ez, (a2 y hy).1⟩
   ·obtain ⟨n, hn, q⟩ := v3 y hy; exact ⟨n, by omega, q⟩
  ·obtain ⟨e1, e2⟩ := u3 q q'
   have := v4 e2 (by omega)
   simp only [List.length_append]; omega
theorem all_up {b last : Int} {rest : List Int} (h : Up rest) (h2 : ∀ x ∈ rest, b < x) : Up (allU b last rest) := by
 unfold allU; split
 ·exact List.Pairwise.nil
 ·exact List.pairwise_cons.2 ⟨h2, h⟩
end Go.Proofs.Ytfdcldjoncednaa.ExR
