/- Texts of this claim, merged: ExB, MexB, RefW, ExL. -/
import Derived.Test.YtfdcldjoncednaaMgExpandCounts17
import Derived.Test.YtfdcldjoncednaaMgExpandCounts1
import Derived.Test.YtfdcldjoncednaaMgExpandCounts7
/- What a formed rule means: the contracts of expand put together. -/
namespace Go.Proofs.Ytfdcldjoncednaa.ExB
open Go.RowKit Go.Proofs.YtfdcldjoncednaaW.PrintWords Go.Proofs.YtfdcldjoncednaaW.PrintLast Go.Proofs.Ytfdcldjoncednaa.M Go.Proofs.Ytfdcldjoncednaa.Cal Go.Proofs.Ytfdcldjoncednaa.FunA Go.Proofs.Ytfdcldjoncednaa.FunB Go.Proofs.Ytfdcldjoncednaa.Ru Go.Proofs.Ytfdcldjoncednaa.MatD Go.Proofs.Ytfdcldjoncednaa.MatP Go.Proofs.Ytfdcldjoncednaa.MatF Go.Proofs.Ytfdcldjoncednaa.MatG Go.Proofs.Ytfdcldjoncednaa.MatS Go.Proofs.Ytfdcldjoncednaa.RefF Go.Proofs.Ytfdcldjoncednaa.RecG Go.Proofs.Ytfdcldjoncednaa.ExD Go.Proofs.Ytfdcldjoncednaa.ExO Go.Proofs.Ytfdcldjoncednaa.ExS Go.Proofs.Ytfdcldjoncednaa.ExT Go.Proofs.Ytfdcldjoncednaa.ExE Go.Proofs.Ytfdcldjoncednaa.ExI Go.Proofs.Ytfdcldjoncednaa.ExU Go.Proofs.Ytfdcldjoncednaa.PureE
set_option linter.unusedVariables false
set_option linter.unusedSimpArgs false
/-- Numbers in their bounds, rising. -/
structure Nums (lo hi : Int) (l : List Int) : Prop where
 len : l.length ≤ 40
 ge : ∀ j : Nat, j < l.length → lo ≤ rd l (j : Int)
 le : ∀ j : Nat, j < l.length → rd l (j : Int) ≤ hi
 up : ∀ j : Nat, j + 1 < l.length → rd l (j : Int) < rd l ((j + 1 : Nat) : Int)
theorem nums_of {lo hi : Int} {z : Bool} {l : List Int} (h : RecM.formedF lo hi z l = true) : Nums lo hi l := by
 obtain ⟨h1, h2⟩ := (RecM.formedF_iff _ _ _ _).1 h
 have m : ∀ j : Nat, j < l.length → lo ≤ rd l (j : Int) ∧ rd l (j : Int) ≤ hi := fun j hj => by
  have := (h2 j hj).1
  unfold RecM.mayF at this
  simp only [Bool.and_eq_true, decide_eq_true_eq] at this
  exact this.1
 exact ⟨h1, fun j hj => (m j hj).1, fun j hj => (m j hj).2, fun j hj => (h2 (j + 1) hj).2 (by omega)⟩
/-- What a formed rule is, as far as its times go. -/
structure Full (r : Ru) : Prop where
 f : Frm r
 i2 : r.a1 ≤ 1000
 c0 : 0 ≤ r.a2
 c1 : r.a2 ≤ 1000
 l8 : Nums 0 59 r.l8
 l9 : Nums 0 59 r.l9
 l10 : Nums 0 23 r.l10
 l16 : r.l16.length ≤ 40
theorem full_of {r : Ru} {rt : Bool} (h : frmB r rt = true) : Full r := by
 have f := frm_of h
 unfold frmB at h
 simp only [Bool.and_eq_true] at h
 obtain ⟨h1, _, h3, _, h5⟩ := h
 unfold grd at h1
 simp only [Bool.and_eq_true, Bool.not_eq_true', decide_eq_false_iff_not] at h1
 have q0 : Nums 0 59 r.l8 := nums_of (z := false) (by have := all8_at h3 0 (by omega); unfold formL lo RefF.hi nz LL at this; exact this)
 have q1 : Nums 0 59 r.l9 := nums_of (z := false) (by have := all8_at h3 1 (by omega); unfold formL lo RefF.hi nz LL at this; exact this)
 have q2 : Nums 0 23 r.l10 := nums_of (z := false) (by have := all8_at h3 2 (by omega); unfold formL lo RefF.hi nz LL at this; exact this)
 have q7 : r.l16.length ≤ 40 := by have := ((RecM.formedF_iff _ _ _ _).1 (all8_at h3 7 (by omega))).1; unfold LL at this; exact this
 exact ⟨f, by omega, by omega, by omega, q0, q1, q2, q7⟩
theorem orL_len (l : List Int) (n : Int) (h : l.length ≤ 40) : (orL l n).length ≤ 40 ∧ 1 ≤ (orL l n).length := by
 unfold orL; split
 ·simp
 ·omega
/-- A minute's seconds. -/
def rowS (h m : Int) (S : List Int) : Nat → List Int
 | 0 => []
 | q + 1 => rowS h m S q ++ [secV h m (rd S (q : Int))]
/-- An hour's. -/
def blkM (h : Int) (M S : List Int) : Nat → List Int
 | 0 => []
 | j + 1 => blkM h M S j ++ rowS h (rd M (j : Int)) S S.length
/-- A day's. -/
def allH (H M S : List Int) : Nat → List Int
 | 0 => []
 | i + 1 => allH H M S i ++ blkM (rd H (i : Int)) M S M.length
theorem rowS_len (h m : Int) (S : List Int) : ∀ q, (rowS h m S q).length = q
 | 0 => rfl
 | q + 1 => by rw [rowS, List.length_append, rowS_len h m S q]; rfl
theorem blkM_len (h : Int) (M S : List Int) (hS : S.length ≤ 40) : ∀ j, (blkM h M S j).length ≤ 40 * j
 | 0 => by simp [blkM]
 | j + 1 => by have := blkM_len h M S hS j; rw [blkM, List.length_append, rowS_len]; omega
theorem allH_len (H M S : List Int) (hM : M.length ≤ 40) (hS : S.length ≤ 40) : ∀ i, (allH H M S i).length ≤ 1600 * i
 | 0 => by simp [allH]
 | i + 1 => by have := allH_len H M S hM hS i; have := blkM_len (rd H (i : Int)) M S hS M.length; rw [allH, List.length_append]; omega
/-- A rule's seconds of a day, s its begin's. -/
def secL (r : Ru) (s : Int) : List Int := allH (orL r.l10 (s / 3600)) (orL r.l9 (s / 60 % 60)) (orL r.l8 (s % 60)) (orL r.l10 (s / 3600)).length
theorem secL_len {r : Ru} (f : Full r) (s : Int) : (secL r s).length ≤ 64000 := by
 have a := (orL_len r.l10 (s / 3600) f.l10.len).1
 have := allH_len (orL r.l10 (s / 3600)) (orL r.l9 (s / 60 % 60)) (orL r.l8 (s % 60)) (orL_len _ _ f.l9.len).1 (orL_len _ _ f.l8.len).1 (orL r.l10 (s / 3600)).length
 unfold secL; omega
theorem secC (r : Ru) (p : Rp) (f : Full r) (b s : Int) (hs : clock_Second.f b = some s) (h0 : 0 ≤ s) (h1 : s < 86400) : SecC r p b (secL r s) := by
 intro w ok
 have q1 : wrap64 (Int.tdiv s 3600) = s / 3600 := by rw [Int.tdiv_eq_ediv_of_nonneg h0, w64 (by omega) (by omega)]
 have q2 : wrap64 (Int.tdiv s 60) = s / 60 := by rw [Int.tdiv_eq_ediv_of_nonneg h0, w64 (by omega) (by omega)]
 have lM := (orL_len r.l9 (s / 60 % 60) f.l9.len).1
 have lS := (orL_len r.l8 (s % 60) f.l8.len).1
 have lH := (orL_len r.l10 (s / 3600) f.l10.len).1
 obtain ⟨H, hH⟩ : ∃ H, orL r.l10 (s / 3600) = H := ⟨_, rfl⟩
 obtain ⟨M, hM⟩ : ∃ M, orL r.l9 (s / 60 % 60) = M := ⟨_, rfl⟩
 obtain ⟨S, hS⟩ : ∃ S, orL r.l8 (s % 60) = S := ⟨_, rfl⟩
 have e : secL r s = allH H M S H.length := by unfold secL; rw [hH, hM, hS]
 rw [hM] at lM; rw [hS] at lS; rw [hH] at lH
 rw [e]
 exact seconds r p b s (s / 3600) (s / 60) (s / 60 % 60) (s % 60) H M S (allH H M S) (fun i j => allH H M S i ++ blkM (rd H (i : Int)) M S j) (fun i j q => allH H M S i ++ blkM (rd H (i : Int)) M S j ++ rowS (rd H (i : Int)) (rd M (j : Int)) S q) w ok hs q1 q2 (Int.tmod_eq_emod_of_nonneg (by omega)) (Int.tmod_eq_emod_of_nonneg h0) hH hM hS ⟨by omega, by omega, by omega⟩ rfl (fun i => by simp [blkM]) (fun i j => by simp [rowS]) (fun i j q => by simp [rowS]) (fun i j => by simp [blkM]) (fun i => by simp [allH]) (fun i j q hi hj hq => by
  have a := allH_len H M S lM lS i; have b := blkM_len (rd H (i : Int)) M S lS j; have c := rowS_len (rd H (i : Int)) (rd M (j : Int)) S q
  simp only [List.length_append]; omega)
/-- The days from f on that fit, of so many. -/
def dayG (fit : Int → Bool) (f : Int) : Nat → List Int
 | 0 => []
 | i + 1 => if fit (f + i) = true then dayG fit f i ++ [f + i] else dayG fit f i
theorem dayG_len (fit : Int → Bool) (f : Int) : ∀ i, (dayG fit f i).length ≤ i
 | 0 => Nat.le_refl _
 | i + 1 => by have := dayG_len fit f i; unfold dayG; split <;> simp <;> omega
def daysL (fit : Int → Bool) (f l : Int) : List Int := dayG fit f (l + 1 - f).toNat
theorem daysC (r : Ru) (p : Rp) (k : Nat) (b : Int) (B : Fa) (fit : Int → Bool) (hB : dayOf k b B) (hf : ∀ d, In d → ∃ X, dayOf k d X ∧ FitsOk k r B X (fit d)) (f l : Int) (f1 : 1 ≤ f) (fl : f ≤ l) (l2 : l ≤ 3652059) : DaysC r p b f l (daysL fit f l) := fun w ok =>
 days k r p b f l B (l + 1 - f).toNat (dayG fit f) fit w ok hB (fun x h1 h2 => hf x ⟨by omega, by omega⟩) (Or.inl (by omega)) (by omega) (by omega) rfl (fun i => rfl) (dayG_len fit f) (by omega)
/-- A day's times. -/
def dayT (d : Int) (D : List Int) : Nat → List Int
 | 0 => []
 | j + 1 => dayT d D j ++ [timV d (rd D (j : Int))]
/-- All of a period's. -/
def allT (L D : List Int) : Nat → List Int
 | 0 => []
 | i + 1 => allT L D i ++ dayT (rd L (i : Int)) D D.length
theorem dayT_len (d : Int) (D : List Int) : ∀ j, (dayT d D j).length = j
 | 0 => rfl
 | j + 1 => by rw [dayT, List.length_append, dayT_len d D j]; rfl
theorem allT_len (L D : List Int) (h : D.length ≤ 64000) : ∀ i, (allT L D i).length ≤ 64000 * i
 | 0 => by simp [allT]
 | i + 1 => by have := allT_len L D h i; rw [allT, List.length_append, dayT_len]; omega
/-- Those whose places are chosen. -/
def selG (sel : Nat → Bool) (T : List Int) : Nat → List Int
 | 0 => []
 | i + 1 => if sel i = true then selG sel T i ++ [rd T (i : Int)] else selG sel T i
theorem selG_len (sel : Nat → Bool) (T : List Int) : ∀ i, (selG sel T i).length ≤ i
 | 0 => Nat.le_refl _
 | i + 1 => by have := selG_len sel T i; unfold selG; split <;> simp <;> omega
def selP (ps T : List Int) (i : Nat) : Bool := decide ((i : Int) + 1 ∈ ps) || decide ((i : Int) - (T.length : Int) ∈ ps)
def choT (ps T : List Int) : List Int := choL ps T (selG (selP ps T) T T.length)
theorem rd_drop (l : List Int) {i : Nat} (h : i < l.length) : l.drop i = rd l (i : Int) :: l.drop (i + 1) := by
 rw [List.drop_eq_getElem_cons h, rd_get l h]
theorem idx0 (l : List Int) (a : Int) (hl : l.length ≤ 1000) : ∀ (j i : Nat), j + i = l.length → ∃ z : Int, (z ≥ 0 ↔ a ∈ l.drop i) ∧ ∀ k, j + 1 ≤ k → slices_Index_int_int.l0 k l a (l.length : Int) (i : Int) = some z := by
 intro j
 induction j with
 | zero =>
  intro i hj
  refine ⟨-1, ⟨fun h => by omega, fun h => ?_⟩, fun k hk => ?_⟩
  ·rw [List.drop_of_length_le (by omega)] at h; cases h
  ·obtain ⟨k, rfl⟩ : ∃ m, k = m + 1 := ⟨k - 1, by omega⟩
   simp only [slices_Index_int_int.l0]
   rw [if_neg (by omega)]
 | succ j ih =>
  intro i hj
  obtain ⟨b, hb, hk⟩ := ih (i + 1) (by omega)
  have dr := rd_drop l (i := i) (by omega)
  by_cases e : a = rd l (i : Int)
  ·refine ⟨(i : Int), ⟨fun _ => by rw [dr, ← e]; exact List.mem_cons_self, fun _ => by omega⟩, fun k hk => ?_⟩
   obtain ⟨k, rfl⟩ : ∃ m, k = m + 1 := ⟨k - 1, by omega⟩
   simp only [slices_Index_int_int.l0]
   rw [if_pos (by omega), if_pos (by omega), if_pos (by omega), if_pos e]
  ·refine ⟨b, ⟨fun h => by rw [dr]; exact List.mem_cons_of_mem _ (hb.1 h), fun h => ?_⟩, fun k hk' => ?_⟩
   ·rw [dr] at h
    rcases List.mem_cons.1 h with q | q
    ·exact absurd q e
    ·exact hb.2 q
   ·obtain ⟨k, rfl⟩ : ∃ m, k = m + 1 := ⟨k - 1, by omega⟩
    simp only [slices_Index_int_int.l0]
    rw [if_pos (by omega), if_pos (by omega), if_pos (by omega), if_neg e, w64 (by omega) (by omega), show (i : Int) + 1 = ((i + 1 : Nat) : Int) by omega]
    exact hk k (by omega)
theorem cont_eq (l : List Int) (a : Int) (hl : l.length ≤ 1000) (k : Nat) (hk : l.length + 1 ≤ k) : slices_Contains_int_int.f k l a = some (decide (a ∈ l)) := by
 obtain ⟨z, h1, h2⟩ := idx0 l a hl l.length 0 (by omega)
 have := h2 k hk
 unfold slices_Contains_int_int.f slices_Index_int_int.f
 simp only [Int.natCast_zero] at this
 rw [this, Option.bind_some]
 rw [List.drop_zero] at h1
 by_cases c : a ∈ l
 ·rw [decide_eq_true (h1.2 c), decide_eq_true c]
 ·rw [decide_eq_false (fun q => c (h1.1 q)), decide_eq_false c]
theorem selOk (ps T : List Int) (h : ps.length ≤ 40) : SelOk 1000 T ps (selP ps T) := fun i hi =>
 ⟨_, _, cont_eq ps _ (by omega) 1000 (by omega), cont_eq ps _ (by omega) 1000 (by omega), rfl⟩
/-- A period's times. -/
def timL (r : Ru) (sf sl se : Int → Int) (fit : Int → Bool) (s n : Int) : List Int :=
 if n < 0 then [] else if Int.tmod n r.a1 ≠ 0 then [] else if se n ≠ 0 then [] else
  choT r.l16 (allT (daysL fit (sf n) (sl n)) (secL r s) (daysL fit (sf n) (sl n)).length)
theorem choT_len (ps T : List Int) : (choT ps T).length ≤ T.length := by
 unfold choT choL; split
 ·exact Nat.le_refl _
 ·exact selG_len _ _ _
/-- What is told of a formed rule and a right begin. -/
structure Has (r : Ru) (b dy s : Int) (B : Fa) (sf sl se : Int → Int) (fit : Int → Bool) (k : Nat) : Prop where
 full : Full r
 day : clock_Day.f b = some dy
 sec : clock_Second.f b = some s
 s0 : 0 ≤ s
 s1 : s < 86400
 din : In dy
 bt : b = 86400 * dy + s
 bd : dayOf k dy B
 bday : B.day = dy
 form : FormOk k r true
 sp : ∀ n, SpOk k r true dy n (sf n) (sl n) (se n)
 ok : ∀ n, se n = 0 → 1 ≤ sf n ∧ sf n ≤ sl n ∧ sl n ≤ 3652059 ∧ n ≤ 3652059
 ft : ∀ d, In d → ∃ X, dayOf k d X ∧ FitsOk k r B X (fit d)
theorem Has.tim_len {r : Ru} {b dy s : Int} {B : Fa} {sf sl se : Int → Int} {fit : Int → Bool} {k : Nat} (h : Has r b dy s B sf sl se fit k) (n : Int) : (timL r sf sl se fit s n).length ≤ 17000000000000 := by
 unfold timL
 split; · simp
 split; · simp
 split; · simp
 rename_i e
 obtain ⟨q1, q2, q3, q4⟩ := h.ok n (by omega)
 have a := choT_len r.l16 (allT (daysL fit (sf n) (sl n)) (secL r s) (daysL fit (sf n) (sl n)).length)
 have c := allT_len (daysL fit (sf n) (sl n)) (secL r s) (secL_len h.full s) (daysL fit (sf n) (sl n)).length
 have d := dayG_len fit (sf n) (sl n + 1 - sf n).toNat
 unfold daysL at *
 omega
theorem Has.span {r : Ru} {b dy s : Int} {B : Fa} {sf sl se : Int → Int} {fit : Int → Bool} {k : Nat} (h : Has r b dy s B sf sl se fit k) (p : Rp) (n : Int) : SpanC r p dy n (sf n) (sl n) (se n) := fun w ok =>
 Span k r p true dy n (sf n) (sl n) (se n) w ok h.form (h.sp n)
theorem Has.tim {r : Ru} {b dy s : Int} {B : Fa} {sf sl se : Int → Int} {fit : Int → Bool} {k : Nat} (h : Has r b dy s B sf sl se fit k) (p : Rp) (n : Int) : TimC r p b n (timL r sf sl se fit s n) := by
 intro w ok
 have i1 := h.full.f.i1
 unfold timL
 by_cases c : n < 0
 ·rw [if_pos c]; exact neg r p b n c w ok
 rw [if_neg c]
 by_cases c2 : Int.tmod n r.a1 ≠ 0
 ·rw [if_pos c2]; exact rem r p b n c i1 _ rfl c2 w ok
 rw [if_neg c2]
 have c2' : Int.tmod n r.a1 = 0 := Decidable.not_not.1 c2
 by_cases c3 : se n ≠ 0
 ·rw [if_pos c3]; exact err r p b n c i1 _ rfl c2' dy _ _ _ h.day (h.span p n) c3 w ok
 rw [if_neg c3]
 have c3' : se n = 0 := Decidable.not_not.1 c3
 obtain ⟨q1, q2, q3, q4⟩ := h.ok n c3'
 have dl : (daysL fit (sf n) (sl n)).length ≤ 3652059 := by have := dayG_len fit (sf n) (sl n + 1 - sf n).toNat; unfold daysL; omega
 have sl_ := secL_len h.full s
 have hD := daysC r p k dy B fit h.bd h.ft (sf n) (sl n) q1 q2 q3
 have hS := secC r p h.full b s h.sec h.s0 h.s1
 generalize daysL fit (sf n) (sl n) = L at dl hD ⊢
 generalize secL r s = D at sl_ hS ⊢
 have tl : ∀ i, i ≤ L.length → (allT L D i).length ≤ 64000 * 3652059 := fun i hi => by have := allT_len L D sl_ i; omega
 exact times r p b n c i1 _ rfl c2' dy _ _ _ h.day (h.span p n) c3' D L hS hD (allT L D) (fun i j => allT L D i ++ dayT (rd L (i : Int)) D j) rfl (fun i => by simp [dayT]) (fun i j => by simp [dayT]) (fun i => by simp [allT]) ⟨by omega, by omega⟩
  (fun i j hi hj => by have := tl i (by omega); have := dayT_len (rd L (i : Int)) D j; simp only [List.length_append]; omega) (allT L D L.length) rfl 1000 (selP r.l16 (allT L D L.length)) (selG (selP r.l16 (allT L D L.length)) (allT L D L.length)) (fun _ => selOk _ _ h.full.l16) (by have := tl L.length (Nat.le_refl _); omega) rfl (fun i => rfl) (selG_len _ _) w ok
/-- Of every formed rule and right begin it is told. -/
theorem has_ (r : Ru) (rt : Bool) (k : Nat) (hk : 130 ≤ k) (hf : frmB r rt = true) (fo : FormOk k r true) (b : Int) (b0 : 86400 ≤ b) (b1 : b < 315537984000) : ∃ B sf sl se fit, Has r b (b / 86400) (b % 86400) B sf sl se fit k := by
 have full := full_of hf
 have din : In (b / 86400) := ⟨by omega, by omega⟩
 have hr : clock_Right.f b = some true := by rw [Right.cRight, decide_eq_true b0, decide_eq_true b1]; rfl
 have hd : clock_Day.f b = some (b / 86400) := by unfold clock_Day.f; rw [hr]; simp [Right.cSplit (show 0 ≤ b by omega) (show b ≤ 9223372036854775807 by omega)]
 have hs : clock_Second.f b = some (b % 86400) := by unfold clock_Second.f; rw [hr]; simp [Right.cSplit (show 0 ≤ b by omega) (show b ≤ 9223372036854775807 by omega)]
 obtain ⟨y, m, dd, _, _, iy, _, ey⟩ := dateP k hk _ din
 have bd : dayOf k (b / 86400) (fa_of (b / 86400) y m dd) := ey
 have e1 : ∀ n, ∃ q : Int × Int × Int, SpOk k r true (b / 86400) n q.1 q.2.1 q.2.2 ∧ (q.2.2 = 0 → 1 ≤ q.1 ∧ q.1 ≤ q.2.1 ∧ q.2.1 ≤ 3652059 ∧ n ≤ 3652059) := fun n => by
  obtain ⟨g, l, e, h1, h2⟩ := spanEx k hk r full.f _ din n
  exact ⟨(g, l, e), h1, h2⟩
 obtain ⟨sp, hsp⟩ := Classical.axiomOfChoice e1
 have e2 : ∀ d, ∃ v : Bool, In d → ∃ X, dayOf k d X ∧ FitsOk k r (fa_of (b / 86400) y m dd) X v := fun d => by
  by_cases c : In d
  ·obtain ⟨X, v, h⟩ := fitsEx r full.f k hk (fa_of (b / 86400) y m dd) din d c
   exact ⟨v, fun _ => ⟨X, h⟩⟩
  ·exact ⟨true, fun q => absurd q c⟩
 obtain ⟨fit, hfit⟩ := Classical.axiomOfChoice e2
 exact ⟨fa_of (b / 86400) y m dd, fun n => (sp n).1, fun n => (sp n).2.1, fun n => (sp n).2.2, fit, full, hd, hs, by omega, by omega, din, by omega, bd, rfl, fo, fun n => (hsp n).1, fun n => (hsp n).2, hfit⟩
/-- It ends. -/
theorem ends {r : Ru} {b dy s : Int} {B : Fa} {sf sl se : Int → Int} {fit : Int → Bool} {k : Nat} (h : Has r b dy s B sf sl se fit k) (last : Int) (tm : Int → List Int) : ∀ (m : Nat) (per left : Int), 0 ≤ per → 3652060 ≤ per + m → per ≤ 4000000 → ∃ rest, eachL b last r.a1 sf se tm (m + 1) per left = some rest := by
 have i1 := h.full.f.i1; have i2 := h.full.i2
 intro m
 induction m with
 | zero =>
  intro per left p0 pm p9
  unfold eachL
  split; · exact ⟨_, rfl⟩
  have : se per ≠ 0 := fun q => by have := h.ok per q; omega
  rw [if_pos (Or.inl this)]; exact ⟨_, rfl⟩
 | succ m ih =>
  intro per left p0 pm p9
  unfold eachL
  split; · exact ⟨_, rfl⟩
  split; · exact ⟨_, rfl⟩
  rename_i c
  have pe : per ≤ 3652059 := by
   have : se per = 0 := Decidable.not_not.1 fun q => c (Or.inl q)
   have := h.ok per this; omega
  split; · exact ⟨_, rfl⟩
  rw [w64 (x := per + r.a1) (by omega) (by omega)]
  obtain ⟨rest, hr⟩ := ih (per + r.a1) (inner b last (tm per) left).2.1 (by omega) (by omega) (by omega)
  rw [hr]; exact ⟨_, rfl⟩
/-- What Until answers of a formed rule and a right begin. -/
theorem until_ {r : Ru} {b dy s : Int} {B : Fa} {sf sl se : Int → Int} {fit : Int → Bool} {k : Nat} (h : Has r b dy s B sf sl se fit k) (hr : clock_Right.f b = some true) (p : Rp) (last most : Int) (rest : List Int) (K : Nat)
  (hU : eachL b (endF r last) r.a1 sf se (timL r sf sl se fit s) K 0 (wrap64 (r.a2 - 1)) = some rest) (hN : rest.length ≤ 17000000000000 ∨ most ≤ 17000000000000) (m0 : 0 ≤ most) (w : World) (ok : Ok r p w) :
  Calls Try.prog 14 #[.agg (agg r p), .int .i64 b, .int .i64 last, .int .i64 most] w fun e W' => OutU W' ((allU b last rest).take most.toNat) (decide (most < ((allU b last rest).length : Int))) 0 e ∧ Below w.heap.size w W' :=
 untilOk k r p b last most (endF r last) dy sf sl se (timL r sf sl se fit s) (fun per => 0 ≤ per) rest K w ok h.form hr (by omega) h.day rfl (Int.le_refl 0)
  (fun per h0 he => by have q := h.ok per he; have i1 := h.full.f.i1; have i2 := h.full.i2; rw [w64 (x := per + r.a1) (by omega) (by omega)]; omega) (fun n _ => h.span p n) (fun n _ _ => h.tim p n) h.tim_len (fun _ => hU) hN
end Go.Proofs.Ytfdcldjoncednaa.ExB
namespace Go.Proofs.Ytfdcldjoncednaa.M
open Go.RowKit Go.Proofs.YtfdcldjoncednaaW.PrintWords Go.Proofs.YtfdcldjoncednaaW.PrintLast Go.Proofs.YtfdcldjoncednaaW.PrintMore
attribute [local go_sem] max2_int min2_int max_two min_two
set_option linter.unusedVariables false
set_option linter.unusedSimpArgs false
/-! ### trystlaw13_PerDay: function 13 -/
def trystlaw13_PerDay.f (a0_0 : Int) (a0_1 : Int) (a0_2 : Int) (a0_3 : Int) (a0_4 : Int) (a0_5 : ByteArray) (a0_6 : Bool) (a0_7 : Int) (l0_8 : List Int) (l0_9 : List Int) (l0_10 : List Int) (l0_11 : List (S73)) (l0_12 : List Int) (l0_13 : List Int) (l0_14 : List Int) (l0_15 : List Int) (l0_16 : List Int) : Option (Int) := some (wrap64 ((wrap64 ((mx 1 (l0_10.length : Int)) * (mx 1 (l0_9.length : Int)))) * (mx 1 (l0_8.length : Int))))
set_option maxHeartbeats 8000000 in
set_option maxRecDepth 100000 in
theorem trystlaw13_PerDay.calls (a0_0 : Int) (a0_1 : Int) (a0_2 : Int) (a0_3 : Int) (a0_4 : Int) (a0_5 : ByteArray) (a0_6 : Bool) (a0_7 : Int) (A0_8 : Option Addr) (c0_8 : Nat) (l0_8 : List Int) (A0_9 : Option Addr) (c0_9 : Nat) (l0_9 : List Int) (A0_10 : Option Addr) (c0_10 : Nat) (l0_10 : List Int) (A0_11 : Option Addr) (c0_11 : Nat) (l0_11 : List (S73)) (A0_12 : Option Addr) (c0_12 : Nat) (l0_12 : List Int) (A0_13 : Option Addr) (c0_13 : Nat) (l0_13 : List Int) (A0_14 : Option Addr) (c0_14 : Nat) (l0_14 : List Int) (A0_15 : Option Addr) (c0_15 : Nat) (l0_15 : List Int) (A0_16 : Option Addr) (c0_16 : Nat) (l0_16 : List Int) (r : Int) (w : World) (hr0_8 : Kd.C (Kd.int .i64) w A0_8 l0_8.length l0_8) (hc0_8 : l0_8.length ≤ c0_8) (hr0_9 : Kd.C (Kd.int .i64) w A0_9 l0_9.length l0_9) (hc0_9 : l0_9.length ≤ c0_9) (hr0_10 : Kd.C (Kd.int .i64) w A0_10 l0_10.length l0_10) (hc0_10 : l0_10.length ≤ c0_10) (hr0_11 : Kd.C k73 w A0_11 l0_11.length l0_11) (hc0_11 : l0_11.length ≤ c0_11) (hr0_12 : Kd.C (Kd.int .i64) w A0_12 l0_12.length l0_12) (hc0_12 : l0_12.length ≤ c0_12) (hr0_13 : Kd.C (Kd.int .i64) w A0_13 l0_13.length l0_13) (hc0_13 : l0_13.length ≤ c0_13) (hr0_14 : Kd.C (Kd.int .i64) w A0_14 l0_14.length l0_14) (hc0_14 : l0_14.length ≤ c0_14) (hr0_15 : Kd.C (Kd.int .i64) w A0_15 l0_15.length l0_15) (hc0_15 : l0_15.length ≤ c0_15) (hr0_16 : Kd.C (Kd.int .i64) w A0_16 l0_16.length l0_16) (hc0_16 : l0_16.length ≤ c0_16) (h : trystlaw13_PerDay.f a0_0 a0_1 a0_2 a0_3 a0_4 a0_5 a0_6 a0_7 l0_8 l0_9 l0_10 l0_11 l0_12 l0_13 l0_14 l0_15 l0_16 = some r) :
  Calls Try.prog 13 #[.agg #[.int .i64 a0_0, .int .i64 a0_1, .int .i64 a0_2, .int .i64 a0_3, .int .i64 a0_4, .string a0_5, .bool a0_6, .int .i64 a0_7, .slice A0_8 l0_8.length c0_8, .slice A0_9 l0_9.length c0_9, .slice A0_10 l0_10.length c0_10, .slice A0_11 l0_11.length c0_11, .slice A0_12 l0_12.length c0_12, .slice A0_13 l0_13.length c0_13, .slice A0_14 l0_14.length c0_14, .slice A0_15 l0_15.length c0_15, .slice A0_16 l0_16.length c0_16]] w fun e w' => e = .returned (.int .i64 r) ∧ Below w.heap.size w w' := by
 have hu27 := Try.underlying27
 have HR0_8 := Aside0.mk hr0_8
 have HC0_8 := Aside0.mk hc0_8
 clear hr0_8 hc0_8
 have HR0_9 := Aside0.mk hr0_9
 have HC0_9 := Aside0.mk hc0_9
 clear hr0_9 hc0_9
 have HR0_10 := Aside0.mk hr0_10
 have HC0_10 := Aside0.mk hc0_10
 clear hr0_10 hc0_10
 have HR0_11 := Aside0.mk hr0_11
 have HC0_11 := Aside0.mk hc0_11
 clear hr0_11 hc0_11
 have HR0_12 := Aside0.mk hr0_12
 have HC0_12 := Aside0.mk hc0_12
 clear hr0_12 hc0_12
 have HR0_13 := Aside0.mk hr0_13
 have HC0_13 := Aside0.mk hc0_13
 clear hr0_13 hc0_13
 have HR0_14 := Aside0.mk hr0_14
 have HC0_14 := Aside0.mk hc0_14
 clear hr0_14 hc0_14
 have HR0_15 := Aside0.mk hr0_15
 have HC0_15 := Aside0.mk hc0_15
 clear hr0_15 hc0_15
 have HR0_16 := Aside0.mk hr0_16
 have HC0_16 := Aside0.mk hc0_16
 clear hr0_16 hc0_16
 have HB := Aside0.mk (Below.refl w.heap.size w)
 have H : (some (wrap64 ((wrap64 ((mx 1 (l0_10.length : Int)) * (mx 1 (l0_9.length : Int)))) * (mx 1 (l0_8.length : Int))))) = some r := h
 clear h
 obtain ⟨ji2, hji2⟩ : ∃ j_ : Int, (mx 1 (l0_10.length : Int)) = j_ := ⟨_, rfl⟩
 replace H : (some (wrap64 ((wrap64 ((ji2) * (mx 1 (l0_9.length : Int)))) * (mx 1 (l0_8.length : Int))))) = some r := by first | (rw [hji2] at H; exact H) | (simp only [hji2] at H ⊢; exact H)
 (try (have hji2l : 1 ≤ ji2 := by (rw [← hji2]; unfold mx; (repeat' split) <;> omega)))
 (try (have hji2m : 0 ≤ ji2 := by omega))
 have hji2_ : (if 1 < (l0_10.length : Int) then (l0_10.length : Int) else 1) = ji2 := hji2
 obtain ⟨ji3, hji3⟩ : ∃ j_ : Int, (mx 1 (l0_9.length : Int)) = j_ := ⟨_, rfl⟩
 replace H : (some (wrap64 ((wrap64 ((ji2) * (ji3))) * (mx 1 (l0_8.length : Int))))) = some r := by first | (rw [hji3] at H; exact H) | (simp only [hji3] at H ⊢; exact H)
 (try (have hji3l : 1 ≤ ji3 := by (rw [← hji3]; unfold mx; (repeat' split) <;> omega)))
 (try (have hji3m : 0 ≤ ji3 := by omega))
 have hji3_ : (if 1 < (l0_9.length : Int) then (l0_9.length : Int) else 1) = ji3 := hji3
 obtain ⟨ji4, hji4⟩ : ∃ j_ : Int, (mx 1 (l0_8.length : Int)) = j_ := ⟨_, rfl⟩
 replace H : (some (wrap64 ((wrap64 ((ji2) * (ji3))) * (ji4)))) = some r := by first | (rw [hji4] at H; exact H) | (simp only [hji4] at H ⊢; exact H)
 (try (have hji4l : 1 ≤ ji4 := by (rw [← hji4]; unfold mx; (repeat' split) <;> omega)))
 (try (have hji4m : 0 ≤ ji4 := by omega))
 have hji4_ : (if 1 < (l0_8.length : Int) then (l0_8.length : Int) else 1) = ji4 := hji4
 obtain rfl := Option.some.inj H
 go_enter Try.func13, Try.ntmps13
 go_wp2_with (first | ((with_reducible refine gate_dst (N := 1) rfl ?_); refine box_event ?hg (N := 1) ?hd (cs := #[.int .i64 a0_0, .int .i64 a0_1, .int .i64 a0_2, .int .i64 a0_3, .int .i64 a0_4, .string a0_5, .bool a0_6, .int .i64 a0_7, .slice A0_8 l0_8.length c0_8, .slice A0_9 l0_9.length c0_9, .slice A0_10 l0_10.length c0_10, .slice A0_11 l0_11.length c0_11, .slice A0_12 l0_12.length c0_12, .slice A0_13 l0_13.length c0_13, .slice A0_14 l0_14.length c0_14, .slice A0_15 l0_15.length c0_15, .slice A0_16 l0_16.length c0_16]) (t := 27) ?hr ?_; (case hd => rfl); (case hg => rfl); (case hr => first | (go_simp; done) | (go_simp; rfl)); intro gb391 hg w5 hbox hb; have n0_ := Aside0.mk (below_step (by repeat (first | (with_reducible first | exact HB.out | apply below_alloc | apply pw_below_drewN | apply below_drew1) | exact HB.out)) hb); have n1_ := Aside0.mk (hbox); have n2_ := Aside0.mk ((by rw [hg]; exact (below_size (by repeat (first | (with_reducible first | exact HB.out | apply below_alloc | apply pw_below_drewN | apply below_drew1) | exact HB.out))) : w.heap.size ≤ gb391)); have n3_ := Aside0.mk ((by rw [hg]; exact (below_size (by repeat (first | (with_reducible first | exact HB.out | apply below_alloc | apply pw_below_drewN | apply below_drew1) | exact HB.out))) : w.heap.size ≤ gb391)); clear HB; have HB := n0_; have BK391 := n1_; have GW391 := n2_; have GE391 := n3_; clear n0_ n1_ n2_ n3_; clear hb hbox hg; have hcz6_0 : w5.cell? ⟨gb391, 0, none⟩ = some (.int .i64 a0_0) := (blk_cell BK391.out 0).trans rfl; have hcz6_1 : w5.cell? ⟨gb391, 1, none⟩ = some (.int .i64 a0_1) := (blk_cell BK391.out 1).trans rfl; have hcz6_2 : w5.cell? ⟨gb391, 2, none⟩ = some (.int .i64 a0_2) := (blk_cell BK391.out 2).trans rfl; have hcz6_3 : w5.cell? ⟨gb391, 3, none⟩ = some (.int .i64 a0_3) := (blk_cell BK391.out 3).trans rfl; have hcz6_4 : w5.cell? ⟨gb391, 4, none⟩ = some (.int .i64 a0_4) := (blk_cell BK391.out 4).trans rfl; have hcz6_5 : w5.cell? ⟨gb391, 5, none⟩ = some (.string a0_5) := (blk_cell BK391.out 5).trans rfl; have hcz6_6 : w5.cell? ⟨gb391, 6, none⟩ = some (.bool a0_6) := (blk_cell BK391.out 6).trans rfl; have hcz6_7 : w5.cell? ⟨gb391, 7, none⟩ = some (.int .i64 a0_7) := (blk_cell BK391.out 7).trans rfl; have hcz6_8 : w5.cell? ⟨gb391, 8, none⟩ = some (.slice A0_8 l0_8.length c0_8) := (blk_cell BK391.out 8).trans rfl; have hcz6_9 : w5.cell? ⟨gb391, 9, none⟩ = some (.slice A0_9 l0_9.length c0_9) := (blk_cell BK391.out 9).trans rfl; have hcz6_10 : w5.cell? ⟨gb391, 10, none⟩ = some (.slice A0_10 l0_10.length c0_10) := (blk_cell BK391.out 10).trans rfl; have hcz6_11 : w5.cell? ⟨gb391, 11, none⟩ = some (.slice A0_11 l0_11.length c0_11) := (blk_cell BK391.out 11).trans rfl; have hcz6_12 : w5.cell? ⟨gb391, 12, none⟩ = some (.slice A0_12 l0_12.length c0_12) := (blk_cell BK391.out 12).trans rfl; have hcz6_13 : w5.cell? ⟨gb391, 13, none⟩ = some (.slice A0_13 l0_13.length c0_13) := (blk_cell BK391.out 13).trans rfl; have hcz6_14 : w5.cell? ⟨gb391, 14, none⟩ = some (.slice A0_14 l0_14.length c0_14) := (blk_cell BK391.out 14).trans rfl; have hcz6_15 : w5.cell? ⟨gb391, 15, none⟩ = some (.slice A0_15 l0_15.length c0_15) := (blk_cell BK391.out 15).trans rfl; have hcz6_16 : w5.cell? ⟨gb391, 16, none⟩ = some (.slice A0_16 l0_16.length c0_16) := (blk_cell BK391.out 16).trans rfl; have hfz6_0 := blk_frozen BK391.out 0; have hfz6_1 := blk_frozen BK391.out 1; have hfz6_2 := blk_frozen BK391.out 2; have hfz6_3 := blk_frozen BK391.out 3; have hfz6_4 := blk_frozen BK391.out 4; have hfz6_5 := blk_frozen BK391.out 5; have hfz6_6 := blk_frozen BK391.out 6; have hfz6_7 := blk_frozen BK391.out 7; have hfz6_8 := blk_frozen BK391.out 8; have hfz6_9 := blk_frozen BK391.out 9; have hfz6_10 := blk_frozen BK391.out 10; have hfz6_11 := blk_frozen BK391.out 11; have hfz6_12 := blk_frozen BK391.out 12; have hfz6_13 := blk_frozen BK391.out 13; have hfz6_14 := blk_frozen BK391.out 14; have hfz6_15 := blk_frozen BK391.out 15; have hfz6_16 := blk_frozen BK391.out 16))
 go_ret
 exact ⟨by first | rfl | (simp [i64_w]; done) | (simp [errW_none, errW_some] <;> rfl) | (simp only [← hji2, ← hji3, ← hji4]; first | rfl | (simp [errW_none, errW_some] <;> rfl)) | (simp [*, errW_none, errW_some] <;> rfl), by repeat (first | (with_reducible first | exact HB.out | apply below_alloc | apply pw_below_drewN | apply below_drew1 | refine below_set ?_ GE391.out) | exact HB.out)⟩

/-! ### trystlaw15_Same: function 17 -/
end Go.Proofs.Ytfdcldjoncednaa.M
/- trystlaw13.Few told. (Written by gen_reffew.py.) -/
namespace Go.Proofs.Ytfdcldjoncednaa.RefW
open Go.RowKit Go.Proofs.YtfdcldjoncednaaW.PrintWords Go.Proofs.YtfdcldjoncednaaW.PrintLast Go.Proofs.YtfdcldjoncednaaW.PrintMore Go.Proofs.Ytfdcldjoncednaa.M
set_option linter.unusedVariables false
set_option linter.unusedSimpArgs false
/-- The numbers of the first so many lists, and the days. -/
def fs (d : Nat) (g : Nat → Nat) : Nat → Int
 | 0 => (d : Int)
 | q + 1 => wrap64 (fs d g q + (g q : Int))
theorem fs_step (d : Nat) (g : Nat → Nat) (q n : Nat) (h : g q = n) : fs d g (q + 1) = wrap64 (fs d g q + (n : Int)) := by rw [fs, h]
def ln (l8 l9 l10 l12 l13 l14 l15 l16 : Nat) : Nat → Nat
 | 0 => l8
 | 1 => l9
 | 2 => l10
 | 3 => l12
 | 4 => l13
 | 5 => l14
 | 6 => l15
 | _ => l16
def few (d l8 l9 l10 l12 l13 l14 l15 l16 : Nat) : Bool := decide (fs d (ln l8 l9 l10 l12 l13 l14 l15 l16) 8 ≤ 500)
theorem few_ (a0 : Int) (a1 : Int) (a2 : Int) (a3 : Int) (a4 : Int) (a5 : ByteArray) (a6 : Bool) (a7 : Int) (A8 : Option Addr) (c8 : Nat) (l8 : List Int) (A9 : Option Addr) (c9 : Nat) (l9 : List Int) (A10 : Option Addr) (c10 : Nat) (l10 : List Int) (A11 : Option Addr) (c11 : Nat) (l11 : List S73) (A12 : Option Addr) (c12 : Nat) (l12 : List Int) (A13 : Option Addr) (c13 : Nat) (l13 : List Int) (A14 : Option Addr) (c14 : Nat) (l14 : List Int) (A15 : Option Addr) (c15 : Nat) (l15 : List Int) (A16 : Option Addr) (c16 : Nat) (l16 : List Int) (w : World) :
  Calls Try.prog 8 #[.agg #[.int .i64 a0, .int .i64 a1, .int .i64 a2, .int .i64 a3, .int .i64 a4, .string a5, .bool a6, .int .i64 a7, .slice A8 l8.length c8, .slice A9 l9.length c9, .slice A10 l10.length c10, .slice A11 l11.length c11, .slice A12 l12.length c12, .slice A13 l13.length c13, .slice A14 l14.length c14, .slice A15 l15.length c15, .slice A16 l16.length c16]] w fun e w' => e = .returned (.bool (few l11.length l8.length l9.length l10.length l12.length l13.length l14.length l15.length l16.length)) ∧ Below w.heap.size w w' :=
 RefL.few0 a0 a1 a2 a3 a4 a5 a6 a7 A8 c8 l8 A9 c9 l9 A10 c10 l10 A11 c11 l11 A12 c12 l12 A13 c13 l13 A14 c14 l14 A15 c15 l15 A16 c16 l16 (fs l11.length (ln l8.length l9.length l10.length l12.length l13.length l14.length l15.length l16.length)) (by rw [fs]) (fs_step _ _ 0 _ rfl) (fs_step _ _ 1 _ rfl) (fs_step _ _ 2 _ rfl) (fs_step _ _ 3 _ rfl) (fs_step _ _ 4 _ rfl) (fs_step _ _ 5 _ rfl) (fs_step _ _ 6 _ rfl) (fs_step _ _ 7 _ rfl) w
end Go.Proofs.Ytfdcldjoncednaa.RefW
/- What the laws of expand share: the first look, the rule's size, what Until answers of what is asked wrongly. -/
namespace Go.Proofs.Ytfdcldjoncednaa.ExL
open Go.RowKit Go.Proofs.YtfdcldjoncednaaW.PrintWords Go.Proofs.YtfdcldjoncednaaW.PrintLast Go.Proofs.Ytfdcldjoncednaa.M Go.Proofs.Ytfdcldjoncednaa.Cal Go.Proofs.Ytfdcldjoncednaa.FunA Go.Proofs.Ytfdcldjoncednaa.FunB Go.Proofs.Ytfdcldjoncednaa.Ru Go.Proofs.Ytfdcldjoncednaa.MatD Go.Proofs.Ytfdcldjoncednaa.MatP Go.Proofs.Ytfdcldjoncednaa.MatF Go.Proofs.Ytfdcldjoncednaa.MatG Go.Proofs.Ytfdcldjoncednaa.MatS Go.Proofs.Ytfdcldjoncednaa.RefF Go.Proofs.Ytfdcldjoncednaa.RecG Go.Proofs.Ytfdcldjoncednaa.ExD Go.Proofs.Ytfdcldjoncednaa.ExO Go.Proofs.Ytfdcldjoncednaa.ExS Go.Proofs.Ytfdcldjoncednaa.ExT Go.Proofs.Ytfdcldjoncednaa.ExE Go.Proofs.Ytfdcldjoncednaa.ExI Go.Proofs.Ytfdcldjoncednaa.ExU Go.Proofs.Ytfdcldjoncednaa.PureE Go.Proofs.Ytfdcldjoncednaa.ExB
set_option linter.unusedVariables false
set_option linter.unusedSimpArgs false
theorem fewX (r : Ru) (p : Rp) (w : World) : Calls Try.prog 8 #[.agg (agg r p)] w fun e w' => e = .returned (.bool (RefW.few r.l11.length r.l8.length r.l9.length r.l10.length r.l12.length r.l13.length r.l14.length r.l15.length r.l16.length)) ∧ Below w.heap.size w w' :=
 RefW.few_ r.a0 r.a1 r.a2 r.a3 r.a4 r.a5 r.a6 r.a7 p.A8 p.c8 r.l8 p.A9 p.c9 r.l9 p.A10 p.c10 r.l10 p.A11 p.c11 r.l11 p.A12 p.c12 r.l12 p.A13 p.c13 r.l13 p.A14 p.c14 r.l14 p.A15 p.c15 r.l15 p.A16 p.c16 r.l16 w
/-- At how many seconds of a day a rule may mean something. -/
def pd (r : Ru) : Int := wrap64 ((wrap64 ((mx 1 (r.l10.length : Int)) * (mx 1 (r.l9.length : Int)))) * (mx 1 (r.l8.length : Int)))
theorem perX (r : Ru) (p : Rp) (w : World) (ok : Ok r p w) : Calls Try.prog 13 #[.agg (agg r p)] w fun e w' => e = .returned (.int .i64 (pd r)) ∧ Below w.heap.size w w' :=
 trystlaw13_PerDay.calls r.a0 r.a1 r.a2 r.a3 r.a4 r.a5 r.a6 r.a7 p.A8 p.c8 r.l8 p.A9 p.c9 r.l9 p.A10 p.c10 r.l10 p.A11 p.c11 r.l11 p.A12 p.c12 r.l12 p.A13 p.c13 r.l13 p.A14 p.c14 r.l14 p.A15 p.c15 r.l15 p.A16 p.c16 r.l16 (pd r) w ok.h8 ok.d8 ok.h9 ok.d9 ok.h10 ok.d10 ok.h11 ok.d11 ok.h12 ok.d12 ok.h13 ok.d13 ok.h14 ok.d14 ok.h15 ok.d15 ok.h16 ok.d16 rfl
/-- The rule of the first look. -/
abbrev r0 : Ru := ⟨1, 1, 0, 0, 0, ⟨#[]⟩, false, 0, [], [], [], [], [], [], [], [], []⟩
abbrev p0 : Rp := ⟨none, 0, none, 0, none, 0, none, 0, none, 0, none, 0, none, 0, none, 0, none, 0⟩
theorem ok0 (w : World) : Ok r0 p0 w := ⟨Kd.C_nil _ _, Nat.le_refl _, Kd.C_nil _ _, Nat.le_refl _, Kd.C_nil _ _, Nat.le_refl _, Kd.C_nil _ _, Nat.le_refl _, Kd.C_nil _ _, Nat.le_refl _, Kd.C_nil _ _, Nat.le_refl _, Kd.C_nil _ _, Nat.le_refl _, Kd.C_nil _ _, Nat.le_refl _, Kd.C_nil _ _, Nat.le_refl _⟩
theorem LL0 (i : Nat) : LL r0 i = [] := by unfold LL; split <;> rfl
theorem frm0 (rt : Bool) : frmB r0 rt = true := by
 unfold frmB
 have h1 : grd r0 = true := rfl
 have h2 : untl r0 rt = true := by
  unfold untl
  rw [if_neg (by simp)]
  show (_ && (_ && ((⟨#[]⟩ : ByteArray).toList == _))) = _
  rw [ByteArray.toList_eq]; rfl
 have h3 : all8 r0 = true := all8_yes fun j hj => by
  unfold formL
  rw [LL0]; rfl
 have h4 : daysB r0.l11 = true := rfl
 have h5 : last r0 (oth r0 8) = true := by
  rw [oth_eq]; rfl
 rw [h1, h2, h3, h4, h5]; rfl
theorem v0 {k : Nat} {X Y : MatD.Fa} {v : Bool} (h : FitsOk k r0 X Y v) (x0 : 0 ≤ X.day) (hy : X.day ≤ Y.day) (y9 : Y.day ≤ 3652059) : v = true := by
 obtain ⟨w1, w2, y, n, e1, t, e2, hm, b14, b13, b12, _, _, _, _, _, _, _, _, _, _, _, _, rfl⟩ := h
 have hp : perF r0 X Y w1 w2 = Y.day - X.day := by
  unfold perF
  rw [if_pos rfl, w64 (by omega) (by omega)]
 rw [hp]
 obtain ⟨n, hn⟩ : ∃ n : Nat, Y.day - X.day = (n : Int) := ⟨(Y.day - X.day).toNat, by omega⟩
 rw [hn]
 unfold fitsF
 have ho : off (n : Int) r0.a1 = false := by
  unfold off
  show (decide ((n : Int) < 0) || _) = false
  rw [decide_eq_false (by omega)]
  simp
 rw [ho]
 rfl
theorem sp0 {k : Nat} {n f l e : Int} (h : SpOk k r0 true 1 n f l e) (n0 : 0 ≤ n) (n1 : n ≤ 10) : f = 1 + n ∧ l = 1 + n ∧ e = 0 := by
 have a0 : askF true [1] = 0 := by rfl
 cases h with
 | ask e he ne => exact absurd (he.symm.trans a0) ne
 | far he hn => omega
 | ok y m dd ee r1 r2 f l he h hd b1 b2 _ _ y1 y2 hfe hle_ hle =>
  cases h with
  | day c => subst hfe; subst hle_; refine ⟨?_, ?_, rfl⟩ <;> split <;> omega
  | week _ c => exact absurd c (by decide)
  | month _ _ c => exact absurd c (by decide)
  | year _ _ c => exact absurd c (by decide)
  | none c => exact absurd c (by decide)
 | none y m dd ee r1 r2 f l he h hd b1 b2 _ _ y1 y2 hfe hle_ hgt =>
  cases h with
  | day c => subst hfe; subst hle_; split at hgt <;> split at hgt <;> omega
  | week _ c => exact absurd c (by decide)
  | month _ _ c => exact absurd c (by decide)
  | year _ _ c => exact absurd c (by decide)
  | none c => exact absurd c (by decide)
theorem tim0 {B : Fa} {sf sl se : Int → Int} {fit : Int → Bool} {k : Nat} (h : Has r0 86400 1 0 B sf sl se fit k) (hk : 130 ≤ k) (n : Int) (n0 : 0 ≤ n) (n1 : n ≤ 10) : timL r0 sf sl se fit 0 n = [86400 * (1 + n)] := by
 obtain ⟨e1, e2, e3⟩ := sp0 (h.sp n) n0 n1
 obtain ⟨X, hX, hF⟩ := h.ft (1 + n) ⟨by omega, by omega⟩
 obtain ⟨y, m, dd, _, _, _, _, ey⟩ := dateP k hk (1 + n) ⟨by omega, by omega⟩
 have hd : X.day = 1 + n := by
  have : match_of.f k (1 + n) = some (X.day, X.y, X.m, X.d, X.wd, X.mn, X.mo, X.yn, X.yo) := hX
  rw [ey] at this
  exact ((Prod.mk.inj (Option.some.inj this)).1).symm
 have hv := v0 hF (by rw [h.bday]; omega) (by rw [h.bday, hd]; omega) (by rw [hd]; omega)
 have hdays : daysL fit (sf n) (sl n) = [1 + n] := by
  unfold daysL
  rw [e1, e2, show (1 + n + 1 - (1 + n)).toNat = 1 by omega]
  simp [dayG, hv]
 have hs : secL r0 0 = [0] := by
  unfold secL
  simp [orL, allH, blkM, rowS, secV, rd, rdOf, w64]
 unfold timL
 rw [if_neg (by omega), if_neg (by show ¬ Int.tmod n 1 ≠ 0; rw [Int.tmod_eq_emod_of_nonneg n0]; omega), if_neg (by omega), hdays, hs]
 have ht : timV (1 + n) 0 = 86400 * (1 + n) := by unfold timV; rw [w64 (x := (1 + n) * 86400) (by omega) (by omega), w64 (by omega) (by omega)]; omega
 unfold choT choL
 rw [if_pos (show r0.l16.length = 0 from rfl)]
 simp [allT, dayT, rd, rdOf, ht]
theorem inner1 (b last t left : Int) (h1 : b < t) (h2 : t ≤ last) (h3 : left ≠ 0) (h4 : -100 ≤ left) (h5 : left ≤ 100) : inner b last [t] left = ([t], left - 1, false) := by
 unfold inner
 rw [if_neg (by omega), if_neg (by omega), w64 (x := left - 1) (by omega) (by omega)]
 rfl
theorem each0 {B : Fa} {sf sl se : Int → Int} {fit : Int → Bool} {k : Nat} (h : Has r0 86400 1 0 B sf sl se fit k) (hk : 130 ≤ k) (K : Nat) : eachL 86400 432000 1 sf se (timL r0 sf sl se fit 0) (K + 6) 0 (-1) = some [172800, 259200, 345600, 432000] := by
 have t := fun n n0 n1 => tim0 h hk n n0 n1
 have s := fun n n0 n1 => sp0 (h.sp n) n0 n1
 have t0 := t 0 (by omega) (by omega); have t1 := t 1 (by omega) (by omega); have t2 := t 2 (by omega) (by omega); have t3 := t 3 (by omega) (by omega); have t4 := t 4 (by omega) (by omega)
 have s0 := s 0 (by omega) (by omega); have s1 := s 1 (by omega) (by omega); have s2 := s 2 (by omega) (by omega); have s3 := s 3 (by omega) (by omega); have s4 := s 4 (by omega) (by omega); have s5 := s 5 (by omega) (by omega)
 generalize timL r0 sf sl se fit 0 = tm at *
 have step : ∀ (K : Nat) (n left : Int) (T : List Int) (o : List Int) (left' : Int), sf n = 1 + n → se n = 0 → 0 ≤ n → n ≤ 10 → left ≠ 0 → tm n = T → ¬ 86400 * (1 + n) > 432000 → inner 86400 432000 T left = (o, left', false) → eachL 86400 432000 1 sf se tm (K + 1) n left = (eachL 86400 432000 1 sf se tm K (n + 1) left').map (o ++ ·) := by
  intro K n left T o left' h1 h2 h3 h4 h5 h6 h7 h8
  rw [eachL, if_neg h5, if_neg (by rw [h1, w64 (x := (1 + n) * 86400) (by omega) (by omega)]; omega), h6, h8]
  rw [if_neg (by simp), w64 (x := n + 1) (by omega) (by omega)]
 rw [step (K + 5) 0 (-1) [86400] [] (-1) s0.1 s0.2.2 (by omega) (by omega) (by omega) (by rw [t0]; rfl) (by omega) (by unfold inner; rw [if_pos (by omega)]; rfl)]
 rw [step (K + 4) (0 + 1) (-1) [172800] [172800] (-2) s1.1 s1.2.2 (by omega) (by omega) (by omega) (by rw [show (0 : Int) + 1 = 1 from rfl, t1]; rfl) (by omega) (inner1 86400 432000 172800 (-1) (by omega) (by omega) (by omega) (by omega) (by omega))]
 rw [step (K + 3) (0 + 1 + 1) (-2) [259200] [259200] (-3) s2.1 s2.2.2 (by omega) (by omega) (by omega) (by rw [show (0 : Int) + 1 + 1 = 2 from rfl, t2]; rfl) (by omega) (inner1 86400 432000 259200 (-2) (by omega) (by omega) (by omega) (by omega) (by omega))]
 rw [step (K + 2) (0 + 1 + 1 + 1) (-3) [345600] [345600] (-4) s3.1 s3.2.2 (by omega) (by omega) (by omega) (by rw [show (0 : Int) + 1 + 1 + 1 = 3 from rfl, t3]; rfl) (by omega) (inner1 86400 432000 345600 (-3) (by omega) (by omega) (by omega) (by omega) (by omega))]
 rw [step (K + 1) (0 + 1 + 1 + 1 + 1) (-4) [432000] [432000] (-5) s4.1 s4.2.2 (by omega) (by omega) (by omega) (by rw [show (0 : Int) + 1 + 1 + 1 + 1 = 4 from rfl, t4]; rfl) (by omega) (inner1 86400 432000 432000 (-4) (by omega) (by omega) (by omega) (by omega) (by omega))]
 have e : eachL 86400 432000 1 sf se tm (K + 1) (0 + 1 + 1 + 1 + 1 + 1) (-5) = some [] := by
  rw [eachL, if_neg (by omega), if_pos (Or.inr (by rw [show (0 : Int) + 1 + 1 + 1 + 1 + 1 = 5 from rfl, s5.1, w64 (by omega) (by omega)]; omega))]
 rw [e]
 rfl
/-- What Until answers where the rule is not formed, or the begin is not right. -/
theorem bad (r : Ru) (k : Nat) (fb rb : Bool) (b : Int) (hf : FormOk k r fb) (hr : clock_Right.f b = some rb) (h : (fb && rb) = false) : ∃ e, e ≠ 0 ∧ askE fb rb = e ∧ ∀ (p : Rp) (last most : Int) (w : World), Ok r p w → Calls Try.prog 14 #[.agg (agg r p), .int .i64 b, .int .i64 last, .int .i64 most] w fun q W' => OutU W' [] false e q ∧ Below w.heap.size w W' := by
 have ne : askE fb rb ≠ 0 := by
  unfold askE
  cases fb
  ·simp
  ·cases rb
   ·simp
   ·simp at h
 exact ⟨_, ne, rfl, fun p last most w ok => untilBad k r p fb rb b last most _ w ok hf hr rfl ne⟩
set_option maxHeartbeats 4000000 in
set_option maxRecDepth 100000 in
theorem awake (w : World) : Calls Try.prog 12 #[] w fun e w' => e = .returned (.bool true) ∧ Below w.heap.size w w' := by
 obtain ⟨rt, hrt⟩ := both r0 (by decide)
 have hf := (hrt 300 (by decide)).2
 rw [frm0] at hf
 obtain ⟨B, sf, sl, se, fit, hH⟩ := has_ r0 rt 300 (by omega) (frm0 rt) hf 86400 (by omega) (by omega)
 have hr : clock_Right.f 86400 = some true := by rw [Right.cRight]; rfl
 replace hH : Has r0 86400 1 0 B sf sl se fit 300 := hH
 have hE := each0 hH (by omega) 0
 have hE : eachL 86400 (endF r0 432000) r0.a1 sf se (timL r0 sf sl se fit 0) (0 + 6) 0 (wrap64 (r0.a2 - 1)) = some [172800, 259200, 345600, 432000] := by
  rw [show endF r0 432000 = 432000 from rfl, show wrap64 (r0.a2 - 1) = -1 from w64 (x := 0 - 1) (by omega) (by omega)]; exact hE
 have U := Aside0.mk (fun w => until_ hH hr p0 432000 3 _ (0 + 6) hE (Or.inr (by omega)) (by omega) w (ok0 w))
 clear hrt hf hH hr hE
 go_enter Try.func12, Try.ntmps12
 go_wp2_with fail
 refine (U.out w).mono ?_
 rintro e w1 ⟨⟨A, c, rfl, hC, hc⟩, hb⟩
 have e1 : (allU 86400 432000 [172800, 259200, 345600, 432000]).take (3 : Int).toNat = [86400, 172800, 259200] := by decide
 have e2 : decide ((3 : Int) < ((allU 86400 432000 [172800, 259200, 345600, 432000]).length : Int)) = true := by decide
 rw [e1] at hC hc ⊢
 rw [e2]
 have HB := Aside0.mk hb
 obtain ⟨ad, rfl, hx⟩ := Kd.at_int hC 2 (by omega) (by decide)
 rw [show rd [86400, 172800, 259200] 2 = 259200 from rfl] at hx
 replace hx : w1.cell? ⟨ad.block, ad.off + 2, none⟩ = some (.int .i64 259200) := hx
 clear hb hC hc U e1 e2
 go_wp2_with fail
 go_ret
 exact ⟨rfl, HB.out⟩
end Go.Proofs.Ytfdcldjoncednaa.ExL
