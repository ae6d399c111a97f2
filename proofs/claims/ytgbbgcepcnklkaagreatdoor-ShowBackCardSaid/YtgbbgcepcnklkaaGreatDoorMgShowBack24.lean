/- Texts of this claim, merged: ShowPb, ShowPf, Ltrystlaw27awake, LshowParse, LrefIn, Ltrystref01Text, LshowText, LshowAll. -/
import Derived.Test.YtgbbgcepcnklkaaGreatDoorMgShowBack23
import Derived.Lib.SmallJoins
import Derived.Test.YtgbbgcepcnklkaaGreatDoorMgShowBack1
import Derived.Test.YtgbbgcepcnklkaaGreatDoorMgShowBack11
import Derived.Test.YtgbbgcepcnklkaaGreatDoorMgShowBack22
/- show.Parse: what it reads is shown so; what is shown is read so. -/
namespace Go.Proofs.YtgbbgcepcnklkaaGreatDoor.ShowPb
open Go.RowKit Go.Proofs.YtgbbgcepcnklkaaGreatDoorW.PrintWords Go.Proofs.YtgbbgcepcnklkaaGreatDoorW.PrintLast Go.Proofs.YtgbbgcepcnklkaaGreatDoor.Q Go.Proofs.YtgbbgcepcnklkaaGreatDoor.ShowPl Go.Proofs.YtgbbgcepcnklkaaGreatDoor.ShowPs Go.Proofs.YtgbbgcepcnklkaaGreatDoor.ShowP3
set_option linter.unusedVariables false
set_option linter.unusedSimpArgs false
abbrev K : Nat := FunZ.K
theorem dapp (a b : ByteArray) : (a ++ b).data.toList = a.data.toList ++ b.data.toList := by simp
theorem tx_list (c y m d : Int) : (ShowTx.tx c y m d).data.toList = if c = 2 then Lib.itoa y ++ 45 :: ((87 :: Lib.itoa m) ++ 45 :: Lib.itoa d) else Lib.itoa y ++ 45 :: (Lib.itoa m ++ 45 :: Lib.itoa d) := by
 unfold ShowTx.tx ShowTx.it
 by_cases h : c = 2
 ·rw [if_pos h, if_pos h]
  simp only [dapp]
  simp
 ·rw [if_neg h, if_neg h]
  simp only [dapp]
  simp
theorem eq_of_list {a b : ByteArray} (h : a.data.toList = b.data.toList) : a = b := by rw [← ba a, ← ba b, h]
theorem sg_list (b : Bool) : (sg b).data.toList = if b then [45] else [] := by cases b <;> rfl
/-- A sign cut off. -/
theorem cut_sign (s : ByteArray) : ∃ (b : Bool) (t : ByteArray), Lib.hasPrefix s.data.toList [45] = b ∧ (⟨(Lib.trimPrefix s.data.toList [45]).toArray⟩ : ByteArray) = t ∧ s.data.toList = (sg b).data.toList ++ t.data.toList := by
 refine ⟨_, _, rfl, rfl, ?_⟩
 rw [sg_list]
 cases h : Lib.hasPrefix s.data.toList [45] with
 | false => simp [Lib.trimPrefix, h]
 | true =>
  cases hl : s.data.toList with
  | nil => rw [hl] at h; simp [Lib.hasPrefix] at h
  | cons x r =>
   rw [hl] at h
   have : (45 : UInt8) = x := by simpa [Lib.hasPrefix, List.isPrefixOf] using h
   subst this
   simp [Lib.trimPrefix, Lib.hasPrefix, List.isPrefixOf]
theorem cut_week (B : ByteArray) (h : Lib.hasPrefix B.data.toList [87] = true) : B.data.toList = 87 :: (⟨(Lib.trimPrefix B.data.toList [87]).toArray⟩ : ByteArray).data.toList := by
 cases hl : B.data.toList with
 | nil => rw [hl] at h; simp [Lib.hasPrefix] at h
 | cons x r =>
  rw [hl] at h
  have : (87 : UInt8) = x := by simpa [Lib.hasPrefix, List.isPrefixOf] using h
  subst this
  simp [Lib.trimPrefix, Lib.hasPrefix, List.isPrefixOf]
theorem by3_list (l : List UInt8) : (by3 l).data.toList = l := by simp [by3]
theorem size_list (s : ByteArray) : s.size = s.data.toList.length := Array.length_toList.symm
/-- A day that is read is shown so. -/
theorem shown (c y m d n : Int) (hc : 0 ≤ c) (hc' : c ≤ 6) (h : FunBk.PD c y m d = some (n, 0)) : FunA.In n ∧ trystref01_Text.f K c n = some (ShowTx.tx c y m d) := by
 obtain ⟨h1, h2⟩ := FunBk.back c y m d n hc hc' h
 obtain ⟨y', m', d', e0, hR, y1, y2, he, hm, hD⟩ := ShowDt.date c n hc hc'
 have e := hR.symm.trans h2
 simp only [Option.some.injEq, Prod.mk.injEq] at e
 obtain ⟨rfl, rfl, rfl, rfl⟩ := e
 exact ⟨h1, ShowTx.refYes c n y' m' d' hR y1 y2 (hm rfl)⟩
/-- What Parse tells of any text. -/
def Told (c : Int) (s : ByteArray) (n e : Int) : Prop := (e = 0 ∧ FunA.In n ∧ trystref01_Text.f K c n = some s) ∨ (e = 7 ∧ n = 0)
theorem res_told (c y m d : Int) (s : ByteArray) (q1 q2 q3 : Bool) (r1 r2 : Int) (hc : 0 ≤ c) (hc' : c ≤ 6) (h : FunBk.PD c y m d = some (r1, r2)) (hs : q1 = true → q2 = true → q3 = true → ShowTx.tx c y m d = s) :
  ∃ n e, res q1 q2 q3 r1 r2 = .tuple #[.int .i64 n, .int .i64 e] ∧ Told c s n e := by
 unfold res
 by_cases g : (q1 && q2 && q3 && (r2 == 0)) = true
 ·rw [if_pos g]
  simp only [Bool.and_eq_true, beq_iff_eq] at g
  obtain ⟨⟨⟨g1, g2⟩, g3⟩, rfl⟩ := g
  obtain ⟨h1, h2⟩ := shown c y m d r1 hc hc' h
  rw [hs g1 g2 g3] at h2
  exact ⟨r1, 0, rfl, Or.inl ⟨rfl, h1, h2⟩⟩
 ·rw [if_neg g]
  exact ⟨0, 7, rfl, Or.inr ⟨rfl, rfl⟩⟩
theorem parse (c : Int) (s : ByteArray) (hc : 0 ≤ c) (hc' : c ≤ 6) (hs : s.size ≤ 1000) : ∃ n e, Told c s n e ∧ ∀ w, Pre w →
  Calls Tryz.prog 6 #[.int .i64 c, .string s] w fun e' w' => e' = .returned (.tuple #[.int .i64 n, .int .i64 e]) ∧ Below w.heap.size w w' := by
 obtain ⟨b, t, hb, ht, hst⟩ := cut_sign s
 have zs := size_list s
 have zt := size_list t
 rw [hst, List.length_append] at zs
 by_cases h1 : Lib.countB t ⟨#[45]⟩ = 2
 ·obtain ⟨la, lb, ld, hl, na, nb, nd⟩ := three 45 t.data.toList (by rw [← countB_eq]; exact h1)
  obtain ⟨_, h2⟩ := pieces 45 t la lb ld hl na nb nd
  have zl := congrArg List.length hl
  simp only [List.length_append, List.length_cons] at zl
  have za : (by3 la).size = la.length := by rw [size_list, by3_list]
  have zb : (by3 lb).size = lb.length := by rw [size_list, by3_list]
  have zd : (by3 ld).size = ld.length := by rw [size_list, by3_list]
  obtain ⟨y, q1, hy⟩ : ∃ y q, dig (sg b ++ by3 la) = (y, q) := ⟨_, _, rfl⟩
  obtain ⟨d, q3, hd⟩ : ∃ y q, dig (by3 ld) = (y, q) := ⟨_, _, rfl⟩
  by_cases hn : c = 2
  ·subst hn
   cases hbb : Lib.hasPrefix (by3 lb).data.toList [87] with
   | false => exact ⟨0, 7, Or.inr ⟨rfl, rfl⟩, fun w hp => parseWNo s t (by3 la) (by3 lb) (by3 ld) b w hp (by omega) ht hb hbb h1 h2⟩
   | true =>
    have hw := cut_week (by3 lb) hbb
    rw [by3_list] at hw
    obtain ⟨B', hbt⟩ : ∃ B', (⟨(Lib.trimPrefix (by3 lb).data.toList [87]).toArray⟩ : ByteArray) = B' := ⟨_, rfl⟩
    have hbt2 := hbt
    rw [by3_list] at hbt2
    rw [hbt2] at hw
    have zw := congrArg List.length hw
    simp only [List.length_cons] at zw
    have zB' := size_list B'
    obtain ⟨m, q2, hm⟩ : ∃ y q, dig B' = (y, q) := ⟨_, _, rfl⟩
    obtain ⟨r1, r2, hD⟩ := FunBk.told 2 y m d hc hc'
    obtain ⟨n, e, hr, hT⟩ := res_told 2 y m d s q1 q2 q3 r1 r2 hc hc' hD (fun g1 g2 g3 => by
     subst g1 g2 g3
     apply eq_of_list
     have e1 := dig_yes _ _ hy
     have e2 := dig_yes _ _ hm
     have e3 := dig_yes _ _ hd
     rw [dapp, by3_list] at e1
     rw [by3_list] at e3
     rw [tx_list, if_pos rfl, hst, hl, ← e1, ← e2, ← e3, ← hw]
     simp)
    refine ⟨n, e, hT, fun w hp => ?_⟩
    rw [← hr]
    exact parseW s t (by3 la) B' (by3 ld) b w hp (by omega) ht hb (by3 lb) hbt hbb h1 h2 (by omega) (by omega) (by omega) y m d q1 q2 q3 hy hm hd r1 r2 hD
  ·obtain ⟨m, q2, hm⟩ : ∃ y q, dig (by3 lb) = (y, q) := ⟨_, _, rfl⟩
   obtain ⟨r1, r2, hD⟩ := FunBk.told c y m d hc hc'
   obtain ⟨n, e, hr, hT⟩ := res_told c y m d s q1 q2 q3 r1 r2 hc hc' hD (fun g1 g2 g3 => by
    subst g1 g2 g3
    apply eq_of_list
    have e1 := dig_yes _ _ hy
    have e2 := dig_yes _ _ hm
    have e3 := dig_yes _ _ hd
    rw [dapp, by3_list] at e1
    rw [by3_list] at e2 e3
    rw [tx_list, if_neg hn, hst, hl, ← e1, ← e2, ← e3]
    simp)
   refine ⟨n, e, hT, fun w hp => ?_⟩
   rw [← hr]
   exact parse3 c s t (by3 la) (by3 lb) (by3 ld) b w ⟨hc, hc'⟩ hn hp (by omega) ht hb h1 h2 (by omega) (by omega) (by omega) y m d q1 q2 q3 hy hm hd r1 r2 hD
 ·exact ⟨0, 7, Or.inr ⟨rfl, rfl⟩, fun w hp => parseNo c s t b w ⟨hc, hc'⟩ hp (by omega) ht hb h1⟩
/-- A day that is shown is read so. -/
theorem back (c a : Int) (hc : 0 ≤ c) (hc' : c ≤ 6) (ha : FunA.In a) : ∃ s, trystref01_Text.f K c a = some s ∧ s.size ≤ 400 ∧ ∀ w, Pre w →
  Calls Tryz.prog 6 #[.int .i64 c, .string s] w fun e' w' => e' = .returned (.tuple #[.int .i64 a, .int .i64 0]) ∧ Below w.heap.size w w' := by
 obtain ⟨y, m, d, hR, hD⟩ := FunBk.there c a hc hc' ha
 obtain ⟨y', m', d', e0, hR', y1, y2, he, hm, _⟩ := ShowDt.date c a hc hc'
 have e := hR'.symm.trans hR
 simp only [Option.some.injEq, Prod.mk.injEq] at e
 obtain ⟨rfl, rfl, rfl, rfl⟩ := e
 obtain ⟨m1, m2, d1, d2⟩ := hm rfl
 have hz := ShowTx2.tx_size c y' m' d' y1 y2 ⟨m1, m2, d1, d2⟩
 refine ⟨_, ShowTx.refYes c a y' m' d' hR y1 y2 ⟨m1, m2, d1, d2⟩, hz, fun w hp => ?_⟩
 obtain ⟨s, hs⟩ : ∃ s, s = ShowTx.tx c y' m' d' := ⟨_, rfl⟩
 rw [← hs] at hz ⊢
 have hl := tx_list c y' m' d'
 rw [← hs] at hl
 obtain ⟨x, r, hno, hp4⟩ := itoa_parts y' (by omega) (by omega)
 have nm := itoa_no m' (by omega) (by omega)
 have ndd := itoa_no d' (by omega) (by omega)
 have hx : ¬ (45 : UInt8) = x := fun z => hno (by simp [z])
 obtain ⟨b, t, hb, ht, hst⟩ := cut_sign s
 have hdig : sg b ++ by3 (x :: r) = by3 (Lib.itoa y') ∧ t.data.toList = (x :: r) ++ 45 :: ((if c = 2 then 87 :: Lib.itoa m' else Lib.itoa m') ++ 45 :: Lib.itoa d') := by
  rcases hp4 with ⟨_, hi⟩ | ⟨_, hi⟩
  ·have hb1 : b = true := by
    rw [← hb, hl, hi]
    split <;> simp [Lib.hasPrefix, List.isPrefixOf]
   subst hb1
   refine ⟨eq_of_list (by rw [dapp, by3_list, by3_list, hi]; rfl), ?_⟩
   rw [hl, hi, sg_list] at hst
   by_cases c2 : c = 2
   ·rw [if_pos c2] at hst ⊢; simpa using hst.symm
   ·rw [if_neg c2] at hst ⊢; simpa using hst.symm
  ·have hb1 : b = false := by
    rw [← hb, hl, hi]
    split <;> simp [Lib.hasPrefix, List.isPrefixOf, hx]
   subst hb1
   refine ⟨eq_of_list (by rw [dapp, by3_list, by3_list, hi]; rfl), ?_⟩
   rw [hl, hi, sg_list] at hst
   by_cases c2 : c = 2
   ·rw [if_pos c2] at hst ⊢; simpa using hst.symm
   ·rw [if_neg c2] at hst ⊢; simpa using hst.symm
 obtain ⟨hdg, htl⟩ := hdig
 have zs := size_list s
 have zt := size_list t
 rw [hst, List.length_append] at zs
 have zl := congrArg List.length htl
 simp only [List.length_append, List.length_cons] at zl
 have hy : dig (sg b ++ by3 (x :: r)) = (y', true) := by rw [hdg]; exact dig_it y' (by omega) (by omega)
 have hm4 := dig_it m' (by omega) (by omega)
 have hd4 := dig_it d' (by omega) (by omega)
 have za : (by3 (x :: r)).size = (x :: r).length := by rw [size_list, by3_list]
 have zm : (by3 (Lib.itoa m')).size = (Lib.itoa m').length := by rw [size_list, by3_list]
 have zd : (by3 (Lib.itoa d')).size = (Lib.itoa d').length := by rw [size_list, by3_list]
 simp only [List.length_cons] at za
 have er : res true true true a 0 = .tuple #[.int .i64 a, .int .i64 0] := rfl
 rw [← er]
 by_cases c2 : c = 2
 ·subst c2
  rw [if_pos rfl] at htl zl
  simp only [List.length_cons] at zl
  have hB : (by3 (87 :: Lib.itoa m')).data.toList = 87 :: Lib.itoa m' := by3_list _
  obtain ⟨h1, h2⟩ := pieces 45 t (x :: r) (87 :: Lib.itoa m') (Lib.itoa d') htl hno (by simpa using nm) ndd
  exact parseW s t (by3 (x :: r)) (by3 (Lib.itoa m')) (by3 (Lib.itoa d')) b w hp (by omega) ht hb (by3 (87 :: Lib.itoa m')) (by rw [hB]; simp [Lib.trimPrefix, Lib.hasPrefix, List.isPrefixOf, by3]) (by rw [hB]; simp [Lib.hasPrefix, List.isPrefixOf]) h1 h2 (by omega) (by omega) (by omega) y' m' d' true true true hy hm4 hd4 a 0 hD
 ·rw [if_neg c2] at htl zl
  obtain ⟨h1, h2⟩ := pieces 45 t (x :: r) (Lib.itoa m') (Lib.itoa d') htl hno nm ndd
  exact parse3 c s t (by3 (x :: r)) (by3 (Lib.itoa m')) (by3 (Lib.itoa d')) b w ⟨hc, hc'⟩ c2 hp (by omega) ht hb h1 h2 (by omega) (by omega) (by omega) y' m' d' true true true hy hm4 hd4 a 0 hD
end Go.Proofs.YtgbbgcepcnklkaaGreatDoor.ShowPb
/- show.Parse as a function. -/
namespace Go.Proofs.YtgbbgcepcnklkaaGreatDoor.ShowPf
open Go.RowKit Go.Proofs.YtgbbgcepcnklkaaGreatDoorW.PrintWords Go.Proofs.YtgbbgcepcnklkaaGreatDoorW.PrintLast Go.Proofs.YtgbbgcepcnklkaaGreatDoor.Q Go.Proofs.YtgbbgcepcnklkaaGreatDoor.ShowPs Go.Proofs.YtgbbgcepcnklkaaGreatDoor.ShowPl
set_option linter.unusedVariables false
set_option linter.unusedSimpArgs false
theorem uniq {c : UInt8} : ∀ {a a' r r' : List UInt8}, c ∉ a → c ∉ a' → a ++ c :: r = a' ++ c :: r' → a = a' ∧ r = r'
 | [], [], r, r', _, _, h => by simpa using h
 | [], x :: a', r, r', _, h2, h => by
  simp only [List.nil_append, List.cons_append, List.cons.injEq] at h
  exact absurd (by simp [h.1]) h2
 | x :: a, [], r, r', h1, _, h => by
  simp only [List.nil_append, List.cons_append, List.cons.injEq] at h
  exact absurd (by simp [h.1]) h1
 | x :: a, x' :: a', r, r', h1, h2, h => by
  simp only [List.cons_append, List.cons.injEq] at h
  obtain ⟨rfl, h⟩ := h
  obtain ⟨rfl, rfl⟩ := uniq (fun z => h1 (by simp [z])) (fun z => h2 (by simp [z])) h
  exact ⟨rfl, rfl⟩
theorem ycut (y y' : Int) (h1 : -10000000 ≤ y) (h2 : y ≤ 10000000) (h3 : -10000000 ≤ y') (h4 : y' ≤ 10000000) (r r' : List UInt8) (h : Lib.itoa y ++ 45 :: r = Lib.itoa y' ++ 45 :: r') : Lib.itoa y = Lib.itoa y' ∧ r = r' := by
 obtain ⟨x, s, n, e⟩ := itoa_parts y h1 h2
 obtain ⟨x', s', n', e'⟩ := itoa_parts y' h3 h4
 rcases e with ⟨_, e⟩ | ⟨_, e⟩ <;> rcases e' with ⟨_, e'⟩ | ⟨_, e'⟩ <;> rw [e, e'] at h ⊢
 ·have h5 : (x :: s) ++ 45 :: r = (x' :: s') ++ 45 :: r' := List.cons.inj h |>.2
  obtain ⟨h6, h7⟩ := uniq n n' h5
  exact ⟨by rw [h6], h7⟩
 ·have h5 := (List.cons.inj h).1
  exact absurd (by simp [h5]) n'
 ·have h5 := (List.cons.inj h).1
  exact absurd (by simp [h5]) n
 ·exact uniq n n' h
theorem itoa_inj (y y' : Int) (h1 : -10000000 ≤ y) (h2 : y ≤ 10000000) (h3 : -10000000 ≤ y') (h4 : y' ≤ 10000000) (h : Lib.itoa y = Lib.itoa y') : y = y' := by
 have e := dig_it y h1 h2
 rw [h, dig_it y' h3 h4] at e
 exact (Prod.mk.inj e).1.symm
theorem tx_inj (c y m d y' m' d' : Int) (h : ShowTx.tx c y m d = ShowTx.tx c y' m' d') (y1 : -20000 ≤ y) (y2 : y ≤ 20000) (hm : 1 ≤ m ∧ m ≤ 60 ∧ 1 ≤ d ∧ d ≤ 60) (y1' : -20000 ≤ y') (y2' : y' ≤ 20000) (hm' : 1 ≤ m' ∧ m' ≤ 60 ∧ 1 ≤ d' ∧ d' ≤ 60) :
  y = y' ∧ m = m' ∧ d = d' := by
 have hl := congrArg (fun s : ByteArray => s.data.toList) h
 simp only [ShowPb.tx_list] at hl
 have nm := itoa_no m (by omega) (by omega)
 have nm' := itoa_no m' (by omega) (by omega)
 by_cases q : c = 2
 ·rw [if_pos q, if_pos q] at hl
  obtain ⟨e1, e2⟩ := ycut y y' (by omega) (by omega) (by omega) (by omega) _ _ hl
  obtain ⟨e3, e4⟩ := uniq (by simpa using nm) (by simpa using nm') e2
  exact ⟨itoa_inj y y' (by omega) (by omega) (by omega) (by omega) e1, itoa_inj m m' (by omega) (by omega) (by omega) (by omega) (List.cons.inj e3).2, itoa_inj d d' (by omega) (by omega) (by omega) (by omega) e4⟩
 ·rw [if_neg q, if_neg q] at hl
  obtain ⟨e1, e2⟩ := ycut y y' (by omega) (by omega) (by omega) (by omega) _ _ hl
  obtain ⟨e3, e4⟩ := uniq nm nm' e2
  exact ⟨itoa_inj y y' (by omega) (by omega) (by omega) (by omega) e1, itoa_inj m m' (by omega) (by omega) (by omega) (by omega) e3, itoa_inj d d' (by omega) (by omega) (by omega) (by omega) e4⟩
theorem dated (c a : Int) (hc : 0 ≤ c) (hc' : c ≤ 6) (ha : FunA.In a) : ∃ y m d, FunBk.PD c y m d = some (a, 0) ∧ trystref01_Text.f ShowPb.K c a = some (ShowTx.tx c y m d) ∧ -20000 ≤ y ∧ y ≤ 20000 ∧ (1 ≤ m ∧ m ≤ 60 ∧ 1 ≤ d ∧ d ≤ 60) := by
 obtain ⟨y, m, d, hR, hD⟩ := FunBk.there c a hc hc' ha
 obtain ⟨y', m', d', e0, hR', y1, y2, he, hm, _⟩ := ShowDt.date c a hc hc'
 have e := hR'.symm.trans hR
 simp only [Option.some.injEq, Prod.mk.injEq] at e
 obtain ⟨rfl, rfl, rfl, rfl⟩ := e
 exact ⟨y', m', d', hD, ShowTx.refYes c a y' m' d' hR y1 y2 (hm rfl), y1, y2, hm rfl⟩
theorem text_inj (c a a' : Int) (s : ByteArray) (hc : 0 ≤ c) (hc' : c ≤ 6) (ha : FunA.In a) (ha' : FunA.In a') (h : trystref01_Text.f ShowPb.K c a = some s) (h' : trystref01_Text.f ShowPb.K c a' = some s) : a = a' := by
 obtain ⟨y, m, d, p, t, y1, y2, hm⟩ := dated c a hc hc' ha
 obtain ⟨y', m', d', p', t', y1', y2', hm'⟩ := dated c a' hc hc' ha'
 obtain ⟨rfl, rfl, rfl⟩ := tx_inj c y m d y' m' d' (Option.some.inj ((t.symm.trans h).trans (h'.symm.trans t'))) y1 y2 hm y1' y2' hm'
 exact (Prod.mk.inj (Option.some.inj (p.symm.trans p'))).1
theorem parse1 (c : Int) (s : ByteArray) (hc : 0 ≤ c) (hc' : c ≤ 6) (hs : s.size ≤ 1000) : ∃ n e, ShowPb.Told c s n e ∧ (∀ a, FunA.In a → trystref01_Text.f ShowPb.K c a = some s → n = a ∧ e = 0) ∧ ∀ w, Pre w →
  Calls Tryz.prog 6 #[.int .i64 c, .string s] w fun e' w' => e' = .returned (.tuple #[.int .i64 n, .int .i64 e]) ∧ Below w.heap.size w w' := by
 by_cases q : ∃ a, FunA.In a ∧ trystref01_Text.f ShowPb.K c a = some s
 ·obtain ⟨a, h1, h2⟩ := q
  obtain ⟨s', g1, g2, g3⟩ := ShowPb.back c a hc hc' h1
  obtain rfl : s' = s := Option.some.inj (g1.symm.trans h2)
  exact ⟨a, 0, Or.inl ⟨rfl, h1, h2⟩, fun a' k1 k2 => ⟨text_inj c a a' _ hc hc' h1 k1 h2 k2, rfl⟩, g3⟩
 ·obtain ⟨n, e, h1, h2⟩ := ShowPb.parse c s hc hc' hs
  exact ⟨n, e, h1, fun a k1 k2 => absurd ⟨a, k1, k2⟩ q, h2⟩
open Classical in
noncomputable def pf (c : Int) (s : ByteArray) : Option (Int × Int) :=
 if h : 0 ≤ c ∧ c ≤ 6 ∧ s.size ≤ 1000 then some ((parse1 c s h.1 h.2.1 h.2.2).choose, (parse1 c s h.1 h.2.1 h.2.2).choose_spec.choose)
 else if ¬ (0 ≤ c ∧ c ≤ 6) then some (0, 1) else none
theorem pf_in (c : Int) (s : ByteArray) (h1 : 0 ≤ c) (h2 : c ≤ 6) (h3 : s.size ≤ 1000) : ∃ n e, pf c s = some (n, e) ∧ ShowPb.Told c s n e ∧ (∀ a, FunA.In a → trystref01_Text.f ShowPb.K c a = some s → n = a ∧ e = 0) ∧ ∀ w, Pre w →
  Calls Tryz.prog 6 #[.int .i64 c, .string s] w fun e' w' => e' = .returned (.tuple #[.int .i64 n, .int .i64 e]) ∧ Below w.heap.size w w' := by
 refine ⟨_, _, ?_, (parse1 c s h1 h2 h3).choose_spec.choose_spec⟩
 unfold pf
 rw [dif_pos ⟨h1, h2, h3⟩]
theorem pf_out (c : Int) (s : ByteArray) (h : ¬ (0 ≤ c ∧ c ≤ 6)) : pf c s = some (0, 1) := by
 unfold pf
 rw [dif_neg (fun z => h ⟨z.1, z.2.1⟩), if_pos h]
theorem walk (c : Int) (s : ByteArray) (r0 r1 : Int) (w : World) (h : pf c s = some (r0, r1)) (hp : Pre w) :
  Calls Tryz.prog 6 #[.int .i64 c, .string s] w fun e w' => e = .returned (.tuple #[.int .i64 r0, .int .i64 r1]) ∧ Below w.heap.size w w' := by
 by_cases q : 0 ≤ c ∧ c ≤ 6 ∧ s.size ≤ 1000
 ·obtain ⟨n, e, hf, _, _, hc⟩ := pf_in c s q.1 q.2.1 q.2.2
  rw [hf] at h
  simp only [Option.some.injEq, Prod.mk.injEq] at h
  obtain ⟨rfl, rfl⟩ := h
  exact hc w hp
 ·by_cases o : 0 ≤ c ∧ c ≤ 6
  ·unfold pf at h
   rw [dif_neg q, if_neg (by simpa using o)] at h
   cases h
  ·rw [pf_out c s o] at h
   simp only [Option.some.injEq, Prod.mk.injEq] at h
   obtain ⟨rfl, rfl⟩ := h
   exact parseArg c s w o
/-- What is shown is read so: as the function tells it. -/
theorem pf_back (c a : Int) (hc : 0 ≤ c) (hc' : c ≤ 6) (ha : FunA.In a) : ∃ s, trystref01_Text.f ShowPb.K c a = some s ∧ s.size ≤ 400 ∧ pf c s = some (a, 0) := by
 obtain ⟨s, h1, h2, h3⟩ := ShowPb.back c a hc hc' ha
 obtain ⟨n, e, hf, _, hu, _⟩ := pf_in c s hc hc' (by omega)
 obtain ⟨rfl, rfl⟩ := hu a ha h1
 exact ⟨s, h1, h2, hf⟩
end Go.Proofs.YtgbbgcepcnklkaaGreatDoor.ShowPf
namespace Go.Proofs.YtgbbgcepcnklkaaGreatDoor.L
open Go.RowKit Go.Proofs.YtgbbgcepcnklkaaGreatDoorW.PrintWords Go.Proofs.YtgbbgcepcnklkaaGreatDoorW.PrintLast Go.Proofs.YtgbbgcepcnklkaaGreatDoorW.PrintMore
attribute [local go_sem] max2_int min2_int max_two min_two
set_option linter.unusedVariables false
set_option linter.unusedSimpArgs false
/-! ### trystlaw27_awake: function 5 -/
def trystlaw27_awake.f : Option Bool := some true
theorem trystlaw27_awake.calls (r : Bool) (w : World) (h : trystlaw27_awake.f = some r) (ht : ShowPs.Pre w) :
  Calls Tryz.prog 5 #[] w fun e w' => e = .returned (.bool r) ∧ Below w.heap.size w w' := by
 obtain rfl := Option.some.inj h
 exact ShowAw.awake w ht.tab

/-! ### show_Parse: function 6 -/
noncomputable def show_Parse.f (a0 : Int) (a1 : ByteArray) : Option (Int × Int) := ShowPf.pf a0 a1
theorem show_Parse.calls (a0 : Int) (a1 : ByteArray) (r0 r1 : Int) (w : World) (h : show_Parse.f a0 a1 = some (r0, r1)) (ht : ShowPs.Pre w) :
  Calls Tryz.prog 6 #[.int .i64 a0, .string a1] w fun e w' => e = .returned (.tuple #[.int .i64 r0, .int .i64 r1]) ∧ Below w.heap.size w w' :=
 ShowPf.walk a0 a1 r0 r1 w h ht

/-! ### trystref01_In: function 7 -/
abbrev trystref01_In.f (a0 : Int) : Option Bool := Go.Proofs.YtgbbgcepcnklkaaGreatDoor.Q.trystref01_In.f a0
theorem trystref01_In.calls (a0 : Int) (r : Bool) (w : World) (h : trystref01_In.f a0 = some r) :
  Calls Tryz.prog 7 #[.int .i64 a0] w fun e w' => e = .returned (.bool r) ∧ Drawn0 w w' :=
 Go.Proofs.YtgbbgcepcnklkaaGreatDoor.Q.trystref01_In.calls a0 r w h

/-! ### trystref01_Text: function 8 -/
def trystref01_Text.f (a0 a1 : Int) : Option ByteArray := Go.Proofs.YtgbbgcepcnklkaaGreatDoor.Q.trystref01_Text.f FunZ.K a0 a1
theorem trystref01_Text.calls (a0 a1 : Int) (r : ByteArray) (w : World) (h : trystref01_Text.f a0 a1 = some r) :
  Calls Tryz.prog 8 #[.int .i64 a0, .int .i64 a1] w fun e w' => e = .returned (.string r) ∧ Below w.heap.size w w' :=
 Go.Proofs.YtgbbgcepcnklkaaGreatDoor.Q.trystref01_Text.calls FunZ.K a0 a1 r w h

/-! ### show_Text: function 10 -/
def show_Text.f (a0 a1 : Int) : Option (ByteArray × Int) := ShowTx2.text a0 a1
theorem show_Text.calls (a0 a1 : Int) (r0 : ByteArray) (r1 : Int) (w : World) (h : show_Text.f a0 a1 = some (r0, r1)) (ht : ShowPs.Pre w) :
  Calls Tryz.prog 10 #[.int .i64 a0, .int .i64 a1] w fun e w' => e = .returned (.tuple #[.string r0, .int .i64 r1]) ∧ Below w.heap.size w w' :=
 ShowTx2.walk a0 a1 r0 r1 w h ht.tab

/-! ### show_All: function 9 -/
def show_All.l0 : Nat → Int → List ByteArray → Int → Option (List ByteArray × Int)
 | 0, _, _, _ => none
 | k + 1, x0, x4, x8 => if x8 < 7 then ((show_Text.f x8 x0).bind fun bt367 => (if bt367.2 = 0 then (if x4.length < 8796093022208 then (show_All.l0 k x0 (x4 ++ [bt367.1]) (wrap64 (x8 + 1))) else (none)) else (some (([] : List ByteArray), bt367.2)))) else (some (x4, 0))
def show_All.f (k : Nat) (a0 : Int) : Option (List ByteArray × Int) := show_All.l0 k a0 ([] : List ByteArray) 0
set_option maxHeartbeats 8000000 in
set_option maxRecDepth 100000 in
theorem show_All.calls (k : Nat) (a0 : Int) (r1 : List ByteArray) (r2 : Int) (w : World) (h : show_All.f k a0 = some (r1, r2)) (ht : ShowPs.Pre w) :
  Calls Tryz.prog 9 #[.int .i64 a0] w fun e w' => ∃ v0_ : Value, e = .returned (.tuple #[v0_, .int .i64 r2]) ∧ Kd.R Kd.string 9 w' w.heap.size (fun _ => True) v0_ r1 ∧ Below w.heap.size w w' := by
 have TB_ := Aside0.mk ht
 clear ht
 have HB := Aside0.mk (Below.refl w.heap.size w)
 have H : (show_All.l0 k a0 ([] : List ByteArray) 0) = some (r1, r2) := h
 clear h
 have H' := Aside0.mk H
 clear H
 go_enter Tryz.func9, Tryz.ntmps9
 go_wp2
 go_loopg [4, 8] k (fun kq v4 v8 w' => ∃ (x4_1 : List ByteArray) (x8_1 : Int), v8 = .int .i64 x8_1 ∧ Aside0 (show_All.l0 kq a0 x4_1 x8_1 = some (r1, r2)) ∧ Aside0 (kq ≤ k) ∧ Aside0 (Kd.R Kd.string 9 w' w.heap.size (fun _ => True) v4 x4_1) ∧ Aside0 (Below w.heap.size w w'))
 case atStart => exact ⟨(([] : List ByteArray)), (0), (by first | rfl | (simp; done) | (simp [*]; done)), H', ⟨Nat.le_refl _⟩, ⟨by first | exact Kd.R_nil _ _ _ _ _ | exact Kd.N_nil _ _ _ _ _ | exact Kd.V_nil _ _ _ _ _ | exact Kd.Q_nil _ _ _ _ _ | exact Kd.S_nil _ _ _ _ _⟩, ⟨by repeat (first | (with_reducible first | exact HB.out | apply below_alloc | apply pw_below_drewN | apply below_drew1) | exact HB.out)⟩⟩
 case round =>
  clear H'
  obtain ⟨x4_1, x8_1, rfl, HA, HK1, HO_4, HB⟩ := hrel
  cases gk with
  | zero => exact absurd HA.out (by simp [show_All.l0])
  | succ k1 =>
   have H := HA.out
   clear HA
   simp only [show_All.l0] at H
   by_cases c2 : x8_1 < 7
   ·rw [if_pos c2] at H
    have c2b0 : decide (x8_1 < 7) = true := decide_eq_true c2
    clear c2
    replace H := Option.bind_eq_some_iff.mp H
    obtain ⟨⟨t367, t368⟩, A30, H⟩ := H
    replace H : (if t368 = 0 then (if x4_1.length < 8796093022208 then (show_All.l0 k1 a0 (x4_1 ++ [t367]) (wrap64 (x8_1 + 1))) else (none)) else (some (([] : List ByteArray), t368))) = some (r1, r2) := H
    have A3 := Aside0.mk A30
    clear A30
    by_cases c4 : t368 = 0
    ·rw [if_pos c4] at H
     have c4b0 : (t368 == 0) = true := beq_iff_eq.mpr c4
     have c4b1 : (t368 != 0) = false := bne_eq_false_iff_eq.mpr c4
     clear c4
     by_cases c5 : x4_1.length < 8796093022208
     ·rw [if_pos c5] at H
      have LMc5 := Aside0.mk c5
      clear c5
      obtain ⟨y369, hy369⟩ : ∃ y_ : List ByteArray, y_ = (x4_1 ++ [t367]) := ⟨_, rfl⟩
      replace H : (show_All.l0 k1 a0 y369 (wrap64 (x8_1 + 1))) = some (r1, r2) := by first | (rw [hy369]; with_reducible exact H) | (have H2_ := (Option.bind_some _ _).symm.trans H; rw [hy369]; with_reducible exact H2_) | (have H2_ := (Option.bind_some _ _).symm.trans H; with_reducible exact H2_) | with_reducible exact H | (rw [hy369]; exact H) | exact H
      have Ny369 := Aside0.mk hy369
      clear hy369
      have H' := Aside0.mk H
      clear H
      go_wp2_with (first | ((with_reducible refine gate_callee (f := 10) rfl ?_); refine gm_ (some 14) Tryz.func10 #[.int .i64 x8_1, .int .i64 a0] ?_; (with_reducible refine (show_Text.calls x8_1 a0 t367 t368 _ A3.out (ShowPs.Pre.below TB_.out (by repeat (first | (with_reducible first | exact HB.out | apply below_alloc | apply pw_below_drewN | apply below_drew1 | apply below_drew) | exact HB.out)))).mono ?_); rintro e w6 ⟨rfl, hb⟩; refine ⟨_, rfl, ?_⟩; have n0_ := Aside0.mk (Kd.R_below (by (with_reducible repeat (first | apply Kd.R_alloc | apply Kd.R_drewN | apply Kd.R_drew)); exact HO_4.out) hb); have n1_ := Aside0.mk (below_step (by repeat (first | (with_reducible first | exact HB.out | apply below_alloc | apply pw_below_drewN | apply below_drew1) | exact HB.out)) hb); clear HO_4; clear HB; have HO_4 := n0_; have HB := n1_; clear n0_ n1_; (try clear hb); (try clear hb2); (try clear hk); (try clear hi)) | ((with_reducible refine gate_builtin (b := .append) (xs := #[.tmp 20, .tmp 22]) rfl ?_); at_builtin; refine Kd.R_append Kd.string (w0 := w) w.heap.size rfl (.tmp 20) (.tmp 22) 29 9 (.string ⟨#[]⟩) 16 rfl Tryz.underlying29 info9 rfl (by decide) (by omega) u4 x4_1 t367 [.string t367] (fun _ => True) (fun _ => False) rfl rfl ?aP (fun _ hk => hk.elim) ?aF ?aO ?aB ?aS ?aL ?_; (case aP => exact rfl); (case aB => exact (by repeat (first | (with_reducible first | exact HB.out | apply below_alloc | apply pw_below_drewN | apply below_drew1) | exact HB.out))); (case aF => exact (fun _ _ => trivial)); (case aO => exact (by (with_reducible repeat (first | apply Kd.R_alloc | apply Kd.R_drewN | apply Kd.R_drew)); exact HO_4.out)); (case aS => exact (below_size (by repeat (first | (with_reducible first | exact HB.out | apply below_alloc | apply pw_below_drewN | apply below_drew1) | exact HB.out)))); (case aL => have := LMc5.out; omega); intro v370 w7 ho hb hg hat; rw [← Ny369.out] at ho; have n0_ := Aside0.mk (hb); have n1_ := Aside0.mk (ho); clear HB; clear HO_4; have HB := n0_; have HO371 := n1_; clear n0_ n1_; clear ho hb hg hat))
      go_roundg k1
      case measure => have := HK1.out; omega
      case rel => exact ⟨(y369), (wrap64 (x8_1 + 1)), (by first | rfl | (simp; done) | (simp [*]; done)), H', ⟨by have := HK1.out; omega⟩, ⟨by (with_reducible repeat (first | apply Kd.R_alloc | apply Kd.R_drewN | apply Kd.R_drew)); exact HO371.out⟩, ⟨by repeat (first | (with_reducible first | exact HB.out | apply below_alloc | apply pw_below_drewN | apply below_drew1) | exact HB.out)⟩⟩
     ·rw [if_neg c5] at H
      exact absurd H (by simp)
    ·rw [if_neg c4] at H
     have c4b0 : (t368 == 0) = false := beq_eq_false_iff_ne.mpr c4
     have c4b1 : (t368 != 0) = true := bne_iff_ne.mpr c4
     simp only [Option.some.injEq, Prod.mk.injEq] at H
     obtain ⟨rfl, rfl⟩ := H
     go_wp2_with (first | ((with_reducible refine gate_callee (f := 10) rfl ?_); refine gm_ (some 14) Tryz.func10 #[.int .i64 x8_1, .int .i64 a0] ?_; (with_reducible refine (show_Text.calls x8_1 a0 t367 t368 _ A3.out (ShowPs.Pre.below TB_.out (by repeat (first | (with_reducible first | exact HB.out | apply below_alloc | apply pw_below_drewN | apply below_drew1 | apply below_drew) | exact HB.out)))).mono ?_); rintro e w8 ⟨rfl, hb⟩; refine ⟨_, rfl, ?_⟩; have n0_ := Aside0.mk (Kd.R_below (by (with_reducible repeat (first | apply Kd.R_alloc | apply Kd.R_drewN | apply Kd.R_drew)); exact HO_4.out) hb); have n1_ := Aside0.mk (below_step (by repeat (first | (with_reducible first | exact HB.out | apply below_alloc | apply pw_below_drewN | apply below_drew1) | exact HB.out)) hb); clear HO_4; clear HB; have HO_4 := n0_; have HB := n1_; clear n0_ n1_; (try clear hb); (try clear hb2); (try clear hk); (try clear hi)))
     go_ret2
     exact ⟨_, by first | rfl | (simp [*, errW_none, errW_some] <;> rfl), by first | exact Kd.R_nil _ _ _ _ _ | exact Kd.N_nil _ _ _ _ _ | exact Kd.V_nil _ _ _ _ _ | exact Kd.Q_nil _ _ _ _ _ | exact Kd.S_nil _ _ _ _ _, by repeat (first | (with_reducible first | exact HB.out | apply below_alloc | apply pw_below_drewN | apply below_drew1) | exact HB.out)⟩
   ·rw [if_neg c2] at H
    have c2b0 : decide (x8_1 < 7) = false := decide_eq_false c2
    clear c2
    simp only [Option.some.injEq, Prod.mk.injEq] at H
    obtain ⟨rfl, rfl⟩ := H
    go_wp2
    go_ret2
    exact ⟨_, by first | rfl | (simp [*, errW_none, errW_some] <;> rfl), by (with_reducible repeat (first | apply Kd.R_alloc | apply Kd.R_drewN | apply Kd.R_drew)); exact HO_4.out, by repeat (first | (with_reducible first | exact HB.out | apply below_alloc | apply pw_below_drewN | apply below_drew1) | exact HB.out)⟩

end Go.Proofs.YtgbbgcepcnklkaaGreatDoor.L
