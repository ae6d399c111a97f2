/- Texts of this claim, merged: ShowPb, ShowPf, Ltrystlaw27awake, LshowParse, LrefIn, Ltrystref01Text, Ltrystlaw27ShowParses, PureShowParses, ShapeRow. -/
import Derived.Test.YtgbbgcepcnklkaaGreatDoorMgShowParses23
import Derived.Lib.SmallJoins
import Derived.Test.YtgbbgcepcnklkaaGreatDoorMgShowParses1
import Derived.Test.YtgbbgcepcnklkaaGreatDoorMgShowParses11
import Derived.Test.YtgbbgcepcnklkaaGreatDoorMgShowParses22
import Derived.Test.YtgbbgcepcnklkaaGreatDoorRows
import Derived.HandedShaped
/- show.Parse: what it reads is shown so; what is shown is read so. -/
namespace Go.Proofs.YtgbbgcepcnklkaaGreatDoor.ShowPb
open Go.RowKit Go.Proofs.YtgbbgcepcnklkaaGreatDoorW.PrintWords Go.Proofs.YtgbbgcepcnklkaaGreatDoorW.PrintLast Go.Proofs.YtgbbgcepcnklkaaGreatDoor.Q Go.Proofs.YtgbbgcepcnklkaaGreatDoor.ShowPl Go.Proofs.YtgbbgcepcnklkaaGreatDoor.ShowPs Go.Proofs.YtgbbgcepcnklkaaGreatDoor.ShowP3
set_option linter.unusedVariables false
set_option linter.unusedSimpArgs false
abbrev K : Nat := FunZ.K
theorem dapp (a b : ByteArray) : (a ++ b).data.toList = a.data.toList ++ b.data.toList := by simp
theorem tx_list (c y m d : Int) : (ShowTx.tx c y m d).data.toList = if c = 2 then Lib.itoa y ++ 45 :: ((87 :: Lib.itoa m) ++ 45 :: Lib.itoa d) else Lib.itoa y ++ 45 :: (Lib.itoa m ++ 45 :: Lib.itoa d) := by
 unfold ShowTx.tx ShowTx.it
 by_cases h : c = 2
 ·rw [if_pos h, if_pos h]
  simp only [dapp]
  simp
 ·rw [if_neg h, if_neg h]
  simp only [dapp]
  simp
theorem eq_of_list {a b : ByteArray} (h : a.data.toList = b.data.toList) : a = b := by rw [← ba a, ← ba b, h]
theorem sg_list (b : Bool) : (sg b).data.toList = if b then [45] else [] := by cases b <;> rfl
/-- A sign cut off. -/
theorem cut_sign (s : ByteArray) : ∃ (b : Bool) (t : ByteArray), Lib.hasPrefix s.data.toList [45] = b ∧ (⟨(Lib.trimPrefix s.data.toList [45]).toArray⟩ : ByteArray) = t ∧ s.data.toList = (sg b).data.toList ++ t.data.toList := by
 refine ⟨_, _, rfl, rfl, ?_⟩
 rw [sg_list]
 cases h : Lib.hasPrefix s.data.toList [45] with
 | false => simp [Lib.trimPrefix, h]
 | true =>
  cases hl : s.data.toList with
  | nil => rw [hl] at h; simp [Lib.hasPrefix] at h
  | cons x r =>
   rw [hl] at h
   have : (45 : UInt8) = x := by simpa [Lib.hasPrefix, List.isPrefixOf] using h
   subst this
   simp [Lib.trimPrefix, Lib.hasPrefix, List.isPrefixOf]
theorem cut_week (B : ByteArray) (h : Lib.hasPrefix B.data.toList [87] = true) : B.data.toList = 87 :: (⟨(Lib.trimPrefix B.data.toList [87]).toArray⟩ : ByteArray).data.toList := by
 cases hl : B.data.toList with
 | nil => rw [hl] at h; simp [Lib.hasPrefix] at h
 | cons x r =>
  rw [hl] at h
  have : (87 : UInt8) = x := by simpa [Lib.hasPrefix, List.isPrefixOf] using h
  subst this
  simp [Lib.trimPrefix, Lib.hasPrefix, List.isPrefixOf]
theorem by3_list (l : List UInt8) : (by3 l).data.toList = l := by simp [by3]
theorem size_list (s : ByteArray) : s.size = s.data.toList.length := Array.length_toList.symm
/-- A day that is read is shown so. -/
theorem shown (c y m d n : Int) (hc : 0 ≤ c) (hc' : c ≤ 6) (h : FunBk.PD c y m d = some (n, 0)) : FunA.In n ∧ trystref01_Text.f K c n = some (ShowTx.tx c y m d) := by
 obtain ⟨h1, h2⟩ := FunBk.back c y m d n hc hc' h
 obtain ⟨y', m', d', e0, hR, y1, y2, he, hm, hD⟩ := ShowDt.date c n hc hc'
 have e := hR.symm.trans h2
 simp only [Option.some.injEq, Prod.mk.injEq] at e
 obtain ⟨rfl, rfl, rfl, rfl⟩ := e
 exact ⟨h1, ShowTx.refYes c n y' m' d' hR y1 y2 (hm rfl)⟩
/-- What Parse tells of any text. -/
def Told (c : Int) (s : ByteArray) (n e : Int) : Prop := (e = 0 ∧ FunA.In n ∧ trystref01_Text.f K c n = some s) ∨ (e = 7 ∧ n = 0)
theorem res_told (c y m d : Int) (s : ByteArray) (q1 q2 q3 : Bool) (r1 r2 : Int) (hc : 0 ≤ c) (hc' : c ≤ 6) (h : FunBk.PD c y m d = some (r1, r2)) (hs : q1 = true → q2 = true → q3 = true → ShowTx.tx c y m d = s) :
  ∃ n e, res q1 q2 q3 r1 r2 = .tuple #[.int .i64 n, .int .i64 e] ∧ Told c s n e := by
 unfold res
 by_cases g : (q1 && q2 && q3 && (r2 == 0)) = true
 ·rw [if_pos g]
  simp only [Bool.and_eq_true, beq_iff_eq] at g
  obtain ⟨⟨⟨g1, g2⟩, g3⟩, rfl⟩ := g
  obtain ⟨h1, h2⟩ := shown c y m d r1 hc hc' h
  rw [hs g1 g2 g3] at h2
  exact ⟨r1, 0, rfl, Or.inl ⟨rfl, h1, h2⟩⟩
 ·rw [if_neg g]
  exact ⟨0, 7, rfl, Or.inr ⟨rfl, rfl⟩⟩
theorem parse (c : Int) (s : ByteArray) (hc : 0 ≤ c) (hc' : c ≤ 6) (hs : s.size ≤ 1000) : ∃ n e, Told c s n e ∧ ∀ w, Pre w →
  Calls Tryz.prog 6 #[.int .i64 c, .string s] w fun e' w' => e' = .returned (.tuple #[.int .i64 n, .int .i64 e]) ∧ Below w.heap.size w w' := by
 obtain ⟨b, t, hb, ht, hst⟩ := cut_sign s
 have zs := size_list s
 have zt := size_list t
 rw [hst, List.length_append] at zs
 by_cases h1 : Lib.countB t ⟨#[45]⟩ = 2
 ·obtain ⟨la, lb, ld, hl, na, nb, nd⟩ := three 45 t.data.toList (by rw [← countB_eq]; exact h1)
  obtain ⟨_, h2⟩ := pieces 45 t la lb ld hl na nb nd
  have zl := congrArg List.length hl
  simp only [List.length_append, List.length_cons] at zl
  have za : (by3 la).size = la.length := by rw [size_list, by3_list]
  have zb : (by3 lb).size = lb.length := by rw [size_list, by3_list]
  have zd : (by3 ld).size = ld.length := by rw [size_list, by3_list]
  obtain ⟨y, q1, hy⟩ : ∃ y q, dig (sg b ++ by3 la) = (y, q) := ⟨_, _, rfl⟩
  obtain ⟨d, q3, hd⟩ : ∃ y q, dig (by3 ld) = (y, q) := ⟨_, _, rfl⟩
  by_cases hn : c = 2
  ·subst hn
   cases hbb : Lib.hasPrefix (by3 lb).data.toList [87] with
   | false => exact ⟨0, 7, Or.inr ⟨rfl, rfl⟩, fun w hp => parseWNo s t (by3 la) (by3 lb) (by3 ld) b w hp (by omega) ht hb hbb h1 h2⟩
   | true =>
    have hw := cut_week (by3 lb) hbb
    rw [by3_list] at hw
    obtain ⟨B', hbt⟩ : ∃ B', (⟨(Lib.trimPrefix (by3 lb).data.toList [87]).toArray⟩ : ByteArray) = B' := ⟨_, rfl⟩
    have hbt2 := hbt
    rw [by3_list] at hbt2
    rw [hbt2] at hw
    have zw := congrArg List.length hw
    simp only [List.length_cons] at zw
    have zB' := size_list B'
    obtain ⟨m, q2, hm⟩ : ∃ y q, dig B' = (y, q) := ⟨_, _, rfl⟩
    obtain ⟨r1, r2, hD⟩ := FunBk.told 2 y m d hc hc'
    obtain ⟨n, e, hr, hT⟩ := res_told 2 y m d s q1 q2 q3 r1 r2 hc hc' hD (fun g1 g2 g3 => by
     subst g1 g2 g3
     apply eq_of_list
     have e1 := dig_yes _ _ hy
     have e2 := dig_yes _ _ hm
     have e3 := dig_yes _ _ hd
     rw [dapp, by3_list] at e1
     rw [by3_list] at e3
     rw [tx_list, if_pos rfl, hst, hl, ← e1, ← e2, ← e3, ← hw]
     simp)
    refine ⟨n, e, hT, fun w hp => ?_⟩
    rw [← hr]
    exact parseW s t (by3 la) B' (by3 ld) b w hp (by omega) ht hb (by3 lb) hbt hbb h1 h2 (by omega) (by omega) (by omega) y m d q1 q2 q3 hy hm hd r1 r2 hD
  ·obtain ⟨m, q2, hm⟩ : ∃ y q, dig (by3 lb) = (y, q) := ⟨_, _, rfl⟩
   obtain ⟨r1, r2, hD⟩ := FunBk.told c y m d hc hc'
   obtain ⟨n, e, hr, hT⟩ := res_told c y m d s q1 q2 q3 r1 r2 hc hc' hD (fun g1 g2 g3 => by
    subst g1 g2 g3
    apply eq_of_list
    have e1 := dig_yes _ _ hy
    have e2 := dig_yes _ _ hm
    have e3 := dig_yes _ _ hd
    rw [dapp, by3_list] at e1
    rw [by3_list] at e2 e3
    rw [tx_list, if_neg hn, hst, hl, ← e1, ← e2, ← e3]
    simp)
   refine ⟨n, e, hT, fun w hp => ?_⟩
   rw [← hr]
   exact parse3 c s t (by3 la) (by3 lb) (by3 ld) b w ⟨hc, hc'⟩ hn hp (by omega) ht hb h1 h2 (by omega) (by omega) (by omega) y m d q1 q2 q3 hy hm hd r1 r2 hD
 ·exact ⟨0, 7, Or.inr ⟨rfl, rfl⟩, fun w hp => parseNo c s t b w ⟨hc, hc'⟩ hp (by omega) ht hb h1⟩
/-- A day that is shown is read so. -/
theorem back (c a : Int) (hc : 0 ≤ c) (hc' : c ≤ 6) (ha : FunA.In a) : ∃ s, trystref01_Text.f K c a = some s ∧ s.size ≤ 400 ∧ ∀ w, Pre w →
  Calls Tryz.prog 6 #[.int .i64 c, .string s] w fun e' w' => e' = .returned (.tuple #[.int .i64 a, .int .i64 0]) ∧ Below w.heap.size w w' := by
 obtain ⟨y, m, d, hR, hD⟩ := FunBk.there c a hc hc' ha
 obtain ⟨y', m', d', e0, hR', y1, y2, he, hm, _⟩ := ShowDt.date c a hc hc'
 have e := hR'.symm.trans hR
 simp only [Option.some.injEq, Prod.mk.injEq] at e
 obtain ⟨rfl, rfl, rfl, rfl⟩ := e
 obtain ⟨m1, m2, d1, d2⟩ := hm rfl
 have hz := ShowTx2.tx_size c y' m' d' y1 y2 ⟨m1, m2, d1, d2⟩
 refine ⟨_, ShowTx.refYes c a y' m' d' hR y1 y2 ⟨m1, m2, d1, d2⟩, hz, fun w hp => ?_⟩
 obtain ⟨s, hs⟩ : ∃ s, s = ShowTx.tx c y' m' d' := ⟨_, rfl⟩
 rw [← hs] at hz ⊢
 have hl := tx_list c y' m' d'
 rw [← hs] at hl
 obtain ⟨x, r, hno, hp4⟩ := itoa_parts y' (by omega) (by omega)
 have nm := itoa_no m' (by omega) (by omega)
 have ndd := itoa_no d' (by omega) (by omega)
 have hx : ¬ (45 : UInt8) = x := fun z => hno (by simp [z])
 obtain ⟨b, t, hb, ht, hst⟩ := cut_sign s
 have hdig : sg b ++ by3 (x :: r) = by3 (Lib.itoa y') ∧ t.data.toList = (x :: r) ++ 45 :: ((if c = 2 then 87 :: Lib.itoa m' else Lib.itoa m') ++ 45 :: Lib.itoa d') := by
  rcases hp4 with ⟨_, hi⟩ | ⟨_, hi⟩
  ·have hb1 : b = true := by
    rw [← hb, hl, hi]
    split <;> simp [Lib.hasPrefix, List.isPrefixOf]
   subst hb1
   refine ⟨eq_of_list (by rw [dapp, by3_list, by3_list, hi]; rfl), ?_⟩
   rw [hl, hi, sg_list] at hst
   by_cases c2 : c = 2
   ·rw [if_pos c2] at hst ⊢; simpa using hst.symm
   ·rw [if_neg c2] at hst ⊢; simpa using hst.symm
  ·have hb1 : b = false := by
    rw [← hb, hl, hi]
    split <;> simp [Lib.hasPrefix, List.isPrefixOf, hx]
   subst hb1
   refine ⟨eq_of_list (by rw [dapp, by3_list, by3_list, hi]; rfl), ?_⟩
   rw [hl, hi, sg_list] at hst
   by_cases c2 : c = 2
   ·rw [if_pos c2] at hst ⊢; simpa using hst.symm
   ·rw [if_neg c2] at hst ⊢; simpa using hst.symm
 obtain ⟨hdg, htl⟩ := hdig
 have zs := size_list s
 have zt := size_list t
 rw [hst, List.length_append] at zs
 have zl := congrArg List.length htl
 simp only [List.length_append, List.length_cons] at zl
 have hy : dig (sg b ++ by3 (x :: r)) = (y', true) := by rw [hdg]; exact dig_it y' (by omega) (by omega)
 have hm4 := dig_it m' (by omega) (by omega)
 have hd4 := dig_it d' (by omega) (by omega)
 have za : (by3 (x :: r)).size = (x :: r).length := by rw [size_list, by3_list]
 have zm : (by3 (Lib.itoa m')).size = (Lib.itoa m').length := by rw [size_list, by3_list]
 have zd : (by3 (Lib.itoa d')).size = (Lib.itoa d').length := by rw [size_list, by3_list]
 simp only [List.length_cons] at za
 have er : res true true true a 0 = .tuple #[.int .i64 a, .int .i64 0] := rfl
 rw [← er]
 by_cases c2 : c = 2
 ·subst c2
  rw [if_pos rfl] at htl zl
  simp only [List.length_cons] at zl
  have hB : (by3 (87 :: Lib.itoa m')).data.toList = 87 :: Lib.itoa m' := by3_list _
  obtain ⟨h1, h2⟩ := pieces 45 t (x :: r) (87 :: Lib.itoa m') (Lib.itoa d') htl hno (by simpa using nm) ndd
  exact parseW s t (by3 (x :: r)) (by3 (Lib.itoa m')) (by3 (Lib.itoa d')) b w hp (by omega) ht hb (by3 (87 :: Lib.itoa m')) (by rw [hB]; simp [Lib.trimPrefix, Lib.hasPrefix, List.isPrefixOf, by3]) (by rw [hB]; simp [Lib.hasPrefix, List.isPrefixOf]) h1 h2 (by omega) (by omega) (by omega) y' m' d' true true true hy hm4 hd4 a 0 hD
 ·rw [if_neg c2] at htl zl
  obtain ⟨h1, h2⟩ := pieces 45 t (x :: r) (Lib.itoa m') (Lib.itoa d') htl hno nm ndd
  exact parse3 c s t (by3 (x :: r)) (by3 (Lib.itoa m')) (by3 (Lib.itoa d')) b w ⟨hc, hc'⟩ c2 hp (by omega) ht hb h1 h2 (by omega) (by omega) (by omega) y' m' d' true true true hy hm4 hd4 a 0 hD
end Go.Proofs.YtgbbgcepcnklkaaGreatDoor.ShowPb
/- show.Parse as a function. -/
namespace Go.Proofs.YtgbbgcepcnklkaaGreatDoor.ShowPf
open Go.RowKit Go.Proofs.YtgbbgcepcnklkaaGreatDoorW.PrintWords Go.Proofs.YtgbbgcepcnklkaaGreatDoorW.PrintLast Go.Proofs.YtgbbgcepcnklkaaGreatDoor.Q Go.Proofs.YtgbbgcepcnklkaaGreatDoor.ShowPs Go.Proofs.YtgbbgcepcnklkaaGreatDoor.ShowPl
set_option linter.unusedVariables false
set_option linter.unusedSimpArgs false
theorem uniq {c : UInt8} : ∀ {a a' r r' : List UInt8}, c ∉ a → c ∉ a' → a ++ c :: r = a' ++ c :: r' → a = a' ∧ r = r'
 | [], [], r, r', _, _, h => by simpa using h
 | [], x :: a', r, r', _, h2, h => by
  simp only [List.nil_append, List.cons_append, List.cons.injEq] at h
  exact absurd (by simp [h.1]) h2
 | x :: a, [], r, r', h1, _, h => by
  simp only [List.nil_append, List.cons_append, List.cons.injEq] at h
  exact absurd (by simp [h.1]) h1
 | x :: a, x' :: a', r, r', h1, h2, h => by
  simp only [List.cons_append, List.cons.injEq] at h
  obtain ⟨rfl, h⟩ := h
  obtain ⟨rfl, rfl⟩ := uniq (fun z => h1 (by simp [z])) (fun z => h2 (by simp [z])) h
  exact ⟨rfl, rfl⟩
theorem ycut (y y' : Int) (h1 : -10000000 ≤ y) (h2 : y ≤ 10000000) (h3 : -10000000 ≤ y') (h4 : y' ≤ 10000000) (r r' : List UInt8) (h : Lib.itoa y ++ 45 :: r = Lib.itoa y' ++ 45 :: r') : Lib.itoa y = Lib.itoa y' ∧ r = r' := by
 obtain ⟨x, s, n, e⟩ := itoa_parts y h1 h2
 obtain ⟨x', s', n', e'⟩ := itoa_parts y' h3 h4
 rcases e with ⟨_, e⟩ | ⟨_, e⟩ <;> rcases e' with ⟨_, e'⟩ | ⟨_, e'⟩ <;> rw [e, e'] at h ⊢
 ·have h5 : (x :: s) ++ 45 :: r = (x' :: s') ++ 45 :: r' := List.cons.inj h |>.2
  obtain ⟨h6, h7⟩ := uniq n n' h5
  exact ⟨by rw [h6], h7⟩
 ·have h5 := (List.cons.inj h).1
  exact absurd (by simp [h5]) n'
 ·have h5 := (List.cons.inj h).1
  exact absurd (by simp [h5]) n
 ·exact uniq n n' h
theorem itoa_inj (y y' : Int) (h1 : -10000000 ≤ y) (h2 : y ≤ 10000000) (h3 : -10000000 ≤ y') (h4 : y' ≤ 10000000) (h : Lib.itoa y = Lib.itoa y') : y = y' := by
 have e := dig_it y h1 h2
 rw [h, dig_it y' h3 h4] at e
 exact (Prod.mk.inj e).1.symm
theorem tx_inj (c y m d y' m' d' : Int) (h : ShowTx.tx c y m d = ShowTx.tx c y' m' d') (y1 : -20000 ≤ y) (y2 : y ≤ 20000) (hm : 1 ≤ m ∧ m ≤ 60 ∧ 1 ≤ d ∧ d ≤ 60) (y1' : -20000 ≤ y') (y2' : y' ≤ 20000) (hm' : 1 ≤ m' ∧ m' ≤ 60 ∧ 1 ≤ d' ∧ d' ≤ 60) :
  y = y' ∧ m = m' ∧ d = d' := by
 have hl := congrArg (fun s : ByteArray => s.data.toList) h
 simp only [ShowPb.tx_list] at hl
 have nm := itoa_no m (by omega) (by omega)
 have nm' := itoa_no m' (by omega) (by omega)
 by_cases q : c = 2
 ·rw [if_pos q, if_pos q] at hl
  obtain ⟨e1, e2⟩ := ycut y y' (by omega) (by omega) (by omega) (by omega) _ _ hl
  obtain ⟨e3, e4⟩ := uniq (by simpa using nm) (by simpa using nm') e2
  exact ⟨itoa_inj y y' (by omega) (by omega) (by omega) (by omega) e1, itoa_inj m m' (by omega) (by omega) (by omega) (by omega) (List.cons.inj e3).2, itoa_inj d d' (by omega) (by omega) (by omega) (by omega) e4⟩
 ·rw [if_neg q, if_neg q] at hl
  obtain ⟨e1, e2⟩ := ycut y y' (by omega) (by omega) (by omega) (by omega) _ _ hl
  obtain ⟨e3, e4⟩ := uniq nm nm' e2
  exact ⟨itoa_inj y y' (by omega) (by omega) (by omega) (by omega) e1, itoa_inj m m' (by omega) (by omega) (by omega) (by omega) e3, itoa_inj d d' (by omega) (by omega) (by omega) (by omega) e4⟩
theorem dated (c a : Int) (hc : 0 ≤ c) (hc' : c ≤ 6) (ha : FunA.In a) : ∃ y m d, FunBk.PD c y m d = some (a, 0) ∧ trystref01_Text.f ShowPb.K c a = some (ShowTx.tx c y m d) ∧ -20000 ≤ y ∧ y ≤ 20000 ∧ (1 ≤ m ∧ m ≤ 60 ∧ 1 ≤ d ∧ d ≤ 60) := by
 obtain ⟨y, m, d, hR, hD⟩ := FunBk.there c a hc hc' ha
 obtain ⟨y', m', d', e0, hR', y1, y2, he, hm, _⟩ := ShowDt.date c a hc hc'
 have e := hR'.symm.trans hR
 simp only [Option.some.injEq, Prod.mk.injEq] at e
 obtain ⟨rfl, rfl, rfl, rfl⟩ := e
 exact ⟨y', m', d', hD, ShowTx.refYes c a y' m' d' hR y1 y2 (hm rfl), y1, y2, hm rfl⟩
theorem text_inj (c a a' : Int) (s : ByteArray) (hc : 0 ≤ c) (hc' : c ≤ 6) (ha : FunA.In a) (ha' : FunA.In a') (h : trystref01_Text.f ShowPb.K c a = some s) (h' : trystref01_Text.f ShowPb.K c a' = some s) : a = a' := by
 obtain ⟨y, m, d, p, t, y1, y2, hm⟩ := dated c a hc hc' ha
 obtain ⟨y', m', d', p', t', y1', y2', hm'⟩ := dated c a' hc hc' ha'
 obtain ⟨rfl, rfl, rfl⟩ := tx_inj c y m d y' m' d' (Option.some.inj ((t.symm.trans h).trans (h'.symm.trans t'))) y1 y2 hm y1' y2' hm'
 exact (Prod.mk.inj (Option.some.inj (p.symm.trans p'))).1
theorem parse1 (c : Int) (s : ByteArray) (hc : 0 ≤ c) (hc' : c ≤ 6) (hs : s.size ≤ 1000) : ∃ n e, ShowPb.Told c s n e ∧ (∀ a, FunA.In a → trystref01_Text.f ShowPb.K c a = some s → n = a ∧ e = 0) ∧ ∀ w, Pre w →
  Calls Tryz.prog 6 #[.int .i64 c, .string s] w fun e' w' => e' = .returned (.tuple #[.int .i64 n, .int .i64 e]) ∧ Below w.heap.size w w' := by
 by_cases q : ∃ a, FunA.In a ∧ trystref01_Text.f ShowPb.K c a = some s
 ·obtain ⟨a, h1, h2⟩ := q
  obtain ⟨s', g1, g2, g3⟩ := ShowPb.back c a hc hc' h1
  obtain rfl : s' = s := Option.some.inj (g1.symm.trans h2)
  exact ⟨a, 0, Or.inl ⟨rfl, h1, h2⟩, fun a' k1 k2 => ⟨text_inj c a a' _ hc hc' h1 k1 h2 k2, rfl⟩, g3⟩
 ·obtain ⟨n, e, h1, h2⟩ := ShowPb.parse c s hc hc' hs
  exact ⟨n, e, h1, fun a k1 k2 => absurd ⟨a, k1, k2⟩ q, h2⟩
open Classical in
noncomputable def pf (c : Int) (s : ByteArray) : Option (Int × Int) :=
 if h : 0 ≤ c ∧ c ≤ 6 ∧ s.size ≤ 1000 then some ((parse1 c s h.1 h.2.1 h.2.2).choose, (parse1 c s h.1 h.2.1 h.2.2).choose_spec.choose)
 else if ¬ (0 ≤ c ∧ c ≤ 6) then some (0, 1) else none
theorem pf_in (c : Int) (s : ByteArray) (h1 : 0 ≤ c) (h2 : c ≤ 6) (h3 : s.size ≤ 1000) : ∃ n e, pf c s = some (n, e) ∧ ShowPb.Told c s n e ∧ (∀ a, FunA.In a → trystref01_Text.f ShowPb.K c a = some s → n = a ∧ e = 0) ∧ ∀ w, Pre w →
  Calls Tryz.prog 6 #[.int .i64 c, .string s] w fun e' w' => e' = .returned (.tuple #[.int .i64 n, .int .i64 e]) ∧ Below w.heap.size w w' := by
 refine ⟨_, _, ?_, (parse1 c s h1 h2 h3).choose_spec.choose_spec⟩
 unfold pf
 rw [dif_pos ⟨h1, h2, h3⟩]
theorem pf_out (c : Int) (s : ByteArray) (h : ¬ (0 ≤ c ∧ c ≤ 6)) : pf c s = some (0, 1) := by
 unfold pf
 rw [dif_neg (fun z => h ⟨z.1, z.2.1⟩), if_pos h]
theorem walk (c : Int) (s : ByteArray) (r0 r1 : Int) (w : World) (h : pf c s = some (r0, r1)) (hp : Pre w) :
  Calls Tryz.prog 6 #[.int .i64 c, .string s] w fun e w' => e = .returned (.tuple #[.int .i64 r0, .int .i64 r1]) ∧ Below w.heap.size w w' := by
 by_cases q : 0 ≤ c ∧ c ≤ 6 ∧ s.size ≤ 1000
 ·obtain ⟨n, e, hf, _, _, hc⟩ := pf_in c s q.1 q.2.1 q.2.2
  rw [hf] at h
  simp only [Option.some.injEq, Prod.mk.injEq] at h
  obtain ⟨rfl, rfl⟩ := h
  exact hc w hp
 ·by_cases o : 0 ≤ c ∧ c ≤ 6
  ·unfold pf at h
   rw [dif_neg q, if_neg (by simpa using o)] at h
   cases h
  ·rw [pf_out c s o] at h
   simp only [Option.some.injEq, Prod.mk.injEq] at h
   obtain ⟨rfl, rfl⟩ := h
   exact parseArg c s w o
end Go.Proofs.YtgbbgcepcnklkaaGreatDoor.ShowPf
namespace Go.Proofs.YtgbbgcepcnklkaaGreatDoor.L
open Go.RowKit Go.Proofs.YtgbbgcepcnklkaaGreatDoorW.PrintWords Go.Proofs.YtgbbgcepcnklkaaGreatDoorW.PrintLast Go.Proofs.YtgbbgcepcnklkaaGreatDoorW.PrintMore
attribute [local go_sem] max2_int min2_int max_two min_two
set_option linter.unusedVariables false
set_option linter.unusedSimpArgs false
/-! ### trystlaw27_awake: function 5 -/
def trystlaw27_awake.f : Option Bool := some true
theorem trystlaw27_awake.calls (r : Bool) (w : World) (h : trystlaw27_awake.f = some r) (ht : ShowPs.Pre w) :
  Calls Tryz.prog 5 #[] w fun e w' => e = .returned (.bool r) ∧ Below w.heap.size w w' := by
 obtain rfl := Option.some.inj h
 exact ShowAw.awake w ht.tab

/-! ### show_Parse: function 6 -/
noncomputable def show_Parse.f (a0 : Int) (a1 : ByteArray) : Option (Int × Int) := ShowPf.pf a0 a1
theorem show_Parse.calls (a0 : Int) (a1 : ByteArray) (r0 r1 : Int) (w : World) (h : show_Parse.f a0 a1 = some (r0, r1)) (ht : ShowPs.Pre w) :
  Calls Tryz.prog 6 #[.int .i64 a0, .string a1] w fun e w' => e = .returned (.tuple #[.int .i64 r0, .int .i64 r1]) ∧ Below w.heap.size w w' :=
 ShowPf.walk a0 a1 r0 r1 w h ht

/-! ### trystref01_In: function 7 -/
abbrev trystref01_In.f (a0 : Int) : Option Bool := Go.Proofs.YtgbbgcepcnklkaaGreatDoor.Q.trystref01_In.f a0
theorem trystref01_In.calls (a0 : Int) (r : Bool) (w : World) (h : trystref01_In.f a0 = some r) :
  Calls Tryz.prog 7 #[.int .i64 a0] w fun e w' => e = .returned (.bool r) ∧ Drawn0 w w' :=
 Go.Proofs.YtgbbgcepcnklkaaGreatDoor.Q.trystref01_In.calls a0 r w h

/-! ### trystref01_Text: function 8 -/
def trystref01_Text.f (a0 a1 : Int) : Option ByteArray := Go.Proofs.YtgbbgcepcnklkaaGreatDoor.Q.trystref01_Text.f FunZ.K a0 a1
theorem trystref01_Text.calls (a0 a1 : Int) (r : ByteArray) (w : World) (h : trystref01_Text.f a0 a1 = some r) :
  Calls Tryz.prog 8 #[.int .i64 a0, .int .i64 a1] w fun e w' => e = .returned (.string r) ∧ Below w.heap.size w w' :=
 Go.Proofs.YtgbbgcepcnklkaaGreatDoor.Q.trystref01_Text.calls FunZ.K a0 a1 r w h

/-! ### trystlaw27_ShowParses: function 3 -/
mutual
noncomputable def trystlaw27_ShowParses.j0 : Nat → Int → ByteArray → Bool → Option (Bool)
 | 0, _, _, _ => none
 | k + 1, x0, x1, x13 => if x13 = true then ((trystlaw27_awake.f).bind fun t384 => (some t384)) else ((show_Parse.f x0 x1).bind fun bt385 => (if x0 < 0 then (trystlaw27_ShowParses.j1 k x0 x1 bt385.1 bt385.2 true) else (trystlaw27_ShowParses.j1 k x0 x1 bt385.1 bt385.2 (decide (x0 > 6)))))
noncomputable def trystlaw27_ShowParses.j1 : Nat → Int → ByteArray → Int → Int → Bool → Option (Bool)
 | 0, _, _, _, _, _ => none
 | k + 1, x0, x1, x5, x6, x26 => if x26 = true then (if x6 = 1 then (some (x5 == 0)) else (some false)) else (if x6 = 0 then ((trystref01_In.f x5).bind fun t387 => (if t387 = true then ((trystref01_Text.f x0 x5).bind fun t388 => (some (t388.toList == x1.toList))) else (some false))) else (if x6 = 7 then (some (x5 == 0)) else (some false)))
end
noncomputable def trystlaw27_ShowParses.f (k : Nat) (a0 : Int) (a1 : ByteArray) : Option (Bool) := (trystlaw27_awake.f).bind fun t383 => (if t383 = true then (trystlaw27_ShowParses.j0 k a0 a1 (decide ((a1.size : Int) > 200))) else (trystlaw27_ShowParses.j0 k a0 a1 true))
set_option maxHeartbeats 8000000 in
set_option maxRecDepth 100000 in
theorem trystlaw27_ShowParses.calls (k : Nat) (a0 : Int) (a1 : ByteArray) (r : Bool) (w : World) (h : trystlaw27_ShowParses.f k a0 a1 = some r) (ht : ShowPs.Pre w) :
  Calls Tryz.prog 3 #[.int .i64 a0, .string a1] w fun e w' => e = .returned (.bool r) ∧ Below w.heap.size w w' := by
 have TB_ := Aside0.mk ht
 clear ht
 have HB := Aside0.mk (Below.refl w.heap.size w)
 have H : ((trystlaw27_awake.f).bind fun t383 => (if t383 = true then (trystlaw27_ShowParses.j0 k a0 a1 (decide ((a1.size : Int) > 200))) else (trystlaw27_ShowParses.j0 k a0 a1 true))) = some r := h
 clear h
 have HC3 := Aside0.mk H
 clear H
 go_enter Tryz.func3, Tryz.ntmps3
 go_upto_region 1 with (fail)
 go_cut [13] (fun v13 wc => ∃ (kq : Nat) (x13_2 : Bool), v13 = .bool x13_2 ∧ Aside0 (trystlaw27_ShowParses.j0 kq a0 a1 x13_2 = some r) ∧ Aside0 (kq ≤ k) ∧ Aside0 (Below w.heap.size w wc))
 case first =>
  have H := HC3.out
  clear HC3
  replace H := Option.bind_eq_some_iff.mp H
  obtain ⟨t383, A40, H⟩ := H
  replace H : (if t383 = true then (trystlaw27_ShowParses.j0 k a0 a1 (decide ((a1.size : Int) > 200))) else (trystlaw27_ShowParses.j0 k a0 a1 true)) = some r := H
  have A4 := Aside0.mk A40
  clear A40
  by_cases c5 : t383 = true
  ·subst c5
   have H1 : (trystlaw27_ShowParses.j0 k a0 a1 (decide ((a1.size : Int) > 200))) = some r := by rw [if_pos rfl] at H; exact H
   clear H
   have H := H1
   clear H1
   have H' := Aside0.mk H
   clear H
   go_wp2_with (first | ((with_reducible refine gate_callee (f := 5) rfl ?_); refine gm_ (some 7) Tryz.func5 #[] ?_; (with_reducible refine (trystlaw27_awake.calls  true _ A4.out (ShowPs.Pre.below TB_.out (by repeat (first | (with_reducible first | exact HB.out | apply below_alloc | apply pw_below_drewN | apply below_drew1 | apply below_drew) | exact HB.out)))).mono ?_); rintro e w6 ⟨rfl, hb⟩; refine ⟨_, rfl, ?_⟩; have n0_ := Aside0.mk (below_step (by repeat (first | (with_reducible first | exact HB.out | apply below_alloc | apply pw_below_drewN | apply below_drew1) | exact HB.out)) hb); clear HB; have HB := n0_; clear n0_; (try clear hb); (try clear hb2); (try clear hk); (try clear hi)))
   go_meet
   case rel => exact ⟨_, (decide ((a1.size : Int) > 200)), (by first | rfl | (simp; done) | (simp [*]; done)), H', ⟨by first | omega | exact Nat.le_refl _⟩, ⟨by repeat (first | (with_reducible first | exact HB.out | apply below_alloc | apply pw_below_drewN | apply below_drew1) | exact HB.out)⟩⟩
  ·replace c5 := Bool.eq_false_iff.mpr c5
   subst c5
   have H1 : (trystlaw27_ShowParses.j0 k a0 a1 true) = some r := by rw [if_neg (show ¬ (false = true) by decide)] at H; exact H
   clear H
   have H := H1
   clear H1
   have H' := Aside0.mk H
   clear H
   go_wp2_with (first | ((with_reducible refine gate_callee (f := 5) rfl ?_); refine gm_ (some 7) Tryz.func5 #[] ?_; (with_reducible refine (trystlaw27_awake.calls  false _ A4.out (ShowPs.Pre.below TB_.out (by repeat (first | (with_reducible first | exact HB.out | apply below_alloc | apply pw_below_drewN | apply below_drew1 | apply below_drew) | exact HB.out)))).mono ?_); rintro e w7 ⟨rfl, hb⟩; refine ⟨_, rfl, ?_⟩; have n0_ := Aside0.mk (below_step (by repeat (first | (with_reducible first | exact HB.out | apply below_alloc | apply pw_below_drewN | apply below_drew1) | exact HB.out)) hb); clear HB; have HB := n0_; clear n0_; (try clear hb); (try clear hb2); (try clear hk); (try clear hi)))
   go_meet
   case rel => exact ⟨_, (true), (by first | rfl | (simp; done) | (simp [*]; done)), H', ⟨by first | omega | exact Nat.le_refl _⟩, ⟨by repeat (first | (with_reducible first | exact HB.out | apply below_alloc | apply pw_below_drewN | apply below_drew1) | exact HB.out)⟩⟩
 case rest =>
  clear HC3
  try clear p2
  try clear c3
  try clear c5
  obtain ⟨kq, x13_2, rfl, HA, HJ2, HB⟩ := hcut
  cases kq with
  | zero => exact absurd HA.out (by simp [trystlaw27_ShowParses.j0])
  | succ kj2 =>
   have H := HA.out
   clear HA
   simp only [trystlaw27_ShowParses.j0] at H
   by_cases c8 : x13_2 = true
   ·subst c8
    have H1 : ((trystlaw27_awake.f).bind fun t384 => (some t384)) = some r := by rw [if_pos rfl] at H; exact H
    clear H
    have H := H1
    clear H1
    replace H := Option.bind_eq_some_iff.mp H
    obtain ⟨t384, A90, H⟩ := H
    replace H : (some t384) = some r := H
    have A9 := Aside0.mk A90
    clear A90
    obtain rfl := Option.some.inj H
    go_wp2_with (first | ((with_reducible refine gate_callee (f := 5) rfl ?_); refine gm_ (some 14) Tryz.func5 #[] ?_; (with_reducible refine (trystlaw27_awake.calls  t384 _ A9.out (ShowPs.Pre.below TB_.out (by repeat (first | (with_reducible first | exact HB.out | apply below_alloc | apply pw_below_drewN | apply below_drew1 | apply below_drew) | exact HB.out)))).mono ?_); rintro e w10 ⟨rfl, hb⟩; refine ⟨_, rfl, ?_⟩; have n0_ := Aside0.mk (below_step (by repeat (first | (with_reducible first | exact HB.out | apply below_alloc | apply pw_below_drewN | apply below_drew1) | exact HB.out)) hb); clear HB; have HB := n0_; clear n0_; (try clear hb); (try clear hb2); (try clear hk); (try clear hi)))
    go_ret
    exact ⟨by first | rfl | (simp [*, errW_none, errW_some] <;> rfl), by repeat (first | (with_reducible first | exact HB.out | apply below_alloc | apply pw_below_drewN | apply below_drew1) | exact HB.out)⟩
   ·replace c8 := Bool.eq_false_iff.mpr c8
    subst c8
    have H1 : ((show_Parse.f a0 a1).bind fun bt385 => (if a0 < 0 then (trystlaw27_ShowParses.j1 kj2 a0 a1 bt385.1 bt385.2 true) else (trystlaw27_ShowParses.j1 kj2 a0 a1 bt385.1 bt385.2 (decide (a0 > 6))))) = some r := by rw [if_neg (show ¬ (false = true) by decide)] at H; exact H
    clear H
    have H := H1
    clear H1
    replace H := Option.bind_eq_some_iff.mp H
    obtain ⟨⟨t385, t386⟩, A110, H⟩ := H
    replace H : (if a0 < 0 then (trystlaw27_ShowParses.j1 kj2 a0 a1 t385 t386 true) else (trystlaw27_ShowParses.j1 kj2 a0 a1 t385 t386 (decide (a0 > 6)))) = some r := H
    have A11 := Aside0.mk A110
    clear A110
    have HC12 := Aside0.mk H
    clear H
    go_upto_region 4 with (first | ((with_reducible refine gate_callee (f := 6) rfl ?_); refine gm_ (some 18) Tryz.func6 #[.int .i64 a0, .string a1] ?_; (with_reducible refine (show_Parse.calls a0 a1 t385 t386 _ A11.out (ShowPs.Pre.below TB_.out (by repeat (first | (with_reducible first | exact HB.out | apply below_alloc | apply pw_below_drewN | apply below_drew1 | apply below_drew) | exact HB.out)))).mono ?_); rintro e w13 ⟨rfl, hb⟩; refine ⟨_, rfl, ?_⟩; have n0_ := Aside0.mk (below_step (by repeat (first | (with_reducible first | exact HB.out | apply below_alloc | apply pw_below_drewN | apply below_drew1) | exact HB.out)) hb); clear HB; have HB := n0_; clear n0_; (try clear hb); (try clear hb2); (try clear hk); (try clear hi)))
    (try simp only [Act.put, List.setIfInBounds_toArray, List.set_cons_zero, List.set_cons_succ])
    go_cut [26] (fun v26 wc => ∃ (kq : Nat) (x26_11 : Bool), v26 = .bool x26_11 ∧ Aside0 (trystlaw27_ShowParses.j1 kq a0 a1 t385 t386 x26_11 = some r) ∧ Aside0 (kq ≤ kj2) ∧ Aside0 (Below w.heap.size w wc))
    case first =>
     have H := HC12.out
     clear HC12
     by_cases c14 : a0 < 0
     ·rw [if_pos c14] at H
      have c14b0 : decide (a0 < 0) = true := decide_eq_true c14
      clear c14
      (first | rw [c14b0] | (simp only [i64_w, i32_w]; rw [c14b0]) | skip)
      have H' := Aside0.mk H
      clear H
      go_wp2
      go_meet
      case rel => exact ⟨_, (true), (by first | rfl | (simp; done) | (simp [*]; done)), H', ⟨by have := HJ2.out; first | omega | exact Nat.le_refl _⟩, ⟨by repeat (first | (with_reducible first | exact HB.out | apply below_alloc | apply pw_below_drewN | apply below_drew1) | exact HB.out)⟩⟩
     ·rw [if_neg c14] at H
      have c14b0 : decide (a0 < 0) = false := decide_eq_false c14
      clear c14
      (first | rw [c14b0] | (simp only [i64_w, i32_w]; rw [c14b0]) | skip)
      have H' := Aside0.mk H
      clear H
      go_wp2
      go_meet
      case rel => exact ⟨_, (decide (a0 > 6)), (by first | rfl | (simp; done) | (simp [*]; done)), H', ⟨by have := HJ2.out; first | omega | exact Nat.le_refl _⟩, ⟨by repeat (first | (with_reducible first | exact HB.out | apply below_alloc | apply pw_below_drewN | apply below_drew1) | exact HB.out)⟩⟩
    case rest =>
     clear HC12
     try clear c1
     try clear p2
     try clear c3
     try clear c5
     try clear c6
     try clear c8
     try clear c14
     try clear c14b0
     try clear p2
     obtain ⟨kq, x26_11, rfl, HA, HJ11, HB⟩ := hcut
     cases kq with
     | zero => exact absurd HA.out (by simp [trystlaw27_ShowParses.j1])
     | succ kj11 =>
      have H := HA.out
      clear HA
      simp only [trystlaw27_ShowParses.j1] at H
      by_cases c15 : x26_11 = true
      ·subst c15
       have H1 : (if t386 = 1 then (some (t385 == 0)) else (some false)) = some r := by rw [if_pos rfl] at H; exact H
       clear H
       have H := H1
       clear H1
       by_cases c16 : t386 = 1
       ·rw [if_pos c16] at H
        have c16b0 : (t386 == 1) = true := beq_iff_eq.mpr c16
        have c16b1 : (t386 != 1) = false := bne_eq_false_iff_eq.mpr c16
        clear c16
        obtain rfl := Option.some.inj H
        go_wp2
        go_ret
        exact ⟨by first | rfl | (simp [*, errW_none, errW_some] <;> rfl), by repeat (first | (with_reducible first | exact HB.out | apply below_alloc | apply pw_below_drewN | apply below_drew1) | exact HB.out)⟩
       ·rw [if_neg c16] at H
        have c16b0 : (t386 == 1) = false := beq_eq_false_iff_ne.mpr c16
        have c16b1 : (t386 != 1) = true := bne_iff_ne.mpr c16
        obtain rfl := Option.some.inj H
        go_wp2
        go_ret
        exact ⟨by first | rfl | (simp [*, errW_none, errW_some] <;> rfl), by repeat (first | (with_reducible first | exact HB.out | apply below_alloc | apply pw_below_drewN | apply below_drew1) | exact HB.out)⟩
      ·replace c15 := Bool.eq_false_iff.mpr c15
       subst c15
       have H1 : (if t386 = 0 then ((trystref01_In.f t385).bind fun t387 => (if t387 = true then ((trystref01_Text.f a0 t385).bind fun t388 => (some (t388.toList == a1.toList))) else (some false))) else (if t386 = 7 then (some (t385 == 0)) else (some false))) = some r := by rw [if_neg (show ¬ (false = true) by decide)] at H; exact H
       clear H
       have H := H1
       clear H1
       by_cases c17 : t386 = 0
       ·rw [if_pos c17] at H
        have c17b0 : (t386 == 0) = true := beq_iff_eq.mpr c17
        have c17b1 : (t386 != 0) = false := bne_eq_false_iff_eq.mpr c17
        clear c17
        replace H := Option.bind_eq_some_iff.mp H
        obtain ⟨t387, A180, H⟩ := H
        replace H : (if t387 = true then ((trystref01_Text.f a0 t385).bind fun t388 => (some (t388.toList == a1.toList))) else (some false)) = some r := H
        have A18 := Aside0.mk A180
        clear A180
        by_cases c19 : t387 = true
        ·subst c19
         have H1 : ((trystref01_Text.f a0 t385).bind fun t388 => (some (t388.toList == a1.toList))) = some r := by rw [if_pos rfl] at H; exact H
         clear H
         have H := H1
         clear H1
         replace H := Option.bind_eq_some_iff.mp H
         obtain ⟨t388, A200, H⟩ := H
         replace H : (some (t388.toList == a1.toList)) = some r := H
         have A20 := Aside0.mk A200
         clear A200
         obtain rfl := Option.some.inj H
         go_wp2_with (first | ((with_reducible refine gate_callee (f := 7) rfl ?_); refine gm_ (some 42) Tryz.func7 #[.int .i64 t385] ?_; (with_reducible refine (trystref01_In.calls t385 true _ A18.out).mono ?_); rintro e w' ⟨rfl, ⟨nd, rfl⟩⟩; refine ⟨_, rfl, ?_⟩) | (go_at_call 8; (with_reducible refine (trystref01_Text.calls a0 t385 t388 _ A20.out).mono ?_); rintro e w21 ⟨rfl, hb⟩; have n0_ := Aside0.mk (below_step (by repeat (first | (with_reducible first | exact HB.out | apply below_alloc | apply pw_below_drewN | apply below_drew1) | exact HB.out)) hb); clear HB; have HB := n0_; clear n0_; (try clear hb); (try clear hb2); (try clear hk); (try clear hi)))
         go_ret
         exact ⟨by first | rfl | (simp [*, errW_none, errW_some] <;> rfl), by repeat (first | (with_reducible first | exact HB.out | apply below_alloc | apply pw_below_drewN | apply below_drew1) | exact HB.out)⟩
        ·replace c19 := Bool.eq_false_iff.mpr c19
         subst c19
         have H1 : (some false) = some r := by rw [if_neg (show ¬ (false = true) by decide)] at H; exact H
         clear H
         have H := H1
         clear H1
         obtain rfl := Option.some.inj H
         go_wp2_with (first | ((with_reducible refine gate_callee (f := 7) rfl ?_); refine gm_ (some 42) Tryz.func7 #[.int .i64 t385] ?_; (with_reducible refine (trystref01_In.calls t385 false _ A18.out).mono ?_); rintro e w' ⟨rfl, ⟨nd, rfl⟩⟩; refine ⟨_, rfl, ?_⟩))
         go_ret
         exact ⟨by first | rfl | (simp [*, errW_none, errW_some] <;> rfl), by repeat (first | (with_reducible first | exact HB.out | apply below_alloc | apply pw_below_drewN | apply below_drew1) | exact HB.out)⟩
       ·rw [if_neg c17] at H
        have c17b0 : (t386 == 0) = false := beq_eq_false_iff_ne.mpr c17
        have c17b1 : (t386 != 0) = true := bne_iff_ne.mpr c17
        by_cases c22 : t386 = 7
        ·rw [if_pos c22] at H
         have c22b0 : (t386 == 7) = true := beq_iff_eq.mpr c22
         have c22b1 : (t386 != 7) = false := bne_eq_false_iff_eq.mpr c22
         clear c22
         obtain rfl := Option.some.inj H
         go_wp2
         go_ret
         exact ⟨by first | rfl | (simp [*, errW_none, errW_some] <;> rfl), by repeat (first | (with_reducible first | exact HB.out | apply below_alloc | apply pw_below_drewN | apply below_drew1) | exact HB.out)⟩
        ·rw [if_neg c22] at H
         have c22b0 : (t386 == 7) = false := beq_eq_false_iff_ne.mpr c22
         have c22b1 : (t386 != 7) = true := bne_iff_ne.mpr c22
         obtain rfl := Option.some.inj H
         go_wp2
         go_ret
         exact ⟨by first | rfl | (simp [*, errW_none, errW_some] <;> rfl), by repeat (first | (with_reducible first | exact HB.out | apply below_alloc | apply pw_below_drewN | apply below_drew1) | exact HB.out)⟩

end Go.Proofs.YtgbbgcepcnklkaaGreatDoor.L
/- Any text is read as a day that is shown so, or refused. -/
namespace Go.Proofs.YtgbbgcepcnklkaaGreatDoor.Pure
open Go.RowKit Go.Proofs.YtgbbgcepcnklkaaGreatDoorW.PrintWords Go.Proofs.YtgbbgcepcnklkaaGreatDoorW.PrintLast Go.Proofs.YtgbbgcepcnklkaaGreatDoor.L
set_option linter.unusedVariables false
set_option linter.unusedSimpArgs false
namespace ShowParsesW
theorem inYes {n : Int} (h : FunA.In n) : trystref01_In.f n = some true := by
 unfold trystref01_In.f Go.Proofs.YtgbbgcepcnklkaaGreatDoor.Q.trystref01_In.f
 obtain ⟨h1, h2⟩ := h
 rw [if_pos (by omega)]
 exact congrArg some (decide_eq_true (by omega))
theorem all (c : Int) (s : ByteArray) : trystlaw27_ShowParses.f 10 c s = some true := by
 unfold trystlaw27_ShowParses.f
 have aw : trystlaw27_awake.f = some true := rfl
 rw [aw, Option.bind_some, if_pos rfl, trystlaw27_ShowParses.j0]
 by_cases big : (s.size : Int) > 200
 ·rw [decide_eq_true big, if_pos rfl, aw]; rfl
 rw [decide_eq_false big, if_neg (by simp)]
 by_cases hc : 0 ≤ c ∧ c ≤ 6
 ·obtain ⟨n, e, h, hT, _⟩ := ShowPf.pf_in c s hc.1 hc.2 (by omega)
  have h' : show_Parse.f c s = some (n, e) := h
  rw [h', Option.bind_some, if_neg (by omega), decide_eq_false (by omega), trystlaw27_ShowParses.j1, if_neg (by simp)]
  rcases hT with ⟨rfl, h1, h2⟩ | ⟨rfl, rfl⟩
  ·have h2' : trystref01_Text.f c n = some s := h2
   rw [if_pos rfl, inYes h1, Option.bind_some, if_pos rfl, h2', Option.bind_some]
   exact congrArg some (beq_self_eq_true _)
  ·rw [if_neg (by omega), if_pos rfl]
   rfl
 ·have h' : show_Parse.f c s = some (0, 1) := ShowPf.pf_out c s hc
  rw [h', Option.bind_some]
  by_cases n : c < 0
  ·rw [if_pos n, trystlaw27_ShowParses.j1, if_pos rfl, if_pos rfl]; rfl
  ·rw [if_neg n, decide_eq_true (by omega), trystlaw27_ShowParses.j1, if_pos rfl, if_pos rfl]; rfl
end ShowParsesW
theorem ShowParses_calls (c : Int) (s : ByteArray) (w : World) (hp : ShowPs.Pre w) : Calls Tryz.prog 3 #[.int .i64 c, .string s] w fun e w' => e = .returned (.bool true) ∧ Below w.heap.size w w' :=
 trystlaw27_ShowParses.calls 10 c s true w (ShowParsesW.all c s) hp
end Go.Proofs.YtgbbgcepcnklkaaGreatDoor.Pure
/- From a contract to the lifted claim: a condition on the world besides, and the world's shape for whoever reads a variable of the library's own. -/
namespace Go.Proofs.YtgbbgcepcnklkaaGreatDoor.ShapeRow
variable {H : Type} {enc : TypeId × Value → H}
theorem wrap {a : Assume} {C : Checked} {os : Os} {f : FuncId} {fn : Func} {s : ChangeSpec} {conds : List PathCond} {apart fresh handsOn again : Bool} {X : World → Array Value → Prop}
  (hX : ∀ (w w' : World) (args : Array Value), w.heap = w'.heap → X w args → X w' args)
  (own : ownKnob C.prog.godebug = none) (started : os.Started) (noInit : C.prog.inits.idxOf? f = none) (hfn : C.prog.funcs[f]? = some fn)
  (witness : ∃ (w : World) (tape : Tape) (i : Input), w.os = os ∧ (w.forCall tape i).Shaped C.prog ∧ i.vars = [] ∧ Input.okWide C.prog (w.forCall tape i) .any w.heap.size f i ∧
   ((s.pre enc C.prog fn conds apart (w.forCall tape i).memory i.args ∧ X (w.forCall tape i).memory i.args) ∧ sizedMet enc C.prog fn (OpenSpec.ofChange s) apart (w.forCall tape i).memory i.args) ∧ a.holds C.prog (lone (Frame.enter C.prog f i.args .normal) [] (w.forCall tape i)))
  (contract : ∀ (W : World) (base : Nat) (args : Array Value) (ds gs : List (DataW H)) (before : List MemPlace),
   (∀ (j : Nat) t v, fn.params[j]? = some t → args[j]? = some v → Value.okWide C.prog W .any base t v) →
   DataW.Whole enc C.prog fn.params.toList s.vars apart W args.toList ds gs before → X W args → W.ShapedOpen C.prog →
   Calls C.prog f args W fun e W' => ∃ v, e = .returned v ∧ s.post enc C.prog fn apart fresh handsOn again W args v W') :
  ReturnsInHanded a C os f .any (fun w args => (s.pre enc C.prog fn conds apart w args ∧ X w args) ∧ sizedMet enc C.prog fn (OpenSpec.ofChange s) apart w args) (s.post enc C.prog fn apart fresh handsOn again) := by
 refine returnsInHanded_of_calls own started noInit witness ?_
 intro w tape i _ hsh _ hok hpre _
 obtain ⟨_, _, _, fn', hfn', _, _, _, _, hval⟩ := hok
 have e : fn' = fn := Option.some.inj (hfn'.symm.trans hfn)
 subst e
 obtain ⟨⟨⟨ds, gs, before, hw, _⟩, hx⟩, _⟩ := hpre
 refine (contract (w.forCall tape i) w.heap.size i.args ds gs before hval (DataW.Whole.of_heap (w' := w.forCall tape i) (by rfl) hw) (hX _ _ _ (by rfl) hx) hsh).mono fun e W' ⟨v, he, hp⟩ => ?_
 subst he
 exact ChangeSpec.post_blind hp
end Go.Proofs.YtgbbgcepcnklkaaGreatDoor.ShapeRow
