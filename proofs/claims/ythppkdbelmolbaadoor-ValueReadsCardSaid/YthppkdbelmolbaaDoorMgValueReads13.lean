/- Texts of this claim, merged: PureValueReads. -/
import Derived.Test.YthppkdbelmolbaaDoorMgValueReads11
import Derived.Test.YthppkdbelmolbaaDoorMgValueReads12
/- For every string, ParseTime returns the specified result: with no condition. -/
namespace Go.Proofs.YthppkdbelmolbaaDoor.Pure
open Go.RowKit Go.Proofs.YthppkdbelmolbaaDoorW.PrintWords Go.Proofs.YthppkdbelmolbaaDoorW.PrintLast Go.Proofs.YthppkdbelmolbaaDoor.Q Go.Proofs.YthppkdbelmolbaaDoor.Cal Go.Proofs.YthppkdbelmolbaaDoor.FunA Go.Proofs.YthppkdbelmolbaaDoor.FunB Go.Proofs.YthppkdbelmolbaaDoor.FunC Go.Proofs.YthppkdbelmolbaaDoor.FunE Go.Proofs.YthppkdbelmolbaaDoor.Fmt Go.Proofs.YthppkdbelmolbaaDoor.Awake7 Go.Proofs.YthppkdbelmolbaaDoor.FunQ Go.Proofs.YthppkdbelmolbaaDoor.FunP Go.Proofs.YthppkdbelmolbaaDoor.Secs Go.Proofs.YthppkdbelmolbaaDoor.Zone
set_option linter.unusedVariables false
set_option linter.unusedSimpArgs false
namespace ReadsW
theorem upP {k k' : Nat} (h : k ≤ k') {s : ByteArray} {r} (e : clock_Parse.f k s = some r) : clock_Parse.f k' s = some r := at_rounds (clock_Parse.mono s) h e
theorem upS {k k' : Nat} (h : k ≤ k') {s : ByteArray} {r} (e : trystref12_seconds.f k s = some r) : trystref12_seconds.f k' s = some r := at_rounds (trystref12_seconds.mono s) h e
theorem upD {k k' : Nat} (h : k ≤ k') {s : ByteArray} {r} (e : clock_ParseDate.f k s = some r) : clock_ParseDate.f k' s = some r := at_rounds (clock_ParseDate.mono s) h e
/-- Both readings of seconds, whatever the rounds from 100 on. -/
theorem both (l : List UInt8) : (∃ n, 0 ≤ n ∧ (∀ k, 100 ≤ k → clock_Parse.f k ⟨l.toArray⟩ = some (n, 0)) ∧ ∀ k, 100 ≤ k → trystref12_seconds.f k ⟨l.toArray⟩ = some n) ∨
    ((∀ k, 100 ≤ k → clock_Parse.f k ⟨l.toArray⟩ = some (0, 7)) ∧ ∀ k, 100 ≤ k → trystref12_seconds.f k ⟨l.toArray⟩ = some (-1)) := by
  rcases secs 99 (by omega) l with ⟨n, h0, h1, h2⟩ | ⟨h1, h2⟩
  · exact Or.inl ⟨n, h0, fun k hk => upP (by omega) h1, fun k hk => upS (by omega) h2⟩
  · exact Or.inr ⟨fun k hk => upP (by omega) h1, fun k hk => upS (by omega) h2⟩
theorem secOf (l : List UInt8) (D : Int) (j : Nat) (hj : 100 ≤ j) (h : clock_Parse.f j ⟨l.toArray⟩ = some (D, 0)) : ∀ k, 100 ≤ k → trystref12_seconds.f k ⟨l.toArray⟩ = some D := by
  rcases both l with ⟨n, h0, h2, h3⟩ | ⟨h2, h3⟩
  · have e := congrArg Prod.fst (Option.some.inj ((h2 j hj).symm.trans h))
    simp only at e
    subst e
    exact h3
  · have e := congrArg Prod.snd (Option.some.inj ((h2 j hj).symm.trans h))
    simp at e
theorem secNo (l : List UInt8) (j : Nat) (hj : 100 ≤ j) (h : clock_Parse.f j ⟨l.toArray⟩ = some (0, 7)) : ∀ k, 100 ≤ k → trystref12_seconds.f k ⟨l.toArray⟩ = some (-1) := by
  rcases both l with ⟨n, h0, h2, h3⟩ | ⟨h2, h3⟩
  · have e := congrArg Prod.snd (Option.some.inj ((h2 j hj).symm.trans h))
    simp at e
  · exact h3
theorem pjdef (k : Nat) (b0 b1 b2 b3 b4 b5 b6 b7 : UInt8) : clock_Parse.f k ⟨[b0, b1, b2, b3, b4, b5, b6, b7, 84, 48, 48, 48, 48, 48, 48].toArray⟩ = clock_Parse.j0 k ⟨[b0, b1, b2, b3, b4, b5, b6, b7, 84, 48, 48, 48, 48, 48, 48].toArray⟩ false := by
  unfold clock_Parse.f
  have hb : (bt ⟨[b0, b1, b2, b3, b4, b5, b6, b7, 84, 48, 48, 48, 48, 48, 48].toArray⟩ 8 != 84) = false := by
    rw [show (8 : Int) = ((8 : Nat) : Int) from rfl, btl _ 8 (by simp)]
    rfl
  rw [hb, sz, if_pos (by simp), if_pos (by simp)]
set_option maxHeartbeats 1000000 in
/-- Eight signs as a date, and with a time of nothing behind them. -/
theorem dates (l : List UInt8) (hl : l.length = 8) : (∃ n, 1 ≤ n ∧ n ≤ 3652059 ∧ (∀ k, 100 ≤ k → clock_ParseDate.f k ⟨l.toArray⟩ = some (n, 0)) ∧ ∀ k, 100 ≤ k → trystref12_seconds.f k ⟨(l ++ [84, 48, 48, 48, 48, 48, 48]).toArray⟩ = some (86400 * n)) ∨
    ((∀ k, 100 ≤ k → clock_ParseDate.f k ⟨l.toArray⟩ = some (0, 7)) ∧ ∀ k, 100 ≤ k → trystref12_seconds.f k ⟨(l ++ [84, 48, 48, 48, 48, 48, 48]).toArray⟩ = some (-1)) := by
  obtain ⟨b0, b1, b2, b3, b4, b5, b6, b7, rfl⟩ := list8 l hl
  have hp := pd8 99 (by omega) b0 b1 b2 b3 b4 b5 b6 b7
  have d48 : Dig 48 := by decide
  have v48 : dv 48 = 0 := by decide
  have hj := fun n e (h : clock_ParseDate.f 99 ⟨[b0, b1, b2, b3, b4, b5, b6, b7].toArray⟩ = some (n, e)) (hn : e = 0 → In n) => pj 99 (by omega) b0 b1 b2 b3 b4 b5 b6 b7 84 48 48 48 48 48 48 n e h hn
  have hf := pjdef (99 + 1) b0 b1 b2 b3 b4 b5 b6 b7
  by_cases c : ((Dig b0 ∧ Dig b1 ∧ Dig b2 ∧ Dig b3) ∧ (Dig b4 ∧ Dig b5) ∧ (Dig b6 ∧ Dig b7) ∧ Right (1000 * dv b0 + 100 * dv b1 + 10 * dv b2 + dv b3) (10 * dv b4 + dv b5) (10 * dv b6 + dv b7))
  · rw [if_pos c] at hp
    have hi := right_in c.2.2.2
    generalize ah (1000 * dv b0 + 100 * dv b1 + 10 * dv b2 + dv b3) + cum (lp (1000 * dv b0 + 100 * dv b1 + 10 * dv b2 + dv b3)) (10 * dv b4 + dv b5) + (10 * dv b6 + dv b7) = day at hp hi
    have h1 := hj _ _ hp (fun _ => hi)
    rw [v48, if_pos ⟨rfl, ⟨d48, d48⟩, ⟨d48, d48⟩, ⟨d48, d48⟩, by omega, by omega, by omega⟩] at h1
    left
    refine ⟨day, hi.1, hi.2, fun k hk => upD (by omega) hp, fun k hk => ?_⟩
    simp only [List.cons_append, List.nil_append]
    rw [secOf _ _ (99 + 1) (by omega) (hf.trans h1) k hk]
    exact congrArg some (by omega)
  · rw [if_neg c] at hp
    have h1 := hj _ _ hp (by omega)
    rw [if_neg (by omega)] at h1
    right
    refine ⟨fun k hk => upD (by omega) hp, ?_⟩
    simp only [List.cons_append, List.nil_append]
    exact secNo _ (99 + 1) (by omega) (hf.trans h1)
theorem suffix_nil : strings_HasSuffix.f ⟨([] : List UInt8).toArray⟩ (⟨#[90]⟩ : ByteArray) = some false := by
  unfold strings_HasSuffix.f stringslite_HasSuffix.f
  rw [if_neg (by decide)]
  rfl
theorem suffix (l : List UInt8) (c : UInt8) (hl : (l ++ [c]).length ≤ 9223372036854775807) : strings_HasSuffix.f ⟨(l ++ [c]).toArray⟩ (⟨#[90]⟩ : ByteArray) = some (c == 90) := by
  have hs : (l ++ [c]).length = l.length + 1 := by simp
  have h1 : (⟨#[90]⟩ : ByteArray).size = 1 := rfl
  unfold strings_HasSuffix.f stringslite_HasSuffix.f
  rw [sz, h1, if_pos (by omega), w64 (by omega) (by omega), if_pos (by omega), if_pos (by omega), Option.bind_some]
  congr 1
  have e : (((l ++ [c]).length : Int) - ((1 : Nat) : Int)).toNat = l.length := by omega
  rw [e, ex, hs, tl, tl, List.take_of_length_le (by rw [hs]; omega), List.drop_left]
  simp
theorem lastbt (l : List UInt8) (c : UInt8) : bt ⟨(l ++ [c]).toArray⟩ (l.length : Int) = ((c.toNat : Nat) : Int) := by
  rw [btl (l ++ [c]) l.length (by simp)]
  simp
theorem eq90 (c : UInt8) : ((((c.toNat : Nat) : Int)) == 90) = (c == 90) := by
  rw [Bool.eq_iff_iff, beq_iff_eq, beq_iff_eq]
  constructor
  · intro h
    apply UInt8.toNat_inj.mp
    show c.toNat = 90
    omega
  · rintro rfl
    rfl
set_option maxHeartbeats 2000000 in
/-- One answer of both. -/
theorem parse (k : Nat) (l z : List UInt8) (date : Bool) (hl : l.length ≤ 9223372036854775807) (hz : z.length ≤ 9223372036854775807) (hk : 200 + z.length ≤ k) :
    ∃ r, value_ParseTime.f k ⟨l.toArray⟩ ⟨z.toArray⟩ date = some r ∧ trystref12_ParseTime.f k ⟨l.toArray⟩ ⟨z.toArray⟩ date = some r := by
  obtain ⟨k, rfl⟩ : ∃ m, k = m + 4 := ⟨k - 4, by omega⟩
  unfold value_ParseTime.f trystref12_ParseTime.f
  have T := fun (l : List UInt8) => both l
  by_cases cz : z = []
  · subst cz
    cases date
    · rcases List.eq_nil_or_concat l with rfl | ⟨l', c, rfl⟩
      · simp only [value_ParseTime.j0, trystref12_ParseTime.j0, trystref12_ParseTime.j1, Bool.false_eq_true, if_false, if_true, eq_self, tl, sz, suffix_nil, Option.bind_some, List.length_nil]
        rw [if_neg (by omega)]
        simp only [trystref12_ParseTime.j2, Bool.false_eq_true, if_false]
        rcases T [] with ⟨n, h0, h1, h2⟩ | ⟨h1, h2⟩
        · rw [h1 _ (by omega), h2 _ (by omega)]
          simp only [Option.bind_some, if_true, eq_self]
          rw [if_neg (by omega)]
          exact ⟨_, rfl, rfl⟩
        · rw [h1 _ (by omega), h2 _ (by omega)]
          simp only [Option.bind_some]
          rw [if_neg (by decide), if_pos (by omega)]
          exact ⟨_, rfl, rfl⟩
      · rw [List.concat_eq_append] at hl ⊢
        have hs : (l' ++ [c]).length = l'.length + 1 := by simp
        have e : wrap64 (((l' ++ [c]).length : Nat) - 1 : Int) = ((l'.length : Nat) : Int) := by rw [w64 (by omega) (by omega)]; omega
        have en : ((l'.length : Nat) : Int).toNat = l'.length := by omega
        simp only [value_ParseTime.j0, trystref12_ParseTime.j0, trystref12_ParseTime.j1, Bool.false_eq_true, if_false, if_true, eq_self, tl, sz, suffix l' c hl, Option.bind_some, e, lastbt, eq90, en, ex, List.drop_zero, List.take_left]
        rw [if_pos (show ((((l' ++ [c]).length : Nat) : Int)) > 0 by omega), if_pos (show (0 : Int) ≤ ((l'.length : Nat) : Int) by omega), if_pos (show ((l'.length : Nat) : Int) ≤ (((l' ++ [c]).length : Nat) : Int) by omega), if_pos (show (0 : Int) ≤ ((l'.length : Nat) : Int) by omega), if_pos (show ((l'.length : Nat) : Int) < (((l' ++ [c]).length : Nat) : Int) by omega)]
        simp only [trystref12_ParseTime.j2, sz, e, en, ex, List.drop_zero, List.take_left]
        by_cases c9 : (c == 90) = true
        · rw [if_pos c9, if_pos c9, if_pos (show (0 : Int) ≤ ((l'.length : Nat) : Int) by omega), if_pos (show ((l'.length : Nat) : Int) ≤ (((l' ++ [c]).length : Nat) : Int) by omega)]
          rcases T l' with ⟨n, h0, h1, h2⟩ | ⟨h1, h2⟩
          · rw [h1 _ (by omega), h2 _ (by omega)]
            simp only [Option.bind_some, if_true, eq_self]
            rw [if_neg (by omega)]
            exact ⟨_, rfl, rfl⟩
          · rw [h1 _ (by omega), h2 _ (by omega)]
            simp only [Option.bind_some]
            rw [if_neg (by decide), if_pos (by omega)]
            exact ⟨_, rfl, rfl⟩
        · rw [if_neg c9, if_neg c9]
          rcases T (l' ++ [c]) with ⟨n, h0, h1, h2⟩ | ⟨h1, h2⟩
          · rw [h1 _ (by omega), h2 _ (by omega)]
            simp only [Option.bind_some, if_true, eq_self]
            rw [if_neg (by omega)]
            exact ⟨_, rfl, rfl⟩
          · rw [h1 _ (by omega), h2 _ (by omega)]
            simp only [Option.bind_some]
            rw [if_neg (by decide), if_pos (by omega)]
            exact ⟨_, rfl, rfl⟩
    · simp only [value_ParseTime.j0, trystref12_ParseTime.j0, trystref12_ParseTime.j1, Bool.false_eq_true, if_false, if_true, eq_self, tl, sz, value_date.f]
      by_cases c8 : l.length = 8
      · have e8 : ((((l.length : Nat) : Int)) == 8) = true := by rw [c8]; rfl
        have ea : (⟨l.toArray⟩ : ByteArray) ++ (⟨#[84, 48, 48, 48, 48, 48, 48]⟩ : ByteArray) = ⟨(l ++ [84, 48, 48, 48, 48, 48, 48]).toArray⟩ := by
          apply ByteArray.ext
          simp
        rw [e8, ea]
        simp only [if_true, eq_self]
        rw [if_pos (by omega)]
        rcases dates l c8 with ⟨n, h0, h1, h2, h3⟩ | ⟨h1, h2⟩
        · rw [h2 _ (by omega), h3 _ (by omega)]
          simp only [Option.bind_some, if_true, eq_self]
          rw [cAt_yes ⟨h0, h1⟩ (by omega) (by omega), if_neg (by omega)]
          simp only [Option.bind_some]
          rw [Int.add_zero]
          exact ⟨_, rfl, rfl⟩
        · rw [h1 _ (by omega), h2 _ (by omega)]
          simp only [Option.bind_some]
          rw [if_neg (by decide), if_pos (by omega)]
          exact ⟨_, rfl, rfl⟩
      · have e8 : ((((l.length : Nat) : Int)) == 8) = false := by rw [beq_eq_false_iff_ne]; omega
        rw [e8]
        simp only [Bool.false_eq_true, if_false]
        unfold clock_ParseDate.f
        rw [sz, if_neg (by omega), Option.bind_some]
        simp only []
        rw [if_neg (by decide)]
        exact ⟨_, rfl, rfl⟩
  · rw [tl, if_neg cz, if_neg cz]
    cases date
    · simp only [Bool.false_eq_true, if_false]
      obtain ⟨b, hb⟩ := zone z (by omega)
      obtain ⟨hb1, hb2⟩ := hb (k + 4) (by omega)
      rw [hb1, hb2, Option.bind_some, Option.bind_some]
      cases b
      · simp only [value_ParseTime.j0, trystref12_ParseTime.j0, Bool.not_false, if_true, eq_self]
        exact ⟨_, rfl, rfl⟩
      · simp only [value_ParseTime.j0, trystref12_ParseTime.j0, trystref12_ParseTime.j1, Bool.not_true, Bool.false_eq_true, if_false, tl]
        rw [if_neg cz, if_neg cz]
        rcases T l with ⟨n, h0, h1, h2⟩ | ⟨h1, h2⟩
        · rw [h1 _ (by omega), h2 _ (by omega)]
          simp only [Option.bind_some, if_true, eq_self]
          rw [if_neg (by omega)]
          exact ⟨_, rfl, rfl⟩
        · rw [h1 _ (by omega), h2 _ (by omega)]
          simp only [Option.bind_some]
          rw [if_neg (by decide), if_pos (by omega)]
          exact ⟨_, rfl, rfl⟩
    · simp only [if_true, eq_self, value_ParseTime.j0, trystref12_ParseTime.j0]
      exact ⟨_, rfl, rfl⟩
end ReadsW
theorem ValueReads (a0 a1 : ByteArray) (a2 : Bool) (h0 : a0.size ≤ 9223372036854775807) (h1 : a1.size ≤ 9223372036854775807) : ∃ k, trystlaw12_ValueReads.f k a0 a1 a2 = some true := by
  obtain ⟨r, hr, hs⟩ := ReadsW.parse (200 + a1.data.toList.length) a0.data.toList a1.data.toList a2 (by rw [← sz, ← ofL]; exact h0) (by rw [← sz, ← ofL]; exact h1) (by omega)
  rw [← ofL, ← ofL] at hr hs
  refine ⟨200 + a1.data.toList.length, ?_⟩
  unfold trystlaw12_ValueReads.f
  rw [hr, hs]
  simp [trystlaw12_awake.f]
theorem ValueReads_calls (s z : ByteArray) (b : Bool) (w : World) (ws : s.size ≤ maxLen) (wz : z.size ≤ maxLen) :
    Calls Tryd.prog 5 #[.string s, .string z, .bool b] w fun e w' => e = .returned (.bool true) ∧ Below w.heap.size w w' := by
  obtain ⟨k, hk⟩ := ValueReads s z b ws wz
  exact trystlaw12_ValueReads.calls k s z b true w hk
end Go.Proofs.YthppkdbelmolbaaDoor.Pure
