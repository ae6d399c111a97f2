/- For every string, Number returns the specified result: with no condition. -/
import Derived.Test.YthppkdbelmolbaaDoorBytes
import Derived.Test.YthppkdbelmolbaaDoorAwake12
import Derived.Lib.Hide
namespace Go.Proofs.YthppkdbelmolbaaDoor.Pure
open Go.RowKit Go.Proofs.YthppkdbelmolbaaDoorW.PrintWords Go.Proofs.YthppkdbelmolbaaDoorW.PrintLast Go.Proofs.YthppkdbelmolbaaDoor.Q Go.Proofs.YthppkdbelmolbaaDoor.Cal Go.Proofs.YthppkdbelmolbaaDoor.Bytes Go.Proofs.YthppkdbelmolbaaDoor.Awake12
set_option linter.unusedVariables false
set_option linter.unusedSimpArgs false
namespace ValueNumbersW
theorem plain (k : Nat) (hk : 40 ≤ k) (l d : List UInt8) (m : Bool) (hm : m = decide (d.length < l.length)) (r : Int × Int)
    (h : (if (d.length : Int) > 9 then (some (0, 7)) else ((value_digits.f k ⟨d.toArray⟩).bind fun b => (if b.2 = true then (if m = true then (some (wrap64 (-b.1), 0)) else (some (b.1, 0))) else (some (0, 7))))) = some r) (k1 : Nat) (hk1 : 20 ≤ k1) :
    trystref12_Plain.j1 k1 ⟨l.toArray⟩ ⟨d.toArray⟩ = some r := by
  obtain ⟨k1, rfl⟩ : ∃ j, k1 = j + 2 := ⟨k1 - 2, by omega⟩
  simp only [trystref12_Plain.j1, trystref12_Plain.j2, sz]
  by_cases c : (d.length : Int) > 9
  · rw [if_pos c] at h ⊢
    rw [if_pos trivial, h]
  · rw [if_neg c] at h ⊢
    rcases digits d (by omega) with ⟨v, h0, h1, hd, e⟩ | ⟨v, e⟩
    · rw [(e k (by omega)).1] at h
      rw [(e (k1 + 1) (by omega)).2, (e k1 (by omega)).2]
      simp only [Option.bind_some, if_true] at h ⊢
      rw [if_neg (by simp; omega)]
      by_cases cm : d.length < l.length
      · rw [if_pos (by omega)]
        rw [hm, decide_eq_true cm, if_pos rfl] at h
        exact h
      · rw [if_neg (by omega)]
        rw [hm, decide_eq_false cm, if_neg (by simp)] at h
        exact h
    · rw [(e k (by omega)).1] at h
      rw [(e (k1 + 1) (by omega)).2]
      simp only [Option.bind_some] at h ⊢
      rw [if_pos (by decide)]
      simpa using h
theorem num (k : Nat) (hk : 60 ≤ k) (l : List UInt8) : ∃ r e, value_Number.f k ⟨l.toArray⟩ = some (r, e) ∧ trystref12_Plain.f k ⟨l.toArray⟩ = some (r, e) := by
  obtain ⟨k, rfl⟩ : ∃ j, k = j + 1 := ⟨k - 1, by omega⟩
  have some' : ∀ (d : List UInt8) (m : Bool), ∃ r : Int × Int, (if (d.length : Int) > 9 then (some (0, 7)) else ((value_digits.f (k + 1) ⟨d.toArray⟩).bind fun b => (if b.2 = true then (if m = true then (some (wrap64 (-b.1), 0)) else (some (b.1, 0))) else (some (0, 7))))) = some r := by
    intro d m
    by_cases c : (d.length : Int) > 9
    · exact ⟨_, if_pos c⟩
    · rw [if_neg c]
      rcases digits d (by omega) with ⟨v, h0, h1, hd, e⟩ | ⟨v, e⟩
      · rw [(e (k + 1) (by omega)).1]
        cases m
        · exact ⟨_, rfl⟩
        · exact ⟨_, rfl⟩
      · rw [(e (k + 1) (by omega)).1]
        exact ⟨_, rfl⟩
  match l with
  | [] =>
    obtain ⟨r, hr⟩ := some' [] false
    refine ⟨r.1, r.2, ?_, ?_⟩
    · unfold value_Number.f
      rw [cut_nil]
      simp only [Option.bind_some, sz]
      exact hr
    · unfold trystref12_Plain.f
      rw [sz, if_neg (by simp)]
      simp only [trystref12_Plain.j0]
      rw [if_neg (by simp)]
      exact plain (k + 1) (by omega) [] [] false (by simp) r hr k (by omega)
  | b :: t =>
    by_cases c : b = 45
    · obtain ⟨r, hr⟩ := some' t true
      refine ⟨r.1, r.2, ?_, ?_⟩
      · unfold value_Number.f
        rw [cut_cons, if_pos c]
        simp only [Option.bind_some, sz]
        exact hr
      · unfold trystref12_Plain.f
        have hb : (bt ⟨(b :: t).toArray⟩ 0 == 45) = true := by
          rw [show (0 : Int) = ((0 : Nat) : Int) from rfl, btl _ 0 (by simp), c]
          rfl
        rw [sz, if_pos (by simp), if_pos (by simp), hb]
        simp only [trystref12_Plain.j0]
        rw [if_pos trivial, sz, if_pos (by simp; omega), ex]
        have e : List.drop 1 (List.take (b :: t).length (b :: t)) = t := by simp
        rw [e]
        exact plain (k + 1) (by omega) (b :: t) t true (by simp) r hr k (by omega)
    · obtain ⟨r, hr⟩ := some' (b :: t) false
      refine ⟨r.1, r.2, ?_, ?_⟩
      · unfold value_Number.f
        rw [cut_cons, if_neg c]
        simp only [Option.bind_some, sz]
        exact hr
      · unfold trystref12_Plain.f
        have hb : (bt ⟨(b :: t).toArray⟩ 0 == 45) = false := by
          rw [show (0 : Int) = ((0 : Nat) : Int) from rfl, btl _ 0 (by simp)]
          rw [beq_eq_false_iff_ne]
          intro h
          apply c
          apply UInt8.toNat_inj.mp
          show b.toNat = 45
          have h2 : ((b.toNat : Nat) : Int) = 45 := by simpa using h
          omega
        rw [sz, if_pos (by simp), if_pos (by simp), hb]
        simp only [trystref12_Plain.j0]
        rw [if_neg (by simp)]
        exact plain (k + 1) (by omega) (b :: t) (b :: t) false (by simp) r hr k (by omega)
set_option maxHeartbeats 4000000 in
theorem long (s : ByteArray) (w : World) (h : (200 : Int) < s.size) :
    Calls Tryd.prog 3 #[.string s] w fun e w' => e = .returned (.bool true) ∧ Below w.heap.size w w' := by
  have b0 : decide (200 < (s.size : Int)) = true := decide_eq_true h
  clear h
  go_enter Tryd.func3, Tryd.ntmps3
  go_wp2_with fail
  refine (awake _).mono ?_
  rintro e wA ⟨rfl, hA⟩
  have B := Lib.hid hA
  clear hA
  go_wp2_with fail
  refine (awake _).mono ?_
  rintro e w2 ⟨rfl, hB2⟩
  have B2 := Lib.hid (below_then B.out B.out.size hB2)
  clear hB2 B
  go_wp2
  go_ret
  exact ⟨rfl, by repeat (with_reducible first | exact B2.out | apply pw_below_drewN | apply below_alloc)⟩
set_option maxHeartbeats 4000000 in
theorem short (k : Nat) (s : ByteArray) (r e : Int) (w : World) (h : ¬ (200 : Int) < s.size) (hV : value_Number.f k s = some (r, e)) (hP : trystref12_Plain.f k s = some (r, e)) :
    Calls Tryd.prog 3 #[.string s] w fun e w' => e = .returned (.bool true) ∧ Below w.heap.size w w' := by
  have b0 : decide (200 < (s.size : Int)) = false := decide_eq_false h
  have HV := Lib.hid hV; have HP := Lib.hid hP
  clear h hV hP
  go_enter Tryd.func3, Tryd.ntmps3
  go_wp2_with fail
  refine (awake _).mono ?_
  rintro e wA ⟨rfl, hA⟩
  have B := Lib.hid hA
  clear hA
  go_wp2_with fail
  refine (value_Number.calls k s _ _ _ HV.out).mono ?_
  rintro e w' ⟨rfl, ⟨n1, rfl⟩⟩
  go_wp2_with fail
  refine (trystref12_Plain.calls k s _ _ _ HP.out).mono ?_
  rintro e w' ⟨rfl, ⟨n2, rfl⟩⟩
  go_wp2
  go_ret
  exact ⟨rfl, by repeat (with_reducible first | exact B.out | apply pw_below_drewN | apply below_alloc)⟩
end ValueNumbersW
theorem ValueNumbers_calls (s : ByteArray) (w : World) (wf : s.size ≤ maxLen) :
    Calls Tryd.prog 3 #[.string s] w fun e w' => e = .returned (.bool true) ∧ Below w.heap.size w w' := by
  by_cases h : (200 : Int) < s.size
  · exact ValueNumbersW.long s w h
  · obtain ⟨r, e, h1, h2⟩ := ValueNumbersW.num 200 (by omega) s.data.toList
    rw [← ofL] at h1 h2
    exact ValueNumbersW.short 200 s r e w h h1 h2
end Go.Proofs.YthppkdbelmolbaaDoor.Pure
