/- Texts of this claim, merged: LinR, Mtrystlaw18text. -/
import Derived.Test.YtddoidcbpcmlaaaDoorMgEventForms32
import Derived.Test.YtddoidcbpcmlaaaDoorMgEventForms35
import Derived.Test.YtddoidcbpcmlaaaDoorMgEventForms17
import Derived.Test.YtddoidcbpcmlaaaDoorMgEventForms13
import Derived.Test.YtddoidcbpcmlaaaDoorMgEventForms31
/- trystref08.Formed tells what line.Formed tells. (By hand.) -/
namespace Go.Proofs.YtddoidcbpcmlaaaDoor.LinR
open Go.RowKit Go.Proofs.YtddoidcbpcmlaaaDoorW.PrintWords Go.Proofs.YtddoidcbpcmlaaaDoorW.PrintLast Go.Proofs.YtddoidcbpcmlaaaDoor.M Go.Proofs.YtddoidcbpcmlaaaDoor.Cln Go.Proofs.YtddoidcbpcmlaaaDoor.LinN Go.Proofs.YtddoidcbpcmlaaaDoor.LinF Go.Proofs.YtddoidcbpcmlaaaDoor.LinG
open Go.Proofs.YtddoidcbpcmlaaaDoor.FewL (DL DP thL thP)
set_option linter.unusedVariables false
set_option linter.unusedSimpArgs false
/-- For all k from some on. -/
def Evt (f : Nat → Option Bool) (r : Bool) : Prop := ∃ K, ∀ k, K ≤ k → f k = some r
theorem Evt.step {f g : Nat → Option Bool} {r : Bool} (h : ∀ k, g (k + 1) = f k) (e : Evt f r) : Evt g r := by
 obtain ⟨K, e⟩ := e
 refine ⟨K + 1, fun k hk => ?_⟩
 obtain ⟨q, rfl⟩ : ∃ q, k = q + 1 := ⟨k - 1, by omega⟩
 rw [h]
 exact e q (by omega)
theorem Evt.const {g : Nat → Option Bool} {r : Bool} (h : ∀ k, g (k + 1) = some r) : Evt g r := ⟨1, fun k hk => by obtain ⟨q, rfl⟩ : ∃ q, k = q + 1 := ⟨k - 1, by omega⟩; exact h q⟩
/-- The sizes of a line's texts are such as memory has. -/
def SzD (x : DL) : Prop := x.f0.size ≤ 140737488355328 ∧ x.f2.size ≤ 140737488355328 ∧ ∀ p ∈ x.f1, p.f0.size ≤ 140737488355328 ∧ ∀ v ∈ p.f1, v.size ≤ 140737488355328
theorem rdD (x : DL) (i : Nat) (hi : i < x.f1.length) : rd_T72 x.f1 (i : Int) = x.f1[i] := by simp [rd_T72, hi]
theorem rdL (x : DL) (i : Nat) (hi : i < x.f1.length) : rd_T79 (thL x).f1 (i : Int) = thP x.f1[i] := by simp [rd_T79, thL, hi]
theorem j2_eq (k : Nat) (x3 x25 x26 : Int) (x49 : Bool) (a b' : ByteArray) (l : List DP) (c : ByteArray) (vs : List ByteArray) : trystref08_Formed.j2 (k + 1) x3 x25 x26 x49 a l b' c vs = if x49 = true then some false else trystref08_Formed.l1 k x25 x26 x3 0 a l b' c vs := by first | rfl | (simp only [trystref08_Formed.j2])
section
variable (x : DL) (hl : x.f1.length ≤ 60)
include hl
/-- The earlier names. -/
theorem names (i : Nat) (hi : i < x.f1.length) (r : Bool) (next : dup (thL x).f1 i x.f1[i].f0 = false → Evt (fun k => trystref08_Formed.l2 k (x.f1.length : Int) (i : Int) (x.f1[i].f1.length : Int) 0 x.f0 x.f1 x.f2 x.f1[i].f0 x.f1[i].f1) r) :
  ∀ q j : Nat, j + q = i → (∀ m : Nat, m < j → ∀ h : m < x.f1.length, (x.f1[m].f0.toList == x.f1[i].f0.toList) = false) →
   Evt (fun k => trystref08_Formed.l1 k (x.f1.length : Int) (i : Int) (i : Int) (j : Int) x.f0 x.f1 x.f2 x.f1[i].f0 x.f1[i].f1) (!dup (thL x).f1 i x.f1[i].f0 && r) := by
 intro q
 induction q with
 | zero =>
  intro j h hu
  have e : dup (thL x).f1 i x.f1[i].f0 = false := by
   unfold dup
   rw [List.any_eq_false]
   intro p hp
   obtain ⟨m, hm, rfl⟩ := List.getElem_of_mem hp
   have hm2 : m < i ∧ m < x.f1.length := by simp [thL] at hm; omega
   have := hu m (by omega) hm2.2
   simpa [thL, thP] using this
  have nx := next e
  rw [e, Bool.not_false, Bool.true_and]
  refine Evt.step (fun k => ?_) nx
  conv => lhs; unfold trystref08_Formed.l1
  rw [if_neg (by omega)]
 | succ q ih =>
  intro j h hu
  have hj : j < x.f1.length := by omega
  have e1 : wrap64 ((j : Int) + 1) = ((j + 1 : Nat) : Int) := by unfold wrap64; omega
  by_cases hc : x.f1[j].f0.toList = x.f1[i].f0.toList
  ·have e : dup (thL x).f1 i x.f1[i].f0 = true := by
    unfold dup
    rw [List.any_eq_true]
    refine ⟨thP x.f1[j], ?_, by simpa [thP] using hc⟩
    rw [List.mem_iff_getElem]
    exact ⟨j, by simp [thL]; omega, by simp [thL]⟩
   rw [e]
   refine Evt.const fun k => ?_
   unfold trystref08_Formed.l1
   rw [if_pos (by omega), if_pos (by omega), if_pos (by omega), rdD x j hj, if_pos hc]
   rfl
  ·refine Evt.step (fun k => ?_) (ih (j + 1) (by omega) (fun m hm h => by
    by_cases e : m = j
    ·subst e; simpa using hc
    ·exact hu m (by omega) h))
   conv => lhs; unfold trystref08_Formed.l1
   rw [if_pos (by omega), if_pos (by omega), if_pos (by omega), rdD x j hj, if_neg hc, e1]
variable (hs : SzD x)
include hs
/-- A parameter's values, then what comes behind. -/
theorem vals (i : Nat) (hi : i < x.f1.length) (hn : x.f1[i].f1.length ≤ 60) (r : Bool) (next : (x.f1[i].f1.all fun v => clF v true == 0) = true → Evt (fun k => trystref08_Formed.l0 k (x.f1.length : Int) ((i + 1 : Nat) : Int) x.f0 x.f1 x.f2) r) :
  ∀ q j : Nat, j + q = x.f1[i].f1.length → (∀ m : Nat, m < j → ∀ h : m < x.f1[i].f1.length, clF x.f1[i].f1[m] true = 0) →
   Evt (fun k => trystref08_Formed.l2 k (x.f1.length : Int) (i : Int) (x.f1[i].f1.length : Int) (j : Int) x.f0 x.f1 x.f2 x.f1[i].f0 x.f1[i].f1) ((x.f1[i].f1.all fun v => clF v true == 0) && r) := by
 intro q
 induction q with
 | zero =>
  intro j h hu
  have e : (x.f1[i].f1.all fun v => clF v true == 0) = true := List.all_eq_true.2 fun v hv => by
   obtain ⟨m, hm, rfl⟩ := List.getElem_of_mem hv
   simpa using hu m (by omega) hm
  have nx := next e
  rw [e, Bool.true_and]
  refine Evt.step (fun k => ?_) nx
  have e1 : wrap64 ((i : Int) + 1) = ((i + 1 : Nat) : Int) := by unfold wrap64; omega
  conv => lhs; unfold trystref08_Formed.l2
  rw [if_neg (by omega), e1]
 | succ q ih =>
  intro j h hu
  have hj : j < x.f1[i].f1.length := by omega
  have e1 : wrap64 ((j : Int) + 1) = ((j + 1 : Nat) : Int) := by unfold wrap64; omega
  have er : rdOf ByteArray.empty x.f1[i].f1 (j : Int) = x.f1[i].f1[j] := by simp [rdOf, hj]
  have hsz := (hs.2.2 _ (List.getElem_mem hi)).2 _ (List.getElem_mem hj)
  by_cases hc : clF x.f1[i].f1[j] true = 0
  ·obtain ⟨K, hK⟩ := ih (j + 1) (by omega) (fun m hm h => by
    by_cases e : m = j
    ·subst e; exact hc
    ·exact hu m (by omega) h)
   refine ⟨K + x.f1[i].f1[j].size + 10, fun k hk => ?_⟩
   obtain ⟨n, rfl⟩ : ∃ n, k = n + 1 := ⟨k - 1, by omega⟩
   show trystref08_Formed.l2 (n + 1) _ _ _ _ _ _ _ _ _ = _
   unfold trystref08_Formed.l2
   rw [if_pos (by omega), if_pos (by omega), if_pos (by omega), er, ref _ true hsz n (by omega), Option.bind_some, if_pos hc, e1]
   exact hK n (by omega)
  ·have e : (x.f1[i].f1.all fun v => clF v true == 0) = false := by
    cases z : x.f1[i].f1.all fun v => clF v true == 0 with
    | false => rfl
    | true => exact absurd (by simpa using List.all_eq_true.1 z _ (List.getElem_mem hj)) hc
   rw [e, Bool.false_and]
   refine ⟨x.f1[i].f1[j].size + 10, fun k hk => ?_⟩
   obtain ⟨n, rfl⟩ : ∃ n, k = n + 1 := ⟨k - 1, by omega⟩
   show trystref08_Formed.l2 (n + 1) _ _ _ _ _ _ _ _ _ = _
   unfold trystref08_Formed.l2
   rw [if_pos (by omega), if_pos (by omega), if_pos (by omega), er, ref _ true hsz n (by omega), Option.bind_some, if_neg hc]
theorem pars : ∀ q i : Nat, i + q = x.f1.length → (∀ m : Nat, m < i → ok1 (thL x).f1 m = true) →
  Evt (fun k => trystref08_Formed.l0 k (x.f1.length : Int) (i : Int) x.f0 x.f1 x.f2) ((List.range (thL x).f1.length).all fun i => parB (rd_T79 (thL x).f1 (i : Int)) && !dup (thL x).f1 i (rd_T79 (thL x).f1 (i : Int)).f0) := by
 have hlen : (thL x).f1.length = x.f1.length := by simp [thL]
 intro q
 induction q with
 | zero =>
  intro i h hu
  rw [all_yes (fun m hm => hu m (by omega))]
  refine Evt.const fun k => ?_
  unfold trystref08_Formed.l0
  rw [if_neg (by omega)]
 | succ q ih =>
  intro i h hu
  have hi : i < x.f1.length := by omega
  have hsz := hs.2.2 _ (List.getElem_mem hi)
  have hok : ok1 (thL x).f1 i = (parB (thP x.f1[i]) && !dup (thL x).f1 i x.f1[i].f0) := by unfold ok1; rw [rdL x i hi]; rfl
  have hpar : parB (thP x.f1[i]) = (nameB x.f1[i].f0 && (decide (1 ≤ x.f1[i].f1.length) && decide (x.f1[i].f1.length ≤ 60)) && x.f1[i].f1.all fun v => clF v true == 0) := rfl
  have neg : ∀ b : Bool, ok1 (thL x).f1 i = false → Evt (fun _ => some false) ((List.range (thL x).f1.length).all fun i => parB (rd_T79 (thL x).f1 (i : Int)) && !dup (thL x).f1 i (rd_T79 (thL x).f1 (i : Int)).f0) := fun b h0 => by
   rw [all_no (by omega) h0]
   exact ⟨0, fun _ _ => rfl⟩
  have one : ∀ (r : Bool) (g : Nat → Option Bool), (∀ k, x.f1[i].f0.size + 1 ≤ k → trystref08_Formed.l0 (k + 1) (x.f1.length : Int) (i : Int) x.f0 x.f1 x.f2 = g k) → Evt g r → Evt (fun k => trystref08_Formed.l0 k (x.f1.length : Int) (i : Int) x.f0 x.f1 x.f2) r := fun r g hg ⟨K, hK⟩ => by
   refine ⟨K + x.f1[i].f0.size + 10, fun k hk => ?_⟩
   obtain ⟨n, rfl⟩ : ∃ n, k = n + 1 := ⟨k - 1, by omega⟩
   show trystref08_Formed.l0 (n + 1) _ _ _ _ _ = _
   rw [hg n (by omega)]
   exact hK n (by omega)
  have head : ∀ k, x.f1[i].f0.size + 1 ≤ k → trystref08_Formed.l0 (k + 1) (x.f1.length : Int) (i : Int) x.f0 x.f1 x.f2 = if nameB x.f1[i].f0 = true then (if (x.f1[i].f1.length : Int) < 1 then trystref08_Formed.j2 k (i : Int) (x.f1.length : Int) (i : Int) true x.f0 x.f1 x.f2 x.f1[i].f0 x.f1[i].f1 else trystref08_Formed.j2 k (i : Int) (x.f1.length : Int) (i : Int) (decide ((x.f1[i].f1.length : Int) > 60)) x.f0 x.f1 x.f2 x.f1[i].f0 x.f1[i].f1) else trystref08_Formed.j2 k (i : Int) (x.f1.length : Int) (i : Int) true x.f0 x.f1 x.f2 x.f1[i].f0 x.f1[i].f1 := fun k hk => by
   conv => lhs; unfold trystref08_Formed.l0
   rw [if_pos (by omega), if_pos (by omega), if_pos (by omega), rdD x i hi, (lin _ (by have := hsz.1; omega) k hk).2, Option.bind_some]
  have bad : ok1 (thL x).f1 i = false → Evt (fun k => trystref08_Formed.j2 k (i : Int) (x.f1.length : Int) (i : Int) true x.f0 x.f1 x.f2 x.f1[i].f0 x.f1[i].f1) ((List.range (thL x).f1.length).all fun i => parB (rd_T79 (thL x).f1 (i : Int)) && !dup (thL x).f1 i (rd_T79 (thL x).f1 (i : Int)).f0) := fun h0 => by
   rw [all_no (by omega) h0]
   exact Evt.const fun k => by rw [j2_eq, if_pos rfl]
  cases hn : nameB x.f1[i].f0 with
  | false =>
   refine one _ _ (fun k hk => (head k hk).trans (if_neg (by rw [hn]; simp))) (bad ?_)
   rw [hok, hpar, hn]
   rfl
  | true =>
   by_cases c1 : (x.f1[i].f1.length : Int) < 1
   ·refine one _ _ (fun k hk => (head k hk).trans ((if_pos hn).trans (if_pos c1))) (bad ?_)
    rw [hok, hpar, hn, decide_eq_false (show ¬ 1 ≤ x.f1[i].f1.length by omega)]
    rfl
   ·refine one _ _ (fun k hk => (head k hk).trans ((if_pos hn).trans (if_neg c1))) ?_
    by_cases c2 : (x.f1[i].f1.length : Int) > 60
    ·rw [decide_eq_true c2]
     refine bad ?_
     rw [hok, hpar, hn, decide_eq_false (show ¬ x.f1[i].f1.length ≤ 60 by omega)]
     simp
    ·rw [decide_eq_false c2]
     have hp2 : parB (thP x.f1[i]) = x.f1[i].f1.all fun v => clF v true == 0 := by
      rw [hpar, hn, decide_eq_true (show 1 ≤ x.f1[i].f1.length by omega), decide_eq_true (show x.f1[i].f1.length ≤ 60 by omega)]
      rfl
     refine Evt.step (f := fun k => trystref08_Formed.l1 k (x.f1.length : Int) (i : Int) (i : Int) 0 x.f0 x.f1 x.f2 x.f1[i].f0 x.f1[i].f1) (fun k => by rw [j2_eq, if_neg (by simp)]) ?_
     cases hq : ok1 (thL x).f1 i with
     | true =>
      have hd : dup (thL x).f1 i x.f1[i].f0 = false := by rw [hok] at hq; simp at hq; exact hq.2
      have hv : (x.f1[i].f1.all fun v => clF v true == 0) = true := by rw [hok, hp2] at hq; simp only [Bool.and_eq_true] at hq; exact hq.1
      have hnext := ih (i + 1) (by omega) (fun m hm => by
       by_cases e : m = i
       ·subst e; exact hq
       ·exact hu m (by omega))
      have h1 := vals x hl hs i hi (by omega) _ (fun _ => hnext) x.f1[i].f1.length 0 (by omega) (fun m hm => by omega)
      have h2 := names x hl i hi _ (fun _ => h1) i 0 (by omega) (fun m hm => by omega)
      rw [hd, hv, Bool.not_false, Bool.true_and, Bool.true_and] at h2
      exact h2
     | false =>
      rw [all_no (by omega) hq]
      cases q1 : dup (thL x).f1 i x.f1[i].f0 with
      | true =>
       have h2 := names x hl i hi true (fun h0 => by rw [q1] at h0; cases h0) i 0 (by omega) (fun m hm => by omega)
       rw [q1] at h2
       exact h2
      | false =>
       have hv : (x.f1[i].f1.all fun v => clF v true == 0) = false := by rw [hok, hp2, q1] at hq; simpa using hq
       have h1 := vals x hl hs i hi (by omega) true (fun h0 => by rw [hv] at h0; cases h0) x.f1[i].f1.length 0 (by omega) (fun m hm => by omega)
       have h2 := names x hl i hi _ (fun _ => h1) i 0 (by omega) (fun m hm => by omega)
       rw [hv, q1] at h2
       exact h2
end
theorem ref (x : DL) (hs : SzD x) : ∃ K, ∀ k, K ≤ k → trystref08_Formed.f k x.f0 x.f1 x.f2 = some (lineB (thL x)) := by
 have hlen : (thL x).f1.length = x.f1.length := by simp [thL]
 have hL : lineB (thL x) = (nameB x.f0 && (decide (x.f1.length ≤ 60) && clF x.f2 false == 0) && (List.range (thL x).f1.length).all fun i => parB (rd_T79 (thL x).f1 (i : Int)) && !dup (thL x).f1 i (rd_T79 (thL x).f1 (i : Int)).f0) := by
  unfold lineB
  rw [hlen]
  rfl
 have j0_eq : ∀ (k : Nat) (b : Bool) (a c : ByteArray) (l : List DP), trystref08_Formed.j0 (k + 1) b a l c = if b = true then some false else trystref08_Formed.l0 k (l.length : Int) 0 a l c := fun k b a c l => by first | rfl | (simp only [trystref08_Formed.j0])
 cases hn : nameB x.f0 with
 | false =>
  refine ⟨x.f0.size + 10, fun k hk => ?_⟩
  obtain ⟨n, rfl⟩ : ∃ n, k = n + 1 := ⟨k - 1, by omega⟩
  unfold trystref08_Formed.f
  rw [(lin _ (by have := hs.1; omega) (n + 1) (by omega)).2, Option.bind_some, hn, if_neg (by simp), j0_eq, if_pos rfl, hL, hn]
  rfl
 | true =>
  by_cases c : (x.f1.length : Int) > 60
  ·refine ⟨x.f0.size + 10, fun k hk => ?_⟩
   obtain ⟨n, rfl⟩ : ∃ n, k = n + 1 := ⟨k - 1, by omega⟩
   unfold trystref08_Formed.f
   rw [(lin _ (by have := hs.1; omega) (n + 1) (by omega)).2, Option.bind_some, hn, if_pos rfl, if_pos c, j0_eq, if_pos rfl, hL, decide_eq_false (show ¬ x.f1.length ≤ 60 by omega)]
   simp
  ·obtain ⟨K, hK⟩ := pars x (by omega) hs x.f1.length 0 (by omega) (fun m hm => by omega)
   refine ⟨K + x.f0.size + x.f2.size + 20, fun k hk => ?_⟩
   obtain ⟨n, rfl⟩ : ∃ n, k = n + 1 := ⟨k - 1, by omega⟩
   unfold trystref08_Formed.f
   rw [(lin _ (by have := hs.1; omega) (n + 1) (by omega)).2, Option.bind_some, hn, if_pos rfl, if_neg c, Cln.ref _ false hs.2.1 (n + 1) (by omega), Option.bind_some, j0_eq, hL, hn, decide_eq_true (show x.f1.length ≤ 60 by omega)]
   by_cases hc : clF x.f2 false = 0
   ·rw [hc, if_neg (by simp)]
    have := hK n (by omega)
    simpa using this
   ·rw [if_pos (by simpa using hc), show (clF x.f2 false == 0) = false by simpa using hc]
    simp
end Go.Proofs.YtddoidcbpcmlaaaDoor.LinR
namespace Go.Proofs.YtddoidcbpcmlaaaDoor.M
open Go.RowKit Go.Proofs.YtddoidcbpcmlaaaDoorW.PrintWords Go.Proofs.YtddoidcbpcmlaaaDoorW.PrintLast Go.Proofs.YtddoidcbpcmlaaaDoorW.PrintMore
attribute [local go_sem] max2_int min2_int max_two min_two
set_option linter.unusedVariables false
set_option linter.unusedSimpArgs false
/-! ### trystlaw18_text: function 27 -/
def trystlaw18_text.f (k : Nat) (a0 : ByteArray) : Option (Bool) := if (a0.size : Int) ≤ 500 then ((trystref08_Clean.f k a0 true).bind fun t260 => (some (t260 == 0))) else (some false)
set_option maxHeartbeats 8000000 in
set_option maxRecDepth 100000 in
theorem trystlaw18_text.calls (k : Nat) (a0 : ByteArray) (r : Bool) (w : World) (h : trystlaw18_text.f k a0 = some r) :
  Calls Tryd.prog 27 #[.string a0] w fun e w' => e = .returned (.bool r) ∧ Drawn0 w w' := by
 have H : (if (a0.size : Int) ≤ 500 then ((trystref08_Clean.f k a0 true).bind fun t260 => (some (t260 == 0))) else (some false)) = some r := h
 clear h
 by_cases c2 : (a0.size : Int) ≤ 500
 ·rw [if_pos c2] at H
  have c2b0 : decide ((a0.size : Int) ≤ 500) = true := decide_eq_true c2
  have c2b1 : decide (a0.size ≤ 500) = true := decide_eq_true (by omega)
  clear c2
  replace H := Option.bind_eq_some_iff.mp H
  obtain ⟨t260, A30, H⟩ := H
  replace H : (some (t260 == 0)) = some r := H
  have A3 := Aside0.mk A30
  clear A30
  obtain rfl := Option.some.inj H
  go_enter Tryd.func27, Tryd.ntmps27
  go_wp2_with (first | (go_at_call 48; (with_reducible refine (trystref08_Clean.calls k a0 true t260 _ A3.out).mono ?_); rintro e w' ⟨rfl, ⟨nd, rfl⟩⟩))
  go_ret
  exact ⟨by first | rfl | simp | simp [*] | simp [bne_nil_], by repeat (first | exact Drawn0.refl _ | apply Drawn0.step)⟩
 ·rw [if_neg c2] at H
  have c2b0 : decide ((a0.size : Int) ≤ 500) = false := decide_eq_false c2
  have c2b1 : decide (a0.size ≤ 500) = false := decide_eq_false (by omega)
  clear c2
  obtain rfl := Option.some.inj H
  go_enter Tryd.func27, Tryd.ntmps27
  go_wp2
  go_ret
  exact ⟨by first | rfl | simp | simp [*] | simp [bne_nil_], by repeat (first | exact Drawn0.refl _ | apply Drawn0.step)⟩

end Go.Proofs.YtddoidcbpcmlaaaDoor.M
