/- Texts of this claim, merged: Mawake, People, Mlin, Mr08, LinN. -/
import Derived.Test.YtddoidcbpcmlaaaDoorMgEventForms13
import Derived.Test.YtddoidcbpcmlaaaDoorMgEventForms26
import Derived.Test.YtddoidcbpcmlaaaDoorMgEventForms27
import Derived.Test.YtddoidcbpcmlaaaDoorMgEventForms28
namespace Go.Proofs.YtddoidcbpcmlaaaDoor.M
open Go.RowKit Go.Proofs.YtddoidcbpcmlaaaDoorW.PrintWords Go.Proofs.YtddoidcbpcmlaaaDoorW.PrintLast Go.Proofs.YtddoidcbpcmlaaaDoorW.PrintMore
attribute [local go_sem] max2_int min2_int max_two min_two
set_option linter.unusedVariables false
set_option linter.unusedSimpArgs false
/-! ### trystlaw18_awake: function 4 -/
def trystlaw18_awake.f (k : Nat)  : Option (Bool) := (event_Address.f k (⟨#[97, 64, 98]⟩ : ByteArray)).bind fun t109 => (if t109 = true then ((event_Address.f k (⟨#[97, 44, 98]⟩ : ByteArray)).bind fun t110 => (if t110 = true then (some false) else ((event_RightPerson.f k (⟨#[97]⟩ : ByteArray) 0 0 false (⟨#[]⟩ : ByteArray) (⟨#[]⟩ : ByteArray)).bind fun t111 => (some t111)))) else (some false))
set_option maxHeartbeats 8000000 in
set_option maxRecDepth 100000 in
theorem trystlaw18_awake.calls (k : Nat)  (r : Bool) (w : World) (h : trystlaw18_awake.f k  = some r) :
  Calls Tryd.prog 4 #[] w fun e w' => e = .returned (.bool r) ∧ Below w.heap.size w w' := by
 have hu46 := Tryd.underlying46
 have HB := Aside0.mk (Below.refl w.heap.size w)
 have H : ((event_Address.f k (⟨#[97, 64, 98]⟩ : ByteArray)).bind fun t109 => (if t109 = true then ((event_Address.f k (⟨#[97, 44, 98]⟩ : ByteArray)).bind fun t110 => (if t110 = true then (some false) else ((event_RightPerson.f k (⟨#[97]⟩ : ByteArray) 0 0 false (⟨#[]⟩ : ByteArray) (⟨#[]⟩ : ByteArray)).bind fun t111 => (some t111)))) else (some false))) = some r := h
 clear h
 replace H := Option.bind_eq_some_iff.mp H
 obtain ⟨t109, A10, H⟩ := H
 replace H : (if t109 = true then ((event_Address.f k (⟨#[97, 44, 98]⟩ : ByteArray)).bind fun t110 => (if t110 = true then (some false) else ((event_RightPerson.f k (⟨#[97]⟩ : ByteArray) 0 0 false (⟨#[]⟩ : ByteArray) (⟨#[]⟩ : ByteArray)).bind fun t111 => (some t111)))) else (some false)) = some r := H
 have A1 := Aside0.mk A10
 clear A10
 by_cases c2 : t109 = true
 ·subst c2
  have H1 : ((event_Address.f k (⟨#[97, 44, 98]⟩ : ByteArray)).bind fun t110 => (if t110 = true then (some false) else ((event_RightPerson.f k (⟨#[97]⟩ : ByteArray) 0 0 false (⟨#[]⟩ : ByteArray) (⟨#[]⟩ : ByteArray)).bind fun t111 => (some t111)))) = some r := by rw [if_pos rfl] at H; exact H
  clear H
  have H := H1
  clear H1
  replace H := Option.bind_eq_some_iff.mp H
  obtain ⟨t110, A30, H⟩ := H
  replace H : (if t110 = true then (some false) else ((event_RightPerson.f k (⟨#[97]⟩ : ByteArray) 0 0 false (⟨#[]⟩ : ByteArray) (⟨#[]⟩ : ByteArray)).bind fun t111 => (some t111))) = some r := H
  have A3 := Aside0.mk A30
  clear A30
  by_cases c4 : t110 = true
  ·subst c4
   have H1 : (some false) = some r := by rw [if_pos rfl] at H; exact H
   clear H
   have H := H1
   clear H1
   obtain rfl := Option.some.inj H
   go_enter Tryd.func4, Tryd.ntmps4
   go_wp2_with (first | ((with_reducible refine gate_callee (f := 9) rfl ?_); refine gm_ (some 1) Tryd.func9 #[.string (⟨#[97, 64, 98]⟩ : ByteArray)] ?_; (with_reducible refine (event_Address.calls k (⟨#[97, 64, 98]⟩ : ByteArray) true _ A1.out).mono ?_); rintro e w5 ⟨rfl, hb⟩; refine ⟨_, rfl, ?_⟩; have n0_ := Aside0.mk (below_step (by repeat (first | (with_reducible first | exact HB.out | apply below_alloc | apply pw_below_drewN | apply below_drew1) | exact HB.out)) hb); clear HB; have HB := n0_; clear n0_; (try clear hb); (try clear hb2); (try clear hk); (try clear hi)) | (go_at_call 9; (with_reducible refine (event_Address.calls k (⟨#[97, 44, 98]⟩ : ByteArray) true _ A3.out).mono ?_); rintro e w6 ⟨rfl, hb⟩; have n0_ := Aside0.mk (below_step (by repeat (first | (with_reducible first | exact HB.out | apply below_alloc | apply pw_below_drewN | apply below_drew1) | exact HB.out)) hb); clear HB; have HB := n0_; clear n0_; (try clear hb); (try clear hb2); (try clear hk); (try clear hi)))
   go_ret
   exact ⟨by first | rfl | (simp [i64_w]; done) | (simp [errW_none, errW_some] <;> rfl) | (simp [*, errW_none, errW_some] <;> rfl), by repeat (first | (with_reducible first | exact HB.out | apply below_alloc | apply pw_below_drewN | apply below_drew1) | exact HB.out)⟩
  ·replace c4 := Bool.eq_false_iff.mpr c4
   subst c4
   have H1 : ((event_RightPerson.f k (⟨#[97]⟩ : ByteArray) 0 0 false (⟨#[]⟩ : ByteArray) (⟨#[]⟩ : ByteArray)).bind fun t111 => (some t111)) = some r := by rw [if_neg (show ¬ (false = true) by decide)] at H; exact H
   clear H
   have H := H1
   clear H1
   replace H := Option.bind_eq_some_iff.mp H
   obtain ⟨t111, A70, H⟩ := H
   replace H : (some t111) = some r := H
   have A7 := Aside0.mk A70
   clear A70
   obtain rfl := Option.some.inj H
   go_enter Tryd.func4, Tryd.ntmps4
   go_wp2_with (first | ((with_reducible refine gate_callee (f := 9) rfl ?_); refine gm_ (some 1) Tryd.func9 #[.string (⟨#[97, 64, 98]⟩ : ByteArray)] ?_; (with_reducible refine (event_Address.calls k (⟨#[97, 64, 98]⟩ : ByteArray) true _ A1.out).mono ?_); rintro e w8 ⟨rfl, hb⟩; refine ⟨_, rfl, ?_⟩; have n0_ := Aside0.mk (below_step (by repeat (first | (with_reducible first | exact HB.out | apply below_alloc | apply pw_below_drewN | apply below_drew1) | exact HB.out)) hb); clear HB; have HB := n0_; clear n0_; (try clear hb); (try clear hb2); (try clear hk); (try clear hi)) | (go_at_call 9; (with_reducible refine (event_Address.calls k (⟨#[97, 44, 98]⟩ : ByteArray) false _ A3.out).mono ?_); rintro e w9 ⟨rfl, hb⟩; have n0_ := Aside0.mk (below_step (by repeat (first | (with_reducible first | exact HB.out | apply below_alloc | apply pw_below_drewN | apply below_drew1) | exact HB.out)) hb); clear HB; have HB := n0_; clear n0_; (try clear hb); (try clear hb2); (try clear hk); (try clear hi)) | (go_at_call 10; (with_reducible refine (event_RightPerson.calls k (⟨#[97]⟩ : ByteArray) 0 0 false (⟨#[]⟩ : ByteArray) (⟨#[]⟩ : ByteArray) t111 _ A7.out).mono ?_); rintro e w10 ⟨rfl, hb⟩; have n0_ := Aside0.mk (below_step (by repeat (first | (with_reducible first | exact HB.out | apply below_alloc | apply pw_below_drewN | apply below_drew1) | exact HB.out)) hb); clear HB; have HB := n0_; clear n0_; (try clear hb); (try clear hb2); (try clear hk); (try clear hi)))
   go_ret
   exact ⟨by first | rfl | (simp [i64_w]; done) | (simp [errW_none, errW_some] <;> rfl) | (simp [*, errW_none, errW_some] <;> rfl), by repeat (first | (with_reducible first | exact HB.out | apply below_alloc | apply pw_below_drewN | apply below_drew1) | exact HB.out)⟩
 ·replace c2 := Bool.eq_false_iff.mpr c2
  subst c2
  have H1 : (some false) = some r := by rw [if_neg (show ¬ (false = true) by decide)] at H; exact H
  clear H
  have H := H1
  clear H1
  obtain rfl := Option.some.inj H
  go_enter Tryd.func4, Tryd.ntmps4
  go_wp2_with (first | ((with_reducible refine gate_callee (f := 9) rfl ?_); refine gm_ (some 1) Tryd.func9 #[.string (⟨#[97, 64, 98]⟩ : ByteArray)] ?_; (with_reducible refine (event_Address.calls k (⟨#[97, 64, 98]⟩ : ByteArray) false _ A1.out).mono ?_); rintro e w11 ⟨rfl, hb⟩; refine ⟨_, rfl, ?_⟩; have n0_ := Aside0.mk (below_step (by repeat (first | (with_reducible first | exact HB.out | apply below_alloc | apply pw_below_drewN | apply below_drew1) | exact HB.out)) hb); clear HB; have HB := n0_; clear n0_; (try clear hb); (try clear hb2); (try clear hk); (try clear hi)))
  go_ret
  exact ⟨by first | rfl | (simp [i64_w]; done) | (simp [errW_none, errW_some] <;> rfl) | (simp [*, errW_none, errW_some] <;> rfl), by repeat (first | (with_reducible first | exact HB.out | apply below_alloc | apply pw_below_drewN | apply below_drew1) | exact HB.out)⟩

end Go.Proofs.YtddoidcbpcmlaaaDoor.M
/- Addresses and people of the program and of the statement's own words: the same answers. -/
namespace Go.Proofs.YtddoidcbpcmlaaaDoor.People
open Go.RowKit Go.Proofs.YtddoidcbpcmlaaaDoorW.PrintWords Go.Proofs.YtddoidcbpcmlaaaDoorW.PrintLast Go.Proofs.YtddoidcbpcmlaaaDoor.M
set_option linter.unusedVariables false
set_option linter.unusedSimpArgs false
theorem w64 {x : Int} (h : -9223372036854775808 ≤ x) (h' : x ≤ 9223372036854775807) : wrap64 x = x := by
 unfold wrap64; omega
theorem btl (l : List UInt8) (i : Nat) (h : i < l.length) : bt ⟨l.toArray⟩ (i : Int) = ((l[i].toNat : Nat) : Int) := by
 unfold bt
 rw [dif_pos (show ((i : Int).toNat) < (⟨l.toArray⟩ : ByteArray).size by simpa [ByteArray.size] using h)]
 rfl
theorem sz (l : List UInt8) : (⟨l.toArray⟩ : ByteArray).size = l.length := by simp [ByteArray.size]
theorem ofL (s : ByteArray) : s = ⟨s.data.toList.toArray⟩ := by cases s; simp
def ok (b : UInt8) : Bool := decide (33 ≤ b.toNat) && decide (b.toNat ≤ 126)
def ns (b : UInt8) : Bool := !(decide (b.toNat = 34) || decide (b.toNat = 44) || decide (b.toNat = 59))
def pr (l : List UInt8) : Bool := l.all ok && (decide (1 ≤ l.length) && decide (l.length ≤ 60))
theorem drop_all (p : UInt8 → Bool) (l : List UInt8) (i : Nat) (h : i < l.length) : (l.drop i).all p = (p l[i] && (l.drop (i + 1)).all p) := by
 rw [List.drop_eq_getElem_cons h, List.all_cons]
theorem pV (l : List UInt8) (hl : l.length ≤ 9223372036854775807) : ∀ (d i : Nat), d + i = l.length → ∀ k, d + 1 ≤ k → event_printable.l0 k ⟨l.toArray⟩ l.length i = some ((l.drop i).all ok && (decide (1 ≤ l.length) && decide (l.length ≤ 60))) := by
 intro d
 induction d with
 | zero =>
  intro i h k hk
  obtain ⟨k, rfl⟩ : ∃ m, k = m + 1 := ⟨k - 1, by omega⟩
  simp only [event_printable.l0]
  rw [if_neg (by omega), sz, List.drop_of_length_le (by omega), List.all_nil, Bool.true_and]
  by_cases c : ((l.length : Nat) : Int) ≥ 1
  ·rw [if_pos c, decide_eq_true (show 1 ≤ l.length by omega), Bool.true_and]
   congr 1
   exact decide_eq_decide.mpr (by omega)
  ·rw [if_neg c, decide_eq_false (show ¬ 1 ≤ l.length by omega), Bool.false_and]
 | succ d ih =>
  intro i h k hk
  obtain ⟨k, rfl⟩ : ∃ m, k = m + 1 := ⟨k - 1, by omega⟩
  have hi : i < l.length := by omega
  simp only [event_printable.l0]
  rw [if_pos (by omega), if_pos (by omega), if_pos (by rw [sz]; omega), btl l i hi, drop_all ok l i hi]
  have e : wrap64 (((i : Nat) : Int) + 1) = ((i + 1 : Nat) : Int) := by rw [w64 (by omega) (by omega)]; omega
  rw [e, show ok l[i] = (decide (33 ≤ l[i].toNat) && decide (l[i].toNat ≤ 126)) from rfl]
  by_cases c1 : ((l[i].toNat : Nat) : Int) < 33
  ·rw [if_pos c1, decide_eq_false (show ¬ 33 ≤ l[i].toNat by omega)]; simp
  ·rw [if_neg c1, decide_eq_true (show 33 ≤ l[i].toNat by omega)]
   by_cases c2 : ((l[i].toNat : Nat) : Int) > 126
   ·rw [if_pos c2, decide_eq_false (show ¬ l[i].toNat ≤ 126 by omega)]; simp
   ·rw [if_neg c2, decide_eq_true (show l[i].toNat ≤ 126 by omega), ih (i + 1) (by omega) k (by omega)]
    simp
theorem pR (l : List UInt8) (hl : l.length ≤ 9223372036854775807) : ∀ (d i : Nat), d + i = l.length → ∀ k, d + 1 ≤ k → trystlaw18_printable.l0 k ⟨l.toArray⟩ l.length i = some ((l.drop i).all ok && (decide (1 ≤ l.length) && decide (l.length ≤ 60))) := by
 intro d
 induction d with
 | zero =>
  intro i h k hk
  obtain ⟨k, rfl⟩ : ∃ m, k = m + 1 := ⟨k - 1, by omega⟩
  simp only [trystlaw18_printable.l0]
  rw [if_neg (by omega), sz, List.drop_of_length_le (by omega), List.all_nil, Bool.true_and]
  by_cases c : ((l.length : Nat) : Int) > 0
  ·rw [if_pos c, decide_eq_true (show 1 ≤ l.length by omega), Bool.true_and]
   congr 1
   exact decide_eq_decide.mpr (by omega)
  ·rw [if_neg c, decide_eq_false (show ¬ 1 ≤ l.length by omega), Bool.false_and]
 | succ d ih =>
  intro i h k hk
  obtain ⟨k, rfl⟩ : ∃ m, k = m + 1 := ⟨k - 1, by omega⟩
  have hi : i < l.length := by omega
  simp only [trystlaw18_printable.l0]
  rw [if_pos (by omega), if_pos (by omega), if_pos (by rw [sz]; omega), btl l i hi, drop_all ok l i hi]
  have e : wrap64 (((i : Nat) : Int) + 1) = ((i + 1 : Nat) : Int) := by rw [w64 (by omega) (by omega)]; omega
  rw [e, show ok l[i] = (decide (33 ≤ l[i].toNat) && decide (l[i].toNat ≤ 126)) from rfl]
  by_cases c1 : ((l[i].toNat : Nat) : Int) < 33
  ·rw [if_pos c1, decide_eq_false (show ¬ 33 ≤ l[i].toNat by omega)]; simp
  ·rw [if_neg c1, decide_eq_true (show 33 ≤ l[i].toNat by omega)]
   by_cases c2 : ((l[i].toNat : Nat) : Int) > 126
   ·rw [if_pos c2, decide_eq_false (show ¬ l[i].toNat ≤ 126 by omega)]; simp
   ·rw [if_neg c2, decide_eq_true (show l[i].toNat ≤ 126 by omega), ih (i + 1) (by omega) k (by omega)]
    simp
theorem prV (l : List UInt8) (hl : l.length ≤ 9223372036854775807) (k : Nat) (hk : l.length + 1 ≤ k) : event_printable.f k ⟨l.toArray⟩ = some (pr l) := by
 unfold event_printable.f
 rw [sz]
 exact pV l hl l.length 0 (by omega) k hk
theorem prR (l : List UInt8) (hl : l.length ≤ 9223372036854775807) (k : Nat) (hk : l.length + 1 ≤ k) : trystlaw18_printable.f k ⟨l.toArray⟩ = some (pr l) := by
 unfold trystlaw18_printable.f
 rw [sz]
 exact pR l hl l.length 0 (by omega) k hk
theorem aR (l : List UInt8) (hl : l.length ≤ 9223372036854775807) : ∀ (d i : Nat), d + i = l.length → ∀ k, d + l.length + 2 ≤ k → trystlaw18_address.l0 k ⟨l.toArray⟩ l.length i = some ((l.drop i).all ns && pr l) := by
 intro d
 induction d with
 | zero =>
  intro i h k hk
  obtain ⟨k, rfl⟩ : ∃ m, k = m + 1 := ⟨k - 1, by omega⟩
  simp only [trystlaw18_address.l0]
  rw [if_neg (by omega), prR l hl k (by omega), List.drop_of_length_le (by omega), List.all_nil, Bool.true_and]
  rfl
 | succ d ih =>
  intro i h k hk
  obtain ⟨k, rfl⟩ : ∃ m, k = m + 1 := ⟨k - 1, by omega⟩
  have hi : i < l.length := by omega
  simp only [trystlaw18_address.l0]
  rw [if_pos (by omega), if_pos (by omega), if_pos (by rw [sz]; omega), btl l i hi, drop_all ns l i hi]
  have e : wrap64 (((i : Nat) : Int) + 1) = ((i + 1 : Nat) : Int) := by rw [w64 (by omega) (by omega)]; omega
  rw [e]
  by_cases c1 : ((l[i].toNat : Nat) : Int) = 34
  ·rw [if_pos c1]; unfold ns; rw [decide_eq_true (show l[i].toNat = 34 by omega)]; simp
  ·rw [if_neg c1]
   by_cases c2 : ((l[i].toNat : Nat) : Int) = 44
   ·rw [if_pos c2]; unfold ns; rw [decide_eq_true (show l[i].toNat = 44 by omega)]; simp
   ·rw [if_neg c2]
    by_cases c3 : ((l[i].toNat : Nat) : Int) = 59
    ·rw [if_pos c3]; unfold ns; rw [decide_eq_true (show l[i].toNat = 59 by omega)]; simp
    ·rw [if_neg c3, ih (i + 1) (by omega) k (by omega)]
     have e : ns l[i] = true := by
      unfold ns
      rw [decide_eq_false (show ¬ l[i].toNat = 34 by omega), decide_eq_false (show ¬ l[i].toNat = 44 by omega), decide_eq_false (show ¬ l[i].toNat = 59 by omega)]; rfl
     rw [e, Bool.true_and]
theorem ns_c (b : UInt8) : ([34, 44, 59] : List UInt8).contains b = !ns b := by
 have e : ∀ c : UInt8, (b == c) = decide (b.toNat = c.toNat) := by
  intro c
  rw [Bool.eq_iff_iff, beq_iff_eq, decide_eq_true_eq]
  exact ⟨fun h => by rw [h], fun h => UInt8.toNat_inj.mp h⟩
 simp only [List.contains, List.elem, e, ns, Bool.not_not]
 have h34 : (34 : UInt8).toNat = 34 := rfl
 have h44 : (44 : UInt8).toNat = 44 := rfl
 have h59 : (59 : UInt8).toNat = 59 := rfl
 rw [h34, h44, h59]
 by_cases c1 : b.toNat = 34
 ·rw [decide_eq_true c1]; rfl
 ·rw [decide_eq_false c1]
  by_cases c2 : b.toNat = 44
  ·rw [decide_eq_true c2]; rfl
  ·rw [decide_eq_false c2]
   by_cases c3 : b.toNat = 59
   ·rw [decide_eq_true c3]; rfl
   ·rw [decide_eq_false c3]; rfl
theorem any_ns : ∀ l : List UInt8, (!Lib.containsAny l [34, 44, 59]) = l.all ns
 | [] => rfl
 | b :: l => by
  have ih := any_ns l
  have hg := Lib.indexAny_ge [34, 44, 59] l
  unfold Lib.containsAny at ih ⊢
  rw [Lib.indexAny, ns_c, List.all_cons, ← ih]
  cases hb : ns b
  ·rw [if_pos (by rfl)]; rfl
  ·rw [if_neg (by simp)]
   by_cases c : Lib.indexAny l [34, 44, 59] = -1
   ·rw [c]; rfl
   ·rw [if_neg (by simpa using c), decide_eq_true (show 0 ≤ Lib.indexAny l [34, 44, 59] + 1 by omega), decide_eq_true (show 0 ≤ Lib.indexAny l [34, 44, 59] by omega)]; rfl
theorem adV (l : List UInt8) (hl : l.length ≤ 9223372036854775807) (k : Nat) (hk : l.length + 1 ≤ k) : event_Address.f k ⟨l.toArray⟩ = some (l.all ns && pr l) := by
 unfold event_Address.f
 rw [prV l hl k hk, Option.bind_some]
 by_cases c : pr l = true
 ·rw [if_pos c]
  have c' := c
  unfold pr at c'
  simp only [Bool.and_eq_true, decide_eq_true_eq, List.all_eq_true] at c'
  unfold strings_ContainsAny.f
  rw [if_pos ⟨by rw [sz]; omega, by decide, by
   simp only [List.all_eq_true, decide_eq_true_eq]
   intro x hx
   have := c'.1 x (by simpa using hx)
   unfold ok at this
   simp only [Bool.and_eq_true, decide_eq_true_eq] at this
   omega, by decide⟩, Option.bind_some]
  have e : (⟨l.toArray⟩ : ByteArray).data.toList = l := by simp
  have e2 : (⟨#[34, 44, 59]⟩ : ByteArray).data.toList = [34, 44, 59] := rfl
  rw [e, e2, any_ns, c, Bool.and_true]
 ·rw [if_neg c, Bool.eq_false_iff.mpr c, Bool.and_false]
theorem adR (l : List UInt8) (hl : l.length ≤ 9223372036854775807) (k : Nat) (hk : 2 * l.length + 2 ≤ k) : trystlaw18_address.f k ⟨l.toArray⟩ = some (l.all ns && pr l) := by
 unfold trystlaw18_address.f
 rw [sz]
 exact aR l hl l.length 0 (by omega) k (by omega)
def ad (s : ByteArray) : Bool := s.data.toList.all ns && pr s.data.toList
theorem ad1 (s : ByteArray) (hs : s.size ≤ 9223372036854775807) (k : Nat) (hk : 2 * s.size + 2 ≤ k) : event_Address.f k s = some (ad s) := by
 have h := adV s.data.toList (by rw [← sz, ← ofL]; exact hs) k (by rw [← sz, ← ofL]; omega)
 rw [← ofL] at h
 exact h
theorem ad2 (s : ByteArray) (hs : s.size ≤ 9223372036854775807) (k : Nat) (hk : 2 * s.size + 2 ≤ k) : trystlaw18_address.f k s = some (ad s) := by
 have h := adR s.data.toList (by rw [← sz, ← ofL]; exact hs) k (by rw [← sz, ← ofL]; omega)
 rw [← ofL] at h
 exact h
theorem bcomm (a b : Bool) : (a == b) = (b == a) := by cases a <;> cases b <;> rfl
theorem persons (k : Nat) (a d e : ByteArray) (s r : Int) (b : Bool) (ha : a.size ≤ 9223372036854775807) (hd : d.size ≤ 9223372036854775807) (he : e.size ≤ 9223372036854775807) (h1 : 2 * a.size + 2 ≤ k) (h2 : 2 * d.size + 2 ≤ k) (h3 : 2 * e.size + 2 ≤ k) :
  ∃ x, event_RightPerson.f k a s r b d e = some x ∧ trystlaw18_person.f k a s r b d e = some x := by
 have e0 : event_RightPerson.f k a s r b d e = trystlaw18_person.f k a s r b d e := by
  unfold event_RightPerson.f trystlaw18_person.f
  rw [ad1 a ha k h1, ad1 d hd k h2, ad1 e he k h3, ad2 a ha k h1, ad2 d hd k h2, ad2 e he k h3, bcomm]
 rw [e0]
 have : ∃ x, trystlaw18_person.f k a s r b d e = some x := by
  unfold trystlaw18_person.f
  rw [ad2 a ha k h1, ad2 d hd k h2, ad2 e he k h3]
  simp only [Option.bind_some]
  repeat' split
  all_goals exact ⟨_, rfl⟩
 obtain ⟨x, hx⟩ := this
 exact ⟨x, hx, hx⟩
end Go.Proofs.YtddoidcbpcmlaaaDoor.People
namespace Go.Proofs.YtddoidcbpcmlaaaDoor.M
open Go.RowKit Go.Proofs.YtddoidcbpcmlaaaDoorW.PrintWords Go.Proofs.YtddoidcbpcmlaaaDoorW.PrintLast Go.Proofs.YtddoidcbpcmlaaaDoorW.PrintMore
attribute [local go_sem] max2_int min2_int max_two min_two
set_option linter.unusedVariables false
set_option linter.unusedSimpArgs false
/-! ### line_sign: function 85 -/
def line_sign.f (a0 : Int) (a1 : Bool) : Option (Bool) := if a0 ≥ 65 then (if a0 ≤ 90 then (some true) else (if a0 ≥ 48 then (if a0 ≤ 57 then (some true) else (if a0 = 45 then (some true) else (if a1 = true then (some false) else (if a0 ≥ 97 then (some (decide (a0 ≤ 122))) else (some false))))) else (if a0 = 45 then (some true) else (if a1 = true then (some false) else (if a0 ≥ 97 then (some (decide (a0 ≤ 122))) else (some false)))))) else (if a0 ≥ 48 then (if a0 ≤ 57 then (some true) else (if a0 = 45 then (some true) else (if a1 = true then (some false) else (if a0 ≥ 97 then (some (decide (a0 ≤ 122))) else (some false))))) else (if a0 = 45 then (some true) else (if a1 = true then (some false) else (if a0 ≥ 97 then (some (decide (a0 ≤ 122))) else (some false)))))
set_option maxHeartbeats 8000000 in
set_option maxRecDepth 100000 in
theorem line_sign.calls (a0 : Int) (a1 : Bool) (r : Bool) (w : World) (h : line_sign.f a0 a1 = some r) :
  Calls Tryd.prog 85 #[.int .u8 a0, .bool a1] w fun e w' => e = .returned (.bool r) ∧ Drawn0 w w' := by
 have H : (if a0 ≥ 65 then (if a0 ≤ 90 then (some true) else (if a0 ≥ 48 then (if a0 ≤ 57 then (some true) else (if a0 = 45 then (some true) else (if a1 = true then (some false) else (if a0 ≥ 97 then (some (decide (a0 ≤ 122))) else (some false))))) else (if a0 = 45 then (some true) else (if a1 = true then (some false) else (if a0 ≥ 97 then (some (decide (a0 ≤ 122))) else (some false)))))) else (if a0 ≥ 48 then (if a0 ≤ 57 then (some true) else (if a0 = 45 then (some true) else (if a1 = true then (some false) else (if a0 ≥ 97 then (some (decide (a0 ≤ 122))) else (some false))))) else (if a0 = 45 then (some true) else (if a1 = true then (some false) else (if a0 ≥ 97 then (some (decide (a0 ≤ 122))) else (some false)))))) = some r := h
 clear h
 by_cases c3 : a0 ≥ 65
 ·rw [if_pos c3] at H
  have c3b0 : decide (65 ≤ a0) = true := decide_eq_true c3
  clear c3
  by_cases c4 : a0 ≤ 90
  ·rw [if_pos c4] at H
   have c4b0 : decide (a0 ≤ 90) = true := decide_eq_true c4
   clear c4
   obtain rfl := Option.some.inj H
   go_enter Tryd.func85, Tryd.ntmps85
   go_wp2
   go_ret
   exact ⟨by first | rfl | simp | simp [*] | simp [bne_nil_], by repeat (first | exact Drawn0.refl _ | apply Drawn0.step)⟩
  ·rw [if_neg c4] at H
   have c4b0 : decide (a0 ≤ 90) = false := decide_eq_false c4
   clear c4
   by_cases c5 : a0 ≥ 48
   ·rw [if_pos c5] at H
    have c5b0 : decide (48 ≤ a0) = true := decide_eq_true c5
    clear c5
    by_cases c6 : a0 ≤ 57
    ·rw [if_pos c6] at H
     have c6b0 : decide (a0 ≤ 57) = true := decide_eq_true c6
     clear c6
     obtain rfl := Option.some.inj H
     go_enter Tryd.func85, Tryd.ntmps85
     go_wp2
     go_ret
     exact ⟨by first | rfl | simp | simp [*] | simp [bne_nil_], by repeat (first | exact Drawn0.refl _ | apply Drawn0.step)⟩
    ·rw [if_neg c6] at H
     have c6b0 : decide (a0 ≤ 57) = false := decide_eq_false c6
     clear c6
     by_cases c7 : a0 = 45
     ·rw [if_pos c7] at H
      have c7b0 : (a0 == 45) = true := beq_iff_eq.mpr c7
      have c7b1 : (a0 != 45) = false := bne_eq_false_iff_eq.mpr c7
      clear c7
      obtain rfl := Option.some.inj H
      go_enter Tryd.func85, Tryd.ntmps85
      go_wp2
      go_ret
      exact ⟨by first | rfl | simp | simp [*] | simp [bne_nil_], by repeat (first | exact Drawn0.refl _ | apply Drawn0.step)⟩
     ·rw [if_neg c7] at H
      have c7b0 : (a0 == 45) = false := beq_eq_false_iff_ne.mpr c7
      have c7b1 : (a0 != 45) = true := bne_iff_ne.mpr c7
      by_cases c8 : a1 = true
      ·subst c8
       have H1 : (some false) = some r := by rw [if_pos rfl] at H; exact H
       clear H
       have H := H1
       clear H1
       obtain rfl := Option.some.inj H
       go_enter Tryd.func85, Tryd.ntmps85
       go_wp2
       go_ret
       exact ⟨by first | rfl | simp | simp [*] | simp [bne_nil_], by repeat (first | exact Drawn0.refl _ | apply Drawn0.step)⟩
      ·replace c8 := Bool.eq_false_iff.mpr c8
       subst c8
       have H1 : (if a0 ≥ 97 then (some (decide (a0 ≤ 122))) else (some false)) = some r := by rw [if_neg (show ¬ (false = true) by decide)] at H; exact H
       clear H
       have H := H1
       clear H1
       by_cases c9 : a0 ≥ 97
       ·rw [if_pos c9] at H
        have c9b0 : decide (97 ≤ a0) = true := decide_eq_true c9
        clear c9
        obtain rfl := Option.some.inj H
        go_enter Tryd.func85, Tryd.ntmps85
        go_wp2
        go_ret
        exact ⟨by first | rfl | simp | simp [*] | simp [bne_nil_], by repeat (first | exact Drawn0.refl _ | apply Drawn0.step)⟩
       ·rw [if_neg c9] at H
        have c9b0 : decide (97 ≤ a0) = false := decide_eq_false c9
        clear c9
        obtain rfl := Option.some.inj H
        go_enter Tryd.func85, Tryd.ntmps85
        go_wp2
        go_ret
        exact ⟨by first | rfl | simp | simp [*] | simp [bne_nil_], by repeat (first | exact Drawn0.refl _ | apply Drawn0.step)⟩
   ·rw [if_neg c5] at H
    have c5b0 : decide (48 ≤ a0) = false := decide_eq_false c5
    clear c5
    by_cases c10 : a0 = 45
    ·rw [if_pos c10] at H
     have c10b0 : (a0 == 45) = true := beq_iff_eq.mpr c10
     have c10b1 : (a0 != 45) = false := bne_eq_false_iff_eq.mpr c10
     clear c10
     obtain rfl := Option.some.inj H
     go_enter Tryd.func85, Tryd.ntmps85
     go_wp2
     go_ret
     exact ⟨by first | rfl | simp | simp [*] | simp [bne_nil_], by repeat (first | exact Drawn0.refl _ | apply Drawn0.step)⟩
    ·rw [if_neg c10] at H
     have c10b0 : (a0 == 45) = false := beq_eq_false_iff_ne.mpr c10
     have c10b1 : (a0 != 45) = true := bne_iff_ne.mpr c10
     by_cases c11 : a1 = true
     ·subst c11
      have H1 : (some false) = some r := by rw [if_pos rfl] at H; exact H
      clear H
      have H := H1
      clear H1
      obtain rfl := Option.some.inj H
      go_enter Tryd.func85, Tryd.ntmps85
      go_wp2
      go_ret
      exact ⟨by first | rfl | simp | simp [*] | simp [bne_nil_], by repeat (first | exact Drawn0.refl _ | apply Drawn0.step)⟩
     ·replace c11 := Bool.eq_false_iff.mpr c11
      subst c11
      have H1 : (if a0 ≥ 97 then (some (decide (a0 ≤ 122))) else (some false)) = some r := by rw [if_neg (show ¬ (false = true) by decide)] at H; exact H
      clear H
      have H := H1
      clear H1
      by_cases c12 : a0 ≥ 97
      ·rw [if_pos c12] at H
       have c12b0 : decide (97 ≤ a0) = true := decide_eq_true c12
       clear c12
       obtain rfl := Option.some.inj H
       go_enter Tryd.func85, Tryd.ntmps85
       go_wp2
       go_ret
       exact ⟨by first | rfl | simp | simp [*] | simp [bne_nil_], by repeat (first | exact Drawn0.refl _ | apply Drawn0.step)⟩
      ·rw [if_neg c12] at H
       have c12b0 : decide (97 ≤ a0) = false := decide_eq_false c12
       clear c12
       obtain rfl := Option.some.inj H
       go_enter Tryd.func85, Tryd.ntmps85
       go_wp2
       go_ret
       exact ⟨by first | rfl | simp | simp [*] | simp [bne_nil_], by repeat (first | exact Drawn0.refl _ | apply Drawn0.step)⟩
 ·rw [if_neg c3] at H
  have c3b0 : decide (65 ≤ a0) = false := decide_eq_false c3
  clear c3
  by_cases c13 : a0 ≥ 48
  ·rw [if_pos c13] at H
   have c13b0 : decide (48 ≤ a0) = true := decide_eq_true c13
   clear c13
   by_cases c14 : a0 ≤ 57
   ·rw [if_pos c14] at H
    have c14b0 : decide (a0 ≤ 57) = true := decide_eq_true c14
    clear c14
    obtain rfl := Option.some.inj H
    go_enter Tryd.func85, Tryd.ntmps85
    go_wp2
    go_ret
    exact ⟨by first | rfl | simp | simp [*] | simp [bne_nil_], by repeat (first | exact Drawn0.refl _ | apply Drawn0.step)⟩
   ·rw [if_neg c14] at H
    have c14b0 : decide (a0 ≤ 57) = false := decide_eq_false c14
    clear c14
    by_cases c15 : a0 = 45
    ·rw [if_pos c15] at H
     have c15b0 : (a0 == 45) = true := beq_iff_eq.mpr c15
     have c15b1 : (a0 != 45) = false := bne_eq_false_iff_eq.mpr c15
     clear c15
     obtain rfl := Option.some.inj H
     go_enter Tryd.func85, Tryd.ntmps85
     go_wp2
     go_ret
     exact ⟨by first | rfl | simp | simp [*] | simp [bne_nil_], by repeat (first | exact Drawn0.refl _ | apply Drawn0.step)⟩
    ·rw [if_neg c15] at H
     have c15b0 : (a0 == 45) = false := beq_eq_false_iff_ne.mpr c15
     have c15b1 : (a0 != 45) = true := bne_iff_ne.mpr c15
     by_cases c16 : a1 = true
     ·subst c16
      have H1 : (some false) = some r := by rw [if_pos rfl] at H; exact H
      clear H
      have H := H1
      clear H1
      obtain rfl := Option.some.inj H
      go_enter Tryd.func85, Tryd.ntmps85
      go_wp2
      go_ret
      exact ⟨by first | rfl | simp | simp [*] | simp [bne_nil_], by repeat (first | exact Drawn0.refl _ | apply Drawn0.step)⟩
     ·replace c16 := Bool.eq_false_iff.mpr c16
      subst c16
      have H1 : (if a0 ≥ 97 then (some (decide (a0 ≤ 122))) else (some false)) = some r := by rw [if_neg (show ¬ (false = true) by decide)] at H; exact H
      clear H
      have H := H1
      clear H1
      by_cases c17 : a0 ≥ 97
      ·rw [if_pos c17] at H
       have c17b0 : decide (97 ≤ a0) = true := decide_eq_true c17
       clear c17
       obtain rfl := Option.some.inj H
       go_enter Tryd.func85, Tryd.ntmps85
       go_wp2
       go_ret
       exact ⟨by first | rfl | simp | simp [*] | simp [bne_nil_], by repeat (first | exact Drawn0.refl _ | apply Drawn0.step)⟩
      ·rw [if_neg c17] at H
       have c17b0 : decide (97 ≤ a0) = false := decide_eq_false c17
       clear c17
       obtain rfl := Option.some.inj H
       go_enter Tryd.func85, Tryd.ntmps85
       go_wp2
       go_ret
       exact ⟨by first | rfl | simp | simp [*] | simp [bne_nil_], by repeat (first | exact Drawn0.refl _ | apply Drawn0.step)⟩
  ·rw [if_neg c13] at H
   have c13b0 : decide (48 ≤ a0) = false := decide_eq_false c13
   clear c13
   by_cases c18 : a0 = 45
   ·rw [if_pos c18] at H
    have c18b0 : (a0 == 45) = true := beq_iff_eq.mpr c18
    have c18b1 : (a0 != 45) = false := bne_eq_false_iff_eq.mpr c18
    clear c18
    obtain rfl := Option.some.inj H
    go_enter Tryd.func85, Tryd.ntmps85
    go_wp2
    go_ret
    exact ⟨by first | rfl | simp | simp [*] | simp [bne_nil_], by repeat (first | exact Drawn0.refl _ | apply Drawn0.step)⟩
   ·rw [if_neg c18] at H
    have c18b0 : (a0 == 45) = false := beq_eq_false_iff_ne.mpr c18
    have c18b1 : (a0 != 45) = true := bne_iff_ne.mpr c18
    by_cases c19 : a1 = true
    ·subst c19
     have H1 : (some false) = some r := by rw [if_pos rfl] at H; exact H
     clear H
     have H := H1
     clear H1
     obtain rfl := Option.some.inj H
     go_enter Tryd.func85, Tryd.ntmps85
     go_wp2
     go_ret
     exact ⟨by first | rfl | simp | simp [*] | simp [bne_nil_], by repeat (first | exact Drawn0.refl _ | apply Drawn0.step)⟩
    ·replace c19 := Bool.eq_false_iff.mpr c19
     subst c19
     have H1 : (if a0 ≥ 97 then (some (decide (a0 ≤ 122))) else (some false)) = some r := by rw [if_neg (show ¬ (false = true) by decide)] at H; exact H
     clear H
     have H := H1
     clear H1
     by_cases c20 : a0 ≥ 97
     ·rw [if_pos c20] at H
      have c20b0 : decide (97 ≤ a0) = true := decide_eq_true c20
      clear c20
      obtain rfl := Option.some.inj H
      go_enter Tryd.func85, Tryd.ntmps85
      go_wp2
      go_ret
      exact ⟨by first | rfl | simp | simp [*] | simp [bne_nil_], by repeat (first | exact Drawn0.refl _ | apply Drawn0.step)⟩
     ·rw [if_neg c20] at H
      have c20b0 : decide (97 ≤ a0) = false := decide_eq_false c20
      clear c20
      obtain rfl := Option.some.inj H
      go_enter Tryd.func85, Tryd.ntmps85
      go_wp2
      go_ret
      exact ⟨by first | rfl | simp | simp [*] | simp [bne_nil_], by repeat (first | exact Drawn0.refl _ | apply Drawn0.step)⟩

/-! ### line_Name: function 63 -/
def line_Name.l0 : Nat → ByteArray → Int → Int → Option (Bool)
 | 0, _, _, _ => none
 | k + 1, x0, x5, x6 => if x6 < x5 then (if 0 ≤ x6 then (if x6 < (x0.size : Int) then ((line_sign.f (bt x0 x6) true).bind fun t192 => (if t192 = true then (line_Name.l0 k x0 x5 (wrap64 (x6 + 1))) else (some false))) else (none)) else (none)) else (if (x0.size : Int) ≥ 1 then (some (decide ((x0.size : Int) ≤ 60))) else (some false))
def line_Name.f (k : Nat) (a0 : ByteArray) : Option (Bool) := line_Name.l0 k a0 (a0.size : Int) 0
set_option maxHeartbeats 8000000 in
set_option maxRecDepth 100000 in
theorem line_Name.calls (k : Nat) (a0 : ByteArray) (r : Bool) (w : World) (h : line_Name.f k a0 = some r) :
  Calls Tryd.prog 63 #[.string a0] w fun e w' => e = .returned (.bool r) ∧ Drawn0 w w' := by
 have H : (line_Name.l0 k a0 (a0.size : Int) 0) = some r := h
 clear h
 have H' := Aside0.mk H
 clear H
 go_enter Tryd.func63, Tryd.ntmps63
 go_wp2
 go_loopg [6] k (fun kq v6 w' => ∃ (x6_1 : Int), v6 = .int .i64 x6_1 ∧ Aside0 (line_Name.l0 kq a0 (a0.size : Int) x6_1 = some r) ∧ Aside0 (kq ≤ k) ∧ Drawn0 w w')
 case atStart => exact ⟨(0), (by first | rfl | (simp; done) | (simp [*]; done)), H', ⟨Nat.le_refl _⟩, by repeat (first | exact Drawn0.refl _ | apply Drawn0.step)⟩
 case round =>
  clear H'
  obtain ⟨x6_1, rfl, HA, HK1, ⟨m1, rfl⟩⟩ := hrel
  cases gk with
  | zero => exact absurd HA.out (by simp [line_Name.l0])
  | succ k1 =>
   have H := HA.out
   clear HA
   simp only [line_Name.l0] at H
   by_cases c2 : x6_1 < (a0.size : Int)
   ·rw [if_pos c2] at H
    have c2b0 : decide (x6_1 < (a0.size : Int)) = true := decide_eq_true c2
    clear c2
    by_cases c3 : 0 ≤ x6_1
    ·rw [if_pos c3] at H
     have c3b0 : decide (0 ≤ x6_1) = true := decide_eq_true c3
     clear c3
     by_cases c4 : x6_1 < (a0.size : Int)
     ·rw [if_pos c4] at H
      have c4b0 : decide (x6_1 < (a0.size : Int)) = true := decide_eq_true c4
      clear c4
      replace H := Option.bind_eq_some_iff.mp H
      obtain ⟨t192, A60, H⟩ := H
      replace H : (if t192 = true then (line_Name.l0 k1 a0 (a0.size : Int) (wrap64 (x6_1 + 1))) else (some false)) = some r := H
      have A6 := Aside0.mk A60
      clear A60
      by_cases c7 : t192 = true
      ·subst c7
       have H1 : (line_Name.l0 k1 a0 (a0.size : Int) (wrap64 (x6_1 + 1))) = some r := by rw [if_pos rfl] at H; exact H
       clear H
       have H := H1
       clear H1
       have H' := Aside0.mk H
       clear H
       have p5 : 0 ≤ (x6_1 : Int) := of_decide_eq_true (by first | (with_reducible assumption) | assumption)
       have q5 : x6_1 < (a0.size : Int) := of_decide_eq_true (by first | (with_reducible assumption) | assumption)
       have hx5 := bt_at a0 x6_1
       replace p5 := eq_true p5
       replace q5 := eq_true q5
       go_wp2_with (first | ((with_reducible refine gate_callee (f := 85) rfl ?_); refine gm_ (some 12) Tryd.func85 #[.int .u8 (bt a0 x6_1), .bool true] ?_; (with_reducible refine (line_sign.calls (bt a0 x6_1) true true _ A6.out).mono ?_); rintro e w' ⟨rfl, ⟨nd, rfl⟩⟩; refine ⟨_, rfl, ?_⟩))
       go_roundg k1
       case measure => have := HK1.out; omega
       case rel => exact ⟨(wrap64 (x6_1 + 1)), (by first | rfl | (simp; done) | (simp [*]; done)), H', ⟨by have := HK1.out; omega⟩, by repeat (first | exact Drawn0.refl _ | apply Drawn0.step)⟩
      ·replace c7 := Bool.eq_false_iff.mpr c7
       subst c7
       have H1 : (some false) = some r := by rw [if_neg (show ¬ (false = true) by decide)] at H; exact H
       clear H
       have H := H1
       clear H1
       obtain rfl := Option.some.inj H
       have p5 : 0 ≤ (x6_1 : Int) := of_decide_eq_true (by first | (with_reducible assumption) | assumption)
       have q5 : x6_1 < (a0.size : Int) := of_decide_eq_true (by first | (with_reducible assumption) | assumption)
       have hx5 := bt_at a0 x6_1
       replace p5 := eq_true p5
       replace q5 := eq_true q5
       go_wp2_with (first | ((with_reducible refine gate_callee (f := 85) rfl ?_); refine gm_ (some 12) Tryd.func85 #[.int .u8 (bt a0 x6_1), .bool true] ?_; (with_reducible refine (line_sign.calls (bt a0 x6_1) true false _ A6.out).mono ?_); rintro e w' ⟨rfl, ⟨nd, rfl⟩⟩; refine ⟨_, rfl, ?_⟩))
       go_ret
       exact ⟨by first | rfl | simp | simp [*] | simp [bne_nil_], by repeat (first | exact Drawn0.refl _ | apply Drawn0.step)⟩
     ·rw [if_neg c4] at H
      exact absurd H (by simp)
    ·rw [if_neg c3] at H
     exact absurd H (by simp)
   ·rw [if_neg c2] at H
    have c2b0 : decide (x6_1 < (a0.size : Int)) = false := decide_eq_false c2
    clear c2
    by_cases c8 : (a0.size : Int) ≥ 1
    ·rw [if_pos c8] at H
     have c8b0 : decide (1 ≤ (a0.size : Int)) = true := decide_eq_true c8
     have c8b1 : decide (1 ≤ a0.size) = true := decide_eq_true (by omega)
     clear c8
     obtain rfl := Option.some.inj H
     go_wp2
     go_ret
     exact ⟨by first | rfl | simp | simp [*] | simp [bne_nil_], by repeat (first | exact Drawn0.refl _ | apply Drawn0.step)⟩
    ·rw [if_neg c8] at H
     have c8b0 : decide (1 ≤ (a0.size : Int)) = false := decide_eq_false c8
     have c8b1 : decide (1 ≤ a0.size) = false := decide_eq_false (by omega)
     clear c8
     obtain rfl := Option.some.inj H
     go_wp2
     go_ret
     exact ⟨by first | rfl | simp | simp [*] | simp [bne_nil_], by repeat (first | exact Drawn0.refl _ | apply Drawn0.step)⟩

/-! ### trystref08_letter: function 71 -/
def trystref08_letter.f (a0 : Int) (a1 : Bool) : Option (Bool) := if a0 ≥ 65 then (if a0 ≤ 90 then (some true) else (if a0 ≥ 48 then (if a0 ≤ 57 then (some true) else (if a0 = 45 then (some true) else (if a1 = true then (if a0 ≥ 97 then (some (decide (a0 ≤ 122))) else (some false)) else (some false)))) else (if a0 = 45 then (some true) else (if a1 = true then (if a0 ≥ 97 then (some (decide (a0 ≤ 122))) else (some false)) else (some false))))) else (if a0 ≥ 48 then (if a0 ≤ 57 then (some true) else (if a0 = 45 then (some true) else (if a1 = true then (if a0 ≥ 97 then (some (decide (a0 ≤ 122))) else (some false)) else (some false)))) else (if a0 = 45 then (some true) else (if a1 = true then (if a0 ≥ 97 then (some (decide (a0 ≤ 122))) else (some false)) else (some false))))
set_option maxHeartbeats 8000000 in
set_option maxRecDepth 100000 in
theorem trystref08_letter.calls (a0 : Int) (a1 : Bool) (r : Bool) (w : World) (h : trystref08_letter.f a0 a1 = some r) :
  Calls Tryd.prog 71 #[.int .u8 a0, .bool a1] w fun e w' => e = .returned (.bool r) ∧ Drawn0 w w' := by
 have H : (if a0 ≥ 65 then (if a0 ≤ 90 then (some true) else (if a0 ≥ 48 then (if a0 ≤ 57 then (some true) else (if a0 = 45 then (some true) else (if a1 = true then (if a0 ≥ 97 then (some (decide (a0 ≤ 122))) else (some false)) else (some false)))) else (if a0 = 45 then (some true) else (if a1 = true then (if a0 ≥ 97 then (some (decide (a0 ≤ 122))) else (some false)) else (some false))))) else (if a0 ≥ 48 then (if a0 ≤ 57 then (some true) else (if a0 = 45 then (some true) else (if a1 = true then (if a0 ≥ 97 then (some (decide (a0 ≤ 122))) else (some false)) else (some false)))) else (if a0 = 45 then (some true) else (if a1 = true then (if a0 ≥ 97 then (some (decide (a0 ≤ 122))) else (some false)) else (some false))))) = some r := h
 clear h
 by_cases c3 : a0 ≥ 65
 ·rw [if_pos c3] at H
  have c3b0 : decide (65 ≤ a0) = true := decide_eq_true c3
  clear c3
  by_cases c4 : a0 ≤ 90
  ·rw [if_pos c4] at H
   have c4b0 : decide (a0 ≤ 90) = true := decide_eq_true c4
   clear c4
   obtain rfl := Option.some.inj H
   go_enter Tryd.func71, Tryd.ntmps71
   go_wp2
   go_ret
   exact ⟨by first | rfl | simp | simp [*] | simp [bne_nil_], by repeat (first | exact Drawn0.refl _ | apply Drawn0.step)⟩
  ·rw [if_neg c4] at H
   have c4b0 : decide (a0 ≤ 90) = false := decide_eq_false c4
   clear c4
   by_cases c5 : a0 ≥ 48
   ·rw [if_pos c5] at H
    have c5b0 : decide (48 ≤ a0) = true := decide_eq_true c5
    clear c5
    by_cases c6 : a0 ≤ 57
    ·rw [if_pos c6] at H
     have c6b0 : decide (a0 ≤ 57) = true := decide_eq_true c6
     clear c6
     obtain rfl := Option.some.inj H
     go_enter Tryd.func71, Tryd.ntmps71
     go_wp2
     go_ret
     exact ⟨by first | rfl | simp | simp [*] | simp [bne_nil_], by repeat (first | exact Drawn0.refl _ | apply Drawn0.step)⟩
    ·rw [if_neg c6] at H
     have c6b0 : decide (a0 ≤ 57) = false := decide_eq_false c6
     clear c6
     by_cases c7 : a0 = 45
     ·rw [if_pos c7] at H
      have c7b0 : (a0 == 45) = true := beq_iff_eq.mpr c7
      have c7b1 : (a0 != 45) = false := bne_eq_false_iff_eq.mpr c7
      clear c7
      obtain rfl := Option.some.inj H
      go_enter Tryd.func71, Tryd.ntmps71
      go_wp2
      go_ret
      exact ⟨by first | rfl | simp | simp [*] | simp [bne_nil_], by repeat (first | exact Drawn0.refl _ | apply Drawn0.step)⟩
     ·rw [if_neg c7] at H
      have c7b0 : (a0 == 45) = false := beq_eq_false_iff_ne.mpr c7
      have c7b1 : (a0 != 45) = true := bne_iff_ne.mpr c7
      by_cases c8 : a1 = true
      ·subst c8
       have H1 : (if a0 ≥ 97 then (some (decide (a0 ≤ 122))) else (some false)) = some r := by rw [if_pos rfl] at H; exact H
       clear H
       have H := H1
       clear H1
       by_cases c9 : a0 ≥ 97
       ·rw [if_pos c9] at H
        have c9b0 : decide (97 ≤ a0) = true := decide_eq_true c9
        clear c9
        obtain rfl := Option.some.inj H
        go_enter Tryd.func71, Tryd.ntmps71
        go_wp2
        go_ret
        exact ⟨by first | rfl | simp | simp [*] | simp [bne_nil_], by repeat (first | exact Drawn0.refl _ | apply Drawn0.step)⟩
       ·rw [if_neg c9] at H
        have c9b0 : decide (97 ≤ a0) = false := decide_eq_false c9
        clear c9
        obtain rfl := Option.some.inj H
        go_enter Tryd.func71, Tryd.ntmps71
        go_wp2
        go_ret
        exact ⟨by first | rfl | simp | simp [*] | simp [bne_nil_], by repeat (first | exact Drawn0.refl _ | apply Drawn0.step)⟩
      ·replace c8 := Bool.eq_false_iff.mpr c8
       subst c8
       have H1 : (some false) = some r := by rw [if_neg (show ¬ (false = true) by decide)] at H; exact H
       clear H
       have H := H1
       clear H1
       obtain rfl := Option.some.inj H
       go_enter Tryd.func71, Tryd.ntmps71
       go_wp2
       go_ret
       exact ⟨by first | rfl | simp | simp [*] | simp [bne_nil_], by repeat (first | exact Drawn0.refl _ | apply Drawn0.step)⟩
   ·rw [if_neg c5] at H
    have c5b0 : decide (48 ≤ a0) = false := decide_eq_false c5
    clear c5
    by_cases c10 : a0 = 45
    ·rw [if_pos c10] at H
     have c10b0 : (a0 == 45) = true := beq_iff_eq.mpr c10
     have c10b1 : (a0 != 45) = false := bne_eq_false_iff_eq.mpr c10
     clear c10
     obtain rfl := Option.some.inj H
     go_enter Tryd.func71, Tryd.ntmps71
     go_wp2
     go_ret
     exact ⟨by first | rfl | simp | simp [*] | simp [bne_nil_], by repeat (first | exact Drawn0.refl _ | apply Drawn0.step)⟩
    ·rw [if_neg c10] at H
     have c10b0 : (a0 == 45) = false := beq_eq_false_iff_ne.mpr c10
     have c10b1 : (a0 != 45) = true := bne_iff_ne.mpr c10
     by_cases c11 : a1 = true
     ·subst c11
      have H1 : (if a0 ≥ 97 then (some (decide (a0 ≤ 122))) else (some false)) = some r := by rw [if_pos rfl] at H; exact H
      clear H
      have H := H1
      clear H1
      by_cases c12 : a0 ≥ 97
      ·rw [if_pos c12] at H
       have c12b0 : decide (97 ≤ a0) = true := decide_eq_true c12
       clear c12
       obtain rfl := Option.some.inj H
       go_enter Tryd.func71, Tryd.ntmps71
       go_wp2
       go_ret
       exact ⟨by first | rfl | simp | simp [*] | simp [bne_nil_], by repeat (first | exact Drawn0.refl _ | apply Drawn0.step)⟩
      ·rw [if_neg c12] at H
       have c12b0 : decide (97 ≤ a0) = false := decide_eq_false c12
       clear c12
       obtain rfl := Option.some.inj H
       go_enter Tryd.func71, Tryd.ntmps71
       go_wp2
       go_ret
       exact ⟨by first | rfl | simp | simp [*] | simp [bne_nil_], by repeat (first | exact Drawn0.refl _ | apply Drawn0.step)⟩
     ·replace c11 := Bool.eq_false_iff.mpr c11
      subst c11
      have H1 : (some false) = some r := by rw [if_neg (show ¬ (false = true) by decide)] at H; exact H
      clear H
      have H := H1
      clear H1
      obtain rfl := Option.some.inj H
      go_enter Tryd.func71, Tryd.ntmps71
      go_wp2
      go_ret
      exact ⟨by first | rfl | simp | simp [*] | simp [bne_nil_], by repeat (first | exact Drawn0.refl _ | apply Drawn0.step)⟩
 ·rw [if_neg c3] at H
  have c3b0 : decide (65 ≤ a0) = false := decide_eq_false c3
  clear c3
  by_cases c13 : a0 ≥ 48
  ·rw [if_pos c13] at H
   have c13b0 : decide (48 ≤ a0) = true := decide_eq_true c13
   clear c13
   by_cases c14 : a0 ≤ 57
   ·rw [if_pos c14] at H
    have c14b0 : decide (a0 ≤ 57) = true := decide_eq_true c14
    clear c14
    obtain rfl := Option.some.inj H
    go_enter Tryd.func71, Tryd.ntmps71
    go_wp2
    go_ret
    exact ⟨by first | rfl | simp | simp [*] | simp [bne_nil_], by repeat (first | exact Drawn0.refl _ | apply Drawn0.step)⟩
   ·rw [if_neg c14] at H
    have c14b0 : decide (a0 ≤ 57) = false := decide_eq_false c14
    clear c14
    by_cases c15 : a0 = 45
    ·rw [if_pos c15] at H
     have c15b0 : (a0 == 45) = true := beq_iff_eq.mpr c15
     have c15b1 : (a0 != 45) = false := bne_eq_false_iff_eq.mpr c15
     clear c15
     obtain rfl := Option.some.inj H
     go_enter Tryd.func71, Tryd.ntmps71
     go_wp2
     go_ret
     exact ⟨by first | rfl | simp | simp [*] | simp [bne_nil_], by repeat (first | exact Drawn0.refl _ | apply Drawn0.step)⟩
    ·rw [if_neg c15] at H
     have c15b0 : (a0 == 45) = false := beq_eq_false_iff_ne.mpr c15
     have c15b1 : (a0 != 45) = true := bne_iff_ne.mpr c15
     by_cases c16 : a1 = true
     ·subst c16
      have H1 : (if a0 ≥ 97 then (some (decide (a0 ≤ 122))) else (some false)) = some r := by rw [if_pos rfl] at H; exact H
      clear H
      have H := H1
      clear H1
      by_cases c17 : a0 ≥ 97
      ·rw [if_pos c17] at H
       have c17b0 : decide (97 ≤ a0) = true := decide_eq_true c17
       clear c17
       obtain rfl := Option.some.inj H
       go_enter Tryd.func71, Tryd.ntmps71
       go_wp2
       go_ret
       exact ⟨by first | rfl | simp | simp [*] | simp [bne_nil_], by repeat (first | exact Drawn0.refl _ | apply Drawn0.step)⟩
      ·rw [if_neg c17] at H
       have c17b0 : decide (97 ≤ a0) = false := decide_eq_false c17
       clear c17
       obtain rfl := Option.some.inj H
       go_enter Tryd.func71, Tryd.ntmps71
       go_wp2
       go_ret
       exact ⟨by first | rfl | simp | simp [*] | simp [bne_nil_], by repeat (first | exact Drawn0.refl _ | apply Drawn0.step)⟩
     ·replace c16 := Bool.eq_false_iff.mpr c16
      subst c16
      have H1 : (some false) = some r := by rw [if_neg (show ¬ (false = true) by decide)] at H; exact H
      clear H
      have H := H1
      clear H1
      obtain rfl := Option.some.inj H
      go_enter Tryd.func71, Tryd.ntmps71
      go_wp2
      go_ret
      exact ⟨by first | rfl | simp | simp [*] | simp [bne_nil_], by repeat (first | exact Drawn0.refl _ | apply Drawn0.step)⟩
  ·rw [if_neg c13] at H
   have c13b0 : decide (48 ≤ a0) = false := decide_eq_false c13
   clear c13
   by_cases c18 : a0 = 45
   ·rw [if_pos c18] at H
    have c18b0 : (a0 == 45) = true := beq_iff_eq.mpr c18
    have c18b1 : (a0 != 45) = false := bne_eq_false_iff_eq.mpr c18
    clear c18
    obtain rfl := Option.some.inj H
    go_enter Tryd.func71, Tryd.ntmps71
    go_wp2
    go_ret
    exact ⟨by first | rfl | simp | simp [*] | simp [bne_nil_], by repeat (first | exact Drawn0.refl _ | apply Drawn0.step)⟩
   ·rw [if_neg c18] at H
    have c18b0 : (a0 == 45) = false := beq_eq_false_iff_ne.mpr c18
    have c18b1 : (a0 != 45) = true := bne_iff_ne.mpr c18
    by_cases c19 : a1 = true
    ·subst c19
     have H1 : (if a0 ≥ 97 then (some (decide (a0 ≤ 122))) else (some false)) = some r := by rw [if_pos rfl] at H; exact H
     clear H
     have H := H1
     clear H1
     by_cases c20 : a0 ≥ 97
     ·rw [if_pos c20] at H
      have c20b0 : decide (97 ≤ a0) = true := decide_eq_true c20
      clear c20
      obtain rfl := Option.some.inj H
      go_enter Tryd.func71, Tryd.ntmps71
      go_wp2
      go_ret
      exact ⟨by first | rfl | simp | simp [*] | simp [bne_nil_], by repeat (first | exact Drawn0.refl _ | apply Drawn0.step)⟩
     ·rw [if_neg c20] at H
      have c20b0 : decide (97 ≤ a0) = false := decide_eq_false c20
      clear c20
      obtain rfl := Option.some.inj H
      go_enter Tryd.func71, Tryd.ntmps71
      go_wp2
      go_ret
      exact ⟨by first | rfl | simp | simp [*] | simp [bne_nil_], by repeat (first | exact Drawn0.refl _ | apply Drawn0.step)⟩
    ·replace c19 := Bool.eq_false_iff.mpr c19
     subst c19
     have H1 : (some false) = some r := by rw [if_neg (show ¬ (false = true) by decide)] at H; exact H
     clear H
     have H := H1
     clear H1
     obtain rfl := Option.some.inj H
     go_enter Tryd.func71, Tryd.ntmps71
     go_wp2
     go_ret
     exact ⟨by first | rfl | simp | simp [*] | simp [bne_nil_], by repeat (first | exact Drawn0.refl _ | apply Drawn0.step)⟩

/-! ### trystref08_Name: function 49 -/
def trystref08_Name.l0 : Nat → ByteArray → Int → Int → Option (Bool)
 | 0, _, _, _ => none
 | k + 1, x0, x5, x6 => if x6 < x5 then (if 0 ≤ x6 then (if x6 < (x0.size : Int) then ((trystref08_letter.f (bt x0 x6) false).bind fun t267 => (if t267 = true then (trystref08_Name.l0 k x0 x5 (wrap64 (x6 + 1))) else (some false))) else (none)) else (none)) else (if (x0.size : Int) > 0 then (some (decide ((x0.size : Int) ≤ 60))) else (some false))
def trystref08_Name.f (k : Nat) (a0 : ByteArray) : Option (Bool) := trystref08_Name.l0 k a0 (a0.size : Int) 0
set_option maxHeartbeats 8000000 in
set_option maxRecDepth 100000 in
theorem trystref08_Name.calls (k : Nat) (a0 : ByteArray) (r : Bool) (w : World) (h : trystref08_Name.f k a0 = some r) :
  Calls Tryd.prog 49 #[.string a0] w fun e w' => e = .returned (.bool r) ∧ Drawn0 w w' := by
 have H : (trystref08_Name.l0 k a0 (a0.size : Int) 0) = some r := h
 clear h
 have H' := Aside0.mk H
 clear H
 go_enter Tryd.func49, Tryd.ntmps49
 go_wp2
 go_loopg [6] k (fun kq v6 w' => ∃ (x6_1 : Int), v6 = .int .i64 x6_1 ∧ Aside0 (trystref08_Name.l0 kq a0 (a0.size : Int) x6_1 = some r) ∧ Aside0 (kq ≤ k) ∧ Drawn0 w w')
 case atStart => exact ⟨(0), (by first | rfl | (simp; done) | (simp [*]; done)), H', ⟨Nat.le_refl _⟩, by repeat (first | exact Drawn0.refl _ | apply Drawn0.step)⟩
 case round =>
  clear H'
  obtain ⟨x6_1, rfl, HA, HK1, ⟨m1, rfl⟩⟩ := hrel
  cases gk with
  | zero => exact absurd HA.out (by simp [trystref08_Name.l0])
  | succ k1 =>
   have H := HA.out
   clear HA
   simp only [trystref08_Name.l0] at H
   by_cases c2 : x6_1 < (a0.size : Int)
   ·rw [if_pos c2] at H
    have c2b0 : decide (x6_1 < (a0.size : Int)) = true := decide_eq_true c2
    clear c2
    by_cases c3 : 0 ≤ x6_1
    ·rw [if_pos c3] at H
     have c3b0 : decide (0 ≤ x6_1) = true := decide_eq_true c3
     clear c3
     by_cases c4 : x6_1 < (a0.size : Int)
     ·rw [if_pos c4] at H
      have c4b0 : decide (x6_1 < (a0.size : Int)) = true := decide_eq_true c4
      clear c4
      replace H := Option.bind_eq_some_iff.mp H
      obtain ⟨t267, A60, H⟩ := H
      replace H : (if t267 = true then (trystref08_Name.l0 k1 a0 (a0.size : Int) (wrap64 (x6_1 + 1))) else (some false)) = some r := H
      have A6 := Aside0.mk A60
      clear A60
      by_cases c7 : t267 = true
      ·subst c7
       have H1 : (trystref08_Name.l0 k1 a0 (a0.size : Int) (wrap64 (x6_1 + 1))) = some r := by rw [if_pos rfl] at H; exact H
       clear H
       have H := H1
       clear H1
       have H' := Aside0.mk H
       clear H
       have p5 : 0 ≤ (x6_1 : Int) := of_decide_eq_true (by first | (with_reducible assumption) | assumption)
       have q5 : x6_1 < (a0.size : Int) := of_decide_eq_true (by first | (with_reducible assumption) | assumption)
       have hx5 := bt_at a0 x6_1
       replace p5 := eq_true p5
       replace q5 := eq_true q5
       go_wp2_with (first | ((with_reducible refine gate_callee (f := 71) rfl ?_); refine gm_ (some 12) Tryd.func71 #[.int .u8 (bt a0 x6_1), .bool false] ?_; (with_reducible refine (trystref08_letter.calls (bt a0 x6_1) false true _ A6.out).mono ?_); rintro e w' ⟨rfl, ⟨nd, rfl⟩⟩; refine ⟨_, rfl, ?_⟩))
       go_roundg k1
       case measure => have := HK1.out; omega
       case rel => exact ⟨(wrap64 (x6_1 + 1)), (by first | rfl | (simp; done) | (simp [*]; done)), H', ⟨by have := HK1.out; omega⟩, by repeat (first | exact Drawn0.refl _ | apply Drawn0.step)⟩
      ·replace c7 := Bool.eq_false_iff.mpr c7
       subst c7
       have H1 : (some false) = some r := by rw [if_neg (show ¬ (false = true) by decide)] at H; exact H
       clear H
       have H := H1
       clear H1
       obtain rfl := Option.some.inj H
       have p5 : 0 ≤ (x6_1 : Int) := of_decide_eq_true (by first | (with_reducible assumption) | assumption)
       have q5 : x6_1 < (a0.size : Int) := of_decide_eq_true (by first | (with_reducible assumption) | assumption)
       have hx5 := bt_at a0 x6_1
       replace p5 := eq_true p5
       replace q5 := eq_true q5
       go_wp2_with (first | ((with_reducible refine gate_callee (f := 71) rfl ?_); refine gm_ (some 12) Tryd.func71 #[.int .u8 (bt a0 x6_1), .bool false] ?_; (with_reducible refine (trystref08_letter.calls (bt a0 x6_1) false false _ A6.out).mono ?_); rintro e w' ⟨rfl, ⟨nd, rfl⟩⟩; refine ⟨_, rfl, ?_⟩))
       go_ret
       exact ⟨by first | rfl | simp | simp [*] | simp [bne_nil_], by repeat (first | exact Drawn0.refl _ | apply Drawn0.step)⟩
     ·rw [if_neg c4] at H
      exact absurd H (by simp)
    ·rw [if_neg c3] at H
     exact absurd H (by simp)
   ·rw [if_neg c2] at H
    have c2b0 : decide (x6_1 < (a0.size : Int)) = false := decide_eq_false c2
    clear c2
    by_cases c8 : (a0.size : Int) > 0
    ·rw [if_pos c8] at H
     have c8b0 : decide (0 < (a0.size : Int)) = true := decide_eq_true c8
     have c8b1 : decide (0 < a0.size) = true := decide_eq_true (by omega)
     clear c8
     obtain rfl := Option.some.inj H
     go_wp2
     go_ret
     exact ⟨by first | rfl | simp | simp [*] | simp [bne_nil_], by repeat (first | exact Drawn0.refl _ | apply Drawn0.step)⟩
    ·rw [if_neg c8] at H
     have c8b0 : decide (0 < (a0.size : Int)) = false := decide_eq_false c8
     have c8b1 : decide (0 < a0.size) = false := decide_eq_false (by omega)
     clear c8
     obtain rfl := Option.some.inj H
     go_wp2
     go_ret
     exact ⟨by first | rfl | simp | simp [*] | simp [bne_nil_], by repeat (first | exact Drawn0.refl _ | apply Drawn0.step)⟩

end Go.Proofs.YtddoidcbpcmlaaaDoor.M
/- Names of lines: line.Name and trystref08.Name: one answer. (By hand.) -/
namespace Go.Proofs.YtddoidcbpcmlaaaDoor.LinN
open Go.RowKit Go.Proofs.YtddoidcbpcmlaaaDoorW.PrintWords Go.Proofs.YtddoidcbpcmlaaaDoorW.PrintLast Go.Proofs.YtddoidcbpcmlaaaDoor.M
set_option linter.unusedVariables false
set_option linter.unusedSimpArgs false
def nc (z : Int) : Bool := (decide (z ≥ 65) && decide (z ≤ 90)) || (decide (z ≥ 48) && decide (z ≤ 57)) || decide (z = 45)
theorem sign (z : Int) : line_sign.f z true = some (nc z) := by
 unfold line_sign.f nc
 (repeat' split) <;> simp_all <;> omega
theorem letter (z : Int) : trystref08_letter.f z false = some (nc z) := by
 unfold trystref08_letter.f nc
 (repeat' split) <;> simp_all <;> omega
def nameB (s : ByteArray) : Bool := ((List.range s.size).all fun j => nc (bt s (j : Int))) && (decide (s.size ≥ 1) && decide (s.size ≤ 60))
theorem no {s : ByteArray} {j : Nat} (hj : j < s.size) (h : nc (bt s (j : Int)) = false) : nameB s = false := by
 unfold nameB
 have : ((List.range s.size).all fun j => nc (bt s (j : Int))) = false := by
  cases q : (List.range s.size).all fun j => nc (bt s (j : Int)) with
  | false => rfl
  | true => have := List.all_eq_true.1 q j (List.mem_range.2 hj); rw [h] at this; cases this
 rw [this]
 rfl
theorem yes {s : ByteArray} (h : ∀ j : Nat, j < s.size → nc (bt s (j : Int)) = true) : nameB s = (decide (s.size ≥ 1) && decide (s.size ≤ 60)) := by
 unfold nameB
 have : ((List.range s.size).all fun j => nc (bt s (j : Int))) = true := List.all_eq_true.2 fun j hj => h j (List.mem_range.1 hj)
 rw [this]
 rfl
theorem lin_l (s : ByteArray) (hs : s.size ≤ 9223372036854775807) : ∀ q i : Nat, i + q = s.size → (∀ j : Nat, j < i → nc (bt s (j : Int)) = true) → ∀ k, line_Name.l0 (q + 1 + k) s (s.size : Int) (i : Int) = some (nameB s) ∧ trystref08_Name.l0 (q + 1 + k) s (s.size : Int) (i : Int) = some (nameB s) := by
 intro q
 induction q with
 | zero =>
  intro i h hu k
  rw [show 0 + 1 + k = k + 1 from by omega]
  unfold line_Name.l0 trystref08_Name.l0
  simp only [if_neg (show ¬ (i : Int) < (s.size : Int) by omega), yes (fun j hj => hu j (by omega))]
  by_cases c : s.size ≥ 1
  ·rw [if_pos (by omega), if_pos (by omega), decide_eq_true c, Bool.true_and]
   have e : decide ((s.size : Int) ≤ 60) = decide (s.size ≤ 60) := decide_eq_decide.2 (by omega)
   exact ⟨by rw [e], by rw [e]⟩
  ·rw [if_neg (by omega), if_neg (by omega), decide_eq_false c, Bool.false_and]
   exact ⟨rfl, rfl⟩
 | succ q ih =>
  intro i h hu k
  have e1 : wrap64 ((i : Int) + 1) = ((i + 1 : Nat) : Int) := by unfold wrap64; omega
  rw [show q + 1 + 1 + k = (q + 1 + k) + 1 from by omega]
  unfold line_Name.l0 trystref08_Name.l0
  simp only [if_pos (show (i : Int) < (s.size : Int) by omega), if_pos (show 0 ≤ (i : Int) by omega), e1, sign, letter, Option.bind_some]
  cases hc : nc (bt s (i : Int)) with
  | false =>
   rw [no (by omega) hc]
   simp
  | true =>
   have := ih (i + 1) (by omega) (fun j hj => by
    by_cases e : j = i
    ·subst e; exact hc
    ·exact hu j (by omega)) k
   simpa using this
theorem lin (s : ByteArray) (hs : s.size ≤ 9223372036854775807) (k : Nat) (hk : s.size + 1 ≤ k) : line_Name.f k s = some (nameB s) ∧ trystref08_Name.f k s = some (nameB s) := by
 obtain ⟨q, rfl⟩ : ∃ q, k = s.size + 1 + q := ⟨k - (s.size + 1), by omega⟩
 exact lin_l s hs s.size 0 (by omega) (fun j hj => by omega) q
end Go.Proofs.YtddoidcbpcmlaaaDoor.LinN
