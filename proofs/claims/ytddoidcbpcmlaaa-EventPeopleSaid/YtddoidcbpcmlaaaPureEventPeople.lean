/- For every person and string, RightPerson, Address and Find return the specified results: with no condition. -/
import Derived.Test.YtddoidcbpcmlaaaPeople
import Derived.Test.YtddoidcbpcmlaaaQfind
import Derived.Test.YtddoidcbpcmlaaaQtrystlaw18EventPeople
import Derived.Test.YtddoidcbpcmlaaaOpPerson
namespace Go.Proofs.Ytddoidcbpcmlaaa.Pure
open Go.RowKit Go.Proofs.YtddoidcbpcmlaaaW.PrintWords Go.Proofs.YtddoidcbpcmlaaaW.PrintLast Go.Proofs.Ytddoidcbpcmlaaa.Q Go.Proofs.Ytddoidcbpcmlaaa.People
set_option linter.unusedVariables false
set_option linter.unusedSimpArgs false
namespace EventPeopleW
/-- No text of a person is too long to be. -/
def Fit (x : S40) : Prop := x.f0.size ≤ 9223372036854775807 ∧ x.f4.size ≤ 9223372036854775807 ∧ x.f5.size ≤ 9223372036854775807
def mx3 (x : S40) : Nat := x.f0.size + x.f4.size + x.f5.size
def top : List S40 → Nat
  | [] => 0
  | x :: l => mx3 x + top l
theorem top_get : ∀ (l : List S40) (i : Nat) (h : i < l.length), mx3 l[i] ≤ top l
  | x :: l, 0, _ => by simp [top]
  | x :: l, i + 1, h => by
    have := top_get l i (by simpa using h)
    simp [top]; omega
theorem rd_get (l : List S40) (i : Nat) (h : i < l.length) : rd_T40 l (i : Int) = l[i] := by
  unfold rd_T40
  have e : ((i : Nat) : Int).toNat = i := by omega
  rw [e, List.getD_eq_getElem?_getD, List.getElem?_eq_getElem h]; rfl
/-- A person of the text s. -/
def M (s : ByteArray) (x : S40) : Prop := x.f0.toList = s.toList
theorem find (s : ByteArray) (l : List S40) (hl : l.length ≤ 1000) : ∀ (d i : Nat), d + i = l.length →
    (∃ (a : Nat) (h : a < l.length), i ≤ a ∧ M s l[a] ∧ (∀ (j : Nat) (hj : j < l.length), i ≤ j → j < a → ¬ M s l[j]) ∧ ∀ k, d + 1 ≤ k → event_Find.l0 k s l l.length i = some (l[a].f0, l[a].f1, l[a].f2, l[a].f3, l[a].f4, l[a].f5, true)) ∨
    ((∀ (j : Nat) (hj : j < l.length), i ≤ j → ¬ M s l[j]) ∧ ∀ k, d + 1 ≤ k → event_Find.l0 k s l l.length i = some (⟨#[]⟩, 0, 0, false, ⟨#[]⟩, ⟨#[]⟩, false)) := by
  intro d
  induction d with
  | zero =>
    intro i h
    right
    refine ⟨fun j hj h1 => by omega, fun k hk => ?_⟩
    obtain ⟨k, rfl⟩ : ∃ m, k = m + 1 := ⟨k - 1, by omega⟩
    simp only [event_Find.l0]
    rw [if_neg (by omega)]
  | succ d ih =>
    intro i h
    have hi : i < l.length := by omega
    have hr := rd_get l i hi
    by_cases c : M s l[i]
    · left
      refine ⟨i, hi, Nat.le_refl _, c, fun j hj h1 h2 => by omega, fun k hk => ?_⟩
      obtain ⟨k, rfl⟩ : ∃ m, k = m + 1 := ⟨k - 1, by omega⟩
      simp only [event_Find.l0, hr]
      rw [if_pos (by omega), if_pos (by omega), if_pos (by omega), if_pos (show l[i].f0.toList = s.toList from c)]
    · have st : ∀ k, event_Find.l0 (k + 1) s l l.length i = event_Find.l0 k s l l.length ((i + 1 : Nat) : Int) := by
        intro k
        simp only [event_Find.l0, hr]
        rw [if_pos (by omega), if_pos (by omega), if_pos (by omega), if_neg (show ¬ l[i].f0.toList = s.toList from c), w64 (by omega) (by omega)]
        rfl
      rcases ih (i + 1) (by omega) with ⟨a, ha, h1, h2, h3, h4⟩ | ⟨h1, h2⟩
      · left
        refine ⟨a, ha, by omega, h2, fun j hj q1 q2 => ?_, fun k hk => ?_⟩
        · by_cases e : j = i
          · subst e; exact c
          · exact h3 j hj (by omega) q2
        · obtain ⟨k, rfl⟩ : ∃ m, k = m + 1 := ⟨k - 1, by omega⟩
          rw [st]; exact h4 k (by omega)
      · right
        refine ⟨fun j hj q1 => ?_, fun k hk => ?_⟩
        · by_cases e : j = i
          · subst e; exact c
          · exact h1 j hj (by omega)
        · obtain ⟨k, rfl⟩ : ∃ m, k = m + 1 := ⟨k - 1, by omega⟩
          rw [st]; exact h2 k (by omega)
/-- What the law's loop knows of the place found so far. -/
def At (s : ByteArray) (l : List S40) (i : Nat) (x : Int) : Prop :=
  (x = -1 ∧ ∀ (j : Nat) (hj : j < l.length), j < i → ¬ M s l[j]) ∨ (∃ (a : Nat) (h : a < l.length), a < i ∧ x = (a : Int) ∧ M s l[a] ∧ ∀ (j : Nat) (hj : j < l.length), j < a → ¬ M s l[j])
/-- What was found. -/
def Got (s : ByteArray) (l : List S40) (ok : Bool) (p : S40) : Prop :=
  (ok = true ∧ ∃ (a : Nat) (h : a < l.length), M s l[a] ∧ (∀ (j : Nat) (hj : j < l.length), j < a → ¬ M s l[j]) ∧ p = l[a]) ∨ (ok = false ∧ (∀ (j : Nat) (hj : j < l.length), ¬ M s l[j]) ∧ p = ⟨⟨#[]⟩, 0, 0, false, ⟨#[]⟩, ⟨#[]⟩⟩)
theorem loop (s : ByteArray) (hs : s.size ≤ 9223372036854775807) (l : List S40) (hl : l.length ≤ 50) (hf : ∀ x ∈ l, Fit x) (ok : Bool) (p : S40) (hg : Got s l ok p) : ∀ (d i : Nat) (x : Int), d + i = l.length → At s l i x →
    ∀ k, 2 * d + 2 * s.size + 2 * top l + 5 ≤ k → trystlaw18_EventPeople.l0 k l s ok x l.length i p.f0 p.f1 p.f2 p.f3 p.f4 p.f5 = some true := by
  intro d
  induction d with
  | zero =>
    intro i x h ha k hk
    obtain ⟨k, rfl⟩ : ∃ m, k = m + 1 := ⟨k - 1, by omega⟩
    simp only [trystlaw18_EventPeople.l0]
    rw [if_neg (by omega), ad1 s hs k (by omega), ad2 s hs k (by omega)]
    simp only [Option.bind_some]
    rw [if_neg (by simp)]
    rcases ha with ⟨rfl, hn⟩ | ⟨a, ha, h1, rfl, h2, h3⟩
    · rcases hg with ⟨_, a, ha, q1, _⟩ | ⟨rfl, q1, rfl⟩
      · exact absurd q1 (hn a ha (by omega))
      · rw [if_pos (by omega), if_neg (by simp)]
        simp [ByteArray.toList_eq]
    · rcases hg with ⟨rfl, b, hb, q1, q2, rfl⟩ | ⟨_, q1, _⟩
      · have e : a = b := by
          by_cases c : a < b
          · exact absurd h2 (q2 a ha c)
          · by_cases c' : b < a
            · exact absurd q1 (h3 b hb c')
            · omega
        subst e
        rw [if_neg (by omega), if_pos rfl, if_pos (by omega), if_pos (by omega), rd_get l a ha]
        simp
      · exact absurd h2 (q1 a ha)
  | succ d ih =>
    intro i x h ha k hk
    obtain ⟨k, rfl⟩ : ∃ m, k = m + 2 := ⟨k - 2, by omega⟩
    have hi : i < l.length := by omega
    have hr := rd_get l i hi
    have ht := top_get l i hi
    obtain ⟨f1, f2, f3⟩ := hf l[i] (List.getElem_mem hi)
    unfold mx3 at ht
    have ew : wrap64 (((i : Nat) : Int) + 1) = ((i + 1 : Nat) : Int) := by rw [w64 (by omega) (by omega)]; omega
    obtain ⟨b, hb1, hb2⟩ := persons (k + 1) l[i].f0 l[i].f4 l[i].f5 l[i].f1 l[i].f2 l[i].f3 f1 f2 f3 (by omega) (by omega) (by omega)
    simp only [trystlaw18_EventPeople.l0, hr]
    rw [if_pos (by omega), if_pos (by omega), if_pos (by omega)]
    by_cases c : wrap64 (wrap64 ((l[i].f0.size : Int) + (l[i].f4.size : Int)) + (l[i].f5.size : Int)) > 1000
    · rw [if_pos c]
      simp only [trystlaw18_EventPeople.j2, hr, if_true, eq_self]
      rw [if_pos (by omega), if_pos (by omega), decide_eq_true c]
    · rw [if_neg c, hb1, hb2]
      simp only [Option.bind_some, bne_self_eq_false]
      simp only [trystlaw18_EventPeople.j2, hr, Bool.false_eq_true, if_false, ew]
      rcases ha with ⟨rfl, hn⟩ | ⟨a, ha, h1, rfl, h2, h3⟩
      · rw [if_pos (by omega), if_pos (by omega), if_pos (by omega)]
        by_cases c2 : l[i].f0.toList = s.toList
        · rw [if_pos c2]
          exact ih (i + 1) _ (by omega) (Or.inr ⟨i, hi, by omega, rfl, c2, fun j hj q => hn j hj q⟩) k (by omega)
        · rw [if_neg c2]
          refine ih (i + 1) _ (by omega) (Or.inl ⟨rfl, fun j hj q => ?_⟩) k (by omega)
          by_cases e : j = i
          · subst e; exact c2
          · exact hn j hj (by omega)
      · rw [if_neg (by omega)]
        exact ih (i + 1) _ (by omega) (Or.inr ⟨a, ha, by omega, rfl, h2, h3⟩) k (by omega)
theorem aw : trystlaw18_awake.f 20 = some true := by kernel_rfl
theorem law (l : List S40) (s : ByteArray) (hs : s.size ≤ 9223372036854775807) (hf : ∀ x ∈ l, Fit x) : ∃ k, trystlaw18_EventPeople.f k l s = some true := by
  refine ⟨2 * l.length + 2 * s.size + 2 * top l + 100, ?_⟩
  have ha := fun k (hk : 20 ≤ k) => at_rounds trystlaw18_awake.mono hk aw
  unfold trystlaw18_EventPeople.f
  rw [ha _ (by omega), Option.bind_some, if_pos rfl]
  by_cases c : (l.length : Int) > 50
  · rw [if_pos c]
    simp only [trystlaw18_EventPeople.j0, if_true, eq_self]
    rw [ha _ (by omega)]; rfl
  · rw [if_neg c]
    by_cases c2 : (s.size : Int) > 500
    · rw [decide_eq_true c2]
      simp only [trystlaw18_EventPeople.j0, if_true, eq_self]
      rw [ha _ (by omega)]; rfl
    · rw [decide_eq_false c2]
      simp only [trystlaw18_EventPeople.j0, Bool.false_eq_true, if_false]
      unfold event_Find.f
      rcases find s l (by omega) l.length 0 (by omega) with ⟨a, h1, _, h2, h3, h4⟩ | ⟨h1, h2⟩
      · rw [show (0 : Int) = ((0 : Nat) : Int) from rfl, h4 _ (by omega)]
        simp only [Option.bind_some]
        exact loop s hs l (by omega) hf true l[a] (Or.inl ⟨rfl, a, h1, h2, fun j hj q => h3 j hj (by omega) q, rfl⟩) l.length 0 (-1) (by omega) (Or.inl ⟨rfl, fun j hj q => by omega⟩) _ (by omega)
      · rw [show (0 : Int) = ((0 : Nat) : Int) from rfl, h2 _ (by omega)]
        simp only [Option.bind_some]
        exact loop s hs l (by omega) hf false ⟨⟨#[]⟩, 0, 0, false, ⟨#[]⟩, ⟨#[]⟩⟩ (Or.inr ⟨rfl, fun j hj => h1 j hj (by omega), rfl⟩) l.length 0 (-1) (by omega) (Or.inl ⟨rfl, fun j hj q => by omega⟩) _ (by omega)
end EventPeopleW
theorem EventPeople_calls (A : Option Addr) (c : Nat) (l : List S40) (s : ByteArray) (w : World) (hC : Kd.C k40 w A l.length l) (hc : l.length ≤ c) (hf : ∀ x ∈ l, OpPerson.Ph x) (ws : s.size ≤ maxLen) :
    Calls Try.prog 4 #[.slice A l.length c, .string s] w fun e w' => e = .returned (.bool true) ∧ Below w.heap.size w w' := by
  unfold maxLen at ws
  obtain ⟨k, hk⟩ := EventPeopleW.law l s (by omega) (fun x hx => OpPerson.ph_fit (hf x hx))
  exact trystlaw18_EventPeople.calls k A c l s true w hC hc hk
end Go.Proofs.Ytddoidcbpcmlaaa.Pure
