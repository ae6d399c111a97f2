/- Free and common spans are neat; how long neat spans are. -/
import Derived.Test.YtddoidcbpcmlaaaAgeF
namespace Go.Proofs.Ytddoidcbpcmlaaa.AgeG
open Go.Proofs.Ytddoidcbpcmlaaa.AgeN Go.Proofs.Ytddoidcbpcmlaaa.AgeF
theorem neat_cons (s : Sp) (l : List Sp) (h : s.1 < s.2) (h2 : ∀ x ∈ l, s.2 < x.1) (h3 : Neat l) : Neat (s :: l) := by
  cases l with
  | nil => exact h
  | cons t r => exact ⟨h, h2 t (by simp), h3⟩
theorem fr_from (t : Int) (a : List Sp) : ∀ f, Neat a → ∀ x ∈ fr t f a, f ≤ x.1 ∧ x.1 < x.2 ∧ x.2 ≤ t := by
  induction a with
  | nil =>
    intro f _ x hx
    unfold fr at hx
    split at hx
    · rw [List.mem_singleton] at hx; subst hx; refine ⟨Int.le_refl _, ?_, Int.le_refl _⟩; assumption
    · cases hx
  | cons s r ih =>
    intro f h x hx
    have hs := neat_full _ h s (by simp)
    unfold fr at hx
    rcases List.mem_append.1 hx with hx | hx
    · split at hx
      · rename_i c
        rw [List.mem_singleton] at hx; subst hx
        refine ⟨Int.le_refl _, ?_, ?_⟩
        · show f < min s.1 t; omega
        · show min s.1 t ≤ t; omega
      · cases hx
    · have := ih (max f s.2) (neat_tail h) x hx
      omega
theorem fr_neat (t : Int) (a : List Sp) : ∀ f, Neat a → Neat (fr t f a) := by
  induction a with
  | nil =>
    intro f _
    unfold fr
    split
    · rename_i c; exact c
    · trivial
  | cons s r ih =>
    intro f h
    have hs := neat_full _ h s (by simp)
    unfold fr
    split
    · rename_i c
      refine neat_cons _ _ ?_ ?_ (ih _ (neat_tail h))
      · show f < min s.1 t; omega
      · intro x hx
        have := fr_from t r (max f s.2) (neat_tail h) x hx
        show min s.1 t < x.1
        omega
    · exact ih _ (neat_tail h)
theorem bo_from (f t m : Int) (a : List Sp) : (∀ x ∈ a, m < x.1) → ∀ x ∈ bo f t a, m < x.1 := by
  induction a with
  | nil => intro _ x hx; cases hx
  | cons s r ih =>
    intro h x hx
    have hs := h s (by simp)
    unfold bo at hx
    rcases List.mem_append.1 hx with hx | hx
    · split at hx
      · rw [List.mem_singleton] at hx; subst hx
        show m < max s.1 f
        omega
      · cases hx
    · split at hx
      · exact ih (fun y hy => h y (by simp [hy])) x hx
      · cases hx
theorem bo_in (f t : Int) (a : List Sp) (h : Bd a) : Bd (bo f t a) ∨ ∃ x ∈ bo f t a, ¬ (x.1 < x.2) := by
  by_cases c : ∃ x ∈ bo f t a, ¬ (x.1 < x.2)
  · exact .inr c
  · refine .inl ?_
    have c2 : ∀ x ∈ bo f t a, x.1 < x.2 := fun x hx => by
      by_cases d : x.1 < x.2
      · exact d
      · exact absurd ⟨x, hx, d⟩ c
    clear c
    induction a with
    | nil => intro x hx; cases hx
    | cons s r ih =>
      intro x hx
      have hx2 := c2 x hx
      have hs := h s (by simp)
      have ih' := ih (fun y hy => h y (by simp [hy]))
      unfold bo at hx c2
      rcases List.mem_append.1 hx with hx | hx
      · split at hx
        · rw [List.mem_singleton] at hx; subst hx
          revert hx2
          show max s.1 f < min s.2 t → (_ ≤ max s.1 f ∧ max s.1 f ≤ _) ∧ (_ ≤ min s.2 t ∧ min s.2 t ≤ _)
          omega
        · cases hx
      · split at hx
        · rename_i q
          refine ih' (fun y hy => c2 y (List.mem_append.2 (.inr ?_))) x hx
          rw [if_pos q]; exact hy
        · cases hx
theorem bo_neat (f t : Int) (a : List Sp) (h : Neat a) : Neat (bo f t a) := by
  induction a with
  | nil => trivial
  | cons s r ih =>
    have hs := neat_full _ h s (by simp)
    have i := ih (neat_tail h)
    have hl := neat_lt r s h
    unfold bo
    have e : Neat (if s.2 < t then bo f t r else []) := by split; exact i; trivial
    split
    · rename_i c
      refine neat_cons _ _ c ?_ e
      intro x hx
      split at hx
      · have := bo_from f t s.2 r hl x hx
        show min s.2 t < x.1
        omega
      · cases hx
    · exact e
theorem bo_bd (f t : Int) (a : List Sp) (h : Neat a) (hb : Bd a) : Bd (bo f t a) := by
  rcases bo_in f t a hb with c | ⟨x, hx, hn⟩
  · exact c
  · exact absurd (neat_full _ (bo_neat f t a h) x hx) hn
theorem fr_bd (f t : Int) (a : List Sp) (h : Neat a) (hf : -1152921504606846976 ≤ f) (ht : t ≤ 1152921504606846976) : Bd (fr t f a) := by
  intro x hx
  have := fr_from t a f h x hx
  omega
/-- A neat list within the bounds is its own neat list. -/
theorem isNeat_self (l : List Sp) (h : Neat l) (hb : Bd l) : IsNeat l l := by
  refine ⟨l, ?_, ?_, (merge_same l h).symm⟩
  · rw [clean_same l hb (neat_full l h)]
  · clear hb
    induction l with
    | nil => trivial
    | cons s r ih =>
      refine ⟨fun x hx => ?_, ih (neat_tail h)⟩
      have := neat_lt r s h x hx
      have := neat_full _ h s (by simp)
      omega
theorem len_le (M : Int) (r : List Sp) : ∀ s : Sp, Neat (s :: r) → (∀ x ∈ s :: r, x.2 ≤ M) → len (s :: r) ≤ M - s.1 := by
  induction r with
  | nil =>
    intro s _ hM
    have := hM s (by simp)
    show s.2 - s.1 + 0 ≤ M - s.1
    omega
  | cons t r ih =>
    intro s h hM
    have h1 := ih t (neat_tail h) (fun x hx => hM x (by simp [List.mem_cons.1 hx]))
    have h2 := h.2.1
    show s.2 - s.1 + len (t :: r) ≤ M - s.1
    omega
theorem len_nonneg (l : List Sp) (h : Neat l) : 0 ≤ len l := by
  induction l with
  | nil => exact Int.le_refl _
  | cons s r ih =>
    have := neat_full _ h s (by simp)
    have := ih (neat_tail h)
    show 0 ≤ s.2 - s.1 + len r
    omega
theorem len_bd (l : List Sp) (h : Neat l) (hb : Bd l) : len l ≤ 2305843009213693952 := by
  cases l with
  | nil => show (0 : Int) ≤ _; omega
  | cons s r =>
    have h1 := len_le 1152921504606846976 r s h (fun x hx => (hb x hx).2.2)
    have h2 := hb s (by simp)
    omega
theorem ovs_nonneg (f t : Int) (a : List Sp) : 0 ≤ ovs f t a := by
  induction a with
  | nil => exact Int.le_refl _
  | cons s r ih =>
    show 0 ≤ ov f t s + ovs f t r
    unfold ov
    omega
theorem isNeat_bd {l n : List Sp} (h : IsNeat l n) : Bd n := by
  obtain ⟨m, hp, ha, rfl⟩ := h
  exact merge_bd m (fun x hx => clean_bd l x (hp.subset hx))
end Go.Proofs.Ytddoidcbpcmlaaa.AgeG
