/- Spans, in plain words: merging a list that ascends by its beginnings keeps the seconds and leaves the spans apart. -/
namespace Go.Proofs.Ytddoidcbpcmlaaa.AgeN
set_option linter.unusedVariables false
abbrev Sp := Int × Int
def cov (s : Sp) (a : Int) : Prop := s.1 ≤ a ∧ a < s.2
def mg : Sp → List Sp → List Sp
  | c, [] => [c]
  | c, s :: r => if s.1 ≤ c.2 then mg (c.1, max c.2 s.2) r else c :: mg s r
def merge : List Sp → List Sp
  | [] => []
  | s :: r => mg s r
def Asc : List Sp → Prop
  | [] => True
  | s :: r => (∀ x ∈ r, s.1 ≤ x.1) ∧ Asc r
def Full (l : List Sp) : Prop := ∀ x ∈ l, x.1 < x.2
/-- Apart and ascending. -/
def Neat : List Sp → Prop
  | [] => True
  | [s] => s.1 < s.2
  | s :: t :: r => s.1 < s.2 ∧ s.2 < t.1 ∧ Neat (t :: r)
theorem mg_cov (a : Int) (r : List Sp) : ∀ c : Sp, c.1 < c.2 → Full r → (∀ x ∈ r, c.1 ≤ x.1) → Asc r → ((∃ x ∈ mg c r, cov x a) ↔ cov c a ∨ ∃ x ∈ r, cov x a) := by
  induction r with
  | nil => intro c _ _ _ _; simp [mg]
  | cons s r ih =>
    intro c hc hf hl ha
    have hs := hf s (by simp)
    have hls := hl s (by simp)
    unfold mg
    by_cases q : s.1 ≤ c.2
    · rw [if_pos q, ih (c.1, max c.2 s.2) (by show c.1 < max c.2 s.2; omega) (fun x hx => hf x (by simp [hx])) (fun x hx => hl x (by simp [hx])) ha.2]
      have e : cov (c.1, max c.2 s.2) a ↔ cov c a ∨ cov s a := by
        unfold cov
        show c.1 ≤ a ∧ a < max c.2 s.2 ↔ _
        omega
      rw [e]
      simp only [List.mem_cons, exists_eq_or_imp]
      exact or_assoc
    · rw [if_neg q]
      simp only [List.mem_cons, exists_eq_or_imp]
      rw [ih s hs (fun x hx => hf x (by simp [hx])) ha.1 ha.2]
theorem merge_cov (a : Int) (l : List Sp) (hf : Full l) (ha : Asc l) : (∃ x ∈ merge l, cov x a) ↔ ∃ x ∈ l, cov x a := by
  cases l with
  | nil => simp [merge]
  | cons s r =>
    show (∃ x ∈ mg s r, cov x a) ↔ _
    rw [mg_cov a r s (hf s (by simp)) (fun x hx => hf x (by simp [hx])) ha.1 ha.2]
    simp
theorem mg_neat (r : List Sp) : ∀ c : Sp, c.1 < c.2 → Full r → (∀ x ∈ r, c.1 ≤ x.1) → Asc r → ∃ t l, mg c r = (c.1, t) :: l ∧ Neat ((c.1, t) :: l) := by
  induction r with
  | nil => intro c hc _ _ _; exact ⟨c.2, [], rfl, hc⟩
  | cons s r ih =>
    intro c hc hf hl ha
    have hs := hf s (by simp)
    have hls := hl s (by simp)
    unfold mg
    by_cases q : s.1 ≤ c.2
    · rw [if_pos q]
      exact ih (c.1, max c.2 s.2) (by show c.1 < max c.2 s.2; omega) (fun x hx => hf x (by simp [hx])) (fun x hx => hl x (by simp [hx])) ha.2
    · rw [if_neg q]
      obtain ⟨t, l, e, hn⟩ := ih s hs (fun x hx => hf x (by simp [hx])) ha.1 ha.2
      rw [e]
      exact ⟨c.2, _, rfl, hc, by show c.2 < s.1; omega, hn⟩
theorem merge_neat (l : List Sp) (hf : Full l) (ha : Asc l) : Neat (merge l) := by
  cases l with
  | nil => trivial
  | cons s r =>
    obtain ⟨t, l, e, hn⟩ := mg_neat r s (hf s (by simp)) (fun x hx => hf x (by simp [hx])) ha.1 ha.2
    show Neat (mg s r)
    rw [e]; exact hn
theorem mg_same (r : List Sp) : ∀ c : Sp, Neat (c :: r) → mg c r = c :: r := by
  induction r with
  | nil => intro c _; rfl
  | cons s r ih =>
    intro c h
    unfold mg
    rw [if_neg (by have := h.2.1; omega), ih s h.2.2]
theorem merge_same (l : List Sp) (h : Neat l) : merge l = l := by
  cases l with
  | nil => rfl
  | cons s r => exact mg_same r s h
theorem neat_full : ∀ (l : List Sp), Neat l → Full l
  | [], _ => fun x hx => by cases hx
  | [s], h => fun x hx => by rw [List.mem_singleton] at hx; rw [hx]; exact h
  | s :: t :: r, h => fun x hx => by
    rcases List.mem_cons.1 hx with q | q
    · rw [q]; exact h.1
    · exact neat_full (t :: r) h.2.2 x q
theorem neat_lt : ∀ (r : List Sp) (s : Sp), Neat (s :: r) → ∀ x ∈ r, s.2 < x.1
  | [], _, _ => fun x hx => by cases hx
  | t :: r, s, h => fun x hx => by
    rcases List.mem_cons.1 hx with q | q
    · rw [q]; exact h.2.1
    · have a := neat_lt r t h.2.2 x q
      have b := neat_full _ h.2.2 t (by simp)
      have c := h.2.1
      omega
theorem neat_tail {s : Sp} {r : List Sp} (h : Neat (s :: r)) : Neat r := by
  cases r with
  | nil => trivial
  | cons t r => exact h.2.2
/-- A list that ascends and holds just what a neat list holds is that list. -/
theorem asc_perm (l : List Sp) : ∀ m : List Sp, Neat l → Asc m → m.Perm l → m = l := by
  induction l with
  | nil => intro m _ _ h; exact h.eq_nil
  | cons s r ih =>
    intro m hn ha hp
    cases m with
    | nil => exact absurd hp.symm.eq_nil (by simp)
    | cons t m =>
      have hs : s ∈ t :: m := hp.symm.subset (by simp)
      have ht : t ∈ s :: r := hp.subset (by simp)
      have e : t = s := by
        rcases List.mem_cons.1 ht with q | q
        · exact q
        · have a := neat_lt r s hn t q
          have b := neat_full _ hn s (by simp)
          rcases List.mem_cons.1 hs with q2 | q2
          · exact q2.symm
          · have := ha.1 s q2
            omega
      subst e
      rw [ih m (neat_tail hn) ha.2 (List.Perm.cons_inv hp)]
/-- A second held within the bounds. -/
def cl (x : Int) : Int := max (min x 1152921504606846976) (-1152921504606846976)
theorem cl_in (x : Int) : -1152921504606846976 ≤ cl x ∧ cl x ≤ 1152921504606846976 := by unfold cl; omega
theorem cl_id {x : Int} (h : -1152921504606846976 ≤ x ∧ x ≤ 1152921504606846976) : cl x = x := by unfold cl; omega
def clean (l : List Sp) : List Sp := (l.map fun s => (cl s.1, cl s.2)).filter fun s => decide (s.1 < s.2)
theorem clean_full (l : List Sp) : Full (clean l) := fun x hx => of_decide_eq_true (List.mem_filter.1 hx).2
theorem clean_cov (a : Int) (l : List Sp) : (∃ x ∈ clean l, cov x a) ↔ ∃ x ∈ l, cl x.1 ≤ a ∧ a < cl x.2 := by
  constructor
  · rintro ⟨x, hx, h⟩
    obtain ⟨y, hy, rfl⟩ := List.mem_map.1 (List.mem_filter.1 hx).1
    exact ⟨y, hy, h⟩
  · rintro ⟨y, hy, h⟩
    refine ⟨(cl y.1, cl y.2), List.mem_filter.2 ⟨List.mem_map.2 ⟨y, hy, rfl⟩, decide_eq_true ?_⟩, h⟩
    show cl y.1 < cl y.2
    omega
def Bd (l : List Sp) : Prop := ∀ x ∈ l, (-1152921504606846976 ≤ x.1 ∧ x.1 ≤ 1152921504606846976) ∧ (-1152921504606846976 ≤ x.2 ∧ x.2 ≤ 1152921504606846976)
theorem clean_bd (l : List Sp) : Bd (clean l) := fun x hx => by
  obtain ⟨y, hy, rfl⟩ := List.mem_map.1 (List.mem_filter.1 hx).1
  exact ⟨cl_in _, cl_in _⟩
theorem mg_bd (r : List Sp) : ∀ c : Sp, Bd (c :: r) → Bd (mg c r) := by
  induction r with
  | nil => intro c h; exact h
  | cons s r ih =>
    intro c h
    have hc := h c (by simp)
    have hs := h s (by simp)
    unfold mg
    by_cases q : s.1 ≤ c.2
    · rw [if_pos q]
      refine ih _ (fun x hx => ?_)
      rcases List.mem_cons.1 hx with e | e
      · rw [e]; exact ⟨hc.1, by show _ ≤ max c.2 s.2 ∧ max c.2 s.2 ≤ _; omega⟩
      · exact h x (by simp [e])
    · rw [if_neg q]
      intro x hx
      rcases List.mem_cons.1 hx with e | e
      · rw [e]; exact hc
      · exact ih s (fun y hy => h y (by simp [List.mem_cons.1 hy])) x e
theorem merge_bd (l : List Sp) (h : Bd l) : Bd (merge l) := by
  cases l with
  | nil => exact h
  | cons s r => exact mg_bd r s h
theorem clean_same (l : List Sp) (h : Bd l) (hf : Full l) : clean l = l := by
  induction l with
  | nil => rfl
  | cons s r ih =>
    have hs := h s (by simp)
    have hr := ih (fun x hx => h x (by simp [hx])) (fun x hx => hf x (by simp [hx]))
    unfold clean at hr ⊢
    rw [List.map_cons, cl_id hs.1, cl_id hs.2, List.filter_cons, if_pos (decide_eq_true (hf s (by simp))), hr]
/-- Neat of a list: what merging any ascending order of the cleaned list gives. -/
def IsNeat (l n : List Sp) : Prop := ∃ m, m.Perm (clean l) ∧ Asc m ∧ n = merge m
theorem full_perm {m l : List Sp} (h : m.Perm l) (hf : Full l) : Full m := fun x hx => hf x (h.subset hx)
theorem isNeat_cov {l n : List Sp} (h : IsNeat l n) (a : Int) : (∃ x ∈ l, cl x.1 ≤ a ∧ a < cl x.2) ↔ ∃ x ∈ n, cl x.1 ≤ a ∧ a < cl x.2 := by
  obtain ⟨m, hp, ha, rfl⟩ := h
  have hb : Bd (merge m) := merge_bd m (fun x hx => clean_bd l x (hp.subset hx))
  have hf := full_perm hp (clean_full l)
  rw [← clean_cov, ← clean_cov, clean_same _ hb (neat_full _ (merge_neat m hf ha)), merge_cov a m hf ha]
  constructor
  · rintro ⟨x, hx, q⟩; exact ⟨x, hp.symm.subset hx, q⟩
  · rintro ⟨x, hx, q⟩; exact ⟨x, hp.subset hx, q⟩
theorem isNeat_neat {l n : List Sp} (h : IsNeat l n) : Neat n := by
  obtain ⟨m, hp, ha, rfl⟩ := h
  exact merge_neat m (full_perm hp (clean_full l)) ha
theorem isNeat_again {l n k : List Sp} (h : IsNeat l n) (h2 : IsNeat n k) : k = n := by
  have hn := isNeat_neat h
  obtain ⟨m, hp, ha, rfl⟩ := h
  have hb : Bd (merge m) := merge_bd m (fun x hx => clean_bd l x (hp.subset hx))
  obtain ⟨m2, hp2, ha2, rfl⟩ := h2
  rw [clean_same _ hb (neat_full _ hn)] at hp2
  rw [asc_perm _ m2 hn ha2 hp2, merge_same _ hn]
theorem neat_le {r : List Sp} {s : Sp} (h : Neat (s :: r)) : ∀ x ∈ s :: r, s.1 ≤ x.1 := fun x hx => by
  rcases List.mem_cons.1 hx with q | q
  · rw [q]; exact Int.le_refl _
  · have a := neat_lt r s h x q
    have b := neat_full _ h s (by simp)
    omega
theorem tail_cov {s t : Sp} {r q : List Sp} (hn : Neat (s :: r)) (e2 : s.2 = t.2) (h : ∀ a, (∃ x ∈ s :: r, cov x a) → ∃ x ∈ t :: q, cov x a) (a : Int) (hc : ∃ x ∈ r, cov x a) : ∃ x ∈ q, cov x a := by
  obtain ⟨x, hx, c1, c2⟩ := hc
  have l := neat_lt r s hn x hx
  obtain ⟨y, hy, d1, d2⟩ := h a ⟨x, by simp [hx], c1, c2⟩
  rcases List.mem_cons.1 hy with z | z
  · rw [z] at d2; omega
  · exact ⟨y, z, d1, d2⟩
theorem end_le {s t : Sp} {r q : List Sp} (hn : Neat (s :: r)) (hk : Neat (t :: q)) (e1 : s.1 = t.1) (h : ∀ a, (∃ x ∈ t :: q, cov x a) → ∃ x ∈ s :: r, cov x a) : t.2 ≤ s.2 := by
  rcases Int.lt_or_le s.2 t.2 with c | c
  · have b := neat_full _ hn s (by simp)
    obtain ⟨x, hx, d1, d2⟩ := h s.2 ⟨t, by simp, by omega, c⟩
    rcases List.mem_cons.1 hx with z | z
    · rw [z] at d2; omega
    · have := neat_lt r s hn x z; omega
  · exact c
theorem beg_le {s t : Sp} {r q : List Sp} (hn : Neat (s :: r)) (hk : Neat (t :: q)) (h : ∀ a, (∃ x ∈ s :: r, cov x a) → ∃ x ∈ t :: q, cov x a) : t.1 ≤ s.1 := by
  have b := neat_full _ hn s (by simp)
  obtain ⟨y, hy, d1, d2⟩ := h s.1 ⟨s, by simp, Int.le_refl _, b⟩
  have := neat_le hk y hy
  omega
/-- Two neat lists of the same seconds are one. -/
theorem neat_ext (n : List Sp) : ∀ k : List Sp, Neat n → Neat k → (∀ a, (∃ x ∈ n, cov x a) ↔ ∃ x ∈ k, cov x a) → n = k := by
  induction n with
  | nil =>
    intro k _ hk h
    cases k with
    | nil => rfl
    | cons t q =>
      obtain ⟨x, hx, _⟩ := (h t.1).2 ⟨t, by simp, Int.le_refl _, neat_full _ hk t (by simp)⟩
      cases hx
  | cons s r ih =>
    intro k hn hk h
    cases k with
    | nil =>
      obtain ⟨x, hx, _⟩ := (h s.1).1 ⟨s, by simp, Int.le_refl _, neat_full _ hn s (by simp)⟩
      cases hx
    | cons t q =>
      have f1 := fun a => (h a).1
      have f2 := fun a => (h a).2
      have e1 : s.1 = t.1 := by have := beg_le hn hk f1; have := beg_le hk hn f2; omega
      have e2 : s.2 = t.2 := by have := end_le hn hk e1 f2; have := end_le hk hn e1.symm f1; omega
      have e : s = t := Prod.ext e1 e2
      rw [ih q (neat_tail hn) (neat_tail hk) (fun a => ⟨tail_cov hn e2 f1 a, tail_cov hk e2.symm f2 a⟩), e]
theorem isNeat_one {l n k : List Sp} (h : IsNeat l n) (h2 : IsNeat l k) : n = k := by
  have a := isNeat_neat h
  have b := isNeat_neat h2
  refine neat_ext n k a b (fun x => ?_)
  obtain ⟨m, hp, ha, rfl⟩ := h
  obtain ⟨m2, hp2, ha2, rfl⟩ := h2
  rw [merge_cov x m (full_perm hp (clean_full l)) ha, merge_cov x m2 (full_perm hp2 (clean_full l)) ha2]
  constructor
  · rintro ⟨y, hy, q⟩; exact ⟨y, hp2.symm.subset (hp.subset hy), q⟩
  · rintro ⟨y, hy, q⟩; exact ⟨y, hp.symm.subset (hp2.subset hy), q⟩
end Go.Proofs.Ytddoidcbpcmlaaa.AgeN
