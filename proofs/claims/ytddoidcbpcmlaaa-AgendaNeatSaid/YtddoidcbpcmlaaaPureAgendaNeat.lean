/- The neat spans have the same seconds, are neat, and stay as they are. -/
import Derived.Test.YtddoidcbpcmlaaaAgeW
import Derived.Test.YtddoidcbpcmlaaaGtrystlaw28AgendaNeat
import Derived.Test.YtddoidcbpcmlaaaOpSpan
namespace Go.Proofs.Ytddoidcbpcmlaaa.Pure
open Go.RowKit Go.Proofs.YtddoidcbpcmlaaaW.PrintWords Go.Proofs.YtddoidcbpcmlaaaW.PrintLast Go.Proofs.Ytddoidcbpcmlaaa.G
set_option linter.unusedVariables false
set_option linter.unusedSimpArgs false
namespace AgendaNeatW
abbrev S := S67
theorem wr (n : Nat) (h : n < 4611686018427387904) : wrap64 ((n : Int) + 1) = ((n + 1 : Nat) : Int) := by unfold wrap64; omega
theorem within (a : Int) : trystlaw28_within.f a = some (AgeN.cl a) := by
  unfold trystlaw28_within.f AgeN.cl mx mn
  congr 1
  split <;> split <;> omega
def inS (l : List S) (a : Int) : Bool := l.any fun x => decide (AgeN.cl x.f0 ≤ a) && decide (a < AgeN.cl x.f1)
theorem in_go (a : Int) (r : List S) : ∀ (pre : List S) (k : Nat), r.length < k → (pre ++ r).length < 4398046511104 →
    trystlaw28_in.l0 k (pre ++ r) a ((pre ++ r).length : Int) (pre.length : Int) = some (inS r a) := by
  induction r with
  | nil =>
    intro pre k hk hb
    obtain ⟨k, rfl⟩ : ∃ m, k = m + 1 := ⟨k - 1, by simp at hk; omega⟩
    simp only [trystlaw28_in.l0]
    rw [if_neg (by simp)]
    rfl
  | cons s r ih =>
    intro pre k hk hb
    obtain ⟨k, rfl⟩ : ∃ m, k = m + 1 := ⟨k - 1, by simp at hk; omega⟩
    have hb2 : pre.length + (r.length + 1) < 4398046511104 := by simpa using hb
    simp only [trystlaw28_in.l0]
    rw [if_pos (by simp; omega), if_pos (by omega), if_pos (by simp; omega), AgeW.rd_at, within, Option.bind_some, within, Option.bind_some, wr pre.length (by omega)]
    have e1 : pre ++ s :: r = (pre ++ [s]) ++ r := by simp
    have e2 : ((pre.length + 1 : Nat) : Int) = ((pre ++ [s]).length : Int) := by simp
    have := ih (pre ++ [s]) k (by simp at hk; omega) (by simpa using hb2)
    unfold inS at this ⊢
    rw [List.any_cons]
    by_cases c : AgeN.cl s.f0 ≤ a
    · rw [if_pos c, decide_eq_true c, Bool.true_and]
      by_cases d : a < AgeN.cl s.f1
      · rw [if_pos d, decide_eq_true d]; rfl
      · rw [if_neg d, decide_eq_false d, Bool.false_or, e1, e2, this]
    · rw [if_neg c, decide_eq_false c, Bool.false_and, Bool.false_or, e1, e2, this]
theorem in_all (l : List S) (a : Int) (k : Nat) (hk : l.length < k) (hb : l.length < 4398046511104) : trystlaw28_in.f k l a = some (inS l a) := by
  have := in_go a l [] k hk (by simpa using hb)
  simpa [trystlaw28_in.f] using this
theorem in_iff (l : List S) (a : Int) : inS l a = true ↔ ∃ x ∈ l.map AgeW.pr, AgeN.cl x.1 ≤ a ∧ a < AgeN.cl x.2 := by
  unfold inS
  rw [List.any_eq_true]
  constructor
  · rintro ⟨x, hx, h⟩
    rw [Bool.and_eq_true] at h
    exact ⟨AgeW.pr x, List.mem_map.2 ⟨x, hx, rfl⟩, of_decide_eq_true h.1, of_decide_eq_true h.2⟩
  · rintro ⟨y, hy, h1, h2⟩
    obtain ⟨x, hx, rfl⟩ := List.mem_map.1 hy
    exact ⟨x, hx, by rw [Bool.and_eq_true]; exact ⟨decide_eq_true h1, decide_eq_true h2⟩⟩
theorem in_same (l : List S) (a : Int) : inS l a = inS (AgeW.neatS l) a := by
  have h := AgeN.isNeat_cov (AgeW.neatS_is l) a
  rw [← in_iff, ← in_iff] at h
  cases h1 : inS l a <;> cases h2 : inS (AgeW.neatS l) a <;> simp_all
theorem neat_go (r : List S) : ∀ (pre : List S) (s : S) (k : Nat), r.length < k → (pre ++ s :: r).length < 4398046511104 → AgeN.Neat ((s :: r).map AgeW.pr) →
    trystlaw28_neat.l0 k (pre ++ s :: r) ((pre ++ s :: r).length : Int) ((pre.length + 1 : Nat) : Int) = some true := by
  induction r with
  | nil =>
    intro pre s k hk hb hn
    obtain ⟨k, rfl⟩ : ∃ m, k = m + 1 := ⟨k - 1, by simp at hk; omega⟩
    simp only [trystlaw28_neat.l0]
    rw [if_neg (by simp)]
  | cons t r ih =>
    intro pre s k hk hb hn
    obtain ⟨k, rfl⟩ : ∃ m, k = m + 1 := ⟨k - 1, by simp at hk; omega⟩
    have hb2 : pre.length + (r.length + 1 + 1) < 4398046511104 := by simpa using hb
    obtain ⟨n1, n2, n3⟩ := hn
    have n4 := AgeN.neat_full _ n3 (AgeW.pr t) (by simp)
    have e1 : pre ++ s :: t :: r = (pre ++ [s]) ++ t :: r := by simp
    have e2 : ((pre.length + 1 : Nat) : Int) = ((pre ++ [s]).length : Int) := by simp
    have r1 : rd_T67 (pre ++ s :: t :: r) ((pre.length + 1 : Nat) : Int) = t := by rw [e1, e2]; exact AgeW.rd_at _ _ _
    have r2 : rd_T67 (pre ++ s :: t :: r) (pre.length : Int) = s := AgeW.rd_at _ _ _
    have w1 : wrap64 (((pre.length + 1 : Nat) : Int) - 1) = (pre.length : Int) := by unfold wrap64; omega
    simp only [trystlaw28_neat.l0]
    rw [r1, w1, r2, wr (pre.length + 1) (by omega)]
    have h4 : ¬ t.f0 ≥ t.f1 := by have : t.f0 < t.f1 := n4; omega
    have h2 : ¬ s.f1 ≥ t.f0 := by have : s.f1 < t.f0 := n2; omega
    rw [if_pos (by simp; omega), if_pos (by omega), if_pos (by simp; omega), if_neg h4, if_pos (by omega), if_pos (by omega), if_pos (by simp; omega), if_neg h2]
    have := ih (pre ++ [s]) t k (by simp at hk; omega) (by simpa using hb2) n3
    rw [e1]
    simpa using this
theorem neat_all (l : List S) (k : Nat) (hk : l.length < k) (hb : l.length < 4398046511104) (hn : AgeN.Neat (l.map AgeW.pr)) : trystlaw28_neat.f k l = some true := by
  unfold trystlaw28_neat.f
  cases l with
  | nil =>
    obtain ⟨k, rfl⟩ : ∃ m, k = m + 1 := ⟨k - 1, by simp at hk; omega⟩
    simp only [trystlaw28_neat.l0]
    rw [if_neg (by simp)]
  | cons s r =>
    obtain ⟨k, rfl⟩ : ∃ m, k = m + 1 := ⟨k - 1, by simp at hk; omega⟩
    have n4 := AgeN.neat_full _ hn (AgeW.pr s) (by simp)
    have h4 : ¬ s.f0 ≥ s.f1 := by have : s.f0 < s.f1 := n4; omega
    have h0 := AgeW.rd_at [] s r
    simp only [List.nil_append, List.length_nil, Int.natCast_zero] at h0
    have h1 := wr 0 (by omega)
    simp only [Int.natCast_zero] at h1
    simp only [trystlaw28_neat.l0]
    rw [h0, if_pos (by simp <;> omega), if_pos (by omega), if_pos (by simp <;> omega), if_neg h4, if_neg (by omega), h1]
    have := neat_go r [] s k (by simp at hk; omega) (by simpa using hb) hn
    simpa using this
theorem ed_in (x0 : List (List S)) (i : Nat) (hi : i < x0.length) (x9 : Int) (hl : (rd_L2 x0 (i : Int)).length < 1000) (d : Nat) : ∀ (j : Nat) (x3 : List Int) (K : Nat), (rd_L2 x0 (i : Int)).length - j = d → j ≤ (rd_L2 x0 (i : Int)).length → x3.length + 4 * d < 10000 →
    ∃ out : List Int, out.length = x3.length + 4 * d ∧ trystlaw28_edgesR.l1 (K + d + 1) x0 x3 (i : Int) x9 (i : Int) ((rd_L2 x0 (i : Int)).length : Int) (j : Int) = trystlaw28_edgesR.l0 K x0 out x9 (wrap64 ((i : Int) + 1)) := by
  induction d with
  | zero =>
    intro j x3 K hd hj hb
    refine ⟨x3, rfl, ?_⟩
    simp only [trystlaw28_edgesR.l1]
    rw [if_neg (by omega)]
  | succ d ih =>
    intro j x3 K hd hj hb
    rw [show K + (d + 1) + 1 = (K + d + 1) + 1 by omega]
    simp only [trystlaw28_edgesR.l1]
    rw [if_pos (by omega), if_pos (by omega), if_pos (by omega), if_pos (by omega), if_pos (by omega), within, Option.bind_some, within, Option.bind_some, Option.bind_some, if_pos (by simp; omega), wr j (by omega)]
    obtain ⟨out, h1, h2⟩ := ih (j + 1) (x3 ++ [wrap64 (AgeN.cl (rd_T67 (rd_L2 x0 (i : Int)) (j : Int)).f0 - 1), AgeN.cl (rd_T67 (rd_L2 x0 (i : Int)) (j : Int)).f0, wrap64 (AgeN.cl (rd_T67 (rd_L2 x0 (i : Int)) (j : Int)).f1 - 1), AgeN.cl (rd_T67 (rd_L2 x0 (i : Int)) (j : Int)).f1]) K (by omega) (by omega) (by simp; omega)
    exact ⟨out, by rw [h1]; simp; omega, h2⟩
theorem edges (a b : List S) (ha : a.length < 100) (hb : b.length < 100) : ∃ e : List Int, e.length < 1000 ∧ trystlaw28_edges.f 300 a b = some e := by
  have g0 : rd_L2 [a, b] ((0 : Nat) : Int) = a := rfl
  have g1 : rd_L2 [a, b] ((1 : Nat) : Int) = b := rfl
  obtain ⟨o1, p1, q1⟩ := ed_in [a, b] 0 (by simp) 2 (by rw [g0]; omega) a.length 0 [] (b.length + 3) (by rw [g0]; omega) (by omega) (by simp; omega)
  obtain ⟨o2, p2, q2⟩ := ed_in [a, b] 1 (by simp) 2 (by rw [g1]; omega) b.length 0 o1 1 (by rw [g1]; omega) (by omega) (by rw [p1]; simp; omega)
  rw [g0] at q1; rw [g1] at q2
  refine ⟨o2, by rw [p2, p1]; simp; omega, ?_⟩
  have hk : trystlaw28_edgesR.f (b.length + 3 + a.length + 1 + 1) [a, b] = some o2 := by
    unfold trystlaw28_edgesR.f
    have w0 : wrap64 (((0 : Nat) : Int) + 1) = 1 := by unfold wrap64; omega
    have w1 : wrap64 (((1 : Nat) : Int) + 1) = 2 := by unfold wrap64; omega
    rw [w0] at q1; rw [w1] at q2
    have hl : (([a, b] : List (List S)).length : Int) = 2 := rfl
    have q1' : trystlaw28_edgesR.l1 (b.length + 3 + a.length + 1) [a, b] [] 0 2 0 ((rd_L2 [a, b] 0).length : Int) 0 = trystlaw28_edgesR.l0 (b.length + 3) [a, b] o1 2 1 := q1
    have q2' : trystlaw28_edgesR.l1 (1 + b.length + 1) [a, b] o1 1 2 1 ((rd_L2 [a, b] 1).length : Int) 0 = trystlaw28_edgesR.l0 1 [a, b] o2 2 2 := q2
    have s1 : trystlaw28_edgesR.l0 (b.length + 3 + a.length + 1 + 1) [a, b] [] 2 0 = trystlaw28_edgesR.l1 (b.length + 3 + a.length + 1) [a, b] [] 0 2 0 ((rd_L2 [a, b] 0).length : Int) 0 := by
      simp only [trystlaw28_edgesR.l0]
      rw [if_pos (by omega), if_pos (by omega), if_pos (by rw [hl]; omega)]
    have s2 : trystlaw28_edgesR.l0 (1 + b.length + 1 + 1) [a, b] o1 2 1 = trystlaw28_edgesR.l1 (1 + b.length + 1) [a, b] o1 1 2 1 ((rd_L2 [a, b] 1).length : Int) 0 := by
      simp only [trystlaw28_edgesR.l0]
      rw [if_pos (by omega), if_pos (by omega), if_pos (by rw [hl]; omega)]
    have s3 : trystlaw28_edgesR.l0 1 [a, b] o2 2 2 = some o2 := by
      show trystlaw28_edgesR.l0 (0 + 1) [a, b] o2 2 2 = some o2
      simp only [trystlaw28_edgesR.l0]
      rw [if_neg (by omega)]
    show trystlaw28_edgesR.l0 (b.length + 3 + a.length + 1 + 1) [a, b] [] 2 0 = some o2
    rw [s1, q1', show b.length + 3 = 1 + b.length + 1 + 1 by omega, s2, q2', s3]
  exact at_rounds (trystlaw28_edgesR.mono [a, b]) (by omega) hk
theorem loop (l : List S) (hl : l.length < 100) (e : List Int) (he : e.length < 1000) (d : Nat) : ∀ (i : Nat) (k : Nat), e.length - i = d → i ≤ e.length → 300 + d < k →
    trystlaw28_AgendaNeat.l0 k l (AgeW.neatS l) e (e.length : Int) (i : Int) = some true := by
  have hn := AgeW.neatS_len l
  have hn2 := AgeW.neatS_len (AgeW.neatS l)
  induction d with
  | zero =>
    intro i k hd hi hk
    obtain ⟨k, rfl⟩ : ∃ m, k = m + 1 := ⟨k - 1, by omega⟩
    simp only [trystlaw28_AgendaNeat.l0]
    rw [if_neg (by omega), neat_all (AgeW.neatS l) k (by omega) (by omega) (AgeN.isNeat_neat (AgeW.neatS_is l)), Option.bind_some, if_pos rfl, AgeW.neat (AgeW.neatS l) k (by omega) (by omega), Option.bind_some]
    have h := congrArg List.length (AgeN.isNeat_again (AgeW.neatS_is l) (AgeW.neatS_is (AgeW.neatS l)))
    rw [List.length_map, List.length_map] at h
    rw [h]; simp
  | succ d ih =>
    intro i k hd hi hk
    obtain ⟨k, rfl⟩ : ∃ m, k = m + 1 := ⟨k - 1, by omega⟩
    simp only [trystlaw28_AgendaNeat.l0]
    rw [if_pos (by omega), if_pos (by omega), if_pos (by omega), in_all l _ k (by omega) (by omega), Option.bind_some, in_all (AgeW.neatS l) _ k (by omega) (by omega), Option.bind_some, ← in_same, if_neg (by simp), wr i (by omega)]
    exact ih (i + 1) k (by omega) (by omega) (by omega)
theorem law (l : List S) : ∃ k, trystlaw28_AgendaNeat.f k l = some true := by
  refine ⟨2000, ?_⟩
  unfold trystlaw28_AgendaNeat.f
  rw [AgeW.awake 2000 (by omega), Option.bind_some, if_pos rfl]
  by_cases c : (l.length : Int) > 60
  · rw [decide_eq_true c]
    simp only [trystlaw28_AgendaNeat.j0, if_true, eq_self]
    rw [AgeW.awake _ (by omega)]; rfl
  · rw [decide_eq_false c]
    simp only [trystlaw28_AgendaNeat.j0, Bool.false_eq_true, if_false]
    have hn := AgeW.neatS_len l
    obtain ⟨e, he, h⟩ := edges l (AgeW.neatS l) (by omega) (by omega)
    have h2 : trystlaw28_edges.f 1999 l (AgeW.neatS l) = some e := at_rounds (trystlaw28_edges.mono l (AgeW.neatS l)) (by omega) h
    rw [AgeW.neat l 1999 (by omega) (by omega), Option.bind_some, h2, Option.bind_some]
    exact loop l (by omega) e he _ 0 1999 rfl (by omega) (by omega)
end AgendaNeatW
theorem AgendaNeat_calls (A : Option Addr) (c : Nat) (l : List S67) (w : World) (hC : Kd.C k67 w A l.length l) (hc : l.length ≤ c) (hf : ∀ x ∈ l, OpSpan.Ph x) :
    Calls Try.prog 6 #[.slice A l.length c] w fun e w' => e = .returned (.bool true) ∧ Below w.heap.size w w' := by
  obtain ⟨k, hk⟩ := AgendaNeatW.law l
  exact trystlaw28_AgendaNeat.calls k A c l true w hC hc hk
end Go.Proofs.Ytddoidcbpcmlaaa.Pure
