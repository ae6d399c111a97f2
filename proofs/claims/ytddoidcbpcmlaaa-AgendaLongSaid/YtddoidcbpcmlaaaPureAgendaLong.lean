/- Spans are as long as the neat ones; busy and free together as the window. -/
import Derived.Test.YtddoidcbpcmlaaaAgeW
import Derived.Test.YtddoidcbpcmlaaaAgeG
import Derived.Test.YtddoidcbpcmlaaaGtrystlaw28AgendaLong
import Derived.Test.YtddoidcbpcmlaaaOpSpan
namespace Go.Proofs.Ytddoidcbpcmlaaa.Pure
open Go.RowKit Go.Proofs.YtddoidcbpcmlaaaW.PrintWords Go.Proofs.YtddoidcbpcmlaaaW.PrintLast Go.Proofs.Ytddoidcbpcmlaaa.G
set_option linter.unusedVariables false
set_option linter.unusedSimpArgs false
namespace AgendaLongW
abbrev S := S67
local notation "pr" => AgeW.pr
theorem wr (n : Nat) (h : n < 4611686018427387904) : wrap64 ((n : Int) + 1) = ((n + 1 : Nat) : Int) := by unfold wrap64; omega
theorem within (a : Int) : trystlaw28_within.f a = some (AgeN.cl a) := by
  unfold trystlaw28_within.f AgeN.cl mx mn
  congr 1
  split <;> split <;> omega
theorem wid (x : Int) (h : -9223372036854775808 ≤ x) (h2 : x < 9223372036854775808) : wrap64 x = x := by unfold wrap64; omega
theorem pr_inj (a b : List S) (h : a.map pr = b.map pr) : a = b := by
  have := congrArg (List.map AgeW.bk) h
  simpa [List.map_map, Function.comp_def, AgeW.bk_pr] using this
theorem neatS_self (l : List S) (h : AgeN.Neat (l.map pr)) (hb : AgeN.Bd (l.map pr)) : AgeW.neatS l = l :=
  pr_inj _ _ (AgeN.isNeat_one (AgeW.neatS_is l) (AgeG.isNeat_self _ h hb))
def lenS (l : List S) : Int := AgeF.len (l.map pr)
/-- Long over what is left of a neat list. -/
theorem long_go (r : List S) : ∀ (pre : List S) (acc : Int) (k : Nat), r.length < k → (pre ++ r).length < 4398046511104 → AgeN.Neat (r.map pr) → AgeN.Bd (r.map pr) → 0 ≤ acc → acc + lenS r ≤ 4611686018427387904 →
    agenda_Long.l0 k acc (pre ++ r) ((pre ++ r).length : Int) (pre.length : Int) = some (acc + lenS r) := by
  induction r with
  | nil =>
    intro pre acc k hk hb hn hd h0 h1
    obtain ⟨k, rfl⟩ : ∃ m, k = m + 1 := ⟨k - 1, by simp at hk; omega⟩
    simp only [agenda_Long.l0]
    rw [if_neg (by simp)]
    simp [lenS, AgeF.len]
  | cons s r ih =>
    intro pre acc k hk hb hn hd h0 h1
    obtain ⟨k, rfl⟩ : ∃ m, k = m + 1 := ⟨k - 1, by simp at hk; omega⟩
    have hb2 : pre.length + (r.length + 1) < 4398046511104 := by simpa using hb
    have e0 : lenS (s :: r) = s.f1 - s.f0 + lenS r := rfl
    have n1 : s.f0 < s.f1 := AgeN.neat_full _ hn (pr s) (by simp)
    have n2 : 0 ≤ lenS r := AgeG.len_nonneg _ (AgeN.neat_tail hn)
    have d1 := hd (pr s) (by simp)
    obtain ⟨⟨d2, d3⟩, d4, d5⟩ : (-1152921504606846976 ≤ s.f0 ∧ s.f0 ≤ 1152921504606846976) ∧ (-1152921504606846976 ≤ s.f1 ∧ s.f1 ≤ 1152921504606846976) := d1
    simp only [agenda_Long.l0]
    rw [if_pos (by simp; omega), if_pos (by omega), if_pos (by simp; omega), AgeW.rd_at, wr pre.length (by omega), wid (s.f1 - s.f0) (by omega) (by omega), wid (acc + (s.f1 - s.f0)) (by omega) (by omega)]
    have e1 : pre ++ s :: r = (pre ++ [s]) ++ r := by simp
    have e2 : ((pre.length + 1 : Nat) : Int) = ((pre ++ [s]).length : Int) := by simp
    rw [e1, e2, ih (pre ++ [s]) (acc + (s.f1 - s.f0)) k (by simp at hk; omega) (by simpa using hb2) (AgeN.neat_tail hn) (fun x hx => hd x (by rw [List.map_cons]; exact List.mem_cons_of_mem _ hx)) (by omega) (by omega), e0]
    congr 1
    omega
theorem long_all (l : List S) (k : Nat) (hk : 2 * l.length + 2 ≤ k) (hb : l.length < 4398046511104) : agenda_Long.f k l = some (lenS (AgeW.neatS l)) := by
  have h := AgeW.neatS_is l
  have hn := AgeN.isNeat_neat h
  have hd := AgeG.isNeat_bd h
  have hl := AgeW.neatS_len l
  have h1 := AgeG.len_bd _ hn hd
  unfold agenda_Long.f
  rw [AgeW.neat l k hk hb, Option.bind_some]
  have := long_go (AgeW.neatS l) [] 0 k (by omega) (by simp; omega) hn hd (Int.le_refl _) (by unfold lenS; omega)
  simpa using this
/-- The law's own sum. -/
def frS (t : Int) : Int → List S → List S
  | f, [] => if f < t then [⟨f, t⟩] else []
  | f, s :: r => (if s.f0 > f ∧ f < t then [⟨f, mn s.f0 t⟩] else []) ++ frS t (mx f s.f1) r
theorem mx_max (a b : Int) : mx a b = max a b := by unfold mx; split <;> omega
theorem mn_min (a b : Int) : mn a b = min a b := by unfold mn; split <;> omega
theorem frS_pr (t : Int) (l : List S) : ∀ f, (frS t f l).map pr = AgeF.fr t f (l.map pr) := by
  induction l with
  | nil => intro f; unfold frS; rw [List.map_nil]; unfold AgeF.fr; split <;> rfl
  | cons s r ih =>
    intro f
    unfold frS
    rw [List.map_cons, List.map_append, ih, mx_max, mn_min]
    show _ = (if s.f0 > f ∧ f < t then [(f, min s.f0 t)] else []) ++ AgeF.fr t (max f s.f1) (r.map pr)
    congr 1
    split <;> rfl
theorem free_go (t : Int) (r : List S) : ∀ (pre acc : List S) (f : Int) (k : Nat), r.length < k → (pre ++ r).length < 1000 → acc.length ≤ pre.length →
    agenda_Free.l0 k f t acc (pre ++ r) ((pre ++ r).length : Int) (pre.length : Int) = some (acc ++ frS t f r) := by
  induction r with
  | nil =>
    intro pre acc f k hk hb ha
    obtain ⟨k, rfl⟩ : ∃ m, k = m + 1 := ⟨k - 1, by simp at hk; omega⟩
    have hb2 : pre.length < 1000 := by simpa using hb
    simp only [agenda_Free.l0]
    rw [if_neg (by simp)]
    unfold frS
    split
    · rw [if_pos (by omega)]
    · simp
  | cons s r ih =>
    intro pre acc f k hk hb ha
    obtain ⟨k, rfl⟩ : ∃ m, k = m + 1 := ⟨k - 1, by simp at hk; omega⟩
    have hb2 : pre.length + (r.length + 1) < 1000 := by simpa using hb
    have e1 : pre ++ s :: r = (pre ++ [s]) ++ r := by simp
    have e2 : ((pre.length + 1 : Nat) : Int) = ((pre ++ [s]).length : Int) := by simp
    simp only [agenda_Free.l0]
    rw [if_pos (by simp; omega), if_pos (by omega), if_pos (by simp; omega), AgeW.rd_at, wr pre.length (by omega)]
    unfold frS
    by_cases c : s.f0 > f
    · rw [if_pos c]
      by_cases d : f < t
      · rw [if_pos d, if_pos (by omega), if_pos ⟨c, d⟩, e1, e2, ih (pre ++ [s]) _ _ k (by simp at hk; omega) (by simpa using hb2) (by simp; omega)]
        simp
      · rw [if_neg d, if_neg (fun h => d h.2), e1, e2, ih (pre ++ [s]) _ _ k (by simp at hk; omega) (by simpa using hb2) (by simp; omega)]
        simp
    · rw [if_neg c, if_neg (fun h => c h.1), e1, e2, ih (pre ++ [s]) _ _ k (by simp at hk; omega) (by simpa using hb2) (by simp; omega)]
      simp
theorem free_all (l : List S) (a b : Int) (k : Nat) (hk : 2 * l.length + 2 ≤ k) (hb : l.length < 100) : agenda_Free.f k l a b = some (frS (AgeN.cl b) (AgeN.cl a) (AgeW.neatS l)) := by
  have hl := AgeW.neatS_len l
  unfold agenda_Free.f
  rw [AgeW.within, Option.bind_some, AgeW.within, Option.bind_some, AgeW.neat l k hk (by omega), Option.bind_some]
  have := free_go (AgeN.cl b) (AgeW.neatS l) [] [] (AgeN.cl a) k (by omega) (by simp; omega) (by simp)
  simpa using this
def boS (f t : Int) : List S → List S
  | [] => []
  | s :: r => (if mx s.f0 f < mn s.f1 t then [⟨mx s.f0 f, mn s.f1 t⟩] else []) ++ (if s.f1 < t then boS f t r else [])
theorem boS_pr (f t : Int) (l : List S) : (boS f t l).map pr = AgeF.bo f t (l.map pr) := by
  induction l with
  | nil => rfl
  | cons s r ih =>
    unfold boS
    rw [List.map_cons, List.map_append, mx_max, mn_min]
    show _ = (if max s.f0 f < min s.f1 t then [(max s.f0 f, min s.f1 t)] else []) ++ (if s.f1 < t then AgeF.bo f t (r.map pr) else [])
    rw [← ih]
    congr 1
    · split <;> rfl
    · split <;> rfl
theorem frS_len (t : Int) (l : List S) : ∀ f, (frS t f l).length ≤ l.length + 1 := by
  induction l with
  | nil => intro f; unfold frS; split <;> simp
  | cons s r ih =>
    intro f
    have := ih (mx f s.f1)
    unfold frS
    rw [List.length_append]
    split <;> simp <;> omega
theorem boS_len (f t : Int) (l : List S) : (boS f t l).length ≤ l.length := by
  induction l with
  | nil => simp [boS]
  | cons s r ih =>
    unfold boS
    rw [List.length_append]
    split <;> split <;> simp <;> omega
theorem both_end (a b : List S) (acc : List S) (k : Nat) (hk : 2 ≤ k) (h : a = [] ∨ b = []) : agenda_Both.l0 k a b acc = some acc := by
  obtain ⟨k, rfl⟩ : ∃ m, k = m + 2 := ⟨k - 2, by omega⟩
  simp only [agenda_Both.l0]
  rcases h with rfl | rfl
  · rw [if_neg (by simp)]
    simp [agenda_Both.j1]
  · have : decide ((([] : List S).length : Int) > 0) = false := by simp
    rw [this]
    split <;> simp [agenda_Both.j1]
theorem both_go (f t : Int) (r : List S) : ∀ (acc : List S) (k : Nat), 2 * r.length + 2 ≤ k → acc.length + r.length < 1000 →
    agenda_Both.l0 k r [⟨f, t⟩] acc = some (acc ++ boS f t r) := by
  induction r with
  | nil => intro acc k hk hb; rw [both_end [] _ acc k (by omega) (.inl rfl)]; simp [boS]
  | cons s r ih =>
    intro acc k hk hb
    obtain ⟨k, rfl⟩ : ∃ m, k = m + 2 := ⟨k - 2, by omega⟩
    have hb2 : acc.length + (r.length + 1) < 1000 := by simpa using hb
    have hk2 : 2 * r.length + 2 ≤ k := by simp at hk; omega
    have h0 : rd_T67 (s :: r) 0 = s := rfl
    have h1 : rd_T67 [(⟨f, t⟩ : S)] 0 = ⟨f, t⟩ := rfl
    have hd0 : (s :: r).drop (1 : Int).toNat = r := rfl
    have hd1 : [(⟨f, t⟩ : S)].drop (1 : Int).toNat = [] := rfl
    have c0 : decide ((([(⟨f, t⟩ : S)] : List S).length : Int) > 0) = true := by simp
    simp only [agenda_Both.l0]
    rw [if_pos (by simp <;> omega), c0]
    simp only [agenda_Both.j1, if_true]
    rw [if_pos (by simp <;> omega), if_pos (by simp), h0, h1, hd0, hd1]
    dsimp only
    unfold boS
    by_cases c : mx s.f0 f < mn s.f1 t
    · rw [if_pos c, if_pos (by omega), Option.bind_some, if_pos c]
      by_cases d : s.f1 < t
      · rw [if_pos d, if_pos (by simp; omega), if_pos d, ih _ k hk2 (by simp; omega)]
        simp
      · rw [if_neg d, if_pos (by simp), if_neg d, both_end _ _ _ k (by omega) (.inr rfl)]
        simp
    · rw [if_neg c, if_neg c]
      by_cases d : s.f1 < t
      · rw [if_pos d, if_pos (by simp; omega), if_pos d, ih _ k hk2 (by omega)]
        simp
      · rw [if_neg d, if_pos (by simp), if_neg d, both_end _ _ _ k (by omega) (.inr rfl)]
        simp
theorem window (a b : Int) : AgeW.neatS [(⟨a, b⟩ : S)] = if AgeN.cl a < AgeN.cl b then [⟨AgeN.cl a, AgeN.cl b⟩] else [] := by
  by_cases c : AgeN.cl a < AgeN.cl b
  · rw [if_pos c]
    refine pr_inj _ _ (AgeN.isNeat_one (AgeW.neatS_is _) ⟨[(AgeN.cl a, AgeN.cl b)], ?_, ⟨fun x hx => by (cases hx), trivial⟩, rfl⟩)
    have : AgeN.clean ([(⟨a, b⟩ : S)].map pr) = [(AgeN.cl a, AgeN.cl b)] := by
      rw [← AgeW.cleanS_pr]
      show List.map pr (if AgeN.cl a < AgeN.cl b then _ else _) = _
      rw [if_pos c]; rfl
    rw [this]
  · rw [if_neg c]
    refine pr_inj _ _ (AgeN.isNeat_one (AgeW.neatS_is _) ⟨[], ?_, trivial, rfl⟩)
    have : AgeN.clean ([(⟨a, b⟩ : S)].map pr) = [] := by
      rw [← AgeW.cleanS_pr]
      show List.map pr (if AgeN.cl a < AgeN.cl b then _ else _) = _
      rw [if_neg c]; rfl
    rw [this]
/-- Both of a list and one window. -/
theorem both_all (l : List S) (a b : Int) (k : Nat) (hk : 4 * l.length + 10 ≤ k) (hb : l.length < 100) : agenda_Both.f k l [⟨a, b⟩] = some (if AgeN.cl a < AgeN.cl b then boS (AgeN.cl a) (AgeN.cl b) (AgeW.neatS l) else []) := by
  have hl := AgeW.neatS_len l
  unfold agenda_Both.f
  rw [AgeW.neat l k (by omega) (by omega), Option.bind_some, AgeW.neat [⟨a, b⟩] k (by simp; omega) (by simp), Option.bind_some, window]
  split
  · have := both_go (AgeN.cl a) (AgeN.cl b) (AgeW.neatS l) [] k (by omega) (by simp; omega)
    simpa using this
  · exact both_end _ _ _ k (by omega) (.inr rfl)
theorem sum_go (l : List S) (a b : Int) (hl : l.length < 100) (n : List S) (hnn : n = AgeW.neatS l) (r : List S) : ∀ (pre : List S) (acc : Int) (k : Nat), n = pre ++ r → 600 + r.length < k → AgeN.Neat (r.map pr) → AgeN.Bd (r.map pr) → 0 ≤ acc → acc + lenS r ≤ 2305843009213693952 → acc + lenS r = lenS n →
    trystlaw28_AgendaLong.l0 k l a b n acc (n.length : Int) (pre.length : Int) = some true := by
  have hnl := AgeW.neatS_len l
  have is := AgeW.neatS_is l
  have nt := AgeN.isNeat_neat is
  have bd := AgeG.isNeat_bd is
  rw [← hnn] at hnl is nt bd
  induction r with
  | nil =>
    intro pre acc k hn hk hne hd h0 h1 h2
    obtain ⟨k, rfl⟩ : ∃ m, k = m + 1 := ⟨k - 1, by omega⟩
    have hpl : pre.length = n.length := by rw [hn]; simp
    have hk2 : 600 ≤ k := by simp at hk; omega
    simp only [trystlaw28_AgendaLong.l0]
    rw [if_neg (by omega), within, Option.bind_some, within, Option.bind_some, both_all l a b k (by omega) hl, Option.bind_some, long_all l k (by omega) (by omega), Option.bind_some, ← hnn]
    have hacc : lenS n = acc := by rw [← h2]; simp [lenS, AgeF.len]
    rw [if_pos hacc, free_all l a b k (by omega) hl, ← hnn]
    have fl := frS_len (AgeN.cl b) n (AgeN.cl a)
    have bl := boS_len (AgeN.cl a) (AgeN.cl b) n
    have ca := AgeN.cl_in a
    have cb := AgeN.cl_in b
    have fn : AgeN.Neat ((frS (AgeN.cl b) (AgeN.cl a) n).map pr) := by rw [frS_pr]; exact AgeG.fr_neat _ _ _ nt
    have fb : AgeN.Bd ((frS (AgeN.cl b) (AgeN.cl a) n).map pr) := by rw [frS_pr]; exact AgeG.fr_bd _ _ _ nt ca.1 cb.2
    have e1 := neatS_self _ fn fb
    have f1 : lenS (frS (AgeN.cl b) (AgeN.cl a) n) + AgeF.ovs (AgeN.cl a) (AgeN.cl b) (n.map pr) = max 0 (AgeN.cl b - AgeN.cl a) := by
      unfold lenS; rw [frS_pr]; exact AgeF.fr_len _ _ _ nt
    have f0 : 0 ≤ lenS (frS (AgeN.cl b) (AgeN.cl a) n) := AgeG.len_nonneg _ fn
    have o0 := AgeG.ovs_nonneg (AgeN.cl a) (AgeN.cl b) (n.map pr)
    have wt : wrap64 (AgeN.cl b - AgeN.cl a) = AgeN.cl b - AgeN.cl a := wid _ (by omega) (by omega)
    have bn : AgeN.Neat ((boS (AgeN.cl a) (AgeN.cl b) n).map pr) := by rw [boS_pr]; exact AgeG.bo_neat _ _ _ nt
    have bb : AgeN.Bd ((boS (AgeN.cl a) (AgeN.cl b) n).map pr) := by rw [boS_pr]; exact AgeG.bo_bd _ _ _ nt bd
    have e2 := neatS_self _ bn bb
    have b1 : lenS (boS (AgeN.cl a) (AgeN.cl b) n) = AgeF.ovs (AgeN.cl a) (AgeN.cl b) (n.map pr) := by
      unfold lenS; rw [boS_pr]; exact AgeF.bo_len _ _ _ nt
    by_cases c : AgeN.cl a < AgeN.cl b
    · rw [if_pos c, long_all _ k (by omega) (by omega), Option.bind_some, Option.bind_some, long_all _ k (by omega) (by omega), Option.bind_some, e1, e2, wt, wid _ (by omega) (by omega), mx_max]
      congr 1
      rw [beq_iff_eq]
      omega
    · have e3 : AgeW.neatS ([] : List S) = [] := by
        have := AgeW.neatS_len ([] : List S)
        exact List.eq_nil_of_length_eq_zero (by simpa using this)
      have l0 : lenS ([] : List S) = 0 := rfl
      rw [if_neg c, long_all _ k (by simp; omega) (by simp), Option.bind_some, Option.bind_some, long_all _ k (by omega) (by omega), Option.bind_some, e1, e3, l0, wt, wid _ (by omega) (by omega), mx_max]
      congr 1
      rw [beq_iff_eq]
      omega
  | cons s r ih =>
    intro pre acc k hn hk hne hd h0 h1 h2
    obtain ⟨k, rfl⟩ : ∃ m, k = m + 1 := ⟨k - 1, by omega⟩
    have hnl2 : n.length = pre.length + (r.length + 1) := by rw [hn]; simp
    have e0 : lenS (s :: r) = s.f1 - s.f0 + lenS r := rfl
    have n1 : s.f0 < s.f1 := AgeN.neat_full _ hne (pr s) (by simp)
    have n2 : 0 ≤ lenS r := AgeG.len_nonneg _ (AgeN.neat_tail hne)
    have d1 := hd (pr s) (by simp)
    obtain ⟨⟨d2, d3⟩, d4, d5⟩ : (-1152921504606846976 ≤ s.f0 ∧ s.f0 ≤ 1152921504606846976) ∧ (-1152921504606846976 ≤ s.f1 ∧ s.f1 ≤ 1152921504606846976) := d1
    have hr : rd_T67 n (pre.length : Int) = s := by rw [hn]; exact AgeW.rd_at _ _ _
    simp only [trystlaw28_AgendaLong.l0]
    rw [if_pos (by omega), if_pos (by omega), if_pos (by omega), hr, wr pre.length (by omega), wid (acc + s.f1) (by omega) (by omega), wid (acc + s.f1 - s.f0) (by omega) (by omega)]
    have e2 : ((pre.length + 1 : Nat) : Int) = ((pre ++ [s]).length : Int) := by simp
    rw [e2]
    exact ih (pre ++ [s]) (acc + s.f1 - s.f0) k (by rw [hn]; simp) (by simp at hk; omega) (AgeN.neat_tail hne) (fun x hx => hd x (by rw [List.map_cons]; exact List.mem_cons_of_mem _ hx)) (by omega) (by omega) (by omega)
theorem law (l : List S) (a b : Int) : ∃ k, trystlaw28_AgendaLong.f k l a b = some true := by
  refine ⟨2000, ?_⟩
  unfold trystlaw28_AgendaLong.f
  rw [AgeW.awake 2000 (by omega), Option.bind_some, if_pos rfl]
  by_cases c : (l.length : Int) > 60
  · rw [decide_eq_true c]
    simp only [trystlaw28_AgendaLong.j0, if_true, eq_self]
    rw [AgeW.awake _ (by omega)]; rfl
  · rw [decide_eq_false c]
    simp only [trystlaw28_AgendaLong.j0, Bool.false_eq_true, if_false]
    have hn := AgeW.neatS_len l
    have is := AgeW.neatS_is l
    have nt := AgeN.isNeat_neat is
    have bd := AgeG.isNeat_bd is
    rw [AgeW.neat l 1999 (by omega) (by omega), Option.bind_some]
    have := sum_go l a b (by omega) (AgeW.neatS l) rfl (AgeW.neatS l) [] 0 1999 (by simp) (by omega) nt bd (Int.le_refl _) (by have := AgeG.len_bd _ nt bd; unfold lenS; omega) (by omega)
    simpa using this
end AgendaLongW
theorem AgendaLong_calls (A : Option Addr) (c : Nat) (l : List S67) (a b : Int) (w : World) (hC : Kd.C k67 w A l.length l) (hc : l.length ≤ c) (hf : ∀ x ∈ l, OpSpan.Ph x) (ha : (Lit.int .i64 a).wf = true) (hb : (Lit.int .i64 b).wf = true) :
    Calls Try.prog 8 #[.slice A l.length c, .int .i64 a, .int .i64 b] w fun e w' => e = .returned (.bool true) ∧ Below w.heap.size w w' := by
  obtain ⟨k, hk⟩ := AgendaLongW.law l a b
  exact trystlaw28_AgendaLong.calls k A c l a b true w hC hc hk
end Go.Proofs.Ytddoidcbpcmlaaa.Pure
