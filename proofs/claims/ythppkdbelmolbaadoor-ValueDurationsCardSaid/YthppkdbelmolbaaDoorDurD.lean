/- A duration's text, in plain words, and that it is read back. -/
import Derived.Test.YthppkdbelmolbaaDoorSpansR
import Derived.Lib.ItoaNum
namespace Go.Proofs.YthppkdbelmolbaaDoor.DurD
open Go.RowKit Go.Proofs.YthppkdbelmolbaaDoorW.PrintWords Go.Proofs.YthppkdbelmolbaaDoorW.PrintLast Go.Proofs.YthppkdbelmolbaaDoor.Q Go.Proofs.YthppkdbelmolbaaDoor.Cal Go.Proofs.YthppkdbelmolbaaDoor.Bytes Go.Proofs.YthppkdbelmolbaaDoor.Spans Go.Proofs.YthppkdbelmolbaaDoor.SpansP Go.Proofs.YthppkdbelmolbaaDoor.SpansR
set_option linter.unusedVariables false
set_option linter.unusedSimpArgs false
theorem dig_of (k : Nat) (h : k < 10) : Dig (UInt8.ofNat (48 + k)) ∧ dv (UInt8.ofNat (48 + k)) = (k : Int) := by
  have e : (UInt8.ofNat (48 + k)).toNat = 48 + k := by rw [UInt8.toNat_ofNat']; omega
  unfold Dig dv
  rw [e]
  omega
theorem ds_app {a b : List UInt8} (ha : Ds a) (hb : Ds b) : Ds (a ++ b) := by
  intro x hx
  rcases List.mem_append.1 hx with h | h
  · exact ha x h
  · exact hb x h
theorem dec (u : Nat) : Ds (Lib.decDigits u) ∧ dval 0 (Lib.decDigits u) = (u : Int) ∧ 1 ≤ (Lib.decDigits u).length := by
  induction u using Nat.strongRecOn with
  | _ u ih =>
    rw [Lib.decDigits]
    by_cases h : u < 10
    · rw [dif_pos h]
      obtain ⟨a, b⟩ := dig_of u h
      refine ⟨fun x hx => ?_, ?_, by simp⟩
      · rw [List.mem_singleton] at hx; rw [hx]; exact a
      · show 10 * 0 + dv _ = _; rw [b]; omega
    · rw [dif_neg h]
      obtain ⟨a1, a2, a3⟩ := ih (u / 10) (by omega)
      obtain ⟨b1, b2⟩ := dig_of (u % 10) (by omega)
      refine ⟨ds_app a1 (fun x hx => ?_), ?_, by simp⟩
      · rw [List.mem_singleton] at hx; rw [hx]; exact b1
      · rw [dval_snoc, a2, b2]; omega
theorem dec_len (k : Nat) : ∀ u, u < 10 ^ (k + 1) → (Lib.decDigits u).length ≤ k + 1 := by
  induction k with
  | zero => intro u h; rw [Lib.decDigits, dif_pos (by simpa using h)]; simp
  | succ k ih =>
    intro u h
    rw [Lib.decDigits]
    by_cases c : u < 10
    · rw [dif_pos c]; simp
    · rw [dif_neg c]
      have := ih (u / 10) (by rw [Nat.pow_succ] at h; omega)
      simp; omega
theorem tm_dig (c : UInt8) (r : List UInt8) (hc : ¬ Dig c) (ds : List UInt8) : ∀ cnt acc, Ds ds → 1 ≤ cnt + ds.length → cnt + ds.length ≤ 10 → tmA cnt acc (ds ++ c :: r) = some (dval acc ds, c, r) := by
  induction ds with
  | nil =>
    intro cnt acc _ h1 h2
    show tmA cnt acc (c :: r) = _
    unfold tmA
    rw [if_neg hc, if_pos ⟨by simpa using h1, by simpa using h2⟩]
    rfl
  | cons b ds ih =>
    intro cnt acc hd h1 h2
    show tmA cnt acc (b :: (ds ++ c :: r)) = _
    unfold tmA
    rw [if_pos (hd b (by simp)), ih (cnt + 1) _ (fun x hx => hd x (by simp [hx])) (by omega) (by simp at h2; omega)]
    rfl
/-- A number of at most ten digits. -/
def num (n : Int) : List UInt8 := Lib.decDigits n.toNat
theorem tm_num (n : Int) (c : UInt8) (r : List UInt8) (h0 : 0 ≤ n) (h1 : n < 10000000000) (hc : ¬ Dig c) : tm (num n ++ c :: r) = some (n, c, r) := by
  obtain ⟨a1, a2, a3⟩ := dec n.toNat
  have hl := dec_len 9 n.toNat (by omega)
  unfold tm num
  rw [tm_dig c r hc _ 0 0 a1 (by omega) (by omega), a2]
  congr 2
  omega
theorem tms_num (n : Int) (c : UInt8) (r : List UInt8) (h0 : 0 ≤ n) (h1 : n < 10000000000) (hc : ¬ Dig c) : tms (num n ++ c :: r) = (tms r).map ((n, c) :: ·) := rv_some (tm_num n c r h0 h1 hc)
theorem num_no84 (n : Int) : ∀ x ∈ num n, x ≠ 84 := by
  intro x hx e
  have := (dec n.toNat).1 x hx
  rw [e] at this
  exact absurd this (by decide)
/-- The time of the day. -/
def clk (r : Int) : List UInt8 :=
  (if 0 < r / 3600 then num (r / 3600) ++ [72] else []) ++ ((if 0 < r / 60 % 60 ∨ (0 < r / 3600 ∧ 0 < r % 60) then num (r / 60 % 60) ++ [77] else []) ++ (if 0 < r % 60 then num (r % 60) ++ [83] else []))
/-- A duration of no sign behind its P. -/
def txt (n : Int) : List UInt8 :=
  if n = 0 then [48, 68] else if n % 604800 = 0 then num (n / 604800) ++ [87] else
    (if 0 < n / 86400 then num (n / 86400) ++ [68] else []) ++ (if 0 < n % 86400 then 84 :: clk (n % 86400) else [])
def full (n : Int) : List UInt8 := if n < 0 then 45 :: 80 :: txt (-n) else 80 :: txt n
theorem cutT_app (D r : List UInt8) (h : ∀ x ∈ D, x ≠ 84) : cutT (D ++ 84 :: r) = (D, some r) := by
  induction D with
  | nil => rfl
  | cons x D ih =>
    show (if x = 84 then _ else _) = _
    rw [if_neg (h x (by simp))]
    show (x :: (cutT (D ++ 84 :: r)).1, (cutT (D ++ 84 :: r)).2) = _
    rw [ih (fun y hy => h y (by simp [hy]))]
theorem cutT_no (D : List UInt8) (h : ∀ x ∈ D, x ≠ 84) : cutT D = (D, none) := by
  induction D with
  | nil => rfl
  | cons x D ih =>
    show (if x = 84 then _ else _) = _
    rw [if_neg (h x (by simp)), ih (fun y hy => h y (by simp [hy]))]
theorem n72 : ¬ Dig 72 := by decide
theorem n77 : ¬ Dig 77 := by decide
theorem n83 : ¬ Dig 83 := by decide
theorem n68 : ¬ Dig 68 := by decide
theorem n87 : ¬ Dig 87 := by decide
theorem rv_clk (r : Int) (h0 : 0 < r) (h1 : r < 86400) : rv (clk r) = (r, true) := by
  have key : ∃ L, tms (clk r) = some L ∧ sum L = r ∧ good (word L) = true ∧ 0 < L.length := by
    unfold clk
    by_cases a : 0 < r / 3600
    · rw [if_pos a]
      by_cases b : 0 < r / 60 % 60 ∨ (0 < r / 3600 ∧ 0 < r % 60)
      · rw [if_pos b]
        by_cases c : 0 < r % 60
        · rw [if_pos c]
          refine ⟨[(r / 3600, 72), (r / 60 % 60, 77), (r % 60, 83)], ?_, ?_, rfl, by simp⟩
          · rw [List.append_assoc, List.cons_append, List.nil_append, tms_num _ _ _ (by omega) (by omega) n72, List.append_assoc, List.cons_append, List.nil_append, tms_num _ _ _ (by omega) (by omega) n77, tms_num _ _ _ (by omega) (by omega) n83]
            rfl
          · simp [sum, wt]; omega
        · rw [if_neg c]
          refine ⟨[(r / 3600, 72), (r / 60 % 60, 77)], ?_, ?_, rfl, by simp⟩
          · rw [List.append_nil, List.append_assoc, List.cons_append, List.nil_append, tms_num _ _ _ (by omega) (by omega) n72, tms_num _ _ _ (by omega) (by omega) n77]
            rfl
          · simp [sum, wt]; omega
      · rw [if_neg b, if_neg (show ¬ 0 < r % 60 from fun c => b (Or.inr ⟨a, c⟩))]
        refine ⟨[(r / 3600, 72)], ?_, ?_, rfl, by simp⟩
        · rw [List.append_nil, List.append_nil, tms_num _ _ _ (by omega) (by omega) n72]
          rfl
        · simp [sum, wt]; omega
    · rw [if_neg a]
      by_cases b : 0 < r / 60 % 60 ∨ (0 < r / 3600 ∧ 0 < r % 60)
      · rw [if_pos b]
        by_cases c : 0 < r % 60
        · rw [if_pos c]
          refine ⟨[(r / 60 % 60, 77), (r % 60, 83)], ?_, ?_, rfl, by simp⟩
          · rw [List.nil_append, List.append_assoc, List.cons_append, List.nil_append, tms_num _ _ _ (by omega) (by omega) n77, tms_num _ _ _ (by omega) (by omega) n83]
            rfl
          · simp [sum, wt]; omega
        · rw [if_neg c]
          refine ⟨[(r / 60 % 60, 77)], ?_, ?_, rfl, by simp⟩
          · rw [List.nil_append, List.append_nil, tms_num _ _ _ (by omega) (by omega) n77]
            rfl
          · simp [sum, wt]; omega
      · rw [if_neg b]
        have c : 0 < r % 60 := by omega
        rw [if_pos c]
        refine ⟨[(r % 60, 83)], ?_, ?_, rfl, by simp⟩
        · rw [List.nil_append, List.nil_append, tms_num _ _ _ (by omega) (by omega) n83]
          rfl
        · simp [sum, wt]; omega
  obtain ⟨L, k1, k2, k3, k4⟩ := key
  unfold rv
  rw [k1]
  simp only [k2, k3]
  rw [decide_eq_true k4]
  rfl
theorem fin_in (by_ n : Int) (h : n ≤ 10000000000) (h0 : 0 ≤ n) (hb : by_ = 1 ∨ by_ = -1) : fin by_ n = (by_ * n, 0) := by
  unfold fin
  rw [if_neg (by omega), w64 (by rcases hb with rfl | rfl <;> omega) (by rcases hb with rfl | rfl <;> omega)]
theorem back0 (by_ n : Int) (h0 : 0 ≤ n) (h1 : n ≤ 10000000000) (hb : by_ = 1 ∨ by_ = -1) : body by_ (80 :: txt n) = (by_ * n, 0) := by
  rw [body_cons, if_pos rfl]
  unfold txt
  by_cases z : n = 0
  · rw [if_pos z, z]
    have e1 : cutT [48, 68] = ([48, 68], none) := by decide
    have e2 : tms [48, 68] = some [(0, 68)] := by decide
    rw [e1]
    simp only [SpansP.rd, dn, e2]
    exact fin_in by_ 0 (by omega) (by omega) hb
  · rw [if_neg z]
    by_cases w : n % 604800 = 0
    · rw [if_pos w]
      have hd : ∀ x ∈ num (n / 604800) ++ [87], x ≠ 84 := by
        intro x hx
        rcases List.mem_append.1 hx with h | h
        · exact num_no84 _ x h
        · rw [List.mem_singleton.1 h]; decide
      have ht : tms (num (n / 604800) ++ [87]) = some [(n / 604800, 87)] := by rw [tms_num _ _ _ (by omega) (by omega) n87]; rfl
      have hn : ¬ (num (n / 604800) ++ [87] = []) := by simp
      rw [cutT_no _ hd, rd_eq]
      unfold dn
      rw [if_neg hn, ht]
      have e : (604800 : Int) * (n / 604800) = n := by omega
      show fin by_ (604800 * (n / 604800)) = _
      rw [e]
      exact fin_in by_ n h1 h0 hb
    · rw [if_neg w]
      by_cases d : 0 < n / 86400
      · rw [if_pos d]
        have hd : ∀ x ∈ num (n / 86400) ++ [68], x ≠ 84 := by
          intro x hx
          rcases List.mem_append.1 hx with h | h
          · exact num_no84 _ x h
          · rw [List.mem_singleton.1 h]; decide
        have ht : tms (num (n / 86400) ++ [68]) = some [(n / 86400, 68)] := by rw [tms_num _ _ _ (by omega) (by omega) n68]; rfl
        have hn : ¬ (num (n / 86400) ++ [68] = []) := by simp
        by_cases t : 0 < n % 86400
        · rw [if_pos t, cutT_app _ _ hd, rd_eq]
          unfold dn
          rw [if_neg hn, ht]
          show (if (rv (clk (n % 86400))).2 = true then fin by_ (86400 * (n / 86400) + (rv (clk (n % 86400))).1) else (0, 7)) = _
          rw [rv_clk _ t (by omega), if_pos rfl]
          have e : (86400 : Int) * (n / 86400) + n % 86400 = n := by omega
          simp only [e]
          exact fin_in by_ n h1 h0 hb
        · rw [if_neg t, List.append_nil, cutT_no _ hd, rd_eq]
          unfold dn
          rw [if_neg hn, ht]
          have e : (86400 : Int) * (n / 86400) = n := by omega
          show fin by_ (86400 * (n / 86400)) = _
          rw [e]
          exact fin_in by_ n h1 h0 hb
      · have t : 0 < n % 86400 := by omega
        rw [if_neg d, if_pos t, List.nil_append]
        have : cutT (84 :: clk (n % 86400)) = ([], some (clk (n % 86400))) := rfl
        rw [this, rd_eq]
        show (if (rv (clk (n % 86400))).2 = true then fin by_ (0 + (rv (clk (n % 86400))).1) else (0, 7)) = _
        rw [rv_clk _ t (by omega), if_pos rfl]
        have e : (0 : Int) + n % 86400 = n := by omega
        simp only [e]
        exact fin_in by_ n h1 h0 hb
/-- What is written is read back. -/
theorem back (n : Int) (h0 : -10000000000 ≤ n) (h1 : n ≤ 10000000000) : body (sg (full n)).1 (sg (full n)).2 = (n, 0) := by
  unfold full
  by_cases c : n < 0
  · rw [if_pos c, sg_cons, if_pos rfl]
    show body (-1) (80 :: txt (-n)) = _
    rw [back0 (-1) (-n) (by omega) (by omega) (Or.inr rfl)]
    congr 1
    omega
  · rw [if_neg c, sg_cons, if_neg (by decide), if_neg (by decide)]
    show body 1 (80 :: txt n) = _
    rw [back0 1 n (by omega) (by omega) (Or.inl rfl)]
    congr 1
    omega
end Go.Proofs.YthppkdbelmolbaaDoor.DurD
