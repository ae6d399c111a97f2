/- value.clockPart and value.Duration, walked. -/
import Derived.Test.YthppkdbelmolbaaDoorDurD
import Derived.Test.YthppkdbelmolbaaDoorAwake12
import Derived.Test.YthppkdbelmolbaaDoorShelfFI
import Derived.Lib.AppendIntMem
namespace Go.Proofs.YthppkdbelmolbaaDoor.DurW
open Go.RowKit Go.Proofs.YthppkdbelmolbaaDoorW.PrintWords Go.Proofs.YthppkdbelmolbaaDoorW.PrintLast Go.Proofs.YthppkdbelmolbaaDoor.Q Go.Proofs.YthppkdbelmolbaaDoor.DurD
set_option linter.unusedVariables false
set_option linter.unusedSimpArgs false
def sm (i : Nat) : List UInt8 := if i < 10 then [UInt8.ofNat (48 + i)] else [UInt8.ofNat (48 + i / 10), UInt8.ofNat (48 + i % 10)]
theorem smAll : ((List.range 100).all fun i => decide (strconv_small.f (i : Int) = some ⟨(sm i).toArray⟩)) = true := by kernel_rfl
theorem smNum (i : Nat) (h : i < 100) : sm i = Lib.decDigits i := by
  unfold sm
  by_cases c : i < 10
  · rw [if_pos c, Lib.decDigits_one c]
  · rw [if_neg c, Lib.decDigits_two c h]
theorem smalls (n : Int) (h0 : 0 ≤ n) (h1 : n < 100) : strconv_small.f n = some ⟨(num n).toArray⟩ := by
  have := List.all_eq_true.1 smAll n.toNat (List.mem_range.2 (by omega))
  have e : ((n.toNat : Nat) : Int) = n := by omega
  have h := of_decide_eq_true this
  rw [e, smNum _ (by omega)] at h
  exact h
theorem tab_below {w w' : World} (h : Lib.TabIs Tryd.prog w "internal/strconv.uint64pow10" .u64 Lib.pow10Tab) (hb : Below w.heap.size w w') : Lib.TabIs Tryd.prog w' "internal/strconv.uint64pow10" .u64 Lib.pow10Tab := by
  unfold Lib.TabIs World.var? at h ⊢
  cases hg : Program.globalNamed Tryd.prog "internal/strconv.uint64pow10" with
  | none => rw [hg] at h; cases h
  | some g =>
    rw [hg] at h
    simp only [Option.bind_some] at h ⊢
    have hlt : g < w.heap.size := by
      rcases Nat.lt_or_ge g w.heap.size with q | q
      · exact q
      · rw [Array.getElem?_eq_none q] at h; cases h
    rw [hb.block g hlt]
    exact h
theorem num_len (n : Int) (h0 : 0 ≤ n) (h1 : n < 100) : (num n).length ≤ 2 := dec_len 1 n.toNat (by omega)
set_option maxHeartbeats 8000000 in
theorem part (r : Int) (h0 : 0 < r) (h1 : r < 86400) (w : World) : Calls Tryd.prog 45 #[.int .i64 r] w fun e w' => e = .returned (.string ⟨(clk r).toArray⟩) ∧ Below w.heap.size w w' := by
  have B := Lib.hid (Below.refl w.heap.size w)
  have l1 := num_len (r / 3600) (by omega) (by omega)
  have l2 := num_len (r / 60 % 60) (by omega) (by omega)
  have l3 := num_len (r % 60) (by omega) (by omega)
  by_cases a : 0 < r / 3600 <;> by_cases b : 0 < r / 60 % 60 <;> by_cases c : 0 < r % 60
  all_goals
    (first | have a1 := eq_false a | have a1 := eq_true a)
    (first | have b1 := eq_false b | have b1 := eq_true b)
    (first | have c1 := eq_false c | have c1 := eq_true c)
    first
    | (exfalso; clear a1 b1 c1; omega)
    | (go_enter Tryd.func45, Tryd.ntmps45
       go_wp2_with fail
       repeat
         (refine (Awake12.fmt _ _ _ (by clear a1 b1 c1; omega) (by clear a1 b1 c1; omega) (smalls _ (by clear a1 b1 c1; omega) (by clear a1 b1 c1; omega))).mono ?_
          rintro e w1 ⟨rfl, hB⟩
          replace B := Lib.hid (below_then B.out B.out.size hB)
          clear hB
          go_wp2_with fail
          all_goals (try (exfalso; clear a1 b1 c1; omega)))
       go_ret
       refine ⟨?_, B.out⟩
       simp [clk, a1, b1, c1, ByteArray.ext_iff])
theorem fmtT (n : Int) (w : World) (h0 : 0 ≤ n) (h1 : n < 10000000000) (htab : Lib.TabIs Tryd.prog w "internal/strconv.uint64pow10" .u64 Lib.pow10Tab) :
    Calls Tryd.prog 44 #[.int .i64 n, .int .i64 10] w fun e w' => e = .returned (.string ⟨(num n).toArray⟩) ∧ Below w.heap.size w w' := by
  refine (Shelf.strconv_FormatInt_10 n (by omega) (by omega) w htab).mono ?_
  rintro e w' ⟨rfl, k, os, rfl⟩
  have e : Lib.itoa n = num n := by unfold Lib.itoa num; rw [if_neg (by omega)]
  rw [e]
  exact ⟨rfl, Lib.below_grow _ w (Nat.le_refl _) k os⟩
theorem num_len10 (n : Int) (h1 : n < 10000000000) : (num n).length ≤ 10 := dec_len 9 n.toNat (by omega)
theorem clk_len (r : Int) (h0 : 0 < r) (h1 : r < 86400) : (clk r).length ≤ 9 := by
  have l1 := num_len (r / 3600) (by omega) (by omega)
  have l2 := num_len (r / 60 % 60) (by omega) (by omega)
  have l3 := num_len (r % 60) (by omega) (by omega)
  unfold clk
  split <;> split <;> split <;> simp <;> omega
set_option maxHeartbeats 8000000 in
theorem durP (n : Int) (h0 : 0 ≤ n) (h1 : n ≤ 10000000000) (w : World) (htab : Lib.TabIs Tryd.prog w "internal/strconv.uint64pow10" .u64 Lib.pow10Tab) :
    Calls Tryd.prog 22 #[.int .i64 n] w fun e w' => e = .returned (.tuple #[.string ⟨(80 :: txt n).toArray⟩, .int .i64 0]) ∧ Below w.heap.size w w' := by
  have B := Lib.hid (Below.refl w.heap.size w)
  have T := Lib.hid htab
  clear htab
  have l1 := num_len10 (n / 604800) (by omega)
  have l2 := num_len10 (n / 86400) (by omega)
  have l3 := fun t : 0 < n % 86400 => clk_len (n % 86400) t (by omega)
  by_cases z : n = 0
  · subst z
    go_enter Tryd.func22, Tryd.ntmps22
    go_wp2_with fail
    go_ret2
    exact ⟨rfl, B.out⟩
  have z1 := eq_false z
  by_cases a : n % 604800 = 0
  · have a1 := eq_true a
    go_enter Tryd.func22, Tryd.ntmps22
    go_wp2_with fail
    refine (fmtT _ _ (by clear a1 z1; omega) (by clear a1 z1; omega) T.out).mono ?_
    rintro e w1 ⟨rfl, hB⟩
    replace B := Lib.hid (below_then B.out B.out.size hB)
    clear hB
    go_wp2_with fail
    all_goals (try (exfalso; clear a1 z1; omega))
    go_ret2
    refine ⟨?_, B.out⟩
    simp [txt, z1, a1, ByteArray.ext_iff]
  have a1 := eq_false a
  by_cases d : 0 < n / 86400 <;> by_cases t : 0 < n % 86400
  · have d1 := eq_true d
    have t1 := eq_true t
    have l4 := l3 t
    clear l3
    go_enter Tryd.func22, Tryd.ntmps22
    go_wp2_with fail
    refine (fmtT _ _ (by clear a1 z1 d1 t1; omega) (by clear a1 z1 d1 t1; omega) T.out).mono ?_
    rintro e w1 ⟨rfl, hB⟩
    replace B := Lib.hid (below_then B.out B.out.size hB)
    clear hB
    go_wp2_with fail
    all_goals (try (exfalso; clear a1 z1 d1 t1; omega))
    refine (part _ (by clear a1 z1 d1 t1; omega) (by clear a1 z1 d1 t1; omega) _).mono ?_
    rintro e w2 ⟨rfl, hB⟩
    replace B := Lib.hid (below_then B.out B.out.size hB)
    clear hB
    go_wp2_with fail
    all_goals (try (exfalso; clear a1 z1 d1 t1; omega))
    go_ret2
    refine ⟨?_, B.out⟩
    simp [txt, z1, a1, d1, t1, ByteArray.ext_iff]
  · have d1 := eq_true d
    have t1 := eq_false t
    clear l3
    go_enter Tryd.func22, Tryd.ntmps22
    go_wp2_with fail
    refine (fmtT _ _ (by clear a1 z1 d1 t1; omega) (by clear a1 z1 d1 t1; omega) T.out).mono ?_
    rintro e w1 ⟨rfl, hB⟩
    replace B := Lib.hid (below_then B.out B.out.size hB)
    clear hB
    go_wp2_with fail
    all_goals (try (exfalso; clear a1 z1 d1 t1; omega))
    go_ret2
    refine ⟨?_, B.out⟩
    simp [txt, z1, a1, d1, t1, ByteArray.ext_iff]
  · have d1 := eq_false d
    have t1 := eq_true t
    have l4 := l3 t
    clear l3
    go_enter Tryd.func22, Tryd.ntmps22
    go_wp2_with fail
    refine (part _ (by clear a1 z1 d1 t1; omega) (by clear a1 z1 d1 t1; omega) _).mono ?_
    rintro e w2 ⟨rfl, hB⟩
    replace B := Lib.hid (below_then B.out B.out.size hB)
    clear hB
    go_wp2_with fail
    all_goals (try (exfalso; clear a1 z1 d1 t1; omega))
    go_ret2
    refine ⟨?_, B.out⟩
    simp [txt, z1, a1, d1, t1, ByteArray.ext_iff]
  · exfalso; clear a1 z1; omega
set_option maxHeartbeats 8000000 in
theorem durN (n : Int) (h0 : 0 < n) (h1 : n ≤ 10000000000) (w : World) (htab : Lib.TabIs Tryd.prog w "internal/strconv.uint64pow10" .u64 Lib.pow10Tab) :
    Calls Tryd.prog 22 #[.int .i64 (-n)] w fun e w' => e = .returned (.tuple #[.string ⟨(45 :: 80 :: txt n).toArray⟩, .int .i64 0]) ∧ Below w.heap.size w w' := by
  have B := Lib.hid (Below.refl w.heap.size w)
  have T := Lib.hid htab
  clear htab
  have l1 := num_len10 (n / 604800) (by omega)
  have l2 := num_len10 (n / 86400) (by omega)
  have l3 := fun t : 0 < n % 86400 => clk_len (n % 86400) t (by omega)
  have z : ¬ n = 0 := by omega
  have z1 := eq_false z
  by_cases a : n % 604800 = 0
  · have a1 := eq_true a
    go_enter Tryd.func22, Tryd.ntmps22
    go_wp2_with fail
    refine (fmtT _ _ (by clear a1 z1; omega) (by clear a1 z1; omega) T.out).mono ?_
    rintro e w1 ⟨rfl, hB⟩
    replace B := Lib.hid (below_then B.out B.out.size hB)
    clear hB
    go_wp2_with fail
    all_goals (try (exfalso; clear a1 z1; omega))
    go_ret2
    refine ⟨?_, B.out⟩
    simp [txt, z1, a1, ByteArray.ext_iff]
  have a1 := eq_false a
  by_cases d : 0 < n / 86400 <;> by_cases t : 0 < n % 86400
  · have d1 := eq_true d
    have t1 := eq_true t
    have l4 := l3 t
    clear l3
    go_enter Tryd.func22, Tryd.ntmps22
    go_wp2_with fail
    refine (fmtT _ _ (by clear a1 z1 d1 t1; omega) (by clear a1 z1 d1 t1; omega) T.out).mono ?_
    rintro e w1 ⟨rfl, hB⟩
    replace B := Lib.hid (below_then B.out B.out.size hB)
    clear hB
    go_wp2_with fail
    all_goals (try (exfalso; clear a1 z1 d1 t1; omega))
    refine (part _ (by clear a1 z1 d1 t1; omega) (by clear a1 z1 d1 t1; omega) _).mono ?_
    rintro e w2 ⟨rfl, hB⟩
    replace B := Lib.hid (below_then B.out B.out.size hB)
    clear hB
    go_wp2_with fail
    all_goals (try (exfalso; clear a1 z1 d1 t1; omega))
    go_ret2
    refine ⟨?_, B.out⟩
    simp [txt, z1, a1, d1, t1, ByteArray.ext_iff]
  · have d1 := eq_true d
    have t1 := eq_false t
    clear l3
    go_enter Tryd.func22, Tryd.ntmps22
    go_wp2_with fail
    refine (fmtT _ _ (by clear a1 z1 d1 t1; omega) (by clear a1 z1 d1 t1; omega) T.out).mono ?_
    rintro e w1 ⟨rfl, hB⟩
    replace B := Lib.hid (below_then B.out B.out.size hB)
    clear hB
    go_wp2_with fail
    all_goals (try (exfalso; clear a1 z1 d1 t1; omega))
    go_ret2
    refine ⟨?_, B.out⟩
    simp [txt, z1, a1, d1, t1, ByteArray.ext_iff]
  · have d1 := eq_false d
    have t1 := eq_true t
    have l4 := l3 t
    clear l3
    go_enter Tryd.func22, Tryd.ntmps22
    go_wp2_with fail
    refine (part _ (by clear a1 z1 d1 t1; omega) (by clear a1 z1 d1 t1; omega) _).mono ?_
    rintro e w2 ⟨rfl, hB⟩
    replace B := Lib.hid (below_then B.out B.out.size hB)
    clear hB
    go_wp2_with fail
    all_goals (try (exfalso; clear a1 z1 d1 t1; omega))
    go_ret2
    refine ⟨?_, B.out⟩
    simp [txt, z1, a1, d1, t1, ByteArray.ext_iff]
  · exfalso; clear a1 z1; omega
theorem dur (n : Int) (h0 : -10000000000 ≤ n) (h1 : n ≤ 10000000000) (w : World) (htab : Lib.TabIs Tryd.prog w "internal/strconv.uint64pow10" .u64 Lib.pow10Tab) :
    Calls Tryd.prog 22 #[.int .i64 n] w fun e w' => e = .returned (.tuple #[.string ⟨(full n).toArray⟩, .int .i64 0]) ∧ Below w.heap.size w w' := by
  unfold full
  by_cases c : n < 0
  · rw [if_pos c]
    have := durN (-n) (by omega) (by omega) w htab
    rwa [Int.neg_neg] at this
  · rw [if_neg c]
    exact durP n (by omega) h1 w htab
theorem durOut (n : Int) (h : n < -10000000000 ∨ 10000000000 < n) (w : World) :
    Calls Tryd.prog 22 #[.int .i64 n] w fun e w' => e = .returned (.tuple #[.string ⟨#[]⟩, .int .i64 7]) ∧ Below w.heap.size w w' := by
  have B := Lib.hid (Below.refl w.heap.size w)
  rcases h with h | h
  · have h1 := eq_true h
    go_enter Tryd.func22, Tryd.ntmps22
    go_wp2_with fail
    go_ret2
    exact ⟨rfl, B.out⟩
  · have h1 := eq_true h
    have h2 : (n < -10000000000) = False := eq_false (by omega)
    go_enter Tryd.func22, Tryd.ntmps22
    go_wp2_with fail
    go_ret2
    exact ⟨rfl, B.out⟩
end Go.Proofs.YthppkdbelmolbaaDoor.DurW
