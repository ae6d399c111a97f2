/- Texts of this claim, merged: LinC, RecL, RecA. -/
import Derived.Test.YtddoidcbpcmlaaaMgEventClones1
import Derived.Test.YtddoidcbpcmlaaaWTab
import Derived.Test.YtddoidcbpcmlaaaWLast
import Derived.Lib.Hide
import Derived.Laws.Append
/- line.Clone. (Written by gen_linec.py.) -/
namespace Go.Proofs.Ytddoidcbpcmlaaa.LinC
open Go.RowKit Go.Proofs.YtddoidcbpcmlaaaW.PrintWords Go.Proofs.YtddoidcbpcmlaaaW.PrintLast Go.Proofs.Ytddoidcbpcmlaaa.M Go.Proofs.Ytddoidcbpcmlaaa.Fr Go.Proofs.Ytddoidcbpcmlaaa.Clo
set_option linter.unusedVariables false
set_option linter.unusedSimpArgs false
/-- The first k of n operations are done. -/
def tt (n k : Nat) : Array Bool := (List.replicate k true ++ List.replicate (n - k) false).toArray
abbrev SV : Kd (List ByteArray) := Kd.slice 9 Kd.string
theorem agree_set {n : Nat} (w : World) (p : Addr) (u : Value) (h : p.block < n) : Agree n w (w.setCell p u) := fun k h1 _ => Below.heap_setCell w p u k (by omega)
theorem fr_set {α : Type} {d : Kd α} {n : Nat} {w : World} {x : α} {cs : List Value} (h : Fr d n w x cs) (p : Addr) (u : Value) (hp : p.block < n) : Fr d n (w.setCell p u) x cs := h.keep (agree_set w p u hp) (by simp [World.setCell])
/-- A kind as one world has it. -/
def At {α : Type} (d : Kd α) (w : World) : Kd α where
  sz := d.sz
  E := []
  K := fun _ x cs => d.K w x cs
  M := fun _ _ _ _ _ => False
  K_len := fun h => d.K_len h
  K_one := fun h => d.K_one h
  K_below := fun _ h => h
  K_of_M := fun h => h.elim
  M_mono := fun _ h => h
  M_bound := fun h => h.elim
  M_move := fun _ h => h.elim
  M_lower := fun _ h => h
theorem C_at {α : Type} {d : Kd α} {w w0 : World} {A : Option Addr} {n : Nat} {xs : List α} (h : Kd.C d w A n xs) (hb : Below w.heap.size w w0) : Kd.C (At d w) w0 A n xs := by
  obtain ⟨h1, h2, h3⟩ := h
  refine ⟨h1, h2, fun hp => ?_⟩
  obtain ⟨ad, e, h4⟩ := h3 hp
  refine ⟨ad, e, fun j p hj => ?_⟩
  obtain ⟨cs, e1, e2, e3⟩ := h4 j p hj
  exact ⟨cs, e1, e2, fun i u hi => pw_cell_below hb (e3 i u hi)⟩
/-- The parameters' row between two rounds: those before i have values of their own. -/
def Mid (w0 : World) (gr : Nat) (ps : List S105) (i : Nat) (w : World) : Prop := ∃ cells : Array Value, w.heap[gr]? = some (.cells cells 105 (0, 0)) ∧
  ∀ j p, ps[j]? = some p → ∃ v, cells[j * 2]? = some (.string p.f0) ∧ cells[j * 2 + 1]? = some v ∧ (j < i → Fr SV (gr + 1) w p.f1 [v]) ∧ (i ≤ j → SV.K w0 p.f1 [v])
theorem Mid.start {w0 wz w : World} {gr n0 : Nat} {ps : List S105} {A : Option Addr} (h : Row (At k105 w0) 105 wz n0 w A ps) (hp : 0 < ps.length) (hA : A = some ⟨gr, 0, none⟩) : n0 ≤ gr ∧ gr < w.heap.size ∧ Mid w0 gr ps 0 w := by
  obtain ⟨g, cells, e, h1, h2, h3, h4⟩ := h hp
  rw [hA] at e
  cases e
  refine ⟨h1, h2, cells, h3, fun j p hj => ?_⟩
  obtain ⟨cs, e1, e2, e3⟩ := h4 j p hj
  obtain ⟨A1, c1, rfl, l1, g1⟩ := k105_open e2
  exact ⟨_, e3 0 _ rfl, e3 1 _ rfl, fun q => by omega, fun _ => ⟨A1, c1, rfl, l1, g1⟩⟩
theorem Mid.below {w0 w w1 : World} {gr : Nat} {ps : List S105} {i : Nat} (h : Mid w0 gr ps i w) (hb : Below w.heap.size w w1) : Mid w0 gr ps i w1 := by
  obtain ⟨cells, h1, h2⟩ := h
  refine ⟨cells, blk_below h1 hb, fun j p hj => ?_⟩
  obtain ⟨v, e1, e2, e3, e4⟩ := h2 j p hj
  exact ⟨v, e1, e2, fun q => (e3 q).below hb, e4⟩
theorem Mid.far {w0 w : World} {gr : Nat} {ps : List S105} {i : Nat} (h : Mid w0 gr ps i w) (a : Addr) (u : Value) (ha : a.block < gr) : Mid w0 gr ps i (w.setCell a u) := by
  obtain ⟨cells, h1, h2⟩ := h
  refine ⟨cells, blk_far h1 (by omega) u, fun j p hj => ?_⟩
  obtain ⟨v, e1, e2, e3, e4⟩ := h2 j p hj
  exact ⟨v, e1, e2, fun q => fr_set (e3 q) a u (by omega), e4⟩
theorem Mid.step {w0 w : World} {gr : Nat} {ps : List S105} {i : Nat} {p : S105} {v : Value} (h : Mid w0 gr ps i w) (hp : ps[i]? = some p) (hv : Fr SV (gr + 1) w p.f1 [v]) : Mid w0 gr ps (i + 1) (w.setCell ⟨gr, i * 2 + 1, none⟩ v) := by
  obtain ⟨cells, h1, h2⟩ := h
  refine ⟨_, blk_set h1 (i * 2 + 1) v, fun j q hj => ?_⟩
  obtain ⟨u, e1, e2, e3, e4⟩ := h2 j q hj
  have hlt : i * 2 + 1 < cells.size := by obtain ⟨_, _, e, _⟩ := h2 i p hp; exact (Array.getElem?_eq_some_iff.1 e).1
  by_cases c : j = i
  · subst c
    rw [hp] at hj
    cases hj
    refine ⟨v, ?_, ?_, fun _ => fr_set hv _ _ (by show gr < gr + 1; omega), fun q => by omega⟩
    · rw [Array.getElem?_setIfInBounds_ne (by omega)]; exact e1
    · rw [Array.getElem?_setIfInBounds_self_of_lt hlt]
  · refine ⟨u, ?_, ?_, fun q => fr_set (e3 (by omega)) _ _ (by show gr < gr + 1; omega), fun q => e4 (by omega)⟩
    · rw [Array.getElem?_setIfInBounds_ne (by omega)]; exact e1
    · rw [Array.getElem?_setIfInBounds_ne (by omega)]; exact e2
theorem Mid.fr {w0 w : World} {gr c : Nat} {ps : List S105} (h : Mid w0 gr ps ps.length w) (hg : gr < w.heap.size) (hc : ps.length ≤ c) (hm : ps.length ≤ 3518437208883) : Fr (Kd.slice 105 k105) gr w ps [.slice (some ⟨gr, 0, none⟩) ps.length c] :=
  Fr.slice hc (by omega) fun hp => by
    obtain ⟨cells, h1, h2⟩ := h
    refine ⟨_, rfl, Nat.le_refl _, hg, fun j p hj => ?_⟩
    obtain ⟨v, e1, e2, e3, _⟩ := h2 j p hj
    have hlt := (List.getElem?_eq_some_iff.1 hj).1
    refine ⟨[.string p.f0, v], rfl, Fr.iso (f := fun x : S105 => (x.f0, x.f1)) (Fr.pair (c0 := [.string p.f0]) (c1 := [v]) Fr.scalar ((e3 hlt).lower (by omega))), fun q u hq => Row.cell (w0 := w0) (n0 := gr) (xs := ps) (d := k105) h1 ?_⟩
    match q, hq with
    | 0, hq => obtain rfl := Option.some.inj hq; exact e1
    | 1, hq => obtain rfl := Option.some.inj hq; exact e2
def Tc5 : Bool × List (List Nat × List Nat) := (true, [([], []), ([0], [0]), ([], []), ([], []), ([3], [3]), ([], []), ([4, 5], [4, 5]), ([6], [6]), ([7], [7]), ([8], [8]), ([1, 2, 0, 1, 2, 3, 4, 5, 6, 7, 8, 9], [1, 2]), ([10, 0, 1, 2, 3, 4, 5, 6, 7, 8, 9], [10]), ([11, 9, 9, 0, 1, 2, 3, 4, 5, 6, 7, 8, 9], [9, 11])])
def Bc5 : List Nat := [0, 1, 0, 0, 8, 0, 56, 120, 248, 504, 1023, 2047, 4095]
theorem tabc5 : rtab .any (opsOf Try.f39 5) = Tc5 := by kernel_rfl
theorem bitsc5 : waitsOk Tc5.2 Bc5 = true := by kernel_rfl
theorem twoB (w : World) (o1 o2 : Obj) : ∃ w0, w0 = (w.alloc o1).alloc o2 ∧ w0.heap.size = w.heap.size + 2 ∧ w0.heap[w.heap.size]? = some o1 ∧ w0.heap[w.heap.size + 1]? = some o2 ∧ Below w.heap.size w w0 := by
  have h1 := blk_new w o1
  have h2 := blk_new (w.alloc o1) o2
  simp only [World.size_alloc] at h2
  exact ⟨_, rfl, by simp only [World.size_alloc], blk_below h1 (below_alloc (Below.refl _ _) _), h2, below_alloc (below_alloc (Below.refl _ _) _) _⟩
set_option maxHeartbeats 4000000 in
set_option maxRecDepth 100000 in
theorem clone (x : S55) (A : Option Addr) (c : Nat) (w : World) (hC : Kd.C k105 w A x.f1.length x.f1) (b1 : x.f1.length ≤ 3518437208883) (b2 : ∀ p ∈ x.f1, p.f1.length ≤ 8796093022208) :
    Calls Try.prog 39 #[.agg #[.string x.f0, .slice A x.f1.length c, .string x.f2]] w fun q w' => ∃ A' c', q = .returned (.agg #[.string x.f0, .slice A' x.f1.length c', .string x.f2]) ∧ Fr k55 w.heap.size w' x [.string x.f0, .slice A' x.f1.length c', .string x.f2] ∧ Below w.heap.size w w' := by
  have HC := Aside0.mk hC; have B1 := Aside0.mk b1; have B2 := Aside0.mk b2
  clear hC b1 b2
  go_enter Try.func39, Try.ntmps39
  go_upto_region 1 with fail
  obtain ⟨w0, hw0, z0, q1, q2, qb⟩ := twoB w (.cells #[.string x.f0, .slice A x.f1.length c, .string x.f2] 55 (0, 0)) (.cells #[.string ⟨#[]⟩, .slice none 0 0, .string ⟨#[]⟩] 55 (0, 0))
  rw [← hw0]
  clear hw0
  have S0 := Aside0.mk z0; have K0 := Aside0.mk q1; have ZZ := Aside0.mk q2; have HB := Aside0.mk qb
  have k1 : w0.cell? ⟨w.heap.size, 1, none⟩ = some (.slice A x.f1.length c) := (blk_cell K0.out 1).trans rfl
  clear z0 q1 q2 qb
  go_wp2_with fail
  refine (Clo.param (At k105 w) rfl A c x.f1 w0 (C_at HC.out HB.out) (by have := B1.out; omega)).mono ?_
  rintro q w1 ⟨A', c', rfl, hc', hrow, hb⟩
  replace K0 := Aside0.mk (blk_below K0.out hb); replace ZZ := Aside0.mk (blk_below ZZ.out hb); replace HB := Aside0.mk (below_then HB.out HB.out.size hb)
  have HCC := Aside0.mk hc'
  have MO := Aside0.mk (show 0 < x.f1.length → ∃ gr, A' = some ⟨gr, 0, none⟩ ∧ w.heap.size + 2 ≤ gr ∧ gr < (w1.setCell ⟨w.heap.size, 1, none⟩ (.slice A' x.f1.length c')).heap.size ∧ Mid w gr x.f1 0 (w1.setCell ⟨w.heap.size, 1, none⟩ (.slice A' x.f1.length c')) from fun hp => by
    obtain ⟨g, cells, e, _⟩ := hrow hp
    obtain ⟨h1, h2, h3⟩ := Mid.start hrow hp e
    have := S0.out
    exact ⟨g, e, by omega, by simpa [World.setCell] using h2, h3.far _ _ (by show w.heap.size < g; omega)⟩)
  clear k1 hb hrow hc'
  have kf := blk_frozen K0.out 1
  have k1 : w1.cell? ⟨w.heap.size, 1, none⟩ = some (.slice A x.f1.length c) := (blk_cell K0.out 1).trans rfl
  go_upto_region 2 with fail
  replace K0 := Aside0.mk (show (w1.setCell ⟨w.heap.size, 1, none⟩ (.slice A' x.f1.length c')).heap[w.heap.size]? = some (.cells #[.string x.f0, .slice A' x.f1.length c', .string x.f2] 55 (0, 0)) from blk_set K0.out 1 _)
  replace ZZ := Aside0.mk (blk_far ZZ.out (p := ⟨w.heap.size, 1, none⟩) (by show w.heap.size + 1 ≠ w.heap.size; omega) (.slice A' x.f1.length c'))
  replace HB := Aside0.mk (HB.out.setCell (p := ⟨w.heap.size, 1, none⟩) (Nat.le_refl _) (.slice A' x.f1.length c'))
  clear k1 kf
  generalize w1.setCell ⟨w.heap.size, 1, none⟩ (.slice A' x.f1.length c') = w2 at K0 ZZ HB MO ⊢
  have k1 : w2.cell? ⟨w.heap.size, 1, none⟩ = some (.slice A' x.f1.length c') := (blk_cell K0.out 1).trans rfl
  go_wp2_with fail
  go_loopg [11] x.f1.length (fun kq v11 w' => ∃ (i : Nat) (X : Int), v11 = .int .i64 X ∧ Aside0 (X = (i : Int)) ∧ Aside0 (i + kq = x.f1.length) ∧ Aside0 (w'.heap[w.heap.size]? = some (.cells #[.string x.f0, .slice A' x.f1.length c', .string x.f2] 55 (0, 0))) ∧ Aside0 (w'.heap[w.heap.size + 1]? = some (.cells #[.string ⟨#[]⟩, .slice none 0 0, .string ⟨#[]⟩] 55 (0, 0))) ∧ Aside0 (0 < x.f1.length → ∃ gr, A' = some ⟨gr, 0, none⟩ ∧ w.heap.size + 2 ≤ gr ∧ gr < w'.heap.size ∧ Mid w gr x.f1 i w') ∧ Aside0 (Below w.heap.size w w'))
  case atStart => exact ⟨0, 0, rfl, ⟨rfl⟩, ⟨by omega⟩, K0, ZZ, MO, HB⟩
  case round =>
    clear K0 ZZ MO HB k1
    obtain ⟨i, X, rfl, HX, HI, K0, ZZ, MO, HB⟩ := hrel
    have k0 : wr.cell? ⟨w.heap.size, 0, none⟩ = some (.string x.f0) := (blk_cell K0.out 0).trans rfl
    have k1 : wr.cell? ⟨w.heap.size, 1, none⟩ = some (.slice A' x.f1.length c') := (blk_cell K0.out 1).trans rfl
    have k2 : wr.cell? ⟨w.heap.size, 2, none⟩ = some (.string x.f2) := (blk_cell K0.out 2).trans rfl
    cases gk with
    | zero =>
      have l1 : decide (X < (x.f1.length : Int)) = false := decide_eq_false (by have := HX.out; have := HI.out; omega)
      have z0 : wr.cell? ⟨w.heap.size + 1, 0, none⟩ = some (.string ⟨#[]⟩) := (blk_cell ZZ.out 0).trans rfl
      have z1 : wr.cell? ⟨w.heap.size + 1, 1, none⟩ = some (.slice none 0 0) := (blk_cell ZZ.out 1).trans rfl
      have z2 : wr.cell? ⟨w.heap.size + 1, 2, none⟩ = some (.string ⟨#[]⟩) := (blk_cell ZZ.out 2).trans rfl
      have y0 := blk_frozen ZZ.out 0
      have y1 := blk_frozen ZZ.out 1
      have y2 := blk_frozen ZZ.out 2
      go_wp2_with fail
      have ZF : (((wr.setCell ⟨w.heap.size + 1, 0, none⟩ (.string x.f0)).setCell ⟨w.heap.size + 1, 1, none⟩ (.slice A' x.f1.length c')).setCell ⟨w.heap.size + 1, 2, none⟩ (.string x.f2)).heap[w.heap.size + 1]? = some (.cells #[.string x.f0, .slice A' x.f1.length c', .string x.f2] 55 (0, 0)) := blk_set (blk_set (blk_set ZZ.out 0 _) 1 _) 2 _
      have r0 := (blk_cell ZF 0).trans rfl
      have r1 := (blk_cell ZF 1).trans rfl
      have r2 := (blk_cell ZF 2).trans rfl
      refine bodyPost_ret (v := .agg #[.string x.f0, .slice A' x.f1.length c', .string x.f2]) (by simp [results, Try.results39, go_sem, r0, r1, r2]) rfl ⟨A', c', rfl, ?_, ?_⟩
      · refine Fr.iso (f := fun x : S55 => (x.f0, x.f1, x.f2)) (Fr.pair (c0 := [.string x.f0]) (c1 := [.slice A' x.f1.length c', .string x.f2]) Fr.scalar (Fr.pair (c0 := [.slice A' x.f1.length c']) (c1 := [.string x.f2]) ?_ Fr.scalar))
        by_cases hn : 0 < x.f1.length
        · obtain ⟨gr, rfl, g1, g2, hM⟩ := MO.out hn
          have e : i = x.f1.length := by have := HI.out; omega
          subst e
          have := B1.out
          exact (fr_set (fr_set (fr_set (Mid.fr hM g2 HCC.out this) ⟨w.heap.size + 1, 0, none⟩ _ (by show w.heap.size + 1 < gr; omega)) ⟨w.heap.size + 1, 1, none⟩ _ (by show w.heap.size + 1 < gr; omega)) ⟨w.heap.size + 1, 2, none⟩ _ (by show w.heap.size + 1 < gr; omega)).lower (by omega)
        · exact Fr.slice HCC.out (by have := B1.out; show x.f1.length ≤ _; omega) (fun q => absurd q hn)
      · exact ((HB.out.setCell (p := ⟨w.heap.size + 1, 0, none⟩) (by show w.heap.size ≤ w.heap.size + 1; omega) _).setCell (p := ⟨w.heap.size + 1, 1, none⟩) (by show w.heap.size ≤ w.heap.size + 1; omega) _).setCell (p := ⟨w.heap.size + 1, 2, none⟩) (by show w.heap.size ≤ w.heap.size + 1; omega) _
    | succ k1_ =>
      have hi : i < x.f1.length := by have := HI.out; omega
      have p1 : 0 ≤ X := by have := HX.out; omega
      have q1 : X < (x.f1.length : Int) := by have := HX.out; omega
      have l1 : decide (X < (x.f1.length : Int)) = true := decide_eq_true q1
      have nx : wrap64 (X + 1) = X + 1 := by have := HX.out; have := HI.out; have := B1.out; unfold wrap64; omega
      obtain ⟨gr, rfl, g1, g2, hM⟩ := MO.out (by omega)
      have GM := Aside0.mk hM
      obtain ⟨cells, hc1, hc2⟩ := hM
      have hpi := List.getElem?_eq_getElem hi
      have hmem := B2.out _ (List.getElem_mem hi)
      obtain ⟨p, hp⟩ : ∃ p, x.f1[i] = p := ⟨_, rfl⟩
      rw [hp] at hpi hmem
      obtain ⟨v, _, e2, _, e4⟩ := hc2 i p hpi
      obtain ⟨A1, c1, hv, hl1, hCv⟩ := e4 (Nat.le_refl _)
      obtain rfl : v = .slice A1 p.f1.length c1 := by simpa using hv
      have kr : wr.cell? ⟨gr, X.toNat * 2 + 1, none⟩ = some (.slice A1 p.f1.length c1) := by rw [HX.out, Int.toNat_natCast]; exact (blk_cell hc1 (i * 2 + 1)).trans e2
      have kfr := blk_frozen hc1 (X.toNat * 2 + 1)
      have HP := Aside0.mk hpi; have HM := Aside0.mk hmem; have CV := Aside0.mk hCv; have G1 := Aside0.mk g1; have G2 := Aside0.mk g2; have BC := Aside0.mk hc1
      replace p1 := eq_true p1; replace q1 := eq_true q1
      clear hc1 hc2 hpi hmem hp e2 e4 hv hl1 hCv g1 g2 hi MO
      go_upto_region 5 with fail
      have HR := Aside0.mk (below_drew1 (Below.refl wr.heap.size wr))
      refine start_ (n := 13) (S := fun w' => w'.cell? ⟨w.heap.size, 1, none⟩ = some (.slice (some ⟨gr, 0, none⟩) x.f1.length c') ∧ w'.cell? ⟨gr, X.toNat * 2 + 1, none⟩ = some (.slice A1 p.f1.length c1)) (ds := [12]) (tt 13 0) (by kernel_rfl) rfl rfl ⟨pw_cell_below (below_drew1 (Below.refl _ _)) k1, pw_cell_below (below_drew1 (Below.refl _ _)) kr⟩ (fun hHeld => ?_)
      refine with_tabW tabc5 bitsc5 (fun HT_ HW_ => ?_)
      generalize wr.drew = wd_ at HR hHeld ⊢
      refine pure_ (i := 0) (N := some 14) (v := ?_) (a' := ?_) (tt 13 1) rfl rfl (any_of HT_.out (by kernel_rfl)) (fun _ _ _ h => h) (Or.inl ⟨by rfl, ?_⟩) ?_ ?_
      rotate_left
      · intro w'
        go_simp
        with_reducible rfl
      rotate_left
      · simp only [Act.put, List.setIfInBounds_toArray, List.set_cons_zero, List.set_cons_succ, i64_w, i32_w]
        rfl
      refine take_ (i := 1) (N := some 15) (v := ?_) (a' := ?_) (tt 13 2) rfl rfl (take_ofW HT_.out HW_.out (by kernel_rfl)) (fun _ _ _ h => h) (Or.inl ⟨by rfl, ?_⟩) hHeld ?_ ?_
      rotate_left
      · rintro w' ⟨s0, s1⟩
        go_simp
        with_reducible rfl
      rotate_left
      · simp only [Act.put, List.setIfInBounds_toArray, List.set_cons_zero, List.set_cons_succ, i64_w, i32_w]
        rfl
      refine pure_ (i := 2) (N := some 16) (v := ?_) (a' := ?_) (tt 13 3) rfl rfl (any_of HT_.out (by kernel_rfl)) (fun _ _ _ h => h) (Or.inl ⟨by rfl, ?_⟩) ?_ ?_
      rotate_left
      · intro w'
        go_simp
        with_reducible rfl
      rotate_left
      · simp only [Act.put, List.setIfInBounds_toArray, List.set_cons_zero, List.set_cons_succ, i64_w, i32_w]
        rfl
      refine pure_ (i := 3) (N := some 17) (v := ?_) (a' := ?_) (tt 13 4) rfl rfl (any_of HT_.out (by kernel_rfl)) (fun _ _ _ h => h) (Or.inl ⟨by rfl, ?_⟩) ?_ ?_
      rotate_left
      · intro w'
        go_simp
        with_reducible rfl
      rotate_left
      · simp only [Act.put, List.setIfInBounds_toArray, List.set_cons_zero, List.set_cons_succ, i64_w, i32_w]
        rfl
      refine take_ (i := 4) (N := some 18) (v := ?_) (a' := ?_) (tt 13 5) rfl rfl (take_ofW HT_.out HW_.out (by kernel_rfl)) (fun _ _ _ h => h) (Or.inl ⟨by rfl, ?_⟩) hHeld ?_ ?_
      rotate_left
      · rintro w' ⟨s0, s1⟩
        go_simp
        with_reducible rfl
      rotate_left
      · simp only [Act.put, List.setIfInBounds_toArray, List.set_cons_zero, List.set_cons_succ, i64_w, i32_w]
        rfl
      refine pure_ (i := 5) (N := some 19) (v := ?_) (a' := ?_) (tt 13 6) rfl rfl (any_of HT_.out (by kernel_rfl)) (fun _ _ _ h => h) (Or.inl ⟨by rfl, ?_⟩) ?_ ?_
      rotate_left
      · intro w'
        go_simp
        with_reducible rfl
      rotate_left
      · simp only [Act.put, List.setIfInBounds_toArray, List.set_cons_zero, List.set_cons_succ, i64_w, i32_w]
        rfl
      refine pure_ (i := 6) (N := some 20) (v := ?_) (a' := ?_) (tt 13 7) rfl rfl (any_of HT_.out (by kernel_rfl)) (fun _ _ _ h => h) (Or.inl ⟨by rfl, ?_⟩) ?_ ?_
      rotate_left
      · intro w'
        go_simp
        with_reducible rfl
      rotate_left
      · simp only [Act.put, List.setIfInBounds_toArray, List.set_cons_zero, List.set_cons_succ, i64_w, i32_w]
        rfl
      refine pure_ (i := 7) (N := some 21) (v := ?_) (a' := ?_) (tt 13 8) rfl rfl (any_of HT_.out (by kernel_rfl)) (fun _ _ _ h => h) (Or.inl ⟨by rfl, ?_⟩) ?_ ?_
      rotate_left
      · intro w'
        go_simp
        with_reducible rfl
      rotate_left
      · simp only [Act.put, List.setIfInBounds_toArray, List.set_cons_zero, List.set_cons_succ, i64_w, i32_w]
        rfl
      refine take_ (i := 8) (N := some 22) (v := ?_) (a' := ?_) (tt 13 9) rfl rfl (take_ofW HT_.out HW_.out (by kernel_rfl)) (fun _ _ _ h => h) (Or.inl ⟨by rfl, ?_⟩) hHeld ?_ ?_
      rotate_left
      · rintro w' ⟨s0, s1⟩
        go_simp
        with_reducible rfl
      rotate_left
      · simp only [Act.put, List.setIfInBounds_toArray, List.set_cons_zero, List.set_cons_succ, i64_w, i32_w]
        rfl
      refine one_ (i := 9) (N := some 23) (tt 13 10) rfl rfl (one_of HT_.out (by kernel_rfl)) (by decide) (fun K hK => ?_)
      refine goes_ Try.func55 (by kernel_rfl) rfl #[.slice A1 p.f1.length c1] (by rfl) rfl rfl (by (try simp only [List.map_toArray, List.map_cons, List.map_nil]); first | done | rfl) ?_
      refine (Clo.str Kd.string rfl A1 c1 p.f1 _ (Kd.C_below CV.out (below_then HB.out HB.out.size HR.out)) (by have := HM.out; omega)).mono ?_
      rintro q wq1 ⟨A2, c2, rfl, hc2, hrow2, hb⟩
      refine ⟨_, rfl, ?_⟩
      have SZ := Aside0.mk hb.size; have SR := Aside0.mk HR.out.size
      replace HR := Aside0.mk (below_then HR.out HR.out.size hb)
      have R2 := Aside0.mk hrow2; have C2 := Aside0.mk hc2
      refine hK.out _ _ ⟨pw_cell_below hb hHeld.1, pw_cell_below hb hHeld.2⟩ (fun hHeld => ?_)
      clear hK K
      refine norm_ (a' := ?_) ?_ ?_
      rotate_left
      · show Act.put _ (some 23) _ = _
        simp only [Act.put, List.setIfInBounds_toArray, List.set_cons_zero, List.set_cons_succ, i64_w, i32_w]
        rfl
      refine pure_ (i := 10) (N := some 24) (v := ?_) (a' := ?_) (tt 13 11) rfl rfl (any_of HT_.out (by kernel_rfl)) (fun _ _ _ h => h) (Or.inl ⟨by rfl, ?_⟩) ?_ ?_
      rotate_left
      · intro w'
        go_simp
        with_reducible rfl
      rotate_left
      · simp only [Act.put, List.setIfInBounds_toArray, List.set_cons_zero, List.set_cons_succ, i64_w, i32_w]
        rfl
      refine pure_ (i := 11) (N := some 25) (v := ?_) (a' := ?_) (tt 13 12) rfl rfl (any_of HT_.out (by kernel_rfl)) (fun _ _ _ h => h) (Or.inl ⟨by rfl, ?_⟩) ?_ ?_
      rotate_left
      · intro w'
        go_simp
        with_reducible rfl
      rotate_left
      · simp only [Act.put, List.setIfInBounds_toArray, List.set_cons_zero, List.set_cons_succ, i64_w, i32_w]
        rfl
      refine last_ (i := 12) (N := none) (tt 13 13) rfl rfl (one_of HT_.out (by kernel_rfl)) (by decide) (fun K hK => ?_)
      have kz := hHeld.2
      have kf := blk_frozen (blk_below BC.out HR.out) (X.toNat * 2 + 1)
      refine skip_ (w1 := ?_) (by rfl) rfl ?_ ?_
      rotate_left
      · go_simp
        rfl
      refine hK.out _ _ ?_
      clear hK K
      refine done_ (done_of HT_.out (by kernel_rfl)) ?_
      clear HT_ HW_
      have FV := Aside0.mk ((Row.fr (e' := 9) R2.out (fun p cs h => by cases h; exact Fr.scalar) C2.out (by have := HM.out; omega)).lower (show gr + 1 ≤ _ by have := G2.out; have := SR.out; omega))
      go_wp2_with fail
      go_roundg k1_
      case measure => omega
      case rel =>
        refine ⟨i + 1, X + 1, by simp [nx], ⟨by have := HX.out; push_cast; omega⟩, ⟨by have := HI.out; omega⟩, ⟨blk_far (blk_below K0.out HR.out) (by show w.heap.size ≠ gr; have := G1.out; omega) _⟩, ⟨blk_far (blk_below ZZ.out HR.out) (by show w.heap.size + 1 ≠ gr; have := G1.out; omega) _⟩, ⟨fun _ => ⟨gr, rfl, G1.out, ?_, ?_⟩⟩, ⟨(below_then HB.out HB.out.size HR.out).setCell (p := ⟨gr, X.toNat * 2 + 1, none⟩) (by show w.heap.size ≤ gr; have := G1.out; omega) _⟩⟩
        · have := G2.out; have := HR.out.size; simp [World.setCell]; omega
        · have e := HX.out
          subst e
          exact Mid.step (GM.out.below HR.out) HP.out FV.out
      end Go.Proofs.Ytddoidcbpcmlaaa.LinC
/- recur.lists: a rule's lists of numbers, in two rows. (Written by gen_reclists.py.) -/
namespace Go.Proofs.Ytddoidcbpcmlaaa.RecL
open Go.RowKit Go.Proofs.YtddoidcbpcmlaaaW.PrintWords Go.Proofs.YtddoidcbpcmlaaaW.PrintLast
set_option linter.unusedVariables false
set_option linter.unusedSimpArgs false
section
variable {P : Program} {ops : Array Oper} {o : Oper} {a : Act} {Q : Exit → Act → World → Prop} {Kc : Act → World → Prop}
/-- A row laid in a region that draws. -/
theorem lit_step {W : World} (hw : Region.wanted o (yielded ops a.tmps) = true) {N : Tmp} (_hd : o.dst = some N) {cs : Array Value} {t : TypeId} {n : Nat}
    (hrun : (execOp a.eval o).run P W = .ok (.value (.slice (some ⟨W.heap.size, 0, none⟩) n n)) (W.alloc (.cells cs t (0, 0))))
    (h : ∀ g, g = W.heap.size → ∀ w1, w1.heap[g]? = some (.cells cs t (0, 0)) → Below W.heap.size W w1 → Kc (a.put o.dst (.slice (some ⟨g, 0, none⟩) n n)) w1) : if Region.wanted o (yielded ops a.tmps) = true then Oper.wp P o a W Kc Q else Kc (a.put o.dst undef) W :=
  event_step hw hrun (h _ rfl _ (blk_new W _) (below_alloc (Below.refl _ _) _))
end
/-- The lists ahead of BYDAY. -/
def C1 (B : Nat) : Array Value := #[.string ⟨#[66, 89, 83, 69, 67, 79, 78, 68]⟩, .pointer (some ⟨B, 8, none⟩), .int .i64 0, .int .i64 59, .bool false, .string ⟨#[66, 89, 77, 73, 78, 85, 84, 69]⟩, .pointer (some ⟨B, 9, none⟩), .int .i64 0, .int .i64 59, .bool false, .string ⟨#[66, 89, 72, 79, 85, 82]⟩, .pointer (some ⟨B, 10, none⟩), .int .i64 0, .int .i64 23, .bool false]
/-- The lists behind it. -/
def C2 (B : Nat) : Array Value := #[.string ⟨#[66, 89, 77, 79, 78, 84, 72, 68, 65, 89]⟩, .pointer (some ⟨B, 12, none⟩), .int .i64 (-31), .int .i64 31, .bool true, .string ⟨#[66, 89, 89, 69, 65, 82, 68, 65, 89]⟩, .pointer (some ⟨B, 13, none⟩), .int .i64 (-366), .int .i64 366, .bool true, .string ⟨#[66, 89, 87, 69, 69, 75, 78, 79]⟩, .pointer (some ⟨B, 14, none⟩), .int .i64 (-53), .int .i64 53, .bool true, .string ⟨#[66, 89, 77, 79, 78, 84, 72]⟩, .pointer (some ⟨B, 15, none⟩), .int .i64 1, .int .i64 12, .bool false, .string ⟨#[66, 89, 83, 69, 84, 80, 79, 83]⟩, .pointer (some ⟨B, 16, none⟩), .int .i64 (-366), .int .i64 366, .bool true]
def T1 : Bool × List (List Nat × List Nat) := (true, [([], []), ([0], [0]), ([1], [1]), ([2], [2]), ([], []), ([4], [4]), ([5], [5]), ([6], [6]), ([], []), ([8], [8]), ([9], [9]), ([10], [10]), ([3, 7, 11], [3, 7, 11]), ([], []), ([13], [13]), ([14], [14]), ([15], [15]), ([], []), ([17], [17]), ([18], [18]), ([19], [19]), ([], []), ([21], [21]), ([22], [22]), ([23], [23]), ([], []), ([25], [25]), ([26], [26]), ([27], [27]), ([], []), ([29], [29]), ([30], [30]), ([31], [31]), ([16, 20, 24, 28, 32], [16, 20, 24, 28, 32]), ([12, 0, 1, 2, 3, 4, 5, 6, 7, 8, 9, 10, 11, 12], [12]), ([33, 34, 0, 1, 2, 3, 4, 5, 6, 7, 8, 9, 10, 11, 12, 13, 14, 15, 16, 17, 18, 19, 20, 21, 22, 23, 24, 25, 26, 27, 28, 29, 30, 31, 32, 33, 34], [33])])
def B1 : List Nat := [0, 1, 3, 7, 0, 16, 48, 112, 0, 256, 768, 1792, 4095, 0, 8192, 24576, 57344, 0, 131072, 393216, 917504, 0, 2097152, 6291456, 14680064, 0, 33554432, 100663296, 234881024, 0, 536870912, 1610612736, 3758096384, 8589926400, 8191, 34359738367]
theorem tab1 : rtab .any (opsOf Try.f88 1) = T1 := by kernel_rfl
theorem bits1 : waitsOk T1.2 B1 = true := by kernel_rfl

set_option maxHeartbeats 8000000 in
set_option maxRecDepth 100000 in
theorem lists (B : Nat) (w : World) : Calls Try.prog 88 #[.pointer (some ⟨B, 0, none⟩)] w fun e w' => ∃ g1 g2, e = .returned (.tuple #[.slice (some ⟨g1, 0, none⟩) 3 3, .slice (some ⟨g2, 0, none⟩) 5 5]) ∧
    w'.heap[g1]? = some (.cells (C1 B) 135 (0, 0)) ∧ w'.heap[g2]? = some (.cells (C2 B) 135 (0, 0)) ∧ g1 ≠ g2 ∧ w.heap.size ≤ g1 ∧ w.heap.size ≤ g2 ∧ Below w.heap.size w w' := by
  go_enter Try.func88, Try.ntmps88
  go_wp2_with fail
  refine start_ (n := 36) (S := fun _ => True) (ds := []) #[false, false, false, false, false, false, false, false, false, false, false, false, false, false, false, false, false, false, false, false, false, false, false, false, false, false, false, false, false, false, false, false, false, false, false, false] (by kernel_rfl) rfl rfl trivial (fun hHeld => ?_)
  refine with_tabW tab1 bits1 (fun HT_ HW_ => ?_)
  have B2 := Lib.hid (below_drew (Below.refl w.heap.size w))
  generalize w.drew = w2 at B2 hHeld ⊢
  refine pure_ (i := 0) (N := some 4) (v := ?_) (a' := ?_) #[true, false, false, false, false, false, false, false, false, false, false, false, false, false, false, false, false, false, false, false, false, false, false, false, false, false, false, false, false, false, false, false, false, false, false, false] rfl rfl (any_of HT_.out (by kernel_rfl)) (fun _ _ _ h => h) (Or.inl ⟨by rfl, ?_⟩) ?_ ?_
  rotate_left
  · intro w'
    go_simp
    with_reducible rfl
  rotate_left
  · simp only [Act.put, List.setIfInBounds_toArray, List.set_cons_zero, List.set_cons_succ, i64_w, i32_w]
    rfl
  refine pure_ (i := 1) (N := some 5) (v := ?_) (a' := ?_) #[true, true, false, false, false, false, false, false, false, false, false, false, false, false, false, false, false, false, false, false, false, false, false, false, false, false, false, false, false, false, false, false, false, false, false, false] rfl rfl (any_of HT_.out (by kernel_rfl)) (fun _ _ _ h => h) (Or.inl ⟨by rfl, ?_⟩) ?_ ?_
  rotate_left
  · intro w'
    go_simp
    with_reducible rfl
  rotate_left
  · simp only [Act.put, List.setIfInBounds_toArray, List.set_cons_zero, List.set_cons_succ, i64_w, i32_w]
    rfl
  refine pure_ (i := 2) (N := some 6) (v := ?_) (a' := ?_) #[true, true, true, false, false, false, false, false, false, false, false, false, false, false, false, false, false, false, false, false, false, false, false, false, false, false, false, false, false, false, false, false, false, false, false, false] rfl rfl (any_of HT_.out (by kernel_rfl)) (fun _ _ _ h => h) (Or.inl ⟨by rfl, ?_⟩) ?_ ?_
  rotate_left
  · intro w'
    go_simp
    with_reducible rfl
  rotate_left
  · simp only [Act.put, List.setIfInBounds_toArray, List.set_cons_zero, List.set_cons_succ, i64_w, i32_w]
    rfl
  refine pure_ (i := 3) (N := some 7) (v := ?_) (a' := ?_) #[true, true, true, true, false, false, false, false, false, false, false, false, false, false, false, false, false, false, false, false, false, false, false, false, false, false, false, false, false, false, false, false, false, false, false, false] rfl rfl (any_of HT_.out (by kernel_rfl)) (fun _ _ _ h => h) (Or.inl ⟨by rfl, ?_⟩) ?_ ?_
  rotate_left
  · intro w'
    go_simp
    with_reducible rfl
  rotate_left
  · simp only [Act.put, List.setIfInBounds_toArray, List.set_cons_zero, List.set_cons_succ, i64_w, i32_w]
    rfl
  refine pure_ (i := 4) (N := some 8) (v := ?_) (a' := ?_) #[true, true, true, true, true, false, false, false, false, false, false, false, false, false, false, false, false, false, false, false, false, false, false, false, false, false, false, false, false, false, false, false, false, false, false, false] rfl rfl (any_of HT_.out (by kernel_rfl)) (fun _ _ _ h => h) (Or.inl ⟨by rfl, ?_⟩) ?_ ?_
  rotate_left
  · intro w'
    go_simp
    with_reducible rfl
  rotate_left
  · simp only [Act.put, List.setIfInBounds_toArray, List.set_cons_zero, List.set_cons_succ, i64_w, i32_w]
    rfl
  refine pure_ (i := 5) (N := some 9) (v := ?_) (a' := ?_) #[true, true, true, true, true, true, false, false, false, false, false, false, false, false, false, false, false, false, false, false, false, false, false, false, false, false, false, false, false, false, false, false, false, false, false, false] rfl rfl (any_of HT_.out (by kernel_rfl)) (fun _ _ _ h => h) (Or.inl ⟨by rfl, ?_⟩) ?_ ?_
  rotate_left
  · intro w'
    go_simp
    with_reducible rfl
  rotate_left
  · simp only [Act.put, List.setIfInBounds_toArray, List.set_cons_zero, List.set_cons_succ, i64_w, i32_w]
    rfl
  refine pure_ (i := 6) (N := some 10) (v := ?_) (a' := ?_) #[true, true, true, true, true, true, true, false, false, false, false, false, false, false, false, false, false, false, false, false, false, false, false, false, false, false, false, false, false, false, false, false, false, false, false, false] rfl rfl (any_of HT_.out (by kernel_rfl)) (fun _ _ _ h => h) (Or.inl ⟨by rfl, ?_⟩) ?_ ?_
  rotate_left
  · intro w'
    go_simp
    with_reducible rfl
  rotate_left
  · simp only [Act.put, List.setIfInBounds_toArray, List.set_cons_zero, List.set_cons_succ, i64_w, i32_w]
    rfl
  refine pure_ (i := 7) (N := some 11) (v := ?_) (a' := ?_) #[true, true, true, true, true, true, true, true, false, false, false, false, false, false, false, false, false, false, false, false, false, false, false, false, false, false, false, false, false, false, false, false, false, false, false, false] rfl rfl (any_of HT_.out (by kernel_rfl)) (fun _ _ _ h => h) (Or.inl ⟨by rfl, ?_⟩) ?_ ?_
  rotate_left
  · intro w'
    go_simp
    with_reducible rfl
  rotate_left
  · simp only [Act.put, List.setIfInBounds_toArray, List.set_cons_zero, List.set_cons_succ, i64_w, i32_w]
    rfl
  refine pure_ (i := 8) (N := some 12) (v := ?_) (a' := ?_) #[true, true, true, true, true, true, true, true, true, false, false, false, false, false, false, false, false, false, false, false, false, false, false, false, false, false, false, false, false, false, false, false, false, false, false, false] rfl rfl (any_of HT_.out (by kernel_rfl)) (fun _ _ _ h => h) (Or.inl ⟨by rfl, ?_⟩) ?_ ?_
  rotate_left
  · intro w'
    go_simp
    with_reducible rfl
  rotate_left
  · simp only [Act.put, List.setIfInBounds_toArray, List.set_cons_zero, List.set_cons_succ, i64_w, i32_w]
    rfl
  refine pure_ (i := 9) (N := some 13) (v := ?_) (a' := ?_) #[true, true, true, true, true, true, true, true, true, true, false, false, false, false, false, false, false, false, false, false, false, false, false, false, false, false, false, false, false, false, false, false, false, false, false, false] rfl rfl (any_of HT_.out (by kernel_rfl)) (fun _ _ _ h => h) (Or.inl ⟨by rfl, ?_⟩) ?_ ?_
  rotate_left
  · intro w'
    go_simp
    with_reducible rfl
  rotate_left
  · simp only [Act.put, List.setIfInBounds_toArray, List.set_cons_zero, List.set_cons_succ, i64_w, i32_w]
    rfl
  refine pure_ (i := 10) (N := some 14) (v := ?_) (a' := ?_) #[true, true, true, true, true, true, true, true, true, true, true, false, false, false, false, false, false, false, false, false, false, false, false, false, false, false, false, false, false, false, false, false, false, false, false, false] rfl rfl (any_of HT_.out (by kernel_rfl)) (fun _ _ _ h => h) (Or.inl ⟨by rfl, ?_⟩) ?_ ?_
  rotate_left
  · intro w'
    go_simp
    with_reducible rfl
  rotate_left
  · simp only [Act.put, List.setIfInBounds_toArray, List.set_cons_zero, List.set_cons_succ, i64_w, i32_w]
    rfl
  refine pure_ (i := 11) (N := some 15) (v := ?_) (a' := ?_) #[true, true, true, true, true, true, true, true, true, true, true, true, false, false, false, false, false, false, false, false, false, false, false, false, false, false, false, false, false, false, false, false, false, false, false, false] rfl rfl (any_of HT_.out (by kernel_rfl)) (fun _ _ _ h => h) (Or.inl ⟨by rfl, ?_⟩) ?_ ?_
  rotate_left
  · intro w'
    go_simp
    with_reducible rfl
  rotate_left
  · simp only [Act.put, List.setIfInBounds_toArray, List.set_cons_zero, List.set_cons_succ, i64_w, i32_w]
    rfl
  refine pure_ (i := 13) (N := some 17) (v := ?_) (a' := ?_) #[true, true, true, true, true, true, true, true, true, true, true, true, false, true, false, false, false, false, false, false, false, false, false, false, false, false, false, false, false, false, false, false, false, false, false, false] rfl rfl (any_of HT_.out (by kernel_rfl)) (fun _ _ _ h => h) (Or.inl ⟨by rfl, ?_⟩) ?_ ?_
  rotate_left
  · intro w'
    go_simp
    with_reducible rfl
  rotate_left
  · simp only [Act.put, List.setIfInBounds_toArray, List.set_cons_zero, List.set_cons_succ, i64_w, i32_w]
    rfl
  refine pure_ (i := 14) (N := some 18) (v := ?_) (a' := ?_) #[true, true, true, true, true, true, true, true, true, true, true, true, false, true, true, false, false, false, false, false, false, false, false, false, false, false, false, false, false, false, false, false, false, false, false, false] rfl rfl (any_of HT_.out (by kernel_rfl)) (fun _ _ _ h => h) (Or.inl ⟨by rfl, ?_⟩) ?_ ?_
  rotate_left
  · intro w'
    go_simp
    with_reducible rfl
  rotate_left
  · simp only [Act.put, List.setIfInBounds_toArray, List.set_cons_zero, List.set_cons_succ, i64_w, i32_w]
    rfl
  refine pure_ (i := 15) (N := some 19) (v := ?_) (a' := ?_) #[true, true, true, true, true, true, true, true, true, true, true, true, false, true, true, true, false, false, false, false, false, false, false, false, false, false, false, false, false, false, false, false, false, false, false, false] rfl rfl (any_of HT_.out (by kernel_rfl)) (fun _ _ _ h => h) (Or.inl ⟨by rfl, ?_⟩) ?_ ?_
  rotate_left
  · intro w'
    go_simp
    with_reducible rfl
  rotate_left
  · simp only [Act.put, List.setIfInBounds_toArray, List.set_cons_zero, List.set_cons_succ, i64_w, i32_w]
    rfl
  refine pure_ (i := 16) (N := some 20) (v := ?_) (a' := ?_) #[true, true, true, true, true, true, true, true, true, true, true, true, false, true, true, true, true, false, false, false, false, false, false, false, false, false, false, false, false, false, false, false, false, false, false, false] rfl rfl (any_of HT_.out (by kernel_rfl)) (fun _ _ _ h => h) (Or.inl ⟨by rfl, ?_⟩) ?_ ?_
  rotate_left
  · intro w'
    go_simp
    with_reducible rfl
  rotate_left
  · simp only [Act.put, List.setIfInBounds_toArray, List.set_cons_zero, List.set_cons_succ, i64_w, i32_w]
    rfl
  refine pure_ (i := 17) (N := some 21) (v := ?_) (a' := ?_) #[true, true, true, true, true, true, true, true, true, true, true, true, false, true, true, true, true, true, false, false, false, false, false, false, false, false, false, false, false, false, false, false, false, false, false, false] rfl rfl (any_of HT_.out (by kernel_rfl)) (fun _ _ _ h => h) (Or.inl ⟨by rfl, ?_⟩) ?_ ?_
  rotate_left
  · intro w'
    go_simp
    with_reducible rfl
  rotate_left
  · simp only [Act.put, List.setIfInBounds_toArray, List.set_cons_zero, List.set_cons_succ, i64_w, i32_w]
    rfl
  refine pure_ (i := 18) (N := some 22) (v := ?_) (a' := ?_) #[true, true, true, true, true, true, true, true, true, true, true, true, false, true, true, true, true, true, true, false, false, false, false, false, false, false, false, false, false, false, false, false, false, false, false, false] rfl rfl (any_of HT_.out (by kernel_rfl)) (fun _ _ _ h => h) (Or.inl ⟨by rfl, ?_⟩) ?_ ?_
  rotate_left
  · intro w'
    go_simp
    with_reducible rfl
  rotate_left
  · simp only [Act.put, List.setIfInBounds_toArray, List.set_cons_zero, List.set_cons_succ, i64_w, i32_w]
    rfl
  refine pure_ (i := 19) (N := some 23) (v := ?_) (a' := ?_) #[true, true, true, true, true, true, true, true, true, true, true, true, false, true, true, true, true, true, true, true, false, false, false, false, false, false, false, false, false, false, false, false, false, false, false, false] rfl rfl (any_of HT_.out (by kernel_rfl)) (fun _ _ _ h => h) (Or.inl ⟨by rfl, ?_⟩) ?_ ?_
  rotate_left
  · intro w'
    go_simp
    with_reducible rfl
  rotate_left
  · simp only [Act.put, List.setIfInBounds_toArray, List.set_cons_zero, List.set_cons_succ, i64_w, i32_w]
    rfl
  refine pure_ (i := 20) (N := some 24) (v := ?_) (a' := ?_) #[true, true, true, true, true, true, true, true, true, true, true, true, false, true, true, true, true, true, true, true, true, false, false, false, false, false, false, false, false, false, false, false, false, false, false, false] rfl rfl (any_of HT_.out (by kernel_rfl)) (fun _ _ _ h => h) (Or.inl ⟨by rfl, ?_⟩) ?_ ?_
  rotate_left
  · intro w'
    go_simp
    with_reducible rfl
  rotate_left
  · simp only [Act.put, List.setIfInBounds_toArray, List.set_cons_zero, List.set_cons_succ, i64_w, i32_w]
    rfl
  refine pure_ (i := 21) (N := some 25) (v := ?_) (a' := ?_) #[true, true, true, true, true, true, true, true, true, true, true, true, false, true, true, true, true, true, true, true, true, true, false, false, false, false, false, false, false, false, false, false, false, false, false, false] rfl rfl (any_of HT_.out (by kernel_rfl)) (fun _ _ _ h => h) (Or.inl ⟨by rfl, ?_⟩) ?_ ?_
  rotate_left
  · intro w'
    go_simp
    with_reducible rfl
  rotate_left
  · simp only [Act.put, List.setIfInBounds_toArray, List.set_cons_zero, List.set_cons_succ, i64_w, i32_w]
    rfl
  refine pure_ (i := 22) (N := some 26) (v := ?_) (a' := ?_) #[true, true, true, true, true, true, true, true, true, true, true, true, false, true, true, true, true, true, true, true, true, true, true, false, false, false, false, false, false, false, false, false, false, false, false, false] rfl rfl (any_of HT_.out (by kernel_rfl)) (fun _ _ _ h => h) (Or.inl ⟨by rfl, ?_⟩) ?_ ?_
  rotate_left
  · intro w'
    go_simp
    with_reducible rfl
  rotate_left
  · simp only [Act.put, List.setIfInBounds_toArray, List.set_cons_zero, List.set_cons_succ, i64_w, i32_w]
    rfl
  refine pure_ (i := 23) (N := some 27) (v := ?_) (a' := ?_) #[true, true, true, true, true, true, true, true, true, true, true, true, false, true, true, true, true, true, true, true, true, true, true, true, false, false, false, false, false, false, false, false, false, false, false, false] rfl rfl (any_of HT_.out (by kernel_rfl)) (fun _ _ _ h => h) (Or.inl ⟨by rfl, ?_⟩) ?_ ?_
  rotate_left
  · intro w'
    go_simp
    with_reducible rfl
  rotate_left
  · simp only [Act.put, List.setIfInBounds_toArray, List.set_cons_zero, List.set_cons_succ, i64_w, i32_w]
    rfl
  refine pure_ (i := 24) (N := some 28) (v := ?_) (a' := ?_) #[true, true, true, true, true, true, true, true, true, true, true, true, false, true, true, true, true, true, true, true, true, true, true, true, true, false, false, false, false, false, false, false, false, false, false, false] rfl rfl (any_of HT_.out (by kernel_rfl)) (fun _ _ _ h => h) (Or.inl ⟨by rfl, ?_⟩) ?_ ?_
  rotate_left
  · intro w'
    go_simp
    with_reducible rfl
  rotate_left
  · simp only [Act.put, List.setIfInBounds_toArray, List.set_cons_zero, List.set_cons_succ, i64_w, i32_w]
    rfl
  refine pure_ (i := 25) (N := some 29) (v := ?_) (a' := ?_) #[true, true, true, true, true, true, true, true, true, true, true, true, false, true, true, true, true, true, true, true, true, true, true, true, true, true, false, false, false, false, false, false, false, false, false, false] rfl rfl (any_of HT_.out (by kernel_rfl)) (fun _ _ _ h => h) (Or.inl ⟨by rfl, ?_⟩) ?_ ?_
  rotate_left
  · intro w'
    go_simp
    with_reducible rfl
  rotate_left
  · simp only [Act.put, List.setIfInBounds_toArray, List.set_cons_zero, List.set_cons_succ, i64_w, i32_w]
    rfl
  refine pure_ (i := 26) (N := some 30) (v := ?_) (a' := ?_) #[true, true, true, true, true, true, true, true, true, true, true, true, false, true, true, true, true, true, true, true, true, true, true, true, true, true, true, false, false, false, false, false, false, false, false, false] rfl rfl (any_of HT_.out (by kernel_rfl)) (fun _ _ _ h => h) (Or.inl ⟨by rfl, ?_⟩) ?_ ?_
  rotate_left
  · intro w'
    go_simp
    with_reducible rfl
  rotate_left
  · simp only [Act.put, List.setIfInBounds_toArray, List.set_cons_zero, List.set_cons_succ, i64_w, i32_w]
    rfl
  refine pure_ (i := 27) (N := some 31) (v := ?_) (a' := ?_) #[true, true, true, true, true, true, true, true, true, true, true, true, false, true, true, true, true, true, true, true, true, true, true, true, true, true, true, true, false, false, false, false, false, false, false, false] rfl rfl (any_of HT_.out (by kernel_rfl)) (fun _ _ _ h => h) (Or.inl ⟨by rfl, ?_⟩) ?_ ?_
  rotate_left
  · intro w'
    go_simp
    with_reducible rfl
  rotate_left
  · simp only [Act.put, List.setIfInBounds_toArray, List.set_cons_zero, List.set_cons_succ, i64_w, i32_w]
    rfl
  refine pure_ (i := 28) (N := some 32) (v := ?_) (a' := ?_) #[true, true, true, true, true, true, true, true, true, true, true, true, false, true, true, true, true, true, true, true, true, true, true, true, true, true, true, true, true, false, false, false, false, false, false, false] rfl rfl (any_of HT_.out (by kernel_rfl)) (fun _ _ _ h => h) (Or.inl ⟨by rfl, ?_⟩) ?_ ?_
  rotate_left
  · intro w'
    go_simp
    with_reducible rfl
  rotate_left
  · simp only [Act.put, List.setIfInBounds_toArray, List.set_cons_zero, List.set_cons_succ, i64_w, i32_w]
    rfl
  refine pure_ (i := 29) (N := some 33) (v := ?_) (a' := ?_) #[true, true, true, true, true, true, true, true, true, true, true, true, false, true, true, true, true, true, true, true, true, true, true, true, true, true, true, true, true, true, false, false, false, false, false, false] rfl rfl (any_of HT_.out (by kernel_rfl)) (fun _ _ _ h => h) (Or.inl ⟨by rfl, ?_⟩) ?_ ?_
  rotate_left
  · intro w'
    go_simp
    with_reducible rfl
  rotate_left
  · simp only [Act.put, List.setIfInBounds_toArray, List.set_cons_zero, List.set_cons_succ, i64_w, i32_w]
    rfl
  refine pure_ (i := 30) (N := some 34) (v := ?_) (a' := ?_) #[true, true, true, true, true, true, true, true, true, true, true, true, false, true, true, true, true, true, true, true, true, true, true, true, true, true, true, true, true, true, true, false, false, false, false, false] rfl rfl (any_of HT_.out (by kernel_rfl)) (fun _ _ _ h => h) (Or.inl ⟨by rfl, ?_⟩) ?_ ?_
  rotate_left
  · intro w'
    go_simp
    with_reducible rfl
  rotate_left
  · simp only [Act.put, List.setIfInBounds_toArray, List.set_cons_zero, List.set_cons_succ, i64_w, i32_w]
    rfl
  refine pure_ (i := 31) (N := some 35) (v := ?_) (a' := ?_) #[true, true, true, true, true, true, true, true, true, true, true, true, false, true, true, true, true, true, true, true, true, true, true, true, true, true, true, true, true, true, true, true, false, false, false, false] rfl rfl (any_of HT_.out (by kernel_rfl)) (fun _ _ _ h => h) (Or.inl ⟨by rfl, ?_⟩) ?_ ?_
  rotate_left
  · intro w'
    go_simp
    with_reducible rfl
  rotate_left
  · simp only [Act.put, List.setIfInBounds_toArray, List.set_cons_zero, List.set_cons_succ, i64_w, i32_w]
    rfl
  refine pure_ (i := 32) (N := some 36) (v := ?_) (a' := ?_) #[true, true, true, true, true, true, true, true, true, true, true, true, false, true, true, true, true, true, true, true, true, true, true, true, true, true, true, true, true, true, true, true, true, false, false, false] rfl rfl (any_of HT_.out (by kernel_rfl)) (fun _ _ _ h => h) (Or.inl ⟨by rfl, ?_⟩) ?_ ?_
  rotate_left
  · intro w'
    go_simp
    with_reducible rfl
  rotate_left
  · simp only [Act.put, List.setIfInBounds_toArray, List.set_cons_zero, List.set_cons_succ, i64_w, i32_w]
    rfl
  refine join_ (σ := Nat × Nat) 1 #[true, true, true, true, true, true, true, true, true, true, true, true, true, true, true, true, true, true, true, true, true, true, true, true, true, true, true, true, true, true, true, true, true, true, true, false] (fun s => [(16, .slice (some ⟨s.1, 0, none⟩) 3 3), (37, .slice (some ⟨s.2, 0, none⟩) 5 5), (2, .slice (some ⟨s.1, 0, none⟩) 3 3)]) (fun s w' => w'.heap[s.1]? = some (.cells (C1 B) 135 (0, 0)) ∧ w'.heap[s.2]? = some (.cells (C2 B) 135 (0, 0)) ∧ s.1 ≠ s.2 ∧ w.heap.size ≤ s.1 ∧ w.heap.size ≤ s.2 ∧ Below w.heap.size w w') ?_ ?_
  · rintro ⟨g1, g2⟩ w3 ⟨x1, x2, n1, m1, m2, hBw⟩
    dsimp only at x1 x2 n1 m1 m2
    refine norm_ (a' := ?_) ?_ ?_
    rotate_left
    · simp only [putAll]
      simp only [Act.put, List.setIfInBounds_toArray, List.set_cons_zero, List.set_cons_succ, i64_w, i32_w]
      rfl
    refine pure_ (i := 35) (N := some 3) (v := ?_) (a' := ?_) #[true, true, true, true, true, true, true, true, true, true, true, true, true, true, true, true, true, true, true, true, true, true, true, true, true, true, true, true, true, true, true, true, true, true, true, true] rfl rfl (any_of HT_.out (by kernel_rfl)) (fun _ _ _ h => h) (Or.inl ⟨by rfl, ?_⟩) ?_ ?_
    rotate_left
    · intro w'
      go_simp
      with_reducible rfl
    rotate_left
    · simp only [Act.put, List.setIfInBounds_toArray, List.set_cons_zero, List.set_cons_succ, i64_w, i32_w]
      rfl
    refine done_ (done_of HT_.out (by kernel_rfl)) ?_
    clear HT_ HW_
    go_wp2_with fail
    go_ret2
    exact ⟨g1, g2, rfl, x1, x2, n1, m1, m2, hBw⟩
  · intro hc
    have BB := B2
    clear B2
    simp only [putAll, Act.put, List.setIfInBounds_toArray, List.set_cons_zero, List.set_cons_succ, i64_w, i32_w] at hc
    refine two_ (i := 12) (j := 33) (Ni := some 16) (Nj := some 37) #[true, true, true, true, true, true, true, true, true, true, true, true, true, true, true, true, true, true, true, true, true, true, true, true, true, true, true, true, true, true, true, true, true, false, false, false] #[true, true, true, true, true, true, true, true, true, true, true, true, false, true, true, true, true, true, true, true, true, true, true, true, true, true, true, true, true, true, true, true, true, true, false, false] rfl rfl rfl rfl (two_of HT_.out (by kernel_rfl)) (by decide) (by decide) (fun K hK => ?_) (fun K hK => ?_)
    · refine lit_step (by rfl) (N := 16) rfl (cs := C1 B) (t := 135) (n := 3) (by go_simp; rfl) ?_
      intro g1 e1 v1 y1 hb
      replace e1 := Nat.le_of_eq e1.symm
      have z1 := hb.size
      have q1 := blk_lt y1
      have s1 := BB.out.size
      replace BB := Lib.hid (below_then BB.out BB.out.size hb)
      refine hK.out _ _ trivial (fun hHeld => ?_)
      clear hK K hb
      refine norm_ (a' := ?_) ?_ ?_
      rotate_left
      · show Act.put _ (some 16) _ = _
        simp only [Act.put, List.setIfInBounds_toArray, List.set_cons_zero, List.set_cons_succ, i64_w, i32_w]
        rfl
      refine pure_ (i := 34) (N := some 2) (v := ?_) (a' := ?_) #[true, true, true, true, true, true, true, true, true, true, true, true, true, true, true, true, true, true, true, true, true, true, true, true, true, true, true, true, true, true, true, true, true, false, true, false] rfl rfl (any_of HT_.out (by kernel_rfl)) (fun _ _ _ h => h) (Or.inl ⟨by rfl, ?_⟩) ?_ ?_
      rotate_left
      · intro w'
        go_simp
        with_reducible rfl
      rotate_left
      · simp only [Act.put, List.setIfInBounds_toArray, List.set_cons_zero, List.set_cons_succ, i64_w, i32_w]
        rfl
      refine one_ (i := 33) (N := some 37) #[true, true, true, true, true, true, true, true, true, true, true, true, true, true, true, true, true, true, true, true, true, true, true, true, true, true, true, true, true, true, true, true, true, true, true, false] rfl rfl (one_of HT_.out (by kernel_rfl)) (by decide) (fun K hK => ?_)
      refine lit_step (by rfl) (N := 37) rfl (cs := C2 B) (t := 135) (n := 5) (by go_simp; rfl) ?_
      intro g2 e2 v2 y2 hb
      replace e2 := Nat.le_of_eq e2.symm
      have z2 := hb.size
      have q2 := blk_lt y2
      have r1 := blk_lt y1
      replace y1 := blk_below y1 hb
      have s2 := BB.out.size
      replace BB := Lib.hid (below_then BB.out BB.out.size hb)
      refine hK.out _ _ trivial (fun hHeld => ?_)
      clear hK K hb
      refine norm_ (a' := ?_) ?_ ?_
      rotate_left
      · show Act.put _ (some 37) _ = _
        simp only [Act.put, List.setIfInBounds_toArray, List.set_cons_zero, List.set_cons_succ, i64_w, i32_w]
        rfl
      exact hc (g1, g2) _ ⟨y1, y2, by show g1 ≠ g2; omega, by show _ ≤ g1; omega, by show _ ≤ g2; omega, BB.out⟩
    · refine lit_step (by rfl) (N := 37) rfl (cs := C2 B) (t := 135) (n := 5) (by go_simp; rfl) ?_
      intro g1 e1 v1 y1 hb
      replace e1 := Nat.le_of_eq e1.symm
      have z1 := hb.size
      have q1 := blk_lt y1
      have s1 := BB.out.size
      replace BB := Lib.hid (below_then BB.out BB.out.size hb)
      refine hK.out _ _ trivial (fun hHeld => ?_)
      clear hK K hb
      refine norm_ (a' := ?_) ?_ ?_
      rotate_left
      · show Act.put _ (some 37) _ = _
        simp only [Act.put, List.setIfInBounds_toArray, List.set_cons_zero, List.set_cons_succ, i64_w, i32_w]
        rfl
      refine one_ (i := 12) (N := some 16) #[true, true, true, true, true, true, true, true, true, true, true, true, true, true, true, true, true, true, true, true, true, true, true, true, true, true, true, true, true, true, true, true, true, true, false, false] rfl rfl (one_of HT_.out (by kernel_rfl)) (by decide) (fun K hK => ?_)
      refine lit_step (by rfl) (N := 16) rfl (cs := C1 B) (t := 135) (n := 3) (by go_simp; rfl) ?_
      intro g2 e2 v2 y2 hb
      replace e2 := Nat.le_of_eq e2.symm
      have z2 := hb.size
      have q2 := blk_lt y2
      have r1 := blk_lt y1
      replace y1 := blk_below y1 hb
      have s2 := BB.out.size
      replace BB := Lib.hid (below_then BB.out BB.out.size hb)
      refine hK.out _ _ trivial (fun hHeld => ?_)
      clear hK K hb
      refine norm_ (a' := ?_) ?_ ?_
      rotate_left
      · show Act.put _ (some 16) _ = _
        simp only [Act.put, List.setIfInBounds_toArray, List.set_cons_zero, List.set_cons_succ, i64_w, i32_w]
        rfl
      refine pure_ (i := 34) (N := some 2) (v := ?_) (a' := ?_) #[true, true, true, true, true, true, true, true, true, true, true, true, true, true, true, true, true, true, true, true, true, true, true, true, true, true, true, true, true, true, true, true, true, true, true, false] rfl rfl (any_of HT_.out (by kernel_rfl)) (fun _ _ _ h => h) (Or.inl ⟨by rfl, ?_⟩) ?_ ?_
      rotate_left
      · intro w'
        go_simp
        with_reducible rfl
      rotate_left
      · simp only [Act.put, List.setIfInBounds_toArray, List.set_cons_zero, List.set_cons_succ, i64_w, i32_w]
        rfl
      exact hc (g2, g1) _ ⟨y2, y1, by show g2 ≠ g1; omega, by show _ ≤ g2; omega, by show _ ≤ g1; omega, BB.out⟩
end Go.Proofs.Ytddoidcbpcmlaaa.RecL
/- recur.all: a rule's lists of numbers, in one row. -/
namespace Go.Proofs.Ytddoidcbpcmlaaa.RecA
open Go.RowKit Go.Proofs.YtddoidcbpcmlaaaW.PrintWords Go.Proofs.YtddoidcbpcmlaaaW.PrintLast Go.Proofs.Ytddoidcbpcmlaaa.RecL
set_option linter.unusedVariables false
set_option linter.unusedSimpArgs false
def zl : Value := .agg #[.string ⟨#[]⟩, .pointer none, .int .i64 0, .int .i64 0, .bool false]
theorem info : (Try.prog.info? 135).map (fun i => (i.zero, i.size, i.bytes)) = some (some zl, 5, 48) := by kernel_rfl
theorem app (B g1 g2 : Nat) (w : World) (h1 : w.heap[g1]? = some (.cells (C1 B) 135 (0, 0))) (h2 : w.heap[g2]? = some (.cells (C2 B) 135 (0, 0))) :
    ∃ cap cs, (Builtin.append_ #[130, 130] 130 #[.slice (some ⟨g1, 0, none⟩) 3 3, .slice (some ⟨g2, 0, none⟩) 5 5]).run Try.prog w = .ok (.slice (some ⟨w.heap.size, 0, none⟩) 8 cap) (w.drew.alloc (.cells cs 135 (0, 0))) ∧
      ∀ w' : World, w'.heap[w.heap.size]? = some (.cells cs 135 (0, 0)) → ∀ j v, ((C1 B).toList ++ (C2 B).toList)[j]? = some v → w'.cell? ⟨w.heap.size, j, none⟩ = some v := by
  obtain ⟨i, hi, hzz⟩ := Option.map_eq_some_iff.1 info
  simp only [Prod.mk.injEq] at hzz
  obtain ⟨hz, hs, hb⟩ := hzz
  have hw := run_append_grow (P := Try.prog) w 130 130 135 i zl Try.underlying130 hi hz ⟨g1, 0, none⟩ 3 3 (C1 B).toList (by rw [hs]; rfl)
    (fun j v h => by rw [add_at, Nat.zero_add]; exact (blk_cell h1 j).trans (by simpa using h)) ⟨g2, 0, none⟩ 5 5 (C2 B).toList (by rw [hs]; rfl)
    (fun j v h => by rw [add_at, Nat.zero_add]; exact (blk_cell h2 j).trans (by simpa using h)) (by omega) (by omega) (by rw [hb]; decide)
  refine ⟨_, _, hw, fun w' hw' j v hj => ?_⟩
  refine (blk_cell hw' j).trans ?_
  have hlt : j < ((C1 B).toList ++ (C2 B).toList).length := (List.getElem?_eq_some_iff.1 hj).1
  rw [Array.getElem?_append_left (by simpa using hlt), ← hj]
  rw [← Array.toList_append, Array.getElem?_toList]
/-- An append, by what it comes to. -/
theorem exec_app {P : Program} {o : Oper} {a : Act} {w w1 : World} {r v1 v2 : Value} (s x : Operand) (t : TypeId) (ho : o.op = .call { callee := .builtin .append, args := #[s, x], argTypes := #[t, t] })
    (hs : a.eval s = v1) (hx : a.eval x = v2) (hrun : (Builtin.append_ #[t, t] o.type #[v1, v2]).run P w = .ok r w1) : (execOp a.eval o).run P w = .ok (.value r) w1 := by
  unfold execOp
  simp only [ho, resolve, invoke, builtin, Sem.run_bind, Sem.run_pure, Result.andThen_ok, List.map_toArray, List.map_cons, List.map_nil, hs, hx, hrun]
set_option maxHeartbeats 4000000 in
set_option maxRecDepth 100000 in
theorem all (B : Nat) (w : World) : Calls Try.prog 69 #[.pointer (some ⟨B, 0, none⟩)] w fun e w' => ∃ g cap, e = .returned (.slice (some ⟨g, 0, none⟩) 8 cap) ∧ w.heap.size ≤ g ∧
    (∀ j v, ((C1 B).toList ++ (C2 B).toList)[j]? = some v → w'.cell? ⟨g, j, none⟩ = some v) ∧ Below w.heap.size w w' := by
  go_enter Try.func69, Try.ntmps69
  go_wp2_with fail
  refine (lists B w).mono ?_
  rintro e w1 ⟨g1, g2, rfl, h1, h2, n, m1, m2, hB⟩
  obtain ⟨cap, o, happ, hat⟩ := app B g1 g2 w1 h1 h2
  have HA := Lib.hid hat
  have HP := Lib.hid happ
  have HB := Lib.hid hB
  have hs := hB.size
  clear h1 h2 n m1 m2 hat hB happ
  go_wp2_with (at_builtin; refine Kd.event_run rfl (exec_app (.tmp 10) (.tmp 11) 130 rfl rfl rfl HP.out) ?_)
  go_ret
  exact ⟨w1.heap.size, cap, rfl, hs, HA.out _ (blk_new w1.drew _), below_then HB.out hs (below_alloc (below_drew (Below.refl _ _)) _)⟩
end Go.Proofs.Ytddoidcbpcmlaaa.RecA
