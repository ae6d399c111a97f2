/- Texts of this claim, merged: Ru, RecC, SetC. -/
import Derived.Test.YtddoidcbpcmlaaaMgEventClones1
import Derived.Lib.Hide
import Derived.Deep.LoopGhost
import Derived.Test.YtddoidcbpcmlaaaMgEventClones2
import Derived.Deep.MidRow
/- A rule as one thing: its plain values (Ru), where its lists lie (Rp). (Written by gen_ru.py.) -/
namespace Go.Proofs.Ytddoidcbpcmlaaa.Ru
open Go.RowKit Go.Proofs.YtddoidcbpcmlaaaW.PrintWords Go.Proofs.YtddoidcbpcmlaaaW.PrintLast Go.Proofs.Ytddoidcbpcmlaaa.M
set_option linter.unusedVariables false
set_option linter.unusedSimpArgs false
/-- The first k of n operations are done. -/
def tt (n k : Nat) : Array Bool := (List.replicate k true ++ List.replicate (n - k) false).toArray
structure Ru where
  a0 : Int
  a1 : Int
  a2 : Int
  a3 : Int
  a4 : Int
  a5 : ByteArray
  a6 : Bool
  a7 : Int
  l8 : List Int
  l9 : List Int
  l10 : List Int
  l11 : List S139
  l12 : List Int
  l13 : List Int
  l14 : List Int
  l15 : List Int
  l16 : List Int
structure Rp where
  A8 : Option Addr
  c8 : Nat
  A9 : Option Addr
  c9 : Nat
  A10 : Option Addr
  c10 : Nat
  A11 : Option Addr
  c11 : Nat
  A12 : Option Addr
  c12 : Nat
  A13 : Option Addr
  c13 : Nat
  A14 : Option Addr
  c14 : Nat
  A15 : Option Addr
  c15 : Nat
  A16 : Option Addr
  c16 : Nat
abbrev agg (r : Ru) (p : Rp) : Array Value := #[.int .i64 r.a0, .int .i64 r.a1, .int .i64 r.a2, .int .i64 r.a3, .int .i64 r.a4, .string r.a5, .bool r.a6, .int .i64 r.a7, .slice p.A8 r.l8.length p.c8, .slice p.A9 r.l9.length p.c9, .slice p.A10 r.l10.length p.c10, .slice p.A11 r.l11.length p.c11, .slice p.A12 r.l12.length p.c12, .slice p.A13 r.l13.length p.c13, .slice p.A14 r.l14.length p.c14, .slice p.A15 r.l15.length p.c15, .slice p.A16 r.l16.length p.c16]
abbrev obj (r : Ru) (p : Rp) : Obj := .cells (agg r p) 29 (0, 0)
/-- Where a rule's lists lie, in a world. -/
structure Ok (r : Ru) (p : Rp) (w : World) : Prop where
  h8 : Kd.C (Kd.int .i64) w p.A8 r.l8.length r.l8
  d8 : r.l8.length ≤ p.c8
  h9 : Kd.C (Kd.int .i64) w p.A9 r.l9.length r.l9
  d9 : r.l9.length ≤ p.c9
  h10 : Kd.C (Kd.int .i64) w p.A10 r.l10.length r.l10
  d10 : r.l10.length ≤ p.c10
  h11 : Kd.C k139 w p.A11 r.l11.length r.l11
  d11 : r.l11.length ≤ p.c11
  h12 : Kd.C (Kd.int .i64) w p.A12 r.l12.length r.l12
  d12 : r.l12.length ≤ p.c12
  h13 : Kd.C (Kd.int .i64) w p.A13 r.l13.length r.l13
  d13 : r.l13.length ≤ p.c13
  h14 : Kd.C (Kd.int .i64) w p.A14 r.l14.length r.l14
  d14 : r.l14.length ≤ p.c14
  h15 : Kd.C (Kd.int .i64) w p.A15 r.l15.length r.l15
  d15 : r.l15.length ≤ p.c15
  h16 : Kd.C (Kd.int .i64) w p.A16 r.l16.length r.l16
  d16 : r.l16.length ≤ p.c16
theorem Ok.below {r : Ru} {p : Rp} {w w' : World} (h : Ok r p w) (hb : Below w.heap.size w w') : Ok r p w' :=
  ⟨Kd.C_below h.h8 hb, h.d8, Kd.C_below h.h9 hb, h.d9, Kd.C_below h.h10 hb, h.d10, Kd.C_below h.h11 hb, h.d11, Kd.C_below h.h12 hb, h.d12, Kd.C_below h.h13 hb, h.d13, Kd.C_below h.h14 hb, h.d14, Kd.C_below h.h15 hb, h.d15, Kd.C_below h.h16 hb, h.d16⟩
/-- The seventeen cells of a rule's block. -/
theorem cells {r : Ru} {p : Rp} {w : World} {g : Nat} (h : w.heap[g]? = some (obj r p)) :
    w.cell? ⟨g, 0, none⟩ = some (.int .i64 r.a0) ∧ w.cell? ⟨g, 1, none⟩ = some (.int .i64 r.a1) ∧ w.cell? ⟨g, 2, none⟩ = some (.int .i64 r.a2) ∧ w.cell? ⟨g, 3, none⟩ = some (.int .i64 r.a3) ∧ w.cell? ⟨g, 4, none⟩ = some (.int .i64 r.a4) ∧ w.cell? ⟨g, 5, none⟩ = some (.string r.a5) ∧ w.cell? ⟨g, 6, none⟩ = some (.bool r.a6) ∧ w.cell? ⟨g, 7, none⟩ = some (.int .i64 r.a7) ∧ w.cell? ⟨g, 8, none⟩ = some (.slice p.A8 r.l8.length p.c8) ∧ w.cell? ⟨g, 9, none⟩ = some (.slice p.A9 r.l9.length p.c9) ∧ w.cell? ⟨g, 10, none⟩ = some (.slice p.A10 r.l10.length p.c10) ∧ w.cell? ⟨g, 11, none⟩ = some (.slice p.A11 r.l11.length p.c11) ∧ w.cell? ⟨g, 12, none⟩ = some (.slice p.A12 r.l12.length p.c12) ∧ w.cell? ⟨g, 13, none⟩ = some (.slice p.A13 r.l13.length p.c13) ∧ w.cell? ⟨g, 14, none⟩ = some (.slice p.A14 r.l14.length p.c14) ∧ w.cell? ⟨g, 15, none⟩ = some (.slice p.A15 r.l15.length p.c15) ∧ w.cell? ⟨g, 16, none⟩ = some (.slice p.A16 r.l16.length p.c16) :=
  ⟨(blk_cell h 0).trans rfl, (blk_cell h 1).trans rfl, (blk_cell h 2).trans rfl, (blk_cell h 3).trans rfl, (blk_cell h 4).trans rfl, (blk_cell h 5).trans rfl, (blk_cell h 6).trans rfl, (blk_cell h 7).trans rfl, (blk_cell h 8).trans rfl, (blk_cell h 9).trans rfl, (blk_cell h 10).trans rfl, (blk_cell h 11).trans rfl, (blk_cell h 12).trans rfl, (blk_cell h 13).trans rfl, (blk_cell h 14).trans rfl, (blk_cell h 15).trans rfl, (blk_cell h 16).trans rfl⟩
end Go.Proofs.Ytddoidcbpcmlaaa.Ru
/- recur.Clone. (Written by gen_recc.py.) -/
namespace Go.Proofs.Ytddoidcbpcmlaaa.RecC
open Go.RowKit Go.Proofs.YtddoidcbpcmlaaaW.PrintWords Go.Proofs.YtddoidcbpcmlaaaW.PrintLast Go.Proofs.Ytddoidcbpcmlaaa.M Go.Proofs.Ytddoidcbpcmlaaa.Fr Go.Proofs.Ytddoidcbpcmlaaa.Clo Go.Proofs.Ytddoidcbpcmlaaa.Ru Go.Proofs.Ytddoidcbpcmlaaa.RecL
open Go.Proofs.Ytddoidcbpcmlaaa.LinC (At C_at twoB agree_set fr_set)
set_option linter.unusedVariables false
set_option linter.unusedSimpArgs false
abbrev LI : Kd (List Int) := Kd.slice 3 (Kd.int .i64)
abbrev LW : Kd (List S139) := Kd.slice 139 k139
/-- A rule's lists of numbers, and where they stand. -/
def LN (r : Ru) : Nat → List Int
  | 0 => r.l8
  | 1 => r.l9
  | 2 => r.l10
  | 3 => r.l12
  | 4 => r.l13
  | 5 => r.l14
  | 6 => r.l15
  | _ => r.l16
def offF : Nat → Nat
  | 0 => 8
  | 1 => 9
  | 2 => 10
  | 3 => 12
  | 4 => 13
  | 5 => 14
  | 6 => 15
  | _ => 16
theorem lst (B j : Nat) (hj : j < 8) : ∃ s lo hi z, ((C1 B).toList ++ (C2 B).toList)[j * 5]? = some (.string s) ∧ ((C1 B).toList ++ (C2 B).toList)[j * 5 + 1]? = some (.pointer (some ⟨B, offF j, none⟩)) ∧ ((C1 B).toList ++ (C2 B).toList)[j * 5 + 2]? = some (.int .i64 lo) ∧ ((C1 B).toList ++ (C2 B).toList)[j * 5 + 3]? = some (.int .i64 hi) ∧ ((C1 B).toList ++ (C2 B).toList)[j * 5 + 4]? = some (.bool z) := by
  match j, hj with
  | 0, _ => exact ⟨_, _, _, _, rfl, rfl, rfl, rfl, rfl⟩
  | 1, _ => exact ⟨_, _, _, _, rfl, rfl, rfl, rfl, rfl⟩
  | 2, _ => exact ⟨_, _, _, _, rfl, rfl, rfl, rfl, rfl⟩
  | 3, _ => exact ⟨_, _, _, _, rfl, rfl, rfl, rfl, rfl⟩
  | 4, _ => exact ⟨_, _, _, _, rfl, rfl, rfl, rfl, rfl⟩
  | 5, _ => exact ⟨_, _, _, _, rfl, rfl, rfl, rfl, rfl⟩
  | 6, _ => exact ⟨_, _, _, _, rfl, rfl, rfl, rfl, rfl⟩
  | 7, _ => exact ⟨_, _, _, _, rfl, rfl, rfl, rfl, rfl⟩
/-- The rule's block between two rounds: the lists before i are of its own. -/
def Mid2 (w0 : World) (n B : Nat) (r : Ru) (i : Nat) (w : World) : Prop := ∃ cs : Array Value, w.heap[B]? = some (.cells cs 29 (0, 0)) ∧ cs.size = 17 ∧
  (cs[0]? = some (.int .i64 r.a0) ∧ cs[1]? = some (.int .i64 r.a1) ∧ cs[2]? = some (.int .i64 r.a2) ∧ cs[3]? = some (.int .i64 r.a3) ∧ cs[4]? = some (.int .i64 r.a4) ∧ cs[5]? = some (.string r.a5) ∧ cs[6]? = some (.bool r.a6) ∧ cs[7]? = some (.int .i64 r.a7)) ∧
  (∃ v, cs[11]? = some v ∧ LW.K w0 r.l11 [v]) ∧ ∀ j, j < 8 → ∃ v, cs[offF j]? = some v ∧ (j < i → Fr LI n w (LN r j) [v]) ∧ (i ≤ j → LI.K w0 (LN r j) [v])
theorem off_ne {i j : Nat} (hi : i < 8) (hj : j < 8) (h : i ≠ j) : offF i ≠ offF j ∧ offF i ≠ 11 ∧ 8 ≤ offF i ∧ offF i < 17 := by
  have key : ∀ a : Fin 8, ∀ b : Fin 8, a.val ≠ b.val → offF a.val ≠ offF b.val ∧ offF a.val ≠ 11 ∧ 8 ≤ offF a.val ∧ offF a.val < 17 := by decide
  exact key ⟨i, hi⟩ ⟨j, hj⟩ h
theorem off_bd {i : Nat} (hi : i < 8) : offF i ≠ 11 ∧ 8 ≤ offF i ∧ offF i < 17 := by
  have key : ∀ a : Fin 8, offF a.val ≠ 11 ∧ 8 ≤ offF a.val ∧ offF a.val < 17 := by decide
  exact key ⟨i, hi⟩
theorem Mid2.below {w0 w w1 : World} {n B : Nat} {r : Ru} {i : Nat} (h : Mid2 w0 n B r i w) (hb : Below w.heap.size w w1) : Mid2 w0 n B r i w1 := by
  obtain ⟨cs, h1, h2, h3, h4, h5⟩ := h
  refine ⟨cs, blk_below h1 hb, h2, h3, h4, fun j hj => ?_⟩
  obtain ⟨v, e1, e2, e3⟩ := h5 j hj
  exact ⟨v, e1, fun q => (e2 q).below hb, e3⟩
theorem Mid2.step {w0 w : World} {n B : Nat} {r : Ru} {i : Nat} {v : Value} (h : Mid2 w0 n B r i w) (hi : i < 8) (hB : B < n) (hv : Fr LI n w (LN r i) [v]) : Mid2 w0 n B r (i + 1) (w.setCell ⟨B, offF i, none⟩ v) := by
  obtain ⟨cs, h1, h2, ⟨c0, c1, c2, c3, c4, c5, c6, c7⟩, ⟨vw, c11, kw⟩, h5⟩ := h
  obtain ⟨o1, o2, o3⟩ := off_bd hi
  have ne : ∀ {k : Nat}, k ≠ offF i → (cs.setIfInBounds (offF i) v)[k]? = cs[k]? := fun {k} hk => Array.getElem?_setIfInBounds_ne (fun e => hk e.symm)
  refine ⟨_, blk_set h1 (offF i) v, by simpa using h2, ⟨?_, ?_, ?_, ?_, ?_, ?_, ?_, ?_⟩, ⟨vw, ?_, kw⟩, fun j hj => ?_⟩
  · rw [ne (by omega)]; exact c0
  · rw [ne (by omega)]; exact c1
  · rw [ne (by omega)]; exact c2
  · rw [ne (by omega)]; exact c3
  · rw [ne (by omega)]; exact c4
  · rw [ne (by omega)]; exact c5
  · rw [ne (by omega)]; exact c6
  · rw [ne (by omega)]; exact c7
  · rw [ne (by omega)]; exact c11
  · obtain ⟨u, e1, e2, e3⟩ := h5 j hj
    by_cases c : j = i
    · subst c
      exact ⟨v, Array.getElem?_setIfInBounds_self_of_lt (by omega), fun _ => fr_set hv _ _ hB, fun q => by omega⟩
    · exact ⟨u, by rw [ne (off_ne hj hi c).1]; exact e1, fun q => fr_set (e2 (by omega)) _ _ hB, fun q => e3 (by omega)⟩
theorem Mid2.start {w0 w : World} {n B : Nat} {r : Ru} {p : Rp} (hk : w.heap[B]? = some (obj r p)) (ok : Ok r p w0) : Mid2 w0 n B r 0 w := by
  refine ⟨_, hk, rfl, ⟨rfl, rfl, rfl, rfl, rfl, rfl, rfl, rfl⟩, ⟨_, rfl, p.A11, p.c11, rfl, ok.d11, ok.h11⟩, fun j hj => ?_⟩
  match j, hj with
  | 0, _ => exact ⟨_, rfl, fun q => by omega, fun _ => ⟨p.A8, p.c8, rfl, ok.d8, ok.h8⟩⟩
  | 1, _ => exact ⟨_, rfl, fun q => by omega, fun _ => ⟨p.A9, p.c9, rfl, ok.d9, ok.h9⟩⟩
  | 2, _ => exact ⟨_, rfl, fun q => by omega, fun _ => ⟨p.A10, p.c10, rfl, ok.d10, ok.h10⟩⟩
  | 3, _ => exact ⟨_, rfl, fun q => by omega, fun _ => ⟨p.A12, p.c12, rfl, ok.d12, ok.h12⟩⟩
  | 4, _ => exact ⟨_, rfl, fun q => by omega, fun _ => ⟨p.A13, p.c13, rfl, ok.d13, ok.h13⟩⟩
  | 5, _ => exact ⟨_, rfl, fun q => by omega, fun _ => ⟨p.A14, p.c14, rfl, ok.d14, ok.h14⟩⟩
  | 6, _ => exact ⟨_, rfl, fun q => by omega, fun _ => ⟨p.A15, p.c15, rfl, ok.d15, ok.h15⟩⟩
  | 7, _ => exact ⟨_, rfl, fun q => by omega, fun _ => ⟨p.A16, p.c16, rfl, ok.d16, ok.h16⟩⟩
/-- What a clone's lists read as in every world that agrees from n on. -/
structure OkF (r : Ru) (p : Rp) (n : Nat) (w : World) : Prop where
  h : ∀ w', Agree n w w' → Ok r p w'
theorem fr_open {α : Type} {d : Kd α} {e n : Nat} {w : World} {xs : List α} {v : Value} (h : Fr (Kd.slice e d) n w xs [v]) : ∃ A c, v = .slice A xs.length c ∧ xs.length ≤ c ∧ ∀ w', Agree n w w' → Kd.C d w' A xs.length xs := by
  obtain ⟨A, c, e1, h1, h2⟩ := Fr.K h
  obtain rfl := (List.cons.inj e1).1
  refine ⟨A, c, rfl, h1, fun w' hw => ?_⟩
  obtain ⟨A2, c2, e2, _, h3⟩ := h w' hw
  have e3 := (List.cons.inj e2).1
  injection e3 with e4 e5 e6
  rw [e4]; exact h3
theorem Mid2.done {w0 w : World} {n B : Nat} {r : Ru} {v : Value} (h : Mid2 w0 n B r 8 w) (hB : B < n) (hv : Fr LW n w r.l11 [v]) : ∃ p : Rp, (w.setCell ⟨B, 11, none⟩ v).heap[B]? = some (obj r p) ∧ OkF r p n (w.setCell ⟨B, 11, none⟩ v) := by
  obtain ⟨cs, h1, h2, ⟨c0, c1, c2, c3, c4, c5, c6, c7⟩, _, h5⟩ := h
  obtain ⟨A11, q11, rfl, d11, f11⟩ := fr_open hv
  have g : ∀ j, j < 8 → ∃ A c, cs[offF j]? = some (.slice A (LN r j).length c) ∧ (LN r j).length ≤ c ∧ ∀ w', Agree n w w' → Kd.C (Kd.int .i64) w' A (LN r j).length (LN r j) := fun j hj => by
    obtain ⟨u, e1, e2, _⟩ := h5 j hj
    obtain ⟨A, c, rfl, e3, e4⟩ := fr_open (e2 hj)
    exact ⟨A, c, e1, e3, e4⟩
  obtain ⟨A8, q8, k8, d8, f8⟩ := g 0 (by omega); obtain ⟨A9, q9, k9, d9, f9⟩ := g 1 (by omega); obtain ⟨A10, q10, k10, d10, f10⟩ := g 2 (by omega); obtain ⟨A12, q12, k12, d12, f12⟩ := g 3 (by omega)
  obtain ⟨A13, q13, k13, d13, f13⟩ := g 4 (by omega); obtain ⟨A14, q14, k14, d14, f14⟩ := g 5 (by omega); obtain ⟨A15, q15, k15, d15, f15⟩ := g 6 (by omega); obtain ⟨A16, q16, k16, d16, f16⟩ := g 7 (by omega)
  have ne : ∀ {k : Nat}, k ≠ 11 → (cs.setIfInBounds 11 (.slice A11 r.l11.length q11))[k]? = cs[k]? := fun {k} hk => Array.getElem?_setIfInBounds_ne (fun e => hk e.symm)
  have e : cs.setIfInBounds 11 (.slice A11 r.l11.length q11) = agg r ⟨A8, q8, A9, q9, A10, q10, A11, q11, A12, q12, A13, q13, A14, q14, A15, q15, A16, q16⟩ := by
    apply Array.ext_getElem?
    intro k
    match k with
    | 0 => rw [ne (by omega)]; exact c0
    | 1 => rw [ne (by omega)]; exact c1
    | 2 => rw [ne (by omega)]; exact c2
    | 3 => rw [ne (by omega)]; exact c3
    | 4 => rw [ne (by omega)]; exact c4
    | 5 => rw [ne (by omega)]; exact c5
    | 6 => rw [ne (by omega)]; exact c6
    | 7 => rw [ne (by omega)]; exact c7
    | 8 => rw [ne (by omega)]; exact k8
    | 9 => rw [ne (by omega)]; exact k9
    | 10 => rw [ne (by omega)]; exact k10
    | 11 => rw [Array.getElem?_setIfInBounds_self_of_lt (by omega)]; rfl
    | 12 => rw [ne (by omega)]; exact k12
    | 13 => rw [ne (by omega)]; exact k13
    | 14 => rw [ne (by omega)]; exact k14
    | 15 => rw [ne (by omega)]; exact k15
    | 16 => rw [ne (by omega)]; exact k16
    | k + 17 => rw [ne (by omega), Array.getElem?_eq_none (by omega), Array.getElem?_eq_none (by show 17 ≤ k + 17; omega)]
  have hb := blk_set h1 11 (.slice A11 r.l11.length q11)
  rw [e] at hb
  refine ⟨_, hb, ⟨fun w' hw => ?_⟩⟩
  have ag : Agree n w w' := fun k h1' h2' => (hw k h1' (by simpa [World.setCell] using h2')).trans (agree_set w ⟨B, 11, none⟩ _ hB k h1' h2')
  exact ⟨f8 w' ag, d8, f9 w' ag, d9, f10 w' ag, d10, f11 w' ag, d11, f12 w' ag, d12, f13 w' ag, d13, f14 w' ag, d14, f15 w' ag, d15, f16 w' ag, d16⟩
def Tc4 : Bool × List (List Nat × List Nat) := (true, [([], []), ([0], [0]), ([], []), ([2], [2]), ([3], [3]), ([4], [4]), ([5], [5]), ([1, 0, 1, 2, 3, 4, 5, 6], [1]), ([7, 6, 6, 0, 1, 2, 3, 4, 5, 6], [6, 7])])
def Bc4 : List Nat := [0, 1, 0, 4, 12, 28, 60, 127, 255]
theorem tabc4 : rtab .any (opsOf Try.f52 4) = Tc4 := by kernel_rfl
theorem bitsc4 : waitsOk Tc4.2 Bc4 = true := by kernel_rfl
theorem ldR {r : Ru} {p : Rp} {w : World} {g : Nat} (h : w.heap[g]? = some (obj r p)) : (loadVar 29 ⟨g, 0, none⟩).run Try.prog w = .ok (.agg (agg r p)) w :=
  run_loadVar_row w g 29 29 (agg r p) (0, 0) _ h Try.underlying29 rfl (by kernel_rfl)
theorem xR {ρ : Operand → Value} {o : Oper} (q : Operand) (g : Nat) (r : Ru) (p : Rp) (hop : o.op = .load 29 q) (hp : ρ q = .pointer (some ⟨g, 0, none⟩)) (w : World) (hg : w.heap[g]? = some (obj r p)) : (execOp ρ o).run Try.prog w = .ok (.value (.agg (agg r p))) w := by
  unfold execOp
  rw [hop]
  show (do pure (Next.value (← Instr.loadAt 29 (ρ q))) : Sem Next).run Try.prog w = _
  rw [hp]
  simp only [Instr.loadAt, Instr.sureAddr, Sem.run_bind, Sem.run_pure, Result.andThen_ok, ldR hg]
theorem sz17 : (Try.prog.info? 29).map (·.size) = some 17 := by kernel_rfl
theorem results_cell {P : Program} {fn : Func} {tmps : Array Value} {t : TypeId} {k : Tmp} {g : Nat} {w : World} {v : Value} (hf : fn.results = #[.cell k t]) (hk : tmps.getD k undef = .pointer (some ⟨g, 0, none⟩)) (h : (loadVar t ⟨g, 0, none⟩).run P w = .ok v w) : (results fn tmps).run P w = .ok v w := by
  unfold results
  rw [hf]
  simp only [List.mapM_toArray, Array.mapM_eq_mapM_toList]
  rw [Array.getD_eq_getD_getElem?] at hk
  simp [hk, asAddr, h]
theorem unhold {p : Prop} (h : Aside0 p) : p := h.out
theorem flatW {n : Nat} {w1 w : World} (x : S139) (cs : List Value) (h : k139.K w x cs) : Fr k139 n w1 x cs := by
  obtain ⟨c0, c1, rfl, h0, h1⟩ := h
  cases h0; cases h1
  exact Fr.iso (Fr.pair Fr.scalar Fr.scalar)
abbrev zr : Array Value := #[.int .i64 0, .int .i64 0, .int .i64 0, .int .i64 0, .int .i64 0, .string ⟨#[]⟩, .bool false, .int .i64 0, .slice none 0 0, .slice none 0 0, .slice none 0 0, .slice none 0 0, .slice none 0 0, .slice none 0 0, .slice none 0 0, .slice none 0 0, .slice none 0 0]
theorem cell_far {w : World} {B o g j : Nat} {u : Value} (h : g ≠ B) : (w.setCell ⟨B, o, none⟩ u).cell? ⟨g, j, none⟩ = w.cell? ⟨g, j, none⟩ := World.cell?_of_block (w := w) (a := ⟨g, j, none⟩) (Below.heap_setCell w ⟨B, o, none⟩ u g h)
/-- No list is too long. -/
def Small (r : Ru) : Prop := r.l11.length ≤ 1000000 ∧ ∀ j, j < 8 → (LN r j).length ≤ 1000000
set_option maxHeartbeats 4000000 in
set_option maxRecDepth 100000 in
theorem clone (r : Ru) (p : Rp) (w : World) (ok : Ok r p w) (hs : Small r) :
    Calls Try.prog 52 #[.agg (agg r p)] w fun q w' => ∃ p', q = .returned (.agg (agg r p')) ∧ OkF r p' w.heap.size w' ∧ Below w.heap.size w w' := by
  have OK := Aside0.mk ok; have HS := Aside0.mk hs
  clear ok hs
  go_enter Try.func52, Try.ntmps52
  go_upto_region 1 with fail
  obtain ⟨w0, hw0, z0, q1, q2, qb⟩ := twoB w (obj r p) (.cells zr 29 (0, 0))
  rw [← hw0]
  clear hw0
  have S0 := Aside0.mk z0; have M0_ := Aside0.mk (Mid2.start (n := w.heap.size + 2) q1 OK.out); have ZZ := Aside0.mk q2; have HB := Aside0.mk qb
  clear z0 q1 q2 qb
  go_wp2_with fail
  refine (RecA.all w.heap.size w0).mono ?_
  rintro q w1 ⟨g, cap, rfl, hg, hcells, hb⟩
  replace M0_ := Aside0.mk (M0_.out.below hb); replace ZZ := Aside0.mk (blk_below ZZ.out hb); replace HB := Aside0.mk (below_then HB.out HB.out.size hb)
  have HG := Aside0.mk (show w.heap.size + 2 ≤ g by have := S0.out; omega); have HC := Aside0.mk hcells
  have S1 := Aside0.mk (show w.heap.size + 2 ≤ w1.heap.size by have := S0.out; have := hb.size; omega)
  clear hg hcells hb S0
  go_wp2_with fail
  go_loopg [7] 8 (fun kq v7 w' => ∃ (i : Nat) (X : Int), v7 = .int .i64 X ∧ Aside0 (X = (i : Int)) ∧ Aside0 (i + kq = 8) ∧ Aside0 (Mid2 w (w.heap.size + 2) w.heap.size r i w') ∧ Aside0 (w'.heap[w.heap.size + 1]? = some (.cells zr 29 (0, 0))) ∧ Aside0 (∀ j v, ((C1 w.heap.size).toList ++ (C2 w.heap.size).toList)[j]? = some v → w'.cell? ⟨g, j, none⟩ = some v) ∧ Aside0 (Below w.heap.size w w') ∧ Aside0 (w.heap.size + 2 ≤ w'.heap.size))
  case atStart => exact ⟨0, 0, rfl, ⟨rfl⟩, ⟨rfl⟩, M0_, ZZ, HC, HB, S1⟩
  case round =>
    clear M0_ ZZ HC HB S1
    obtain ⟨i, X, rfl, HX, HI, MM, ZZ, HC, HB, S1⟩ := hrel
    cases gk with
    | zero =>
      obtain rfl : X = 8 := by have := HX.out; have := HI.out; omega
      have e : i = 8 := by have := HI.out; omega
      subst e
      obtain ⟨cs, hcs, _, _, ⟨v, e1, A11, q11, hv, hl11, hC11⟩, _⟩ := MM.out
      obtain rfl : v = .slice A11 r.l11.length q11 := by simpa using hv
      have kd : wr.cell? ⟨w.heap.size, 11, none⟩ = some (.slice A11 r.l11.length q11) := (blk_cell hcs 11).trans e1
      have CV := Aside0.mk hC11; have BC := Aside0.mk hcs
      clear hcs e1 hv hl11 hC11
      go_wp2_with fail
      refine (Clo.wday k139 rfl A11 q11 r.l11 wr (Kd.C_below CV.out HB.out) (by have := HS.out.1; omega)).mono ?_
      rintro q w2 ⟨A2, c2_, rfl, hc2, hrow2, hb⟩
      have FV := Aside0.mk ((Row.fr (e' := 139) hrow2 flatW hc2 (by have := HS.out.1; omega)).lower (show w.heap.size + 2 ≤ _ from S1.out))
      replace MM := Aside0.mk (MM.out.below hb)
      replace ZZ := Aside0.mk (blk_below ZZ.out hb)
      replace HB := Aside0.mk (below_then HB.out HB.out.size hb)
      have kz := pw_cell_below hb kd
      have kf := blk_frozen (blk_below BC.out hb) 11
      obtain ⟨p', hk, hF⟩ := Mid2.done MM.out (by omega) FV.out
      have PK := Aside0.mk hk; have PF := Aside0.mk hF
      clear hb hrow2 hc2 kd hk hF MM FV
      go_upto_region 7 with fail
      replace ZZ := Aside0.mk (blk_far ZZ.out (p := ⟨w.heap.size, 11, none⟩) (by show w.heap.size + 1 ≠ w.heap.size; omega) (.slice A2 r.l11.length c2_))
      replace HB := Aside0.mk (HB.out.setCell (p := ⟨w.heap.size, 11, none⟩) (Nat.le_refl _) (.slice A2 r.l11.length c2_))
      generalize w2.setCell ⟨w.heap.size, 11, none⟩ (.slice A2 r.l11.length c2_) = w3 at PK PF ZZ HB ⊢
      clear kz kf
      go_wp2_with ((with_reducible refine gate_ (.load 29 (.tmp 1)) rfl ?_); (try (refine gate_guard (by rfl) ?_; dsimp only)); refine Kd.event_run rfl (xR (.tmp 1) w.heap.size r p' rfl rfl _ PK.out) ?_; refine unhold ?_)
      refine ⟨?_⟩
      refine wpList_store_row rfl 29 (.tmp 2) (.tmp 24) rfl (w.heap.size + 1) (agg r p') rfl rfl 29 zr ZZ.out sz17 rfl (by simp [agg, Value.oneCell']) ?_
      go_wp2_with fail
      have PZ := setRow_heap w3 (w.heap.size + 1) _ (agg r p') _ _ ZZ.out
      refine bodyPost_ret (v := .agg (agg r p')) (results_cell Try.results52 rfl (ldR PZ)) rfl ⟨p', rfl, ⟨fun w' hw => PF.out.h w' fun k h1 h2 => ?_⟩, ?_⟩
      · exact (hw k (by omega) (by rw [setRow_size]; exact h2)).trans (setRow_other _ _ _ _ (by omega))
      · have hB := HB.out
        exact ⟨hB.os, hB.tape, hB.output, by rw [setRow_size]; exact hB.size, fun k hk => (setRow_other _ _ _ _ (by omega)).trans (hB.block k hk)⟩
    | succ k1_ =>
      have hi : i < 8 := by have := HI.out; omega
      have l1 : decide (X < 8) = true := decide_eq_true (by have := HX.out; omega)
      have p1 : 0 ≤ X := by have := HX.out; omega
      have p2 : X < 8 := by have := HX.out; omega
      have nx : wrap64 (X + 1) = X + 1 := by have := HX.out; unfold wrap64; omega
      obtain ⟨s, lo, hi_, z, c0, c1, c2, c3, c4⟩ := lst w.heap.size i hi
      obtain ⟨o, ho⟩ : ∃ o, offF i = o := ⟨_, rfl⟩
      obtain ⟨cs, hcs, _, _, _, h5⟩ := MM.out
      obtain ⟨v, e1, _, e3⟩ := h5 i hi
      obtain ⟨A1, q1, hv, hl1, hCv⟩ := e3 (Nat.le_refl _)
      obtain ⟨L, hL⟩ : ∃ L, LN r i = L := ⟨_, rfl⟩
      have hLs := HS.out.2 i hi
      rw [hL] at hv hl1 hCv hLs
      rw [ho] at c1 e1
      obtain rfl : v = .slice A1 L.length q1 := by simpa using hv
      have d0 : wr.cell? ⟨g, X.toNat * 5, none⟩ = some (.string s) := by rw [HX.out, Int.toNat_natCast]; exact HC.out _ _ c0
      have d1 : wr.cell? ⟨g, X.toNat * 5 + 1, none⟩ = some (.pointer (some ⟨w.heap.size, o, none⟩)) := by rw [HX.out, Int.toNat_natCast]; exact HC.out _ _ c1
      have d2 : wr.cell? ⟨g, X.toNat * 5 + 2, none⟩ = some (.int .i64 lo) := by rw [HX.out, Int.toNat_natCast]; exact HC.out _ _ c2
      have d3 : wr.cell? ⟨g, X.toNat * 5 + 3, none⟩ = some (.int .i64 hi_) := by rw [HX.out, Int.toNat_natCast]; exact HC.out _ _ c3
      have d4 : wr.cell? ⟨g, X.toNat * 5 + 4, none⟩ = some (.bool z) := by rw [HX.out, Int.toNat_natCast]; exact HC.out _ _ c4
      have kr : wr.cell? ⟨w.heap.size, o, none⟩ = some (.slice A1 L.length q1) := (blk_cell hcs o).trans e1
      have HO := Aside0.mk ho; have HL := Aside0.mk hL; have CV := Aside0.mk hCv; have LS := Aside0.mk hLs; have BC := Aside0.mk hcs; have I8 := Aside0.mk hi
      replace p1 := eq_true p1; replace p2 := eq_true p2
      clear ho hL hCv hLs hcs hi c0 c1 c2 c3 c4 h5 e1 e3 hv hl1
      go_upto_region 4 with fail
      have XB := Aside0.mk (blk_new wr (.cells #[.string s, .pointer (some ⟨w.heap.size, o, none⟩), .int .i64 lo, .int .i64 hi_, .bool z] 135 (0, 0)))
      have HR := Aside0.mk (below_alloc (Below.refl wr.heap.size wr) (.cells #[.string s, .pointer (some ⟨w.heap.size, o, none⟩), .int .i64 lo, .int .i64 hi_, .bool z] 135 (0, 0)))
      generalize wr.alloc (.cells #[.string s, .pointer (some ⟨w.heap.size, o, none⟩), .int .i64 lo, .int .i64 hi_, .bool z] 135 (0, 0)) = wx at XB HR ⊢
      have kx : wx.cell? ⟨wr.heap.size, 1, none⟩ = some (.pointer (some ⟨w.heap.size, o, none⟩)) := (blk_cell XB.out 1).trans rfl
      have kr2 : wx.cell? ⟨w.heap.size, o, none⟩ = some (.slice A1 L.length q1) := pw_cell_below HR.out kr
      have SR := Aside0.mk HR.out.size
      replace HR := Aside0.mk (below_drew1 HR.out)
      refine start_ (n := 9) (S := fun w' => w'.cell? ⟨wr.heap.size, 1, none⟩ = some (.pointer (some ⟨w.heap.size, o, none⟩)) ∧ w'.cell? ⟨w.heap.size, o, none⟩ = some (.slice A1 L.length q1)) (ds := [8]) (tt 9 0) (by kernel_rfl) rfl rfl ⟨pw_cell_below (below_drew1 (Below.refl _ _)) kx, pw_cell_below (below_drew1 (Below.refl _ _)) kr2⟩ (fun hHeld => ?_)
      refine with_tabW tabc4 bitsc4 (fun HT_ HW_ => ?_)
      generalize wx.drew = wd_ at HR hHeld ⊢
      refine pure_ (i := 0) (N := some 11) (v := ?_) (a' := ?_) (tt 9 1) rfl rfl (any_of HT_.out (by kernel_rfl)) (fun _ _ _ h => h) (Or.inl ⟨by rfl, ?_⟩) ?_ ?_
      rotate_left
      · intro w'
        go_simp
        with_reducible rfl
      rotate_left
      · simp only [Act.put, List.setIfInBounds_toArray, List.set_cons_zero, List.set_cons_succ, i64_w, i32_w]
        rfl
      refine take_ (i := 1) (N := some 12) (v := ?_) (a' := ?_) (tt 9 2) rfl rfl (take_ofW HT_.out HW_.out (by kernel_rfl)) (fun _ _ _ h => h) (Or.inl ⟨by rfl, ?_⟩) hHeld ?_ ?_
      rotate_left
      · rintro w' ⟨s0, s1⟩
        go_simp
        with_reducible rfl
      rotate_left
      · simp only [Act.put, List.setIfInBounds_toArray, List.set_cons_zero, List.set_cons_succ, i64_w, i32_w]
        rfl
      refine pure_ (i := 2) (N := some 13) (v := ?_) (a' := ?_) (tt 9 3) rfl rfl (any_of HT_.out (by kernel_rfl)) (fun _ _ _ h => h) (Or.inl ⟨by rfl, ?_⟩) ?_ ?_
      rotate_left
      · intro w'
        go_simp
        with_reducible rfl
      rotate_left
      · simp only [Act.put, List.setIfInBounds_toArray, List.set_cons_zero, List.set_cons_succ, i64_w, i32_w]
        rfl
      refine take_ (i := 3) (N := some 14) (v := ?_) (a' := ?_) (tt 9 4) rfl rfl (take_ofW HT_.out HW_.out (by kernel_rfl)) (fun _ _ _ h => h) (Or.inl ⟨by rfl, ?_⟩) hHeld ?_ ?_
      rotate_left
      · rintro w' ⟨s0, s1⟩
        go_simp
        with_reducible rfl
      rotate_left
      · simp only [Act.put, List.setIfInBounds_toArray, List.set_cons_zero, List.set_cons_succ, i64_w, i32_w]
        rfl
      refine pure_ (i := 4) (N := some 15) (v := ?_) (a' := ?_) (tt 9 5) rfl rfl (any_of HT_.out (by kernel_rfl)) (fun _ _ _ h => h) (Or.inl ⟨by rfl, ?_⟩) ?_ ?_
      rotate_left
      · intro w'
        go_simp
        with_reducible rfl
      rotate_left
      · simp only [Act.put, List.setIfInBounds_toArray, List.set_cons_zero, List.set_cons_succ, i64_w, i32_w]
        rfl
      refine take_ (i := 5) (N := some 16) (v := ?_) (a' := ?_) (tt 9 6) rfl rfl (take_ofW HT_.out HW_.out (by kernel_rfl)) (fun _ _ _ h => h) (Or.inl ⟨by rfl, ?_⟩) hHeld ?_ ?_
      rotate_left
      · rintro w' ⟨s0, s1⟩
        go_simp
        with_reducible rfl
      rotate_left
      · simp only [Act.put, List.setIfInBounds_toArray, List.set_cons_zero, List.set_cons_succ, i64_w, i32_w]
        rfl
      refine one_ (i := 6) (N := some 17) (tt 9 7) rfl rfl (one_of HT_.out (by kernel_rfl)) (by decide) (fun K hK => ?_)
      refine goes_ Try.func70 (by kernel_rfl) rfl #[.slice A1 L.length q1] (by rfl) rfl rfl (by (try simp only [List.map_toArray, List.map_cons, List.map_nil]); first | done | rfl) ?_
      refine (Clo.int (Kd.int .i64) rfl A1 q1 L _ (Kd.C_below CV.out (below_then HB.out HB.out.size HR.out)) (by have := LS.out; omega)).mono ?_
      rintro q wq1 ⟨A2, c2_, rfl, hc2, hrow2, hb⟩
      refine ⟨_, rfl, ?_⟩
      have SQ := Aside0.mk HR.out.size
      replace HR := Aside0.mk (below_then HR.out HR.out.size hb)
      have R2 := Aside0.mk hrow2; have C2_ := Aside0.mk hc2
      refine hK.out _ _ ⟨pw_cell_below hb hHeld.1, pw_cell_below hb hHeld.2⟩ (fun hHeld => ?_)
      clear hK K
      refine norm_ (a' := ?_) ?_ ?_
      rotate_left
      · show Act.put _ (some 17) _ = _
        simp only [Act.put, List.setIfInBounds_toArray, List.set_cons_zero, List.set_cons_succ, i64_w, i32_w]
        rfl
      refine pure_ (i := 7) (N := some 18) (v := ?_) (a' := ?_) (tt 9 8) rfl rfl (any_of HT_.out (by kernel_rfl)) (fun _ _ _ h => h) (Or.inl ⟨by rfl, ?_⟩) ?_ ?_
      rotate_left
      · intro w'
        go_simp
        with_reducible rfl
      rotate_left
      · simp only [Act.put, List.setIfInBounds_toArray, List.set_cons_zero, List.set_cons_succ, i64_w, i32_w]
        rfl
      refine last_ (i := 8) (N := none) (tt 9 9) rfl rfl (one_of HT_.out (by kernel_rfl)) (by decide) (fun K hK => ?_)
      have kz := hHeld.2
      have kf := blk_frozen (blk_below BC.out HR.out) o
      refine skip_ (w1 := ?_) (by rfl) rfl ?_ ?_
      rotate_left
      · go_simp
        rfl
      refine hK.out _ _ ?_
      clear hK K
      refine done_ (done_of HT_.out (by kernel_rfl)) ?_
      clear HT_ HW_
      have FV := Aside0.mk ((Row.fr (e' := 3) R2.out (fun p cs h => by cases h; exact Fr.scalar) C2_.out (by have := LS.out; omega)).lower (show w.heap.size + 2 ≤ _ by have := S1.out; have := SQ.out; omega))
      go_wp2_with fail
      go_roundg k1_
      case measure => omega
      case rel =>
        refine ⟨i + 1, X + 1, by simp [nx], ⟨by have := HX.out; push_cast; omega⟩, ⟨by have := HI.out; omega⟩, ⟨?_⟩, ⟨blk_far (blk_below ZZ.out HR.out) (by show w.heap.size + 1 ≠ w.heap.size; omega) _⟩, ⟨fun j v h => (cell_far (by have := HG.out; omega)).trans (pw_cell_below HR.out (HC.out j v h))⟩, ⟨(below_then HB.out HB.out.size HR.out).setCell (p := ⟨w.heap.size, o, none⟩) (Nat.le_refl _) _⟩, ⟨by have := S1.out; have := HR.out.size; simp [World.setCell]; omega⟩⟩
        have e := HO.out
        have f := FV.out
        rw [← HL.out] at f ⊢
        subst e
        exact Mid2.step (MM.out.below HR.out) I8.out (by omega) f
      end Go.Proofs.Ytddoidcbpcmlaaa.RecC
/- set.Clone. (By hand.) -/
namespace Go.Proofs.Ytddoidcbpcmlaaa.SetC
open Go.RowKit Go.Proofs.YtddoidcbpcmlaaaW.PrintWords Go.Proofs.YtddoidcbpcmlaaaW.PrintLast Go.Proofs.Ytddoidcbpcmlaaa.M Go.Proofs.Ytddoidcbpcmlaaa.Fr Go.Proofs.Ytddoidcbpcmlaaa.Clo Go.Proofs.Ytddoidcbpcmlaaa.Ru
open Go.Proofs.Ytddoidcbpcmlaaa.LinC (At C_at twoB agree_set fr_set)
open Go.Proofs.Ytddoidcbpcmlaaa.RecC (OkF fr_open results_cell unhold)
set_option linter.unusedVariables false
set_option linter.unusedSimpArgs false
/-- A row of cells with some cells laid anew. -/
def setL : Array Value → Nat → List Value → Array Value
  | cs, _, [] => cs
  | cs, o, v :: vs => setL (cs.setIfInBounds o v) (o + 1) vs
theorem blk_setCells {B : Nat} {T : TypeId} : ∀ (vs : List Value) {w : World} {cs : Array Value} (o : Nat), w.heap[B]? = some (.cells cs T (0, 0)) → (w.setCells B o vs).heap[B]? = some (.cells (setL cs o vs) T (0, 0))
  | [], _, _, _, h => h
  | v :: vs, _, _, o, h => blk_setCells vs (o + 1) (blk_set h o v)
theorem setCells_other {B k : Nat} (hk : k ≠ B) : ∀ (vs : List Value) (w : World) (o : Nat), (w.setCells B o vs).heap[k]? = w.heap[k]?
  | [], _, _ => rfl
  | v :: vs, w, o => (setCells_other hk vs _ (o + 1)).trans (Below.heap_setCell w ⟨B, o, none⟩ v k hk)
theorem setCells_size {B : Nat} : ∀ (vs : List Value) (w : World) (o : Nat), (w.setCells B o vs).heap.size = w.heap.size
  | [], _, _ => rfl
  | v :: vs, w, o => (setCells_size vs _ (o + 1)).trans (by simp [World.setCell])
theorem setCells_below {n B : Nat} {w0 : World} (hB : n ≤ B) : ∀ (vs : List Value) {w : World} (o : Nat), Below n w0 w → Below n w0 (w.setCells B o vs)
  | [], _, _, h => h
  | v :: vs, _, o, h => setCells_below hB vs (o + 1) (h.setCell (p := ⟨B, o, none⟩) hB v)
theorem agree_setCells {n : Nat} (w : World) (B o : Nat) (vs : List Value) (h : B < n) : Agree n w (w.setCells B o vs) := fun k h1 _ => setCells_other (by omega) vs w o
theorem range_of {w : World} {B : Nat} {T : TypeId} {cs : Array Value} (h : w.heap[B]? = some (.cells cs T (0, 0))) (o : Nat) (vs rest : List Value) (e : cs.toList.drop o = vs ++ rest) : w.rangeAt B o vs := fun j v hv => by
  rw [blk_cell h, ← Array.getElem?_toList, ← List.getElem?_drop, e, List.getElem?_append_left (List.getElem?_eq_some_iff.1 hv).1]
  exact hv
theorem there_of {w : World} {B : Nat} {T : TypeId} {cs : Array Value} (h : w.heap[B]? = some (.cells cs T (0, 0))) (o n : Nat) (e : o + n ≤ cs.size) : w.there B o n := fun j hj => by
  rw [blk_cell h, blk_frozen h, Array.getElem?_eq_getElem (by omega)]
  exact ⟨rfl, rfl⟩
/-- A set's values. -/
structure Sv where
  s : S25
  again : Bool
  r : Ru
  ds : List S25
  bs : List S25
/-- Where a set's lists lie. -/
structure Sp where
  p : Rp
  Ad : Option Addr
  cd : Nat
  Ab : Option Addr
  cb : Nat
abbrev hd (v : Sv) : List Value := [.int .i64 v.s.f0, .int .i64 v.s.f1, .string v.s.f2, .bool v.again]
abbrev sagg (v : Sv) (p : Sp) : Array Value := (hd v ++ ((agg v.r p.p).toList ++ [Value.slice p.Ad v.ds.length p.cd, Value.slice p.Ab v.bs.length p.cb])).toArray
abbrev TE : Kd (List S25) := Kd.slice 25 k25
structure OkS (v : Sv) (p : Sp) (w : World) : Prop where
  o : Ok v.r p.p w
  hd : Kd.C k25 w p.Ad v.ds.length v.ds
  dd : v.ds.length ≤ p.cd
  hb : Kd.C k25 w p.Ab v.bs.length v.bs
  db : v.bs.length ≤ p.cb
structure OkSF (v : Sv) (p : Sp) (n : Nat) (w : World) : Prop where
  h : ∀ w', Agree n w w' → OkS v p w'
theorem OkS.below {v : Sv} {p : Sp} {w w' : World} (h : OkS v p w) (hb : Below w.heap.size w w') : OkS v p w' := ⟨h.o.below hb, Kd.C_below h.hd hb, h.dd, Kd.C_below h.hb hb, h.db⟩
def Small (v : Sv) : Prop := RecC.Small v.r ∧ v.ds.length ≤ 1000000 ∧ v.bs.length ≤ 1000000
theorem keepF {r : Ru} {p : Rp} {n : Nat} {w w1 : World} (h : OkF r p n w) (hk : Agree n w w1) (hs : w.heap.size ≤ w1.heap.size) : OkF r p n w1 := ⟨fun W hW => h.h W fun k h1 h2 => (hW k h1 (by omega)).trans (hk k h1 h2)⟩
theorem keepS {v : Sv} {p : Sp} {n : Nat} {w w1 : World} (h : OkSF v p n w) (hk : Agree n w w1) (hs : w.heap.size ≤ w1.heap.size) : OkSF v p n w1 := ⟨fun W hW => h.h W fun k h1 h2 => (hW k h1 (by omega)).trans (hk k h1 h2)⟩
theorem agree_below {n : Nat} {w w1 : World} (hb : Below w.heap.size w w1) : Agree n w w1 := fun k _ h2 => hb.block k h2
theorem flatT {n : Nat} {w1 w : World} (x : S25) (cs : List Value) (h : k25.K w x cs) : Fr k25 n w1 x cs := by
  obtain rfl := k25_open h
  exact fun W _ => k25_mk W x
theorem szS : (Try.prog.info? 32).map (·.size) = some 23 := by kernel_rfl
abbrev zs : Array Value := #[.int .i64 0, .int .i64 0, .string ⟨#[]⟩, .bool false, .int .i64 0, .int .i64 0, .int .i64 0, .int .i64 0, .int .i64 0, .string ⟨#[]⟩, .bool false, .int .i64 0, .slice none 0 0, .slice none 0 0, .slice none 0 0, .slice none 0 0, .slice none 0 0, .slice none 0 0, .slice none 0 0, .slice none 0 0, .slice none 0 0, .slice none 0 0, .slice none 0 0]
theorem ldS {v : Sv} {p : Sp} {w : World} {g : Nat} (h : w.heap[g]? = some (.cells (sagg v p) 32 (0, 0))) : (loadVar 32 ⟨g, 0, none⟩).run Try.prog w = .ok (.agg (sagg v p)) w :=
  run_loadVar_row w g 32 32 (sagg v p) (0, 0) _ h Try.underlying32 rfl szS
theorem xR {ρ : Operand → Value} {o : Oper} (q : Operand) (g : Nat) (v : Sv) (p : Sp) (hop : o.op = .load 32 q) (hp : ρ q = .pointer (some ⟨g, 0, none⟩)) (w : World) (hg : w.heap[g]? = some (.cells (sagg v p) 32 (0, 0))) : (execOp ρ o).run Try.prog w = .ok (.value (.agg (sagg v p))) w := by
  unfold execOp
  rw [hop]
  show (do pure (Next.value (← Instr.loadAt 32 (ρ q))) : Sem Next).run Try.prog w = _
  rw [hp]
  simp only [Instr.loadAt, Instr.sureAddr, Sem.run_bind, Sem.run_pure, Result.andThen_ok, ldS hg]
theorem oneR (r : Ru) (p : Rp) : (agg r p).all (·.oneCell') = true := by simp [agg, Value.oneCell']
theorem oneS (v : Sv) (p : Sp) : (sagg v p).all (·.oneCell') = true := by simp [agg, Value.oneCell']
theorem setL_rule (v : Sv) (p : Sp) (p1 : Rp) : setL (sagg v p) 4 (agg v.r p1).toList = sagg v { p with p := p1 } := by
  simp only [setL, List.cons_append, List.nil_append, List.setIfInBounds_toArray, List.set_cons_zero, List.set_cons_succ]
  rfl
theorem setA (v : Sv) (p : Sp) (A : Option Addr) (c : Nat) : (sagg v p).setIfInBounds 21 (.slice A v.ds.length c) = sagg v { p with Ad := A, cd := c } := by
  simp only [List.cons_append, List.nil_append, List.setIfInBounds_toArray, List.set_cons_zero, List.set_cons_succ]
  rfl
theorem setB (v : Sv) (p : Sp) (A : Option Addr) (c : Nat) : (sagg v p).setIfInBounds 22 (.slice A v.bs.length c) = sagg v { p with Ab := A, cb := c } := by
  simp only [List.cons_append, List.nil_append, List.setIfInBounds_toArray, List.set_cons_zero, List.set_cons_succ]
  rfl
theorem mkF {v : Sv} {p1 : Rp} {A3 A5 : Option Addr} {c3 c5 n : Nat} {w : World} (h1 : OkF v.r p1 n w) (h3 : Fr TE n w v.ds [.slice A3 v.ds.length c3]) (h5 : Fr TE n w v.bs [.slice A5 v.bs.length c5]) : OkSF v ⟨p1, A3, c3, A5, c5⟩ n w := by
  obtain ⟨A, c, e3, l3, g3⟩ := fr_open h3
  obtain ⟨A', c', e5, l5, g5⟩ := fr_open h5
  cases e3
  cases e5
  exact ⟨fun w' hw => ⟨h1.h w' hw, g3 w' hw, l3, g5 w' hw, l5⟩⟩
set_option maxHeartbeats 4000000 in
set_option maxRecDepth 100000 in
theorem clone (v : Sv) (p : Sp) (w : World) (ok : OkS v p w) (hs : Small v) :
    Calls Try.prog 36 #[.agg (sagg v p)] w fun q w' => ∃ p', q = .returned (.agg (sagg v p')) ∧ OkSF v p' w.heap.size w' ∧ Below w.heap.size w w' := by
  have OK := Aside0.mk ok; have HS := Aside0.mk hs
  clear ok hs
  go_enter Try.func36, Try.ntmps36
  go_upto_region 1 with fail
  obtain ⟨w0, hw0, z0, q1, q2, qb⟩ := twoB w (.cells (sagg v p) 32 (0, 0)) (.cells zs 32 (0, 0))
  rw [← hw0]
  clear hw0
  have S0 := Aside0.mk z0; have K0 := Aside0.mk q1; have ZZ := Aside0.mk q2; have HB := Aside0.mk qb
  clear z0 q1 q2 qb
  go_wp2_with ((with_reducible refine gate_ (.load 29 (.tmp 3)) rfl ?_); (try (refine gate_guard (by rfl) ?_; dsimp only)); refine wpList_load_mid rfl 29 (.tmp 3) rfl w.heap.size 4 rfl (agg v.r p.p).toList _ (range_of K0.out 4 _ _ rfl) Try.underlying29 rfl RecC.sz17 ?_)
  refine (RecC.clone v.r p.p w0 (OK.out.o.below HB.out) HS.out.1).mono ?_
  rintro q w1 ⟨p1, rfl, hF, hb⟩
  have PF := Aside0.mk (show OkF v.r p1 (w.heap.size + 2) w1 from S0.out ▸ hF)
  replace K0 := Aside0.mk (blk_below K0.out hb); replace ZZ := Aside0.mk (blk_below ZZ.out hb); replace HB := Aside0.mk (below_then HB.out HB.out.size hb)
  have S1 := Aside0.mk (show w.heap.size + 2 ≤ w1.heap.size by have := S0.out; have := hb.size; omega)
  clear hF hb S0
  go_wp2_with ((with_reducible refine gate_ (.store 29 (.tmp 6) (.tmp 5)) rfl ?_); (try (refine gate_guard (by rfl) ?_; dsimp only)); refine wpList_store_mid rfl 29 (.tmp 6) (.tmp 5) rfl w.heap.size 4 (agg v.r p1) rfl rfl (there_of K0.out 4 17 (by show 21 ≤ 23; omega)) RecC.sz17 (oneR _ _) ?_; refine unhold ?_)
  refine ⟨?_⟩
  replace K0 := Aside0.mk (show (w1.setCells w.heap.size 4 (agg v.r p1).toList).heap[w.heap.size]? = some (.cells (sagg v { p with p := p1 }) 32 (0, 0)) from setL_rule v p p1 ▸ blk_setCells _ 4 K0.out)
  replace ZZ := Aside0.mk ((setCells_other (show w.heap.size + 1 ≠ w.heap.size by omega) (agg v.r p1).toList w1 4).trans ZZ.out)
  replace HB := Aside0.mk (setCells_below (Nat.le_refl _) (agg v.r p1).toList 4 HB.out)
  replace PF := Aside0.mk (keepF PF.out (agree_setCells w1 w.heap.size 4 (agg v.r p1).toList (by omega)) (Nat.le_of_eq (setCells_size _ _ _).symm))
  replace S1 := Aside0.mk (show w.heap.size + 2 ≤ (w1.setCells w.heap.size 4 (agg v.r p1).toList).heap.size by rw [setCells_size]; exact S1.out)
  generalize w1.setCells w.heap.size 4 (agg v.r p1).toList = w2 at K0 ZZ HB PF S1 ⊢
  have k1 : w2.cell? ⟨w.heap.size, 21, none⟩ = some (.slice p.Ad v.ds.length p.cd) := (blk_cell K0.out 21).trans rfl
  go_wp2_with fail
  refine (Clo.time k25 rfl p.Ad p.cd v.ds w2 (Kd.C_below OK.out.hd HB.out) (by have := HS.out.2.1; omega)).mono ?_
  rintro q w3 ⟨A3, c3, rfl, hc3, hrow3, hb⟩
  have F3 := Aside0.mk ((Row.fr (e' := 25) hrow3 flatT hc3 (by have := HS.out.2.1; omega)).lower S1.out)
  replace K0 := Aside0.mk (blk_below K0.out hb); replace ZZ := Aside0.mk (blk_below ZZ.out hb); replace HB := Aside0.mk (below_then HB.out HB.out.size hb)
  replace PF := Aside0.mk (keepF PF.out (agree_below hb) hb.size)
  replace S1 := Aside0.mk (show w.heap.size + 2 ≤ w3.heap.size from Nat.le_trans S1.out hb.size)
  have kf := blk_frozen K0.out 21
  replace k1 := pw_cell_below hb k1
  clear hrow3 hc3 hb
  go_upto_region 3 with fail
  replace K0 := Aside0.mk (show (w3.setCell ⟨w.heap.size, 21, none⟩ (.slice A3 v.ds.length c3)).heap[w.heap.size]? = some (.cells (sagg v { p with p := p1, Ad := A3, cd := c3 }) 32 (0, 0)) from setA v { p with p := p1 } A3 c3 ▸ blk_set K0.out 21 _)
  replace ZZ := Aside0.mk (blk_far ZZ.out (p := ⟨w.heap.size, 21, none⟩) (by show w.heap.size + 1 ≠ w.heap.size; omega) (.slice A3 v.ds.length c3))
  replace HB := Aside0.mk (HB.out.setCell (p := ⟨w.heap.size, 21, none⟩) (Nat.le_refl _) (.slice A3 v.ds.length c3))
  replace PF := Aside0.mk (keepF PF.out (agree_set w3 ⟨w.heap.size, 21, none⟩ (.slice A3 v.ds.length c3) (by show w.heap.size < w.heap.size + 2; omega)) (by simp [World.setCell]))
  replace F3 := Aside0.mk (fr_set F3.out ⟨w.heap.size, 21, none⟩ (.slice A3 v.ds.length c3) (by show w.heap.size < w.heap.size + 2; omega))
  replace S1 := Aside0.mk (show w.heap.size + 2 ≤ (w3.setCell ⟨w.heap.size, 21, none⟩ (.slice A3 v.ds.length c3)).heap.size by have := S1.out; simpa [World.setCell] using this)
  clear k1 kf
  generalize w3.setCell ⟨w.heap.size, 21, none⟩ (.slice A3 v.ds.length c3) = w4 at K0 ZZ HB PF F3 S1 ⊢
  have k1 : w4.cell? ⟨w.heap.size, 22, none⟩ = some (.slice p.Ab v.bs.length p.cb) := (blk_cell K0.out 22).trans rfl
  go_wp2_with fail
  refine (Clo.time k25 rfl p.Ab p.cb v.bs w4 (Kd.C_below OK.out.hb HB.out) (by have := HS.out.2.2; omega)).mono ?_
  rintro q w5 ⟨A5, c5, rfl, hc5, hrow5, hb⟩
  have F5 := Aside0.mk ((Row.fr (e' := 25) hrow5 flatT hc5 (by have := HS.out.2.2; omega)).lower S1.out)
  replace K0 := Aside0.mk (blk_below K0.out hb); replace ZZ := Aside0.mk (blk_below ZZ.out hb); replace HB := Aside0.mk (below_then HB.out HB.out.size hb)
  replace PF := Aside0.mk (keepF PF.out (agree_below hb) hb.size)
  replace F3 := Aside0.mk (F3.out.below hb)
  have kf := blk_frozen K0.out 22
  replace k1 := pw_cell_below hb k1
  clear hrow5 hc5 hb S1
  go_upto_region 4 with fail
  replace K0 := Aside0.mk (show (w5.setCell ⟨w.heap.size, 22, none⟩ (.slice A5 v.bs.length c5)).heap[w.heap.size]? = some (.cells (sagg v ⟨p1, A3, c3, A5, c5⟩) 32 (0, 0)) from setB v ⟨p1, A3, c3, p.Ab, p.cb⟩ A5 c5 ▸ blk_set K0.out 22 _)
  replace ZZ := Aside0.mk (blk_far ZZ.out (p := ⟨w.heap.size, 22, none⟩) (by show w.heap.size + 1 ≠ w.heap.size; omega) (.slice A5 v.bs.length c5))
  replace HB := Aside0.mk (HB.out.setCell (p := ⟨w.heap.size, 22, none⟩) (Nat.le_refl _) (.slice A5 v.bs.length c5))
  replace PF := Aside0.mk (keepF PF.out (agree_set w5 ⟨w.heap.size, 22, none⟩ (.slice A5 v.bs.length c5) (by show w.heap.size < w.heap.size + 2; omega)) (by simp [World.setCell]))
  replace F3 := Aside0.mk (fr_set F3.out ⟨w.heap.size, 22, none⟩ (.slice A5 v.bs.length c5) (by show w.heap.size < w.heap.size + 2; omega))
  replace F5 := Aside0.mk (fr_set F5.out ⟨w.heap.size, 22, none⟩ (.slice A5 v.bs.length c5) (by show w.heap.size < w.heap.size + 2; omega))
  clear k1 kf
  generalize w5.setCell ⟨w.heap.size, 22, none⟩ (.slice A5 v.bs.length c5) = w6 at K0 ZZ HB PF F3 F5 ⊢
  have GF := Aside0.mk (show OkSF v ⟨p1, A3, c3, A5, c5⟩ (w.heap.size + 2) w6 from mkF PF.out F3.out F5.out)
  clear PF F3 F5
  go_wp2_with (first | ((with_reducible refine gate_ (.load 32 (.tmp 1)) rfl ?_); (try (refine gate_guard (by rfl) ?_; dsimp only)); refine Kd.event_run rfl (xR (.tmp 1) w.heap.size v _ rfl rfl _ K0.out) ?_) | ((with_reducible refine gate_ (.store 32 (.tmp 2) (.tmp 15)) rfl ?_); (try (refine gate_guard (by rfl) ?_; dsimp only)); refine wpList_store_row rfl 32 (.tmp 2) (.tmp 15) rfl (w.heap.size + 1) (sagg v ⟨p1, A3, c3, A5, c5⟩) rfl rfl 32 zs ZZ.out szS rfl (oneS _ _) ?_))
  have PZ := setRow_heap w6 (w.heap.size + 1) _ (sagg v ⟨p1, A3, c3, A5, c5⟩) _ _ ZZ.out
  refine bodyPost_ret (v := .agg (sagg v ⟨p1, A3, c3, A5, c5⟩)) (results_cell Try.results36 rfl (ldS PZ)) rfl ⟨_, rfl, ⟨fun w' hw => GF.out.h w' fun k h1 h2 => ?_⟩, ?_⟩
  · exact (hw k (by omega) (by rw [setRow_size]; exact h2)).trans (setRow_other _ _ _ _ (by omega))
  · have hB := HB.out
    exact ⟨hB.os, hB.tape, hB.output, by rw [setRow_size]; exact hB.size, fun k hk => (setRow_other _ _ _ _ (by omega)).trans (hB.block k hk)⟩
end Go.Proofs.Ytddoidcbpcmlaaa.SetC
