/- Texts of this claim, merged: Gate, M0, Ru, MrataA, MmatA, MatD. -/
import Derived.Test.YtfdcldjoncednaaGreatMgExpandUntil1
import Derived.Test.YtfdcldjoncednaaGreatMgExpandUntil2
import Derived.Test.YtfdcldjoncednaaGreatMgExpandUntil3
import Derived.Test.YtfdcldjoncednaaGreatProg
import Derived.Below
import Derived.Deep.Draws
import Derived.Deep.AppendLies
import Derived.Maps.AppendAt
import Derived.OwnWalk
import Derived.Laws.BytesArg
import Derived.Laws.MakeOwn
import Derived.Laws.OwnMore
import Derived.Deep.OwnRows
import Derived.Tactics
import Derived.Lib.ConvBytes
import Derived.Laws.Slices
import Derived.WalkKit
import Derived.KernelRfl
import Derived.RowKit3
import Derived.Deep.LoopGhost
import Derived.Deep.QuietTactic
import Derived.BigQuiet
import Derived.WideLaws
import Derived.Deep.DeepCutAuto
import Derived.Deep.CutBlock
import Derived.Deep.RegionHeld3
import Derived.Laws.Rows
import Derived.Lib.AppendStr
import Derived.ArgAppend
import Derived.Laws.IdiomCopy
import Derived.OrdersHeld
import Derived.Laws.BitsLemmas
import Derived.RowKit
import Derived.Test.YtfdcldjoncednaaGreatMgExpandUntil4
import Derived.Test.YtfdcldjoncednaaGreatMgExpandUntil5
import Derived.Test.YtfdcldjoncednaaGreatMgExpandUntil6
import Derived.Lib.Hide
/- Looks ahead of a dear step of a walk; the lesser and the greater of two whole numbers. -/
namespace Go.Proofs.YtfdcldjoncednaaGreatW.PrintMore
theorem max2_int (k k' : IntKind) (x y : Int) : Builtin.max2 (.int k x) (.int k' y) = pure (.int k (if x < y then y else x)) := by simp only [Builtin.max2, gt_iff_lt]
theorem min2_int (k k' : IntKind) (x y : Int) : Builtin.min2 (.int k x) (.int k' y) = pure (.int k (if y < x then y else x)) := by simp only [Builtin.min2]
theorem max_two (ats : Array TypeId) (ty : TypeId) (a b : Value) : Builtin.max_ ats ty #[a, b] = (Builtin.max2 a b >>= fun s => pure s) := by simp only [Builtin.max_, List.foldlM_cons, List.foldlM_nil]
theorem min_two (ats : Array TypeId) (ty : TypeId) (a b : Value) : Builtin.min_ ats ty #[a, b] = (Builtin.min2 a b >>= fun s => pure s) := by simp only [Builtin.min_, List.foldlM_cons, List.foldlM_nil]
end Go.Proofs.YtfdcldjoncednaaGreatW.PrintMore
namespace Go.Proofs.YtfdcldjoncednaaGreatW.PrintWords
open Go.RowKit
section
variable {P : Program} {ops : Array Oper} {rest : List Oper} {o : Oper} {a : Act} {Q : Exit → Act → World → Prop} {W : World}
/-- The step calls this function. -/
theorem gate_callee {f : FuncId} {ys : Array Operand} {ts : Array TypeId} (_ho : o.op = .call { callee := .value (.func f), args := ys, argTypes := ts }) (h : wpList P ops Q (o :: rest) a W) : wpList P ops Q (o :: rest) a W := h
/-- The step is a builtin at these places. -/
theorem gate_builtin {b : Builtin} {xs : Array Operand} {ts : Array TypeId} (_ho : o.op = .call { callee := .builtin b, args := xs, argTypes := ts }) (h : wpList P ops Q (o :: rest) a W) : wpList P ops Q (o :: rest) a W := h
end
/-- A call's arguments, spelled in another way. -/
theorem calls_of_args {P : Program} {f : FuncId} {xs ys : Array Value} {w : World} {Q : Ending → World → Prop} (h : xs = ys) (hc : Calls P f ys w Q) : Calls P f xs w Q := by subst h; exact hc
/-- The greater of two. -/
def mx (a b : Int) : Int := if a < b then b else a
/-- The lesser of two. -/
def mn (a b : Int) : Int := if b < a then b else a
theorem mA {α β : Type _} {f : α → β} {l : List α} : l.toArray.map f = (l.map f).toArray := List.map_toArray
theorem mB {α β : Type _} {f : α → β} {a : α} {l : List α} : (a :: l).map f = f a :: l.map f := List.map_cons
theorem mC {α β : Type _} {f : α → β} : [].map f = [] := List.map_nil
theorem sA {α : Type _} {l : List α} {i : Nat} {a : α} : l.toArray.setIfInBounds i a = (l.set i a).toArray := List.setIfInBounds_toArray ..
theorem sB {α : Type _} {x : α} {xs : List α} {a : α} : (x :: xs).set 0 a = a :: xs := List.set_cons_zero
theorem sC {α : Type _} {x : α} {xs : List α} {i : Nat} {a : α} : (x :: xs).set (i + 1) a = x :: xs.set i a := List.set_cons_succ
/-- A drawn world, by its name. -/
theorem drewN_self (w : World) (n : Nat) : w.drewN n = w.drewN n := rfl
end Go.Proofs.YtfdcldjoncednaaGreatW.PrintWords
namespace Go.Proofs.YtfdcldjoncednaaGreatW.PrintLast
open Go.RowKit Go.Proofs.YtfdcldjoncednaaGreatW.PrintWords
/-- A call in a plain region, what is plain about it told by itself. -/
theorem gm_ {P : Program} {ops : Array Oper} {Q : Exit → Act → World → Prop} {rest : List Oper} {oi : Oper} {a : Act} {w : World} (N : Option Tmp) {f : FuncId} {fn : Func} {ys : Array Operand} {ts : Array TypeId} (hf : P.funcs[f]? = some fn) (args : Array Value)
    (h : Calls P f args w fun e w' => ∃ v, e = .returned v ∧ wpList P ops Q rest (a.put N v) w')
    (hd : oi.dst = N := by exact rfl) (hg : oi.guard = none := by exact rfl) (hname : (fn.name == "runtime.NumGoroutine") = false := by kernel_rfl) (hb : fn.body.isSome = true := by exact rfl)
    (hop : oi.op = .call { callee := .value (.func f), args := ys, argTypes := ts } := by exact rfl) (hargs : ys.map a.eval = args := by (try simp only [mA, mB, mC]); first | done | rfl) : wpList P ops Q (oi :: rest) a w :=
  goesL_ N hd hg hf hname hb args hop hargs h
/-- The first k of n operations are done. -/
def fl (n k : Nat) : Array Bool := (List.replicate k true ++ List.replicate (n - k) false).toArray
section
variable {P : Program} {ops : Array Oper} {Q : Exit → Act → World → Prop} {md : Region.Mode} {S : World → Prop} {ds : List Nat}
/-- An operation that only computes, in a region that draws its order. -/
theorem pu {T : Bool × List (List Nat × List Nat)} {oi : Oper} {v : Value} {fuel : Nat} {l : Array Bool} {a a' : Act} {w : World} (i : Nat) (N : Option Tmp) (l' : Array Bool) (hT : Aside0 (rtab md ops = T)) (h : wpAnyLast P md ops Q S ds fuel l' a' w)
    (hi : ops[i]? = some oi := by exact rfl) (hN : oi.dst = N := by exact rfl) (hc : anyT T l.toList l'.toList i = true := by kernel_rfl) (hQ : ∀ c a w, Q (.panic c) (a.put oi.dst v) w → Q (.panic c) a w := by exact fun _ _ _ h => h)
    (hy : Yields P ops oi v a := by exact Or.inl ⟨by rfl, by intro w'; go_simp; with_reducible rfl⟩) (ha : a.put N v = a' := by simp only [Act.put, sA, sB, sC, i64_w, i32_w]; rfl) : wpAnyLast P md ops Q S ds (fuel + 1) l a w :=
  pure_ (i := i) (N := N) l' hi hN (any_of hT.out hc) hQ hy ha h
/-- One whose guard is off. -/
theorem puO {T : Bool × List (List Nat × List Nat)} {oi : Oper} {fuel : Nat} {l : Array Bool} {a a' : Act} {w : World} (i : Nat) (N : Option Tmp) (l' : Array Bool) (hT : Aside0 (rtab md ops = T)) (h : wpAnyLast P md ops Q S ds fuel l' a' w)
    (hi : ops[i]? = some oi := by exact rfl) (hN : oi.dst = N := by exact rfl) (hc : anyT T l.toList l'.toList i = true := by kernel_rfl) (hQ : ∀ c a w, Q (.panic c) (a.put oi.dst undef) w → Q (.panic c) a w := by exact fun _ _ _ h => h)
    (hy : Yields P ops oi undef a := by exact Or.inr ⟨by rfl, rfl⟩) (ha : a.put N undef = a' := by simp only [Act.put, sA, sB, sC, i64_w, i32_w]; rfl) : wpAnyLast P md ops Q S ds (fuel + 1) l a w :=
  pure_ (i := i) (N := N) l' hi hN (any_of hT.out hc) hQ hy ha h
end
end Go.Proofs.YtfdcldjoncednaaGreatW.PrintLast
namespace Go.Proofs.YtfdcldjoncednaaGreat.M
open Go.RowKit Go.Proofs.YtfdcldjoncednaaGreatW.PrintWords Go.Proofs.YtfdcldjoncednaaGreatW.PrintLast Go.Proofs.YtfdcldjoncednaaGreatW.PrintMore
attribute [local go_sem] max2_int min2_int max_two min_two
set_option linter.unusedVariables false
set_option linter.unusedSimpArgs false
def errW : Option Int → Value
 | none => .nilIface
 | some c => .iface 0 (.int .i64 c)
theorem errW_none : errW none = .nilIface := rfl
theorem errW_some (c : Int) : errW (some c) = .iface 0 (.int .i64 c) := rfl

/-! #### struct type 80 -/
structure S80 where
 f0 : Int
 f1 : Int
def z80 : S80 := ⟨(0 : Int), (0 : Int)⟩
def k80 : Kd S80 := Kd.iso (Kd.pair (Kd.int .i64) (Kd.int .i64)) (fun x : S80 => (x.f0, x.f1))
theorem k80_open {w : World} {x : S80} {cs : List Value} (h : k80.K w x cs) : cs = [.int .i64 x.f0, .int .i64 x.f1] := by
 obtain ⟨_, _, rfl, rfl, rfl⟩ := h
 exact rfl
def rd_T80 (xs : List S80) (i : Int) : S80 := xs.getD i.toNat z80
theorem at_T80 {w : World} {A : Option Addr} {n : Nat} {xs : List S80} (h : Kd.C k80 w A n xs) (i : Int) (h0 : 0 ≤ i) (h1 : i < n) : ∃ ad , A = some ad ∧ w.cell? (ad.add (i.toNat * 2)) = some (.int .i64 (rd_T80 xs i).f0) ∧ w.cell? ⟨(ad.add (i.toNat * 2)).block, (ad.add (i.toNat * 2)).off + 1, none⟩ = some (.int .i64 (rd_T80 xs i).f1) := by
 obtain ⟨ad, c, e, _, hK, hc0⟩ := Kd.C_get h z80 i h0 h1
 have hc : ∀ j u, c[j]? = some u → w.cell? (ad.add (i.toNat * 2 + j)) = some u := hc0
 obtain rfl := k80_open hK
 exact ⟨ad, e, hc 0 _ rfl, by rw [← add_field _ _ 1 (by omega)]; exact hc 1 _ rfl⟩

theorem bne_nil_ (l : List UInt8) : (l != []) = !l.isEmpty := by cases l <;> rfl
end Go.Proofs.YtfdcldjoncednaaGreat.M
/- A rule as one thing: its plain values (Ru), where its lists lie (Rp). (Written by gen_ru.py.) -/
namespace Go.Proofs.YtfdcldjoncednaaGreat.Ru
open Go.RowKit Go.Proofs.YtfdcldjoncednaaGreatW.PrintWords Go.Proofs.YtfdcldjoncednaaGreatW.PrintLast Go.Proofs.YtfdcldjoncednaaGreat.M
set_option linter.unusedVariables false
set_option linter.unusedSimpArgs false
/-- The first k of n operations are done. -/
def tt (n k : Nat) : Array Bool := (List.replicate k true ++ List.replicate (n - k) false).toArray
structure Ru where
 a0 : Int
 a1 : Int
 a2 : Int
 a3 : Int
 a4 : Int
 a5 : ByteArray
 a6 : Bool
 a7 : Int
 l8 : List Int
 l9 : List Int
 l10 : List Int
 l11 : List S80
 l12 : List Int
 l13 : List Int
 l14 : List Int
 l15 : List Int
 l16 : List Int
structure Rp where
 A8 : Option Addr
 c8 : Nat
 A9 : Option Addr
 c9 : Nat
 A10 : Option Addr
 c10 : Nat
 A11 : Option Addr
 c11 : Nat
 A12 : Option Addr
 c12 : Nat
 A13 : Option Addr
 c13 : Nat
 A14 : Option Addr
 c14 : Nat
 A15 : Option Addr
 c15 : Nat
 A16 : Option Addr
 c16 : Nat
abbrev agg (r : Ru) (p : Rp) : Array Value := #[.int .i64 r.a0, .int .i64 r.a1, .int .i64 r.a2, .int .i64 r.a3, .int .i64 r.a4, .string r.a5, .bool r.a6, .int .i64 r.a7, .slice p.A8 r.l8.length p.c8, .slice p.A9 r.l9.length p.c9, .slice p.A10 r.l10.length p.c10, .slice p.A11 r.l11.length p.c11, .slice p.A12 r.l12.length p.c12, .slice p.A13 r.l13.length p.c13, .slice p.A14 r.l14.length p.c14, .slice p.A15 r.l15.length p.c15, .slice p.A16 r.l16.length p.c16]
abbrev obj (r : Ru) (p : Rp) : Obj := .cells (agg r p) 27 (0, 0)
/-- Where a rule's lists lie, in a world. -/
structure Ok (r : Ru) (p : Rp) (w : World) : Prop where
 h8 : Kd.C (Kd.int .i64) w p.A8 r.l8.length r.l8
 d8 : r.l8.length ≤ p.c8
 h9 : Kd.C (Kd.int .i64) w p.A9 r.l9.length r.l9
 d9 : r.l9.length ≤ p.c9
 h10 : Kd.C (Kd.int .i64) w p.A10 r.l10.length r.l10
 d10 : r.l10.length ≤ p.c10
 h11 : Kd.C k80 w p.A11 r.l11.length r.l11
 d11 : r.l11.length ≤ p.c11
 h12 : Kd.C (Kd.int .i64) w p.A12 r.l12.length r.l12
 d12 : r.l12.length ≤ p.c12
 h13 : Kd.C (Kd.int .i64) w p.A13 r.l13.length r.l13
 d13 : r.l13.length ≤ p.c13
 h14 : Kd.C (Kd.int .i64) w p.A14 r.l14.length r.l14
 d14 : r.l14.length ≤ p.c14
 h15 : Kd.C (Kd.int .i64) w p.A15 r.l15.length r.l15
 d15 : r.l15.length ≤ p.c15
 h16 : Kd.C (Kd.int .i64) w p.A16 r.l16.length r.l16
 d16 : r.l16.length ≤ p.c16
theorem Ok.below {r : Ru} {p : Rp} {w w' : World} (h : Ok r p w) (hb : Below w.heap.size w w') : Ok r p w' :=
 ⟨Kd.C_below h.h8 hb, h.d8, Kd.C_below h.h9 hb, h.d9, Kd.C_below h.h10 hb, h.d10, Kd.C_below h.h11 hb, h.d11, Kd.C_below h.h12 hb, h.d12, Kd.C_below h.h13 hb, h.d13, Kd.C_below h.h14 hb, h.d14, Kd.C_below h.h15 hb, h.d15, Kd.C_below h.h16 hb, h.d16⟩
/-- The seventeen cells of a rule's block. -/
theorem cells {r : Ru} {p : Rp} {w : World} {g : Nat} (h : w.heap[g]? = some (obj r p)) :
  w.cell? ⟨g, 0, none⟩ = some (.int .i64 r.a0) ∧ w.cell? ⟨g, 1, none⟩ = some (.int .i64 r.a1) ∧ w.cell? ⟨g, 2, none⟩ = some (.int .i64 r.a2) ∧ w.cell? ⟨g, 3, none⟩ = some (.int .i64 r.a3) ∧ w.cell? ⟨g, 4, none⟩ = some (.int .i64 r.a4) ∧ w.cell? ⟨g, 5, none⟩ = some (.string r.a5) ∧ w.cell? ⟨g, 6, none⟩ = some (.bool r.a6) ∧ w.cell? ⟨g, 7, none⟩ = some (.int .i64 r.a7) ∧ w.cell? ⟨g, 8, none⟩ = some (.slice p.A8 r.l8.length p.c8) ∧ w.cell? ⟨g, 9, none⟩ = some (.slice p.A9 r.l9.length p.c9) ∧ w.cell? ⟨g, 10, none⟩ = some (.slice p.A10 r.l10.length p.c10) ∧ w.cell? ⟨g, 11, none⟩ = some (.slice p.A11 r.l11.length p.c11) ∧ w.cell? ⟨g, 12, none⟩ = some (.slice p.A12 r.l12.length p.c12) ∧ w.cell? ⟨g, 13, none⟩ = some (.slice p.A13 r.l13.length p.c13) ∧ w.cell? ⟨g, 14, none⟩ = some (.slice p.A14 r.l14.length p.c14) ∧ w.cell? ⟨g, 15, none⟩ = some (.slice p.A15 r.l15.length p.c15) ∧ w.cell? ⟨g, 16, none⟩ = some (.slice p.A16 r.l16.length p.c16) :=
 ⟨(blk_cell h 0).trans rfl, (blk_cell h 1).trans rfl, (blk_cell h 2).trans rfl, (blk_cell h 3).trans rfl, (blk_cell h 4).trans rfl, (blk_cell h 5).trans rfl, (blk_cell h 6).trans rfl, (blk_cell h 7).trans rfl, (blk_cell h 8).trans rfl, (blk_cell h 9).trans rfl, (blk_cell h 10).trans rfl, (blk_cell h 11).trans rfl, (blk_cell h 12).trans rfl, (blk_cell h 13).trans rfl, (blk_cell h 14).trans rfl, (blk_cell h 15).trans rfl, (blk_cell h 16).trans rfl⟩
end Go.Proofs.YtfdcldjoncednaaGreat.Ru
namespace Go.Proofs.YtfdcldjoncednaaGreat.M
open Go.RowKit Go.Proofs.YtfdcldjoncednaaGreatW.PrintWords Go.Proofs.YtfdcldjoncednaaGreatW.PrintLast Go.Proofs.YtfdcldjoncednaaGreatW.PrintMore
attribute [local go_sem] max2_int min2_int max_two min_two
set_option linter.unusedVariables false
set_option linter.unusedSimpArgs false
/-! ### rata_Of: function 48 -/
def rata_Of.f (a0 : Int) : Option (Bool) := if a0 ≥ 1 then (some (decide (a0 ≤ 3652059))) else (some false)
set_option maxHeartbeats 8000000 in
set_option maxRecDepth 100000 in
theorem rata_Of.calls (a0 : Int) (r : Bool) (w : World) (h : rata_Of.f a0 = some r) :
  Calls Tryz.prog 48 #[.int .i64 a0] w fun e w' => e = .returned (.bool r) ∧ Drawn0 w w' := by
 have H : (if a0 ≥ 1 then (some (decide (a0 ≤ 3652059))) else (some false)) = some r := h
 clear h
 by_cases c2 : a0 ≥ 1
 ·rw [if_pos c2] at H
  have c2b0 : decide (1 ≤ a0) = true := decide_eq_true c2
  clear c2
  obtain rfl := Option.some.inj H
  go_enter Tryz.func48, Tryz.ntmps48
  go_wp2
  go_ret
  exact ⟨by first | rfl | simp | simp [*] | simp [bne_nil_], by repeat (first | exact Drawn0.refl _ | apply Drawn0.step)⟩
 ·rw [if_neg c2] at H
  have c2b0 : decide (1 ≤ a0) = false := decide_eq_false c2
  clear c2
  obtain rfl := Option.some.inj H
  go_enter Tryz.func48, Tryz.ntmps48
  go_wp2
  go_ret
  exact ⟨by first | rfl | simp | simp [*] | simp [bne_nil_], by repeat (first | exact Drawn0.refl _ | apply Drawn0.step)⟩

/-! ### rata_Floor: function 95 -/
def rata_Floor.f (a0 : Int) (a1 : Int) : Option (Int) := if a1 = 0 then (none) else (if (Int.tmod a0 a1) = 0 then (some (wrap64 (Int.tdiv a0 a1))) else (if ((decide (a0 < 0)) != (decide (a1 < 0))) = true then (some (wrap64 ((wrap64 (Int.tdiv a0 a1)) - 1))) else (some (wrap64 (Int.tdiv a0 a1)))))
set_option maxHeartbeats 8000000 in
set_option maxRecDepth 100000 in
theorem rata_Floor.calls (a0 : Int) (a1 : Int) (r : Int) (w : World) (h : rata_Floor.f a0 a1 = some r) :
  Calls Tryz.prog 95 #[.int .i64 a0, .int .i64 a1] w fun e w' => e = .returned (.int .i64 r) ∧ Drawn0 w w' := by
 have H : (if a1 = 0 then (none) else (if (Int.tmod a0 a1) = 0 then (some (wrap64 (Int.tdiv a0 a1))) else (if ((decide (a0 < 0)) != (decide (a1 < 0))) = true then (some (wrap64 ((wrap64 (Int.tdiv a0 a1)) - 1))) else (some (wrap64 (Int.tdiv a0 a1)))))) = some r := h
 clear h
 by_cases c3 : a1 = 0
 ·rw [if_pos c3] at H
  exact absurd H (by simp)
 ·rw [if_neg c3] at H
  have c3b0 : (a1 == 0) = false := beq_eq_false_iff_ne.mpr c3
  have c3b1 : (a1 != 0) = true := bne_iff_ne.mpr c3
  by_cases c4 : (Int.tmod a0 a1) = 0
  ·rw [if_pos c4] at H
   have c4b0 : ((Int.tmod a0 a1) == 0) = true := beq_iff_eq.mpr c4
   have c4b1 : ((Int.tmod a0 a1) != 0) = false := bne_eq_false_iff_eq.mpr c4
   clear c4
   obtain rfl := Option.some.inj H
   go_enter Tryz.func95, Tryz.ntmps95
   go_wp2
   go_ret
   exact ⟨by first | rfl | simp | simp [*] | simp [bne_nil_], by repeat (first | exact Drawn0.refl _ | apply Drawn0.step)⟩
  ·rw [if_neg c4] at H
   have c4b0 : ((Int.tmod a0 a1) == 0) = false := beq_eq_false_iff_ne.mpr c4
   have c4b1 : ((Int.tmod a0 a1) != 0) = true := bne_iff_ne.mpr c4
   by_cases c5 : ((decide (a0 < 0)) != (decide (a1 < 0))) = true
   ·rw [if_pos c5] at H
    have c5b0 : ((decide (a0 < 0)) != (decide (a1 < 0))) = true := c5
    (try (have c5b1 : decide ((decide (a0 < 0)) = (decide (a1 < 0))) = false := by simpa using c5))
    (try (have c5b2 : ((decide (a0 < 0)) == (decide (a1 < 0))) = false := by simpa using c5))
    (try (have c5b3 : ¬ ((decide (a0 < 0)) = (decide (a1 < 0))) := by simpa using c5))
    clear c5
    obtain rfl := Option.some.inj H
    go_enter Tryz.func95, Tryz.ntmps95
    go_wp2
    go_ret
    exact ⟨by first | rfl | simp | simp [*] | simp [bne_nil_], by repeat (first | exact Drawn0.refl _ | apply Drawn0.step)⟩
   ·rw [if_neg c5] at H
    have c5b0 : ((decide (a0 < 0)) != (decide (a1 < 0))) = false := by simpa using c5
    (try (have c5b1 : decide ((decide (a0 < 0)) = (decide (a1 < 0))) = true := by simpa using c5))
    (try (have c5b2 : ((decide (a0 < 0)) == (decide (a1 < 0))) = true := by simpa using c5))
    clear c5
    obtain rfl := Option.some.inj H
    go_enter Tryz.func95, Tryz.ntmps95
    go_wp2
    go_ret
    exact ⟨by first | rfl | simp | simp [*] | simp [bne_nil_], by repeat (first | exact Drawn0.refl _ | apply Drawn0.step)⟩

/-! ### rata_Mod: function 92 -/
def rata_Mod.f (a0 : Int) (a1 : Int) : Option (Int) := (rata_Floor.f a0 a1).bind fun t137 => (some (wrap64 (a0 - (wrap64 (a1 * t137)))))
set_option maxHeartbeats 8000000 in
set_option maxRecDepth 100000 in
theorem rata_Mod.calls (a0 : Int) (a1 : Int) (r : Int) (w : World) (h : rata_Mod.f a0 a1 = some r) :
  Calls Tryz.prog 92 #[.int .i64 a0, .int .i64 a1] w fun e w' => e = .returned (.int .i64 r) ∧ Drawn0 w w' := by
 have H : ((rata_Floor.f a0 a1).bind fun t137 => (some (wrap64 (a0 - (wrap64 (a1 * t137)))))) = some r := h
 clear h
 replace H := Option.bind_eq_some_iff.mp H
 obtain ⟨t137, A30, H⟩ := H
 replace H : (some (wrap64 (a0 - (wrap64 (a1 * t137))))) = some r := H
 have A3 := Aside0.mk A30
 clear A30
 obtain rfl := Option.some.inj H
 go_enter Tryz.func92, Tryz.ntmps92
 go_wp2_with (first | ((with_reducible refine gate_callee (f := 95) rfl ?_); refine gm_ (some 9) Tryz.func95 #[.int .i64 a0, .int .i64 a1] ?_; (with_reducible refine (rata_Floor.calls a0 a1 t137 _ A3.out).mono ?_); rintro e w' ⟨rfl, ⟨nd, rfl⟩⟩; refine ⟨_, rfl, ?_⟩))
 go_ret
 exact ⟨by first | rfl | simp | simp [*] | simp [bne_nil_], by repeat (first | exact Drawn0.refl _ | apply Drawn0.step)⟩

/-! ### rata_ahead: function 94 -/
def rata_ahead.f (a0 : Int) : Option (Int) := (rata_Floor.f (wrap64 (a0 - 1)) 4).bind fun t140 => ((rata_Floor.f (wrap64 (a0 - 1)) 100).bind fun t141 => ((rata_Floor.f (wrap64 (a0 - 1)) 400).bind fun t142 => (some (wrap64 ((wrap64 ((wrap64 ((wrap64 (365 * (wrap64 (a0 - 1)))) + t140)) - t141)) + t142)))))
set_option maxHeartbeats 8000000 in
set_option maxRecDepth 100000 in
theorem rata_ahead.calls (a0 : Int) (r : Int) (w : World) (h : rata_ahead.f a0 = some r) :
  Calls Tryz.prog 94 #[.int .i64 a0] w fun e w' => e = .returned (.int .i64 r) ∧ Drawn0 w w' := by
 have H : ((rata_Floor.f (wrap64 (a0 - 1)) 4).bind fun t140 => ((rata_Floor.f (wrap64 (a0 - 1)) 100).bind fun t141 => ((rata_Floor.f (wrap64 (a0 - 1)) 400).bind fun t142 => (some (wrap64 ((wrap64 ((wrap64 ((wrap64 (365 * (wrap64 (a0 - 1)))) + t140)) - t141)) + t142)))))) = some r := h
 clear h
 replace H := Option.bind_eq_some_iff.mp H
 obtain ⟨t140, A20, H⟩ := H
 replace H : ((rata_Floor.f (wrap64 (a0 - 1)) 100).bind fun t141 => ((rata_Floor.f (wrap64 (a0 - 1)) 400).bind fun t142 => (some (wrap64 ((wrap64 ((wrap64 ((wrap64 (365 * (wrap64 (a0 - 1)))) + t140)) - t141)) + t142))))) = some r := H
 have A2 := Aside0.mk A20
 clear A20
 replace H := Option.bind_eq_some_iff.mp H
 obtain ⟨t141, A30, H⟩ := H
 replace H : ((rata_Floor.f (wrap64 (a0 - 1)) 400).bind fun t142 => (some (wrap64 ((wrap64 ((wrap64 ((wrap64 (365 * (wrap64 (a0 - 1)))) + t140)) - t141)) + t142)))) = some r := H
 have A3 := Aside0.mk A30
 clear A30
 replace H := Option.bind_eq_some_iff.mp H
 obtain ⟨t142, A40, H⟩ := H
 replace H : (some (wrap64 ((wrap64 ((wrap64 ((wrap64 (365 * (wrap64 (a0 - 1)))) + t140)) - t141)) + t142))) = some r := H
 have A4 := Aside0.mk A40
 clear A40
 obtain rfl := Option.some.inj H
 go_enter Tryz.func94, Tryz.ntmps94
 go_wp2_with (first | ((with_reducible refine gate_callee (f := 95) rfl ?_); refine gm_ (some 9) Tryz.func95 #[.int .i64 (wrap64 (a0 - 1)), .int .i64 4] ?_; (with_reducible refine (rata_Floor.calls (wrap64 (a0 - 1)) 4 t140 _ A2.out).mono ?_); rintro e w' ⟨rfl, ⟨nd, rfl⟩⟩; refine ⟨_, rfl, ?_⟩) | ((with_reducible refine gate_callee (f := 95) rfl ?_); refine gm_ (some 12) Tryz.func95 #[.int .i64 (wrap64 (a0 - 1)), .int .i64 100] ?_; (with_reducible refine (rata_Floor.calls (wrap64 (a0 - 1)) 100 t141 _ A3.out).mono ?_); rintro e w' ⟨rfl, ⟨nd, rfl⟩⟩; refine ⟨_, rfl, ?_⟩) | ((with_reducible refine gate_callee (f := 95) rfl ?_); refine gm_ (some 15) Tryz.func95 #[.int .i64 (wrap64 (a0 - 1)), .int .i64 400] ?_; (with_reducible refine (rata_Floor.calls (wrap64 (a0 - 1)) 400 t142 _ A4.out).mono ?_); rintro e w' ⟨rfl, ⟨nd, rfl⟩⟩; refine ⟨_, rfl, ?_⟩))
 go_ret
 exact ⟨by first | rfl | simp | simp [*] | simp [bne_nil_], by repeat (first | exact Drawn0.refl _ | apply Drawn0.step)⟩

/-! ### rata_Weekday: function 53 -/
def rata_Weekday.f (a0 : Int) : Option (Int) := (rata_Mod.f a0 7).bind fun t153 => (some t153)
set_option maxHeartbeats 8000000 in
set_option maxRecDepth 100000 in
theorem rata_Weekday.calls (a0 : Int) (r : Int) (w : World) (h : rata_Weekday.f a0 = some r) :
  Calls Tryz.prog 53 #[.int .i64 a0] w fun e w' => e = .returned (.int .i64 r) ∧ Drawn0 w w' := by
 have H : ((rata_Mod.f a0 7).bind fun t153 => (some t153)) = some r := h
 clear h
 replace H := Option.bind_eq_some_iff.mp H
 obtain ⟨t153, A20, H⟩ := H
 replace H : (some t153) = some r := H
 have A2 := Aside0.mk A20
 clear A20
 obtain rfl := Option.some.inj H
 go_enter Tryz.func53, Tryz.ntmps53
 go_wp2_with (first | ((with_reducible refine gate_callee (f := 92) rfl ?_); refine gm_ (some 4) Tryz.func92 #[.int .i64 a0, .int .i64 7] ?_; (with_reducible refine (rata_Mod.calls a0 7 t153 _ A2.out).mono ?_); rintro e w' ⟨rfl, ⟨nd, rfl⟩⟩; refine ⟨_, rfl, ?_⟩))
 go_ret
 exact ⟨by first | rfl | simp | simp [*] | simp [bne_nil_], by repeat (first | exact Drawn0.refl _ | apply Drawn0.step)⟩

/-! ### rata_Begins: function 56 -/
def rata_Begins.f (a0 : Int) : Option (Int) := (rata_ahead.f a0).bind fun t179 => (some (wrap64 (t179 + 1)))
set_option maxHeartbeats 8000000 in
set_option maxRecDepth 100000 in
theorem rata_Begins.calls (a0 : Int) (r : Int) (w : World) (h : rata_Begins.f a0 = some r) :
  Calls Tryz.prog 56 #[.int .i64 a0] w fun e w' => e = .returned (.int .i64 r) ∧ Drawn0 w w' := by
 have H : ((rata_ahead.f a0).bind fun t179 => (some (wrap64 (t179 + 1)))) = some r := h
 clear h
 replace H := Option.bind_eq_some_iff.mp H
 obtain ⟨t179, A20, H⟩ := H
 replace H : (some (wrap64 (t179 + 1))) = some r := H
 have A2 := Aside0.mk A20
 clear A20
 obtain rfl := Option.some.inj H
 go_enter Tryz.func56, Tryz.ntmps56
 go_wp2_with (first | ((with_reducible refine gate_callee (f := 94) rfl ?_); refine gm_ (some 4) Tryz.func94 #[.int .i64 a0] ?_; (with_reducible refine (rata_ahead.calls a0 t179 _ A2.out).mono ?_); rintro e w' ⟨rfl, ⟨nd, rfl⟩⟩; refine ⟨_, rfl, ?_⟩))
 go_ret
 exact ⟨by first | rfl | simp | simp [*] | simp [bne_nil_], by repeat (first | exact Drawn0.refl _ | apply Drawn0.step)⟩

/-! ### match_weekBegin: function 49 -/
def match_weekBegin.f (a0 : Int) (a1 : Int) : Option (Int) := (rata_Weekday.f a0).bind fun t167 => ((rata_Mod.f (wrap64 (t167 - a1)) 7).bind fun t168 => (some (wrap64 (a0 - t168))))
set_option maxHeartbeats 8000000 in
set_option maxRecDepth 100000 in
theorem match_weekBegin.calls (a0 : Int) (a1 : Int) (r : Int) (w : World) (h : match_weekBegin.f a0 a1 = some r) :
  Calls Tryz.prog 49 #[.int .i64 a0, .int .i64 a1] w fun e w' => e = .returned (.int .i64 r) ∧ Drawn0 w w' := by
 have H : ((rata_Weekday.f a0).bind fun t167 => ((rata_Mod.f (wrap64 (t167 - a1)) 7).bind fun t168 => (some (wrap64 (a0 - t168))))) = some r := h
 clear h
 replace H := Option.bind_eq_some_iff.mp H
 obtain ⟨t167, A30, H⟩ := H
 replace H : ((rata_Mod.f (wrap64 (t167 - a1)) 7).bind fun t168 => (some (wrap64 (a0 - t168)))) = some r := H
 have A3 := Aside0.mk A30
 clear A30
 replace H := Option.bind_eq_some_iff.mp H
 obtain ⟨t168, A40, H⟩ := H
 replace H : (some (wrap64 (a0 - t168))) = some r := H
 have A4 := Aside0.mk A40
 clear A40
 obtain rfl := Option.some.inj H
 go_enter Tryz.func49, Tryz.ntmps49
 go_wp2_with (first | ((with_reducible refine gate_callee (f := 53) rfl ?_); refine gm_ (some 7) Tryz.func53 #[.int .i64 a0] ?_; (with_reducible refine (rata_Weekday.calls a0 t167 _ A3.out).mono ?_); rintro e w' ⟨rfl, ⟨nd, rfl⟩⟩; refine ⟨_, rfl, ?_⟩) | ((with_reducible refine gate_callee (f := 92) rfl ?_); refine gm_ (some 10) Tryz.func92 #[.int .i64 (wrap64 (t167 - a1)), .int .i64 7] ?_; (with_reducible refine (rata_Mod.calls (wrap64 (t167 - a1)) 7 t168 _ A4.out).mono ?_); rintro e w' ⟨rfl, ⟨nd, rfl⟩⟩; refine ⟨_, rfl, ?_⟩))
 go_ret
 exact ⟨by first | rfl | simp | simp [*] | simp [bne_nil_], by repeat (first | exact Drawn0.refl _ | apply Drawn0.step)⟩

/-! ### slices_Index_int_int: function 105 -/
def slices_Index_int_int.l0 : Nat → List Int → Int → Int → Int → Option (Int)
 | 0, _, _, _, _ => none
 | k + 1, x0, x1, x7, x8 => if x8 < x7 then (if 0 ≤ x8 then (if x8 < (x0.length : Int) then (if x1 = (rd x0 x8) then (some x8) else (slices_Index_int_int.l0 k x0 x1 x7 (wrap64 (x8 + 1)))) else (none)) else (none)) else (some (-1))
def slices_Index_int_int.f (k : Nat) (l0 : List Int) (a1 : Int) : Option (Int) := slices_Index_int_int.l0 k l0 a1 (l0.length : Int) 0
set_option maxHeartbeats 8000000 in
set_option maxRecDepth 100000 in
theorem slices_Index_int_int.calls (k : Nat) (A0 : Option Addr) (c0 : Nat) (l0 : List Int) (a1 : Int) (r : Int) (w : World) (hr0 : Kd.C (Kd.int .i64) w A0 l0.length l0) (hc0 : l0.length ≤ c0) (h : slices_Index_int_int.f k l0 a1 = some r) :
  Calls Tryz.prog 105 #[.slice A0 l0.length c0, .int .i64 a1] w fun e w' => e = .returned (.int .i64 r) ∧ Drawn0 w w' := by
 have HR0 := Aside0.mk hr0
 have HC0 := Aside0.mk hc0
 clear hr0 hc0
 have H : (slices_Index_int_int.l0 k l0 a1 (l0.length : Int) 0) = some r := h
 clear h
 have H' := Aside0.mk H
 clear H
 go_enter Tryz.func105, Tryz.ntmps105
 go_wp2
 go_loopg [8] k (fun kq v8 w' => ∃ (x8_1 : Int), v8 = .int .i64 x8_1 ∧ Aside0 (slices_Index_int_int.l0 kq l0 a1 (l0.length : Int) x8_1 = some r) ∧ Aside0 (kq ≤ k) ∧ Drawn0 w w')
 case atStart => exact ⟨(0), (by first | rfl | (simp; done) | (simp [*]; done)), H', ⟨Nat.le_refl _⟩, by repeat (first | exact Drawn0.refl _ | apply Drawn0.step)⟩
 case round =>
  clear H'
  try clear c1
  try clear p2
  obtain ⟨x8_1, rfl, HA, HK1, ⟨m1, rfl⟩⟩ := hrel
  cases gk with
  | zero => exact absurd HA.out (by simp [slices_Index_int_int.l0])
  | succ k1 =>
   have H := HA.out
   clear HA
   simp only [slices_Index_int_int.l0] at H
   by_cases c3 : x8_1 < (l0.length : Int)
   ·rw [if_pos c3] at H
    have c3b0 : decide (x8_1 < (l0.length : Int)) = true := decide_eq_true c3
    clear c3
    by_cases c4 : 0 ≤ x8_1
    ·rw [if_pos c4] at H
     have c4b0 : decide (0 ≤ x8_1) = true := decide_eq_true c4
     clear c4
     by_cases c5 : x8_1 < (l0.length : Int)
     ·rw [if_pos c5] at H
      have c5b0 : decide (x8_1 < (l0.length : Int)) = true := decide_eq_true c5
      clear c5
      by_cases c6 : a1 = (rd l0 x8_1)
      ·rw [if_pos c6] at H
       have c6b0 : (a1 == (rd l0 x8_1)) = true := beq_iff_eq.mpr c6
       have c6b1 : (a1 != (rd l0 x8_1)) = false := bne_eq_false_iff_eq.mpr c6
       clear c6
       obtain rfl := Option.some.inj H
       have p174 : 0 ≤ (x8_1 : Int) := of_decide_eq_true (by first | (with_reducible assumption) | assumption)
       have q174 : x8_1 < (l0.length : Int) := of_decide_eq_true (by first | (with_reducible assumption) | assumption)
       obtain ⟨ad174, e174, hx174_0⟩ := Kd.at_int HR0.out x8_1 p174 q174
       cases e174
       replace p174 := eq_true p174
       replace q174 := eq_true q174
       go_wp2
       go_ret
       exact ⟨by first | rfl | simp | simp [*] | simp [bne_nil_], by repeat (first | exact Drawn0.refl _ | apply Drawn0.step)⟩
      ·rw [if_neg c6] at H
       have c6b0 : (a1 == (rd l0 x8_1)) = false := beq_eq_false_iff_ne.mpr c6
       have c6b1 : (a1 != (rd l0 x8_1)) = true := bne_iff_ne.mpr c6
       have H' := Aside0.mk H
       clear H
       have p174 : 0 ≤ (x8_1 : Int) := of_decide_eq_true (by first | (with_reducible assumption) | assumption)
       have q174 : x8_1 < (l0.length : Int) := of_decide_eq_true (by first | (with_reducible assumption) | assumption)
       obtain ⟨ad174, e174, hx174_0⟩ := Kd.at_int HR0.out x8_1 p174 q174
       cases e174
       replace p174 := eq_true p174
       replace q174 := eq_true q174
       go_wp2
       go_roundg k1
       case measure => have := HK1.out; omega
       case rel => exact ⟨(wrap64 (x8_1 + 1)), (by first | rfl | (simp; done) | (simp [*]; done)), H', ⟨by have := HK1.out; omega⟩, by repeat (first | exact Drawn0.refl _ | apply Drawn0.step)⟩
     ·rw [if_neg c5] at H
      exact absurd H (by simp)
    ·rw [if_neg c4] at H
     exact absurd H (by simp)
   ·rw [if_neg c3] at H
    have c3b0 : decide (x8_1 < (l0.length : Int)) = false := decide_eq_false c3
    clear c3
    obtain rfl := Option.some.inj H
    go_wp2
    go_ret
    exact ⟨by first | rfl | simp | simp [*] | simp [bne_nil_], by repeat (first | exact Drawn0.refl _ | apply Drawn0.step)⟩

/-! ### slices_Contains_int_int: function 82 -/
def slices_Contains_int_int.f (k : Nat) (l0 : List Int) (a1 : Int) : Option (Bool) := (slices_Index_int_int.f k l0 a1).bind fun t175 => (some (decide (t175 ≥ 0)))
set_option maxHeartbeats 8000000 in
set_option maxRecDepth 100000 in
theorem slices_Contains_int_int.calls (k : Nat) (A0 : Option Addr) (c0 : Nat) (l0 : List Int) (a1 : Int) (r : Bool) (w : World) (hr0 : Kd.C (Kd.int .i64) w A0 l0.length l0) (hc0 : l0.length ≤ c0) (h : slices_Contains_int_int.f k l0 a1 = some r) :
  Calls Tryz.prog 82 #[.slice A0 l0.length c0, .int .i64 a1] w fun e w' => e = .returned (.bool r) ∧ Drawn0 w w' := by
 have HR0 := Aside0.mk hr0
 have HC0 := Aside0.mk hc0
 clear hr0 hc0
 have H : ((slices_Index_int_int.f k l0 a1).bind fun t175 => (some (decide (t175 ≥ 0)))) = some r := h
 clear h
 replace H := Option.bind_eq_some_iff.mp H
 obtain ⟨t175, A30, H⟩ := H
 replace H : (some (decide (t175 ≥ 0))) = some r := H
 have A3 := Aside0.mk A30
 clear A30
 obtain rfl := Option.some.inj H
 go_enter Tryz.func82, Tryz.ntmps82
 go_wp2_with (first | ((with_reducible refine gate_callee (f := 105) rfl ?_); refine gm_ (some 7) Tryz.func105 #[.slice A0 l0.length c0, .int .i64 a1] ?_; (with_reducible refine (slices_Index_int_int.calls k _ _ l0 a1 t175 _ ?side1 ?side2 A3.out).mono ?_); (case side1 => repeat (first | exact HR0.out | (with_reducible refine Kd.C_alloc ?_ _) | (with_reducible refine Kd.C_drewN ?_ _) | (with_reducible refine Kd.C_drew ?_))); (case side2 => exact HC0.out); rintro e w' ⟨rfl, ⟨nd, rfl⟩⟩; refine ⟨_, rfl, ?_⟩))
 go_ret
 exact ⟨by first | rfl | simp | simp [*] | simp [bne_nil_], by repeat (first | exact Drawn0.refl _ | apply Drawn0.step)⟩

/-! ### match_place_in: function 84 -/
def match_place_in.f (k : Nat) (a0_0 : Int) (a0_1 : Int) (l1 : List Int) : Option (Bool) := (slices_Contains_int_int.f k l1 a0_0).bind fun t177 => (if t177 = true then (some true) else ((slices_Contains_int_int.f k l1 (wrap64 ((wrap64 (a0_0 - a0_1)) - 1))).bind fun t178 => (some t178)))
set_option maxHeartbeats 8000000 in
set_option maxRecDepth 100000 in
theorem match_place_in.calls (k : Nat) (a0_0 : Int) (a0_1 : Int) (A1 : Option Addr) (c1 : Nat) (l1 : List Int) (r : Bool) (w : World) (hr1 : Kd.C (Kd.int .i64) w A1 l1.length l1) (hc1 : l1.length ≤ c1) (h : match_place_in.f k a0_0 a0_1 l1 = some r) :
  Calls Tryz.prog 84 #[.agg #[.int .i64 a0_0, .int .i64 a0_1], .slice A1 l1.length c1] w fun e w' => e = .returned (.bool r) ∧ Below w.heap.size w w' := by
 have hu63 := Tryz.underlying63
 have HR1 := Aside0.mk hr1
 have HC1 := Aside0.mk hc1
 clear hr1 hc1
 have HB := Aside0.mk (Below.refl w.heap.size w)
 have H : ((slices_Contains_int_int.f k l1 a0_0).bind fun t177 => (if t177 = true then (some true) else ((slices_Contains_int_int.f k l1 (wrap64 ((wrap64 (a0_0 - a0_1)) - 1))).bind fun t178 => (some t178)))) = some r := h
 clear h
 replace H := Option.bind_eq_some_iff.mp H
 obtain ⟨t177, A30, H⟩ := H
 replace H : (if t177 = true then (some true) else ((slices_Contains_int_int.f k l1 (wrap64 ((wrap64 (a0_0 - a0_1)) - 1))).bind fun t178 => (some t178))) = some r := H
 have A3 := Aside0.mk A30
 clear A30
 by_cases c4 : t177 = true
 ·subst c4
  have H1 : (some true) = some r := by rw [if_pos rfl] at H; exact H
  clear H
  have H := H1
  clear H1
  obtain rfl := Option.some.inj H
  go_enter Tryz.func84, Tryz.ntmps84
  go_wp2_with (first | ((with_reducible refine gate_dst (N := 2) rfl ?_); refine box_event ?hg (N := 2) ?hd (cs := #[.int .i64 a0_0, .int .i64 a0_1]) (t := 63) ?hr ?_; (case hd => rfl); (case hg => rfl); (case hr => first | (go_simp; done) | (go_simp; rfl)); intro gb176 hg w5 hbox hb; have n0_ := Aside0.mk (below_step (by repeat (first | (with_reducible first | exact HB.out | apply below_alloc | apply pw_below_drewN | apply below_drew1) | exact HB.out)) hb); have n1_ := Aside0.mk (hbox); have n2_ := Aside0.mk ((by rw [hg]; exact (below_size (by repeat (first | (with_reducible first | exact HB.out | apply below_alloc | apply pw_below_drewN | apply below_drew1) | exact HB.out))) : w.heap.size ≤ gb176)); have n3_ := Aside0.mk ((by rw [hg]; exact (below_size (by repeat (first | (with_reducible first | exact HB.out | apply below_alloc | apply pw_below_drewN | apply below_drew1) | exact HB.out))) : w.heap.size ≤ gb176)); clear HB; have HB := n0_; have BK176 := n1_; have GW176 := n2_; have GE176 := n3_; clear n0_ n1_ n2_ n3_; clear hb hbox hg; have hcz6_0 : w5.cell? ⟨gb176, 0, none⟩ = some (.int .i64 a0_0) := (blk_cell BK176.out 0).trans rfl; have hcz6_1 : w5.cell? ⟨gb176, 1, none⟩ = some (.int .i64 a0_1) := (blk_cell BK176.out 1).trans rfl; have hfz6_0 := blk_frozen BK176.out 0; have hfz6_1 := blk_frozen BK176.out 1) | ((with_reducible refine gate_callee (f := 82) rfl ?_); refine gm_ (some 8) Tryz.func82 #[.slice A1 l1.length c1, .int .i64 a0_0] ?_; (with_reducible refine (slices_Contains_int_int.calls k _ _ l1 a0_0 true _ ?side1 ?side2 A3.out).mono ?_); (case side1 => repeat (first | exact (Kd.C_below HR1.out HB.out) | (with_reducible refine Kd.C_alloc ?_ _) | (with_reducible refine Kd.C_drewN ?_ _) | (with_reducible refine Kd.C_drew ?_))); (case side2 => exact HC1.out); rintro e w' ⟨rfl, ⟨nd, rfl⟩⟩; refine ⟨_, rfl, ?_⟩))
  go_ret
  exact ⟨by first | rfl | (simp [i64_w]; done) | (simp [errW_none, errW_some] <;> rfl) | (simp [*, errW_none, errW_some] <;> rfl), by repeat (first | (with_reducible first | exact HB.out | apply below_alloc | apply pw_below_drewN | apply below_drew1 | refine below_set ?_ GE176.out) | exact HB.out)⟩
 ·replace c4 := Bool.eq_false_iff.mpr c4
  subst c4
  have H1 : ((slices_Contains_int_int.f k l1 (wrap64 ((wrap64 (a0_0 - a0_1)) - 1))).bind fun t178 => (some t178)) = some r := by rw [if_neg (show ¬ (false = true) by decide)] at H; exact H
  clear H
  have H := H1
  clear H1
  replace H := Option.bind_eq_some_iff.mp H
  obtain ⟨t178, A70, H⟩ := H
  replace H : (some t178) = some r := H
  have A7 := Aside0.mk A70
  clear A70
  obtain rfl := Option.some.inj H
  go_enter Tryz.func84, Tryz.ntmps84
  go_wp2_with (first | ((with_reducible refine gate_dst (N := 2) rfl ?_); refine box_event ?hg (N := 2) ?hd (cs := #[.int .i64 a0_0, .int .i64 a0_1]) (t := 63) ?hr ?_; (case hd => rfl); (case hg => rfl); (case hr => first | (go_simp; done) | (go_simp; rfl)); intro gb176 hg w8 hbox hb; have n0_ := Aside0.mk (below_step (by repeat (first | (with_reducible first | exact HB.out | apply below_alloc | apply pw_below_drewN | apply below_drew1) | exact HB.out)) hb); have n1_ := Aside0.mk (hbox); have n2_ := Aside0.mk ((by rw [hg]; exact (below_size (by repeat (first | (with_reducible first | exact HB.out | apply below_alloc | apply pw_below_drewN | apply below_drew1) | exact HB.out))) : w.heap.size ≤ gb176)); have n3_ := Aside0.mk ((by rw [hg]; exact (below_size (by repeat (first | (with_reducible first | exact HB.out | apply below_alloc | apply pw_below_drewN | apply below_drew1) | exact HB.out))) : w.heap.size ≤ gb176)); clear HB; have HB := n0_; have BK176 := n1_; have GW176 := n2_; have GE176 := n3_; clear n0_ n1_ n2_ n3_; clear hb hbox hg; have hcz9_0 : w8.cell? ⟨gb176, 0, none⟩ = some (.int .i64 a0_0) := (blk_cell BK176.out 0).trans rfl; have hcz9_1 : w8.cell? ⟨gb176, 1, none⟩ = some (.int .i64 a0_1) := (blk_cell BK176.out 1).trans rfl; have hfz9_0 := blk_frozen BK176.out 0; have hfz9_1 := blk_frozen BK176.out 1) | ((with_reducible refine gate_callee (f := 82) rfl ?_); refine gm_ (some 8) Tryz.func82 #[.slice A1 l1.length c1, .int .i64 a0_0] ?_; (with_reducible refine (slices_Contains_int_int.calls k _ _ l1 a0_0 false _ ?side1 ?side2 A3.out).mono ?_); (case side1 => repeat (first | exact (Kd.C_below HR1.out HB.out) | (with_reducible refine Kd.C_alloc ?_ _) | (with_reducible refine Kd.C_drewN ?_ _) | (with_reducible refine Kd.C_drew ?_))); (case side2 => exact HC1.out); rintro e w' ⟨rfl, ⟨nd, rfl⟩⟩; refine ⟨_, rfl, ?_⟩) | (go_at_call 82; (with_reducible refine (slices_Contains_int_int.calls k _ _ l1 (wrap64 ((wrap64 (a0_0 - a0_1)) - 1)) t178 _ ?side1 ?side2 A7.out).mono ?_); (case side1 => repeat (first | exact (Kd.C_below HR1.out (by repeat (first | (with_reducible first | exact HB.out | apply below_alloc | apply pw_below_drewN | apply below_drew1 | refine below_set ?_ GE176.out) | exact HB.out))) | (with_reducible refine Kd.C_alloc ?_ _) | (with_reducible refine Kd.C_drewN ?_ _) | (with_reducible refine Kd.C_drew ?_))); (case side2 => exact HC1.out); rintro e w' ⟨rfl, ⟨nd, rfl⟩⟩))
  go_ret
  exact ⟨by first | rfl | (simp [i64_w]; done) | (simp [errW_none, errW_some] <;> rfl) | (simp [*, errW_none, errW_some] <;> rfl), by repeat (first | (with_reducible first | exact HB.out | apply below_alloc | apply pw_below_drewN | apply below_drew1 | refine below_set ?_ GE176.out) | exact HB.out)⟩

end Go.Proofs.YtfdcldjoncednaaGreat.M
/- match.onDay: is a day one of the rule's weekdays? (slices.ContainsFunc with a function that has caught two variables.) -/
namespace Go.Proofs.YtfdcldjoncednaaGreat.MatD
open Go.RowKit Go.Proofs.YtfdcldjoncednaaGreatW.PrintWords Go.Proofs.YtfdcldjoncednaaGreatW.PrintLast Go.Proofs.YtfdcldjoncednaaGreatW.PrintMore Go.Proofs.YtfdcldjoncednaaGreat.M Go.Proofs.YtfdcldjoncednaaGreat.Ru
set_option linter.unusedVariables false
set_option linter.unusedSimpArgs false
/-- What a day is (match.facts): day, date, weekday, its place in its month and in its year. -/
structure Fa where
 day : Int
 y : Int
 m : Int
 d : Int
 wd : Int
 mn : Int
 mo : Int
 yn : Int
 yo : Int
abbrev fa (x : Fa) : Array Value := #[.int .i64 x.day, .int .i64 x.y, .int .i64 x.m, .int .i64 x.d, .int .i64 x.wd, .int .i64 x.mn, .int .i64 x.mo, .int .i64 x.yn, .int .i64 x.yo]
abbrev fobj (x : Fa) : Obj := .cells (fa x) 65 (0, 0)
abbrev pobj (n o : Int) : Obj := .cells #[.int .i64 n, .int .i64 o] 63 (0, 0)
abbrev wdv (l : List S80) (j : Int) : S80 := rd_T80 l j
/-- Does a weekday of the rule's mean the day? (rn, ro: the row's place.) -/
def hit (x : Fa) (o : Int → Bool) (e : S80) : Bool := (e.f1 == x.wd) && ((e.f0 == 0) || o e.f0)
/-- Is a day the k-th of its weekdays, in a row? -/
def ordF (n o k : Int) : Bool := ((n - 1) / 7 + 1 == k) || (-((o - n) / 7 + 1) == k)
set_option maxHeartbeats 4000000 in
set_option maxRecDepth 100000 in
theorem ordinal (n o k : Int) (w : World) (h1 : 1 ≤ n) (h2 : n ≤ o) (h3 : o ≤ 400) :
  Calls Tryz.prog 110 #[.agg #[.int .i64 n, .int .i64 o], .int .i64 k] w fun e w' => e = .returned (.bool (ordF n o k)) ∧ Below w.heap.size w w' := by
 have HB := Aside0.mk (below_alloc (Below.refl w.heap.size w) (.cells #[.int .i64 n, .int .i64 o] 63 (0, 0)))
 unfold ordF
 obtain ⟨x, hx⟩ : ∃ x, x = (n - 1) / 7 + 1 := ⟨_, rfl⟩
 obtain ⟨y, hy⟩ : ∃ y, y = -((o - n) / 7 + 1) := ⟨_, rfl⟩
 have X := Aside0.mk hx
 have Y := Aside0.mk hy
 have e0 : wrap64 (n - 1) = n - 1 := by unfold wrap64; omega
 have e1 : Int.tdiv (n - 1) 7 = (n - 1) / 7 := Int.tdiv_eq_ediv_of_nonneg (by omega)
 have e2 : wrap64 ((n - 1) / 7) = (n - 1) / 7 := by unfold wrap64; omega
 have e3 : wrap64 ((n - 1) / 7 + 1) = x := by rw [hx]; unfold wrap64; omega
 have e4 : wrap64 (o - n) = o - n := by unfold wrap64; omega
 have e5 : Int.tdiv (o - n) 7 = (o - n) / 7 := Int.tdiv_eq_ediv_of_nonneg (by omega)
 obtain ⟨z, hz⟩ : ∃ z, z = (o - n) / 7 + 1 := ⟨_, rfl⟩
 have e6 : wrap64 ((o - n) / 7) = (o - n) / 7 := by unfold wrap64; omega
 have e7 : wrap64 ((o - n) / 7 + 1) = z := by rw [hz]; unfold wrap64; omega
 have e8 : wrap64 (-z) = y := by rw [hy, ← hz]; unfold wrap64; omega
 clear hx hy hz h1 h2 h3
 rw [← X.out, ← Y.out]
 by_cases a : x = k
 ·have a1 : (x == k) = true := beq_iff_eq.2 a
  have A := Aside0.mk a1
  clear a
  go_enter Tryz.func110, Tryz.ntmps110
  go_wp2_with fail
  go_ret
  exact ⟨by rw [A.out] <;> rfl, HB.out⟩
 ·have a1 : (x == k) = false := beq_eq_false_iff_ne.2 a
  have A := Aside0.mk a1
  clear a
  go_enter Tryz.func110, Tryz.ntmps110
  go_wp2_with fail
  go_ret
  exact ⟨by rw [A.out] <;> rfl, HB.out⟩
set_option maxHeartbeats 4000000 in
set_option maxRecDepth 100000 in
theorem one (x : Fa) (rn ro : Int) (h1 : 1 ≤ rn) (h2 : rn ≤ ro) (h3 : ro ≤ 400) (F G : Nat) (e : S80) (w : World) (hF : w.heap[F]? = some (fobj x)) (hG : w.heap[G]? = some (pobj rn ro)) :
  Calls Tryz.prog 109 #[.agg #[.int .i64 e.f0, .int .i64 e.f1], .pointer (some ⟨F, 0, none⟩), .pointer (some ⟨G, 0, none⟩)] w fun r w' => r = .returned (.bool (hit x (ordF rn ro) e)) ∧ Below w.heap.size w w' := by
 have HN := Aside0.mk (And.intro h1 (And.intro h2 h3)); clear h1 h2 h3
 have hb0 := below_alloc (Below.refl w.heap.size w) (.cells #[.int .i64 e.f0, .int .i64 e.f1] 80 (0, 0))
 have HB := Aside0.mk hb0
 have kf := (blk_cell (blk_below hF hb0) 4).trans rfl
 have k0 := (blk_cell (blk_below hG hb0) 0).trans rfl
 have k1 := (blk_cell (blk_below hG hb0) 1).trans rfl
 clear hF hG hb0
 unfold hit
 by_cases a : e.f1 = x.wd
 ·have a1 : (e.f1 == x.wd) = true := beq_iff_eq.2 a
  have A := Aside0.mk a1
  clear a
  by_cases b : e.f0 = 0
  ·have b1 : (e.f0 == 0) = true := beq_iff_eq.2 b
   have B := Aside0.mk b1
   clear b
   go_enter Tryz.func109, Tryz.ntmps109
   go_wp2_with fail
   go_ret
   exact ⟨by rw [A.out, B.out] <;> rfl, HB.out⟩
  ·have b1 : (e.f0 == 0) = false := beq_eq_false_iff_ne.2 b
   have B := Aside0.mk b1
   clear b
   go_enter Tryz.func109, Tryz.ntmps109
   go_wp2_with fail
   refine (ordinal rn ro e.f0 _ HN.out.1 HN.out.2.1 HN.out.2.2).mono ?_
   rintro e1 w1 ⟨rfl, hb⟩
   have HB2 := Aside0.mk (below_then HB.out HB.out.size hb)
   clear hb
   generalize hov : ordF rn ro e.f0 = ov
   have OV := Aside0.mk hov
   clear hov
   cases ov with
   | true =>
    go_wp2_with fail
    go_ret
    exact ⟨by rw [A.out, B.out, OV.out] <;> rfl, HB2.out⟩
   | false =>
    go_wp2_with fail
    go_ret
    exact ⟨by rw [A.out, B.out, OV.out] <;> rfl, HB2.out⟩
 ·have a1 : (e.f1 == x.wd) = false := beq_eq_false_iff_ne.2 a
  have A := Aside0.mk a1
  clear a
  go_enter Tryz.func109, Tryz.ntmps109
  go_wp2_with fail
  go_ret
  exact ⟨by rw [A.out] <;> rfl, HB.out⟩
abbrev fv (F G : Nat) : Value := .func (.func 109) #[] #[.pointer (some ⟨F, 0, none⟩), .pointer (some ⟨G, 0, none⟩)]
set_option maxHeartbeats 4000000 in
set_option maxRecDepth 100000 in
theorem idx (x : Fa) (rn ro : Int) (h1 : 1 ≤ rn) (h2 : rn ≤ ro) (h3 : ro ≤ 400) (F G : Nat) (A : Option Addr) (c : Nat) (l : List S80) (w : World) (hC : Kd.C k80 w A l.length l) (hF : w.heap[F]? = some (fobj x)) (hG : w.heap[G]? = some (pobj rn ro)) :
  Calls Tryz.prog 123 #[.slice A l.length c, fv F G] w fun e w' => ∃ i : Int, e = .returned (.int .i64 i) ∧ (0 ≤ i ↔ ∃ j : Nat, j < l.length ∧ hit x (ordF rn ro) (wdv l (j : Int)) = true) ∧ Below w.heap.size w w' := by
 have HR := Aside0.mk hC
 have HL := Aside0.mk hC.2.1
 have HN := Aside0.mk (And.intro h1 (And.intro h2 h3)); clear h1 h2 h3
 have HF := Aside0.mk hF
 have HG := Aside0.mk hG
 clear hC hF hG
 go_enter Tryz.func123, Tryz.ntmps123
 go_wp2_with fail
 go_loopg [8] l.length (fun kq v w' => ∃ (i : Nat) (z : Int), v = .int .i64 z ∧ Aside0 (z = (i : Int)) ∧ Aside0 (i + kq = l.length) ∧ Aside0 (∀ j : Nat, j < i → hit x (ordF rn ro) (wdv l (j : Int)) = false) ∧ Aside0 (Below w.heap.size w w'))
 case atStart => exact ⟨0, 0, rfl, ⟨rfl⟩, ⟨by omega⟩, ⟨fun j hj => by omega⟩, ⟨Below.refl _ _⟩⟩
 case round =>
  obtain ⟨i, z, rfl, HX, HI, HU, HB⟩ := hrel
  cases gk with
  | zero =>
   have l1 : decide (z < (l.length : Int)) = false := decide_eq_false (by have := HX.out; have := HI.out; omega)
   go_wp2_with fail
   go_ret
   exact ⟨-1, rfl, ⟨fun h => by omega, fun ⟨j, h1, h2⟩ => absurd h2 (by rw [HU.out j (by have := HI.out; omega)]; simp)⟩, HB.out⟩
  | succ k1 =>
   have l1 : decide (z < (l.length : Int)) = true := decide_eq_true (by have := HX.out; have := HI.out; omega)
   have p1 : (0 ≤ z) = True := eq_true (by have := HX.out; omega)
   have q1 : (z < (l.length : Int)) = True := eq_true (by have := HX.out; have := HI.out; omega)
   obtain ⟨ad, eA, h0, h1⟩ := at_T80 HR.out z (by have := HX.out; omega) (by have := HX.out; have := HI.out; omega)
   replace h0 := pw_cell_below HB.out h0
   replace h1 := pw_cell_below HB.out h1
   subst eA
   go_wp2_with fail
   refine (one x rn ro HN.out.1 HN.out.2.1 HN.out.2.2 F G (wdv l z) wr (blk_below HF.out HB.out) (blk_below HG.out HB.out)).mono ?_
   rintro e w2 ⟨rfl, hB⟩
   have B2 := Aside0.mk (below_then HB.out HB.out.size hB)
   clear hB h0 h1 HB
   cases m : hit x (ordF rn ro) (wdv l z) with
   | false =>
    have HM := Aside0.mk m
    clear m
    go_wp2_with fail
    go_roundg k1
    case measure => omega
    case rel => exact ⟨i + 1, _, rfl, ⟨by have := HX.out; have := HL.out; have := HI.out; unfold wrap64; omega⟩, ⟨by have := HI.out; omega⟩, ⟨fun j hj => by
     by_cases e : j = i
     ·subst e; rw [← HX.out]; exact HM.out
     ·exact HU.out j (by omega)⟩, B2⟩
   | true =>
    have HM := Aside0.mk m
    clear m
    go_wp2_with fail
    go_ret
    exact ⟨z, rfl, ⟨fun _ => ⟨i, by have := HI.out; omega, by rw [← HX.out]; exact HM.out⟩, fun _ => by have := HX.out; omega⟩, B2.out⟩
/-- Does one of the weekdays mean the day? -/
def anyHit (x : Fa) (rn ro : Int) (l : List S80) : Bool := (List.range l.length).any fun j => hit x (ordF rn ro) (wdv l (j : Int))
theorem anyHit_iff (x : Fa) (rn ro : Int) (l : List S80) : anyHit x rn ro l = true ↔ ∃ j : Nat, j < l.length ∧ hit x (ordF rn ro) (wdv l (j : Int)) = true := by
 unfold anyHit
 simp only [List.any_eq_true, List.mem_range]
set_option maxHeartbeats 4000000 in
set_option maxRecDepth 100000 in
theorem cont (x : Fa) (rn ro : Int) (h1 : 1 ≤ rn) (h2 : rn ≤ ro) (h3 : ro ≤ 400) (F G : Nat) (A : Option Addr) (c : Nat) (l : List S80) (w : World) (hC : Kd.C k80 w A l.length l) (hF : w.heap[F]? = some (fobj x)) (hG : w.heap[G]? = some (pobj rn ro)) :
  Calls Tryz.prog 108 #[.slice A l.length c, fv F G] w fun e w' => e = .returned (.bool (anyHit x rn ro l)) ∧ Below w.heap.size w w' := by
 have HR := Lib.hid (And.intro hC (And.intro hF (And.intro hG (And.intro h1 (And.intro h2 h3)))))
 clear hC hF hG h1 h2 h3
 go_enter Tryz.func108, Tryz.ntmps108
 go_wp2_with fail
 refine (idx x rn ro HR.out.2.2.2.1 HR.out.2.2.2.2.1 HR.out.2.2.2.2.2 F G A c l _ HR.out.1 HR.out.2.1 HR.out.2.2.1).mono ?_
 rintro e w1 ⟨i, rfl, hi, hB⟩
 have e : anyHit x rn ro l = decide (i ≥ 0) := by
  rw [Bool.eq_iff_iff, anyHit_iff, decide_eq_true_eq]
  exact hi.symm
 have HE := Lib.hid e
 clear e hi
 go_wp2_with fail
 go_ret
 exact ⟨by rw [HE.out] <;> rfl, hB⟩
/-- Does the rule's row stand in a month? -/
def inMonth (r : Ru) : Bool := (r.a0 == 3) || decide ((r.l15.length : Int) > 0)
/-- Is a day one of the rule's weekdays? -/
def onDayF (r : Ru) (x : Fa) : Bool := if inMonth r = true then anyHit x x.mn x.mo r.l11 else anyHit x x.yn x.yo r.l11
theorem onDayF_in {r : Ru} {x : Fa} (h : inMonth r = true) : onDayF r x = anyHit x x.mn x.mo r.l11 := if_pos h
theorem onDayF_out {r : Ru} {x : Fa} (h : inMonth r = false) : onDayF r x = anyHit x x.yn x.yo r.l11 := if_neg (by rw [h]; simp)
set_option maxHeartbeats 4000000 in
set_option maxRecDepth 100000 in
theorem onDay (r : Ru) (p : Rp) (x : Fa) (h1 : 1 ≤ x.mn) (h2 : x.mn ≤ x.mo) (h3 : x.mo ≤ 400) (h4 : 1 ≤ x.yn) (h5 : x.yn ≤ x.yo) (h6 : x.yo ≤ 400) (w : World) (ok : Ok r p w) :
  Calls Tryz.prog 85 #[.agg (agg r p), .agg (fa x)] w fun e w' => e = .returned (.bool (onDayF r x)) ∧ Below w.heap.size w w' := by
 have HO := Aside0.mk ok; clear ok
 have HN := Aside0.mk (And.intro h1 (And.intro h2 h3)); clear h1 h2 h3
 have HN2 := Aside0.mk (And.intro h4 (And.intro h5 h6)); clear h4 h5 h6
 have HK := Aside0.mk (blk_below (blk_new w (obj r p)) (below_alloc (Below.refl _ _) (fobj x)))
 have HF := Aside0.mk (blk_new (w.alloc (obj r p)) (fobj x))
 have HB := Aside0.mk (below_alloc (below_alloc (Below.refl w.heap.size w) (obj r p)) (fobj x))
 have GF := Aside0.mk (show (w.alloc (obj r p)).heap.size = w.heap.size + 1 by simp)
 go_enter Tryz.func85, Tryz.ntmps85
 go_upto_region 1 with fail
 generalize (w.alloc (obj r p)).alloc (fobj x) = w0 at HK HF HB ⊢
 rw [GF.out] at HF
 have HX := Aside0.mk (show ∀ (o : Obj), (w0.alloc o).cell? ⟨w.heap.size, 11, none⟩ = some (.slice p.A11 r.l11.length p.c11) from fun o => pw_cell_below (below_alloc (Below.refl _ _) o) ((blk_cell HK.out 11).trans rfl))
 have k0 : ∀ (o : Obj), (w0.alloc o).cell? ⟨w.heap.size, 0, none⟩ = some (.int .i64 r.a0) := fun o => pw_cell_below (below_alloc (Below.refl _ _) o) ((blk_cell HK.out 0).trans rfl)
 have k15 : ∀ (o : Obj), (w0.alloc o).cell? ⟨w.heap.size, 15, none⟩ = some (.slice p.A15 r.l15.length p.c15) := fun o => pw_cell_below (below_alloc (Below.refl _ _) o) ((blk_cell HK.out 15).trans rfl)
 have f5 := (blk_cell HF.out 5).trans rfl
 have f6 := (blk_cell HF.out 6).trans rfl
 have f7 := (blk_cell HF.out 7).trans rfl
 have f8 := (blk_cell HF.out 8).trans rfl
 have g5 : ∀ (o : Obj), (w0.alloc o).cell? ⟨w.heap.size + 1, 5, none⟩ = some (.int .i64 x.mn) := fun o => pw_cell_below (below_alloc (Below.refl _ _) o) f5
 have g6 : ∀ (o : Obj), (w0.alloc o).cell? ⟨w.heap.size + 1, 6, none⟩ = some (.int .i64 x.mo) := fun o => pw_cell_below (below_alloc (Below.refl _ _) o) f6
 have HY := HX.out
 by_cases a : r.a0 = 3
 ·have a1 : (r.a0 == 3) = true := beq_iff_eq.2 a
  have A := Aside0.mk (show inMonth r = true by unfold inMonth; rw [a1]; rfl)
  clear a
  go_wp2_with fail
  refine (cont x x.mn x.mo HN.out.1 HN.out.2.1 HN.out.2.2 (w.heap.size + 1) w0.heap.size p.A11 p.c11 r.l11 (w0.alloc (pobj x.mn x.mo)) (Kd.C_below HO.out.h11 (below_alloc HB.out _)) (blk_below HF.out (below_alloc (Below.refl _ _) _)) (blk_new _ _)).mono ?_
  rintro e w2 ⟨rfl, hb⟩
  have HB2 := Aside0.mk (below_then (below_alloc HB.out (pobj x.mn x.mo)) (below_alloc HB.out (pobj x.mn x.mo)).size hb)
  clear hb
  go_wp2_with fail
  go_ret
  exact ⟨by rw [onDayF_in A.out] <;> rfl, HB2.out⟩
 ·have a1 : (r.a0 == 3) = false := beq_eq_false_iff_ne.2 a
  clear a
  obtain ⟨n15, hn15⟩ : ∃ n : Nat, r.l15.length = n := ⟨_, rfl⟩
  rw [hn15] at k15
  by_cases b : 0 < n15
  ·have b1 : decide ((n15 : Int) > 0) = true := decide_eq_true (by omega)
   have b2 : decide (0 < n15) = true := decide_eq_true b
   have A := Aside0.mk (show inMonth r = true by unfold inMonth; rw [a1, hn15, b1]; rfl)
   clear b hn15
   go_wp2_with fail
   refine (cont x x.mn x.mo HN.out.1 HN.out.2.1 HN.out.2.2 (w.heap.size + 1) w0.heap.size p.A11 p.c11 r.l11 (w0.alloc (pobj x.mn x.mo)) (Kd.C_below HO.out.h11 (below_alloc HB.out _)) (blk_below HF.out (below_alloc (Below.refl _ _) _)) (blk_new _ _)).mono ?_
   rintro e w2 ⟨rfl, hb⟩
   have HB2 := Aside0.mk (below_then (below_alloc HB.out (pobj x.mn x.mo)) (below_alloc HB.out (pobj x.mn x.mo)).size hb)
   clear hb
   go_wp2_with fail
   go_ret
   exact ⟨by rw [onDayF_in A.out] <;> rfl, HB2.out⟩
  ·have b1 : decide ((n15 : Int) > 0) = false := decide_eq_false (by omega)
   have b2 : decide (0 < n15) = false := decide_eq_false b
   have A := Aside0.mk (show inMonth r = false by unfold inMonth; rw [a1, hn15, b1]; rfl)
   clear b hn15
   go_wp2_with fail
   refine (cont x x.yn x.yo HN2.out.1 HN2.out.2.1 HN2.out.2.2 (w.heap.size + 1) w0.heap.size p.A11 p.c11 r.l11 (w0.alloc (pobj x.yn x.yo)) (Kd.C_below HO.out.h11 (below_alloc HB.out _)) (blk_below HF.out (below_alloc (Below.refl _ _) _)) (blk_new _ _)).mono ?_
   rintro e w2 ⟨rfl, hb⟩
   have HB2 := Aside0.mk (below_then (below_alloc HB.out (pobj x.yn x.yo)) (below_alloc HB.out (pobj x.yn x.yo)).size hb)
   clear hb
   go_wp2_with fail
   go_ret
   exact ⟨by rw [onDayF_out A.out] <;> rfl, HB2.out⟩
end Go.Proofs.YtfdcldjoncednaaGreat.MatD
