/- Texts of this claim, merged: Gate, M0, Fr, Clo, LinC, RecL, RecA, Ru. -/
import Derived.Test.YtddoidcbpcmlaaaDoorMgEventForms1
import Derived.Test.YtddoidcbpcmlaaaDoorMgEventForms2
import Derived.Test.YtddoidcbpcmlaaaDoorMgEventForms3
import Derived.Test.YtddoidcbpcmlaaaDoorProg
import Derived.Below
import Derived.Deep.Draws
import Derived.Deep.AppendLies
import Derived.Maps.AppendAt
import Derived.OwnWalk
import Derived.Laws.BytesArg
import Derived.Laws.MakeOwn
import Derived.Laws.OwnMore
import Derived.Deep.OwnRows
import Derived.Tactics
import Derived.Lib.ConvBytes
import Derived.Laws.Slices
import Derived.WalkKit
import Derived.KernelRfl
import Derived.RowKit3
import Derived.Deep.LoopGhost
import Derived.Deep.QuietTactic
import Derived.BigQuiet
import Derived.WideLaws
import Derived.Deep.DeepCutAuto
import Derived.Deep.CutBlock
import Derived.Deep.RegionHeld3
import Derived.Laws.Rows
import Derived.Lib.AppendStr
import Derived.ArgAppend
import Derived.Laws.IdiomCopy
import Derived.OrdersHeld
import Derived.Laws.BitsLemmas
import Derived.RowKit
import Derived.Test.YtddoidcbpcmlaaaDoorMgEventForms4
import Derived.Test.YtddoidcbpcmlaaaDoorMgEventForms5
import Derived.Test.YtddoidcbpcmlaaaDoorMgEventForms6
import Derived.Test.YtddoidcbpcmlaaaDoorMgEventForms7
import Derived.Test.YtddoidcbpcmlaaaDoorMgEventForms8
import Derived.Test.YtddoidcbpcmlaaaDoorMgEventForms9
import Derived.Test.YtddoidcbpcmlaaaDoorMgEventForms10
import Derived.Test.YtddoidcbpcmlaaaDoorMgEventForms11
import Derived.Test.YtddoidcbpcmlaaaDoorMgEventForms12
import Derived.Lib.Hide
import Derived.Lib.Walk
import Derived.Lib.SliceRun
import Derived.Laws.Append
/- Looks ahead of a dear step of a walk; the lesser and the greater of two whole numbers. -/
namespace Go.Proofs.YtddoidcbpcmlaaaDoorW.PrintMore
theorem max2_int (k k' : IntKind) (x y : Int) : Builtin.max2 (.int k x) (.int k' y) = pure (.int k (if x < y then y else x)) := by simp only [Builtin.max2, gt_iff_lt]
theorem min2_int (k k' : IntKind) (x y : Int) : Builtin.min2 (.int k x) (.int k' y) = pure (.int k (if y < x then y else x)) := by simp only [Builtin.min2]
theorem max_two (ats : Array TypeId) (ty : TypeId) (a b : Value) : Builtin.max_ ats ty #[a, b] = (Builtin.max2 a b >>= fun s => pure s) := by simp only [Builtin.max_, List.foldlM_cons, List.foldlM_nil]
theorem min_two (ats : Array TypeId) (ty : TypeId) (a b : Value) : Builtin.min_ ats ty #[a, b] = (Builtin.min2 a b >>= fun s => pure s) := by simp only [Builtin.min_, List.foldlM_cons, List.foldlM_nil]
end Go.Proofs.YtddoidcbpcmlaaaDoorW.PrintMore
namespace Go.Proofs.YtddoidcbpcmlaaaDoorW.PrintWords
open Go.RowKit
section
variable {P : Program} {ops : Array Oper} {rest : List Oper} {o : Oper} {a : Act} {Q : Exit → Act → World → Prop} {W : World}
/-- The step calls this function. -/
theorem gate_callee {f : FuncId} {ys : Array Operand} {ts : Array TypeId} (_ho : o.op = .call { callee := .value (.func f), args := ys, argTypes := ts }) (h : wpList P ops Q (o :: rest) a W) : wpList P ops Q (o :: rest) a W := h
end
/-- The greater of two. -/
def mx (a b : Int) : Int := if a < b then b else a
theorem mA {α β : Type _} {f : α → β} {l : List α} : l.toArray.map f = (l.map f).toArray := List.map_toArray
theorem mB {α β : Type _} {f : α → β} {a : α} {l : List α} : (a :: l).map f = f a :: l.map f := List.map_cons
theorem mC {α β : Type _} {f : α → β} : [].map f = [] := List.map_nil
theorem sA {α : Type _} {l : List α} {i : Nat} {a : α} : l.toArray.setIfInBounds i a = (l.set i a).toArray := List.setIfInBounds_toArray ..
theorem sB {α : Type _} {x : α} {xs : List α} {a : α} : (x :: xs).set 0 a = a :: xs := List.set_cons_zero
theorem sC {α : Type _} {x : α} {xs : List α} {i : Nat} {a : α} : (x :: xs).set (i + 1) a = x :: xs.set i a := List.set_cons_succ
end Go.Proofs.YtddoidcbpcmlaaaDoorW.PrintWords
namespace Go.Proofs.YtddoidcbpcmlaaaDoorW.PrintLast
open Go.RowKit Go.Proofs.YtddoidcbpcmlaaaDoorW.PrintWords
/-- A call in a plain region, what is plain about it told by itself. -/
theorem gm_ {P : Program} {ops : Array Oper} {Q : Exit → Act → World → Prop} {rest : List Oper} {oi : Oper} {a : Act} {w : World} (N : Option Tmp) {f : FuncId} {fn : Func} {ys : Array Operand} {ts : Array TypeId} (hf : P.funcs[f]? = some fn) (args : Array Value)
    (h : Calls P f args w fun e w' => ∃ v, e = .returned v ∧ wpList P ops Q rest (a.put N v) w')
    (hd : oi.dst = N := by exact rfl) (hg : oi.guard = none := by exact rfl) (hname : (fn.name == "runtime.NumGoroutine") = false := by kernel_rfl) (hb : fn.body.isSome = true := by exact rfl)
    (hop : oi.op = .call { callee := .value (.func f), args := ys, argTypes := ts } := by exact rfl) (hargs : ys.map a.eval = args := by (try simp only [mA, mB, mC]); first | done | rfl) : wpList P ops Q (oi :: rest) a w :=
  goesL_ N hd hg hf hname hb args hop hargs h
/-- The first k of n operations are done. -/
def fl (n k : Nat) : Array Bool := (List.replicate k true ++ List.replicate (n - k) false).toArray
section
variable {P : Program} {ops : Array Oper} {Q : Exit → Act → World → Prop} {md : Region.Mode} {S : World → Prop} {ds : List Nat}
/-- An operation that only computes, in a region that draws its order. -/
theorem pu {T : Bool × List (List Nat × List Nat)} {oi : Oper} {v : Value} {fuel : Nat} {l : Array Bool} {a a' : Act} {w : World} (i : Nat) (N : Option Tmp) (l' : Array Bool) (hT : Aside0 (rtab md ops = T)) (h : wpAnyLast P md ops Q S ds fuel l' a' w)
    (hi : ops[i]? = some oi := by exact rfl) (hN : oi.dst = N := by exact rfl) (hc : anyT T l.toList l'.toList i = true := by kernel_rfl) (hQ : ∀ c a w, Q (.panic c) (a.put oi.dst v) w → Q (.panic c) a w := by exact fun _ _ _ h => h)
    (hy : Yields P ops oi v a := by exact Or.inl ⟨by rfl, by intro w'; go_simp; with_reducible rfl⟩) (ha : a.put N v = a' := by simp only [Act.put, sA, sB, sC, i64_w, i32_w]; rfl) : wpAnyLast P md ops Q S ds (fuel + 1) l a w :=
  pure_ (i := i) (N := N) l' hi hN (any_of hT.out hc) hQ hy ha h
/-- One whose guard is off. -/
theorem puO {T : Bool × List (List Nat × List Nat)} {oi : Oper} {fuel : Nat} {l : Array Bool} {a a' : Act} {w : World} (i : Nat) (N : Option Tmp) (l' : Array Bool) (hT : Aside0 (rtab md ops = T)) (h : wpAnyLast P md ops Q S ds fuel l' a' w)
    (hi : ops[i]? = some oi := by exact rfl) (hN : oi.dst = N := by exact rfl) (hc : anyT T l.toList l'.toList i = true := by kernel_rfl) (hQ : ∀ c a w, Q (.panic c) (a.put oi.dst undef) w → Q (.panic c) a w := by exact fun _ _ _ h => h)
    (hy : Yields P ops oi undef a := by exact Or.inr ⟨by rfl, rfl⟩) (ha : a.put N undef = a' := by simp only [Act.put, sA, sB, sC, i64_w, i32_w]; rfl) : wpAnyLast P md ops Q S ds (fuel + 1) l a w :=
  pure_ (i := i) (N := N) l' hi hN (any_of hT.out hc) hQ hy ha h
end
end Go.Proofs.YtddoidcbpcmlaaaDoorW.PrintLast
namespace Go.Proofs.YtddoidcbpcmlaaaDoor.M
open Go.RowKit Go.Proofs.YtddoidcbpcmlaaaDoorW.PrintWords Go.Proofs.YtddoidcbpcmlaaaDoorW.PrintLast Go.Proofs.YtddoidcbpcmlaaaDoorW.PrintMore
attribute [local go_sem] max2_int min2_int max_two min_two
set_option linter.unusedVariables false
set_option linter.unusedSimpArgs false
def errW : Option Int → Value
 | none => .nilIface
 | some c => .iface 0 (.int .i64 c)
theorem errW_none : errW none = .nilIface := rfl
theorem errW_some (c : Int) : errW (some c) = .iface 0 (.int .i64 c) := rfl

theorem info9 : (Tryd.prog.info? 9).map (fun i => (i.zero, i.size, i.bytes)) = some (some (.string ⟨#[]⟩), 1, 16) := by kernel_rfl
theorem info46 : (Tryd.prog.info? 46).map (fun i => (i.zero, i.size, i.bytes)) = some (some (.agg #[(.string ⟨#[]⟩), (.int .i64 0), (.int .i64 0), (.bool false), (.string ⟨#[]⟩), (.string ⟨#[]⟩)]), 6, 72) := by kernel_rfl
theorem info58 : (Tryd.prog.info? 58).map (fun i => (i.zero, i.size, i.bytes)) = some (some (.agg #[(.string ⟨#[]⟩), (.slice none 0 0), (.string ⟨#[]⟩)]), 3, 56) := by kernel_rfl
theorem info79 : (Tryd.prog.info? 79).map (fun i => (i.zero, i.size, i.bytes)) = some (some (.agg #[(.string ⟨#[]⟩), (.slice none 0 0)]), 2, 40) := by kernel_rfl
/-! #### struct type 101 -/
structure S101 where
 f0 : Int
 f1 : Int
def z101 : S101 := ⟨(0 : Int), (0 : Int)⟩
def k101 : Kd S101 := Kd.iso (Kd.pair (Kd.int .i64) (Kd.int .i64)) (fun x : S101 => (x.f0, x.f1))
theorem k101_open {w : World} {x : S101} {cs : List Value} (h : k101.K w x cs) : cs = [.int .i64 x.f0, .int .i64 x.f1] := by
 obtain ⟨_, _, rfl, rfl, rfl⟩ := h
 exact rfl
def rd_T101 (xs : List S101) (i : Int) : S101 := xs.getD i.toNat z101
theorem at_T101 {w : World} {A : Option Addr} {n : Nat} {xs : List S101} (h : Kd.C k101 w A n xs) (i : Int) (h0 : 0 ≤ i) (h1 : i < n) : ∃ ad , A = some ad ∧ w.cell? (ad.add (i.toNat * 2)) = some (.int .i64 (rd_T101 xs i).f0) ∧ w.cell? ⟨(ad.add (i.toNat * 2)).block, (ad.add (i.toNat * 2)).off + 1, none⟩ = some (.int .i64 (rd_T101 xs i).f1) := by
 obtain ⟨ad, c, e, _, hK, hc0⟩ := Kd.C_get h z101 i h0 h1
 have hc : ∀ j u, c[j]? = some u → w.cell? (ad.add (i.toNat * 2 + j)) = some u := hc0
 obtain rfl := k101_open hK
 exact ⟨ad, e, hc 0 _ rfl, by rw [← add_field _ _ 1 (by omega)]; exact hc 1 _ rfl⟩

/-! #### struct type 23 -/
structure S23 where
 f0 : Int
 f1 : Int
 f2 : ByteArray
def z23 : S23 := ⟨(0 : Int), (0 : Int), (⟨#[]⟩ : ByteArray)⟩
def k23 : Kd S23 := Kd.iso (Kd.pair (Kd.int .i64) (Kd.pair (Kd.int .i64) Kd.string)) (fun x : S23 => (x.f0, x.f1, x.f2))
theorem k23_open {w : World} {x : S23} {cs : List Value} (h : k23.K w x cs) : cs = [.int .i64 x.f0, .int .i64 x.f1, .string x.f2] := by
 obtain ⟨_, _, rfl, rfl, ⟨_, _, rfl, rfl, rfl⟩⟩ := h
 exact rfl
def rd_T23 (xs : List S23) (i : Int) : S23 := xs.getD i.toNat z23
theorem at_T23 {w : World} {A : Option Addr} {n : Nat} {xs : List S23} (h : Kd.C k23 w A n xs) (i : Int) (h0 : 0 ≤ i) (h1 : i < n) : ∃ ad , A = some ad ∧ w.cell? (ad.add (i.toNat * 3)) = some (.int .i64 (rd_T23 xs i).f0) ∧ w.cell? ⟨(ad.add (i.toNat * 3)).block, (ad.add (i.toNat * 3)).off + 1, none⟩ = some (.int .i64 (rd_T23 xs i).f1) ∧ w.cell? ⟨(ad.add (i.toNat * 3)).block, (ad.add (i.toNat * 3)).off + 2, none⟩ = some (.string (rd_T23 xs i).f2) := by
 obtain ⟨ad, c, e, _, hK, hc0⟩ := Kd.C_get h z23 i h0 h1
 have hc : ∀ j u, c[j]? = some u → w.cell? (ad.add (i.toNat * 3 + j)) = some u := hc0
 obtain rfl := k23_open hK
 exact ⟨ad, e, hc 0 _ rfl, by rw [← add_field _ _ 1 (by omega)]; exact hc 1 _ rfl, by rw [← add_field _ _ 2 (by omega)]; exact hc 2 _ rfl⟩

/-! #### struct type 27 -/
/-! #### struct type 86 -/
/-! #### struct type 72 -/
structure S72 where
 f0 : ByteArray
 f1 : (List ByteArray)
def z72 : S72 := ⟨(⟨#[]⟩ : ByteArray), ([] : List ByteArray)⟩
def k72 : Kd S72 := Kd.iso (Kd.pair Kd.string (Kd.slice 9 Kd.string)) (fun x : S72 => (x.f0, x.f1))
theorem k72_open {w : World} {x : S72} {cs : List Value} (h : k72.K w x cs) : ∃ A1 c1, cs = [.string x.f0, .slice A1 x.f1.length c1] ∧ x.f1.length ≤ c1 ∧ Kd.string.C w A1 x.f1.length x.f1 := by
 obtain ⟨_, _, rfl, rfl, ⟨A1, c1, rfl, l1, g1⟩⟩ := h
 exact ⟨A1, c1, rfl, l1, g1⟩
def rd_T72 (xs : List S72) (i : Int) : S72 := xs.getD i.toNat z72
theorem at_T72 {w : World} {A : Option Addr} {n : Nat} {xs : List S72} (h : Kd.C k72 w A n xs) (i : Int) (h0 : 0 ≤ i) (h1 : i < n) : ∃ ad A1 c1, A = some ad ∧ w.cell? (ad.add (i.toNat * 2)) = some (.string (rd_T72 xs i).f0) ∧ w.cell? ⟨(ad.add (i.toNat * 2)).block, (ad.add (i.toNat * 2)).off + 1, none⟩ = some (.slice A1 (rd_T72 xs i).f1.length c1) ∧ (rd_T72 xs i).f1.length ≤ c1 ∧ Kd.string.C w A1 (rd_T72 xs i).f1.length (rd_T72 xs i).f1 := by
 obtain ⟨ad, c, e, _, hK, hc0⟩ := Kd.C_get h z72 i h0 h1
 have hc : ∀ j u, c[j]? = some u → w.cell? (ad.add (i.toNat * 2 + j)) = some u := hc0
 obtain ⟨A1, c1, rfl, l1, g1⟩ := k72_open hK
 exact ⟨ad, A1, c1, e, hc 0 _ rfl, by rw [← add_field _ _ 1 (by omega)]; exact hc 1 _ rfl, l1, g1⟩

/-! #### struct type 46 -/
structure S46 where
 f0 : ByteArray
 f1 : Int
 f2 : Int
 f3 : Bool
 f4 : ByteArray
 f5 : ByteArray
def z46 : S46 := ⟨(⟨#[]⟩ : ByteArray), (0 : Int), (0 : Int), false, (⟨#[]⟩ : ByteArray), (⟨#[]⟩ : ByteArray)⟩
def k46 : Kd S46 := Kd.iso (Kd.pair Kd.string (Kd.pair (Kd.int .i64) (Kd.pair (Kd.int .i64) (Kd.pair Kd.bool (Kd.pair Kd.string Kd.string))))) (fun x : S46 => (x.f0, x.f1, x.f2, x.f3, x.f4, x.f5))
theorem k46_open {w : World} {x : S46} {cs : List Value} (h : k46.K w x cs) : cs = [.string x.f0, .int .i64 x.f1, .int .i64 x.f2, .bool x.f3, .string x.f4, .string x.f5] := by
 obtain ⟨_, _, rfl, rfl, ⟨_, _, rfl, rfl, ⟨_, _, rfl, rfl, ⟨_, _, rfl, rfl, ⟨_, _, rfl, rfl, rfl⟩⟩⟩⟩⟩ := h
 exact rfl
theorem k46_mk (w : World) (x : S46)  : k46.K w x [.string x.f0, .int .i64 x.f1, .int .i64 x.f2, .bool x.f3, .string x.f4, .string x.f5] := ⟨[.string x.f0], [.int .i64 x.f1, .int .i64 x.f2, .bool x.f3, .string x.f4, .string x.f5], rfl, rfl, ⟨[.int .i64 x.f1], [.int .i64 x.f2, .bool x.f3, .string x.f4, .string x.f5], rfl, rfl, ⟨[.int .i64 x.f2], [.bool x.f3, .string x.f4, .string x.f5], rfl, rfl, ⟨[.bool x.f3], [.string x.f4, .string x.f5], rfl, rfl, ⟨[.string x.f4], [.string x.f5], rfl, rfl, rfl⟩⟩⟩⟩⟩
def rd_T46 (xs : List S46) (i : Int) : S46 := xs.getD i.toNat z46
theorem at_T46 {w : World} {A : Option Addr} {n : Nat} {xs : List S46} (h : Kd.C k46 w A n xs) (i : Int) (h0 : 0 ≤ i) (h1 : i < n) : ∃ ad , A = some ad ∧ w.cell? (ad.add (i.toNat * 6)) = some (.string (rd_T46 xs i).f0) ∧ w.cell? ⟨(ad.add (i.toNat * 6)).block, (ad.add (i.toNat * 6)).off + 1, none⟩ = some (.int .i64 (rd_T46 xs i).f1) ∧ w.cell? ⟨(ad.add (i.toNat * 6)).block, (ad.add (i.toNat * 6)).off + 2, none⟩ = some (.int .i64 (rd_T46 xs i).f2) ∧ w.cell? ⟨(ad.add (i.toNat * 6)).block, (ad.add (i.toNat * 6)).off + 3, none⟩ = some (.bool (rd_T46 xs i).f3) ∧ w.cell? ⟨(ad.add (i.toNat * 6)).block, (ad.add (i.toNat * 6)).off + 4, none⟩ = some (.string (rd_T46 xs i).f4) ∧ w.cell? ⟨(ad.add (i.toNat * 6)).block, (ad.add (i.toNat * 6)).off + 5, none⟩ = some (.string (rd_T46 xs i).f5) := by
 obtain ⟨ad, c, e, _, hK, hc0⟩ := Kd.C_get h z46 i h0 h1
 have hc : ∀ j u, c[j]? = some u → w.cell? (ad.add (i.toNat * 6 + j)) = some u := hc0
 obtain rfl := k46_open hK
 exact ⟨ad, e, hc 0 _ rfl, by rw [← add_field _ _ 1 (by omega)]; exact hc 1 _ rfl, by rw [← add_field _ _ 2 (by omega)]; exact hc 2 _ rfl, by rw [← add_field _ _ 3 (by omega)]; exact hc 3 _ rfl, by rw [← add_field _ _ 4 (by omega)]; exact hc 4 _ rfl, by rw [← add_field _ _ 5 (by omega)]; exact hc 5 _ rfl⟩

/-! #### struct type 79 -/
structure S79 where
 f0 : ByteArray
 f1 : (List ByteArray)
def z79 : S79 := ⟨(⟨#[]⟩ : ByteArray), ([] : List ByteArray)⟩
def k79 : Kd S79 := Kd.iso (Kd.pair Kd.string (Kd.slice 9 Kd.string)) (fun x : S79 => (x.f0, x.f1))
theorem k79_open {w : World} {x : S79} {cs : List Value} (h : k79.K w x cs) : ∃ A1 c1, cs = [.string x.f0, .slice A1 x.f1.length c1] ∧ x.f1.length ≤ c1 ∧ Kd.string.C w A1 x.f1.length x.f1 := by
 obtain ⟨_, _, rfl, rfl, ⟨A1, c1, rfl, l1, g1⟩⟩ := h
 exact ⟨A1, c1, rfl, l1, g1⟩
theorem k79_mkM (w : World) (base : Nat) (ok : Nat → Prop) (x : S79) {v1 : Value} (g1 : Kd.string.R 9 w base ok v1 x.f1) : k79.M w base ok x [.string x.f0, v1] := ⟨[.string x.f0], [v1], rfl, rfl, ⟨v1, rfl, g1⟩⟩
def rd_T79 (xs : List S79) (i : Int) : S79 := xs.getD i.toNat z79
theorem at_T79 {w : World} {A : Option Addr} {n : Nat} {xs : List S79} (h : Kd.C k79 w A n xs) (i : Int) (h0 : 0 ≤ i) (h1 : i < n) : ∃ ad A1 c1, A = some ad ∧ w.cell? (ad.add (i.toNat * 2)) = some (.string (rd_T79 xs i).f0) ∧ w.cell? ⟨(ad.add (i.toNat * 2)).block, (ad.add (i.toNat * 2)).off + 1, none⟩ = some (.slice A1 (rd_T79 xs i).f1.length c1) ∧ (rd_T79 xs i).f1.length ≤ c1 ∧ Kd.string.C w A1 (rd_T79 xs i).f1.length (rd_T79 xs i).f1 := by
 obtain ⟨ad, c, e, _, hK, hc0⟩ := Kd.C_get h z79 i h0 h1
 have hc : ∀ j u, c[j]? = some u → w.cell? (ad.add (i.toNat * 2 + j)) = some u := hc0
 obtain ⟨A1, c1, rfl, l1, g1⟩ := k79_open hK
 exact ⟨ad, A1, c1, e, hc 0 _ rfl, by rw [← add_field _ _ 1 (by omega)]; exact hc 1 _ rfl, l1, g1⟩

/-! #### struct type 58 -/
structure S58 where
 f0 : ByteArray
 f1 : (List S79)
 f2 : ByteArray
def z58 : S58 := ⟨(⟨#[]⟩ : ByteArray), ([] : List S79), (⟨#[]⟩ : ByteArray)⟩
def k58 : Kd S58 := Kd.iso (Kd.pair Kd.string (Kd.pair (Kd.slice 79 k79) Kd.string)) (fun x : S58 => (x.f0, x.f1, x.f2))
theorem k58_open {w : World} {x : S58} {cs : List Value} (h : k58.K w x cs) : ∃ A1 c1, cs = [.string x.f0, .slice A1 x.f1.length c1, .string x.f2] ∧ x.f1.length ≤ c1 ∧ k79.C w A1 x.f1.length x.f1 := by
 obtain ⟨_, _, rfl, rfl, ⟨_, _, rfl, ⟨A1, c1, rfl, l1, g1⟩, rfl⟩⟩ := h
 exact ⟨A1, c1, rfl, l1, g1⟩
theorem k58_mk (w : World) (x : S58) {A1 : Option Addr} {c1 : Nat} (l1 : x.f1.length ≤ c1) (g1 : k79.C w A1 x.f1.length x.f1) : k58.K w x [.string x.f0, .slice A1 x.f1.length c1, .string x.f2] := ⟨[.string x.f0], [.slice A1 x.f1.length c1, .string x.f2], rfl, rfl, ⟨[.slice A1 x.f1.length c1], [.string x.f2], rfl, ⟨A1, c1, rfl, l1, g1⟩, rfl⟩⟩
theorem k58_mkF (W : World) (ok : Nat → Prop) (x : S58) {A1 : Option Addr} {c1 : Nat} (l1 : x.f1.length ≤ c1) (g1 : Kd.F k79 W ok A1 x.f1.length x.f1) : Kd.FK k58 W ok x [.string x.f0, .slice A1 x.f1.length c1, .string x.f2] := fun W2 hW => k58_mk W2 x l1 (g1 W2 hW)
def rd_T58 (xs : List S58) (i : Int) : S58 := xs.getD i.toNat z58
theorem at_T58 {w : World} {A : Option Addr} {n : Nat} {xs : List S58} (h : Kd.C k58 w A n xs) (i : Int) (h0 : 0 ≤ i) (h1 : i < n) : ∃ ad A1 c1, A = some ad ∧ w.cell? (ad.add (i.toNat * 3)) = some (.string (rd_T58 xs i).f0) ∧ w.cell? ⟨(ad.add (i.toNat * 3)).block, (ad.add (i.toNat * 3)).off + 1, none⟩ = some (.slice A1 (rd_T58 xs i).f1.length c1) ∧ w.cell? ⟨(ad.add (i.toNat * 3)).block, (ad.add (i.toNat * 3)).off + 2, none⟩ = some (.string (rd_T58 xs i).f2) ∧ (rd_T58 xs i).f1.length ≤ c1 ∧ k79.C w A1 (rd_T58 xs i).f1.length (rd_T58 xs i).f1 := by
 obtain ⟨ad, c, e, _, hK, hc0⟩ := Kd.C_get h z58 i h0 h1
 have hc : ∀ j u, c[j]? = some u → w.cell? (ad.add (i.toNat * 3 + j)) = some u := hc0
 obtain ⟨A1, c1, rfl, l1, g1⟩ := k58_open hK
 exact ⟨ad, A1, c1, e, hc 0 _ rfl, by rw [← add_field _ _ 1 (by omega)]; exact hc 1 _ rfl, by rw [← add_field _ _ 2 (by omega)]; exact hc 2 _ rfl, l1, g1⟩

/-! #### struct type 51 -/
structure S51 where
 f0 : ByteArray
 f1 : (List S72)
 f2 : ByteArray
def z51 : S51 := ⟨(⟨#[]⟩ : ByteArray), ([] : List S72), (⟨#[]⟩ : ByteArray)⟩
def k51 : Kd S51 := Kd.iso (Kd.pair Kd.string (Kd.pair (Kd.slice 72 k72) Kd.string)) (fun x : S51 => (x.f0, x.f1, x.f2))
theorem k51_open {w : World} {x : S51} {cs : List Value} (h : k51.K w x cs) : ∃ A1 c1, cs = [.string x.f0, .slice A1 x.f1.length c1, .string x.f2] ∧ x.f1.length ≤ c1 ∧ k72.C w A1 x.f1.length x.f1 := by
 obtain ⟨_, _, rfl, rfl, ⟨_, _, rfl, ⟨A1, c1, rfl, l1, g1⟩, rfl⟩⟩ := h
 exact ⟨A1, c1, rfl, l1, g1⟩
def rd_T51 (xs : List S51) (i : Int) : S51 := xs.getD i.toNat z51
theorem at_T51 {w : World} {A : Option Addr} {n : Nat} {xs : List S51} (h : Kd.C k51 w A n xs) (i : Int) (h0 : 0 ≤ i) (h1 : i < n) : ∃ ad A1 c1, A = some ad ∧ w.cell? (ad.add (i.toNat * 3)) = some (.string (rd_T51 xs i).f0) ∧ w.cell? ⟨(ad.add (i.toNat * 3)).block, (ad.add (i.toNat * 3)).off + 1, none⟩ = some (.slice A1 (rd_T51 xs i).f1.length c1) ∧ w.cell? ⟨(ad.add (i.toNat * 3)).block, (ad.add (i.toNat * 3)).off + 2, none⟩ = some (.string (rd_T51 xs i).f2) ∧ (rd_T51 xs i).f1.length ≤ c1 ∧ k72.C w A1 (rd_T51 xs i).f1.length (rd_T51 xs i).f1 := by
 obtain ⟨ad, c, e, _, hK, hc0⟩ := Kd.C_get h z51 i h0 h1
 have hc : ∀ j u, c[j]? = some u → w.cell? (ad.add (i.toNat * 3 + j)) = some u := hc0
 obtain ⟨A1, c1, rfl, l1, g1⟩ := k51_open hK
 exact ⟨ad, A1, c1, e, hc 0 _ rfl, by rw [← add_field _ _ 1 (by omega)]; exact hc 1 _ rfl, by rw [← add_field _ _ 2 (by omega)]; exact hc 2 _ rfl, l1, g1⟩

theorem bne_nil_ (l : List UInt8) : (l != []) = !l.isEmpty := by cases l <;> rfl
end Go.Proofs.YtddoidcbpcmlaaaDoor.M
/- What a value reads as in every world that agrees from a block on: the frame of fresh memory. -/
namespace Go.Proofs.YtddoidcbpcmlaaaDoor.Fr
open Go.RowKit Go.Proofs.YtddoidcbpcmlaaaDoorW.PrintWords Go.Proofs.YtddoidcbpcmlaaaDoorW.PrintLast Go.Proofs.YtddoidcbpcmlaaaDoor.M
set_option linter.unusedVariables false
set_option linter.unusedSimpArgs false
/-- w' has w's blocks from n on. -/
def Agree (n : Nat) (w w' : World) : Prop := ∀ k, n ≤ k → k < w.heap.size → w'.heap[k]? = w.heap[k]?
def Fr {α : Type} (d : Kd α) (n : Nat) (w : World) (x : α) (cs : List Value) : Prop := ∀ w', Agree n w w' → d.K w' x cs
section
variable {α β : Type} {d : Kd α} {n m : Nat} {w w1 : World} {x : α} {cs : List Value}
theorem Fr.K (h : Fr d n w x cs) : d.K w x cs := h w (fun _ _ _ => rfl)
theorem Fr.keep (h : Fr d n w x cs) (hk : Agree n w w1) (hs : w.heap.size ≤ w1.heap.size) : Fr d n w1 x cs := fun W hW => h W fun k h1 h2 => (hW k h1 (by omega)).trans (hk k h1 h2)
theorem Fr.below (h : Fr d n w x cs) (hb : Below w.heap.size w w1) : Fr d n w1 x cs := h.keep (fun k _ h2 => hb.block k h2) hb.size
theorem Fr.lower (h : Fr d n w x cs) (hm : m ≤ n) : Fr d m w x cs := fun W hW => h W fun k h1 h2 => hW k (by omega) h2
theorem Fr.scalar {enc : α → Value} {h1 : ∀ x, (enc x).oneCell' = true} : Fr (Kd.scalar enc h1) n w x [enc x] := fun _ _ => rfl
theorem Fr.pair {a : Kd α} {b : Kd β} {y : α × β} {c0 c1 : List Value} (h0 : Fr a n w y.1 c0) (h1 : Fr b n w y.2 c1) : Fr (Kd.pair a b) n w y (c0 ++ c1) := fun W hW => ⟨c0, c1, rfl, h0 W hW, h1 W hW⟩
theorem Fr.iso {f : β → α} {y : β} (h : Fr d n w (f y) cs) : Fr (Kd.iso d f) n w y cs := fun W hW => h W hW
theorem add_block (a : Addr) (j : Nat) : (a.add j).block = a.block := by unfold Addr.add; split <;> rfl
theorem Fr.slice {e : Nat} {xs : List α} {A : Option Addr} {cap : Nat} (hl : xs.length ≤ cap) (hm : xs.length ≤ 9223372036854775807)
  (h : 0 < xs.length → ∃ ad, A = some ad ∧ n ≤ ad.block ∧ ad.block < w.heap.size ∧ ∀ j p, xs[j]? = some p → ∃ cs, cs.length = d.sz ∧ Fr d n w p cs ∧ ∀ q u, cs[q]? = some u → w.cell? (ad.add (j * d.sz + q)) = some u) :
  Fr (Kd.slice e d) n w xs [.slice A xs.length cap] := fun W hW => ⟨A, cap, rfl, hl, rfl, hm, fun hp => by
 obtain ⟨ad, rfl, h1, h2, h3⟩ := h hp
 refine ⟨ad, rfl, fun j p hj => ?_⟩
 obtain ⟨cs, e1, e2, e3⟩ := h3 j p hj
 refine ⟨cs, e1, e2 W hW, fun q u hq => ?_⟩
 rw [World.cell?_of_block (w := w) (w' := W) (a := ad.add (j * d.sz + q)) (by rw [add_block]; exact hW ad.block h1 h2)]
 exact e3 q u hq⟩
end
end Go.Proofs.YtddoidcbpcmlaaaDoor.Fr
/- slices.Clone, at the types that an event holds. (Written by gen_clone.py.) -/
namespace Go.Proofs.YtddoidcbpcmlaaaDoor.Clo
open Go.RowKit Go.Proofs.YtddoidcbpcmlaaaDoorW.PrintWords Go.Proofs.YtddoidcbpcmlaaaDoorW.PrintLast Go.Proofs.YtddoidcbpcmlaaaDoor.M Go.Proofs.YtddoidcbpcmlaaaDoor.Fr
set_option linter.unusedVariables false
set_option linter.unusedSimpArgs false
/-- A new row (element type e) that holds copies of the elements' cells as they were read in w0; n0: from which block on. -/
def Row {α : Type} (d : Kd α) (e : Nat) (w0 : World) (n0 : Nat) (w : World) (A : Option Addr) (xs : List α) : Prop := 0 < xs.length → ∃ g cells, A = some ⟨g, 0, none⟩ ∧ n0 ≤ g ∧ g < w.heap.size ∧ w.heap[g]? = some (.cells cells e (0, 0)) ∧
 ∀ j p, xs[j]? = some p → ∃ cs, cs.length = d.sz ∧ d.K w0 p cs ∧ ∀ q u, cs[q]? = some u → cells[j * d.sz + q]? = some u
theorem row_of {α : Type} {d : Kd α} {e : Nat} {w0 w : World} {n0 : Nat} {v : Value} {xs : List α} {news : List Value} (h : w.ownsRow n0 e d.sz v xs.length news) (hn : ∀ j p, xs[j]? = some p → ∃ cs, cs.length = d.sz ∧ d.K w0 p cs ∧ ∀ q u, cs[q]? = some u → news[j * d.sz + q]? = some u) :
  ∃ A c, v = .slice A xs.length c ∧ xs.length ≤ c ∧ Row d e w0 n0 w A xs := by
 rcases h.2 with ⟨rfl, z⟩ | ⟨g, cap, cur, rfl, hg, hh, hc, _, hs, ht⟩
 ·exact ⟨none, 0, by rw [z], by omega, fun q => by omega⟩
 ·refine ⟨_, cap, rfl, hc, fun _ => ⟨g, cur, rfl, hg, (Array.getElem?_eq_some_iff.1 hh).1, hh, fun j p hj => ?_⟩⟩
  obtain ⟨cs, e1, e2, e3⟩ := hn j p hj
  refine ⟨cs, e1, e2, fun q u hq => ?_⟩
  have := e3 q u hq
  rw [← ht] at this
  rw [List.getElem?_take] at this
  split at this
  ·rw [← Array.getElem?_toList]; exact this
  ·cases this
/-- The cells of a row, read at once. -/
theorem Row.cell {α : Type} {d : Kd α} {e : Nat} {w0 w : World} {n0 : Nat} {xs : List α} {g : Nat} {cells : Array Value} (hh : w.heap[g]? = some (.cells cells e (0, 0))) {i : Nat} {u : Value} (h : cells[i]? = some u) : w.cell? ((⟨g, 0, none⟩ : Addr).add i) = some u := by
 have e1 : (⟨g, 0, none⟩ : Addr).add i = ⟨g, i, none⟩ := by unfold Addr.add; split <;> simp [*]
 rw [e1, blk_cell hh i]; exact h
/-- Where the elements hold no rows, the new row stands by itself. -/
theorem Row.fr {α : Type} {d : Kd α} {e e' : Nat} {w0 w : World} {n0 c : Nat} {A : Option Addr} {xs : List α} (h : Row d e w0 n0 w A xs) (flat : ∀ p cs, d.K w0 p cs → Fr d n0 w p cs) (hl : xs.length ≤ c) (hm : xs.length ≤ 9223372036854775807) : Fr (Kd.slice e' d) n0 w xs [.slice A xs.length c] :=
 Fr.slice hl hm fun hp => by
  obtain ⟨g, cells, rfl, h1, h2, hh, h3⟩ := h hp
  refine ⟨_, rfl, h1, h2, fun j p hj => ?_⟩
  obtain ⟨cs, e1, e2, e3⟩ := h3 j p hj
  exact ⟨cs, e1, flat p cs e2, fun q u hq => Row.cell (w0 := w0) (n0 := n0) (xs := xs) (d := d) hh (e3 q u hq)⟩
end Go.Proofs.YtddoidcbpcmlaaaDoor.Clo
/- line.Clone. (Written by gen_linec.py.) -/
namespace Go.Proofs.YtddoidcbpcmlaaaDoor.LinC
open Go.RowKit Go.Proofs.YtddoidcbpcmlaaaDoorW.PrintWords Go.Proofs.YtddoidcbpcmlaaaDoorW.PrintLast Go.Proofs.YtddoidcbpcmlaaaDoor.M Go.Proofs.YtddoidcbpcmlaaaDoor.Fr Go.Proofs.YtddoidcbpcmlaaaDoor.Clo
set_option linter.unusedVariables false
set_option linter.unusedSimpArgs false
/-- The first k of n operations are done. -/
def tt (n k : Nat) : Array Bool := (List.replicate k true ++ List.replicate (n - k) false).toArray
abbrev SV : Kd (List ByteArray) := Kd.slice 9 Kd.string
theorem agree_set {n : Nat} (w : World) (p : Addr) (u : Value) (h : p.block < n) : Agree n w (w.setCell p u) := fun k h1 _ => Below.heap_setCell w p u k (by omega)
theorem fr_set {α : Type} {d : Kd α} {n : Nat} {w : World} {x : α} {cs : List Value} (h : Fr d n w x cs) (p : Addr) (u : Value) (hp : p.block < n) : Fr d n (w.setCell p u) x cs := h.keep (agree_set w p u hp) (by simp [World.setCell])
/-- The parameters' row between two rounds: those before i have values of their own. -/
def Mid (w0 : World) (gr : Nat) (ps : List S79) (i : Nat) (w : World) : Prop := ∃ cells : Array Value, w.heap[gr]? = some (.cells cells 79 (0, 0)) ∧
 ∀ j p, ps[j]? = some p → ∃ v, cells[j * 2]? = some (.string p.f0) ∧ cells[j * 2 + 1]? = some v ∧ (j < i → Fr SV (gr + 1) w p.f1 [v]) ∧ (i ≤ j → SV.K w0 p.f1 [v])
theorem Mid.below {w0 w w1 : World} {gr : Nat} {ps : List S79} {i : Nat} (h : Mid w0 gr ps i w) (hb : Below w.heap.size w w1) : Mid w0 gr ps i w1 := by
 obtain ⟨cells, h1, h2⟩ := h
 refine ⟨cells, blk_below h1 hb, fun j p hj => ?_⟩
 obtain ⟨v, e1, e2, e3, e4⟩ := h2 j p hj
 exact ⟨v, e1, e2, fun q => (e3 q).below hb, e4⟩
theorem Mid.far {w0 w : World} {gr : Nat} {ps : List S79} {i : Nat} (h : Mid w0 gr ps i w) (a : Addr) (u : Value) (ha : a.block < gr) : Mid w0 gr ps i (w.setCell a u) := by
 obtain ⟨cells, h1, h2⟩ := h
 refine ⟨cells, blk_far h1 (by omega) u, fun j p hj => ?_⟩
 obtain ⟨v, e1, e2, e3, e4⟩ := h2 j p hj
 exact ⟨v, e1, e2, fun q => fr_set (e3 q) a u (by omega), e4⟩
theorem Mid.step {w0 w : World} {gr : Nat} {ps : List S79} {i : Nat} {p : S79} {v : Value} (h : Mid w0 gr ps i w) (hp : ps[i]? = some p) (hv : Fr SV (gr + 1) w p.f1 [v]) : Mid w0 gr ps (i + 1) (w.setCell ⟨gr, i * 2 + 1, none⟩ v) := by
 obtain ⟨cells, h1, h2⟩ := h
 refine ⟨_, blk_set h1 (i * 2 + 1) v, fun j q hj => ?_⟩
 obtain ⟨u, e1, e2, e3, e4⟩ := h2 j q hj
 have hlt : i * 2 + 1 < cells.size := by obtain ⟨_, _, e, _⟩ := h2 i p hp; exact (Array.getElem?_eq_some_iff.1 e).1
 by_cases c : j = i
 ·subst c
  rw [hp] at hj
  cases hj
  refine ⟨v, ?_, ?_, fun _ => fr_set hv _ _ (by show gr < gr + 1; omega), fun q => by omega⟩
  ·rw [Array.getElem?_setIfInBounds_ne (by omega)]; exact e1
  ·rw [Array.getElem?_setIfInBounds_self_of_lt hlt]
 ·refine ⟨u, ?_, ?_, fun q => fr_set (e3 (by omega)) _ _ (by show gr < gr + 1; omega), fun q => e4 (by omega)⟩
  ·rw [Array.getElem?_setIfInBounds_ne (by omega)]; exact e1
  ·rw [Array.getElem?_setIfInBounds_ne (by omega)]; exact e2
theorem Mid.fr {w0 w : World} {gr c : Nat} {ps : List S79} (h : Mid w0 gr ps ps.length w) (hg : gr < w.heap.size) (hc : ps.length ≤ c) (hm : ps.length ≤ 3518437208883) : Fr (Kd.slice 79 k79) gr w ps [.slice (some ⟨gr, 0, none⟩) ps.length c] :=
 Fr.slice hc (by omega) fun hp => by
  obtain ⟨cells, h1, h2⟩ := h
  refine ⟨_, rfl, Nat.le_refl _, hg, fun j p hj => ?_⟩
  obtain ⟨v, e1, e2, e3, _⟩ := h2 j p hj
  have hlt := (List.getElem?_eq_some_iff.1 hj).1
  refine ⟨[.string p.f0, v], rfl, Fr.iso (f := fun x : S79 => (x.f0, x.f1)) (Fr.pair (c0 := [.string p.f0]) (c1 := [v]) Fr.scalar ((e3 hlt).lower (by omega))), fun q u hq => Row.cell (w0 := w0) (n0 := gr) (xs := ps) (d := k79) h1 ?_⟩
  match q, hq with
  | 0, hq => obtain rfl := Option.some.inj hq; exact e1
  | 1, hq => obtain rfl := Option.some.inj hq; exact e2
theorem twoB (w : World) (o1 o2 : Obj) : ∃ w0, w0 = (w.alloc o1).alloc o2 ∧ w0.heap.size = w.heap.size + 2 ∧ w0.heap[w.heap.size]? = some o1 ∧ w0.heap[w.heap.size + 1]? = some o2 ∧ Below w.heap.size w w0 := by
 have h1 := blk_new w o1
 have h2 := blk_new (w.alloc o1) o2
 simp only [World.size_alloc] at h2
 exact ⟨_, rfl, by simp only [World.size_alloc], blk_below h1 (below_alloc (Below.refl _ _) _), h2, below_alloc (below_alloc (Below.refl _ _) _) _⟩
end Go.Proofs.YtddoidcbpcmlaaaDoor.LinC
/- recur.lists: a rule's lists of numbers, in two rows. (Written by gen_reclists.py.) -/
namespace Go.Proofs.YtddoidcbpcmlaaaDoor.RecL
open Go.RowKit Go.Proofs.YtddoidcbpcmlaaaDoorW.PrintWords Go.Proofs.YtddoidcbpcmlaaaDoorW.PrintLast
set_option linter.unusedVariables false
set_option linter.unusedSimpArgs false
section
variable {P : Program} {ops : Array Oper} {o : Oper} {a : Act} {Q : Exit → Act → World → Prop} {Kc : Act → World → Prop}
/-- A row laid in a region that draws. -/
theorem lit_step {W : World} (hw : Region.wanted o (yielded ops a.tmps) = true) {N : Tmp} (_hd : o.dst = some N) {cs : Array Value} {t : TypeId} {n : Nat}
  (hrun : (execOp a.eval o).run P W = .ok (.value (.slice (some ⟨W.heap.size, 0, none⟩) n n)) (W.alloc (.cells cs t (0, 0))))
  (h : ∀ g, g = W.heap.size → ∀ w1, w1.heap[g]? = some (.cells cs t (0, 0)) → Below W.heap.size W w1 → Kc (a.put o.dst (.slice (some ⟨g, 0, none⟩) n n)) w1) : if Region.wanted o (yielded ops a.tmps) = true then Oper.wp P o a W Kc Q else Kc (a.put o.dst undef) W :=
 event_step hw hrun (h _ rfl _ (blk_new W _) (below_alloc (Below.refl _ _) _))
end
/-- The lists ahead of BYDAY. -/
def C1 (B : Nat) : Array Value := #[.string ⟨#[66, 89, 83, 69, 67, 79, 78, 68]⟩, .pointer (some ⟨B, 8, none⟩), .int .i64 0, .int .i64 59, .bool false, .string ⟨#[66, 89, 77, 73, 78, 85, 84, 69]⟩, .pointer (some ⟨B, 9, none⟩), .int .i64 0, .int .i64 59, .bool false, .string ⟨#[66, 89, 72, 79, 85, 82]⟩, .pointer (some ⟨B, 10, none⟩), .int .i64 0, .int .i64 23, .bool false]
/-- The lists behind it. -/
def C2 (B : Nat) : Array Value := #[.string ⟨#[66, 89, 77, 79, 78, 84, 72, 68, 65, 89]⟩, .pointer (some ⟨B, 12, none⟩), .int .i64 (-31), .int .i64 31, .bool true, .string ⟨#[66, 89, 89, 69, 65, 82, 68, 65, 89]⟩, .pointer (some ⟨B, 13, none⟩), .int .i64 (-366), .int .i64 366, .bool true, .string ⟨#[66, 89, 87, 69, 69, 75, 78, 79]⟩, .pointer (some ⟨B, 14, none⟩), .int .i64 (-53), .int .i64 53, .bool true, .string ⟨#[66, 89, 77, 79, 78, 84, 72]⟩, .pointer (some ⟨B, 15, none⟩), .int .i64 1, .int .i64 12, .bool false, .string ⟨#[66, 89, 83, 69, 84, 80, 79, 83]⟩, .pointer (some ⟨B, 16, none⟩), .int .i64 (-366), .int .i64 366, .bool true]
def T1 : Bool × List (List Nat × List Nat) := (true, [([], []), ([0], [0]), ([1], [1]), ([2], [2]), ([], []), ([4], [4]), ([5], [5]), ([6], [6]), ([], []), ([8], [8]), ([9], [9]), ([10], [10]), ([3, 7, 11], [3, 7, 11]), ([], []), ([13], [13]), ([14], [14]), ([15], [15]), ([], []), ([17], [17]), ([18], [18]), ([19], [19]), ([], []), ([21], [21]), ([22], [22]), ([23], [23]), ([], []), ([25], [25]), ([26], [26]), ([27], [27]), ([], []), ([29], [29]), ([30], [30]), ([31], [31]), ([16, 20, 24, 28, 32], [16, 20, 24, 28, 32]), ([12, 0, 1, 2, 3, 4, 5, 6, 7, 8, 9, 10, 11, 12], [12]), ([33, 34, 0, 1, 2, 3, 4, 5, 6, 7, 8, 9, 10, 11, 12, 13, 14, 15, 16, 17, 18, 19, 20, 21, 22, 23, 24, 25, 26, 27, 28, 29, 30, 31, 32, 33, 34], [33])])
def B1 : List Nat := [0, 1, 3, 7, 0, 16, 48, 112, 0, 256, 768, 1792, 4095, 0, 8192, 24576, 57344, 0, 131072, 393216, 917504, 0, 2097152, 6291456, 14680064, 0, 33554432, 100663296, 234881024, 0, 536870912, 1610612736, 3758096384, 8589926400, 8191, 34359738367]
theorem tab1 : rtab .any (opsOf Tryd.f80 1) = T1 := by kernel_rfl
theorem bits1 : waitsOk T1.2 B1 = true := by kernel_rfl

set_option maxHeartbeats 8000000 in
set_option maxRecDepth 100000 in
theorem lists (B : Nat) (w : World) : Calls Tryd.prog 80 #[.pointer (some ⟨B, 0, none⟩)] w fun e w' => ∃ g1 g2, e = .returned (.tuple #[.slice (some ⟨g1, 0, none⟩) 3 3, .slice (some ⟨g2, 0, none⟩) 5 5]) ∧
  w'.heap[g1]? = some (.cells (C1 B) 94 (0, 0)) ∧ w'.heap[g2]? = some (.cells (C2 B) 94 (0, 0)) ∧ g1 ≠ g2 ∧ w.heap.size ≤ g1 ∧ w.heap.size ≤ g2 ∧ Below w.heap.size w w' := by
 go_enter Tryd.func80, Tryd.ntmps80
 go_wp2_with fail
 refine start_ (n := 36) (S := fun _ => True) (ds := []) (fl 36 0) (by kernel_rfl) rfl rfl trivial (fun hHeld => ?_)
 refine with_tabW tab1 bits1 (fun HT_ HW_ => ?_)
 have B2 := Lib.hid (below_drew (Below.refl w.heap.size w))
 generalize w.drew = w2 at B2 hHeld ⊢
 refine pu 0 (some 4) (fl 36 1) HT_ ?_
 refine pu 1 (some 5) (fl 36 2) HT_ ?_
 refine pu 2 (some 6) (fl 36 3) HT_ ?_
 refine pu 3 (some 7) (fl 36 4) HT_ ?_
 refine pu 4 (some 8) (fl 36 5) HT_ ?_
 refine pu 5 (some 9) (fl 36 6) HT_ ?_
 refine pu 6 (some 10) (fl 36 7) HT_ ?_
 refine pu 7 (some 11) (fl 36 8) HT_ ?_
 refine pu 8 (some 12) (fl 36 9) HT_ ?_
 refine pu 9 (some 13) (fl 36 10) HT_ ?_
 refine pu 10 (some 14) (fl 36 11) HT_ ?_
 refine pu 11 (some 15) (fl 36 12) HT_ ?_
 refine pu 13 (some 17) #[true, true, true, true, true, true, true, true, true, true, true, true, false, true, false, false, false, false, false, false, false, false, false, false, false, false, false, false, false, false, false, false, false, false, false, false] HT_ ?_
 refine pu 14 (some 18) #[true, true, true, true, true, true, true, true, true, true, true, true, false, true, true, false, false, false, false, false, false, false, false, false, false, false, false, false, false, false, false, false, false, false, false, false] HT_ ?_
 refine pu 15 (some 19) #[true, true, true, true, true, true, true, true, true, true, true, true, false, true, true, true, false, false, false, false, false, false, false, false, false, false, false, false, false, false, false, false, false, false, false, false] HT_ ?_
 refine pu 16 (some 20) #[true, true, true, true, true, true, true, true, true, true, true, true, false, true, true, true, true, false, false, false, false, false, false, false, false, false, false, false, false, false, false, false, false, false, false, false] HT_ ?_
 refine pu 17 (some 21) #[true, true, true, true, true, true, true, true, true, true, true, true, false, true, true, true, true, true, false, false, false, false, false, false, false, false, false, false, false, false, false, false, false, false, false, false] HT_ ?_
 refine pu 18 (some 22) #[true, true, true, true, true, true, true, true, true, true, true, true, false, true, true, true, true, true, true, false, false, false, false, false, false, false, false, false, false, false, false, false, false, false, false, false] HT_ ?_
 refine pu 19 (some 23) #[true, true, true, true, true, true, true, true, true, true, true, true, false, true, true, true, true, true, true, true, false, false, false, false, false, false, false, false, false, false, false, false, false, false, false, false] HT_ ?_
 refine pu 20 (some 24) #[true, true, true, true, true, true, true, true, true, true, true, true, false, true, true, true, true, true, true, true, true, false, false, false, false, false, false, false, false, false, false, false, false, false, false, false] HT_ ?_
 refine pu 21 (some 25) #[true, true, true, true, true, true, true, true, true, true, true, true, false, true, true, true, true, true, true, true, true, true, false, false, false, false, false, false, false, false, false, false, false, false, false, false] HT_ ?_
 refine pu 22 (some 26) #[true, true, true, true, true, true, true, true, true, true, true, true, false, true, true, true, true, true, true, true, true, true, true, false, false, false, false, false, false, false, false, false, false, false, false, false] HT_ ?_
 refine pu 23 (some 27) #[true, true, true, true, true, true, true, true, true, true, true, true, false, true, true, true, true, true, true, true, true, true, true, true, false, false, false, false, false, false, false, false, false, false, false, false] HT_ ?_
 refine pu 24 (some 28) #[true, true, true, true, true, true, true, true, true, true, true, true, false, true, true, true, true, true, true, true, true, true, true, true, true, false, false, false, false, false, false, false, false, false, false, false] HT_ ?_
 refine pu 25 (some 29) #[true, true, true, true, true, true, true, true, true, true, true, true, false, true, true, true, true, true, true, true, true, true, true, true, true, true, false, false, false, false, false, false, false, false, false, false] HT_ ?_
 refine pu 26 (some 30) #[true, true, true, true, true, true, true, true, true, true, true, true, false, true, true, true, true, true, true, true, true, true, true, true, true, true, true, false, false, false, false, false, false, false, false, false] HT_ ?_
 refine pu 27 (some 31) #[true, true, true, true, true, true, true, true, true, true, true, true, false, true, true, true, true, true, true, true, true, true, true, true, true, true, true, true, false, false, false, false, false, false, false, false] HT_ ?_
 refine pu 28 (some 32) #[true, true, true, true, true, true, true, true, true, true, true, true, false, true, true, true, true, true, true, true, true, true, true, true, true, true, true, true, true, false, false, false, false, false, false, false] HT_ ?_
 refine pu 29 (some 33) #[true, true, true, true, true, true, true, true, true, true, true, true, false, true, true, true, true, true, true, true, true, true, true, true, true, true, true, true, true, true, false, false, false, false, false, false] HT_ ?_
 refine pu 30 (some 34) #[true, true, true, true, true, true, true, true, true, true, true, true, false, true, true, true, true, true, true, true, true, true, true, true, true, true, true, true, true, true, true, false, false, false, false, false] HT_ ?_
 refine pu 31 (some 35) #[true, true, true, true, true, true, true, true, true, true, true, true, false, true, true, true, true, true, true, true, true, true, true, true, true, true, true, true, true, true, true, true, false, false, false, false] HT_ ?_
 refine pu 32 (some 36) #[true, true, true, true, true, true, true, true, true, true, true, true, false, true, true, true, true, true, true, true, true, true, true, true, true, true, true, true, true, true, true, true, true, false, false, false] HT_ ?_
 refine join_ (σ := Nat × Nat) 1 (fl 36 35) (fun s => [(16, .slice (some ⟨s.1, 0, none⟩) 3 3), (37, .slice (some ⟨s.2, 0, none⟩) 5 5), (2, .slice (some ⟨s.1, 0, none⟩) 3 3)]) (fun s w' => w'.heap[s.1]? = some (.cells (C1 B) 94 (0, 0)) ∧ w'.heap[s.2]? = some (.cells (C2 B) 94 (0, 0)) ∧ s.1 ≠ s.2 ∧ w.heap.size ≤ s.1 ∧ w.heap.size ≤ s.2 ∧ Below w.heap.size w w') ?_ ?_
 ·rintro ⟨g1, g2⟩ w3 ⟨x1, x2, n1, m1, m2, hBw⟩
  dsimp only at x1 x2 n1 m1 m2
  refine norm_ (a' := ?_) ?_ ?_
  rotate_left
  ·simp only [putAll]
   simp only [Act.put, sA, sB, sC, i64_w, i32_w]
   rfl
  refine pu 35 (some 3) (fl 36 36) HT_ ?_
  refine done_ (done_of HT_.out (by kernel_rfl)) ?_
  clear HT_ HW_
  go_wp2_with fail
  go_ret2
  exact ⟨g1, g2, rfl, x1, x2, n1, m1, m2, hBw⟩
 ·intro hc
  have BB := B2
  clear B2
  simp only [putAll, Act.put, List.setIfInBounds_toArray, List.set_cons_zero, List.set_cons_succ, i64_w, i32_w] at hc
  refine two_ (i := 12) (j := 33) (Ni := some 16) (Nj := some 37) (fl 36 33) #[true, true, true, true, true, true, true, true, true, true, true, true, false, true, true, true, true, true, true, true, true, true, true, true, true, true, true, true, true, true, true, true, true, true, false, false] rfl rfl rfl rfl (two_of HT_.out (by kernel_rfl)) (by decide) (by decide) (fun K hK => ?_) (fun K hK => ?_)
  ·refine lit_step (by rfl) (N := 16) rfl (cs := C1 B) (t := 94) (n := 3) (by go_simp; rfl) ?_
   intro g1 e1 v1 y1 hb
   replace e1 := Nat.le_of_eq e1.symm
   have z1 := hb.size
   have q1 := blk_lt y1
   have s1 := BB.out.size
   replace BB := Lib.hid (below_then BB.out BB.out.size hb)
   refine hK.out _ _ trivial (fun hHeld => ?_)
   clear hK K hb
   refine norm_ (a' := ?_) ?_ ?_
   rotate_left
   ·show Act.put _ (some 16) _ = _
    simp only [Act.put, sA, sB, sC, i64_w, i32_w]
    rfl
   refine pu 34 (some 2) #[true, true, true, true, true, true, true, true, true, true, true, true, true, true, true, true, true, true, true, true, true, true, true, true, true, true, true, true, true, true, true, true, true, false, true, false] HT_ ?_
   refine one_ (i := 33) (N := some 37) (fl 36 35) rfl rfl (one_of HT_.out (by kernel_rfl)) (by decide) (fun K hK => ?_)
   refine lit_step (by rfl) (N := 37) rfl (cs := C2 B) (t := 94) (n := 5) (by go_simp; rfl) ?_
   intro g2 e2 v2 y2 hb
   replace e2 := Nat.le_of_eq e2.symm
   have z2 := hb.size
   have q2 := blk_lt y2
   have r1 := blk_lt y1
   replace y1 := blk_below y1 hb
   have s2 := BB.out.size
   replace BB := Lib.hid (below_then BB.out BB.out.size hb)
   refine hK.out _ _ trivial (fun hHeld => ?_)
   clear hK K hb
   refine norm_ (a' := ?_) ?_ ?_
   rotate_left
   ·show Act.put _ (some 37) _ = _
    simp only [Act.put, sA, sB, sC, i64_w, i32_w]
    rfl
   exact hc (g1, g2) _ ⟨y1, y2, by show g1 ≠ g2; omega, by show _ ≤ g1; omega, by show _ ≤ g2; omega, BB.out⟩
  ·refine lit_step (by rfl) (N := 37) rfl (cs := C2 B) (t := 94) (n := 5) (by go_simp; rfl) ?_
   intro g1 e1 v1 y1 hb
   replace e1 := Nat.le_of_eq e1.symm
   have z1 := hb.size
   have q1 := blk_lt y1
   have s1 := BB.out.size
   replace BB := Lib.hid (below_then BB.out BB.out.size hb)
   refine hK.out _ _ trivial (fun hHeld => ?_)
   clear hK K hb
   refine norm_ (a' := ?_) ?_ ?_
   rotate_left
   ·show Act.put _ (some 37) _ = _
    simp only [Act.put, sA, sB, sC, i64_w, i32_w]
    rfl
   refine one_ (i := 12) (N := some 16) (fl 36 34) rfl rfl (one_of HT_.out (by kernel_rfl)) (by decide) (fun K hK => ?_)
   refine lit_step (by rfl) (N := 16) rfl (cs := C1 B) (t := 94) (n := 3) (by go_simp; rfl) ?_
   intro g2 e2 v2 y2 hb
   replace e2 := Nat.le_of_eq e2.symm
   have z2 := hb.size
   have q2 := blk_lt y2
   have r1 := blk_lt y1
   replace y1 := blk_below y1 hb
   have s2 := BB.out.size
   replace BB := Lib.hid (below_then BB.out BB.out.size hb)
   refine hK.out _ _ trivial (fun hHeld => ?_)
   clear hK K hb
   refine norm_ (a' := ?_) ?_ ?_
   rotate_left
   ·show Act.put _ (some 16) _ = _
    simp only [Act.put, sA, sB, sC, i64_w, i32_w]
    rfl
   refine pu 34 (some 2) (fl 36 35) HT_ ?_
   exact hc (g2, g1) _ ⟨y2, y1, by show g2 ≠ g1; omega, by show _ ≤ g2; omega, by show _ ≤ g1; omega, BB.out⟩
end Go.Proofs.YtddoidcbpcmlaaaDoor.RecL
/- recur.all: a rule's lists of numbers, in one row. -/
namespace Go.Proofs.YtddoidcbpcmlaaaDoor.RecA
open Go.RowKit Go.Proofs.YtddoidcbpcmlaaaDoorW.PrintWords Go.Proofs.YtddoidcbpcmlaaaDoorW.PrintLast Go.Proofs.YtddoidcbpcmlaaaDoor.RecL
set_option linter.unusedVariables false
set_option linter.unusedSimpArgs false
def zl : Value := .agg #[.string ⟨#[]⟩, .pointer none, .int .i64 0, .int .i64 0, .bool false]
theorem info : (Tryd.prog.info? 94).map (fun i => (i.zero, i.size, i.bytes)) = some (some zl, 5, 48) := by kernel_rfl
theorem app (B g1 g2 : Nat) (w : World) (h1 : w.heap[g1]? = some (.cells (C1 B) 94 (0, 0))) (h2 : w.heap[g2]? = some (.cells (C2 B) 94 (0, 0))) :
  ∃ cap cs, (Builtin.append_ #[89, 89] 89 #[.slice (some ⟨g1, 0, none⟩) 3 3, .slice (some ⟨g2, 0, none⟩) 5 5]).run Tryd.prog w = .ok (.slice (some ⟨w.heap.size, 0, none⟩) 8 cap) (w.drew.alloc (.cells cs 94 (0, 0))) ∧
   ∀ w' : World, w'.heap[w.heap.size]? = some (.cells cs 94 (0, 0)) → ∀ j v, ((C1 B).toList ++ (C2 B).toList)[j]? = some v → w'.cell? ⟨w.heap.size, j, none⟩ = some v := by
 obtain ⟨i, hi, hzz⟩ := Option.map_eq_some_iff.1 info
 simp only [Prod.mk.injEq] at hzz
 obtain ⟨hz, hs, hb⟩ := hzz
 have hw := run_append_grow (P := Tryd.prog) w 89 89 94 i zl Tryd.underlying89 hi hz ⟨g1, 0, none⟩ 3 3 (C1 B).toList (by rw [hs]; rfl)
  (fun j v h => by rw [add_at, Nat.zero_add]; exact (blk_cell h1 j).trans (by simpa using h)) ⟨g2, 0, none⟩ 5 5 (C2 B).toList (by rw [hs]; rfl)
  (fun j v h => by rw [add_at, Nat.zero_add]; exact (blk_cell h2 j).trans (by simpa using h)) (by omega) (by omega) (by rw [hb]; decide)
 refine ⟨_, _, hw, fun w' hw' j v hj => ?_⟩
 refine (blk_cell hw' j).trans ?_
 have hlt : j < ((C1 B).toList ++ (C2 B).toList).length := (List.getElem?_eq_some_iff.1 hj).1
 rw [Array.getElem?_append_left (by simpa using hlt), ← hj]
 rw [← Array.toList_append, Array.getElem?_toList]
/-- An append, by what it comes to. -/
theorem exec_app {P : Program} {o : Oper} {a : Act} {w w1 : World} {r v1 v2 : Value} (s x : Operand) (t : TypeId) (ho : o.op = .call { callee := .builtin .append, args := #[s, x], argTypes := #[t, t] })
  (hs : a.eval s = v1) (hx : a.eval x = v2) (hrun : (Builtin.append_ #[t, t] o.type #[v1, v2]).run P w = .ok r w1) : (execOp a.eval o).run P w = .ok (.value r) w1 := by
 unfold execOp
 simp only [ho, resolve, invoke, builtin, Sem.run_bind, Sem.run_pure, Result.andThen_ok, List.map_toArray, List.map_cons, List.map_nil, hs, hx, hrun]
set_option maxHeartbeats 4000000 in
set_option maxRecDepth 100000 in
theorem all (B : Nat) (w : World) : Calls Tryd.prog 57 #[.pointer (some ⟨B, 0, none⟩)] w fun e w' => ∃ g cap, e = .returned (.slice (some ⟨g, 0, none⟩) 8 cap) ∧ w.heap.size ≤ g ∧
  (∀ j v, ((C1 B).toList ++ (C2 B).toList)[j]? = some v → w'.cell? ⟨g, j, none⟩ = some v) ∧ Below w.heap.size w w' := by
 go_enter Tryd.func57, Tryd.ntmps57
 go_wp2_with fail
 refine (lists B w).mono ?_
 rintro e w1 ⟨g1, g2, rfl, h1, h2, n, m1, m2, hB⟩
 obtain ⟨cap, o, happ, hat⟩ := app B g1 g2 w1 h1 h2
 have HA := Lib.hid hat
 have HP := Lib.hid happ
 have HB := Lib.hid hB
 have hs := hB.size
 clear h1 h2 n m1 m2 hat hB happ
 go_wp2_with (at_builtin; refine Kd.event_run rfl (exec_app (.tmp 10) (.tmp 11) 89 rfl rfl rfl HP.out) ?_)
 go_ret
 exact ⟨w1.heap.size, cap, rfl, hs, HA.out _ (blk_new w1.drew _), below_then HB.out hs (below_alloc (below_drew (Below.refl _ _)) _)⟩
end Go.Proofs.YtddoidcbpcmlaaaDoor.RecA
/- A rule as one thing: its plain values (Ru), where its lists lie (Rp). (Written by gen_ru.py.) -/
namespace Go.Proofs.YtddoidcbpcmlaaaDoor.Ru
open Go.RowKit Go.Proofs.YtddoidcbpcmlaaaDoorW.PrintWords Go.Proofs.YtddoidcbpcmlaaaDoorW.PrintLast Go.Proofs.YtddoidcbpcmlaaaDoor.M
set_option linter.unusedVariables false
set_option linter.unusedSimpArgs false
/-- The first k of n operations are done. -/
def tt (n k : Nat) : Array Bool := (List.replicate k true ++ List.replicate (n - k) false).toArray
structure Ru where
 a0 : Int
 a1 : Int
 a2 : Int
 a3 : Int
 a4 : Int
 a5 : ByteArray
 a6 : Bool
 a7 : Int
 l8 : List Int
 l9 : List Int
 l10 : List Int
 l11 : List S101
 l12 : List Int
 l13 : List Int
 l14 : List Int
 l15 : List Int
 l16 : List Int
structure Rp where
 A8 : Option Addr
 c8 : Nat
 A9 : Option Addr
 c9 : Nat
 A10 : Option Addr
 c10 : Nat
 A11 : Option Addr
 c11 : Nat
 A12 : Option Addr
 c12 : Nat
 A13 : Option Addr
 c13 : Nat
 A14 : Option Addr
 c14 : Nat
 A15 : Option Addr
 c15 : Nat
 A16 : Option Addr
 c16 : Nat
abbrev agg (r : Ru) (p : Rp) : Array Value := #[.int .i64 r.a0, .int .i64 r.a1, .int .i64 r.a2, .int .i64 r.a3, .int .i64 r.a4, .string r.a5, .bool r.a6, .int .i64 r.a7, .slice p.A8 r.l8.length p.c8, .slice p.A9 r.l9.length p.c9, .slice p.A10 r.l10.length p.c10, .slice p.A11 r.l11.length p.c11, .slice p.A12 r.l12.length p.c12, .slice p.A13 r.l13.length p.c13, .slice p.A14 r.l14.length p.c14, .slice p.A15 r.l15.length p.c15, .slice p.A16 r.l16.length p.c16]
abbrev obj (r : Ru) (p : Rp) : Obj := .cells (agg r p) 27 (0, 0)
/-- Where a rule's lists lie, in a world. -/
structure Ok (r : Ru) (p : Rp) (w : World) : Prop where
 h8 : Kd.C (Kd.int .i64) w p.A8 r.l8.length r.l8
 d8 : r.l8.length ≤ p.c8
 h9 : Kd.C (Kd.int .i64) w p.A9 r.l9.length r.l9
 d9 : r.l9.length ≤ p.c9
 h10 : Kd.C (Kd.int .i64) w p.A10 r.l10.length r.l10
 d10 : r.l10.length ≤ p.c10
 h11 : Kd.C k101 w p.A11 r.l11.length r.l11
 d11 : r.l11.length ≤ p.c11
 h12 : Kd.C (Kd.int .i64) w p.A12 r.l12.length r.l12
 d12 : r.l12.length ≤ p.c12
 h13 : Kd.C (Kd.int .i64) w p.A13 r.l13.length r.l13
 d13 : r.l13.length ≤ p.c13
 h14 : Kd.C (Kd.int .i64) w p.A14 r.l14.length r.l14
 d14 : r.l14.length ≤ p.c14
 h15 : Kd.C (Kd.int .i64) w p.A15 r.l15.length r.l15
 d15 : r.l15.length ≤ p.c15
 h16 : Kd.C (Kd.int .i64) w p.A16 r.l16.length r.l16
 d16 : r.l16.length ≤ p.c16
theorem Ok.below {r : Ru} {p : Rp} {w w' : World} (h : Ok r p w) (hb : Below w.heap.size w w') : Ok r p w' :=
 ⟨Kd.C_below h.h8 hb, h.d8, Kd.C_below h.h9 hb, h.d9, Kd.C_below h.h10 hb, h.d10, Kd.C_below h.h11 hb, h.d11, Kd.C_below h.h12 hb, h.d12, Kd.C_below h.h13 hb, h.d13, Kd.C_below h.h14 hb, h.d14, Kd.C_below h.h15 hb, h.d15, Kd.C_below h.h16 hb, h.d16⟩
/-- The seventeen cells of a rule's block. -/
theorem cells {r : Ru} {p : Rp} {w : World} {g : Nat} (h : w.heap[g]? = some (obj r p)) :
  w.cell? ⟨g, 0, none⟩ = some (.int .i64 r.a0) ∧ w.cell? ⟨g, 1, none⟩ = some (.int .i64 r.a1) ∧ w.cell? ⟨g, 2, none⟩ = some (.int .i64 r.a2) ∧ w.cell? ⟨g, 3, none⟩ = some (.int .i64 r.a3) ∧ w.cell? ⟨g, 4, none⟩ = some (.int .i64 r.a4) ∧ w.cell? ⟨g, 5, none⟩ = some (.string r.a5) ∧ w.cell? ⟨g, 6, none⟩ = some (.bool r.a6) ∧ w.cell? ⟨g, 7, none⟩ = some (.int .i64 r.a7) ∧ w.cell? ⟨g, 8, none⟩ = some (.slice p.A8 r.l8.length p.c8) ∧ w.cell? ⟨g, 9, none⟩ = some (.slice p.A9 r.l9.length p.c9) ∧ w.cell? ⟨g, 10, none⟩ = some (.slice p.A10 r.l10.length p.c10) ∧ w.cell? ⟨g, 11, none⟩ = some (.slice p.A11 r.l11.length p.c11) ∧ w.cell? ⟨g, 12, none⟩ = some (.slice p.A12 r.l12.length p.c12) ∧ w.cell? ⟨g, 13, none⟩ = some (.slice p.A13 r.l13.length p.c13) ∧ w.cell? ⟨g, 14, none⟩ = some (.slice p.A14 r.l14.length p.c14) ∧ w.cell? ⟨g, 15, none⟩ = some (.slice p.A15 r.l15.length p.c15) ∧ w.cell? ⟨g, 16, none⟩ = some (.slice p.A16 r.l16.length p.c16) :=
 ⟨(blk_cell h 0).trans rfl, (blk_cell h 1).trans rfl, (blk_cell h 2).trans rfl, (blk_cell h 3).trans rfl, (blk_cell h 4).trans rfl, (blk_cell h 5).trans rfl, (blk_cell h 6).trans rfl, (blk_cell h 7).trans rfl, (blk_cell h 8).trans rfl, (blk_cell h 9).trans rfl, (blk_cell h 10).trans rfl, (blk_cell h 11).trans rfl, (blk_cell h 12).trans rfl, (blk_cell h 13).trans rfl, (blk_cell h 14).trans rfl, (blk_cell h 15).trans rfl, (blk_cell h 16).trans rfl⟩
end Go.Proofs.YtddoidcbpcmlaaaDoor.Ru
