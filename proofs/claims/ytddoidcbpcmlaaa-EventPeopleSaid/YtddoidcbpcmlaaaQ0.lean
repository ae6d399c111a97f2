-- written by a program of this session (wip/own_print.sh)
import Derived.Test.YtddoidcbpcmlaaaProg
import Derived.Below
import Derived.Deep.Draws
import Derived.Deep.AppendLies
import Derived.Maps.AppendAt
import Derived.OwnWalk
import Derived.Laws.BytesArg
import Derived.Laws.MakeOwn
import Derived.Laws.OwnMore
import Derived.Deep.OwnRows
import Derived.Tactics
import Derived.Lib.ConvBytes
import Derived.Laws.Slices
import Derived.WalkKit
import Derived.KernelRfl
import Derived.RowKit3
import Derived.Deep.LoopGhost
import Derived.Deep.QuietTactic
import Derived.BigQuiet
import Derived.WideLaws
import Derived.Deep.DeepCutAuto
import Derived.Deep.CutBlock
import Derived.Deep.RegionHeld3
import Derived.Laws.Rows
import Derived.Lib.AppendStr
import Derived.ArgAppend
import Derived.Laws.IdiomCopy
import Derived.OrdersHeld
import Derived.Laws.BitsLemmas
import Derived.RowKit
import Derived.Test.YtddoidcbpcmlaaaWWords
import Derived.Test.YtddoidcbpcmlaaaWLast
import Derived.Test.YtddoidcbpcmlaaaWTab
import Derived.Test.YtddoidcbpcmlaaaWFour
import Derived.Test.YtddoidcbpcmlaaaWQPut
import Derived.Test.YtddoidcbpcmlaaaWApart
import Derived.Test.YtddoidcbpcmlaaaWArr
import Derived.Test.YtddoidcbpcmlaaaWZeros
import Derived.Test.YtddoidcbpcmlaaaWFoot
import Derived.Test.YtddoidcbpcmlaaaWKept
import Derived.Test.YtddoidcbpcmlaaaWShare
import Derived.Test.YtddoidcbpcmlaaaWN
import Derived.Test.YtddoidcbpcmlaaaWFootNe
import Derived.Test.YtddoidcbpcmlaaaWAt
import Derived.Test.YtddoidcbpcmlaaaWEqStruct
import Derived.Test.YtddoidcbpcmlaaaWRepsOne
import Derived.Test.YtddoidcbpcmlaaaWInv
import Derived.Test.YtddoidcbpcmlaaaWInvWords
import Derived.Test.YtddoidcbpcmlaaaWGuard
import Derived.Test.YtddoidcbpcmlaaaWNEv
import Derived.Test.YtddoidcbpcmlaaaWMore
namespace Go.Proofs.Ytddoidcbpcmlaaa.Q
open Go.RowKit Go.Proofs.YtddoidcbpcmlaaaW.PrintWords Go.Proofs.YtddoidcbpcmlaaaW.PrintLast Go.Proofs.YtddoidcbpcmlaaaW.PrintMore
attribute [local go_sem] max2_int min2_int max_two min_two max_three min_three max_four min_four   -- for this text's walks alone
set_option linter.unusedVariables false
set_option linter.unusedSimpArgs false



def errW : Option Int → Value
  | none => .nilIface
  | some c => .iface 0 (.int .i64 c)
theorem errW_none : errW none = .nilIface := rfl
theorem errW_some (c : Int) : errW (some c) = .iface 0 (.int .i64 c) := rfl

theorem info2 : (Try.prog.info? 2).map (fun i => (i.zero, i.size, i.bytes)) = some (some (.int .i64 0), 1, 8) := by kernel_rfl
theorem info9 : (Try.prog.info? 9).map (fun i => (i.zero, i.size, i.bytes)) = some (some (.string ⟨#[]⟩), 1, 16) := by kernel_rfl
theorem info40 : (Try.prog.info? 40).map (fun i => (i.zero, i.size, i.bytes)) = some (some (.agg #[(.string ⟨#[]⟩), (.int .i64 0), (.int .i64 0), (.bool false), (.string ⟨#[]⟩), (.string ⟨#[]⟩)]), 6, 72) := by kernel_rfl
theorem info55 : (Try.prog.info? 55).map (fun i => (i.zero, i.size, i.bytes)) = some (some (.agg #[(.string ⟨#[]⟩), (.slice none 0 0), (.string ⟨#[]⟩)]), 3, 56) := by kernel_rfl
theorem info105 : (Try.prog.info? 105).map (fun i => (i.zero, i.size, i.bytes)) = some (some (.agg #[(.string ⟨#[]⟩), (.slice none 0 0)]), 2, 40) := by kernel_rfl
-- the values' own types
/-! #### struct type 139 -/
structure S139 where
  f0 : Int
  f1 : Int
def z139 : S139 := ⟨(0 : Int), (0 : Int)⟩
def k139 : Kd S139 := Kd.iso (Kd.pair (Kd.int .i64) (Kd.int .i64)) (fun x : S139 => (x.f0, x.f1))
theorem k139_open {w : World} {x : S139} {cs : List Value} (h : k139.K w x cs) : cs = [.int .i64 x.f0, .int .i64 x.f1] := by
  obtain ⟨_, _, rfl, rfl, rfl⟩ := h
  exact rfl
theorem k139_openM {w : World} {base : Nat} {ok : Nat → Prop} {x : S139} {cs : List Value} (h : k139.M w base ok x cs) : cs = [.int .i64 x.f0, .int .i64 x.f1] := by
  obtain ⟨_, _, rfl, rfl, rfl⟩ := h
  exact rfl
theorem k139_mk (w : World) (x : S139)  : k139.K w x [.int .i64 x.f0, .int .i64 x.f1] := ⟨[.int .i64 x.f0], [.int .i64 x.f1], rfl, rfl, rfl⟩
theorem k139_mkM (w : World) (base : Nat) (ok : Nat → Prop) (x : S139)  : k139.M w base ok x [.int .i64 x.f0, .int .i64 x.f1] := ⟨[.int .i64 x.f0], [.int .i64 x.f1], rfl, rfl, rfl⟩
theorem k139_mkF (W : World) (ok : Nat → Prop) (x : S139) : Kd.FK k139 W ok x [.int .i64 x.f0, .int .i64 x.f1] := fun W2 _ => k139_mk W2 x
def rd_T139 (xs : List S139) (i : Int) : S139 := xs.getD i.toNat z139
theorem at_T139 {w : World} {A : Option Addr} {n : Nat} {xs : List S139} (h : Kd.C k139 w A n xs) (i : Int) (h0 : 0 ≤ i) (h1 : i < n) : ∃ ad , A = some ad ∧ w.cell? (ad.add (i.toNat * 2)) = some (.int .i64 (rd_T139 xs i).f0) ∧ w.cell? ⟨(ad.add (i.toNat * 2)).block, (ad.add (i.toNat * 2)).off + 1, none⟩ = some (.int .i64 (rd_T139 xs i).f1) := by
  obtain ⟨ad, c, e, _, hK, hc0⟩ := Kd.C_get h z139 i h0 h1
  have hc : ∀ j u, c[j]? = some u → w.cell? (ad.add (i.toNat * 2 + j)) = some u := hc0
  obtain rfl := k139_open hK
  exact ⟨ad, e, hc 0 _ rfl, by rw [← add_field _ _ 1 (by omega)]; exact hc 1 _ rfl⟩

/-! #### struct type 25 -/
structure S25 where
  f0 : Int
  f1 : Int
  f2 : ByteArray
def z25 : S25 := ⟨(0 : Int), (0 : Int), (⟨#[]⟩ : ByteArray)⟩
def k25 : Kd S25 := Kd.iso (Kd.pair (Kd.int .i64) (Kd.pair (Kd.int .i64) Kd.string)) (fun x : S25 => (x.f0, x.f1, x.f2))
theorem k25_open {w : World} {x : S25} {cs : List Value} (h : k25.K w x cs) : cs = [.int .i64 x.f0, .int .i64 x.f1, .string x.f2] := by
  obtain ⟨_, _, rfl, rfl, ⟨_, _, rfl, rfl, rfl⟩⟩ := h
  exact rfl
theorem k25_openM {w : World} {base : Nat} {ok : Nat → Prop} {x : S25} {cs : List Value} (h : k25.M w base ok x cs) : cs = [.int .i64 x.f0, .int .i64 x.f1, .string x.f2] := by
  obtain ⟨_, _, rfl, rfl, ⟨_, _, rfl, rfl, rfl⟩⟩ := h
  exact rfl
theorem k25_mk (w : World) (x : S25)  : k25.K w x [.int .i64 x.f0, .int .i64 x.f1, .string x.f2] := ⟨[.int .i64 x.f0], [.int .i64 x.f1, .string x.f2], rfl, rfl, ⟨[.int .i64 x.f1], [.string x.f2], rfl, rfl, rfl⟩⟩
theorem k25_mkM (w : World) (base : Nat) (ok : Nat → Prop) (x : S25)  : k25.M w base ok x [.int .i64 x.f0, .int .i64 x.f1, .string x.f2] := ⟨[.int .i64 x.f0], [.int .i64 x.f1, .string x.f2], rfl, rfl, ⟨[.int .i64 x.f1], [.string x.f2], rfl, rfl, rfl⟩⟩
theorem k25_mkF (W : World) (ok : Nat → Prop) (x : S25) : Kd.FK k25 W ok x [.int .i64 x.f0, .int .i64 x.f1, .string x.f2] := fun W2 _ => k25_mk W2 x
def rd_T25 (xs : List S25) (i : Int) : S25 := xs.getD i.toNat z25
theorem at_T25 {w : World} {A : Option Addr} {n : Nat} {xs : List S25} (h : Kd.C k25 w A n xs) (i : Int) (h0 : 0 ≤ i) (h1 : i < n) : ∃ ad , A = some ad ∧ w.cell? (ad.add (i.toNat * 3)) = some (.int .i64 (rd_T25 xs i).f0) ∧ w.cell? ⟨(ad.add (i.toNat * 3)).block, (ad.add (i.toNat * 3)).off + 1, none⟩ = some (.int .i64 (rd_T25 xs i).f1) ∧ w.cell? ⟨(ad.add (i.toNat * 3)).block, (ad.add (i.toNat * 3)).off + 2, none⟩ = some (.string (rd_T25 xs i).f2) := by
  obtain ⟨ad, c, e, _, hK, hc0⟩ := Kd.C_get h z25 i h0 h1
  have hc : ∀ j u, c[j]? = some u → w.cell? (ad.add (i.toNat * 3 + j)) = some u := hc0
  obtain rfl := k25_open hK
  exact ⟨ad, e, hc 0 _ rfl, by rw [← add_field _ _ 1 (by omega)]; exact hc 1 _ rfl, by rw [← add_field _ _ 2 (by omega)]; exact hc 2 _ rfl⟩

/-! #### struct type 40 -/
structure S40 where
  f0 : ByteArray
  f1 : Int
  f2 : Int
  f3 : Bool
  f4 : ByteArray
  f5 : ByteArray
def z40 : S40 := ⟨(⟨#[]⟩ : ByteArray), (0 : Int), (0 : Int), false, (⟨#[]⟩ : ByteArray), (⟨#[]⟩ : ByteArray)⟩
def k40 : Kd S40 := Kd.iso (Kd.pair Kd.string (Kd.pair (Kd.int .i64) (Kd.pair (Kd.int .i64) (Kd.pair Kd.bool (Kd.pair Kd.string Kd.string))))) (fun x : S40 => (x.f0, x.f1, x.f2, x.f3, x.f4, x.f5))
theorem k40_open {w : World} {x : S40} {cs : List Value} (h : k40.K w x cs) : cs = [.string x.f0, .int .i64 x.f1, .int .i64 x.f2, .bool x.f3, .string x.f4, .string x.f5] := by
  obtain ⟨_, _, rfl, rfl, ⟨_, _, rfl, rfl, ⟨_, _, rfl, rfl, ⟨_, _, rfl, rfl, ⟨_, _, rfl, rfl, rfl⟩⟩⟩⟩⟩ := h
  exact rfl
theorem k40_openM {w : World} {base : Nat} {ok : Nat → Prop} {x : S40} {cs : List Value} (h : k40.M w base ok x cs) : cs = [.string x.f0, .int .i64 x.f1, .int .i64 x.f2, .bool x.f3, .string x.f4, .string x.f5] := by
  obtain ⟨_, _, rfl, rfl, ⟨_, _, rfl, rfl, ⟨_, _, rfl, rfl, ⟨_, _, rfl, rfl, ⟨_, _, rfl, rfl, rfl⟩⟩⟩⟩⟩ := h
  exact rfl
theorem k40_mk (w : World) (x : S40)  : k40.K w x [.string x.f0, .int .i64 x.f1, .int .i64 x.f2, .bool x.f3, .string x.f4, .string x.f5] := ⟨[.string x.f0], [.int .i64 x.f1, .int .i64 x.f2, .bool x.f3, .string x.f4, .string x.f5], rfl, rfl, ⟨[.int .i64 x.f1], [.int .i64 x.f2, .bool x.f3, .string x.f4, .string x.f5], rfl, rfl, ⟨[.int .i64 x.f2], [.bool x.f3, .string x.f4, .string x.f5], rfl, rfl, ⟨[.bool x.f3], [.string x.f4, .string x.f5], rfl, rfl, ⟨[.string x.f4], [.string x.f5], rfl, rfl, rfl⟩⟩⟩⟩⟩
theorem k40_mkM (w : World) (base : Nat) (ok : Nat → Prop) (x : S40)  : k40.M w base ok x [.string x.f0, .int .i64 x.f1, .int .i64 x.f2, .bool x.f3, .string x.f4, .string x.f5] := ⟨[.string x.f0], [.int .i64 x.f1, .int .i64 x.f2, .bool x.f3, .string x.f4, .string x.f5], rfl, rfl, ⟨[.int .i64 x.f1], [.int .i64 x.f2, .bool x.f3, .string x.f4, .string x.f5], rfl, rfl, ⟨[.int .i64 x.f2], [.bool x.f3, .string x.f4, .string x.f5], rfl, rfl, ⟨[.bool x.f3], [.string x.f4, .string x.f5], rfl, rfl, ⟨[.string x.f4], [.string x.f5], rfl, rfl, rfl⟩⟩⟩⟩⟩
theorem k40_mkF (W : World) (ok : Nat → Prop) (x : S40) : Kd.FK k40 W ok x [.string x.f0, .int .i64 x.f1, .int .i64 x.f2, .bool x.f3, .string x.f4, .string x.f5] := fun W2 _ => k40_mk W2 x
def rd_T40 (xs : List S40) (i : Int) : S40 := xs.getD i.toNat z40
theorem at_T40 {w : World} {A : Option Addr} {n : Nat} {xs : List S40} (h : Kd.C k40 w A n xs) (i : Int) (h0 : 0 ≤ i) (h1 : i < n) : ∃ ad , A = some ad ∧ w.cell? (ad.add (i.toNat * 6)) = some (.string (rd_T40 xs i).f0) ∧ w.cell? ⟨(ad.add (i.toNat * 6)).block, (ad.add (i.toNat * 6)).off + 1, none⟩ = some (.int .i64 (rd_T40 xs i).f1) ∧ w.cell? ⟨(ad.add (i.toNat * 6)).block, (ad.add (i.toNat * 6)).off + 2, none⟩ = some (.int .i64 (rd_T40 xs i).f2) ∧ w.cell? ⟨(ad.add (i.toNat * 6)).block, (ad.add (i.toNat * 6)).off + 3, none⟩ = some (.bool (rd_T40 xs i).f3) ∧ w.cell? ⟨(ad.add (i.toNat * 6)).block, (ad.add (i.toNat * 6)).off + 4, none⟩ = some (.string (rd_T40 xs i).f4) ∧ w.cell? ⟨(ad.add (i.toNat * 6)).block, (ad.add (i.toNat * 6)).off + 5, none⟩ = some (.string (rd_T40 xs i).f5) := by
  obtain ⟨ad, c, e, _, hK, hc0⟩ := Kd.C_get h z40 i h0 h1
  have hc : ∀ j u, c[j]? = some u → w.cell? (ad.add (i.toNat * 6 + j)) = some u := hc0
  obtain rfl := k40_open hK
  exact ⟨ad, e, hc 0 _ rfl, by rw [← add_field _ _ 1 (by omega)]; exact hc 1 _ rfl, by rw [← add_field _ _ 2 (by omega)]; exact hc 2 _ rfl, by rw [← add_field _ _ 3 (by omega)]; exact hc 3 _ rfl, by rw [← add_field _ _ 4 (by omega)]; exact hc 4 _ rfl, by rw [← add_field _ _ 5 (by omega)]; exact hc 5 _ rfl⟩

def rd_L6 (xs : List (List ByteArray)) (i : Int) : (List ByteArray) := xs.getD i.toNat ([] : List ByteArray)
theorem at_L6 {w : World} {A : Option Addr} {n : Nat} {xs : List (List ByteArray)} (h : Kd.C (Kd.slice 9 Kd.string) w A n xs) (i : Int) (h0 : 0 ≤ i) (h1 : i < n) : ∃ ad A0 c0, A = some ad ∧ w.cell? (ad.add i.toNat) = some (.slice A0 (rd_L6 xs i).length c0) ∧ (rd_L6 xs i).length ≤ c0 ∧ Kd.string.C w A0 (rd_L6 xs i).length (rd_L6 xs i) := by
  obtain ⟨ad, c, e, _, hK, hc0⟩ := Kd.C_get h ([] : List ByteArray) i h0 h1
  have hc : ∀ j u, c[j]? = some u → w.cell? (ad.add (i.toNat * 1 + j)) = some u := hc0
  obtain ⟨A0, c0, rfl, l0, g0⟩ := hK
  exact ⟨ad, A0, c0, e, by have hq := hc 0 _ rfl; rwa [Nat.mul_one, Nat.add_zero] at hq, l0, g0⟩

/-! #### struct type 105 -/
structure S105 where
  f0 : ByteArray
  f1 : (List ByteArray)
def z105 : S105 := ⟨(⟨#[]⟩ : ByteArray), ([] : List ByteArray)⟩
def k105 : Kd S105 := Kd.iso (Kd.pair Kd.string (Kd.slice 9 Kd.string)) (fun x : S105 => (x.f0, x.f1))
theorem k105_open {w : World} {x : S105} {cs : List Value} (h : k105.K w x cs) : ∃ A1 c1, cs = [.string x.f0, .slice A1 x.f1.length c1] ∧ x.f1.length ≤ c1 ∧ Kd.string.C w A1 x.f1.length x.f1 := by
  obtain ⟨_, _, rfl, rfl, ⟨A1, c1, rfl, l1, g1⟩⟩ := h
  exact ⟨A1, c1, rfl, l1, g1⟩
theorem k105_openM {w : World} {base : Nat} {ok : Nat → Prop} {x : S105} {cs : List Value} (h : k105.M w base ok x cs) : ∃ v1, cs = [.string x.f0, v1] ∧ Kd.string.R 9 w base ok v1 x.f1 := by
  obtain ⟨_, _, rfl, rfl, ⟨v1, rfl, g1⟩⟩ := h
  exact ⟨v1, rfl, g1⟩
theorem k105_mk (w : World) (x : S105) {A1 : Option Addr} {c1 : Nat} (l1 : x.f1.length ≤ c1) (g1 : Kd.string.C w A1 x.f1.length x.f1) : k105.K w x [.string x.f0, .slice A1 x.f1.length c1] := ⟨[.string x.f0], [.slice A1 x.f1.length c1], rfl, rfl, ⟨A1, c1, rfl, l1, g1⟩⟩
theorem k105_mkM (w : World) (base : Nat) (ok : Nat → Prop) (x : S105) {v1 : Value} (g1 : Kd.string.R 9 w base ok v1 x.f1) : k105.M w base ok x [.string x.f0, v1] := ⟨[.string x.f0], [v1], rfl, rfl, ⟨v1, rfl, g1⟩⟩
theorem k105_openF {W : World} {ok : Nat → Prop} {x : S105} {cs : List Value} (h : Kd.FK k105 W ok x cs) : ∃ A1 c1, cs = [.string x.f0, .slice A1 x.f1.length c1] ∧ x.f1.length ≤ c1 ∧ Kd.F Kd.string W ok A1 x.f1.length x.f1 := by
  obtain ⟨A1, c1, rfl, l1, _⟩ := k105_open (Kd.FK_now h)
  exact ⟨A1, c1, rfl, l1, (fun W' hW => by obtain ⟨A1_, c1_, he, l1_, g1_⟩ := k105_open (h W' hW); injection (Option.some.inj (show some (Value.slice A1 x.f1.length c1) = some (Value.slice A1_ x.f1.length c1_) from congrArg (fun l => l[1]?) he)) with ha_ _ _; rw [ha_]; exact g1_)⟩
theorem k105_mkF (W : World) (ok : Nat → Prop) (x : S105) {A1 : Option Addr} {c1 : Nat} (l1 : x.f1.length ≤ c1) (g1 : Kd.F Kd.string W ok A1 x.f1.length x.f1) : Kd.FK k105 W ok x [.string x.f0, .slice A1 x.f1.length c1] := fun W2 hW => k105_mk W2 x l1 (g1 W2 hW)
def rd_T105 (xs : List S105) (i : Int) : S105 := xs.getD i.toNat z105
theorem at_T105 {w : World} {A : Option Addr} {n : Nat} {xs : List S105} (h : Kd.C k105 w A n xs) (i : Int) (h0 : 0 ≤ i) (h1 : i < n) : ∃ ad A1 c1, A = some ad ∧ w.cell? (ad.add (i.toNat * 2)) = some (.string (rd_T105 xs i).f0) ∧ w.cell? ⟨(ad.add (i.toNat * 2)).block, (ad.add (i.toNat * 2)).off + 1, none⟩ = some (.slice A1 (rd_T105 xs i).f1.length c1) ∧ (rd_T105 xs i).f1.length ≤ c1 ∧ Kd.string.C w A1 (rd_T105 xs i).f1.length (rd_T105 xs i).f1 := by
  obtain ⟨ad, c, e, _, hK, hc0⟩ := Kd.C_get h z105 i h0 h1
  have hc : ∀ j u, c[j]? = some u → w.cell? (ad.add (i.toNat * 2 + j)) = some u := hc0
  obtain ⟨A1, c1, rfl, l1, g1⟩ := k105_open hK
  exact ⟨ad, A1, c1, e, hc 0 _ rfl, by rw [← add_field _ _ 1 (by omega)]; exact hc 1 _ rfl, l1, g1⟩

def rd_L8 (xs : List (List S105)) (i : Int) : (List S105) := xs.getD i.toNat ([] : List S105)
theorem at_L8 {w : World} {A : Option Addr} {n : Nat} {xs : List (List S105)} (h : Kd.C (Kd.slice 105 k105) w A n xs) (i : Int) (h0 : 0 ≤ i) (h1 : i < n) : ∃ ad A0 c0, A = some ad ∧ w.cell? (ad.add i.toNat) = some (.slice A0 (rd_L8 xs i).length c0) ∧ (rd_L8 xs i).length ≤ c0 ∧ k105.C w A0 (rd_L8 xs i).length (rd_L8 xs i) := by
  obtain ⟨ad, c, e, _, hK, hc0⟩ := Kd.C_get h ([] : List S105) i h0 h1
  have hc : ∀ j u, c[j]? = some u → w.cell? (ad.add (i.toNat * 1 + j)) = some u := hc0
  obtain ⟨A0, c0, rfl, l0, g0⟩ := hK
  exact ⟨ad, A0, c0, e, by have hq := hc 0 _ rfl; rwa [Nat.mul_one, Nat.add_zero] at hq, l0, g0⟩

/-! #### struct type 55 -/
structure S55 where
  f0 : ByteArray
  f1 : (List S105)
  f2 : ByteArray
def z55 : S55 := ⟨(⟨#[]⟩ : ByteArray), ([] : List S105), (⟨#[]⟩ : ByteArray)⟩
def k55 : Kd S55 := Kd.iso (Kd.pair Kd.string (Kd.pair (Kd.slice 105 k105) Kd.string)) (fun x : S55 => (x.f0, x.f1, x.f2))
theorem k55_open {w : World} {x : S55} {cs : List Value} (h : k55.K w x cs) : ∃ A1 c1, cs = [.string x.f0, .slice A1 x.f1.length c1, .string x.f2] ∧ x.f1.length ≤ c1 ∧ k105.C w A1 x.f1.length x.f1 := by
  obtain ⟨_, _, rfl, rfl, ⟨_, _, rfl, ⟨A1, c1, rfl, l1, g1⟩, rfl⟩⟩ := h
  exact ⟨A1, c1, rfl, l1, g1⟩
theorem k55_openM {w : World} {base : Nat} {ok : Nat → Prop} {x : S55} {cs : List Value} (h : k55.M w base ok x cs) : ∃ v1, cs = [.string x.f0, v1, .string x.f2] ∧ k105.R 105 w base ok v1 x.f1 := by
  obtain ⟨_, _, rfl, rfl, ⟨_, _, rfl, ⟨v1, rfl, g1⟩, rfl⟩⟩ := h
  exact ⟨v1, rfl, g1⟩
theorem k55_mk (w : World) (x : S55) {A1 : Option Addr} {c1 : Nat} (l1 : x.f1.length ≤ c1) (g1 : k105.C w A1 x.f1.length x.f1) : k55.K w x [.string x.f0, .slice A1 x.f1.length c1, .string x.f2] := ⟨[.string x.f0], [.slice A1 x.f1.length c1, .string x.f2], rfl, rfl, ⟨[.slice A1 x.f1.length c1], [.string x.f2], rfl, ⟨A1, c1, rfl, l1, g1⟩, rfl⟩⟩
theorem k55_mkM (w : World) (base : Nat) (ok : Nat → Prop) (x : S55) {v1 : Value} (g1 : k105.R 105 w base ok v1 x.f1) : k55.M w base ok x [.string x.f0, v1, .string x.f2] := ⟨[.string x.f0], [v1, .string x.f2], rfl, rfl, ⟨[v1], [.string x.f2], rfl, ⟨v1, rfl, g1⟩, rfl⟩⟩
theorem k55_openF {W : World} {ok : Nat → Prop} {x : S55} {cs : List Value} (h : Kd.FK k55 W ok x cs) : ∃ A1 c1, cs = [.string x.f0, .slice A1 x.f1.length c1, .string x.f2] ∧ x.f1.length ≤ c1 ∧ Kd.F k105 W ok A1 x.f1.length x.f1 := by
  obtain ⟨A1, c1, rfl, l1, _⟩ := k55_open (Kd.FK_now h)
  exact ⟨A1, c1, rfl, l1, (fun W' hW => by obtain ⟨A1_, c1_, he, l1_, g1_⟩ := k55_open (h W' hW); injection (Option.some.inj (show some (Value.slice A1 x.f1.length c1) = some (Value.slice A1_ x.f1.length c1_) from congrArg (fun l => l[1]?) he)) with ha_ _ _; rw [ha_]; exact g1_)⟩
theorem k55_mkF (W : World) (ok : Nat → Prop) (x : S55) {A1 : Option Addr} {c1 : Nat} (l1 : x.f1.length ≤ c1) (g1 : Kd.F k105 W ok A1 x.f1.length x.f1) : Kd.FK k55 W ok x [.string x.f0, .slice A1 x.f1.length c1, .string x.f2] := fun W2 hW => k55_mk W2 x l1 (g1 W2 hW)
def rd_T55 (xs : List S55) (i : Int) : S55 := xs.getD i.toNat z55
theorem at_T55 {w : World} {A : Option Addr} {n : Nat} {xs : List S55} (h : Kd.C k55 w A n xs) (i : Int) (h0 : 0 ≤ i) (h1 : i < n) : ∃ ad A1 c1, A = some ad ∧ w.cell? (ad.add (i.toNat * 3)) = some (.string (rd_T55 xs i).f0) ∧ w.cell? ⟨(ad.add (i.toNat * 3)).block, (ad.add (i.toNat * 3)).off + 1, none⟩ = some (.slice A1 (rd_T55 xs i).f1.length c1) ∧ w.cell? ⟨(ad.add (i.toNat * 3)).block, (ad.add (i.toNat * 3)).off + 2, none⟩ = some (.string (rd_T55 xs i).f2) ∧ (rd_T55 xs i).f1.length ≤ c1 ∧ k105.C w A1 (rd_T55 xs i).f1.length (rd_T55 xs i).f1 := by
  obtain ⟨ad, c, e, _, hK, hc0⟩ := Kd.C_get h z55 i h0 h1
  have hc : ∀ j u, c[j]? = some u → w.cell? (ad.add (i.toNat * 3 + j)) = some u := hc0
  obtain ⟨A1, c1, rfl, l1, g1⟩ := k55_open hK
  exact ⟨ad, A1, c1, e, hc 0 _ rfl, by rw [← add_field _ _ 1 (by omega)]; exact hc 1 _ rfl, by rw [← add_field _ _ 2 (by omega)]; exact hc 2 _ rfl, l1, g1⟩

def rd_L10 (xs : List (List Int)) (i : Int) : (List Int) := xs.getD i.toNat ([] : List Int)
theorem at_L10 {w : World} {A : Option Addr} {n : Nat} {xs : List (List Int)} (h : Kd.C (Kd.slice 3 (Kd.int .i64)) w A n xs) (i : Int) (h0 : 0 ≤ i) (h1 : i < n) : ∃ ad A0 c0, A = some ad ∧ w.cell? (ad.add i.toNat) = some (.slice A0 (rd_L10 xs i).length c0) ∧ (rd_L10 xs i).length ≤ c0 ∧ (Kd.int .i64).C w A0 (rd_L10 xs i).length (rd_L10 xs i) := by
  obtain ⟨ad, c, e, _, hK, hc0⟩ := Kd.C_get h ([] : List Int) i h0 h1
  have hc : ∀ j u, c[j]? = some u → w.cell? (ad.add (i.toNat * 1 + j)) = some u := hc0
  obtain ⟨A0, c0, rfl, l0, g0⟩ := hK
  exact ⟨ad, A0, c0, e, by have hq := hc 0 _ rfl; rwa [Nat.mul_one, Nat.add_zero] at hq, l0, g0⟩

def rd_L11 (xs : List (List S139)) (i : Int) : (List S139) := xs.getD i.toNat ([] : List S139)
theorem at_L11 {w : World} {A : Option Addr} {n : Nat} {xs : List (List S139)} (h : Kd.C (Kd.slice 139 k139) w A n xs) (i : Int) (h0 : 0 ≤ i) (h1 : i < n) : ∃ ad A0 c0, A = some ad ∧ w.cell? (ad.add i.toNat) = some (.slice A0 (rd_L11 xs i).length c0) ∧ (rd_L11 xs i).length ≤ c0 ∧ k139.C w A0 (rd_L11 xs i).length (rd_L11 xs i) := by
  obtain ⟨ad, c, e, _, hK, hc0⟩ := Kd.C_get h ([] : List S139) i h0 h1
  have hc : ∀ j u, c[j]? = some u → w.cell? (ad.add (i.toNat * 1 + j)) = some u := hc0
  obtain ⟨A0, c0, rfl, l0, g0⟩ := hK
  exact ⟨ad, A0, c0, e, by have hq := hc 0 _ rfl; rwa [Nat.mul_one, Nat.add_zero] at hq, l0, g0⟩

/-! #### struct type 29 -/
structure S29 where
  f0 : Int
  f1 : Int
  f2 : Int
  f3 : S25
  f4 : Bool
  f5 : Int
  f6 : (List Int)
  f7 : (List Int)
  f8 : (List Int)
  f9 : (List S139)
  f10 : (List Int)
  f11 : (List Int)
  f12 : (List Int)
  f13 : (List Int)
  f14 : (List Int)
def z29 : S29 := ⟨(0 : Int), (0 : Int), (0 : Int), z25, false, (0 : Int), ([] : List Int), ([] : List Int), ([] : List Int), ([] : List S139), ([] : List Int), ([] : List Int), ([] : List Int), ([] : List Int), ([] : List Int)⟩
def k29 : Kd S29 := Kd.iso (Kd.pair (Kd.int .i64) (Kd.pair (Kd.int .i64) (Kd.pair (Kd.int .i64) (Kd.pair k25 (Kd.pair Kd.bool (Kd.pair (Kd.int .i64) (Kd.pair (Kd.slice 3 (Kd.int .i64)) (Kd.pair (Kd.slice 3 (Kd.int .i64)) (Kd.pair (Kd.slice 3 (Kd.int .i64)) (Kd.pair (Kd.slice 139 k139) (Kd.pair (Kd.slice 3 (Kd.int .i64)) (Kd.pair (Kd.slice 3 (Kd.int .i64)) (Kd.pair (Kd.slice 3 (Kd.int .i64)) (Kd.pair (Kd.slice 3 (Kd.int .i64)) (Kd.slice 3 (Kd.int .i64)))))))))))))))) (fun x : S29 => (x.f0, x.f1, x.f2, x.f3, x.f4, x.f5, x.f6, x.f7, x.f8, x.f9, x.f10, x.f11, x.f12, x.f13, x.f14))
theorem k29_open {w : World} {x : S29} {cs : List Value} (h : k29.K w x cs) : ∃ A8 c8 A9 c9 A10 c10 A11 c11 A12 c12 A13 c13 A14 c14 A15 c15 A16 c16, cs = [.int .i64 x.f0, .int .i64 x.f1, .int .i64 x.f2, .int .i64 x.f3.f0, .int .i64 x.f3.f1, .string x.f3.f2, .bool x.f4, .int .i64 x.f5, .slice A8 x.f6.length c8, .slice A9 x.f7.length c9, .slice A10 x.f8.length c10, .slice A11 x.f9.length c11, .slice A12 x.f10.length c12, .slice A13 x.f11.length c13, .slice A14 x.f12.length c14, .slice A15 x.f13.length c15, .slice A16 x.f14.length c16] ∧ x.f6.length ≤ c8 ∧ (Kd.int .i64).C w A8 x.f6.length x.f6 ∧ x.f7.length ≤ c9 ∧ (Kd.int .i64).C w A9 x.f7.length x.f7 ∧ x.f8.length ≤ c10 ∧ (Kd.int .i64).C w A10 x.f8.length x.f8 ∧ x.f9.length ≤ c11 ∧ k139.C w A11 x.f9.length x.f9 ∧ x.f10.length ≤ c12 ∧ (Kd.int .i64).C w A12 x.f10.length x.f10 ∧ x.f11.length ≤ c13 ∧ (Kd.int .i64).C w A13 x.f11.length x.f11 ∧ x.f12.length ≤ c14 ∧ (Kd.int .i64).C w A14 x.f12.length x.f12 ∧ x.f13.length ≤ c15 ∧ (Kd.int .i64).C w A15 x.f13.length x.f13 ∧ x.f14.length ≤ c16 ∧ (Kd.int .i64).C w A16 x.f14.length x.f14 := by
  obtain ⟨_, _, rfl, rfl, ⟨_, _, rfl, rfl, ⟨_, _, rfl, rfl, ⟨_, _, rfl, s3, ⟨_, _, rfl, rfl, ⟨_, _, rfl, rfl, ⟨_, _, rfl, ⟨A8, c8, rfl, l8, g8⟩, ⟨_, _, rfl, ⟨A9, c9, rfl, l9, g9⟩, ⟨_, _, rfl, ⟨A10, c10, rfl, l10, g10⟩, ⟨_, _, rfl, ⟨A11, c11, rfl, l11, g11⟩, ⟨_, _, rfl, ⟨A12, c12, rfl, l12, g12⟩, ⟨_, _, rfl, ⟨A13, c13, rfl, l13, g13⟩, ⟨_, _, rfl, ⟨A14, c14, rfl, l14, g14⟩, ⟨_, _, rfl, ⟨A15, c15, rfl, l15, g15⟩, ⟨A16, c16, rfl, l16, g16⟩⟩⟩⟩⟩⟩⟩⟩⟩⟩⟩⟩⟩⟩⟩ := h
  obtain rfl := k25_open s3
  exact ⟨A8, c8, A9, c9, A10, c10, A11, c11, A12, c12, A13, c13, A14, c14, A15, c15, A16, c16, rfl, l8, g8, l9, g9, l10, g10, l11, g11, l12, g12, l13, g13, l14, g14, l15, g15, l16, g16⟩
theorem k29_openM {w : World} {base : Nat} {ok : Nat → Prop} {x : S29} {cs : List Value} (h : k29.M w base ok x cs) : ∃ v8 v9 v10 v11 v12 v13 v14 v15 v16, cs = [.int .i64 x.f0, .int .i64 x.f1, .int .i64 x.f2, .int .i64 x.f3.f0, .int .i64 x.f3.f1, .string x.f3.f2, .bool x.f4, .int .i64 x.f5, v8, v9, v10, v11, v12, v13, v14, v15, v16] ∧ (Kd.int .i64).R 3 w base ok v8 x.f6 ∧ (Kd.int .i64).R 3 w base ok v9 x.f7 ∧ (Kd.int .i64).R 3 w base ok v10 x.f8 ∧ k139.R 139 w base ok v11 x.f9 ∧ (Kd.int .i64).R 3 w base ok v12 x.f10 ∧ (Kd.int .i64).R 3 w base ok v13 x.f11 ∧ (Kd.int .i64).R 3 w base ok v14 x.f12 ∧ (Kd.int .i64).R 3 w base ok v15 x.f13 ∧ (Kd.int .i64).R 3 w base ok v16 x.f14 := by
  obtain ⟨_, _, rfl, rfl, ⟨_, _, rfl, rfl, ⟨_, _, rfl, rfl, ⟨_, _, rfl, s3, ⟨_, _, rfl, rfl, ⟨_, _, rfl, rfl, ⟨_, _, rfl, ⟨v8, rfl, g8⟩, ⟨_, _, rfl, ⟨v9, rfl, g9⟩, ⟨_, _, rfl, ⟨v10, rfl, g10⟩, ⟨_, _, rfl, ⟨v11, rfl, g11⟩, ⟨_, _, rfl, ⟨v12, rfl, g12⟩, ⟨_, _, rfl, ⟨v13, rfl, g13⟩, ⟨_, _, rfl, ⟨v14, rfl, g14⟩, ⟨_, _, rfl, ⟨v15, rfl, g15⟩, ⟨v16, rfl, g16⟩⟩⟩⟩⟩⟩⟩⟩⟩⟩⟩⟩⟩⟩⟩ := h
  obtain rfl := k25_openM s3
  exact ⟨v8, v9, v10, v11, v12, v13, v14, v15, v16, rfl, g8, g9, g10, g11, g12, g13, g14, g15, g16⟩
theorem k29_mk (w : World) (x : S29) {A8 : Option Addr} {c8 : Nat} (l8 : x.f6.length ≤ c8) (g8 : (Kd.int .i64).C w A8 x.f6.length x.f6) {A9 : Option Addr} {c9 : Nat} (l9 : x.f7.length ≤ c9) (g9 : (Kd.int .i64).C w A9 x.f7.length x.f7) {A10 : Option Addr} {c10 : Nat} (l10 : x.f8.length ≤ c10) (g10 : (Kd.int .i64).C w A10 x.f8.length x.f8) {A11 : Option Addr} {c11 : Nat} (l11 : x.f9.length ≤ c11) (g11 : k139.C w A11 x.f9.length x.f9) {A12 : Option Addr} {c12 : Nat} (l12 : x.f10.length ≤ c12) (g12 : (Kd.int .i64).C w A12 x.f10.length x.f10) {A13 : Option Addr} {c13 : Nat} (l13 : x.f11.length ≤ c13) (g13 : (Kd.int .i64).C w A13 x.f11.length x.f11) {A14 : Option Addr} {c14 : Nat} (l14 : x.f12.length ≤ c14) (g14 : (Kd.int .i64).C w A14 x.f12.length x.f12) {A15 : Option Addr} {c15 : Nat} (l15 : x.f13.length ≤ c15) (g15 : (Kd.int .i64).C w A15 x.f13.length x.f13) {A16 : Option Addr} {c16 : Nat} (l16 : x.f14.length ≤ c16) (g16 : (Kd.int .i64).C w A16 x.f14.length x.f14) : k29.K w x [.int .i64 x.f0, .int .i64 x.f1, .int .i64 x.f2, .int .i64 x.f3.f0, .int .i64 x.f3.f1, .string x.f3.f2, .bool x.f4, .int .i64 x.f5, .slice A8 x.f6.length c8, .slice A9 x.f7.length c9, .slice A10 x.f8.length c10, .slice A11 x.f9.length c11, .slice A12 x.f10.length c12, .slice A13 x.f11.length c13, .slice A14 x.f12.length c14, .slice A15 x.f13.length c15, .slice A16 x.f14.length c16] := ⟨[.int .i64 x.f0], [.int .i64 x.f1, .int .i64 x.f2, .int .i64 x.f3.f0, .int .i64 x.f3.f1, .string x.f3.f2, .bool x.f4, .int .i64 x.f5, .slice A8 x.f6.length c8, .slice A9 x.f7.length c9, .slice A10 x.f8.length c10, .slice A11 x.f9.length c11, .slice A12 x.f10.length c12, .slice A13 x.f11.length c13, .slice A14 x.f12.length c14, .slice A15 x.f13.length c15, .slice A16 x.f14.length c16], rfl, rfl, ⟨[.int .i64 x.f1], [.int .i64 x.f2, .int .i64 x.f3.f0, .int .i64 x.f3.f1, .string x.f3.f2, .bool x.f4, .int .i64 x.f5, .slice A8 x.f6.length c8, .slice A9 x.f7.length c9, .slice A10 x.f8.length c10, .slice A11 x.f9.length c11, .slice A12 x.f10.length c12, .slice A13 x.f11.length c13, .slice A14 x.f12.length c14, .slice A15 x.f13.length c15, .slice A16 x.f14.length c16], rfl, rfl, ⟨[.int .i64 x.f2], [.int .i64 x.f3.f0, .int .i64 x.f3.f1, .string x.f3.f2, .bool x.f4, .int .i64 x.f5, .slice A8 x.f6.length c8, .slice A9 x.f7.length c9, .slice A10 x.f8.length c10, .slice A11 x.f9.length c11, .slice A12 x.f10.length c12, .slice A13 x.f11.length c13, .slice A14 x.f12.length c14, .slice A15 x.f13.length c15, .slice A16 x.f14.length c16], rfl, rfl, ⟨[.int .i64 x.f3.f0, .int .i64 x.f3.f1, .string x.f3.f2], [.bool x.f4, .int .i64 x.f5, .slice A8 x.f6.length c8, .slice A9 x.f7.length c9, .slice A10 x.f8.length c10, .slice A11 x.f9.length c11, .slice A12 x.f10.length c12, .slice A13 x.f11.length c13, .slice A14 x.f12.length c14, .slice A15 x.f13.length c15, .slice A16 x.f14.length c16], rfl, (k25_mk w x.f3 ), ⟨[.bool x.f4], [.int .i64 x.f5, .slice A8 x.f6.length c8, .slice A9 x.f7.length c9, .slice A10 x.f8.length c10, .slice A11 x.f9.length c11, .slice A12 x.f10.length c12, .slice A13 x.f11.length c13, .slice A14 x.f12.length c14, .slice A15 x.f13.length c15, .slice A16 x.f14.length c16], rfl, rfl, ⟨[.int .i64 x.f5], [.slice A8 x.f6.length c8, .slice A9 x.f7.length c9, .slice A10 x.f8.length c10, .slice A11 x.f9.length c11, .slice A12 x.f10.length c12, .slice A13 x.f11.length c13, .slice A14 x.f12.length c14, .slice A15 x.f13.length c15, .slice A16 x.f14.length c16], rfl, rfl, ⟨[.slice A8 x.f6.length c8], [.slice A9 x.f7.length c9, .slice A10 x.f8.length c10, .slice A11 x.f9.length c11, .slice A12 x.f10.length c12, .slice A13 x.f11.length c13, .slice A14 x.f12.length c14, .slice A15 x.f13.length c15, .slice A16 x.f14.length c16], rfl, ⟨A8, c8, rfl, l8, g8⟩, ⟨[.slice A9 x.f7.length c9], [.slice A10 x.f8.length c10, .slice A11 x.f9.length c11, .slice A12 x.f10.length c12, .slice A13 x.f11.length c13, .slice A14 x.f12.length c14, .slice A15 x.f13.length c15, .slice A16 x.f14.length c16], rfl, ⟨A9, c9, rfl, l9, g9⟩, ⟨[.slice A10 x.f8.length c10], [.slice A11 x.f9.length c11, .slice A12 x.f10.length c12, .slice A13 x.f11.length c13, .slice A14 x.f12.length c14, .slice A15 x.f13.length c15, .slice A16 x.f14.length c16], rfl, ⟨A10, c10, rfl, l10, g10⟩, ⟨[.slice A11 x.f9.length c11], [.slice A12 x.f10.length c12, .slice A13 x.f11.length c13, .slice A14 x.f12.length c14, .slice A15 x.f13.length c15, .slice A16 x.f14.length c16], rfl, ⟨A11, c11, rfl, l11, g11⟩, ⟨[.slice A12 x.f10.length c12], [.slice A13 x.f11.length c13, .slice A14 x.f12.length c14, .slice A15 x.f13.length c15, .slice A16 x.f14.length c16], rfl, ⟨A12, c12, rfl, l12, g12⟩, ⟨[.slice A13 x.f11.length c13], [.slice A14 x.f12.length c14, .slice A15 x.f13.length c15, .slice A16 x.f14.length c16], rfl, ⟨A13, c13, rfl, l13, g13⟩, ⟨[.slice A14 x.f12.length c14], [.slice A15 x.f13.length c15, .slice A16 x.f14.length c16], rfl, ⟨A14, c14, rfl, l14, g14⟩, ⟨[.slice A15 x.f13.length c15], [.slice A16 x.f14.length c16], rfl, ⟨A15, c15, rfl, l15, g15⟩, ⟨A16, c16, rfl, l16, g16⟩⟩⟩⟩⟩⟩⟩⟩⟩⟩⟩⟩⟩⟩⟩
theorem k29_mkM (w : World) (base : Nat) (ok : Nat → Prop) (x : S29) {v8 : Value} (g8 : (Kd.int .i64).R 3 w base ok v8 x.f6) {v9 : Value} (g9 : (Kd.int .i64).R 3 w base ok v9 x.f7) {v10 : Value} (g10 : (Kd.int .i64).R 3 w base ok v10 x.f8) {v11 : Value} (g11 : k139.R 139 w base ok v11 x.f9) {v12 : Value} (g12 : (Kd.int .i64).R 3 w base ok v12 x.f10) {v13 : Value} (g13 : (Kd.int .i64).R 3 w base ok v13 x.f11) {v14 : Value} (g14 : (Kd.int .i64).R 3 w base ok v14 x.f12) {v15 : Value} (g15 : (Kd.int .i64).R 3 w base ok v15 x.f13) {v16 : Value} (g16 : (Kd.int .i64).R 3 w base ok v16 x.f14) : k29.M w base ok x [.int .i64 x.f0, .int .i64 x.f1, .int .i64 x.f2, .int .i64 x.f3.f0, .int .i64 x.f3.f1, .string x.f3.f2, .bool x.f4, .int .i64 x.f5, v8, v9, v10, v11, v12, v13, v14, v15, v16] := ⟨[.int .i64 x.f0], [.int .i64 x.f1, .int .i64 x.f2, .int .i64 x.f3.f0, .int .i64 x.f3.f1, .string x.f3.f2, .bool x.f4, .int .i64 x.f5, v8, v9, v10, v11, v12, v13, v14, v15, v16], rfl, rfl, ⟨[.int .i64 x.f1], [.int .i64 x.f2, .int .i64 x.f3.f0, .int .i64 x.f3.f1, .string x.f3.f2, .bool x.f4, .int .i64 x.f5, v8, v9, v10, v11, v12, v13, v14, v15, v16], rfl, rfl, ⟨[.int .i64 x.f2], [.int .i64 x.f3.f0, .int .i64 x.f3.f1, .string x.f3.f2, .bool x.f4, .int .i64 x.f5, v8, v9, v10, v11, v12, v13, v14, v15, v16], rfl, rfl, ⟨[.int .i64 x.f3.f0, .int .i64 x.f3.f1, .string x.f3.f2], [.bool x.f4, .int .i64 x.f5, v8, v9, v10, v11, v12, v13, v14, v15, v16], rfl, (k25_mkM w base ok x.f3 ), ⟨[.bool x.f4], [.int .i64 x.f5, v8, v9, v10, v11, v12, v13, v14, v15, v16], rfl, rfl, ⟨[.int .i64 x.f5], [v8, v9, v10, v11, v12, v13, v14, v15, v16], rfl, rfl, ⟨[v8], [v9, v10, v11, v12, v13, v14, v15, v16], rfl, ⟨v8, rfl, g8⟩, ⟨[v9], [v10, v11, v12, v13, v14, v15, v16], rfl, ⟨v9, rfl, g9⟩, ⟨[v10], [v11, v12, v13, v14, v15, v16], rfl, ⟨v10, rfl, g10⟩, ⟨[v11], [v12, v13, v14, v15, v16], rfl, ⟨v11, rfl, g11⟩, ⟨[v12], [v13, v14, v15, v16], rfl, ⟨v12, rfl, g12⟩, ⟨[v13], [v14, v15, v16], rfl, ⟨v13, rfl, g13⟩, ⟨[v14], [v15, v16], rfl, ⟨v14, rfl, g14⟩, ⟨[v15], [v16], rfl, ⟨v15, rfl, g15⟩, ⟨v16, rfl, g16⟩⟩⟩⟩⟩⟩⟩⟩⟩⟩⟩⟩⟩⟩⟩
theorem k29_openF {W : World} {ok : Nat → Prop} {x : S29} {cs : List Value} (h : Kd.FK k29 W ok x cs) : ∃ A8 c8 A9 c9 A10 c10 A11 c11 A12 c12 A13 c13 A14 c14 A15 c15 A16 c16, cs = [.int .i64 x.f0, .int .i64 x.f1, .int .i64 x.f2, .int .i64 x.f3.f0, .int .i64 x.f3.f1, .string x.f3.f2, .bool x.f4, .int .i64 x.f5, .slice A8 x.f6.length c8, .slice A9 x.f7.length c9, .slice A10 x.f8.length c10, .slice A11 x.f9.length c11, .slice A12 x.f10.length c12, .slice A13 x.f11.length c13, .slice A14 x.f12.length c14, .slice A15 x.f13.length c15, .slice A16 x.f14.length c16] ∧ x.f6.length ≤ c8 ∧ Kd.F (Kd.int .i64) W ok A8 x.f6.length x.f6 ∧ x.f7.length ≤ c9 ∧ Kd.F (Kd.int .i64) W ok A9 x.f7.length x.f7 ∧ x.f8.length ≤ c10 ∧ Kd.F (Kd.int .i64) W ok A10 x.f8.length x.f8 ∧ x.f9.length ≤ c11 ∧ Kd.F k139 W ok A11 x.f9.length x.f9 ∧ x.f10.length ≤ c12 ∧ Kd.F (Kd.int .i64) W ok A12 x.f10.length x.f10 ∧ x.f11.length ≤ c13 ∧ Kd.F (Kd.int .i64) W ok A13 x.f11.length x.f11 ∧ x.f12.length ≤ c14 ∧ Kd.F (Kd.int .i64) W ok A14 x.f12.length x.f12 ∧ x.f13.length ≤ c15 ∧ Kd.F (Kd.int .i64) W ok A15 x.f13.length x.f13 ∧ x.f14.length ≤ c16 ∧ Kd.F (Kd.int .i64) W ok A16 x.f14.length x.f14 := by
  obtain ⟨A8, c8, A9, c9, A10, c10, A11, c11, A12, c12, A13, c13, A14, c14, A15, c15, A16, c16, rfl, l8, _, l9, _, l10, _, l11, _, l12, _, l13, _, l14, _, l15, _, l16, _⟩ := k29_open (Kd.FK_now h)
  exact ⟨A8, c8, A9, c9, A10, c10, A11, c11, A12, c12, A13, c13, A14, c14, A15, c15, A16, c16, rfl, l8, (fun W' hW => by obtain ⟨A8_, c8_, A9_, c9_, A10_, c10_, A11_, c11_, A12_, c12_, A13_, c13_, A14_, c14_, A15_, c15_, A16_, c16_, he, l8_, g8_, l9_, g9_, l10_, g10_, l11_, g11_, l12_, g12_, l13_, g13_, l14_, g14_, l15_, g15_, l16_, g16_⟩ := k29_open (h W' hW); injection (Option.some.inj (show some (Value.slice A8 x.f6.length c8) = some (Value.slice A8_ x.f6.length c8_) from congrArg (fun l => l[8]?) he)) with ha_ _ _; rw [ha_]; exact g8_), l9, (fun W' hW => by obtain ⟨A8_, c8_, A9_, c9_, A10_, c10_, A11_, c11_, A12_, c12_, A13_, c13_, A14_, c14_, A15_, c15_, A16_, c16_, he, l8_, g8_, l9_, g9_, l10_, g10_, l11_, g11_, l12_, g12_, l13_, g13_, l14_, g14_, l15_, g15_, l16_, g16_⟩ := k29_open (h W' hW); injection (Option.some.inj (show some (Value.slice A9 x.f7.length c9) = some (Value.slice A9_ x.f7.length c9_) from congrArg (fun l => l[9]?) he)) with ha_ _ _; rw [ha_]; exact g9_), l10, (fun W' hW => by obtain ⟨A8_, c8_, A9_, c9_, A10_, c10_, A11_, c11_, A12_, c12_, A13_, c13_, A14_, c14_, A15_, c15_, A16_, c16_, he, l8_, g8_, l9_, g9_, l10_, g10_, l11_, g11_, l12_, g12_, l13_, g13_, l14_, g14_, l15_, g15_, l16_, g16_⟩ := k29_open (h W' hW); injection (Option.some.inj (show some (Value.slice A10 x.f8.length c10) = some (Value.slice A10_ x.f8.length c10_) from congrArg (fun l => l[10]?) he)) with ha_ _ _; rw [ha_]; exact g10_), l11, (fun W' hW => by obtain ⟨A8_, c8_, A9_, c9_, A10_, c10_, A11_, c11_, A12_, c12_, A13_, c13_, A14_, c14_, A15_, c15_, A16_, c16_, he, l8_, g8_, l9_, g9_, l10_, g10_, l11_, g11_, l12_, g12_, l13_, g13_, l14_, g14_, l15_, g15_, l16_, g16_⟩ := k29_open (h W' hW); injection (Option.some.inj (show some (Value.slice A11 x.f9.length c11) = some (Value.slice A11_ x.f9.length c11_) from congrArg (fun l => l[11]?) he)) with ha_ _ _; rw [ha_]; exact g11_), l12, (fun W' hW => by obtain ⟨A8_, c8_, A9_, c9_, A10_, c10_, A11_, c11_, A12_, c12_, A13_, c13_, A14_, c14_, A15_, c15_, A16_, c16_, he, l8_, g8_, l9_, g9_, l10_, g10_, l11_, g11_, l12_, g12_, l13_, g13_, l14_, g14_, l15_, g15_, l16_, g16_⟩ := k29_open (h W' hW); injection (Option.some.inj (show some (Value.slice A12 x.f10.length c12) = some (Value.slice A12_ x.f10.length c12_) from congrArg (fun l => l[12]?) he)) with ha_ _ _; rw [ha_]; exact g12_), l13, (fun W' hW => by obtain ⟨A8_, c8_, A9_, c9_, A10_, c10_, A11_, c11_, A12_, c12_, A13_, c13_, A14_, c14_, A15_, c15_, A16_, c16_, he, l8_, g8_, l9_, g9_, l10_, g10_, l11_, g11_, l12_, g12_, l13_, g13_, l14_, g14_, l15_, g15_, l16_, g16_⟩ := k29_open (h W' hW); injection (Option.some.inj (show some (Value.slice A13 x.f11.length c13) = some (Value.slice A13_ x.f11.length c13_) from congrArg (fun l => l[13]?) he)) with ha_ _ _; rw [ha_]; exact g13_), l14, (fun W' hW => by obtain ⟨A8_, c8_, A9_, c9_, A10_, c10_, A11_, c11_, A12_, c12_, A13_, c13_, A14_, c14_, A15_, c15_, A16_, c16_, he, l8_, g8_, l9_, g9_, l10_, g10_, l11_, g11_, l12_, g12_, l13_, g13_, l14_, g14_, l15_, g15_, l16_, g16_⟩ := k29_open (h W' hW); injection (Option.some.inj (show some (Value.slice A14 x.f12.length c14) = some (Value.slice A14_ x.f12.length c14_) from congrArg (fun l => l[14]?) he)) with ha_ _ _; rw [ha_]; exact g14_), l15, (fun W' hW => by obtain ⟨A8_, c8_, A9_, c9_, A10_, c10_, A11_, c11_, A12_, c12_, A13_, c13_, A14_, c14_, A15_, c15_, A16_, c16_, he, l8_, g8_, l9_, g9_, l10_, g10_, l11_, g11_, l12_, g12_, l13_, g13_, l14_, g14_, l15_, g15_, l16_, g16_⟩ := k29_open (h W' hW); injection (Option.some.inj (show some (Value.slice A15 x.f13.length c15) = some (Value.slice A15_ x.f13.length c15_) from congrArg (fun l => l[15]?) he)) with ha_ _ _; rw [ha_]; exact g15_), l16, (fun W' hW => by obtain ⟨A8_, c8_, A9_, c9_, A10_, c10_, A11_, c11_, A12_, c12_, A13_, c13_, A14_, c14_, A15_, c15_, A16_, c16_, he, l8_, g8_, l9_, g9_, l10_, g10_, l11_, g11_, l12_, g12_, l13_, g13_, l14_, g14_, l15_, g15_, l16_, g16_⟩ := k29_open (h W' hW); injection (Option.some.inj (show some (Value.slice A16 x.f14.length c16) = some (Value.slice A16_ x.f14.length c16_) from congrArg (fun l => l[16]?) he)) with ha_ _ _; rw [ha_]; exact g16_)⟩
theorem k29_mkF (W : World) (ok : Nat → Prop) (x : S29) {A8 : Option Addr} {c8 : Nat} (l8 : x.f6.length ≤ c8) (g8 : Kd.F (Kd.int .i64) W ok A8 x.f6.length x.f6) {A9 : Option Addr} {c9 : Nat} (l9 : x.f7.length ≤ c9) (g9 : Kd.F (Kd.int .i64) W ok A9 x.f7.length x.f7) {A10 : Option Addr} {c10 : Nat} (l10 : x.f8.length ≤ c10) (g10 : Kd.F (Kd.int .i64) W ok A10 x.f8.length x.f8) {A11 : Option Addr} {c11 : Nat} (l11 : x.f9.length ≤ c11) (g11 : Kd.F k139 W ok A11 x.f9.length x.f9) {A12 : Option Addr} {c12 : Nat} (l12 : x.f10.length ≤ c12) (g12 : Kd.F (Kd.int .i64) W ok A12 x.f10.length x.f10) {A13 : Option Addr} {c13 : Nat} (l13 : x.f11.length ≤ c13) (g13 : Kd.F (Kd.int .i64) W ok A13 x.f11.length x.f11) {A14 : Option Addr} {c14 : Nat} (l14 : x.f12.length ≤ c14) (g14 : Kd.F (Kd.int .i64) W ok A14 x.f12.length x.f12) {A15 : Option Addr} {c15 : Nat} (l15 : x.f13.length ≤ c15) (g15 : Kd.F (Kd.int .i64) W ok A15 x.f13.length x.f13) {A16 : Option Addr} {c16 : Nat} (l16 : x.f14.length ≤ c16) (g16 : Kd.F (Kd.int .i64) W ok A16 x.f14.length x.f14) : Kd.FK k29 W ok x [.int .i64 x.f0, .int .i64 x.f1, .int .i64 x.f2, .int .i64 x.f3.f0, .int .i64 x.f3.f1, .string x.f3.f2, .bool x.f4, .int .i64 x.f5, .slice A8 x.f6.length c8, .slice A9 x.f7.length c9, .slice A10 x.f8.length c10, .slice A11 x.f9.length c11, .slice A12 x.f10.length c12, .slice A13 x.f11.length c13, .slice A14 x.f12.length c14, .slice A15 x.f13.length c15, .slice A16 x.f14.length c16] := fun W2 hW => k29_mk W2 x l8 (g8 W2 hW) l9 (g9 W2 hW) l10 (g10 W2 hW) l11 (g11 W2 hW) l12 (g12 W2 hW) l13 (g13 W2 hW) l14 (g14 W2 hW) l15 (g15 W2 hW) l16 (g16 W2 hW)
def rd_T29 (xs : List S29) (i : Int) : S29 := xs.getD i.toNat z29
theorem at_T29 {w : World} {A : Option Addr} {n : Nat} {xs : List S29} (h : Kd.C k29 w A n xs) (i : Int) (h0 : 0 ≤ i) (h1 : i < n) : ∃ ad A8 c8 A9 c9 A10 c10 A11 c11 A12 c12 A13 c13 A14 c14 A15 c15 A16 c16, A = some ad ∧ w.cell? (ad.add (i.toNat * 17)) = some (.int .i64 (rd_T29 xs i).f0) ∧ w.cell? ⟨(ad.add (i.toNat * 17)).block, (ad.add (i.toNat * 17)).off + 1, none⟩ = some (.int .i64 (rd_T29 xs i).f1) ∧ w.cell? ⟨(ad.add (i.toNat * 17)).block, (ad.add (i.toNat * 17)).off + 2, none⟩ = some (.int .i64 (rd_T29 xs i).f2) ∧ w.cell? ⟨(ad.add (i.toNat * 17)).block, (ad.add (i.toNat * 17)).off + 3, none⟩ = some (.int .i64 (rd_T29 xs i).f3.f0) ∧ w.cell? ⟨(ad.add (i.toNat * 17)).block, (ad.add (i.toNat * 17)).off + 4, none⟩ = some (.int .i64 (rd_T29 xs i).f3.f1) ∧ w.cell? ⟨(ad.add (i.toNat * 17)).block, (ad.add (i.toNat * 17)).off + 5, none⟩ = some (.string (rd_T29 xs i).f3.f2) ∧ w.cell? ⟨(ad.add (i.toNat * 17)).block, (ad.add (i.toNat * 17)).off + 6, none⟩ = some (.bool (rd_T29 xs i).f4) ∧ w.cell? ⟨(ad.add (i.toNat * 17)).block, (ad.add (i.toNat * 17)).off + 7, none⟩ = some (.int .i64 (rd_T29 xs i).f5) ∧ w.cell? ⟨(ad.add (i.toNat * 17)).block, (ad.add (i.toNat * 17)).off + 8, none⟩ = some (.slice A8 (rd_T29 xs i).f6.length c8) ∧ w.cell? ⟨(ad.add (i.toNat * 17)).block, (ad.add (i.toNat * 17)).off + 9, none⟩ = some (.slice A9 (rd_T29 xs i).f7.length c9) ∧ w.cell? ⟨(ad.add (i.toNat * 17)).block, (ad.add (i.toNat * 17)).off + 10, none⟩ = some (.slice A10 (rd_T29 xs i).f8.length c10) ∧ w.cell? ⟨(ad.add (i.toNat * 17)).block, (ad.add (i.toNat * 17)).off + 11, none⟩ = some (.slice A11 (rd_T29 xs i).f9.length c11) ∧ w.cell? ⟨(ad.add (i.toNat * 17)).block, (ad.add (i.toNat * 17)).off + 12, none⟩ = some (.slice A12 (rd_T29 xs i).f10.length c12) ∧ w.cell? ⟨(ad.add (i.toNat * 17)).block, (ad.add (i.toNat * 17)).off + 13, none⟩ = some (.slice A13 (rd_T29 xs i).f11.length c13) ∧ w.cell? ⟨(ad.add (i.toNat * 17)).block, (ad.add (i.toNat * 17)).off + 14, none⟩ = some (.slice A14 (rd_T29 xs i).f12.length c14) ∧ w.cell? ⟨(ad.add (i.toNat * 17)).block, (ad.add (i.toNat * 17)).off + 15, none⟩ = some (.slice A15 (rd_T29 xs i).f13.length c15) ∧ w.cell? ⟨(ad.add (i.toNat * 17)).block, (ad.add (i.toNat * 17)).off + 16, none⟩ = some (.slice A16 (rd_T29 xs i).f14.length c16) ∧ (rd_T29 xs i).f6.length ≤ c8 ∧ (Kd.int .i64).C w A8 (rd_T29 xs i).f6.length (rd_T29 xs i).f6 ∧ (rd_T29 xs i).f7.length ≤ c9 ∧ (Kd.int .i64).C w A9 (rd_T29 xs i).f7.length (rd_T29 xs i).f7 ∧ (rd_T29 xs i).f8.length ≤ c10 ∧ (Kd.int .i64).C w A10 (rd_T29 xs i).f8.length (rd_T29 xs i).f8 ∧ (rd_T29 xs i).f9.length ≤ c11 ∧ k139.C w A11 (rd_T29 xs i).f9.length (rd_T29 xs i).f9 ∧ (rd_T29 xs i).f10.length ≤ c12 ∧ (Kd.int .i64).C w A12 (rd_T29 xs i).f10.length (rd_T29 xs i).f10 ∧ (rd_T29 xs i).f11.length ≤ c13 ∧ (Kd.int .i64).C w A13 (rd_T29 xs i).f11.length (rd_T29 xs i).f11 ∧ (rd_T29 xs i).f12.length ≤ c14 ∧ (Kd.int .i64).C w A14 (rd_T29 xs i).f12.length (rd_T29 xs i).f12 ∧ (rd_T29 xs i).f13.length ≤ c15 ∧ (Kd.int .i64).C w A15 (rd_T29 xs i).f13.length (rd_T29 xs i).f13 ∧ (rd_T29 xs i).f14.length ≤ c16 ∧ (Kd.int .i64).C w A16 (rd_T29 xs i).f14.length (rd_T29 xs i).f14 := by
  obtain ⟨ad, c, e, _, hK, hc0⟩ := Kd.C_get h z29 i h0 h1
  have hc : ∀ j u, c[j]? = some u → w.cell? (ad.add (i.toNat * 17 + j)) = some u := hc0
  obtain ⟨A8, c8, A9, c9, A10, c10, A11, c11, A12, c12, A13, c13, A14, c14, A15, c15, A16, c16, rfl, l8, g8, l9, g9, l10, g10, l11, g11, l12, g12, l13, g13, l14, g14, l15, g15, l16, g16⟩ := k29_open hK
  exact ⟨ad, A8, c8, A9, c9, A10, c10, A11, c11, A12, c12, A13, c13, A14, c14, A15, c15, A16, c16, e, hc 0 _ rfl, by rw [← add_field _ _ 1 (by omega)]; exact hc 1 _ rfl, by rw [← add_field _ _ 2 (by omega)]; exact hc 2 _ rfl, by rw [← add_field _ _ 3 (by omega)]; exact hc 3 _ rfl, by rw [← add_field _ _ 4 (by omega)]; exact hc 4 _ rfl, by rw [← add_field _ _ 5 (by omega)]; exact hc 5 _ rfl, by rw [← add_field _ _ 6 (by omega)]; exact hc 6 _ rfl, by rw [← add_field _ _ 7 (by omega)]; exact hc 7 _ rfl, by rw [← add_field _ _ 8 (by omega)]; exact hc 8 _ rfl, by rw [← add_field _ _ 9 (by omega)]; exact hc 9 _ rfl, by rw [← add_field _ _ 10 (by omega)]; exact hc 10 _ rfl, by rw [← add_field _ _ 11 (by omega)]; exact hc 11 _ rfl, by rw [← add_field _ _ 12 (by omega)]; exact hc 12 _ rfl, by rw [← add_field _ _ 13 (by omega)]; exact hc 13 _ rfl, by rw [← add_field _ _ 14 (by omega)]; exact hc 14 _ rfl, by rw [← add_field _ _ 15 (by omega)]; exact hc 15 _ rfl, by rw [← add_field _ _ 16 (by omega)]; exact hc 16 _ rfl, l8, g8, l9, g9, l10, g10, l11, g11, l12, g12, l13, g13, l14, g14, l15, g15, l16, g16⟩

def rd_L13 (xs : List (List Int)) (i : Int) : (List Int) := xs.getD i.toNat ([] : List Int)
theorem at_L13 {w : World} {A : Option Addr} {n : Nat} {xs : List (List Int)} (h : Kd.C (Kd.slice 2 (Kd.int .i64)) w A n xs) (i : Int) (h0 : 0 ≤ i) (h1 : i < n) : ∃ ad A0 c0, A = some ad ∧ w.cell? (ad.add i.toNat) = some (.slice A0 (rd_L13 xs i).length c0) ∧ (rd_L13 xs i).length ≤ c0 ∧ (Kd.int .i64).C w A0 (rd_L13 xs i).length (rd_L13 xs i) := by
  obtain ⟨ad, c, e, _, hK, hc0⟩ := Kd.C_get h ([] : List Int) i h0 h1
  have hc : ∀ j u, c[j]? = some u → w.cell? (ad.add (i.toNat * 1 + j)) = some u := hc0
  obtain ⟨A0, c0, rfl, l0, g0⟩ := hK
  exact ⟨ad, A0, c0, e, by have hq := hc 0 _ rfl; rwa [Nat.mul_one, Nat.add_zero] at hq, l0, g0⟩

/-! #### struct type 129 -/
structure S129 where
  f0 : Int
  f1 : Int
  f2 : Int
  f3 : Bool
  f4 : S29
  f5 : (List Int)
def z129 : S129 := ⟨(0 : Int), (0 : Int), (0 : Int), false, z29, ([] : List Int)⟩
def k129 : Kd S129 := Kd.iso (Kd.pair (Kd.int .i64) (Kd.pair (Kd.int .i64) (Kd.pair (Kd.int .i64) (Kd.pair Kd.bool (Kd.pair k29 (Kd.slice 2 (Kd.int .i64))))))) (fun x : S129 => (x.f0, x.f1, x.f2, x.f3, x.f4, x.f5))
theorem k129_open {w : World} {x : S129} {cs : List Value} (h : k129.K w x cs) : ∃ A12 c12 A13 c13 A14 c14 A15 c15 A16 c16 A17 c17 A18 c18 A19 c19 A20 c20 A21 c21, cs = [.int .i64 x.f0, .int .i64 x.f1, .int .i64 x.f2, .bool x.f3, .int .i64 x.f4.f0, .int .i64 x.f4.f1, .int .i64 x.f4.f2, .int .i64 x.f4.f3.f0, .int .i64 x.f4.f3.f1, .string x.f4.f3.f2, .bool x.f4.f4, .int .i64 x.f4.f5, .slice A12 x.f4.f6.length c12, .slice A13 x.f4.f7.length c13, .slice A14 x.f4.f8.length c14, .slice A15 x.f4.f9.length c15, .slice A16 x.f4.f10.length c16, .slice A17 x.f4.f11.length c17, .slice A18 x.f4.f12.length c18, .slice A19 x.f4.f13.length c19, .slice A20 x.f4.f14.length c20, .slice A21 x.f5.length c21] ∧ x.f4.f6.length ≤ c12 ∧ (Kd.int .i64).C w A12 x.f4.f6.length x.f4.f6 ∧ x.f4.f7.length ≤ c13 ∧ (Kd.int .i64).C w A13 x.f4.f7.length x.f4.f7 ∧ x.f4.f8.length ≤ c14 ∧ (Kd.int .i64).C w A14 x.f4.f8.length x.f4.f8 ∧ x.f4.f9.length ≤ c15 ∧ k139.C w A15 x.f4.f9.length x.f4.f9 ∧ x.f4.f10.length ≤ c16 ∧ (Kd.int .i64).C w A16 x.f4.f10.length x.f4.f10 ∧ x.f4.f11.length ≤ c17 ∧ (Kd.int .i64).C w A17 x.f4.f11.length x.f4.f11 ∧ x.f4.f12.length ≤ c18 ∧ (Kd.int .i64).C w A18 x.f4.f12.length x.f4.f12 ∧ x.f4.f13.length ≤ c19 ∧ (Kd.int .i64).C w A19 x.f4.f13.length x.f4.f13 ∧ x.f4.f14.length ≤ c20 ∧ (Kd.int .i64).C w A20 x.f4.f14.length x.f4.f14 ∧ x.f5.length ≤ c21 ∧ (Kd.int .i64).C w A21 x.f5.length x.f5 := by
  obtain ⟨_, _, rfl, rfl, ⟨_, _, rfl, rfl, ⟨_, _, rfl, rfl, ⟨_, _, rfl, rfl, ⟨_, _, rfl, s4, ⟨A21, c21, rfl, l21, g21⟩⟩⟩⟩⟩⟩ := h
  obtain ⟨A12, c12, A13, c13, A14, c14, A15, c15, A16, c16, A17, c17, A18, c18, A19, c19, A20, c20, rfl, l12, g12, l13, g13, l14, g14, l15, g15, l16, g16, l17, g17, l18, g18, l19, g19, l20, g20⟩ := k29_open s4
  exact ⟨A12, c12, A13, c13, A14, c14, A15, c15, A16, c16, A17, c17, A18, c18, A19, c19, A20, c20, A21, c21, rfl, l12, g12, l13, g13, l14, g14, l15, g15, l16, g16, l17, g17, l18, g18, l19, g19, l20, g20, l21, g21⟩
theorem k129_openM {w : World} {base : Nat} {ok : Nat → Prop} {x : S129} {cs : List Value} (h : k129.M w base ok x cs) : ∃ v12 v13 v14 v15 v16 v17 v18 v19 v20 v21, cs = [.int .i64 x.f0, .int .i64 x.f1, .int .i64 x.f2, .bool x.f3, .int .i64 x.f4.f0, .int .i64 x.f4.f1, .int .i64 x.f4.f2, .int .i64 x.f4.f3.f0, .int .i64 x.f4.f3.f1, .string x.f4.f3.f2, .bool x.f4.f4, .int .i64 x.f4.f5, v12, v13, v14, v15, v16, v17, v18, v19, v20, v21] ∧ (Kd.int .i64).R 3 w base ok v12 x.f4.f6 ∧ (Kd.int .i64).R 3 w base ok v13 x.f4.f7 ∧ (Kd.int .i64).R 3 w base ok v14 x.f4.f8 ∧ k139.R 139 w base ok v15 x.f4.f9 ∧ (Kd.int .i64).R 3 w base ok v16 x.f4.f10 ∧ (Kd.int .i64).R 3 w base ok v17 x.f4.f11 ∧ (Kd.int .i64).R 3 w base ok v18 x.f4.f12 ∧ (Kd.int .i64).R 3 w base ok v19 x.f4.f13 ∧ (Kd.int .i64).R 3 w base ok v20 x.f4.f14 ∧ (Kd.int .i64).R 2 w base ok v21 x.f5 := by
  obtain ⟨_, _, rfl, rfl, ⟨_, _, rfl, rfl, ⟨_, _, rfl, rfl, ⟨_, _, rfl, rfl, ⟨_, _, rfl, s4, ⟨v21, rfl, g21⟩⟩⟩⟩⟩⟩ := h
  obtain ⟨v12, v13, v14, v15, v16, v17, v18, v19, v20, rfl, g12, g13, g14, g15, g16, g17, g18, g19, g20⟩ := k29_openM s4
  exact ⟨v12, v13, v14, v15, v16, v17, v18, v19, v20, v21, rfl, g12, g13, g14, g15, g16, g17, g18, g19, g20, g21⟩
theorem k129_mk (w : World) (x : S129) {A12 : Option Addr} {c12 : Nat} (l12 : x.f4.f6.length ≤ c12) (g12 : (Kd.int .i64).C w A12 x.f4.f6.length x.f4.f6) {A13 : Option Addr} {c13 : Nat} (l13 : x.f4.f7.length ≤ c13) (g13 : (Kd.int .i64).C w A13 x.f4.f7.length x.f4.f7) {A14 : Option Addr} {c14 : Nat} (l14 : x.f4.f8.length ≤ c14) (g14 : (Kd.int .i64).C w A14 x.f4.f8.length x.f4.f8) {A15 : Option Addr} {c15 : Nat} (l15 : x.f4.f9.length ≤ c15) (g15 : k139.C w A15 x.f4.f9.length x.f4.f9) {A16 : Option Addr} {c16 : Nat} (l16 : x.f4.f10.length ≤ c16) (g16 : (Kd.int .i64).C w A16 x.f4.f10.length x.f4.f10) {A17 : Option Addr} {c17 : Nat} (l17 : x.f4.f11.length ≤ c17) (g17 : (Kd.int .i64).C w A17 x.f4.f11.length x.f4.f11) {A18 : Option Addr} {c18 : Nat} (l18 : x.f4.f12.length ≤ c18) (g18 : (Kd.int .i64).C w A18 x.f4.f12.length x.f4.f12) {A19 : Option Addr} {c19 : Nat} (l19 : x.f4.f13.length ≤ c19) (g19 : (Kd.int .i64).C w A19 x.f4.f13.length x.f4.f13) {A20 : Option Addr} {c20 : Nat} (l20 : x.f4.f14.length ≤ c20) (g20 : (Kd.int .i64).C w A20 x.f4.f14.length x.f4.f14) {A21 : Option Addr} {c21 : Nat} (l21 : x.f5.length ≤ c21) (g21 : (Kd.int .i64).C w A21 x.f5.length x.f5) : k129.K w x [.int .i64 x.f0, .int .i64 x.f1, .int .i64 x.f2, .bool x.f3, .int .i64 x.f4.f0, .int .i64 x.f4.f1, .int .i64 x.f4.f2, .int .i64 x.f4.f3.f0, .int .i64 x.f4.f3.f1, .string x.f4.f3.f2, .bool x.f4.f4, .int .i64 x.f4.f5, .slice A12 x.f4.f6.length c12, .slice A13 x.f4.f7.length c13, .slice A14 x.f4.f8.length c14, .slice A15 x.f4.f9.length c15, .slice A16 x.f4.f10.length c16, .slice A17 x.f4.f11.length c17, .slice A18 x.f4.f12.length c18, .slice A19 x.f4.f13.length c19, .slice A20 x.f4.f14.length c20, .slice A21 x.f5.length c21] := ⟨[.int .i64 x.f0], [.int .i64 x.f1, .int .i64 x.f2, .bool x.f3, .int .i64 x.f4.f0, .int .i64 x.f4.f1, .int .i64 x.f4.f2, .int .i64 x.f4.f3.f0, .int .i64 x.f4.f3.f1, .string x.f4.f3.f2, .bool x.f4.f4, .int .i64 x.f4.f5, .slice A12 x.f4.f6.length c12, .slice A13 x.f4.f7.length c13, .slice A14 x.f4.f8.length c14, .slice A15 x.f4.f9.length c15, .slice A16 x.f4.f10.length c16, .slice A17 x.f4.f11.length c17, .slice A18 x.f4.f12.length c18, .slice A19 x.f4.f13.length c19, .slice A20 x.f4.f14.length c20, .slice A21 x.f5.length c21], rfl, rfl, ⟨[.int .i64 x.f1], [.int .i64 x.f2, .bool x.f3, .int .i64 x.f4.f0, .int .i64 x.f4.f1, .int .i64 x.f4.f2, .int .i64 x.f4.f3.f0, .int .i64 x.f4.f3.f1, .string x.f4.f3.f2, .bool x.f4.f4, .int .i64 x.f4.f5, .slice A12 x.f4.f6.length c12, .slice A13 x.f4.f7.length c13, .slice A14 x.f4.f8.length c14, .slice A15 x.f4.f9.length c15, .slice A16 x.f4.f10.length c16, .slice A17 x.f4.f11.length c17, .slice A18 x.f4.f12.length c18, .slice A19 x.f4.f13.length c19, .slice A20 x.f4.f14.length c20, .slice A21 x.f5.length c21], rfl, rfl, ⟨[.int .i64 x.f2], [.bool x.f3, .int .i64 x.f4.f0, .int .i64 x.f4.f1, .int .i64 x.f4.f2, .int .i64 x.f4.f3.f0, .int .i64 x.f4.f3.f1, .string x.f4.f3.f2, .bool x.f4.f4, .int .i64 x.f4.f5, .slice A12 x.f4.f6.length c12, .slice A13 x.f4.f7.length c13, .slice A14 x.f4.f8.length c14, .slice A15 x.f4.f9.length c15, .slice A16 x.f4.f10.length c16, .slice A17 x.f4.f11.length c17, .slice A18 x.f4.f12.length c18, .slice A19 x.f4.f13.length c19, .slice A20 x.f4.f14.length c20, .slice A21 x.f5.length c21], rfl, rfl, ⟨[.bool x.f3], [.int .i64 x.f4.f0, .int .i64 x.f4.f1, .int .i64 x.f4.f2, .int .i64 x.f4.f3.f0, .int .i64 x.f4.f3.f1, .string x.f4.f3.f2, .bool x.f4.f4, .int .i64 x.f4.f5, .slice A12 x.f4.f6.length c12, .slice A13 x.f4.f7.length c13, .slice A14 x.f4.f8.length c14, .slice A15 x.f4.f9.length c15, .slice A16 x.f4.f10.length c16, .slice A17 x.f4.f11.length c17, .slice A18 x.f4.f12.length c18, .slice A19 x.f4.f13.length c19, .slice A20 x.f4.f14.length c20, .slice A21 x.f5.length c21], rfl, rfl, ⟨[.int .i64 x.f4.f0, .int .i64 x.f4.f1, .int .i64 x.f4.f2, .int .i64 x.f4.f3.f0, .int .i64 x.f4.f3.f1, .string x.f4.f3.f2, .bool x.f4.f4, .int .i64 x.f4.f5, .slice A12 x.f4.f6.length c12, .slice A13 x.f4.f7.length c13, .slice A14 x.f4.f8.length c14, .slice A15 x.f4.f9.length c15, .slice A16 x.f4.f10.length c16, .slice A17 x.f4.f11.length c17, .slice A18 x.f4.f12.length c18, .slice A19 x.f4.f13.length c19, .slice A20 x.f4.f14.length c20], [.slice A21 x.f5.length c21], rfl, (k29_mk w x.f4 l12 g12 l13 g13 l14 g14 l15 g15 l16 g16 l17 g17 l18 g18 l19 g19 l20 g20), ⟨A21, c21, rfl, l21, g21⟩⟩⟩⟩⟩⟩
theorem k129_mkM (w : World) (base : Nat) (ok : Nat → Prop) (x : S129) {v12 : Value} (g12 : (Kd.int .i64).R 3 w base ok v12 x.f4.f6) {v13 : Value} (g13 : (Kd.int .i64).R 3 w base ok v13 x.f4.f7) {v14 : Value} (g14 : (Kd.int .i64).R 3 w base ok v14 x.f4.f8) {v15 : Value} (g15 : k139.R 139 w base ok v15 x.f4.f9) {v16 : Value} (g16 : (Kd.int .i64).R 3 w base ok v16 x.f4.f10) {v17 : Value} (g17 : (Kd.int .i64).R 3 w base ok v17 x.f4.f11) {v18 : Value} (g18 : (Kd.int .i64).R 3 w base ok v18 x.f4.f12) {v19 : Value} (g19 : (Kd.int .i64).R 3 w base ok v19 x.f4.f13) {v20 : Value} (g20 : (Kd.int .i64).R 3 w base ok v20 x.f4.f14) {v21 : Value} (g21 : (Kd.int .i64).R 2 w base ok v21 x.f5) : k129.M w base ok x [.int .i64 x.f0, .int .i64 x.f1, .int .i64 x.f2, .bool x.f3, .int .i64 x.f4.f0, .int .i64 x.f4.f1, .int .i64 x.f4.f2, .int .i64 x.f4.f3.f0, .int .i64 x.f4.f3.f1, .string x.f4.f3.f2, .bool x.f4.f4, .int .i64 x.f4.f5, v12, v13, v14, v15, v16, v17, v18, v19, v20, v21] := ⟨[.int .i64 x.f0], [.int .i64 x.f1, .int .i64 x.f2, .bool x.f3, .int .i64 x.f4.f0, .int .i64 x.f4.f1, .int .i64 x.f4.f2, .int .i64 x.f4.f3.f0, .int .i64 x.f4.f3.f1, .string x.f4.f3.f2, .bool x.f4.f4, .int .i64 x.f4.f5, v12, v13, v14, v15, v16, v17, v18, v19, v20, v21], rfl, rfl, ⟨[.int .i64 x.f1], [.int .i64 x.f2, .bool x.f3, .int .i64 x.f4.f0, .int .i64 x.f4.f1, .int .i64 x.f4.f2, .int .i64 x.f4.f3.f0, .int .i64 x.f4.f3.f1, .string x.f4.f3.f2, .bool x.f4.f4, .int .i64 x.f4.f5, v12, v13, v14, v15, v16, v17, v18, v19, v20, v21], rfl, rfl, ⟨[.int .i64 x.f2], [.bool x.f3, .int .i64 x.f4.f0, .int .i64 x.f4.f1, .int .i64 x.f4.f2, .int .i64 x.f4.f3.f0, .int .i64 x.f4.f3.f1, .string x.f4.f3.f2, .bool x.f4.f4, .int .i64 x.f4.f5, v12, v13, v14, v15, v16, v17, v18, v19, v20, v21], rfl, rfl, ⟨[.bool x.f3], [.int .i64 x.f4.f0, .int .i64 x.f4.f1, .int .i64 x.f4.f2, .int .i64 x.f4.f3.f0, .int .i64 x.f4.f3.f1, .string x.f4.f3.f2, .bool x.f4.f4, .int .i64 x.f4.f5, v12, v13, v14, v15, v16, v17, v18, v19, v20, v21], rfl, rfl, ⟨[.int .i64 x.f4.f0, .int .i64 x.f4.f1, .int .i64 x.f4.f2, .int .i64 x.f4.f3.f0, .int .i64 x.f4.f3.f1, .string x.f4.f3.f2, .bool x.f4.f4, .int .i64 x.f4.f5, v12, v13, v14, v15, v16, v17, v18, v19, v20], [v21], rfl, (k29_mkM w base ok x.f4 g12 g13 g14 g15 g16 g17 g18 g19 g20), ⟨v21, rfl, g21⟩⟩⟩⟩⟩⟩
theorem k129_openF {W : World} {ok : Nat → Prop} {x : S129} {cs : List Value} (h : Kd.FK k129 W ok x cs) : ∃ A12 c12 A13 c13 A14 c14 A15 c15 A16 c16 A17 c17 A18 c18 A19 c19 A20 c20 A21 c21, cs = [.int .i64 x.f0, .int .i64 x.f1, .int .i64 x.f2, .bool x.f3, .int .i64 x.f4.f0, .int .i64 x.f4.f1, .int .i64 x.f4.f2, .int .i64 x.f4.f3.f0, .int .i64 x.f4.f3.f1, .string x.f4.f3.f2, .bool x.f4.f4, .int .i64 x.f4.f5, .slice A12 x.f4.f6.length c12, .slice A13 x.f4.f7.length c13, .slice A14 x.f4.f8.length c14, .slice A15 x.f4.f9.length c15, .slice A16 x.f4.f10.length c16, .slice A17 x.f4.f11.length c17, .slice A18 x.f4.f12.length c18, .slice A19 x.f4.f13.length c19, .slice A20 x.f4.f14.length c20, .slice A21 x.f5.length c21] ∧ x.f4.f6.length ≤ c12 ∧ Kd.F (Kd.int .i64) W ok A12 x.f4.f6.length x.f4.f6 ∧ x.f4.f7.length ≤ c13 ∧ Kd.F (Kd.int .i64) W ok A13 x.f4.f7.length x.f4.f7 ∧ x.f4.f8.length ≤ c14 ∧ Kd.F (Kd.int .i64) W ok A14 x.f4.f8.length x.f4.f8 ∧ x.f4.f9.length ≤ c15 ∧ Kd.F k139 W ok A15 x.f4.f9.length x.f4.f9 ∧ x.f4.f10.length ≤ c16 ∧ Kd.F (Kd.int .i64) W ok A16 x.f4.f10.length x.f4.f10 ∧ x.f4.f11.length ≤ c17 ∧ Kd.F (Kd.int .i64) W ok A17 x.f4.f11.length x.f4.f11 ∧ x.f4.f12.length ≤ c18 ∧ Kd.F (Kd.int .i64) W ok A18 x.f4.f12.length x.f4.f12 ∧ x.f4.f13.length ≤ c19 ∧ Kd.F (Kd.int .i64) W ok A19 x.f4.f13.length x.f4.f13 ∧ x.f4.f14.length ≤ c20 ∧ Kd.F (Kd.int .i64) W ok A20 x.f4.f14.length x.f4.f14 ∧ x.f5.length ≤ c21 ∧ Kd.F (Kd.int .i64) W ok A21 x.f5.length x.f5 := by
  obtain ⟨A12, c12, A13, c13, A14, c14, A15, c15, A16, c16, A17, c17, A18, c18, A19, c19, A20, c20, A21, c21, rfl, l12, _, l13, _, l14, _, l15, _, l16, _, l17, _, l18, _, l19, _, l20, _, l21, _⟩ := k129_open (Kd.FK_now h)
  exact ⟨A12, c12, A13, c13, A14, c14, A15, c15, A16, c16, A17, c17, A18, c18, A19, c19, A20, c20, A21, c21, rfl, l12, (fun W' hW => by obtain ⟨A12_, c12_, A13_, c13_, A14_, c14_, A15_, c15_, A16_, c16_, A17_, c17_, A18_, c18_, A19_, c19_, A20_, c20_, A21_, c21_, he, l12_, g12_, l13_, g13_, l14_, g14_, l15_, g15_, l16_, g16_, l17_, g17_, l18_, g18_, l19_, g19_, l20_, g20_, l21_, g21_⟩ := k129_open (h W' hW); injection (Option.some.inj (show some (Value.slice A12 x.f4.f6.length c12) = some (Value.slice A12_ x.f4.f6.length c12_) from congrArg (fun l => l[12]?) he)) with ha_ _ _; rw [ha_]; exact g12_), l13, (fun W' hW => by obtain ⟨A12_, c12_, A13_, c13_, A14_, c14_, A15_, c15_, A16_, c16_, A17_, c17_, A18_, c18_, A19_, c19_, A20_, c20_, A21_, c21_, he, l12_, g12_, l13_, g13_, l14_, g14_, l15_, g15_, l16_, g16_, l17_, g17_, l18_, g18_, l19_, g19_, l20_, g20_, l21_, g21_⟩ := k129_open (h W' hW); injection (Option.some.inj (show some (Value.slice A13 x.f4.f7.length c13) = some (Value.slice A13_ x.f4.f7.length c13_) from congrArg (fun l => l[13]?) he)) with ha_ _ _; rw [ha_]; exact g13_), l14, (fun W' hW => by obtain ⟨A12_, c12_, A13_, c13_, A14_, c14_, A15_, c15_, A16_, c16_, A17_, c17_, A18_, c18_, A19_, c19_, A20_, c20_, A21_, c21_, he, l12_, g12_, l13_, g13_, l14_, g14_, l15_, g15_, l16_, g16_, l17_, g17_, l18_, g18_, l19_, g19_, l20_, g20_, l21_, g21_⟩ := k129_open (h W' hW); injection (Option.some.inj (show some (Value.slice A14 x.f4.f8.length c14) = some (Value.slice A14_ x.f4.f8.length c14_) from congrArg (fun l => l[14]?) he)) with ha_ _ _; rw [ha_]; exact g14_), l15, (fun W' hW => by obtain ⟨A12_, c12_, A13_, c13_, A14_, c14_, A15_, c15_, A16_, c16_, A17_, c17_, A18_, c18_, A19_, c19_, A20_, c20_, A21_, c21_, he, l12_, g12_, l13_, g13_, l14_, g14_, l15_, g15_, l16_, g16_, l17_, g17_, l18_, g18_, l19_, g19_, l20_, g20_, l21_, g21_⟩ := k129_open (h W' hW); injection (Option.some.inj (show some (Value.slice A15 x.f4.f9.length c15) = some (Value.slice A15_ x.f4.f9.length c15_) from congrArg (fun l => l[15]?) he)) with ha_ _ _; rw [ha_]; exact g15_), l16, (fun W' hW => by obtain ⟨A12_, c12_, A13_, c13_, A14_, c14_, A15_, c15_, A16_, c16_, A17_, c17_, A18_, c18_, A19_, c19_, A20_, c20_, A21_, c21_, he, l12_, g12_, l13_, g13_, l14_, g14_, l15_, g15_, l16_, g16_, l17_, g17_, l18_, g18_, l19_, g19_, l20_, g20_, l21_, g21_⟩ := k129_open (h W' hW); injection (Option.some.inj (show some (Value.slice A16 x.f4.f10.length c16) = some (Value.slice A16_ x.f4.f10.length c16_) from congrArg (fun l => l[16]?) he)) with ha_ _ _; rw [ha_]; exact g16_), l17, (fun W' hW => by obtain ⟨A12_, c12_, A13_, c13_, A14_, c14_, A15_, c15_, A16_, c16_, A17_, c17_, A18_, c18_, A19_, c19_, A20_, c20_, A21_, c21_, he, l12_, g12_, l13_, g13_, l14_, g14_, l15_, g15_, l16_, g16_, l17_, g17_, l18_, g18_, l19_, g19_, l20_, g20_, l21_, g21_⟩ := k129_open (h W' hW); injection (Option.some.inj (show some (Value.slice A17 x.f4.f11.length c17) = some (Value.slice A17_ x.f4.f11.length c17_) from congrArg (fun l => l[17]?) he)) with ha_ _ _; rw [ha_]; exact g17_), l18, (fun W' hW => by obtain ⟨A12_, c12_, A13_, c13_, A14_, c14_, A15_, c15_, A16_, c16_, A17_, c17_, A18_, c18_, A19_, c19_, A20_, c20_, A21_, c21_, he, l12_, g12_, l13_, g13_, l14_, g14_, l15_, g15_, l16_, g16_, l17_, g17_, l18_, g18_, l19_, g19_, l20_, g20_, l21_, g21_⟩ := k129_open (h W' hW); injection (Option.some.inj (show some (Value.slice A18 x.f4.f12.length c18) = some (Value.slice A18_ x.f4.f12.length c18_) from congrArg (fun l => l[18]?) he)) with ha_ _ _; rw [ha_]; exact g18_), l19, (fun W' hW => by obtain ⟨A12_, c12_, A13_, c13_, A14_, c14_, A15_, c15_, A16_, c16_, A17_, c17_, A18_, c18_, A19_, c19_, A20_, c20_, A21_, c21_, he, l12_, g12_, l13_, g13_, l14_, g14_, l15_, g15_, l16_, g16_, l17_, g17_, l18_, g18_, l19_, g19_, l20_, g20_, l21_, g21_⟩ := k129_open (h W' hW); injection (Option.some.inj (show some (Value.slice A19 x.f4.f13.length c19) = some (Value.slice A19_ x.f4.f13.length c19_) from congrArg (fun l => l[19]?) he)) with ha_ _ _; rw [ha_]; exact g19_), l20, (fun W' hW => by obtain ⟨A12_, c12_, A13_, c13_, A14_, c14_, A15_, c15_, A16_, c16_, A17_, c17_, A18_, c18_, A19_, c19_, A20_, c20_, A21_, c21_, he, l12_, g12_, l13_, g13_, l14_, g14_, l15_, g15_, l16_, g16_, l17_, g17_, l18_, g18_, l19_, g19_, l20_, g20_, l21_, g21_⟩ := k129_open (h W' hW); injection (Option.some.inj (show some (Value.slice A20 x.f4.f14.length c20) = some (Value.slice A20_ x.f4.f14.length c20_) from congrArg (fun l => l[20]?) he)) with ha_ _ _; rw [ha_]; exact g20_), l21, (fun W' hW => by obtain ⟨A12_, c12_, A13_, c13_, A14_, c14_, A15_, c15_, A16_, c16_, A17_, c17_, A18_, c18_, A19_, c19_, A20_, c20_, A21_, c21_, he, l12_, g12_, l13_, g13_, l14_, g14_, l15_, g15_, l16_, g16_, l17_, g17_, l18_, g18_, l19_, g19_, l20_, g20_, l21_, g21_⟩ := k129_open (h W' hW); injection (Option.some.inj (show some (Value.slice A21 x.f5.length c21) = some (Value.slice A21_ x.f5.length c21_) from congrArg (fun l => l[21]?) he)) with ha_ _ _; rw [ha_]; exact g21_)⟩
theorem k129_mkF (W : World) (ok : Nat → Prop) (x : S129) {A12 : Option Addr} {c12 : Nat} (l12 : x.f4.f6.length ≤ c12) (g12 : Kd.F (Kd.int .i64) W ok A12 x.f4.f6.length x.f4.f6) {A13 : Option Addr} {c13 : Nat} (l13 : x.f4.f7.length ≤ c13) (g13 : Kd.F (Kd.int .i64) W ok A13 x.f4.f7.length x.f4.f7) {A14 : Option Addr} {c14 : Nat} (l14 : x.f4.f8.length ≤ c14) (g14 : Kd.F (Kd.int .i64) W ok A14 x.f4.f8.length x.f4.f8) {A15 : Option Addr} {c15 : Nat} (l15 : x.f4.f9.length ≤ c15) (g15 : Kd.F k139 W ok A15 x.f4.f9.length x.f4.f9) {A16 : Option Addr} {c16 : Nat} (l16 : x.f4.f10.length ≤ c16) (g16 : Kd.F (Kd.int .i64) W ok A16 x.f4.f10.length x.f4.f10) {A17 : Option Addr} {c17 : Nat} (l17 : x.f4.f11.length ≤ c17) (g17 : Kd.F (Kd.int .i64) W ok A17 x.f4.f11.length x.f4.f11) {A18 : Option Addr} {c18 : Nat} (l18 : x.f4.f12.length ≤ c18) (g18 : Kd.F (Kd.int .i64) W ok A18 x.f4.f12.length x.f4.f12) {A19 : Option Addr} {c19 : Nat} (l19 : x.f4.f13.length ≤ c19) (g19 : Kd.F (Kd.int .i64) W ok A19 x.f4.f13.length x.f4.f13) {A20 : Option Addr} {c20 : Nat} (l20 : x.f4.f14.length ≤ c20) (g20 : Kd.F (Kd.int .i64) W ok A20 x.f4.f14.length x.f4.f14) {A21 : Option Addr} {c21 : Nat} (l21 : x.f5.length ≤ c21) (g21 : Kd.F (Kd.int .i64) W ok A21 x.f5.length x.f5) : Kd.FK k129 W ok x [.int .i64 x.f0, .int .i64 x.f1, .int .i64 x.f2, .bool x.f3, .int .i64 x.f4.f0, .int .i64 x.f4.f1, .int .i64 x.f4.f2, .int .i64 x.f4.f3.f0, .int .i64 x.f4.f3.f1, .string x.f4.f3.f2, .bool x.f4.f4, .int .i64 x.f4.f5, .slice A12 x.f4.f6.length c12, .slice A13 x.f4.f7.length c13, .slice A14 x.f4.f8.length c14, .slice A15 x.f4.f9.length c15, .slice A16 x.f4.f10.length c16, .slice A17 x.f4.f11.length c17, .slice A18 x.f4.f12.length c18, .slice A19 x.f4.f13.length c19, .slice A20 x.f4.f14.length c20, .slice A21 x.f5.length c21] := fun W2 hW => k129_mk W2 x l12 (g12 W2 hW) l13 (g13 W2 hW) l14 (g14 W2 hW) l15 (g15 W2 hW) l16 (g16 W2 hW) l17 (g17 W2 hW) l18 (g18 W2 hW) l19 (g19 W2 hW) l20 (g20 W2 hW) l21 (g21 W2 hW)
def rd_T129 (xs : List S129) (i : Int) : S129 := xs.getD i.toNat z129
theorem at_T129 {w : World} {A : Option Addr} {n : Nat} {xs : List S129} (h : Kd.C k129 w A n xs) (i : Int) (h0 : 0 ≤ i) (h1 : i < n) : ∃ ad A12 c12 A13 c13 A14 c14 A15 c15 A16 c16 A17 c17 A18 c18 A19 c19 A20 c20 A21 c21, A = some ad ∧ w.cell? (ad.add (i.toNat * 22)) = some (.int .i64 (rd_T129 xs i).f0) ∧ w.cell? ⟨(ad.add (i.toNat * 22)).block, (ad.add (i.toNat * 22)).off + 1, none⟩ = some (.int .i64 (rd_T129 xs i).f1) ∧ w.cell? ⟨(ad.add (i.toNat * 22)).block, (ad.add (i.toNat * 22)).off + 2, none⟩ = some (.int .i64 (rd_T129 xs i).f2) ∧ w.cell? ⟨(ad.add (i.toNat * 22)).block, (ad.add (i.toNat * 22)).off + 3, none⟩ = some (.bool (rd_T129 xs i).f3) ∧ w.cell? ⟨(ad.add (i.toNat * 22)).block, (ad.add (i.toNat * 22)).off + 4, none⟩ = some (.int .i64 (rd_T129 xs i).f4.f0) ∧ w.cell? ⟨(ad.add (i.toNat * 22)).block, (ad.add (i.toNat * 22)).off + 5, none⟩ = some (.int .i64 (rd_T129 xs i).f4.f1) ∧ w.cell? ⟨(ad.add (i.toNat * 22)).block, (ad.add (i.toNat * 22)).off + 6, none⟩ = some (.int .i64 (rd_T129 xs i).f4.f2) ∧ w.cell? ⟨(ad.add (i.toNat * 22)).block, (ad.add (i.toNat * 22)).off + 7, none⟩ = some (.int .i64 (rd_T129 xs i).f4.f3.f0) ∧ w.cell? ⟨(ad.add (i.toNat * 22)).block, (ad.add (i.toNat * 22)).off + 8, none⟩ = some (.int .i64 (rd_T129 xs i).f4.f3.f1) ∧ w.cell? ⟨(ad.add (i.toNat * 22)).block, (ad.add (i.toNat * 22)).off + 9, none⟩ = some (.string (rd_T129 xs i).f4.f3.f2) ∧ w.cell? ⟨(ad.add (i.toNat * 22)).block, (ad.add (i.toNat * 22)).off + 10, none⟩ = some (.bool (rd_T129 xs i).f4.f4) ∧ w.cell? ⟨(ad.add (i.toNat * 22)).block, (ad.add (i.toNat * 22)).off + 11, none⟩ = some (.int .i64 (rd_T129 xs i).f4.f5) ∧ w.cell? ⟨(ad.add (i.toNat * 22)).block, (ad.add (i.toNat * 22)).off + 12, none⟩ = some (.slice A12 (rd_T129 xs i).f4.f6.length c12) ∧ w.cell? ⟨(ad.add (i.toNat * 22)).block, (ad.add (i.toNat * 22)).off + 13, none⟩ = some (.slice A13 (rd_T129 xs i).f4.f7.length c13) ∧ w.cell? ⟨(ad.add (i.toNat * 22)).block, (ad.add (i.toNat * 22)).off + 14, none⟩ = some (.slice A14 (rd_T129 xs i).f4.f8.length c14) ∧ w.cell? ⟨(ad.add (i.toNat * 22)).block, (ad.add (i.toNat * 22)).off + 15, none⟩ = some (.slice A15 (rd_T129 xs i).f4.f9.length c15) ∧ w.cell? ⟨(ad.add (i.toNat * 22)).block, (ad.add (i.toNat * 22)).off + 16, none⟩ = some (.slice A16 (rd_T129 xs i).f4.f10.length c16) ∧ w.cell? ⟨(ad.add (i.toNat * 22)).block, (ad.add (i.toNat * 22)).off + 17, none⟩ = some (.slice A17 (rd_T129 xs i).f4.f11.length c17) ∧ w.cell? ⟨(ad.add (i.toNat * 22)).block, (ad.add (i.toNat * 22)).off + 18, none⟩ = some (.slice A18 (rd_T129 xs i).f4.f12.length c18) ∧ w.cell? ⟨(ad.add (i.toNat * 22)).block, (ad.add (i.toNat * 22)).off + 19, none⟩ = some (.slice A19 (rd_T129 xs i).f4.f13.length c19) ∧ w.cell? ⟨(ad.add (i.toNat * 22)).block, (ad.add (i.toNat * 22)).off + 20, none⟩ = some (.slice A20 (rd_T129 xs i).f4.f14.length c20) ∧ w.cell? ⟨(ad.add (i.toNat * 22)).block, (ad.add (i.toNat * 22)).off + 21, none⟩ = some (.slice A21 (rd_T129 xs i).f5.length c21) ∧ (rd_T129 xs i).f4.f6.length ≤ c12 ∧ (Kd.int .i64).C w A12 (rd_T129 xs i).f4.f6.length (rd_T129 xs i).f4.f6 ∧ (rd_T129 xs i).f4.f7.length ≤ c13 ∧ (Kd.int .i64).C w A13 (rd_T129 xs i).f4.f7.length (rd_T129 xs i).f4.f7 ∧ (rd_T129 xs i).f4.f8.length ≤ c14 ∧ (Kd.int .i64).C w A14 (rd_T129 xs i).f4.f8.length (rd_T129 xs i).f4.f8 ∧ (rd_T129 xs i).f4.f9.length ≤ c15 ∧ k139.C w A15 (rd_T129 xs i).f4.f9.length (rd_T129 xs i).f4.f9 ∧ (rd_T129 xs i).f4.f10.length ≤ c16 ∧ (Kd.int .i64).C w A16 (rd_T129 xs i).f4.f10.length (rd_T129 xs i).f4.f10 ∧ (rd_T129 xs i).f4.f11.length ≤ c17 ∧ (Kd.int .i64).C w A17 (rd_T129 xs i).f4.f11.length (rd_T129 xs i).f4.f11 ∧ (rd_T129 xs i).f4.f12.length ≤ c18 ∧ (Kd.int .i64).C w A18 (rd_T129 xs i).f4.f12.length (rd_T129 xs i).f4.f12 ∧ (rd_T129 xs i).f4.f13.length ≤ c19 ∧ (Kd.int .i64).C w A19 (rd_T129 xs i).f4.f13.length (rd_T129 xs i).f4.f13 ∧ (rd_T129 xs i).f4.f14.length ≤ c20 ∧ (Kd.int .i64).C w A20 (rd_T129 xs i).f4.f14.length (rd_T129 xs i).f4.f14 ∧ (rd_T129 xs i).f5.length ≤ c21 ∧ (Kd.int .i64).C w A21 (rd_T129 xs i).f5.length (rd_T129 xs i).f5 := by
  obtain ⟨ad, c, e, _, hK, hc0⟩ := Kd.C_get h z129 i h0 h1
  have hc : ∀ j u, c[j]? = some u → w.cell? (ad.add (i.toNat * 22 + j)) = some u := hc0
  obtain ⟨A12, c12, A13, c13, A14, c14, A15, c15, A16, c16, A17, c17, A18, c18, A19, c19, A20, c20, A21, c21, rfl, l12, g12, l13, g13, l14, g14, l15, g15, l16, g16, l17, g17, l18, g18, l19, g19, l20, g20, l21, g21⟩ := k129_open hK
  exact ⟨ad, A12, c12, A13, c13, A14, c14, A15, c15, A16, c16, A17, c17, A18, c18, A19, c19, A20, c20, A21, c21, e, hc 0 _ rfl, by rw [← add_field _ _ 1 (by omega)]; exact hc 1 _ rfl, by rw [← add_field _ _ 2 (by omega)]; exact hc 2 _ rfl, by rw [← add_field _ _ 3 (by omega)]; exact hc 3 _ rfl, by rw [← add_field _ _ 4 (by omega)]; exact hc 4 _ rfl, by rw [← add_field _ _ 5 (by omega)]; exact hc 5 _ rfl, by rw [← add_field _ _ 6 (by omega)]; exact hc 6 _ rfl, by rw [← add_field _ _ 7 (by omega)]; exact hc 7 _ rfl, by rw [← add_field _ _ 8 (by omega)]; exact hc 8 _ rfl, by rw [← add_field _ _ 9 (by omega)]; exact hc 9 _ rfl, by rw [← add_field _ _ 10 (by omega)]; exact hc 10 _ rfl, by rw [← add_field _ _ 11 (by omega)]; exact hc 11 _ rfl, by rw [← add_field _ _ 12 (by omega)]; exact hc 12 _ rfl, by rw [← add_field _ _ 13 (by omega)]; exact hc 13 _ rfl, by rw [← add_field _ _ 14 (by omega)]; exact hc 14 _ rfl, by rw [← add_field _ _ 15 (by omega)]; exact hc 15 _ rfl, by rw [← add_field _ _ 16 (by omega)]; exact hc 16 _ rfl, by rw [← add_field _ _ 17 (by omega)]; exact hc 17 _ rfl, by rw [← add_field _ _ 18 (by omega)]; exact hc 18 _ rfl, by rw [← add_field _ _ 19 (by omega)]; exact hc 19 _ rfl, by rw [← add_field _ _ 20 (by omega)]; exact hc 20 _ rfl, by rw [← add_field _ _ 21 (by omega)]; exact hc 21 _ rfl, l12, g12, l13, g13, l14, g14, l15, g15, l16, g16, l17, g17, l18, g18, l19, g19, l20, g20, l21, g21⟩

/-! #### struct type 104 -/
structure S104 where
  f0 : ByteArray
  f1 : (List ByteArray)
def z104 : S104 := ⟨(⟨#[]⟩ : ByteArray), ([] : List ByteArray)⟩
def k104 : Kd S104 := Kd.iso (Kd.pair Kd.string (Kd.slice 9 Kd.string)) (fun x : S104 => (x.f0, x.f1))
theorem k104_open {w : World} {x : S104} {cs : List Value} (h : k104.K w x cs) : ∃ A1 c1, cs = [.string x.f0, .slice A1 x.f1.length c1] ∧ x.f1.length ≤ c1 ∧ Kd.string.C w A1 x.f1.length x.f1 := by
  obtain ⟨_, _, rfl, rfl, ⟨A1, c1, rfl, l1, g1⟩⟩ := h
  exact ⟨A1, c1, rfl, l1, g1⟩
theorem k104_openM {w : World} {base : Nat} {ok : Nat → Prop} {x : S104} {cs : List Value} (h : k104.M w base ok x cs) : ∃ v1, cs = [.string x.f0, v1] ∧ Kd.string.R 9 w base ok v1 x.f1 := by
  obtain ⟨_, _, rfl, rfl, ⟨v1, rfl, g1⟩⟩ := h
  exact ⟨v1, rfl, g1⟩
theorem k104_mk (w : World) (x : S104) {A1 : Option Addr} {c1 : Nat} (l1 : x.f1.length ≤ c1) (g1 : Kd.string.C w A1 x.f1.length x.f1) : k104.K w x [.string x.f0, .slice A1 x.f1.length c1] := ⟨[.string x.f0], [.slice A1 x.f1.length c1], rfl, rfl, ⟨A1, c1, rfl, l1, g1⟩⟩
theorem k104_mkM (w : World) (base : Nat) (ok : Nat → Prop) (x : S104) {v1 : Value} (g1 : Kd.string.R 9 w base ok v1 x.f1) : k104.M w base ok x [.string x.f0, v1] := ⟨[.string x.f0], [v1], rfl, rfl, ⟨v1, rfl, g1⟩⟩
theorem k104_openF {W : World} {ok : Nat → Prop} {x : S104} {cs : List Value} (h : Kd.FK k104 W ok x cs) : ∃ A1 c1, cs = [.string x.f0, .slice A1 x.f1.length c1] ∧ x.f1.length ≤ c1 ∧ Kd.F Kd.string W ok A1 x.f1.length x.f1 := by
  obtain ⟨A1, c1, rfl, l1, _⟩ := k104_open (Kd.FK_now h)
  exact ⟨A1, c1, rfl, l1, (fun W' hW => by obtain ⟨A1_, c1_, he, l1_, g1_⟩ := k104_open (h W' hW); injection (Option.some.inj (show some (Value.slice A1 x.f1.length c1) = some (Value.slice A1_ x.f1.length c1_) from congrArg (fun l => l[1]?) he)) with ha_ _ _; rw [ha_]; exact g1_)⟩
theorem k104_mkF (W : World) (ok : Nat → Prop) (x : S104) {A1 : Option Addr} {c1 : Nat} (l1 : x.f1.length ≤ c1) (g1 : Kd.F Kd.string W ok A1 x.f1.length x.f1) : Kd.FK k104 W ok x [.string x.f0, .slice A1 x.f1.length c1] := fun W2 hW => k104_mk W2 x l1 (g1 W2 hW)
def rd_T104 (xs : List S104) (i : Int) : S104 := xs.getD i.toNat z104
theorem at_T104 {w : World} {A : Option Addr} {n : Nat} {xs : List S104} (h : Kd.C k104 w A n xs) (i : Int) (h0 : 0 ≤ i) (h1 : i < n) : ∃ ad A1 c1, A = some ad ∧ w.cell? (ad.add (i.toNat * 2)) = some (.string (rd_T104 xs i).f0) ∧ w.cell? ⟨(ad.add (i.toNat * 2)).block, (ad.add (i.toNat * 2)).off + 1, none⟩ = some (.slice A1 (rd_T104 xs i).f1.length c1) ∧ (rd_T104 xs i).f1.length ≤ c1 ∧ Kd.string.C w A1 (rd_T104 xs i).f1.length (rd_T104 xs i).f1 := by
  obtain ⟨ad, c, e, _, hK, hc0⟩ := Kd.C_get h z104 i h0 h1
  have hc : ∀ j u, c[j]? = some u → w.cell? (ad.add (i.toNat * 2 + j)) = some u := hc0
  obtain ⟨A1, c1, rfl, l1, g1⟩ := k104_open hK
  exact ⟨ad, A1, c1, e, hc 0 _ rfl, by rw [← add_field _ _ 1 (by omega)]; exact hc 1 _ rfl, l1, g1⟩

def rd_L16 (xs : List (List S104)) (i : Int) : (List S104) := xs.getD i.toNat ([] : List S104)
theorem at_L16 {w : World} {A : Option Addr} {n : Nat} {xs : List (List S104)} (h : Kd.C (Kd.slice 104 k104) w A n xs) (i : Int) (h0 : 0 ≤ i) (h1 : i < n) : ∃ ad A0 c0, A = some ad ∧ w.cell? (ad.add i.toNat) = some (.slice A0 (rd_L16 xs i).length c0) ∧ (rd_L16 xs i).length ≤ c0 ∧ k104.C w A0 (rd_L16 xs i).length (rd_L16 xs i) := by
  obtain ⟨ad, c, e, _, hK, hc0⟩ := Kd.C_get h ([] : List S104) i h0 h1
  have hc : ∀ j u, c[j]? = some u → w.cell? (ad.add (i.toNat * 1 + j)) = some u := hc0
  obtain ⟨A0, c0, rfl, l0, g0⟩ := hK
  exact ⟨ad, A0, c0, e, by have hq := hc 0 _ rfl; rwa [Nat.mul_one, Nat.add_zero] at hq, l0, g0⟩

/-! #### struct type 80 -/
structure S80 where
  f0 : ByteArray
  f1 : (List S104)
  f2 : ByteArray
def z80 : S80 := ⟨(⟨#[]⟩ : ByteArray), ([] : List S104), (⟨#[]⟩ : ByteArray)⟩
def k80 : Kd S80 := Kd.iso (Kd.pair Kd.string (Kd.pair (Kd.slice 104 k104) Kd.string)) (fun x : S80 => (x.f0, x.f1, x.f2))
theorem k80_open {w : World} {x : S80} {cs : List Value} (h : k80.K w x cs) : ∃ A1 c1, cs = [.string x.f0, .slice A1 x.f1.length c1, .string x.f2] ∧ x.f1.length ≤ c1 ∧ k104.C w A1 x.f1.length x.f1 := by
  obtain ⟨_, _, rfl, rfl, ⟨_, _, rfl, ⟨A1, c1, rfl, l1, g1⟩, rfl⟩⟩ := h
  exact ⟨A1, c1, rfl, l1, g1⟩
theorem k80_openM {w : World} {base : Nat} {ok : Nat → Prop} {x : S80} {cs : List Value} (h : k80.M w base ok x cs) : ∃ v1, cs = [.string x.f0, v1, .string x.f2] ∧ k104.R 104 w base ok v1 x.f1 := by
  obtain ⟨_, _, rfl, rfl, ⟨_, _, rfl, ⟨v1, rfl, g1⟩, rfl⟩⟩ := h
  exact ⟨v1, rfl, g1⟩
theorem k80_mk (w : World) (x : S80) {A1 : Option Addr} {c1 : Nat} (l1 : x.f1.length ≤ c1) (g1 : k104.C w A1 x.f1.length x.f1) : k80.K w x [.string x.f0, .slice A1 x.f1.length c1, .string x.f2] := ⟨[.string x.f0], [.slice A1 x.f1.length c1, .string x.f2], rfl, rfl, ⟨[.slice A1 x.f1.length c1], [.string x.f2], rfl, ⟨A1, c1, rfl, l1, g1⟩, rfl⟩⟩
theorem k80_mkM (w : World) (base : Nat) (ok : Nat → Prop) (x : S80) {v1 : Value} (g1 : k104.R 104 w base ok v1 x.f1) : k80.M w base ok x [.string x.f0, v1, .string x.f2] := ⟨[.string x.f0], [v1, .string x.f2], rfl, rfl, ⟨[v1], [.string x.f2], rfl, ⟨v1, rfl, g1⟩, rfl⟩⟩
theorem k80_openF {W : World} {ok : Nat → Prop} {x : S80} {cs : List Value} (h : Kd.FK k80 W ok x cs) : ∃ A1 c1, cs = [.string x.f0, .slice A1 x.f1.length c1, .string x.f2] ∧ x.f1.length ≤ c1 ∧ Kd.F k104 W ok A1 x.f1.length x.f1 := by
  obtain ⟨A1, c1, rfl, l1, _⟩ := k80_open (Kd.FK_now h)
  exact ⟨A1, c1, rfl, l1, (fun W' hW => by obtain ⟨A1_, c1_, he, l1_, g1_⟩ := k80_open (h W' hW); injection (Option.some.inj (show some (Value.slice A1 x.f1.length c1) = some (Value.slice A1_ x.f1.length c1_) from congrArg (fun l => l[1]?) he)) with ha_ _ _; rw [ha_]; exact g1_)⟩
theorem k80_mkF (W : World) (ok : Nat → Prop) (x : S80) {A1 : Option Addr} {c1 : Nat} (l1 : x.f1.length ≤ c1) (g1 : Kd.F k104 W ok A1 x.f1.length x.f1) : Kd.FK k80 W ok x [.string x.f0, .slice A1 x.f1.length c1, .string x.f2] := fun W2 hW => k80_mk W2 x l1 (g1 W2 hW)
def rd_T80 (xs : List S80) (i : Int) : S80 := xs.getD i.toNat z80
theorem at_T80 {w : World} {A : Option Addr} {n : Nat} {xs : List S80} (h : Kd.C k80 w A n xs) (i : Int) (h0 : 0 ≤ i) (h1 : i < n) : ∃ ad A1 c1, A = some ad ∧ w.cell? (ad.add (i.toNat * 3)) = some (.string (rd_T80 xs i).f0) ∧ w.cell? ⟨(ad.add (i.toNat * 3)).block, (ad.add (i.toNat * 3)).off + 1, none⟩ = some (.slice A1 (rd_T80 xs i).f1.length c1) ∧ w.cell? ⟨(ad.add (i.toNat * 3)).block, (ad.add (i.toNat * 3)).off + 2, none⟩ = some (.string (rd_T80 xs i).f2) ∧ (rd_T80 xs i).f1.length ≤ c1 ∧ k104.C w A1 (rd_T80 xs i).f1.length (rd_T80 xs i).f1 := by
  obtain ⟨ad, c, e, _, hK, hc0⟩ := Kd.C_get h z80 i h0 h1
  have hc : ∀ j u, c[j]? = some u → w.cell? (ad.add (i.toNat * 3 + j)) = some u := hc0
  obtain ⟨A1, c1, rfl, l1, g1⟩ := k80_open hK
  exact ⟨ad, A1, c1, e, hc 0 _ rfl, by rw [← add_field _ _ 1 (by omega)]; exact hc 1 _ rfl, by rw [← add_field _ _ 2 (by omega)]; exact hc 2 _ rfl, l1, g1⟩

/-! #### struct type 67 -/
structure S67 where
  f0 : Int
  f1 : Int
def z67 : S67 := ⟨(0 : Int), (0 : Int)⟩
def k67 : Kd S67 := Kd.iso (Kd.pair (Kd.int .i64) (Kd.int .i64)) (fun x : S67 => (x.f0, x.f1))
theorem k67_open {w : World} {x : S67} {cs : List Value} (h : k67.K w x cs) : cs = [.int .i64 x.f0, .int .i64 x.f1] := by
  obtain ⟨_, _, rfl, rfl, rfl⟩ := h
  exact rfl
theorem k67_openM {w : World} {base : Nat} {ok : Nat → Prop} {x : S67} {cs : List Value} (h : k67.M w base ok x cs) : cs = [.int .i64 x.f0, .int .i64 x.f1] := by
  obtain ⟨_, _, rfl, rfl, rfl⟩ := h
  exact rfl
theorem k67_mk (w : World) (x : S67)  : k67.K w x [.int .i64 x.f0, .int .i64 x.f1] := ⟨[.int .i64 x.f0], [.int .i64 x.f1], rfl, rfl, rfl⟩
theorem k67_mkM (w : World) (base : Nat) (ok : Nat → Prop) (x : S67)  : k67.M w base ok x [.int .i64 x.f0, .int .i64 x.f1] := ⟨[.int .i64 x.f0], [.int .i64 x.f1], rfl, rfl, rfl⟩
theorem k67_mkF (W : World) (ok : Nat → Prop) (x : S67) : Kd.FK k67 W ok x [.int .i64 x.f0, .int .i64 x.f1] := fun W2 _ => k67_mk W2 x
def rd_T67 (xs : List S67) (i : Int) : S67 := xs.getD i.toNat z67
theorem at_T67 {w : World} {A : Option Addr} {n : Nat} {xs : List S67} (h : Kd.C k67 w A n xs) (i : Int) (h0 : 0 ≤ i) (h1 : i < n) : ∃ ad , A = some ad ∧ w.cell? (ad.add (i.toNat * 2)) = some (.int .i64 (rd_T67 xs i).f0) ∧ w.cell? ⟨(ad.add (i.toNat * 2)).block, (ad.add (i.toNat * 2)).off + 1, none⟩ = some (.int .i64 (rd_T67 xs i).f1) := by
  obtain ⟨ad, c, e, _, hK, hc0⟩ := Kd.C_get h z67 i h0 h1
  have hc : ∀ j u, c[j]? = some u → w.cell? (ad.add (i.toNat * 2 + j)) = some u := hc0
  obtain rfl := k67_open hK
  exact ⟨ad, e, hc 0 _ rfl, by rw [← add_field _ _ 1 (by omega)]; exact hc 1 _ rfl⟩

def rd_L19 (xs : List (List S67)) (i : Int) : (List S67) := xs.getD i.toNat ([] : List S67)
theorem at_L19 {w : World} {A : Option Addr} {n : Nat} {xs : List (List S67)} (h : Kd.C (Kd.slice 67 k67) w A n xs) (i : Int) (h0 : 0 ≤ i) (h1 : i < n) : ∃ ad A0 c0, A = some ad ∧ w.cell? (ad.add i.toNat) = some (.slice A0 (rd_L19 xs i).length c0) ∧ (rd_L19 xs i).length ≤ c0 ∧ k67.C w A0 (rd_L19 xs i).length (rd_L19 xs i) := by
  obtain ⟨ad, c, e, _, hK, hc0⟩ := Kd.C_get h ([] : List S67) i h0 h1
  have hc : ∀ j u, c[j]? = some u → w.cell? (ad.add (i.toNat * 1 + j)) = some u := hc0
  obtain ⟨A0, c0, rfl, l0, g0⟩ := hK
  exact ⟨ad, A0, c0, e, by have hq := hc 0 _ rfl; rwa [Nat.mul_one, Nat.add_zero] at hq, l0, g0⟩

/-! #### struct type 65 -/
structure S65 where
  f0 : Int
  f1 : Int
  f2 : Int
  f3 : ByteArray
  f4 : Int
def z65 : S65 := ⟨(0 : Int), (0 : Int), (0 : Int), (⟨#[]⟩ : ByteArray), (0 : Int)⟩
def k65 : Kd S65 := Kd.iso (Kd.pair (Kd.int .i64) (Kd.pair (Kd.int .i64) (Kd.pair (Kd.int .i64) (Kd.pair Kd.string (Kd.int .i64))))) (fun x : S65 => (x.f0, x.f1, x.f2, x.f3, x.f4))
theorem k65_open {w : World} {x : S65} {cs : List Value} (h : k65.K w x cs) : cs = [.int .i64 x.f0, .int .i64 x.f1, .int .i64 x.f2, .string x.f3, .int .i64 x.f4] := by
  obtain ⟨_, _, rfl, rfl, ⟨_, _, rfl, rfl, ⟨_, _, rfl, rfl, ⟨_, _, rfl, rfl, rfl⟩⟩⟩⟩ := h
  exact rfl
theorem k65_openM {w : World} {base : Nat} {ok : Nat → Prop} {x : S65} {cs : List Value} (h : k65.M w base ok x cs) : cs = [.int .i64 x.f0, .int .i64 x.f1, .int .i64 x.f2, .string x.f3, .int .i64 x.f4] := by
  obtain ⟨_, _, rfl, rfl, ⟨_, _, rfl, rfl, ⟨_, _, rfl, rfl, ⟨_, _, rfl, rfl, rfl⟩⟩⟩⟩ := h
  exact rfl
theorem k65_mk (w : World) (x : S65)  : k65.K w x [.int .i64 x.f0, .int .i64 x.f1, .int .i64 x.f2, .string x.f3, .int .i64 x.f4] := ⟨[.int .i64 x.f0], [.int .i64 x.f1, .int .i64 x.f2, .string x.f3, .int .i64 x.f4], rfl, rfl, ⟨[.int .i64 x.f1], [.int .i64 x.f2, .string x.f3, .int .i64 x.f4], rfl, rfl, ⟨[.int .i64 x.f2], [.string x.f3, .int .i64 x.f4], rfl, rfl, ⟨[.string x.f3], [.int .i64 x.f4], rfl, rfl, rfl⟩⟩⟩⟩
theorem k65_mkM (w : World) (base : Nat) (ok : Nat → Prop) (x : S65)  : k65.M w base ok x [.int .i64 x.f0, .int .i64 x.f1, .int .i64 x.f2, .string x.f3, .int .i64 x.f4] := ⟨[.int .i64 x.f0], [.int .i64 x.f1, .int .i64 x.f2, .string x.f3, .int .i64 x.f4], rfl, rfl, ⟨[.int .i64 x.f1], [.int .i64 x.f2, .string x.f3, .int .i64 x.f4], rfl, rfl, ⟨[.int .i64 x.f2], [.string x.f3, .int .i64 x.f4], rfl, rfl, ⟨[.string x.f3], [.int .i64 x.f4], rfl, rfl, rfl⟩⟩⟩⟩
theorem k65_mkF (W : World) (ok : Nat → Prop) (x : S65) : Kd.FK k65 W ok x [.int .i64 x.f0, .int .i64 x.f1, .int .i64 x.f2, .string x.f3, .int .i64 x.f4] := fun W2 _ => k65_mk W2 x
def rd_T65 (xs : List S65) (i : Int) : S65 := xs.getD i.toNat z65
theorem at_T65 {w : World} {A : Option Addr} {n : Nat} {xs : List S65} (h : Kd.C k65 w A n xs) (i : Int) (h0 : 0 ≤ i) (h1 : i < n) : ∃ ad , A = some ad ∧ w.cell? (ad.add (i.toNat * 5)) = some (.int .i64 (rd_T65 xs i).f0) ∧ w.cell? ⟨(ad.add (i.toNat * 5)).block, (ad.add (i.toNat * 5)).off + 1, none⟩ = some (.int .i64 (rd_T65 xs i).f1) ∧ w.cell? ⟨(ad.add (i.toNat * 5)).block, (ad.add (i.toNat * 5)).off + 2, none⟩ = some (.int .i64 (rd_T65 xs i).f2) ∧ w.cell? ⟨(ad.add (i.toNat * 5)).block, (ad.add (i.toNat * 5)).off + 3, none⟩ = some (.string (rd_T65 xs i).f3) ∧ w.cell? ⟨(ad.add (i.toNat * 5)).block, (ad.add (i.toNat * 5)).off + 4, none⟩ = some (.int .i64 (rd_T65 xs i).f4) := by
  obtain ⟨ad, c, e, _, hK, hc0⟩ := Kd.C_get h z65 i h0 h1
  have hc : ∀ j u, c[j]? = some u → w.cell? (ad.add (i.toNat * 5 + j)) = some u := hc0
  obtain rfl := k65_open hK
  exact ⟨ad, e, hc 0 _ rfl, by rw [← add_field _ _ 1 (by omega)]; exact hc 1 _ rfl, by rw [← add_field _ _ 2 (by omega)]; exact hc 2 _ rfl, by rw [← add_field _ _ 3 (by omega)]; exact hc 3 _ rfl, by rw [← add_field _ _ 4 (by omega)]; exact hc 4 _ rfl⟩

theorem bne_nil_ (l : List UInt8) : (l != []) = !l.isEmpty := by cases l <;> rfl
theorem bs1_ (a : UInt8) : ByteArray.size ⟨#[a]⟩ = 1 := rfl
end Go.Proofs.Ytddoidcbpcmlaaa.Q
