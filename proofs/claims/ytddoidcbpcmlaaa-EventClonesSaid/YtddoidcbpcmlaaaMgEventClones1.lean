/- Texts of this claim, merged: M0, Fr, Clo. -/
import Derived.Test.YtddoidcbpcmlaaaProg
import Derived.Below
import Derived.Deep.Draws
import Derived.Deep.AppendLies
import Derived.Maps.AppendAt
import Derived.OwnWalk
import Derived.Laws.BytesArg
import Derived.Laws.MakeOwn
import Derived.Laws.OwnMore
import Derived.Deep.OwnRows
import Derived.Tactics
import Derived.Lib.ConvBytes
import Derived.Laws.Slices
import Derived.WalkKit
import Derived.KernelRfl
import Derived.RowKit3
import Derived.Deep.LoopGhost
import Derived.Deep.QuietTactic
import Derived.BigQuiet
import Derived.WideLaws
import Derived.Deep.DeepCutAuto
import Derived.Deep.CutBlock
import Derived.Deep.RegionHeld3
import Derived.Laws.Rows
import Derived.Lib.AppendStr
import Derived.ArgAppend
import Derived.Laws.IdiomCopy
import Derived.OrdersHeld
import Derived.Laws.BitsLemmas
import Derived.RowKit
import Derived.Test.YtddoidcbpcmlaaaWWords
import Derived.Test.YtddoidcbpcmlaaaWLast
import Derived.Test.YtddoidcbpcmlaaaWTab
import Derived.Test.YtddoidcbpcmlaaaWQPut
import Derived.Test.YtddoidcbpcmlaaaWApart
import Derived.Test.YtddoidcbpcmlaaaWArr
import Derived.Test.YtddoidcbpcmlaaaWZeros
import Derived.Test.YtddoidcbpcmlaaaWFoot
import Derived.Test.YtddoidcbpcmlaaaWKept
import Derived.Test.YtddoidcbpcmlaaaWShare
import Derived.Test.YtddoidcbpcmlaaaWN
import Derived.Test.YtddoidcbpcmlaaaWFootNe
import Derived.Test.YtddoidcbpcmlaaaWAt
import Derived.Test.YtddoidcbpcmlaaaWEqStruct
import Derived.Test.YtddoidcbpcmlaaaWRepsOne
import Derived.Test.YtddoidcbpcmlaaaWGuard
import Derived.Test.YtddoidcbpcmlaaaWNEv
import Derived.Test.YtddoidcbpcmlaaaWMore
import Derived.Lib.Hide
import Derived.Lib.Walk
import Derived.Lib.SliceRun
-- written by a program of this session (wip/own_print.sh)
namespace Go.Proofs.Ytddoidcbpcmlaaa.M
open Go.RowKit Go.Proofs.YtddoidcbpcmlaaaW.PrintWords Go.Proofs.YtddoidcbpcmlaaaW.PrintLast Go.Proofs.YtddoidcbpcmlaaaW.PrintMore
attribute [local go_sem] max2_int min2_int max_two min_two max_three min_three max_four min_four   -- for this text's walks alone
set_option linter.unusedVariables false
set_option linter.unusedSimpArgs false
def errW : Option Int → Value
  | none => .nilIface
  | some c => .iface 0 (.int .i64 c)
theorem errW_none : errW none = .nilIface := rfl
theorem errW_some (c : Int) : errW (some c) = .iface 0 (.int .i64 c) := rfl

theorem info9 : (Try.prog.info? 9).map (fun i => (i.zero, i.size, i.bytes)) = some (some (.string ⟨#[]⟩), 1, 16) := by kernel_rfl
theorem info40 : (Try.prog.info? 40).map (fun i => (i.zero, i.size, i.bytes)) = some (some (.agg #[(.string ⟨#[]⟩), (.int .i64 0), (.int .i64 0), (.bool false), (.string ⟨#[]⟩), (.string ⟨#[]⟩)]), 6, 72) := by kernel_rfl
theorem info55 : (Try.prog.info? 55).map (fun i => (i.zero, i.size, i.bytes)) = some (some (.agg #[(.string ⟨#[]⟩), (.slice none 0 0), (.string ⟨#[]⟩)]), 3, 56) := by kernel_rfl
theorem info105 : (Try.prog.info? 105).map (fun i => (i.zero, i.size, i.bytes)) = some (some (.agg #[(.string ⟨#[]⟩), (.slice none 0 0)]), 2, 40) := by kernel_rfl
-- the values' own types
/-! #### struct type 139 -/
structure S139 where
  f0 : Int
  f1 : Int
def z139 : S139 := ⟨(0 : Int), (0 : Int)⟩
def k139 : Kd S139 := Kd.iso (Kd.pair (Kd.int .i64) (Kd.int .i64)) (fun x : S139 => (x.f0, x.f1))
theorem k139_open {w : World} {x : S139} {cs : List Value} (h : k139.K w x cs) : cs = [.int .i64 x.f0, .int .i64 x.f1] := by
  obtain ⟨_, _, rfl, rfl, rfl⟩ := h
  exact rfl
def rd_T139 (xs : List S139) (i : Int) : S139 := xs.getD i.toNat z139
theorem at_T139 {w : World} {A : Option Addr} {n : Nat} {xs : List S139} (h : Kd.C k139 w A n xs) (i : Int) (h0 : 0 ≤ i) (h1 : i < n) : ∃ ad , A = some ad ∧ w.cell? (ad.add (i.toNat * 2)) = some (.int .i64 (rd_T139 xs i).f0) ∧ w.cell? ⟨(ad.add (i.toNat * 2)).block, (ad.add (i.toNat * 2)).off + 1, none⟩ = some (.int .i64 (rd_T139 xs i).f1) := by
  obtain ⟨ad, c, e, _, hK, hc0⟩ := Kd.C_get h z139 i h0 h1
  have hc : ∀ j u, c[j]? = some u → w.cell? (ad.add (i.toNat * 2 + j)) = some u := hc0
  obtain rfl := k139_open hK
  exact ⟨ad, e, hc 0 _ rfl, by rw [← add_field _ _ 1 (by omega)]; exact hc 1 _ rfl⟩

/-! #### struct type 25 -/
structure S25 where
  f0 : Int
  f1 : Int
  f2 : ByteArray
def z25 : S25 := ⟨(0 : Int), (0 : Int), (⟨#[]⟩ : ByteArray)⟩
def k25 : Kd S25 := Kd.iso (Kd.pair (Kd.int .i64) (Kd.pair (Kd.int .i64) Kd.string)) (fun x : S25 => (x.f0, x.f1, x.f2))
theorem k25_open {w : World} {x : S25} {cs : List Value} (h : k25.K w x cs) : cs = [.int .i64 x.f0, .int .i64 x.f1, .string x.f2] := by
  obtain ⟨_, _, rfl, rfl, ⟨_, _, rfl, rfl, rfl⟩⟩ := h
  exact rfl
theorem k25_mk (w : World) (x : S25)  : k25.K w x [.int .i64 x.f0, .int .i64 x.f1, .string x.f2] := ⟨[.int .i64 x.f0], [.int .i64 x.f1, .string x.f2], rfl, rfl, ⟨[.int .i64 x.f1], [.string x.f2], rfl, rfl, rfl⟩⟩
def rd_T25 (xs : List S25) (i : Int) : S25 := xs.getD i.toNat z25
theorem at_T25 {w : World} {A : Option Addr} {n : Nat} {xs : List S25} (h : Kd.C k25 w A n xs) (i : Int) (h0 : 0 ≤ i) (h1 : i < n) : ∃ ad , A = some ad ∧ w.cell? (ad.add (i.toNat * 3)) = some (.int .i64 (rd_T25 xs i).f0) ∧ w.cell? ⟨(ad.add (i.toNat * 3)).block, (ad.add (i.toNat * 3)).off + 1, none⟩ = some (.int .i64 (rd_T25 xs i).f1) ∧ w.cell? ⟨(ad.add (i.toNat * 3)).block, (ad.add (i.toNat * 3)).off + 2, none⟩ = some (.string (rd_T25 xs i).f2) := by
  obtain ⟨ad, c, e, _, hK, hc0⟩ := Kd.C_get h z25 i h0 h1
  have hc : ∀ j u, c[j]? = some u → w.cell? (ad.add (i.toNat * 3 + j)) = some u := hc0
  obtain rfl := k25_open hK
  exact ⟨ad, e, hc 0 _ rfl, by rw [← add_field _ _ 1 (by omega)]; exact hc 1 _ rfl, by rw [← add_field _ _ 2 (by omega)]; exact hc 2 _ rfl⟩

/-! #### struct type 29 -/
/-! #### struct type 129 -/
/-! #### struct type 104 -/
structure S104 where
  f0 : ByteArray
  f1 : (List ByteArray)
def z104 : S104 := ⟨(⟨#[]⟩ : ByteArray), ([] : List ByteArray)⟩
def k104 : Kd S104 := Kd.iso (Kd.pair Kd.string (Kd.slice 9 Kd.string)) (fun x : S104 => (x.f0, x.f1))
theorem k104_open {w : World} {x : S104} {cs : List Value} (h : k104.K w x cs) : ∃ A1 c1, cs = [.string x.f0, .slice A1 x.f1.length c1] ∧ x.f1.length ≤ c1 ∧ Kd.string.C w A1 x.f1.length x.f1 := by
  obtain ⟨_, _, rfl, rfl, ⟨A1, c1, rfl, l1, g1⟩⟩ := h
  exact ⟨A1, c1, rfl, l1, g1⟩
def rd_T104 (xs : List S104) (i : Int) : S104 := xs.getD i.toNat z104
theorem at_T104 {w : World} {A : Option Addr} {n : Nat} {xs : List S104} (h : Kd.C k104 w A n xs) (i : Int) (h0 : 0 ≤ i) (h1 : i < n) : ∃ ad A1 c1, A = some ad ∧ w.cell? (ad.add (i.toNat * 2)) = some (.string (rd_T104 xs i).f0) ∧ w.cell? ⟨(ad.add (i.toNat * 2)).block, (ad.add (i.toNat * 2)).off + 1, none⟩ = some (.slice A1 (rd_T104 xs i).f1.length c1) ∧ (rd_T104 xs i).f1.length ≤ c1 ∧ Kd.string.C w A1 (rd_T104 xs i).f1.length (rd_T104 xs i).f1 := by
  obtain ⟨ad, c, e, _, hK, hc0⟩ := Kd.C_get h z104 i h0 h1
  have hc : ∀ j u, c[j]? = some u → w.cell? (ad.add (i.toNat * 2 + j)) = some u := hc0
  obtain ⟨A1, c1, rfl, l1, g1⟩ := k104_open hK
  exact ⟨ad, A1, c1, e, hc 0 _ rfl, by rw [← add_field _ _ 1 (by omega)]; exact hc 1 _ rfl, l1, g1⟩

/-! #### struct type 105 -/
structure S105 where
  f0 : ByteArray
  f1 : (List ByteArray)
def z105 : S105 := ⟨(⟨#[]⟩ : ByteArray), ([] : List ByteArray)⟩
def k105 : Kd S105 := Kd.iso (Kd.pair Kd.string (Kd.slice 9 Kd.string)) (fun x : S105 => (x.f0, x.f1))
theorem k105_open {w : World} {x : S105} {cs : List Value} (h : k105.K w x cs) : ∃ A1 c1, cs = [.string x.f0, .slice A1 x.f1.length c1] ∧ x.f1.length ≤ c1 ∧ Kd.string.C w A1 x.f1.length x.f1 := by
  obtain ⟨_, _, rfl, rfl, ⟨A1, c1, rfl, l1, g1⟩⟩ := h
  exact ⟨A1, c1, rfl, l1, g1⟩
theorem k105_mkM (w : World) (base : Nat) (ok : Nat → Prop) (x : S105) {v1 : Value} (g1 : Kd.string.R 9 w base ok v1 x.f1) : k105.M w base ok x [.string x.f0, v1] := ⟨[.string x.f0], [v1], rfl, rfl, ⟨v1, rfl, g1⟩⟩
def rd_T105 (xs : List S105) (i : Int) : S105 := xs.getD i.toNat z105
theorem at_T105 {w : World} {A : Option Addr} {n : Nat} {xs : List S105} (h : Kd.C k105 w A n xs) (i : Int) (h0 : 0 ≤ i) (h1 : i < n) : ∃ ad A1 c1, A = some ad ∧ w.cell? (ad.add (i.toNat * 2)) = some (.string (rd_T105 xs i).f0) ∧ w.cell? ⟨(ad.add (i.toNat * 2)).block, (ad.add (i.toNat * 2)).off + 1, none⟩ = some (.slice A1 (rd_T105 xs i).f1.length c1) ∧ (rd_T105 xs i).f1.length ≤ c1 ∧ Kd.string.C w A1 (rd_T105 xs i).f1.length (rd_T105 xs i).f1 := by
  obtain ⟨ad, c, e, _, hK, hc0⟩ := Kd.C_get h z105 i h0 h1
  have hc : ∀ j u, c[j]? = some u → w.cell? (ad.add (i.toNat * 2 + j)) = some u := hc0
  obtain ⟨A1, c1, rfl, l1, g1⟩ := k105_open hK
  exact ⟨ad, A1, c1, e, hc 0 _ rfl, by rw [← add_field _ _ 1 (by omega)]; exact hc 1 _ rfl, l1, g1⟩

/-! #### struct type 80 -/
structure S80 where
  f0 : ByteArray
  f1 : (List S104)
  f2 : ByteArray
def z80 : S80 := ⟨(⟨#[]⟩ : ByteArray), ([] : List S104), (⟨#[]⟩ : ByteArray)⟩
def k80 : Kd S80 := Kd.iso (Kd.pair Kd.string (Kd.pair (Kd.slice 104 k104) Kd.string)) (fun x : S80 => (x.f0, x.f1, x.f2))
theorem k80_open {w : World} {x : S80} {cs : List Value} (h : k80.K w x cs) : ∃ A1 c1, cs = [.string x.f0, .slice A1 x.f1.length c1, .string x.f2] ∧ x.f1.length ≤ c1 ∧ k104.C w A1 x.f1.length x.f1 := by
  obtain ⟨_, _, rfl, rfl, ⟨_, _, rfl, ⟨A1, c1, rfl, l1, g1⟩, rfl⟩⟩ := h
  exact ⟨A1, c1, rfl, l1, g1⟩
def rd_T80 (xs : List S80) (i : Int) : S80 := xs.getD i.toNat z80
theorem at_T80 {w : World} {A : Option Addr} {n : Nat} {xs : List S80} (h : Kd.C k80 w A n xs) (i : Int) (h0 : 0 ≤ i) (h1 : i < n) : ∃ ad A1 c1, A = some ad ∧ w.cell? (ad.add (i.toNat * 3)) = some (.string (rd_T80 xs i).f0) ∧ w.cell? ⟨(ad.add (i.toNat * 3)).block, (ad.add (i.toNat * 3)).off + 1, none⟩ = some (.slice A1 (rd_T80 xs i).f1.length c1) ∧ w.cell? ⟨(ad.add (i.toNat * 3)).block, (ad.add (i.toNat * 3)).off + 2, none⟩ = some (.string (rd_T80 xs i).f2) ∧ (rd_T80 xs i).f1.length ≤ c1 ∧ k104.C w A1 (rd_T80 xs i).f1.length (rd_T80 xs i).f1 := by
  obtain ⟨ad, c, e, _, hK, hc0⟩ := Kd.C_get h z80 i h0 h1
  have hc : ∀ j u, c[j]? = some u → w.cell? (ad.add (i.toNat * 3 + j)) = some u := hc0
  obtain ⟨A1, c1, rfl, l1, g1⟩ := k80_open hK
  exact ⟨ad, A1, c1, e, hc 0 _ rfl, by rw [← add_field _ _ 1 (by omega)]; exact hc 1 _ rfl, by rw [← add_field _ _ 2 (by omega)]; exact hc 2 _ rfl, l1, g1⟩

/-! #### struct type 40 -/
structure S40 where
  f0 : ByteArray
  f1 : Int
  f2 : Int
  f3 : Bool
  f4 : ByteArray
  f5 : ByteArray
def z40 : S40 := ⟨(⟨#[]⟩ : ByteArray), (0 : Int), (0 : Int), false, (⟨#[]⟩ : ByteArray), (⟨#[]⟩ : ByteArray)⟩
def k40 : Kd S40 := Kd.iso (Kd.pair Kd.string (Kd.pair (Kd.int .i64) (Kd.pair (Kd.int .i64) (Kd.pair Kd.bool (Kd.pair Kd.string Kd.string))))) (fun x : S40 => (x.f0, x.f1, x.f2, x.f3, x.f4, x.f5))
theorem k40_open {w : World} {x : S40} {cs : List Value} (h : k40.K w x cs) : cs = [.string x.f0, .int .i64 x.f1, .int .i64 x.f2, .bool x.f3, .string x.f4, .string x.f5] := by
  obtain ⟨_, _, rfl, rfl, ⟨_, _, rfl, rfl, ⟨_, _, rfl, rfl, ⟨_, _, rfl, rfl, ⟨_, _, rfl, rfl, rfl⟩⟩⟩⟩⟩ := h
  exact rfl
theorem k40_mk (w : World) (x : S40)  : k40.K w x [.string x.f0, .int .i64 x.f1, .int .i64 x.f2, .bool x.f3, .string x.f4, .string x.f5] := ⟨[.string x.f0], [.int .i64 x.f1, .int .i64 x.f2, .bool x.f3, .string x.f4, .string x.f5], rfl, rfl, ⟨[.int .i64 x.f1], [.int .i64 x.f2, .bool x.f3, .string x.f4, .string x.f5], rfl, rfl, ⟨[.int .i64 x.f2], [.bool x.f3, .string x.f4, .string x.f5], rfl, rfl, ⟨[.bool x.f3], [.string x.f4, .string x.f5], rfl, rfl, ⟨[.string x.f4], [.string x.f5], rfl, rfl, rfl⟩⟩⟩⟩⟩
def rd_T40 (xs : List S40) (i : Int) : S40 := xs.getD i.toNat z40
theorem at_T40 {w : World} {A : Option Addr} {n : Nat} {xs : List S40} (h : Kd.C k40 w A n xs) (i : Int) (h0 : 0 ≤ i) (h1 : i < n) : ∃ ad , A = some ad ∧ w.cell? (ad.add (i.toNat * 6)) = some (.string (rd_T40 xs i).f0) ∧ w.cell? ⟨(ad.add (i.toNat * 6)).block, (ad.add (i.toNat * 6)).off + 1, none⟩ = some (.int .i64 (rd_T40 xs i).f1) ∧ w.cell? ⟨(ad.add (i.toNat * 6)).block, (ad.add (i.toNat * 6)).off + 2, none⟩ = some (.int .i64 (rd_T40 xs i).f2) ∧ w.cell? ⟨(ad.add (i.toNat * 6)).block, (ad.add (i.toNat * 6)).off + 3, none⟩ = some (.bool (rd_T40 xs i).f3) ∧ w.cell? ⟨(ad.add (i.toNat * 6)).block, (ad.add (i.toNat * 6)).off + 4, none⟩ = some (.string (rd_T40 xs i).f4) ∧ w.cell? ⟨(ad.add (i.toNat * 6)).block, (ad.add (i.toNat * 6)).off + 5, none⟩ = some (.string (rd_T40 xs i).f5) := by
  obtain ⟨ad, c, e, _, hK, hc0⟩ := Kd.C_get h z40 i h0 h1
  have hc : ∀ j u, c[j]? = some u → w.cell? (ad.add (i.toNat * 6 + j)) = some u := hc0
  obtain rfl := k40_open hK
  exact ⟨ad, e, hc 0 _ rfl, by rw [← add_field _ _ 1 (by omega)]; exact hc 1 _ rfl, by rw [← add_field _ _ 2 (by omega)]; exact hc 2 _ rfl, by rw [← add_field _ _ 3 (by omega)]; exact hc 3 _ rfl, by rw [← add_field _ _ 4 (by omega)]; exact hc 4 _ rfl, by rw [← add_field _ _ 5 (by omega)]; exact hc 5 _ rfl⟩

/-! #### struct type 55 -/
structure S55 where
  f0 : ByteArray
  f1 : (List S105)
  f2 : ByteArray
def z55 : S55 := ⟨(⟨#[]⟩ : ByteArray), ([] : List S105), (⟨#[]⟩ : ByteArray)⟩
def k55 : Kd S55 := Kd.iso (Kd.pair Kd.string (Kd.pair (Kd.slice 105 k105) Kd.string)) (fun x : S55 => (x.f0, x.f1, x.f2))
theorem k55_open {w : World} {x : S55} {cs : List Value} (h : k55.K w x cs) : ∃ A1 c1, cs = [.string x.f0, .slice A1 x.f1.length c1, .string x.f2] ∧ x.f1.length ≤ c1 ∧ k105.C w A1 x.f1.length x.f1 := by
  obtain ⟨_, _, rfl, rfl, ⟨_, _, rfl, ⟨A1, c1, rfl, l1, g1⟩, rfl⟩⟩ := h
  exact ⟨A1, c1, rfl, l1, g1⟩
theorem k55_mk (w : World) (x : S55) {A1 : Option Addr} {c1 : Nat} (l1 : x.f1.length ≤ c1) (g1 : k105.C w A1 x.f1.length x.f1) : k55.K w x [.string x.f0, .slice A1 x.f1.length c1, .string x.f2] := ⟨[.string x.f0], [.slice A1 x.f1.length c1, .string x.f2], rfl, rfl, ⟨[.slice A1 x.f1.length c1], [.string x.f2], rfl, ⟨A1, c1, rfl, l1, g1⟩, rfl⟩⟩
theorem k55_mkF (W : World) (ok : Nat → Prop) (x : S55) {A1 : Option Addr} {c1 : Nat} (l1 : x.f1.length ≤ c1) (g1 : Kd.F k105 W ok A1 x.f1.length x.f1) : Kd.FK k55 W ok x [.string x.f0, .slice A1 x.f1.length c1, .string x.f2] := fun W2 hW => k55_mk W2 x l1 (g1 W2 hW)
def rd_T55 (xs : List S55) (i : Int) : S55 := xs.getD i.toNat z55
theorem at_T55 {w : World} {A : Option Addr} {n : Nat} {xs : List S55} (h : Kd.C k55 w A n xs) (i : Int) (h0 : 0 ≤ i) (h1 : i < n) : ∃ ad A1 c1, A = some ad ∧ w.cell? (ad.add (i.toNat * 3)) = some (.string (rd_T55 xs i).f0) ∧ w.cell? ⟨(ad.add (i.toNat * 3)).block, (ad.add (i.toNat * 3)).off + 1, none⟩ = some (.slice A1 (rd_T55 xs i).f1.length c1) ∧ w.cell? ⟨(ad.add (i.toNat * 3)).block, (ad.add (i.toNat * 3)).off + 2, none⟩ = some (.string (rd_T55 xs i).f2) ∧ (rd_T55 xs i).f1.length ≤ c1 ∧ k105.C w A1 (rd_T55 xs i).f1.length (rd_T55 xs i).f1 := by
  obtain ⟨ad, c, e, _, hK, hc0⟩ := Kd.C_get h z55 i h0 h1
  have hc : ∀ j u, c[j]? = some u → w.cell? (ad.add (i.toNat * 3 + j)) = some u := hc0
  obtain ⟨A1, c1, rfl, l1, g1⟩ := k55_open hK
  exact ⟨ad, A1, c1, e, hc 0 _ rfl, by rw [← add_field _ _ 1 (by omega)]; exact hc 1 _ rfl, by rw [← add_field _ _ 2 (by omega)]; exact hc 2 _ rfl, l1, g1⟩

theorem bne_nil_ (l : List UInt8) : (l != []) = !l.isEmpty := by cases l <;> rfl
end Go.Proofs.Ytddoidcbpcmlaaa.M
/- What a value reads as in every world that agrees from a block on: the frame of fresh memory. -/
namespace Go.Proofs.Ytddoidcbpcmlaaa.Fr
open Go.RowKit Go.Proofs.YtddoidcbpcmlaaaW.PrintWords Go.Proofs.YtddoidcbpcmlaaaW.PrintLast Go.Proofs.Ytddoidcbpcmlaaa.M
set_option linter.unusedVariables false
set_option linter.unusedSimpArgs false
/-- w' has w's blocks from n on. -/
def Agree (n : Nat) (w w' : World) : Prop := ∀ k, n ≤ k → k < w.heap.size → w'.heap[k]? = w.heap[k]?
def Fr {α : Type} (d : Kd α) (n : Nat) (w : World) (x : α) (cs : List Value) : Prop := ∀ w', Agree n w w' → d.K w' x cs
section
variable {α β : Type} {d : Kd α} {n m : Nat} {w w1 : World} {x : α} {cs : List Value}
theorem Fr.K (h : Fr d n w x cs) : d.K w x cs := h w (fun _ _ _ => rfl)
theorem Fr.keep (h : Fr d n w x cs) (hk : Agree n w w1) (hs : w.heap.size ≤ w1.heap.size) : Fr d n w1 x cs := fun W hW => h W fun k h1 h2 => (hW k h1 (by omega)).trans (hk k h1 h2)
theorem Fr.below (h : Fr d n w x cs) (hb : Below w.heap.size w w1) : Fr d n w1 x cs := h.keep (fun k _ h2 => hb.block k h2) hb.size
theorem Fr.lower (h : Fr d n w x cs) (hm : m ≤ n) : Fr d m w x cs := fun W hW => h W fun k h1 h2 => hW k (by omega) h2
theorem Fr.scalar {enc : α → Value} {h1 : ∀ x, (enc x).oneCell' = true} : Fr (Kd.scalar enc h1) n w x [enc x] := fun _ _ => rfl
theorem Fr.pair {a : Kd α} {b : Kd β} {y : α × β} {c0 c1 : List Value} (h0 : Fr a n w y.1 c0) (h1 : Fr b n w y.2 c1) : Fr (Kd.pair a b) n w y (c0 ++ c1) := fun W hW => ⟨c0, c1, rfl, h0 W hW, h1 W hW⟩
theorem Fr.iso {f : β → α} {y : β} (h : Fr d n w (f y) cs) : Fr (Kd.iso d f) n w y cs := fun W hW => h W hW
theorem add_block (a : Addr) (j : Nat) : (a.add j).block = a.block := by unfold Addr.add; split <;> rfl
theorem Fr.slice {e : Nat} {xs : List α} {A : Option Addr} {cap : Nat} (hl : xs.length ≤ cap) (hm : xs.length ≤ 9223372036854775807)
    (h : 0 < xs.length → ∃ ad, A = some ad ∧ n ≤ ad.block ∧ ad.block < w.heap.size ∧ ∀ j p, xs[j]? = some p → ∃ cs, cs.length = d.sz ∧ Fr d n w p cs ∧ ∀ q u, cs[q]? = some u → w.cell? (ad.add (j * d.sz + q)) = some u) :
    Fr (Kd.slice e d) n w xs [.slice A xs.length cap] := fun W hW => ⟨A, cap, rfl, hl, rfl, hm, fun hp => by
  obtain ⟨ad, rfl, h1, h2, h3⟩ := h hp
  refine ⟨ad, rfl, fun j p hj => ?_⟩
  obtain ⟨cs, e1, e2, e3⟩ := h3 j p hj
  refine ⟨cs, e1, e2 W hW, fun q u hq => ?_⟩
  rw [World.cell?_of_block (w := w) (w' := W) (a := ad.add (j * d.sz + q)) (by rw [add_block]; exact hW ad.block h1 h2)]
  exact e3 q u hq⟩
end
/-- A row read, its cells in one list. -/
theorem news_of {α : Type} {d : Kd α} {w : World} : ∀ {xs : List α} {ad : Addr} {o : Nat}, (∀ j p, xs[j]? = some p → ∃ cs, cs.length = d.sz ∧ d.K w p cs ∧ ∀ q u, cs[q]? = some u → w.cell? (ad.add (o + (j * d.sz + q))) = some u) →
    ∃ news : List Value, news.length = xs.length * d.sz ∧ (∀ u ∈ news, u.oneCell' = true) ∧ (∀ j p, xs[j]? = some p → ∃ cs, cs.length = d.sz ∧ d.K w p cs ∧ ∀ q u, cs[q]? = some u → news[j * d.sz + q]? = some u) ∧ ∀ j u, news[j]? = some u → w.cell? (ad.add (o + j)) = some u
  | [], ad, o, _ => ⟨[], by simp, by simp, by simp, by simp⟩
  | x :: xs, ad, o, h => by
    obtain ⟨c, hc, hK, hcell⟩ := h 0 x rfl
    obtain ⟨news, n1, n2, n3, n4⟩ := news_of (xs := xs) (ad := ad) (o := o + d.sz) (fun j p hj => by
      obtain ⟨cs, e1, e2, e3⟩ := h (j + 1) p hj
      exact ⟨cs, e1, e2, fun q u hq => by have := e3 q u hq; rwa [show o + ((j + 1) * d.sz + q) = o + d.sz + (j * d.sz + q) by rw [Nat.succ_mul]; omega] at this⟩)
    refine ⟨c ++ news, by rw [List.length_append, hc, n1, List.length_cons, Nat.succ_mul]; omega, fun u hu => ?_, fun j p hj => ?_, fun j u hj => ?_⟩
    · rcases List.mem_append.1 hu with q | q
      · exact d.K_one hK u q
      · exact n2 u q
    · cases j with
      | zero =>
        obtain rfl := Option.some.inj hj
        refine ⟨c, hc, hK, fun q u hq => ?_⟩
        rw [Nat.zero_mul, Nat.zero_add, List.getElem?_append_left (List.getElem?_eq_some_iff.1 hq).1]; exact hq
      | succ j =>
        obtain ⟨cs, e1, e2, e3⟩ := n3 j p hj
        refine ⟨cs, e1, e2, fun q u hq => ?_⟩
        rw [List.getElem?_append_right (by rw [Nat.succ_mul]; omega), show (j + 1) * d.sz + q - c.length = j * d.sz + q by rw [Nat.succ_mul]; omega]
        exact e3 q u hq
    · by_cases q : j < c.length
      · rw [List.getElem?_append_left q] at hj
        have := hcell j u hj
        rwa [Nat.zero_mul, Nat.zero_add] at this
      · rw [List.getElem?_append_right (by omega)] at hj
        have := n4 _ u hj
        rwa [show o + d.sz + (j - c.length) = o + j by omega] at this
end Go.Proofs.Ytddoidcbpcmlaaa.Fr
/- slices.Clone, at the types that an event holds. (Written by gen_clone.py.) -/
namespace Go.Proofs.Ytddoidcbpcmlaaa.Clo
open Go.RowKit Go.Proofs.YtddoidcbpcmlaaaW.PrintWords Go.Proofs.YtddoidcbpcmlaaaW.PrintLast Go.Proofs.Ytddoidcbpcmlaaa.M Go.Proofs.Ytddoidcbpcmlaaa.Fr
set_option linter.unusedVariables false
set_option linter.unusedSimpArgs false
/-- A new row (element type e) that holds copies of the elements' cells as they were read in w0; n0: from which block on. -/
def Row {α : Type} (d : Kd α) (e : Nat) (w0 : World) (n0 : Nat) (w : World) (A : Option Addr) (xs : List α) : Prop := 0 < xs.length → ∃ g cells, A = some ⟨g, 0, none⟩ ∧ n0 ≤ g ∧ g < w.heap.size ∧ w.heap[g]? = some (.cells cells e (0, 0)) ∧
  ∀ j p, xs[j]? = some p → ∃ cs, cs.length = d.sz ∧ d.K w0 p cs ∧ ∀ q u, cs[q]? = some u → cells[j * d.sz + q]? = some u
theorem row_of {α : Type} {d : Kd α} {e : Nat} {w0 w : World} {n0 : Nat} {v : Value} {xs : List α} {news : List Value} (h : w.ownsRow n0 e d.sz v xs.length news) (hn : ∀ j p, xs[j]? = some p → ∃ cs, cs.length = d.sz ∧ d.K w0 p cs ∧ ∀ q u, cs[q]? = some u → news[j * d.sz + q]? = some u) :
    ∃ A c, v = .slice A xs.length c ∧ xs.length ≤ c ∧ Row d e w0 n0 w A xs := by
  rcases h.2 with ⟨rfl, z⟩ | ⟨g, cap, cur, rfl, hg, hh, hc, _, hs, ht⟩
  · exact ⟨none, 0, by rw [z], by omega, fun q => by omega⟩
  · refine ⟨_, cap, rfl, hc, fun _ => ⟨g, cur, rfl, hg, (Array.getElem?_eq_some_iff.1 hh).1, hh, fun j p hj => ?_⟩⟩
    obtain ⟨cs, e1, e2, e3⟩ := hn j p hj
    refine ⟨cs, e1, e2, fun q u hq => ?_⟩
    have := e3 q u hq
    rw [← ht] at this
    rw [List.getElem?_take] at this
    split at this
    · rw [← Array.getElem?_toList]; exact this
    · cases this
/-- The cells of a row, read at once. -/
theorem Row.cell {α : Type} {d : Kd α} {e : Nat} {w0 w : World} {n0 : Nat} {xs : List α} {g : Nat} {cells : Array Value} (hh : w.heap[g]? = some (.cells cells e (0, 0))) {i : Nat} {u : Value} (h : cells[i]? = some u) : w.cell? ((⟨g, 0, none⟩ : Addr).add i) = some u := by
  have e1 : (⟨g, 0, none⟩ : Addr).add i = ⟨g, i, none⟩ := by unfold Addr.add; split <;> simp [*]
  rw [e1, blk_cell hh i]; exact h
/-- Where the elements hold no rows, the new row stands by itself. -/
theorem Row.fr {α : Type} {d : Kd α} {e e' : Nat} {w0 w : World} {n0 c : Nat} {A : Option Addr} {xs : List α} (h : Row d e w0 n0 w A xs) (flat : ∀ p cs, d.K w0 p cs → Fr d n0 w p cs) (hl : xs.length ≤ c) (hm : xs.length ≤ 9223372036854775807) : Fr (Kd.slice e' d) n0 w xs [.slice A xs.length c] :=
  Fr.slice hl hm fun hp => by
    obtain ⟨g, cells, rfl, h1, h2, hh, h3⟩ := h hp
    refine ⟨_, rfl, h1, h2, fun j p hj => ?_⟩
    obtain ⟨cs, e1, e2, e3⟩ := h3 j p hj
    exact ⟨cs, e1, flat p cs e2, fun q u hq => Row.cell (w0 := w0) (n0 := n0) (xs := xs) (d := d) hh (e3 q u hq)⟩
set_option maxHeartbeats 1000000 in
set_option maxRecDepth 100000 in
theorem int {α : Type} (d : Kd α) (hd : d.sz = 1) (A : Option Addr) (c : Nat) (l : List α) (w : World) (hC : Kd.C d w A l.length l) (hl : l.length ≤ 100000000) :
    Calls Try.prog 70 #[.slice A l.length c] w fun q w' => ∃ A' c', q = .returned (.slice A' l.length c') ∧ l.length ≤ c' ∧ Row d 3 w w.heap.size w' A' l ∧ Below w.heap.size w w' := by
  have q22 : ∀ (w : World) (a : Option Addr) (n c n' c' : Nat), (binOp .eql 26 (.slice a n c) (.slice none n' c')).run Try.prog w = .ok (.bool a.isNone) w := fun w a n c n' c' => Lib.run_eql_slice_nil w _ _ a n c n' c' Try.underlying26
  cases A with
  | none =>
    have z : l = [] := by
      cases l with
      | nil => rfl
      | cons x l => obtain ⟨ad, e, _⟩ := hC.2.2 (by simp); cases e
    subst z
    go_enter Try.func70, Try.ntmps70
    go_wp2_with fail
    go_ret
    exact ⟨none, 0, rfl, Nat.le_refl _, fun q => by simp at q, Below.refl _ _⟩
  | some ad =>
    have hrow : ∀ j p, l[j]? = some p → ∃ cs, cs.length = d.sz ∧ d.K w p cs ∧ ∀ q u, cs[q]? = some u → w.cell? (ad.add (0 + (j * d.sz + q))) = some u := fun j p hj => by
      obtain ⟨ad', e, h⟩ := hC.2.2 (by have := (List.getElem?_eq_some_iff.1 hj).1; omega)
      cases e
      simp only [Nat.zero_add]
      exact h j p hj
    obtain ⟨news, n1, n2, n3, n4⟩ := news_of (o := 0) hrow
    have N4 : Aside0 (∀ j u, news[j]? = some u → w.cell? (ad.add j) = some u) := ⟨fun j u hj => by have := n4 j u hj; rwa [Nat.zero_add] at this⟩
    have N3 := Aside0.mk n3
    rw [hd] at n1
    obtain ⟨i0, hi, hz0, hz1, hz2⟩ := info_parts (show (Try.prog.info? 3).map (fun i => (i.zero, i.size, i.bytes)) = some (some (.int .i64 0), 1, 8) by kernel_rfl)
    clear hrow n4 n3 hC
    go_enter Try.func70, Try.ntmps70
    go_wp2_with (at_builtin; refine wpList_append_own _ rfl _ _ 26 rfl w.heap.size 3 i0 (.int .i64 0) 1 8 Try.underlying26 hi hz0 hz1 hz2 rfl (by decide) _ _ _ rfl (World.ownsRow_made w #[] 0 (Nat.le_refl _) (Nat.zero_le _) (by simp)) ad l.length c news rfl ?qc1 ?qc2 ?qc3 ?qc4 ?qc5 ?qc6 ?_)
    case qc1 => exact n1
    case qc2 => exact fun j u hj => Lib.cell?_alloc_some _ (N4.out j u hj)
    case qc3 => exact n2
    case qc4 => simp only [maxLen]; omega
    case qc5 => omega
    case qc6 => simp
    intro v' w1 hown hgrow hnil
    have hb : Below w.heap.size w w1 := ((Below.refl _ w).alloc (Nat.le_refl _) _).grown hgrow (by simp) (by intro k hk; simp [Value.ownBlock] at hk; omega)
    have hown2 : w1.ownsRow w.heap.size 3 d.sz v' l.length news := by rw [hd]; simpa using hown
    obtain ⟨A', c', rfl, h1, h2⟩ := row_of hown2 N3.out
    have H1 := Aside0.mk h1; have H2 := Aside0.mk h2; have HB := Aside0.mk hb
    clear hown hown2 hgrow hnil h1 h2 hb N3 N4 n1 n2
    go_wp2_with fail
    go_ret
    exact ⟨A', c', rfl, H1.out, H2.out, HB.out⟩
set_option maxHeartbeats 1000000 in
set_option maxRecDepth 100000 in
theorem wday {α : Type} (d : Kd α) (hd : d.sz = 2) (A : Option Addr) (c : Nat) (l : List α) (w : World) (hC : Kd.C d w A l.length l) (hl : l.length ≤ 100000000) :
    Calls Try.prog 71 #[.slice A l.length c] w fun q w' => ∃ A' c', q = .returned (.slice A' l.length c') ∧ l.length ≤ c' ∧ Row d 139 w w.heap.size w' A' l ∧ Below w.heap.size w w' := by
  have q22 : ∀ (w : World) (a : Option Addr) (n c n' c' : Nat), (binOp .eql 27 (.slice a n c) (.slice none n' c')).run Try.prog w = .ok (.bool a.isNone) w := fun w a n c n' c' => Lib.run_eql_slice_nil w _ _ a n c n' c' Try.underlying27
  cases A with
  | none =>
    have z : l = [] := by
      cases l with
      | nil => rfl
      | cons x l => obtain ⟨ad, e, _⟩ := hC.2.2 (by simp); cases e
    subst z
    go_enter Try.func71, Try.ntmps71
    go_wp2_with fail
    go_ret
    exact ⟨none, 0, rfl, Nat.le_refl _, fun q => by simp at q, Below.refl _ _⟩
  | some ad =>
    have hrow : ∀ j p, l[j]? = some p → ∃ cs, cs.length = d.sz ∧ d.K w p cs ∧ ∀ q u, cs[q]? = some u → w.cell? (ad.add (0 + (j * d.sz + q))) = some u := fun j p hj => by
      obtain ⟨ad', e, h⟩ := hC.2.2 (by have := (List.getElem?_eq_some_iff.1 hj).1; omega)
      cases e
      simp only [Nat.zero_add]
      exact h j p hj
    obtain ⟨news, n1, n2, n3, n4⟩ := news_of (o := 0) hrow
    have N4 : Aside0 (∀ j u, news[j]? = some u → w.cell? (ad.add j) = some u) := ⟨fun j u hj => by have := n4 j u hj; rwa [Nat.zero_add] at this⟩
    have N3 := Aside0.mk n3
    rw [hd] at n1
    obtain ⟨i0, hi, hz0, hz1, hz2⟩ := info_parts (show (Try.prog.info? 139).map (fun i => (i.zero, i.size, i.bytes)) = some (some (.agg #[.int .i64 0, .int .i64 0]), 2, 16) by kernel_rfl)
    clear hrow n4 n3 hC
    go_enter Try.func71, Try.ntmps71
    go_wp2_with (at_builtin; refine wpList_append_own _ rfl _ _ 27 rfl w.heap.size 139 i0 (.agg #[.int .i64 0, .int .i64 0]) 2 16 Try.underlying27 hi hz0 hz1 hz2 rfl (by decide) _ _ _ rfl (World.ownsRow_made w #[] 0 (Nat.le_refl _) (Nat.zero_le _) (by simp)) ad l.length c news rfl ?qc1 ?qc2 ?qc3 ?qc4 ?qc5 ?qc6 ?_)
    case qc1 => exact n1
    case qc2 => exact fun j u hj => Lib.cell?_alloc_some _ (N4.out j u hj)
    case qc3 => exact n2
    case qc4 => simp only [maxLen]; omega
    case qc5 => omega
    case qc6 => simp
    intro v' w1 hown hgrow hnil
    have hb : Below w.heap.size w w1 := ((Below.refl _ w).alloc (Nat.le_refl _) _).grown hgrow (by simp) (by intro k hk; simp [Value.ownBlock] at hk; omega)
    have hown2 : w1.ownsRow w.heap.size 139 d.sz v' l.length news := by rw [hd]; simpa using hown
    obtain ⟨A', c', rfl, h1, h2⟩ := row_of hown2 N3.out
    have H1 := Aside0.mk h1; have H2 := Aside0.mk h2; have HB := Aside0.mk hb
    clear hown hown2 hgrow hnil h1 h2 hb N3 N4 n1 n2
    go_wp2_with fail
    go_ret
    exact ⟨A', c', rfl, H1.out, H2.out, HB.out⟩
set_option maxHeartbeats 1000000 in
set_option maxRecDepth 100000 in
theorem time {α : Type} (d : Kd α) (hd : d.sz = 3) (A : Option Addr) (c : Nat) (l : List α) (w : World) (hC : Kd.C d w A l.length l) (hl : l.length ≤ 100000000) :
    Calls Try.prog 53 #[.slice A l.length c] w fun q w' => ∃ A' c', q = .returned (.slice A' l.length c') ∧ l.length ≤ c' ∧ Row d 25 w w.heap.size w' A' l ∧ Below w.heap.size w w' := by
  have q22 : ∀ (w : World) (a : Option Addr) (n c n' c' : Nat), (binOp .eql 30 (.slice a n c) (.slice none n' c')).run Try.prog w = .ok (.bool a.isNone) w := fun w a n c n' c' => Lib.run_eql_slice_nil w _ _ a n c n' c' Try.underlying30
  cases A with
  | none =>
    have z : l = [] := by
      cases l with
      | nil => rfl
      | cons x l => obtain ⟨ad, e, _⟩ := hC.2.2 (by simp); cases e
    subst z
    go_enter Try.func53, Try.ntmps53
    go_wp2_with fail
    go_ret
    exact ⟨none, 0, rfl, Nat.le_refl _, fun q => by simp at q, Below.refl _ _⟩
  | some ad =>
    have hrow : ∀ j p, l[j]? = some p → ∃ cs, cs.length = d.sz ∧ d.K w p cs ∧ ∀ q u, cs[q]? = some u → w.cell? (ad.add (0 + (j * d.sz + q))) = some u := fun j p hj => by
      obtain ⟨ad', e, h⟩ := hC.2.2 (by have := (List.getElem?_eq_some_iff.1 hj).1; omega)
      cases e
      simp only [Nat.zero_add]
      exact h j p hj
    obtain ⟨news, n1, n2, n3, n4⟩ := news_of (o := 0) hrow
    have N4 : Aside0 (∀ j u, news[j]? = some u → w.cell? (ad.add j) = some u) := ⟨fun j u hj => by have := n4 j u hj; rwa [Nat.zero_add] at this⟩
    have N3 := Aside0.mk n3
    rw [hd] at n1
    obtain ⟨i0, hi, hz0, hz1, hz2⟩ := info_parts (show (Try.prog.info? 25).map (fun i => (i.zero, i.size, i.bytes)) = some (some (.agg #[.int .i64 0, .int .i64 0, .string ⟨#[]⟩]), 3, 32) by kernel_rfl)
    clear hrow n4 n3 hC
    go_enter Try.func53, Try.ntmps53
    go_wp2_with (at_builtin; refine wpList_append_own _ rfl _ _ 30 rfl w.heap.size 25 i0 (.agg #[.int .i64 0, .int .i64 0, .string ⟨#[]⟩]) 3 32 Try.underlying30 hi hz0 hz1 hz2 rfl (by decide) _ _ _ rfl (World.ownsRow_made w #[] 0 (Nat.le_refl _) (Nat.zero_le _) (by simp)) ad l.length c news rfl ?qc1 ?qc2 ?qc3 ?qc4 ?qc5 ?qc6 ?_)
    case qc1 => exact n1
    case qc2 => exact fun j u hj => Lib.cell?_alloc_some _ (N4.out j u hj)
    case qc3 => exact n2
    case qc4 => simp only [maxLen]; omega
    case qc5 => omega
    case qc6 => simp
    intro v' w1 hown hgrow hnil
    have hb : Below w.heap.size w w1 := ((Below.refl _ w).alloc (Nat.le_refl _) _).grown hgrow (by simp) (by intro k hk; simp [Value.ownBlock] at hk; omega)
    have hown2 : w1.ownsRow w.heap.size 25 d.sz v' l.length news := by rw [hd]; simpa using hown
    obtain ⟨A', c', rfl, h1, h2⟩ := row_of hown2 N3.out
    have H1 := Aside0.mk h1; have H2 := Aside0.mk h2; have HB := Aside0.mk hb
    clear hown hown2 hgrow hnil h1 h2 hb N3 N4 n1 n2
    go_wp2_with fail
    go_ret
    exact ⟨A', c', rfl, H1.out, H2.out, HB.out⟩
set_option maxHeartbeats 1000000 in
set_option maxRecDepth 100000 in
theorem person {α : Type} (d : Kd α) (hd : d.sz = 6) (A : Option Addr) (c : Nat) (l : List α) (w : World) (hC : Kd.C d w A l.length l) (hl : l.length ≤ 100000000) :
    Calls Try.prog 37 #[.slice A l.length c] w fun q w' => ∃ A' c', q = .returned (.slice A' l.length c') ∧ l.length ≤ c' ∧ Row d 40 w w.heap.size w' A' l ∧ Below w.heap.size w w' := by
  have q22 : ∀ (w : World) (a : Option Addr) (n c n' c' : Nat), (binOp .eql 33 (.slice a n c) (.slice none n' c')).run Try.prog w = .ok (.bool a.isNone) w := fun w a n c n' c' => Lib.run_eql_slice_nil w _ _ a n c n' c' Try.underlying33
  cases A with
  | none =>
    have z : l = [] := by
      cases l with
      | nil => rfl
      | cons x l => obtain ⟨ad, e, _⟩ := hC.2.2 (by simp); cases e
    subst z
    go_enter Try.func37, Try.ntmps37
    go_wp2_with fail
    go_ret
    exact ⟨none, 0, rfl, Nat.le_refl _, fun q => by simp at q, Below.refl _ _⟩
  | some ad =>
    have hrow : ∀ j p, l[j]? = some p → ∃ cs, cs.length = d.sz ∧ d.K w p cs ∧ ∀ q u, cs[q]? = some u → w.cell? (ad.add (0 + (j * d.sz + q))) = some u := fun j p hj => by
      obtain ⟨ad', e, h⟩ := hC.2.2 (by have := (List.getElem?_eq_some_iff.1 hj).1; omega)
      cases e
      simp only [Nat.zero_add]
      exact h j p hj
    obtain ⟨news, n1, n2, n3, n4⟩ := news_of (o := 0) hrow
    have N4 : Aside0 (∀ j u, news[j]? = some u → w.cell? (ad.add j) = some u) := ⟨fun j u hj => by have := n4 j u hj; rwa [Nat.zero_add] at this⟩
    have N3 := Aside0.mk n3
    rw [hd] at n1
    obtain ⟨i0, hi, hz0, hz1, hz2⟩ := info_parts (show (Try.prog.info? 40).map (fun i => (i.zero, i.size, i.bytes)) = some (some (.agg #[.string ⟨#[]⟩, .int .i64 0, .int .i64 0, .bool false, .string ⟨#[]⟩, .string ⟨#[]⟩]), 6, 72) by kernel_rfl)
    clear hrow n4 n3 hC
    go_enter Try.func37, Try.ntmps37
    go_wp2_with (at_builtin; refine wpList_append_own _ rfl _ _ 33 rfl w.heap.size 40 i0 (.agg #[.string ⟨#[]⟩, .int .i64 0, .int .i64 0, .bool false, .string ⟨#[]⟩, .string ⟨#[]⟩]) 6 72 Try.underlying33 hi hz0 hz1 hz2 rfl (by decide) _ _ _ rfl (World.ownsRow_made w #[] 0 (Nat.le_refl _) (Nat.zero_le _) (by simp)) ad l.length c news rfl ?qc1 ?qc2 ?qc3 ?qc4 ?qc5 ?qc6 ?_)
    case qc1 => exact n1
    case qc2 => exact fun j u hj => Lib.cell?_alloc_some _ (N4.out j u hj)
    case qc3 => exact n2
    case qc4 => simp only [maxLen]; omega
    case qc5 => omega
    case qc6 => simp
    intro v' w1 hown hgrow hnil
    have hb : Below w.heap.size w w1 := ((Below.refl _ w).alloc (Nat.le_refl _) _).grown hgrow (by simp) (by intro k hk; simp [Value.ownBlock] at hk; omega)
    have hown2 : w1.ownsRow w.heap.size 40 d.sz v' l.length news := by rw [hd]; simpa using hown
    obtain ⟨A', c', rfl, h1, h2⟩ := row_of hown2 N3.out
    have H1 := Aside0.mk h1; have H2 := Aside0.mk h2; have HB := Aside0.mk hb
    clear hown hown2 hgrow hnil h1 h2 hb N3 N4 n1 n2
    go_wp2_with fail
    go_ret
    exact ⟨A', c', rfl, H1.out, H2.out, HB.out⟩
set_option maxHeartbeats 1000000 in
set_option maxRecDepth 100000 in
theorem line {α : Type} (d : Kd α) (hd : d.sz = 3) (A : Option Addr) (c : Nat) (l : List α) (w : World) (hC : Kd.C d w A l.length l) (hl : l.length ≤ 100000000) :
    Calls Try.prog 38 #[.slice A l.length c] w fun q w' => ∃ A' c', q = .returned (.slice A' l.length c') ∧ l.length ≤ c' ∧ Row d 55 w w.heap.size w' A' l ∧ Below w.heap.size w w' := by
  have q22 : ∀ (w : World) (a : Option Addr) (n c n' c' : Nat), (binOp .eql 34 (.slice a n c) (.slice none n' c')).run Try.prog w = .ok (.bool a.isNone) w := fun w a n c n' c' => Lib.run_eql_slice_nil w _ _ a n c n' c' Try.underlying34
  cases A with
  | none =>
    have z : l = [] := by
      cases l with
      | nil => rfl
      | cons x l => obtain ⟨ad, e, _⟩ := hC.2.2 (by simp); cases e
    subst z
    go_enter Try.func38, Try.ntmps38
    go_wp2_with fail
    go_ret
    exact ⟨none, 0, rfl, Nat.le_refl _, fun q => by simp at q, Below.refl _ _⟩
  | some ad =>
    have hrow : ∀ j p, l[j]? = some p → ∃ cs, cs.length = d.sz ∧ d.K w p cs ∧ ∀ q u, cs[q]? = some u → w.cell? (ad.add (0 + (j * d.sz + q))) = some u := fun j p hj => by
      obtain ⟨ad', e, h⟩ := hC.2.2 (by have := (List.getElem?_eq_some_iff.1 hj).1; omega)
      cases e
      simp only [Nat.zero_add]
      exact h j p hj
    obtain ⟨news, n1, n2, n3, n4⟩ := news_of (o := 0) hrow
    have N4 : Aside0 (∀ j u, news[j]? = some u → w.cell? (ad.add j) = some u) := ⟨fun j u hj => by have := n4 j u hj; rwa [Nat.zero_add] at this⟩
    have N3 := Aside0.mk n3
    rw [hd] at n1
    obtain ⟨i0, hi, hz0, hz1, hz2⟩ := info_parts (show (Try.prog.info? 55).map (fun i => (i.zero, i.size, i.bytes)) = some (some (.agg #[.string ⟨#[]⟩, .slice none 0 0, .string ⟨#[]⟩]), 3, 56) by kernel_rfl)
    clear hrow n4 n3 hC
    go_enter Try.func38, Try.ntmps38
    go_wp2_with (at_builtin; refine wpList_append_own _ rfl _ _ 34 rfl w.heap.size 55 i0 (.agg #[.string ⟨#[]⟩, .slice none 0 0, .string ⟨#[]⟩]) 3 56 Try.underlying34 hi hz0 hz1 hz2 rfl (by decide) _ _ _ rfl (World.ownsRow_made w #[] 0 (Nat.le_refl _) (Nat.zero_le _) (by simp)) ad l.length c news rfl ?qc1 ?qc2 ?qc3 ?qc4 ?qc5 ?qc6 ?_)
    case qc1 => exact n1
    case qc2 => exact fun j u hj => Lib.cell?_alloc_some _ (N4.out j u hj)
    case qc3 => exact n2
    case qc4 => simp only [maxLen]; omega
    case qc5 => omega
    case qc6 => simp
    intro v' w1 hown hgrow hnil
    have hb : Below w.heap.size w w1 := ((Below.refl _ w).alloc (Nat.le_refl _) _).grown hgrow (by simp) (by intro k hk; simp [Value.ownBlock] at hk; omega)
    have hown2 : w1.ownsRow w.heap.size 55 d.sz v' l.length news := by rw [hd]; simpa using hown
    obtain ⟨A', c', rfl, h1, h2⟩ := row_of hown2 N3.out
    have H1 := Aside0.mk h1; have H2 := Aside0.mk h2; have HB := Aside0.mk hb
    clear hown hown2 hgrow hnil h1 h2 hb N3 N4 n1 n2
    go_wp2_with fail
    go_ret
    exact ⟨A', c', rfl, H1.out, H2.out, HB.out⟩
set_option maxHeartbeats 1000000 in
set_option maxRecDepth 100000 in
theorem param {α : Type} (d : Kd α) (hd : d.sz = 2) (A : Option Addr) (c : Nat) (l : List α) (w : World) (hC : Kd.C d w A l.length l) (hl : l.length ≤ 3518437208883) :
    Calls Try.prog 54 #[.slice A l.length c] w fun q w' => ∃ A' c', q = .returned (.slice A' l.length c') ∧ l.length ≤ c' ∧ Row d 105 w w.heap.size w' A' l ∧ Below w.heap.size w w' := by
  have q22 : ∀ (w : World) (a : Option Addr) (n c n' c' : Nat), (binOp .eql 53 (.slice a n c) (.slice none n' c')).run Try.prog w = .ok (.bool a.isNone) w := fun w a n c n' c' => Lib.run_eql_slice_nil w _ _ a n c n' c' Try.underlying53
  cases A with
  | none =>
    have z : l = [] := by
      cases l with
      | nil => rfl
      | cons x l => obtain ⟨ad, e, _⟩ := hC.2.2 (by simp); cases e
    subst z
    go_enter Try.func54, Try.ntmps54
    go_wp2_with fail
    go_ret
    exact ⟨none, 0, rfl, Nat.le_refl _, fun q => by simp at q, Below.refl _ _⟩
  | some ad =>
    have hrow : ∀ j p, l[j]? = some p → ∃ cs, cs.length = d.sz ∧ d.K w p cs ∧ ∀ q u, cs[q]? = some u → w.cell? (ad.add (0 + (j * d.sz + q))) = some u := fun j p hj => by
      obtain ⟨ad', e, h⟩ := hC.2.2 (by have := (List.getElem?_eq_some_iff.1 hj).1; omega)
      cases e
      simp only [Nat.zero_add]
      exact h j p hj
    obtain ⟨news, n1, n2, n3, n4⟩ := news_of (o := 0) hrow
    have N4 : Aside0 (∀ j u, news[j]? = some u → w.cell? (ad.add j) = some u) := ⟨fun j u hj => by have := n4 j u hj; rwa [Nat.zero_add] at this⟩
    have N3 := Aside0.mk n3
    rw [hd] at n1
    obtain ⟨i0, hi, hz0, hz1, hz2⟩ := info_parts (show (Try.prog.info? 105).map (fun i => (i.zero, i.size, i.bytes)) = some (some (.agg #[.string ⟨#[]⟩, .slice none 0 0]), 2, 40) by kernel_rfl)
    clear hrow n4 n3 hC
    go_enter Try.func54, Try.ntmps54
    go_wp2_with (at_builtin; refine wpList_append_own _ rfl _ _ 53 rfl w.heap.size 105 i0 (.agg #[.string ⟨#[]⟩, .slice none 0 0]) 2 40 Try.underlying53 hi hz0 hz1 hz2 rfl (by decide) _ _ _ rfl (World.ownsRow_made w #[] 0 (Nat.le_refl _) (Nat.zero_le _) (by simp)) ad l.length c news rfl ?qc1 ?qc2 ?qc3 ?qc4 ?qc5 ?qc6 ?_)
    case qc1 => exact n1
    case qc2 => exact fun j u hj => Lib.cell?_alloc_some _ (N4.out j u hj)
    case qc3 => exact n2
    case qc4 => simp only [maxLen]; omega
    case qc5 => omega
    case qc6 => simp
    intro v' w1 hown hgrow hnil
    have hb : Below w.heap.size w w1 := ((Below.refl _ w).alloc (Nat.le_refl _) _).grown hgrow (by simp) (by intro k hk; simp [Value.ownBlock] at hk; omega)
    have hown2 : w1.ownsRow w.heap.size 105 d.sz v' l.length news := by rw [hd]; simpa using hown
    obtain ⟨A', c', rfl, h1, h2⟩ := row_of hown2 N3.out
    have H1 := Aside0.mk h1; have H2 := Aside0.mk h2; have HB := Aside0.mk hb
    clear hown hown2 hgrow hnil h1 h2 hb N3 N4 n1 n2
    go_wp2_with fail
    go_ret
    exact ⟨A', c', rfl, H1.out, H2.out, HB.out⟩
set_option maxHeartbeats 1000000 in
set_option maxRecDepth 100000 in
theorem str {α : Type} (d : Kd α) (hd : d.sz = 1) (A : Option Addr) (c : Nat) (l : List α) (w : World) (hC : Kd.C d w A l.length l) (hl : l.length ≤ 8796093022208) :
    Calls Try.prog 55 #[.slice A l.length c] w fun q w' => ∃ A' c', q = .returned (.slice A' l.length c') ∧ l.length ≤ c' ∧ Row d 9 w w.heap.size w' A' l ∧ Below w.heap.size w w' := by
  have q22 : ∀ (w : World) (a : Option Addr) (n c n' c' : Nat), (binOp .eql 102 (.slice a n c) (.slice none n' c')).run Try.prog w = .ok (.bool a.isNone) w := fun w a n c n' c' => Lib.run_eql_slice_nil w _ _ a n c n' c' Try.underlying102
  cases A with
  | none =>
    have z : l = [] := by
      cases l with
      | nil => rfl
      | cons x l => obtain ⟨ad, e, _⟩ := hC.2.2 (by simp); cases e
    subst z
    go_enter Try.func55, Try.ntmps55
    go_wp2_with fail
    go_ret
    exact ⟨none, 0, rfl, Nat.le_refl _, fun q => by simp at q, Below.refl _ _⟩
  | some ad =>
    have hrow : ∀ j p, l[j]? = some p → ∃ cs, cs.length = d.sz ∧ d.K w p cs ∧ ∀ q u, cs[q]? = some u → w.cell? (ad.add (0 + (j * d.sz + q))) = some u := fun j p hj => by
      obtain ⟨ad', e, h⟩ := hC.2.2 (by have := (List.getElem?_eq_some_iff.1 hj).1; omega)
      cases e
      simp only [Nat.zero_add]
      exact h j p hj
    obtain ⟨news, n1, n2, n3, n4⟩ := news_of (o := 0) hrow
    have N4 : Aside0 (∀ j u, news[j]? = some u → w.cell? (ad.add j) = some u) := ⟨fun j u hj => by have := n4 j u hj; rwa [Nat.zero_add] at this⟩
    have N3 := Aside0.mk n3
    rw [hd] at n1
    obtain ⟨i0, hi, hz0, hz1, hz2⟩ := info_parts (show (Try.prog.info? 9).map (fun i => (i.zero, i.size, i.bytes)) = some (some (.string ⟨#[]⟩), 1, 16) by kernel_rfl)
    clear hrow n4 n3 hC
    go_enter Try.func55, Try.ntmps55
    go_wp2_with (at_builtin; refine wpList_append_own _ rfl _ _ 102 rfl w.heap.size 9 i0 (.string ⟨#[]⟩) 1 16 Try.underlying102 hi hz0 hz1 hz2 rfl (by decide) _ _ _ rfl (World.ownsRow_made w #[] 0 (Nat.le_refl _) (Nat.zero_le _) (by simp)) ad l.length c news rfl ?qc1 ?qc2 ?qc3 ?qc4 ?qc5 ?qc6 ?_)
    case qc1 => exact n1
    case qc2 => exact fun j u hj => Lib.cell?_alloc_some _ (N4.out j u hj)
    case qc3 => exact n2
    case qc4 => simp only [maxLen]; omega
    case qc5 => omega
    case qc6 => simp
    intro v' w1 hown hgrow hnil
    have hb : Below w.heap.size w w1 := ((Below.refl _ w).alloc (Nat.le_refl _) _).grown hgrow (by simp) (by intro k hk; simp [Value.ownBlock] at hk; omega)
    have hown2 : w1.ownsRow w.heap.size 9 d.sz v' l.length news := by rw [hd]; simpa using hown
    obtain ⟨A', c', rfl, h1, h2⟩ := row_of hown2 N3.out
    have H1 := Aside0.mk h1; have H2 := Aside0.mk h2; have HB := Aside0.mk hb
    clear hown hown2 hgrow hnil h1 h2 hb N3 N4 n1 n2
    go_wp2_with fail
    go_ret
    exact ⟨A', c', rfl, H1.out, H2.out, HB.out⟩
end Go.Proofs.Ytddoidcbpcmlaaa.Clo
