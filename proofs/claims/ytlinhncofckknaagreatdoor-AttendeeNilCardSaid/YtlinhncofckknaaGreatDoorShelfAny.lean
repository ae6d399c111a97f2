/- Contracts of Go's library at this seat: written by the kit's lay-shelf.mjs and lay-plain.mjs, picked by shelf_pick.py. -/
import Derived.Shelf.Small.Utf8
import Derived.Shelf.Small.Strs
import Derived.Shelf.Small.Wraps
import Derived.Shelf.Strings.Search1
import Derived.Shelf.Strings.Prefix
import Derived.Shelf.Strings.Runes
import Derived.Shelf.Strings.IndexAny
import Derived.Shelf.Strings.AsciiSet
import Derived.Shelf.Strings.IndexAnyAll
import Derived.Test.YtlinhncofckknaaGreatDoorProg
namespace Go.Proofs.YtlinhncofckknaaGreatDoor.Shelf
open Go.Shelf Go.Proofs
set_option linter.unusedVariables false
def lays150_ren : Go.Shelf.Ren := ⟨fun | 150 => 46 | 153 => 78 | 152 => 107 | 226 => 108 | 227 => 109 | 228 => 110 | 137 => 105 | 119 => 129 | 224 => 130 | 225 => 131 | 217 => 128 | 266 => 144 | n => n, fun | 9 => 9 | 4 => 4 | 3 => 3 | 5 => 5 | 21 => 21 | 117 => 205 | 116 => 204 | 0 => 0 | 46 => 221 | 124 => 222 | n => n, fun | n => n⟩
theorem lays150 : Go.Proofs.Lays.n150 Tryz.prog lays150_ren := {
  mixed := by kernel_rfl
  f119 := Tryz.func129.trans (congrArg some (by kernel_rfl))
  f137 := Tryz.func105.trans (congrArg some (by kernel_rfl))
  f150 := Tryz.func46.trans (congrArg some (by kernel_rfl))
  f152 := Tryz.func107.trans (congrArg some (by kernel_rfl))
  f153 := Tryz.func78.trans (congrArg some (by kernel_rfl))
  f217 := Tryz.func128.trans (congrArg some (by kernel_rfl))
  f224 := Tryz.func130.trans (congrArg some (by kernel_rfl))
  f225 := Tryz.func131.trans (congrArg some (by kernel_rfl))
  f226 := Tryz.func108.trans (congrArg some (by kernel_rfl))
  f227 := Tryz.func109.trans (congrArg some (by kernel_rfl))
  f228 := Tryz.func110.trans (congrArg some (by kernel_rfl))
  f266 := Tryz.func144.trans (congrArg some (by kernel_rfl))
  t0 := Tryz.underlying0
  a0 := Tryz.isAgg0
  z0 := Tryz.sizeOf0
  v0 := Tryz.zeroValue0
  t3 := Tryz.underlying3
  a3 := Tryz.isAgg3
  z3 := Tryz.sizeOf3
  v3 := Tryz.zeroValue3
  t4 := Tryz.underlying4
  a4 := Tryz.isAgg4
  z4 := Tryz.sizeOf4
  v4 := Tryz.zeroValue4
  t5 := Tryz.underlying5
  a5 := Tryz.isAgg5
  z5 := Tryz.sizeOf5
  v5 := Tryz.zeroValue5
  t9 := Tryz.underlying9
  a9 := Tryz.isAgg9
  z9 := Tryz.sizeOf9
  v9 := Tryz.zeroValue9
  t21 := Tryz.underlying21
  a21 := Tryz.isAgg21
  z21 := Tryz.sizeOf21
  v21 := Tryz.zeroValue21
  t46 := Tryz.underlying221
  a46 := Tryz.isAgg221
  z46 := Tryz.sizeOf221
  v46 := Tryz.zeroValue221
  t116 := Tryz.underlying204
  a116 := Tryz.isAgg204
  z116 := Tryz.sizeOf204
  t117 := Tryz.underlying205
  a117 := Tryz.isAgg205
  z117 := Tryz.sizeOf205
  v117 := Tryz.zeroValue205
  t124 := Tryz.underlying222
  a124 := Tryz.isAgg222
  z124 := Tryz.sizeOf222
  v124 := Tryz.zeroValue222 }
open Go.RowKit Go.Lib in
theorem strings_ContainsAny_laid (s chars : ByteArray) (w : World) (hs : s.size < 4294967281) (hcs : chars.size < 4294967281) (has : ∀ (j : Nat) b, s.data.toList[j]? = some b → b.toNat < 128) (hac : ∀ (j : Nat) b, chars.data.toList[j]? = some b → b.toNat < 128) :
    Calls Tryz.prog 46 #[.string s, .string chars] w fun e w' => e = .returned (.bool (Lib.containsAny s.data.toList chars.data.toList)) ∧ Below w.heap.size w w' := Any.strings_ContainsAny_laid lays150 (by kernel_rfl) s chars w hs hcs has hac
end Go.Proofs.YtlinhncofckknaaGreatDoor.Shelf
