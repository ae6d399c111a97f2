/- Contracts of Go's library at this seat: written by the kit's lay-shelf.mjs and lay-plain.mjs, picked by shelf_pick.py. -/
import Derived.Shelf.Small.Utf8
import Derived.Shelf.Small.Bits
import Derived.Shelf.Small.Strs
import Derived.Shelf.Strconv.Itoa0
import Derived.Shelf.Strings.Search1
import Derived.Shelf.Strings.Runes
import Derived.Shelf.Strings.IndexAny
import Derived.Shelf.Strings.AsciiSet
import Derived.Shelf.Strings.IndexAnyAll
import Derived.Ground.Names2Prog
import Derived.Shelf.Slices.Clone
import Derived.Ground.SlgnProg
import Derived.Shelf.SlicesE.Clone
import Derived.Test.YtddoidcbpcmlaaaProg
namespace Go.Proofs.Ytddoidcbpcmlaaa.Shelf
open Go.Shelf Go.Proofs
set_option linter.unusedVariables false
def lays150_ren : Go.Shelf.Ren := ⟨fun | 150 => 31 | 153 => 48 | 152 => 64 | 226 => 65 | 227 => 66 | 228 => 67 | 137 => 84 | 119 => 85 | 224 => 86 | 225 => 87 | 217 => 94 | 266 => 96 | n => n, fun | 9 => 9 | 4 => 4 | 3 => 3 | 5 => 5 | 21 => 21 | 117 => 123 | 116 => 122 | 0 => 0 | 46 => 117 | 124 => 157 | n => n, fun | n => n⟩
theorem lays150 : Go.Proofs.Lays.n150 Try.prog lays150_ren := {
  mixed := by kernel_rfl
  f119 := Try.func85.trans (congrArg some (by kernel_rfl))
  f137 := Try.func84.trans (congrArg some (by kernel_rfl))
  f150 := Try.func31.trans (congrArg some (by kernel_rfl))
  f152 := Try.func64.trans (congrArg some (by kernel_rfl))
  f153 := Try.func48.trans (congrArg some (by kernel_rfl))
  f217 := Try.func94.trans (congrArg some (by kernel_rfl))
  f224 := Try.func86.trans (congrArg some (by kernel_rfl))
  f225 := Try.func87.trans (congrArg some (by kernel_rfl))
  f226 := Try.func65.trans (congrArg some (by kernel_rfl))
  f227 := Try.func66.trans (congrArg some (by kernel_rfl))
  f228 := Try.func67.trans (congrArg some (by kernel_rfl))
  f266 := Try.func96.trans (congrArg some (by kernel_rfl))
  t0 := Try.underlying0
  a0 := Try.isAgg0
  z0 := Try.sizeOf0
  v0 := Try.zeroValue0
  t3 := Try.underlying3
  a3 := Try.isAgg3
  z3 := Try.sizeOf3
  v3 := Try.zeroValue3
  t4 := Try.underlying4
  a4 := Try.isAgg4
  z4 := Try.sizeOf4
  v4 := Try.zeroValue4
  t5 := Try.underlying5
  a5 := Try.isAgg5
  z5 := Try.sizeOf5
  v5 := Try.zeroValue5
  t9 := Try.underlying9
  a9 := Try.isAgg9
  z9 := Try.sizeOf9
  v9 := Try.zeroValue9
  t21 := Try.underlying21
  a21 := Try.isAgg21
  z21 := Try.sizeOf21
  v21 := Try.zeroValue21
  t46 := Try.underlying117
  a46 := Try.isAgg117
  z46 := Try.sizeOf117
  v46 := Try.zeroValue117
  t116 := Try.underlying122
  a116 := Try.isAgg122
  z116 := Try.sizeOf122
  t117 := Try.underlying123
  a117 := Try.isAgg123
  z117 := Try.sizeOf123
  v117 := Try.zeroValue123
  t124 := Try.underlying157
  a124 := Try.isAgg157
  z124 := Try.sizeOf157
  v124 := Try.zeroValue157 }
open Go.RowKit Go.Lib in
theorem strings_ContainsAny_laid (s chars : ByteArray) (w : World) (hs : s.size < 4294967281) (hcs : chars.size < 4294967281) (has : ∀ (j : Nat) b, s.data.toList[j]? = some b → b.toNat < 128) (hac : ∀ (j : Nat) b, chars.data.toList[j]? = some b → b.toNat < 128) :
    Calls Try.prog 31 #[.string s, .string chars] w fun e w' => e = .returned (.bool (Lib.containsAny s.data.toList chars.data.toList)) ∧ Below w.heap.size w w' := Any.strings_ContainsAny_laid lays150 (by kernel_rfl) s chars w hs hcs has hac
end Go.Proofs.Ytddoidcbpcmlaaa.Shelf
