/-
  DERIVED: THE SHELF's CONTRACTS AT THIS DUMP, IN PLAIN WORDS (tools/lay-plain.mjs out of 'YtphpkmjobhohfaaGreatDoorIter.lean', which tools/lay-shelf.mjs wrote): THE SAME DECLARATIONS UNDER THE SAME NAMES: 'import', 'namespace', 'open', 'def', 'theorem' AND NOTHING ELSE: no command of the shelf's: FOR A HAND-IN. Each laying: the table of numbers ('.._ren') and one theorem, a field a fact of the dump's own or the kernel's comparison; each contract: ONE APPLICATION.
-/
import Derived.Shelf.SlIter.Sorted
import Derived.Ground.GgzProg
import Derived.Shelf.SlGeneric
import Derived.Test.YtphpkmjobhohfaaGreatDoorProg
namespace Go.Proofs
open Go.Shelf
def Tryz.sorted13_ren : Go.Shelf.Ren := ⟨fun | 6 => 13 | 8 => 29 | 9 => 30 | 11 => 38 | 13 => 40 | 12 => 39 | 23 => 64 | 24 => 65 | 14 => 55 | 15 => 56 | 16 => 57 | 17 => 58 | 18 => 59 | 19 => 60 | 20 => 61 | 21 => 62 | 22 => 63 | 25 => 79 | 26 => 80 | 27 => 81 | 28 => 82 | 29 => 83 | 30 => 84 | 31 => 113 | n => n, fun | 26 => 9 | 28 => 44 | 24 => 29 | 0 => 0 | 3 => 3 | 37 => 83 | 48 => 119 | 50 => 121 | 4 => 4 | 40 => 112 | 39 => 111 | 45 => 81 | 5 => 5 | 9 => 9 | 51 => 152 | 55 => 156 | 57 => 194 | 58 => 195 | 33 => 71 | n => n, fun | n => n⟩
theorem Tryz.sorted13 : Go.Proofs.SlLaysZ.n6 Tryz.prog Tryz.sorted13_ren := {
  mixed := by kernel_rfl
  f6 := ⟨Tryz.f13.name, by decide, Tryz.func13.trans (congrArg some (by kernel_rfl))⟩
  f8 := ⟨Tryz.f29.name, by decide, Tryz.func29.trans (congrArg some (by kernel_rfl))⟩
  f11 := ⟨Tryz.f38.name, by decide, Tryz.func38.trans (congrArg some (by kernel_rfl))⟩
  t0 := Tryz.underlying0
  a0 := Tryz.isAgg0
  z0 := Tryz.sizeOf0
  v0 := Tryz.zeroValue0
  t24 := Tryz.underlying29
  a24 := Tryz.isAgg29
  z24 := Tryz.sizeOf29
  v24 := Tryz.zeroValue29
  t26 := Tryz.underlying9
  a26 := Tryz.isAgg9
  z26 := Tryz.sizeOf9
  v26 := Tryz.zeroValue9
  t28 := Tryz.underlying44
  a28 := Tryz.isAgg44
  z28 := Tryz.sizeOf44
  v28 := Tryz.zeroValue44
  i26 := by kernel_rfl }
end Go.Proofs
