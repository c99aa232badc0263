/-
  DERIVED: THE SHELF's CONTRACTS AT THIS DUMP, IN PLAIN WORDS (tools/lay-plain.mjs out of 'TrydIterCut.lean', which tools/lay-shelf.mjs wrote): THE SAME DECLARATIONS UNDER THE SAME NAMES: 'import', 'namespace', 'open', 'def', 'theorem' AND NOTHING ELSE: no command of the shelf's: FOR A HAND-IN. Each laying: the table of numbers ('.._ren') and one theorem, a field a fact of the dump's own or the kernel's comparison; each contract: ONE APPLICATION.
-/
import Derived.Shelf.SlGeneric
import Derived.Shelf.SlIter.Nil
import Derived.Shelf.SortM.Plain
import Derived.Shelf.SortM.SortNone
import Derived.Ground.GgzProg
import Derived.Ground.SlgmProg
import Derived.Test.YtomnmgmehagjfaaDoorProg
namespace Go.Proofs
open Go.Shelf
def Tryd.keys40_ren : Go.Shelf.Ren := ⟨fun | 7 => 40 | 10 => 51 | n => n, fun | 23 => 44 | 26 => 9 | 3 => 57 | 28 => 74 | 0 => 0 | 27 => 73 | 33 => 35 | 4 => 4 | n => n, fun | n => n⟩
theorem Tryd.keys40 : Go.Proofs.SlLaysZ.n7 Tryd.prog Tryd.keys40_ren := {
  mixed := by kernel_rfl
  f7 := ⟨Tryd.f40.name, by decide, Tryd.func40.trans (congrArg some (by kernel_rfl))⟩
  f10 := ⟨Tryd.f51.name, by decide, Tryd.func51.trans (congrArg some (by kernel_rfl))⟩
  t0 := Tryd.underlying0
  a0 := Tryd.isAgg0
  z0 := Tryd.sizeOf0
  v0 := Tryd.zeroValue0
  t4 := Tryd.underlying4
  a4 := Tryd.isAgg4
  z4 := Tryd.sizeOf4
  v4 := Tryd.zeroValue4
  t23 := Tryd.underlying44
  a23 := Tryd.isAgg44
  z23 := Tryd.sizeOf44
  v23 := Tryd.zeroValue44
  t26 := Tryd.underlying9
  a26 := Tryd.isAgg9
  z26 := Tryd.sizeOf9
  v26 := Tryd.zeroValue9
  t27 := Tryd.underlying73
  a27 := Tryd.isAgg73
  z27 := Tryd.sizeOf73
  v27 := Tryd.zeroValue73
  t28 := Tryd.underlying74
  a28 := Tryd.isAgg74
  z28 := Tryd.sizeOf74
  v28 := Tryd.zeroValue74
  t33 := Tryd.underlying35
  a33 := Tryd.isAgg35
  z33 := Tryd.sizeOf35
  v33 := Tryd.zeroValue35 }
def Tryd.sorted39_ren : Go.Shelf.Ren := ⟨fun | 6 => 39 | 8 => 49 | 9 => 50 | 11 => 62 | 13 => 64 | 12 => 63 | 23 => 82 | 24 => 83 | 14 => 73 | 15 => 74 | 16 => 75 | 17 => 76 | 18 => 77 | 19 => 78 | 20 => 79 | 21 => 80 | 22 => 81 | 25 => 95 | 26 => 96 | 27 => 97 | 28 => 98 | 29 => 99 | 30 => 100 | 31 => 107 | n => n, fun | 26 => 9 | 28 => 74 | 24 => 50 | 0 => 0 | 3 => 3 | 37 => 95 | 48 => 116 | 50 => 99 | 4 => 4 | 40 => 109 | 39 => 108 | 45 => 58 | 5 => 5 | 9 => 9 | 51 => 127 | 55 => 131 | 57 => 142 | 58 => 143 | 33 => 35 | n => n, fun | n => n⟩
theorem Tryd.sorted39 : Go.Proofs.SlLaysZ.n6 Tryd.prog Tryd.sorted39_ren := {
  mixed := by kernel_rfl
  f6 := ⟨Tryd.f39.name, by decide, Tryd.func39.trans (congrArg some (by kernel_rfl))⟩
  f8 := ⟨Tryd.f49.name, by decide, Tryd.func49.trans (congrArg some (by kernel_rfl))⟩
  f11 := ⟨Tryd.f62.name, by decide, Tryd.func62.trans (congrArg some (by kernel_rfl))⟩
  t0 := Tryd.underlying0
  a0 := Tryd.isAgg0
  z0 := Tryd.sizeOf0
  v0 := Tryd.zeroValue0
  t24 := Tryd.underlying50
  a24 := Tryd.isAgg50
  z24 := Tryd.sizeOf50
  v24 := Tryd.zeroValue50
  t26 := Tryd.underlying9
  a26 := Tryd.isAgg9
  z26 := Tryd.sizeOf9
  v26 := Tryd.zeroValue9
  t28 := Tryd.underlying74
  a28 := Tryd.isAgg74
  z28 := Tryd.sizeOf74
  v28 := Tryd.zeroValue74
  i26 := by kernel_rfl }
def Tryd.sort50_ren : Go.Shelf.Ren := ⟨fun | 6 => 50 | 8 => 64 | 9 => 63 | 19 => 82 | 20 => 83 | 21 => 73 | 22 => 74 | 23 => 75 | 24 => 76 | 25 => 77 | 26 => 78 | 27 => 79 | 28 => 80 | 29 => 81 | 36 => 95 | 31 => 96 | 32 => 97 | 37 => 98 | 38 => 99 | 39 => 100 | 41 => 107 | n => n, fun | 27 => 50 | 29 => 9 | 3 => 3 | 32 => 95 | 26 => 50 | 0 => 0 | 44 => 116 | 46 => 99 | 4 => 4 | 36 => 109 | 35 => 108 | 41 => 58 | 5 => 5 | 9 => 9 | 53 => 127 | 57 => 131 | 63 => 142 | 64 => 143 | n => n, fun | n => n⟩
theorem Tryd.sort50 : Go.Proofs.SlLaysM.n6 Tryd.prog Tryd.sort50_ren := {
  mixed := by kernel_rfl
  f6 := ⟨Tryd.f50.name, by decide, Tryd.func50.trans (congrArg some (by kernel_rfl))⟩
  f8 := Tryd.func64.trans (congrArg some (by kernel_rfl))
  f9 := ⟨Tryd.f63.name, by decide, Tryd.func63.trans (congrArg some (by kernel_rfl))⟩
  f19 := Tryd.func82.trans (congrArg some (by kernel_rfl))
  f20 := Tryd.func83.trans (congrArg some (by kernel_rfl))
  f21 := ⟨Tryd.f73.name, by decide, Tryd.func73.trans (congrArg some (by kernel_rfl))⟩
  f22 := ⟨Tryd.f74.name, by decide, Tryd.func74.trans (congrArg some (by kernel_rfl))⟩
  f23 := ⟨Tryd.f75.name, by decide, Tryd.func75.trans (congrArg some (by kernel_rfl))⟩
  f24 := ⟨Tryd.f76.name, by decide, Tryd.func76.trans (congrArg some (by kernel_rfl))⟩
  f25 := ⟨Tryd.f77.name, by decide, Tryd.func77.trans (congrArg some (by kernel_rfl))⟩
  f26 := ⟨Tryd.f78.name, by decide, Tryd.func78.trans (congrArg some (by kernel_rfl))⟩
  f27 := ⟨Tryd.f79.name, by decide, Tryd.func79.trans (congrArg some (by kernel_rfl))⟩
  f28 := ⟨Tryd.f80.name, by decide, Tryd.func80.trans (congrArg some (by kernel_rfl))⟩
  f29 := ⟨Tryd.f81.name, by decide, Tryd.func81.trans (congrArg some (by kernel_rfl))⟩
  f31 := Tryd.func96.trans (congrArg some (by kernel_rfl))
  f32 := Tryd.func97.trans (congrArg some (by kernel_rfl))
  f36 := ⟨Tryd.f95.name, by decide, Tryd.func95.trans (congrArg some (by kernel_rfl))⟩
  f37 := ⟨Tryd.f98.name, by decide, Tryd.func98.trans (congrArg some (by kernel_rfl))⟩
  f38 := ⟨Tryd.f99.name, by decide, Tryd.func99.trans (congrArg some (by kernel_rfl))⟩
  f39 := ⟨Tryd.f100.name, by decide, Tryd.func100.trans (congrArg some (by kernel_rfl))⟩
  f41 := ⟨Tryd.f107.name, by decide, Tryd.func107.trans (congrArg some (by kernel_rfl))⟩
  t0 := Tryd.underlying0
  a0 := Tryd.isAgg0
  z0 := Tryd.sizeOf0
  v0 := Tryd.zeroValue0
  t3 := Tryd.underlying3
  a3 := Tryd.isAgg3
  z3 := Tryd.sizeOf3
  v3 := Tryd.zeroValue3
  t4 := Tryd.underlying4
  a4 := Tryd.isAgg4
  z4 := Tryd.sizeOf4
  v4 := Tryd.zeroValue4
  t5 := Tryd.underlying5
  a5 := Tryd.isAgg5
  z5 := Tryd.sizeOf5
  v5 := Tryd.zeroValue5
  t9 := Tryd.underlying9
  a9 := Tryd.isAgg9
  z9 := Tryd.sizeOf9
  v9 := Tryd.zeroValue9
  t26 := Tryd.underlying50
  a26 := Tryd.isAgg50
  z26 := Tryd.sizeOf50
  v26 := Tryd.zeroValue50
  t27 := Tryd.underlying50
  a27 := Tryd.isAgg50
  z27 := Tryd.sizeOf50
  v27 := Tryd.zeroValue50
  t29 := Tryd.underlying9
  a29 := Tryd.isAgg9
  z29 := Tryd.sizeOf9
  v29 := Tryd.zeroValue9
  t32 := Tryd.underlying95
  a32 := Tryd.isAgg95
  z32 := Tryd.sizeOf95
  v32 := Tryd.zeroValue95
  t35 := Tryd.underlying108
  a35 := Tryd.isAgg108
  z35 := Tryd.sizeOf108
  v35 := Tryd.zeroValue108
  t36 := Tryd.underlying109
  a36 := Tryd.isAgg109
  z36 := Tryd.sizeOf109
  v36 := Tryd.zeroValue109
  t41 := Tryd.underlying58
  a41 := Tryd.isAgg58
  z41 := Tryd.sizeOf58
  v41 := Tryd.zeroValue58
  t44 := Tryd.underlying116
  a44 := Tryd.isAgg116
  z44 := Tryd.sizeOf116
  v44 := Tryd.zeroValue116
  t46 := Tryd.underlying99
  a46 := Tryd.isAgg99
  z46 := Tryd.sizeOf99
  v46 := Tryd.zeroValue99
  t53 := Tryd.underlying127
  a53 := Tryd.isAgg127
  z53 := Tryd.sizeOf127
  v53 := Tryd.zeroValue127
  t57 := Tryd.underlying131
  a57 := Tryd.isAgg131
  z57 := Tryd.sizeOf131
  v57 := Tryd.zeroValue131
  t63 := Tryd.underlying142
  a63 := Tryd.isAgg142
  z63 := Tryd.sizeOf142
  v63 := Tryd.zeroValue142
  t64 := Tryd.underlying143
  a64 := Tryd.isAgg143
  z64 := Tryd.sizeOf143
  v64 := Tryd.zeroValue143 }
end Go.Proofs
