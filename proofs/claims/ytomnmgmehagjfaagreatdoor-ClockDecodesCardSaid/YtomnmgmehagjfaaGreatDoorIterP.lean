/-
  DERIVED: THE SHELF's CONTRACTS AT THIS DUMP, IN PLAIN WORDS (tools/lay-plain.mjs out of 'TryzIterCut.lean', which tools/lay-shelf.mjs wrote): THE SAME DECLARATIONS UNDER THE SAME NAMES: 'import', 'namespace', 'open', 'def', 'theorem' AND NOTHING ELSE: no command of the shelf's: FOR A HAND-IN. Each laying: the table of numbers ('.._ren') and one theorem, a field a fact of the dump's own or the kernel's comparison; each contract: ONE APPLICATION.
-/
import Derived.Shelf.SlGeneric
import Derived.Shelf.SlIter.Nil
import Derived.Shelf.SortM.Plain
import Derived.Shelf.SortM.SortNone
import Derived.Ground.GgzProg
import Derived.Ground.SlgmProg
import Derived.Test.YtomnmgmehagjfaaGreatDoorProg
namespace Go.Proofs
open Go.Shelf
def Tryz.keys38_ren : Go.Shelf.Ren := ⟨fun | 7 => 38 | 10 => 55 | n => n, fun | 23 => 45 | 26 => 9 | 3 => 49 | 28 => 70 | 0 => 0 | 27 => 69 | 33 => 55 | 4 => 4 | n => n, fun | n => n⟩
theorem Tryz.keys38 : Go.Proofs.SlLaysZ.n7 Tryz.prog Tryz.keys38_ren := {
  mixed := by kernel_rfl
  f7 := ⟨Tryz.f38.name, by decide, Tryz.func38.trans (congrArg some (by kernel_rfl))⟩
  f10 := ⟨Tryz.f55.name, by decide, Tryz.func55.trans (congrArg some (by kernel_rfl))⟩
  t0 := Tryz.underlying0
  a0 := Tryz.isAgg0
  z0 := Tryz.sizeOf0
  v0 := Tryz.zeroValue0
  t4 := Tryz.underlying4
  a4 := Tryz.isAgg4
  z4 := Tryz.sizeOf4
  v4 := Tryz.zeroValue4
  t23 := Tryz.underlying45
  a23 := Tryz.isAgg45
  z23 := Tryz.sizeOf45
  v23 := Tryz.zeroValue45
  t26 := Tryz.underlying9
  a26 := Tryz.isAgg9
  z26 := Tryz.sizeOf9
  v26 := Tryz.zeroValue9
  t27 := Tryz.underlying69
  a27 := Tryz.isAgg69
  z27 := Tryz.sizeOf69
  v27 := Tryz.zeroValue69
  t28 := Tryz.underlying70
  a28 := Tryz.isAgg70
  z28 := Tryz.sizeOf70
  v28 := Tryz.zeroValue70
  t33 := Tryz.underlying55
  a33 := Tryz.isAgg55
  z33 := Tryz.sizeOf55
  v33 := Tryz.zeroValue55 }
def Tryz.sorted37_ren : Go.Shelf.Ren := ⟨fun | 6 => 37 | 8 => 53 | 9 => 54 | 11 => 65 | 13 => 67 | 12 => 66 | 23 => 85 | 24 => 86 | 14 => 76 | 15 => 77 | 16 => 78 | 17 => 79 | 18 => 80 | 19 => 81 | 20 => 82 | 21 => 83 | 22 => 84 | 25 => 93 | 26 => 94 | 27 => 95 | 28 => 96 | 29 => 97 | 30 => 98 | 31 => 103 | n => n, fun | 26 => 9 | 28 => 70 | 24 => 36 | 0 => 0 | 3 => 3 | 37 => 94 | 48 => 117 | 50 => 91 | 4 => 4 | 40 => 110 | 39 => 109 | 45 => 65 | 5 => 5 | 9 => 9 | 51 => 129 | 55 => 133 | 57 => 138 | 58 => 139 | 33 => 55 | n => n, fun | n => n⟩
theorem Tryz.sorted37 : Go.Proofs.SlLaysZ.n6 Tryz.prog Tryz.sorted37_ren := {
  mixed := by kernel_rfl
  f6 := ⟨Tryz.f37.name, by decide, Tryz.func37.trans (congrArg some (by kernel_rfl))⟩
  f8 := ⟨Tryz.f53.name, by decide, Tryz.func53.trans (congrArg some (by kernel_rfl))⟩
  f11 := ⟨Tryz.f65.name, by decide, Tryz.func65.trans (congrArg some (by kernel_rfl))⟩
  t0 := Tryz.underlying0
  a0 := Tryz.isAgg0
  z0 := Tryz.sizeOf0
  v0 := Tryz.zeroValue0
  t24 := Tryz.underlying36
  a24 := Tryz.isAgg36
  z24 := Tryz.sizeOf36
  v24 := Tryz.zeroValue36
  t26 := Tryz.underlying9
  a26 := Tryz.isAgg9
  z26 := Tryz.sizeOf9
  v26 := Tryz.zeroValue9
  t28 := Tryz.underlying70
  a28 := Tryz.isAgg70
  z28 := Tryz.sizeOf70
  v28 := Tryz.zeroValue70
  i26 := by kernel_rfl }
def Tryz.sort54_ren : Go.Shelf.Ren := ⟨fun | 6 => 54 | 8 => 67 | 9 => 66 | 19 => 85 | 20 => 86 | 21 => 76 | 22 => 77 | 23 => 78 | 24 => 79 | 25 => 80 | 26 => 81 | 27 => 82 | 28 => 83 | 29 => 84 | 36 => 93 | 31 => 94 | 32 => 95 | 37 => 96 | 38 => 97 | 39 => 98 | 41 => 103 | n => n, fun | 27 => 36 | 29 => 9 | 3 => 3 | 32 => 94 | 26 => 36 | 0 => 0 | 44 => 117 | 46 => 91 | 4 => 4 | 36 => 110 | 35 => 109 | 41 => 65 | 5 => 5 | 9 => 9 | 53 => 129 | 57 => 133 | 63 => 138 | 64 => 139 | n => n, fun | n => n⟩
theorem Tryz.sort54 : Go.Proofs.SlLaysM.n6 Tryz.prog Tryz.sort54_ren := {
  mixed := by kernel_rfl
  f6 := ⟨Tryz.f54.name, by decide, Tryz.func54.trans (congrArg some (by kernel_rfl))⟩
  f8 := Tryz.func67.trans (congrArg some (by kernel_rfl))
  f9 := ⟨Tryz.f66.name, by decide, Tryz.func66.trans (congrArg some (by kernel_rfl))⟩
  f19 := Tryz.func85.trans (congrArg some (by kernel_rfl))
  f20 := Tryz.func86.trans (congrArg some (by kernel_rfl))
  f21 := ⟨Tryz.f76.name, by decide, Tryz.func76.trans (congrArg some (by kernel_rfl))⟩
  f22 := ⟨Tryz.f77.name, by decide, Tryz.func77.trans (congrArg some (by kernel_rfl))⟩
  f23 := ⟨Tryz.f78.name, by decide, Tryz.func78.trans (congrArg some (by kernel_rfl))⟩
  f24 := ⟨Tryz.f79.name, by decide, Tryz.func79.trans (congrArg some (by kernel_rfl))⟩
  f25 := ⟨Tryz.f80.name, by decide, Tryz.func80.trans (congrArg some (by kernel_rfl))⟩
  f26 := ⟨Tryz.f81.name, by decide, Tryz.func81.trans (congrArg some (by kernel_rfl))⟩
  f27 := ⟨Tryz.f82.name, by decide, Tryz.func82.trans (congrArg some (by kernel_rfl))⟩
  f28 := ⟨Tryz.f83.name, by decide, Tryz.func83.trans (congrArg some (by kernel_rfl))⟩
  f29 := ⟨Tryz.f84.name, by decide, Tryz.func84.trans (congrArg some (by kernel_rfl))⟩
  f31 := Tryz.func94.trans (congrArg some (by kernel_rfl))
  f32 := Tryz.func95.trans (congrArg some (by kernel_rfl))
  f36 := ⟨Tryz.f93.name, by decide, Tryz.func93.trans (congrArg some (by kernel_rfl))⟩
  f37 := ⟨Tryz.f96.name, by decide, Tryz.func96.trans (congrArg some (by kernel_rfl))⟩
  f38 := ⟨Tryz.f97.name, by decide, Tryz.func97.trans (congrArg some (by kernel_rfl))⟩
  f39 := ⟨Tryz.f98.name, by decide, Tryz.func98.trans (congrArg some (by kernel_rfl))⟩
  f41 := ⟨Tryz.f103.name, by decide, Tryz.func103.trans (congrArg some (by kernel_rfl))⟩
  t0 := Tryz.underlying0
  a0 := Tryz.isAgg0
  z0 := Tryz.sizeOf0
  v0 := Tryz.zeroValue0
  t3 := Tryz.underlying3
  a3 := Tryz.isAgg3
  z3 := Tryz.sizeOf3
  v3 := Tryz.zeroValue3
  t4 := Tryz.underlying4
  a4 := Tryz.isAgg4
  z4 := Tryz.sizeOf4
  v4 := Tryz.zeroValue4
  t5 := Tryz.underlying5
  a5 := Tryz.isAgg5
  z5 := Tryz.sizeOf5
  v5 := Tryz.zeroValue5
  t9 := Tryz.underlying9
  a9 := Tryz.isAgg9
  z9 := Tryz.sizeOf9
  v9 := Tryz.zeroValue9
  t26 := Tryz.underlying36
  a26 := Tryz.isAgg36
  z26 := Tryz.sizeOf36
  v26 := Tryz.zeroValue36
  t27 := Tryz.underlying36
  a27 := Tryz.isAgg36
  z27 := Tryz.sizeOf36
  v27 := Tryz.zeroValue36
  t29 := Tryz.underlying9
  a29 := Tryz.isAgg9
  z29 := Tryz.sizeOf9
  v29 := Tryz.zeroValue9
  t32 := Tryz.underlying94
  a32 := Tryz.isAgg94
  z32 := Tryz.sizeOf94
  v32 := Tryz.zeroValue94
  t35 := Tryz.underlying109
  a35 := Tryz.isAgg109
  z35 := Tryz.sizeOf109
  v35 := Tryz.zeroValue109
  t36 := Tryz.underlying110
  a36 := Tryz.isAgg110
  z36 := Tryz.sizeOf110
  v36 := Tryz.zeroValue110
  t41 := Tryz.underlying65
  a41 := Tryz.isAgg65
  z41 := Tryz.sizeOf65
  v41 := Tryz.zeroValue65
  t44 := Tryz.underlying117
  a44 := Tryz.isAgg117
  z44 := Tryz.sizeOf117
  v44 := Tryz.zeroValue117
  t46 := Tryz.underlying91
  a46 := Tryz.isAgg91
  z46 := Tryz.sizeOf91
  v46 := Tryz.zeroValue91
  t53 := Tryz.underlying129
  a53 := Tryz.isAgg129
  z53 := Tryz.sizeOf129
  v53 := Tryz.zeroValue129
  t57 := Tryz.underlying133
  a57 := Tryz.isAgg133
  z57 := Tryz.sizeOf133
  v57 := Tryz.zeroValue133
  t63 := Tryz.underlying138
  a63 := Tryz.isAgg138
  z63 := Tryz.sizeOf138
  v63 := Tryz.zeroValue138
  t64 := Tryz.underlying139
  a64 := Tryz.isAgg139
  z64 := Tryz.sizeOf139
  v64 := Tryz.zeroValue139 }
end Go.Proofs
