/-
  DERIVED: THE SHELF's CONTRACTS AT THIS DUMP, IN PLAIN WORDS (tools/lay-plain.mjs out of 'TryIter.lean', which tools/lay-shelf.mjs wrote): THE SAME DECLARATIONS UNDER THE SAME NAMES: 'import', 'namespace', 'open', 'def', 'theorem' AND NOTHING ELSE: no command of the shelf's: FOR A HAND-IN. Each laying: the table of numbers ('.._ren') and one theorem, a field a fact of the dump's own or the kernel's comparison; each contract: ONE APPLICATION.
-/
import Derived.Shelf.SlGeneric
import Derived.Shelf.SlIter.Nil
import Derived.Shelf.SortM.Plain
import Derived.Shelf.SortM.SortNone
import Derived.Ground.GgzProg
import Derived.Ground.SlgmProg
import Derived.Test.YtomnmgmehagjfaaProg
namespace Go.Proofs
open Go.Shelf
def Try.keys23_ren : Go.Shelf.Ren := ⟨fun | 7 => 23 | 10 => 29 | n => n, fun | 23 => 41 | 26 => 9 | 3 => 46 | 28 => 51 | 0 => 0 | 27 => 50 | 33 => 36 | 4 => 4 | n => n, fun | n => n⟩
theorem Try.keys23 : Go.Proofs.SlLaysZ.n7 Try.prog Try.keys23_ren := {
  mixed := by kernel_rfl
  f7 := ⟨Try.f23.name, by decide, Try.func23.trans (congrArg some (by kernel_rfl))⟩
  f10 := ⟨Try.f29.name, by decide, Try.func29.trans (congrArg some (by kernel_rfl))⟩
  t0 := Try.underlying0
  a0 := Try.isAgg0
  z0 := Try.sizeOf0
  v0 := Try.zeroValue0
  t4 := Try.underlying4
  a4 := Try.isAgg4
  z4 := Try.sizeOf4
  v4 := Try.zeroValue4
  t23 := Try.underlying41
  a23 := Try.isAgg41
  z23 := Try.sizeOf41
  v23 := Try.zeroValue41
  t26 := Try.underlying9
  a26 := Try.isAgg9
  z26 := Try.sizeOf9
  v26 := Try.zeroValue9
  t27 := Try.underlying50
  a27 := Try.isAgg50
  z27 := Try.sizeOf50
  v27 := Try.zeroValue50
  t28 := Try.underlying51
  a28 := Try.isAgg51
  z28 := Try.sizeOf51
  v28 := Try.zeroValue51
  t33 := Try.underlying36
  a33 := Try.isAgg36
  z33 := Try.sizeOf36
  v33 := Try.zeroValue36 }
def Try.sorted22_ren : Go.Shelf.Ren := ⟨fun | 6 => 22 | 8 => 27 | 9 => 28 | 11 => 31 | 13 => 33 | 12 => 32 | 23 => 43 | 24 => 44 | 14 => 34 | 15 => 35 | 16 => 36 | 17 => 37 | 18 => 38 | 19 => 39 | 20 => 40 | 21 => 41 | 22 => 42 | 25 => 45 | 26 => 46 | 27 => 47 | 28 => 48 | 29 => 49 | 30 => 50 | 31 => 51 | n => n, fun | 26 => 9 | 28 => 51 | 24 => 38 | 0 => 0 | 3 => 3 | 37 => 62 | 48 => 72 | 50 => 74 | 4 => 4 | 40 => 65 | 39 => 64 | 45 => 53 | 5 => 5 | 9 => 9 | 51 => 75 | 55 => 79 | 57 => 81 | 58 => 82 | 33 => 36 | n => n, fun | n => n⟩
theorem Try.sorted22 : Go.Proofs.SlLaysZ.n6 Try.prog Try.sorted22_ren := {
  mixed := by kernel_rfl
  f6 := ⟨Try.f22.name, by decide, Try.func22.trans (congrArg some (by kernel_rfl))⟩
  f8 := ⟨Try.f27.name, by decide, Try.func27.trans (congrArg some (by kernel_rfl))⟩
  f11 := ⟨Try.f31.name, by decide, Try.func31.trans (congrArg some (by kernel_rfl))⟩
  t0 := Try.underlying0
  a0 := Try.isAgg0
  z0 := Try.sizeOf0
  v0 := Try.zeroValue0
  t24 := Try.underlying38
  a24 := Try.isAgg38
  z24 := Try.sizeOf38
  v24 := Try.zeroValue38
  t26 := Try.underlying9
  a26 := Try.isAgg9
  z26 := Try.sizeOf9
  v26 := Try.zeroValue9
  t28 := Try.underlying51
  a28 := Try.isAgg51
  z28 := Try.sizeOf51
  v28 := Try.zeroValue51
  i26 := by kernel_rfl }
def Try.sort28_ren : Go.Shelf.Ren := ⟨fun | 6 => 28 | 8 => 33 | 9 => 32 | 19 => 43 | 20 => 44 | 21 => 34 | 22 => 35 | 23 => 36 | 24 => 37 | 25 => 38 | 26 => 39 | 27 => 40 | 28 => 41 | 29 => 42 | 36 => 45 | 31 => 46 | 32 => 47 | 37 => 48 | 38 => 49 | 39 => 50 | 41 => 51 | n => n, fun | 27 => 38 | 29 => 9 | 3 => 3 | 32 => 62 | 26 => 38 | 0 => 0 | 44 => 72 | 46 => 74 | 4 => 4 | 36 => 65 | 35 => 64 | 41 => 53 | 5 => 5 | 9 => 9 | 53 => 75 | 57 => 79 | 63 => 81 | 64 => 82 | n => n, fun | n => n⟩
theorem Try.sort28 : Go.Proofs.SlLaysM.n6 Try.prog Try.sort28_ren := {
  mixed := by kernel_rfl
  f6 := ⟨Try.f28.name, by decide, Try.func28.trans (congrArg some (by kernel_rfl))⟩
  f8 := Try.func33.trans (congrArg some (by kernel_rfl))
  f9 := ⟨Try.f32.name, by decide, Try.func32.trans (congrArg some (by kernel_rfl))⟩
  f19 := Try.func43.trans (congrArg some (by kernel_rfl))
  f20 := Try.func44.trans (congrArg some (by kernel_rfl))
  f21 := ⟨Try.f34.name, by decide, Try.func34.trans (congrArg some (by kernel_rfl))⟩
  f22 := ⟨Try.f35.name, by decide, Try.func35.trans (congrArg some (by kernel_rfl))⟩
  f23 := ⟨Try.f36.name, by decide, Try.func36.trans (congrArg some (by kernel_rfl))⟩
  f24 := ⟨Try.f37.name, by decide, Try.func37.trans (congrArg some (by kernel_rfl))⟩
  f25 := ⟨Try.f38.name, by decide, Try.func38.trans (congrArg some (by kernel_rfl))⟩
  f26 := ⟨Try.f39.name, by decide, Try.func39.trans (congrArg some (by kernel_rfl))⟩
  f27 := ⟨Try.f40.name, by decide, Try.func40.trans (congrArg some (by kernel_rfl))⟩
  f28 := ⟨Try.f41.name, by decide, Try.func41.trans (congrArg some (by kernel_rfl))⟩
  f29 := ⟨Try.f42.name, by decide, Try.func42.trans (congrArg some (by kernel_rfl))⟩
  f31 := Try.func46.trans (congrArg some (by kernel_rfl))
  f32 := Try.func47.trans (congrArg some (by kernel_rfl))
  f36 := ⟨Try.f45.name, by decide, Try.func45.trans (congrArg some (by kernel_rfl))⟩
  f37 := ⟨Try.f48.name, by decide, Try.func48.trans (congrArg some (by kernel_rfl))⟩
  f38 := ⟨Try.f49.name, by decide, Try.func49.trans (congrArg some (by kernel_rfl))⟩
  f39 := ⟨Try.f50.name, by decide, Try.func50.trans (congrArg some (by kernel_rfl))⟩
  f41 := ⟨Try.f51.name, by decide, Try.func51.trans (congrArg some (by kernel_rfl))⟩
  t0 := Try.underlying0
  a0 := Try.isAgg0
  z0 := Try.sizeOf0
  v0 := Try.zeroValue0
  t3 := Try.underlying3
  a3 := Try.isAgg3
  z3 := Try.sizeOf3
  v3 := Try.zeroValue3
  t4 := Try.underlying4
  a4 := Try.isAgg4
  z4 := Try.sizeOf4
  v4 := Try.zeroValue4
  t5 := Try.underlying5
  a5 := Try.isAgg5
  z5 := Try.sizeOf5
  v5 := Try.zeroValue5
  t9 := Try.underlying9
  a9 := Try.isAgg9
  z9 := Try.sizeOf9
  v9 := Try.zeroValue9
  t26 := Try.underlying38
  a26 := Try.isAgg38
  z26 := Try.sizeOf38
  v26 := Try.zeroValue38
  t27 := Try.underlying38
  a27 := Try.isAgg38
  z27 := Try.sizeOf38
  v27 := Try.zeroValue38
  t29 := Try.underlying9
  a29 := Try.isAgg9
  z29 := Try.sizeOf9
  v29 := Try.zeroValue9
  t32 := Try.underlying62
  a32 := Try.isAgg62
  z32 := Try.sizeOf62
  v32 := Try.zeroValue62
  t35 := Try.underlying64
  a35 := Try.isAgg64
  z35 := Try.sizeOf64
  v35 := Try.zeroValue64
  t36 := Try.underlying65
  a36 := Try.isAgg65
  z36 := Try.sizeOf65
  v36 := Try.zeroValue65
  t41 := Try.underlying53
  a41 := Try.isAgg53
  z41 := Try.sizeOf53
  v41 := Try.zeroValue53
  t44 := Try.underlying72
  a44 := Try.isAgg72
  z44 := Try.sizeOf72
  v44 := Try.zeroValue72
  t46 := Try.underlying74
  a46 := Try.isAgg74
  z46 := Try.sizeOf74
  v46 := Try.zeroValue74
  t53 := Try.underlying75
  a53 := Try.isAgg75
  z53 := Try.sizeOf75
  v53 := Try.zeroValue75
  t57 := Try.underlying79
  a57 := Try.isAgg79
  z57 := Try.sizeOf79
  v57 := Try.zeroValue79
  t63 := Try.underlying81
  a63 := Try.isAgg81
  z63 := Try.sizeOf81
  v63 := Try.zeroValue81
  t64 := Try.underlying82
  a64 := Try.isAgg82
  z64 := Try.sizeOf82
  v64 := Try.zeroValue82 }
end Go.Proofs
