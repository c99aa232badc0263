import Derived.Shelf.Small.Bits
import Derived.Shelf.Small.Wraps
import Derived.Shelf.Strconv.Itoa0
import Derived.Shelf.Strings.Search1
import Derived.Shelf.Strings.Search2
import Derived.Shelf.Strings.Search3
import Derived.Shelf.Strings.Cut
import Derived.Shelf.Strings.Count
import Derived.Shelf.LaysM
import Derived.Shelf.Strings.Shaped
import Derived.Shelf.Sort.Plain
import Derived.Shelf.GgClosure.StringsIndexFunc
import Derived.Ground.GgwProg
import Derived.Shelf.GgClosure.StringsIndexFuncTop
import Derived.Shelf.GgClosure.StringsRunes
import Derived.Shelf.Strings.Split
import Derived.Shelf.Unicode.DecodeSlow
import Derived.Shelf.Unicode.DecodeAny
import Derived.Shelf.Strings.FuncGrows
import Derived.Shelf.Slices.CompactS
import Derived.Shelf.Slices.Cells
import Derived.Shelf.Slices.In.SortNone
import Derived.Test.YtgpadcokcdpmnaaDoorProg
import Derived.WideShapes
import Derived.Laws.RangeAny
import Derived.Lib.ItoaNum
import Derived.Lib.ItoaLen
import Derived.Lib.SplitLaws
import Derived.Lib.IndexBytes
import Derived.Lib.Atoi
import Derived.Lib.AtoiAll
import Derived.Lib.AtoiTie
import Derived.Maps.Ext
import Derived.Shelf.Unicode.PredsPay
import Derived.Shelf.SlGeneric
import Derived.Shelf.SlIter.Nil
import Derived.Shelf.SortM.Plain
import Derived.Shelf.SortM.SortNone
import Derived.Ground.GgzProg
import Derived.Ground.SlgmProg
import Derived.WalkKit
import Derived.KernelRfl
import Derived.RowKit3
import Derived.Below
import Derived.Maps.RangeWalk
import Derived.Deep.QuietTactic
import Derived.BigQuiet
import Derived.StillTailTactics
import Derived.Deep.LoopGhost
import Derived.Lib.Hide
import Derived.Deep.DeepMust
import Derived.IntWalk
import Derived.WalkLawsBesides
import Derived.Laws.ResultCell
import Derived.Laws.OwnMore
import Derived.Deep.AppendLies
import Derived.Carry
set_option linter.unusedVariables false
set_option linter.unusedSimpArgs false
section
namespace Go.Proofs
open Go.Shelf
def Tryd.lays219_ren : Go.Shelf.Ren := ⟨fun | 219 => 86 | 217 => 89 | 225 => 90 | 224 => 91 | 267 => 92 | 266 => 96 | 314 => 97 | n => n, fun | 9 => 9 | 3 => 3 | 4 => 4 | 5 => 5 | 46 => 82 | 146 => 129 | 51 => 103 | n => n, fun | 1 => 0 | n => n⟩
theorem Tryd.lays219 : Go.Proofs.Lays.n219 Tryd.prog Tryd.lays219_ren := {
  mixed := by kernel_rfl
  f217 := Tryd.func89.trans (congrArg some (by kernel_rfl))
  f219 := Tryd.func86.trans (congrArg some (by kernel_rfl))
  f224 := Tryd.func91.trans (congrArg some (by kernel_rfl))
  f225 := Tryd.func90.trans (congrArg some (by kernel_rfl))
  f266 := Tryd.func96.trans (congrArg some (by kernel_rfl))
  f267 := Tryd.func92.trans (congrArg some (by kernel_rfl))
  f314 := Tryd.func97.trans (congrArg some (by kernel_rfl))
  t3 := Tryd.underlying3
  a3 := Tryd.isAgg3
  z3 := Tryd.sizeOf3
  v3 := Tryd.zeroValue3
  t4 := Tryd.underlying4
  a4 := Tryd.isAgg4
  z4 := Tryd.sizeOf4
  v4 := Tryd.zeroValue4
  t5 := Tryd.underlying5
  a5 := Tryd.isAgg5
  z5 := Tryd.sizeOf5
  v5 := Tryd.zeroValue5
  t9 := Tryd.underlying9
  a9 := Tryd.isAgg9
  z9 := Tryd.sizeOf9
  v9 := Tryd.zeroValue9
  t46 := Tryd.underlying82
  a46 := Tryd.isAgg82
  z46 := Tryd.sizeOf82
  v46 := Tryd.zeroValue82
  t51 := Tryd.underlying103
  a51 := Tryd.isAgg103
  z51 := Tryd.sizeOf103
  v51 := Tryd.zeroValue103
  t146 := Tryd.underlying129
  a146 := Tryd.isAgg129
  z146 := Tryd.sizeOf129
  v146 := Tryd.zeroValue129
  g1 := by kernel_rfl }
open Go.RowKit Go.Lib in
theorem Tryd.stringslite_Index_one (s : ByteArray) (c : UInt8) (w : World) :
    Calls Tryd.prog 86 #[.string s, .string ⟨#[c]⟩] w fun e w' => e = .returned (.int .i64 (Lib.indexByte s.data.toList c)) ∧ w' = w := Any.stringslite_Index_one Tryd.lays219 s c w
def Tryd.lays143_ren : Go.Shelf.Ren := ⟨fun | 143 => 95 | 219 => 86 | 217 => 89 | 225 => 90 | 224 => 91 | 267 => 92 | 266 => 96 | 314 => 97 | n => n, fun | 9 => 9 | 3 => 3 | 4 => 4 | 5 => 5 | 46 => 82 | 146 => 129 | 51 => 103 | n => n, fun | 1 => 0 | n => n⟩
theorem Tryd.lays143 : Go.Proofs.Lays.n143 Tryd.prog Tryd.lays143_ren := {
  mixed := by kernel_rfl
  f143 := Tryd.func95.trans (congrArg some (by kernel_rfl))
  f217 := Tryd.func89.trans (congrArg some (by kernel_rfl))
  f219 := Tryd.func86.trans (congrArg some (by kernel_rfl))
  f224 := Tryd.func91.trans (congrArg some (by kernel_rfl))
  f225 := Tryd.func90.trans (congrArg some (by kernel_rfl))
  f266 := Tryd.func96.trans (congrArg some (by kernel_rfl))
  f267 := Tryd.func92.trans (congrArg some (by kernel_rfl))
  f314 := Tryd.func97.trans (congrArg some (by kernel_rfl))
  t3 := Tryd.underlying3
  a3 := Tryd.isAgg3
  z3 := Tryd.sizeOf3
  v3 := Tryd.zeroValue3
  t4 := Tryd.underlying4
  a4 := Tryd.isAgg4
  z4 := Tryd.sizeOf4
  v4 := Tryd.zeroValue4
  t5 := Tryd.underlying5
  a5 := Tryd.isAgg5
  z5 := Tryd.sizeOf5
  v5 := Tryd.zeroValue5
  t9 := Tryd.underlying9
  a9 := Tryd.isAgg9
  z9 := Tryd.sizeOf9
  v9 := Tryd.zeroValue9
  t46 := Tryd.underlying82
  a46 := Tryd.isAgg82
  z46 := Tryd.sizeOf82
  v46 := Tryd.zeroValue82
  t51 := Tryd.underlying103
  a51 := Tryd.isAgg103
  z51 := Tryd.sizeOf103
  v51 := Tryd.zeroValue103
  t146 := Tryd.underlying129
  a146 := Tryd.isAgg129
  z146 := Tryd.sizeOf129
  v146 := Tryd.zeroValue129
  g1 := by kernel_rfl }
open Go.RowKit Go.Lib in
theorem Tryd.strings_Index_one (s : ByteArray) (c : UInt8) (w : World) :
    Calls Tryd.prog 95 #[.string s, .string ⟨#[c]⟩] w fun e w' => e = .returned (.int .i64 (Lib.indexByte s.data.toList c)) ∧ w' = w := Any.strings_Index_one Tryd.lays143 s c w
def Tryd.lays138_ren : Go.Shelf.Ren := ⟨fun | 138 => 94 | 195 => 98 | 218 => 100 | 143 => 95 | 219 => 86 | 217 => 89 | 225 => 90 | 224 => 91 | 267 => 92 | 266 => 96 | 314 => 97 | n => n, fun | 9 => 9 | 3 => 3 | 4 => 4 | 5 => 5 | 0 => 0 | 46 => 82 | 146 => 129 | 51 => 103 | n => n, fun | 1 => 0 | n => n⟩
theorem Tryd.lays138 : Go.Proofs.Lays.n138 Tryd.prog Tryd.lays138_ren := {
  mixed := by kernel_rfl
  f138 := Tryd.func94.trans (congrArg some (by kernel_rfl))
  f143 := Tryd.func95.trans (congrArg some (by kernel_rfl))
  f195 := Tryd.func98.trans (congrArg some (by kernel_rfl))
  f217 := Tryd.func89.trans (congrArg some (by kernel_rfl))
  f218 := Tryd.func100.trans (congrArg some (by kernel_rfl))
  f219 := Tryd.func86.trans (congrArg some (by kernel_rfl))
  f224 := Tryd.func91.trans (congrArg some (by kernel_rfl))
  f225 := Tryd.func90.trans (congrArg some (by kernel_rfl))
  f266 := Tryd.func96.trans (congrArg some (by kernel_rfl))
  f267 := Tryd.func92.trans (congrArg some (by kernel_rfl))
  f314 := Tryd.func97.trans (congrArg some (by kernel_rfl))
  t0 := Tryd.underlying0
  a0 := Tryd.isAgg0
  z0 := Tryd.sizeOf0
  v0 := Tryd.zeroValue0
  t3 := Tryd.underlying3
  a3 := Tryd.isAgg3
  z3 := Tryd.sizeOf3
  v3 := Tryd.zeroValue3
  t4 := Tryd.underlying4
  a4 := Tryd.isAgg4
  z4 := Tryd.sizeOf4
  v4 := Tryd.zeroValue4
  t5 := Tryd.underlying5
  a5 := Tryd.isAgg5
  z5 := Tryd.sizeOf5
  v5 := Tryd.zeroValue5
  t9 := Tryd.underlying9
  a9 := Tryd.isAgg9
  z9 := Tryd.sizeOf9
  v9 := Tryd.zeroValue9
  t46 := Tryd.underlying82
  a46 := Tryd.isAgg82
  z46 := Tryd.sizeOf82
  v46 := Tryd.zeroValue82
  t51 := Tryd.underlying103
  a51 := Tryd.isAgg103
  z51 := Tryd.sizeOf103
  v51 := Tryd.zeroValue103
  t146 := Tryd.underlying129
  a146 := Tryd.isAgg129
  z146 := Tryd.sizeOf129
  v146 := Tryd.zeroValue129
  g1 := by kernel_rfl }
open Go.RowKit Go.Lib in
theorem Tryd.strings_Count_one (s : ByteArray) (c : UInt8) (w : World) :
    Calls Tryd.prog 94 #[.string s, .string ⟨#[c]⟩] w fun e w' => e = .returned (.int .i64 (Lib.countByte s.data.toList c)) ∧ w' = w := Any.strings_Count_one Tryd.lays138 s c w
def Tryd.lays190_ren : Go.Shelf.Ren := ⟨fun | 190 => 25 | 125 => 44 | 258 => 43 | 128 => 68 | 129 => 69 | 302 => 59 | 303 => 60 | 304 => 61 | 305 => 62 | 306 => 63 | 307 => 64 | 308 => 65 | 309 => 66 | 310 => 67 | 333 => 81 | 329 => 82 | 330 => 83 | 334 => 84 | 335 => 85 | 336 => 76 | 344 => 88 | n => n, fun | 31 => 39 | 9 => 9 | 3 => 3 | 46 => 82 | 0 => 0 | 51 => 103 | 53 => 105 | 4 => 4 | 183 => 95 | 182 => 94 | 131 => 100 | 5 => 5 | 218 => 116 | 222 => 120 | 228 => 123 | 229 => 124 | n => n, fun | n => n⟩
theorem Tryd.lays190 : Go.Proofs.Lays.n190 Tryd.prog Tryd.lays190_ren := {
  mixed := by kernel_rfl
  f125 := Tryd.func44.trans (congrArg some (by kernel_rfl))
  f128 := Tryd.func68.trans (congrArg some (by kernel_rfl))
  f129 := Tryd.func69.trans (congrArg some (by kernel_rfl))
  f190 := Tryd.func25.trans (congrArg some (by kernel_rfl))
  f258 := Tryd.func43.trans (congrArg some (by kernel_rfl))
  f302 := Tryd.func59.trans (congrArg some (by kernel_rfl))
  f303 := Tryd.func60.trans (congrArg some (by kernel_rfl))
  f304 := Tryd.func61.trans (congrArg some (by kernel_rfl))
  f305 := Tryd.func62.trans (congrArg some (by kernel_rfl))
  f306 := Tryd.func63.trans (congrArg some (by kernel_rfl))
  f307 := Tryd.func64.trans (congrArg some (by kernel_rfl))
  f308 := Tryd.func65.trans (congrArg some (by kernel_rfl))
  f309 := Tryd.func66.trans (congrArg some (by kernel_rfl))
  f310 := Tryd.func67.trans (congrArg some (by kernel_rfl))
  f329 := Tryd.func82.trans (congrArg some (by kernel_rfl))
  f330 := Tryd.func83.trans (congrArg some (by kernel_rfl))
  f333 := Tryd.func81.trans (congrArg some (by kernel_rfl))
  f334 := Tryd.func84.trans (congrArg some (by kernel_rfl))
  f335 := Tryd.func85.trans (congrArg some (by kernel_rfl))
  f336 := Tryd.func76.trans (congrArg some (by kernel_rfl))
  f344 := Tryd.func88.trans (congrArg some (by kernel_rfl))
  t0 := Tryd.underlying0
  a0 := Tryd.isAgg0
  z0 := Tryd.sizeOf0
  v0 := Tryd.zeroValue0
  t3 := Tryd.underlying3
  a3 := Tryd.isAgg3
  z3 := Tryd.sizeOf3
  v3 := Tryd.zeroValue3
  t4 := Tryd.underlying4
  a4 := Tryd.isAgg4
  z4 := Tryd.sizeOf4
  v4 := Tryd.zeroValue4
  t5 := Tryd.underlying5
  a5 := Tryd.isAgg5
  z5 := Tryd.sizeOf5
  v5 := Tryd.zeroValue5
  t9 := Tryd.underlying9
  a9 := Tryd.isAgg9
  z9 := Tryd.sizeOf9
  v9 := Tryd.zeroValue9
  t31 := Tryd.underlying39
  a31 := Tryd.isAgg39
  z31 := Tryd.sizeOf39
  v31 := Tryd.zeroValue39
  t46 := Tryd.underlying82
  a46 := Tryd.isAgg82
  z46 := Tryd.sizeOf82
  v46 := Tryd.zeroValue82
  t51 := Tryd.underlying103
  a51 := Tryd.isAgg103
  z51 := Tryd.sizeOf103
  v51 := Tryd.zeroValue103
  t53 := Tryd.underlying105
  a53 := Tryd.isAgg105
  z53 := Tryd.sizeOf105
  v53 := Tryd.zeroValue105
  t131 := Tryd.underlying100
  a131 := Tryd.isAgg100
  z131 := Tryd.sizeOf100
  v131 := Tryd.zeroValue100
  t182 := Tryd.underlying94
  a182 := Tryd.isAgg94
  z182 := Tryd.sizeOf94
  v182 := Tryd.zeroValue94
  t183 := Tryd.underlying95
  a183 := Tryd.isAgg95
  z183 := Tryd.sizeOf95
  v183 := Tryd.zeroValue95
  t218 := Tryd.underlying116
  a218 := Tryd.isAgg116
  z218 := Tryd.sizeOf116
  v218 := Tryd.zeroValue116
  t222 := Tryd.underlying120
  a222 := Tryd.isAgg120
  z222 := Tryd.sizeOf120
  v222 := Tryd.zeroValue120
  t228 := Tryd.underlying123
  a228 := Tryd.isAgg123
  z228 := Tryd.sizeOf123
  v228 := Tryd.zeroValue123
  t229 := Tryd.underlying124
  a229 := Tryd.isAgg124
  z229 := Tryd.sizeOf124
  v229 := Tryd.zeroValue124 }
open Go.Sort Go.RowKit in
theorem Tryd.slices_Sort_string (blk off cap : Nat) (ss : List (List UInt8)) (w : World) (hH : Holds encStr w blk off ss.toArray) (hblk : blk < w.heap.size) (hsz : ss.length < 4611686018427387904) :
    Calls Tryd.prog 25 #[.slice (some ⟨blk, off, none⟩) ss.length cap] w fun e w' =>
      e = .returned (.tuple #[]) ∧ ∃ n os, w' = grow (putRow encStr (Sort.ahead w n) blk off (ss.mergeSort fun x y => decide (x ≤ y)).toArray) os := Any.slices_Sort_string Tryd.lays190 blk off cap ss w hH hblk hsz
def Tryd.laysGw17_ren : Go.Shelf.Ren := ⟨fun | 17 => 40 | 15 => 58 | 20 => 80 | n => n, fun | 9 => 9 | 23 => 77 | 4 => 4 | 3 => 3 | 0 => 0 | 21 => 21 | n => n, fun | n => n⟩
theorem Tryd.laysGw17 : Go.Proofs.LaysGw.n17 Tryd.prog Tryd.laysGw17_ren := {
  mixed := by kernel_rfl
  f15 := Tryd.func58.trans (congrArg some (by kernel_rfl))
  f17 := Tryd.func40.trans (congrArg some (by kernel_rfl))
  f20 := Tryd.func80.trans (congrArg some (by kernel_rfl))
  t0 := Tryd.underlying0
  a0 := Tryd.isAgg0
  z0 := Tryd.sizeOf0
  v0 := Tryd.zeroValue0
  i0 := by kernel_rfl
  t3 := Tryd.underlying3
  a3 := Tryd.isAgg3
  z3 := Tryd.sizeOf3
  v3 := Tryd.zeroValue3
  i3 := by kernel_rfl
  t4 := Tryd.underlying4
  a4 := Tryd.isAgg4
  z4 := Tryd.sizeOf4
  v4 := Tryd.zeroValue4
  i4 := by kernel_rfl
  t9 := Tryd.underlying9
  a9 := Tryd.isAgg9
  z9 := Tryd.sizeOf9
  v9 := Tryd.zeroValue9
  i9 := by kernel_rfl
  t21 := Tryd.underlying21
  a21 := Tryd.isAgg21
  z21 := Tryd.sizeOf21
  v21 := Tryd.zeroValue21
  i21 := by kernel_rfl
  t23 := Tryd.underlying77
  a23 := Tryd.isAgg77
  z23 := Tryd.sizeOf77
  v23 := Tryd.zeroValue77
  i23 := by kernel_rfl }
open Go.RowKit Go.Lib in
theorem Tryd.strings_ContainsFunc (g : Nat) (lb : Array Value) (eg : ∀ args w, (callFunc g args).run Tryd.prog w = .ok (.enter g args) w) (p : Nat → Bool) (s : ByteArray) (w : World) (hp : PredAt Tryd.prog g lb encR p w) :
    Calls Tryd.prog 40 #[.string s, .func (.func g) #[] lb] w fun e w' => e = .returned (.bool (decide (0 ≤ Lib.idxFunc p true s))) ∧ Below w.heap.size w w' := Any.strings_ContainsFunc Tryd.laysGw17 g lb eg p s w hp
def Tryd.lays146_ren : Go.Shelf.Ren := ⟨fun | 146 => 79 | 221 => 87 | 268 => 93 | 138 => 94 | 143 => 95 | 195 => 98 | 197 => 99 | 218 => 100 | 219 => 86 | 260 => 101 | 217 => 89 | 225 => 90 | 224 => 91 | 267 => 92 | 266 => 96 | 314 => 97 | n => n, fun | 9 => 9 | 31 => 39 | 3 => 3 | 4 => 4 | 0 => 0 | 105 => 131 | 21 => 21 | 5 => 5 | 46 => 82 | 119 => 133 | 139 => 136 | 138 => 135 | 146 => 129 | 51 => 103 | n => n, fun | 1 => 0 | 3 => 1 | 4 => 2 | n => n⟩
theorem Tryd.lays146 : Go.Proofs.Lays.n146 Tryd.prog Tryd.lays146_ren := {
  mixed := by kernel_rfl
  f138 := Tryd.func94.trans (congrArg some (by kernel_rfl))
  f143 := Tryd.func95.trans (congrArg some (by kernel_rfl))
  f146 := Tryd.func79.trans (congrArg some (by kernel_rfl))
  f195 := Tryd.func98.trans (congrArg some (by kernel_rfl))
  f197 := Tryd.func99.trans (congrArg some (by kernel_rfl))
  f217 := Tryd.func89.trans (congrArg some (by kernel_rfl))
  f218 := Tryd.func100.trans (congrArg some (by kernel_rfl))
  f219 := Tryd.func86.trans (congrArg some (by kernel_rfl))
  f221 := Tryd.func87.trans (congrArg some (by kernel_rfl))
  f224 := Tryd.func91.trans (congrArg some (by kernel_rfl))
  f225 := Tryd.func90.trans (congrArg some (by kernel_rfl))
  f260 := Tryd.func101.trans (congrArg some (by kernel_rfl))
  f266 := Tryd.func96.trans (congrArg some (by kernel_rfl))
  f267 := Tryd.func92.trans (congrArg some (by kernel_rfl))
  f268 := Tryd.func93.trans (congrArg some (by kernel_rfl))
  f314 := Tryd.func97.trans (congrArg some (by kernel_rfl))
  t0 := Tryd.underlying0
  a0 := Tryd.isAgg0
  z0 := Tryd.sizeOf0
  v0 := Tryd.zeroValue0
  t3 := Tryd.underlying3
  a3 := Tryd.isAgg3
  z3 := Tryd.sizeOf3
  v3 := Tryd.zeroValue3
  t4 := Tryd.underlying4
  a4 := Tryd.isAgg4
  z4 := Tryd.sizeOf4
  v4 := Tryd.zeroValue4
  t5 := Tryd.underlying5
  a5 := Tryd.isAgg5
  z5 := Tryd.sizeOf5
  v5 := Tryd.zeroValue5
  t9 := Tryd.underlying9
  a9 := Tryd.isAgg9
  z9 := Tryd.sizeOf9
  v9 := Tryd.zeroValue9
  t21 := Tryd.underlying21
  a21 := Tryd.isAgg21
  z21 := Tryd.sizeOf21
  v21 := Tryd.zeroValue21
  t31 := Tryd.underlying39
  a31 := Tryd.isAgg39
  z31 := Tryd.sizeOf39
  v31 := Tryd.zeroValue39
  t46 := Tryd.underlying82
  a46 := Tryd.isAgg82
  z46 := Tryd.sizeOf82
  v46 := Tryd.zeroValue82
  t51 := Tryd.underlying103
  a51 := Tryd.isAgg103
  z51 := Tryd.sizeOf103
  v51 := Tryd.zeroValue103
  t105 := Tryd.underlying131
  a105 := Tryd.isAgg131
  z105 := Tryd.sizeOf131
  v105 := Tryd.zeroValue131
  t119 := Tryd.underlying133
  a119 := Tryd.isAgg133
  z119 := Tryd.sizeOf133
  t138 := Tryd.underlying135
  a138 := Tryd.isAgg135
  z138 := Tryd.sizeOf135
  v138 := Tryd.zeroValue135
  t139 := Tryd.underlying136
  a139 := Tryd.isAgg136
  z139 := Tryd.sizeOf136
  v139 := Tryd.zeroValue136
  t146 := Tryd.underlying129
  a146 := Tryd.isAgg129
  z146 := Tryd.sizeOf129
  v146 := Tryd.zeroValue129
  g1 := by kernel_rfl
  g3 := by kernel_rfl
  g4 := by kernel_rfl }
def Tryd.lays194_ren : Go.Shelf.Ren := ⟨fun | 194 => 26 | n => n, fun | 31 => 39 | 9 => 9 | 3 => 3 | 4 => 4 | 0 => 0 | n => n, fun | n => n⟩
theorem Tryd.lays194 : Go.Proofs.Lays.n194 Tryd.prog Tryd.lays194_ren := {
  mixed := by kernel_rfl
  f194 := Tryd.func26.trans (congrArg some (by kernel_rfl))
  t0 := Tryd.underlying0
  a0 := Tryd.isAgg0
  z0 := Tryd.sizeOf0
  v0 := Tryd.zeroValue0
  t3 := Tryd.underlying3
  a3 := Tryd.isAgg3
  z3 := Tryd.sizeOf3
  v3 := Tryd.zeroValue3
  t4 := Tryd.underlying4
  a4 := Tryd.isAgg4
  z4 := Tryd.sizeOf4
  v4 := Tryd.zeroValue4
  t9 := Tryd.underlying9
  a9 := Tryd.isAgg9
  z9 := Tryd.sizeOf9
  v9 := Tryd.zeroValue9
  t31 := Tryd.underlying39
  a31 := Tryd.isAgg39
  z31 := Tryd.sizeOf39
  v31 := Tryd.zeroValue39 }
open Go.RowKit Go.Lib Go.Sort in
theorem Tryd.slices_Compact_string (blk off cap : Nat) (zs : List (List UInt8)) (w : World) (hH : Holds encStr w blk off zs.toArray) (hsz : zs.length ≤ 9223372036854775807) (hcap : zs.length ≤ cap) :
    Calls Tryd.prog 26 #[.slice (some ⟨blk, off, none⟩) zs.length cap] w fun e w' => e = .returned (.slice (some ⟨blk, off, none⟩) (Lib.compact zs).length cap) ∧ ∃ q, w' = putRow encStr (Sort.ahead w q) blk off (Lib.compact zs ++ List.replicate (zs.length - (Lib.compact zs).length) []).toArray := Any.slices_Compact_string Tryd.lays194 blk off cap zs w hH hsz hcap
open Go.RowKit Go.Lib Go.Sort in
theorem Tryd.slices_Compact_string_empty (a : Option Addr) (cap : Nat) (w : World) :
    Calls Tryd.prog 26 #[.slice a 0 cap] w fun e w' => e = .returned (.slice a 0 cap) ∧ w' = w := Any.slices_Compact_string_empty Tryd.lays194 a cap w
open Go.RowKit Go.Sort in
theorem Tryd.slices_Sort_string_none (p : Option Addr) (cap : Nat) (w : World) :
    Calls Tryd.prog 25 #[.slice p 0 cap] w fun e w' => e = .returned (.tuple #[]) ∧ w' = w := Any.slices_Sort_string_none Tryd.lays190 p cap w
end Go.Proofs
end
section
namespace Go.Proofs.YtgpadcokcdpmnaaDoor.Fd
open Go Go.RowKit Go.Maps Go.Shelf Go.Lib Go.WideAt Go.WideShapes
set_option linter.unusedVariables false
set_option linter.unusedSimpArgs false
theorem ba_size (s : ByteArray) : s.size = s.data.toList.length := by simp
theorem ba_ext {s t : ByteArray} (h : s.data.toList = t.data.toList) : s = t := by
  cases s; cases t
  simp only at h
  congr 1
  exact Array.ext' h
def oddB (r : Nat) : Bool := (decide (r < 97) || decide (122 < r)) && (decide (r < 48) || decide (57 < r)) && (r != 45)
def nameB (s : ByteArray) : Bool := decide (1 ≤ s.size) && decide (s.size ≤ 24) && decide (idxFunc oddB true s < 0)
theorem toNat_idx {oddP : Nat → Bool} (h128 : ∀ r, 128 ≤ r → oddP r = true) (s : ByteArray) : ∀ (f pos : Nat), s.size ≤ pos + f → (decide (idxFuncFrom oddP true s f pos < 0) = true ↔ ∀ i (h : i < s.size), pos ≤ i → oddP (s[i]'h).toNat = false)
  | 0, pos, hp => by
    simp only [idxFuncFrom, decide_eq_true_eq]
    exact ⟨fun _ i h hi => by omega, fun _ => by simp⟩
  | f + 1, pos, hp => by
    unfold idxFuncFrom
    by_cases hlt : pos < s.size
    · rw [if_pos hlt]
      by_cases ha : (s[pos]'hlt).toNat < 128
      · rw [decode_ascii s pos hlt ha]
        simp only
        by_cases ho : oddP (s[pos]'hlt).toNat = true
        · rw [if_pos ho]
          simp only [decide_eq_true_eq]
          exact ⟨fun h => by omega, fun h => by have := h pos hlt (Nat.le_refl _); rw [ho] at this; cases this⟩
        · rw [if_neg ho, toNat_idx h128 s f (pos + 1) (by omega)]
          constructor
          · intro h i hi hpi
            by_cases e : i = pos
            · subst e; simpa using ho
            · exact h i hi (by omega)
          · intro h i hi hpi; exact h i hi (by omega)
      · have hd := decode_high s pos hlt (by omega)
        rw [if_pos (h128 _ hd.1)]
        simp only [decide_eq_true_eq]
        exact ⟨fun h => by omega, fun h => by have := h pos hlt (Nat.le_refl _); rw [h128 _ (by omega)] at this; cases this⟩
    · rw [if_neg hlt]
      simp only [decide_eq_true_eq]
      exact ⟨fun _ i h hi => by omega, fun _ => by decide⟩
theorem oddB_high (r : Nat) (h : 128 ≤ r) : oddB r = true := by
  unfold oddB
  have h1 : decide (122 < r) = true := decide_eq_true (by omega)
  have h2 : decide (57 < r) = true := decide_eq_true (by omega)
  have h3 : (r != 45) = true := by simp; omega
  rw [h1, h2, h3]; simp
theorem nameB_iff (s : ByteArray) : nameB s = true ↔ 1 ≤ s.size ∧ s.size ≤ 24 ∧ ∀ i (h : i < s.size), oddB (s[i]'h).toNat = false := by
  unfold nameB idxFunc
  simp only [Bool.and_eq_true]
  rw [toNat_idx oddB_high s s.size 0 (by omega)]
  simp only [decide_eq_true_eq]
  exact ⟨fun h => ⟨h.1.1, h.1.2, fun i hi => h.2 i hi (Nat.zero_le _)⟩, fun h => ⟨⟨h.1, h.2.1⟩, fun i hi _ => h.2.2 i hi⟩⟩
theorem less_before : ∀ (a b : List UInt8), Op.bytesLess a b = bytesBefore a b
  | [], [] => rfl
  | _ :: _, [] => rfl
  | [], _ :: _ => rfl
  | a :: r, b :: s => by simp [Op.bytesLess, bytesBefore, less_before r s]
def joinC (c : UInt8) : List (List UInt8) → List UInt8
  | [] => []
  | [w] => w
  | w :: r => w ++ c :: joinC c r
theorem indexByte_at : ∀ {w : List UInt8} {c : UInt8} (r : List UInt8), c ∉ w → indexByte (w ++ c :: r) c = w.length
  | [], c, r, _ => by show (if (c == c) = true then (0 : Int) else _) = _; simp
  | b :: t, c, r, h => by
    have hb : (b == c) = false := by rw [beq_eq_false_iff_ne]; rintro rfl; simp at h
    have hr : c ∉ t := fun hc => h (List.mem_cons_of_mem _ hc)
    have ih := indexByte_at r hr
    show (if (b == c) = true then (0 : Int) else if (indexByte (t ++ c :: r) c == -1) = true then -1 else indexByte (t ++ c :: r) c + 1) = _
    rw [hb, ih]
    have : ((t.length : Int) == -1) = false := by rw [beq_eq_false_iff_ne]; omega
    rw [this]
    simp
theorem count_not {w : List UInt8} {c : UInt8} (h : c ∉ w) : count w [c] = 0 := by rw [count_one]; exact List.count_eq_zero.2 h
theorem count_at {w : List UInt8} {c : UInt8} (r : List UInt8) (h : c ∉ w) : count (w ++ c :: r) [c] = count r [c] + 1 := by
  rw [count_one, count_one, List.count_append, List.count_eq_zero.2 h, List.count_cons_self]; omega
theorem split_join (c : UInt8) : ∀ (ws : List (List UInt8)), ws ≠ [] → (∀ w ∈ ws, c ∉ w) → split (joinC c ws) [c] = ws
  | [], h, _ => absurd rfl h
  | [w], _, h => by
    have hw := h w (by simp)
    show splitK [c] 0 (count w [c]) w = [w]
    rw [count_not hw]; rfl
  | w :: x :: r, _, h => by
    have hw := h w (by simp)
    have ih := split_join c (x :: r) (by simp) (fun y hy => h y (by simp [hy]))
    show splitK [c] 0 (count (w ++ c :: joinC c (x :: r)) [c]) (w ++ c :: joinC c (x :: r)) = _
    rw [count_at _ hw, splitK, index_one, indexByte_at _ hw]
    have : ((w.length : Int) == -1) = false := by rw [beq_eq_false_iff_ne]; omega
    rw [this]
    unfold split at ih
    simp only [Bool.false_eq_true, if_false, Int.toNat_natCast, Nat.add_zero, List.length_cons, List.length_nil]
    rw [List.take_left, show w.length + (0 + 1) = w.length + 1 from rfl]
    have e : (w ++ c :: joinC c (x :: r)).drop (w.length + 1) = joinC c (x :: r) := by
      rw [List.drop_append, List.drop_of_length_le (by omega), Nat.add_sub_cancel_left]; rfl
    rw [e, ih]
def parts (c : UInt8) : List UInt8 → List (List UInt8)
  | [] => [[]]
  | b :: r => if b == c then [] :: parts c r else match parts c r with
    | [] => [[b]]
    | h :: t => (b :: h) :: t
theorem parts_ne (c : UInt8) : ∀ s, parts c s ≠ []
  | [] => by simp [parts]
  | b :: r => by
    unfold parts
    split
    · simp
    · split <;> simp
theorem parts_cons_eq {c : UInt8} (r : List UInt8) : parts c (c :: r) = [] :: parts c r := by
  show (if (c == c) = true then _ else _) = _
  simp
theorem parts_cons_ne {b c : UInt8} (h : (b == c) = false) {r x : List UInt8} {t : List (List UInt8)} (hr : parts c r = x :: t) : parts c (b :: r) = (b :: x) :: t := by
  show (if (b == c) = true then _ else _) = _
  rw [h, hr]; rfl
theorem parts_not (c : UInt8) : ∀ s, ∀ w ∈ parts c s, c ∉ w
  | [], w, hw => by simp only [parts, List.mem_singleton] at hw; subst hw; simp
  | b :: r, w, hw => by
    cases hb : b == c with
    | true =>
      have : b = c := by simpa using hb
      subst this
      rw [parts_cons_eq] at hw
      rcases List.mem_cons.1 hw with rfl | hw
      · simp
      · exact parts_not b r w hw
    | false =>
      obtain ⟨x, t, hx⟩ := List.exists_cons_of_ne_nil (parts_ne c r)
      rw [parts_cons_ne hb hx] at hw
      have ih := parts_not c r
      rw [hx] at ih
      rcases List.mem_cons.1 hw with rfl | hw
      · intro hc
        rcases List.mem_cons.1 hc with rfl | hc
        · simp at hb
        · exact ih x (by simp) hc
      · exact ih w (by simp [hw])
theorem join_parts (c : UInt8) : ∀ s, joinC c (parts c s) = s
  | [] => rfl
  | b :: r => by
    have ih := join_parts c r
    obtain ⟨x, t, hx⟩ := List.exists_cons_of_ne_nil (parts_ne c r)
    rw [hx] at ih
    cases hb : b == c with
    | true =>
      have : b = c := by simpa using hb
      subst this
      rw [parts_cons_eq, hx]
      show [] ++ b :: joinC b (x :: t) = _
      rw [ih]; rfl
    | false =>
      rw [parts_cons_ne hb hx]
      cases t with
      | nil => simp only [joinC] at ih ⊢; rw [ih]
      | cons y t => simp only [joinC] at ih ⊢; rw [List.cons_append, ih]
theorem split_parts (c : UInt8) (s : List UInt8) : split s [c] = parts c s := by
  have := split_join c (parts c s) (parts_ne c s) (parts_not c s)
  rwa [join_parts] at this
def sumLen : List (List UInt8) → Nat
  | [] => 0
  | w :: r => w.length + 1 + sumLen r
theorem join_length (c : UInt8) : ∀ {ws : List (List UInt8)}, ws ≠ [] → (joinC c ws).length + 1 = sumLen ws
  | [], h => absurd rfl h
  | [w], _ => by simp [joinC, sumLen]
  | w :: x :: r, _ => by
    have ih := join_length c (ws := x :: r) (by simp)
    simp only [joinC, sumLen, List.length_append, List.length_cons] at ih ⊢
    omega
theorem parts_sum (c : UInt8) (s : List UInt8) : sumLen (parts c s) = s.length + 1 := by
  rw [← join_length c (parts_ne c s), join_parts]
theorem sumLen_ge : ∀ (ws : List (List UInt8)), ws.length ≤ sumLen ws
  | [] => by simp [sumLen]
  | w :: r => by have := sumLen_ge r; simp only [sumLen, List.length_cons]; omega
theorem parts_length_le (c : UInt8) (s : List UInt8) : (parts c s).length ≤ s.length + 1 := by
  rw [← parts_sum c s]; exact sumLen_ge _
theorem sumLen_mem {ws : List (List UInt8)} {x : List UInt8} (h : x ∈ ws) : x.length + 1 ≤ sumLen ws := by
  induction ws with
  | nil => cases h
  | cons w r ih =>
    simp only [sumLen]
    rcases List.mem_cons.1 h with rfl | h
    · omega
    · have := ih h; omega
theorem less_not {a b : List UInt8} (h : Op.bytesLess a b = true) : Op.bytesLess b a = false ∧ (b == a) = false := by
  rw [less_before] at h ⊢
  refine ⟨?_, ?_⟩
  · cases hc : bytesBefore b a with
    | false => rfl
    | true => have := bytes_trans _ _ _ h hc; rw [bytes_irrefl] at this; cases this
  · rw [beq_eq_false_iff_ne]; rintro rfl; rw [bytes_irrefl] at h; cases h
theorem not_less {a b : List UInt8} (h : Op.bytesLess a b = false) : (Op.bytesLess b a = true ∧ (b == a) = false) ∨ (Op.bytesLess b a = false ∧ (b == a) = true) := by
  by_cases he : b = a
  · subst he; exact .inr ⟨h, by simp⟩
  · refine .inl ⟨?_, by rw [beq_eq_false_iff_ne]; exact he⟩
    rw [less_before] at h ⊢
    rcases bytes_total b a he with h1 | h1
    · exact h1
    · rw [h] at h1; cases h1
end Go.Proofs.YtgpadcokcdpmnaaDoor.Fd
end
section
namespace Go.Proofs
open Go.Shelf
def Tryd.keys24_ren : Go.Shelf.Ren := ⟨fun | 7 => 24 | 10 => 42 | n => n, fun | 23 => 51 | 26 => 9 | 3 => 42 | 28 => 58 | 0 => 0 | 27 => 57 | 33 => 54 | 4 => 4 | n => n, fun | n => n⟩
theorem Tryd.keys24 : Go.Proofs.SlLaysZ.n7 Tryd.prog Tryd.keys24_ren := {
  mixed := by kernel_rfl
  f7 := ⟨Tryd.f24.name, by decide, Tryd.func24.trans (congrArg some (by kernel_rfl))⟩
  f10 := ⟨Tryd.f42.name, by decide, Tryd.func42.trans (congrArg some (by kernel_rfl))⟩
  t0 := Tryd.underlying0
  a0 := Tryd.isAgg0
  z0 := Tryd.sizeOf0
  v0 := Tryd.zeroValue0
  t4 := Tryd.underlying4
  a4 := Tryd.isAgg4
  z4 := Tryd.sizeOf4
  v4 := Tryd.zeroValue4
  t23 := Tryd.underlying51
  a23 := Tryd.isAgg51
  z23 := Tryd.sizeOf51
  v23 := Tryd.zeroValue51
  t26 := Tryd.underlying9
  a26 := Tryd.isAgg9
  z26 := Tryd.sizeOf9
  v26 := Tryd.zeroValue9
  t27 := Tryd.underlying57
  a27 := Tryd.isAgg57
  z27 := Tryd.sizeOf57
  v27 := Tryd.zeroValue57
  t28 := Tryd.underlying58
  a28 := Tryd.isAgg58
  z28 := Tryd.sizeOf58
  v28 := Tryd.zeroValue58
  t33 := Tryd.underlying54
  a33 := Tryd.isAgg54
  z33 := Tryd.sizeOf54
  v33 := Tryd.zeroValue54 }
def Tryd.sorted53_ren : Go.Shelf.Ren := ⟨fun | 6 => 53 | 8 => 23 | 9 => 25 | 11 => 41 | 13 => 44 | 12 => 43 | 23 => 68 | 24 => 69 | 14 => 59 | 15 => 60 | 16 => 61 | 17 => 62 | 18 => 63 | 19 => 64 | 20 => 65 | 21 => 66 | 22 => 67 | 25 => 81 | 26 => 82 | 27 => 83 | 28 => 84 | 29 => 85 | 30 => 76 | 31 => 88 | n => n, fun | 26 => 9 | 28 => 58 | 24 => 39 | 0 => 0 | 3 => 3 | 37 => 82 | 48 => 103 | 50 => 105 | 4 => 4 | 40 => 95 | 39 => 94 | 45 => 100 | 5 => 5 | 9 => 9 | 51 => 116 | 55 => 120 | 57 => 123 | 58 => 124 | 33 => 54 | n => n, fun | n => n⟩
theorem Tryd.sorted53 : Go.Proofs.SlLaysZ.n6 Tryd.prog Tryd.sorted53_ren := {
  mixed := by kernel_rfl
  f6 := ⟨Tryd.f53.name, by decide, Tryd.func53.trans (congrArg some (by kernel_rfl))⟩
  f8 := ⟨Tryd.f23.name, by decide, Tryd.func23.trans (congrArg some (by kernel_rfl))⟩
  f11 := ⟨Tryd.f41.name, by decide, Tryd.func41.trans (congrArg some (by kernel_rfl))⟩
  t0 := Tryd.underlying0
  a0 := Tryd.isAgg0
  z0 := Tryd.sizeOf0
  v0 := Tryd.zeroValue0
  t24 := Tryd.underlying39
  a24 := Tryd.isAgg39
  z24 := Tryd.sizeOf39
  v24 := Tryd.zeroValue39
  t26 := Tryd.underlying9
  a26 := Tryd.isAgg9
  z26 := Tryd.sizeOf9
  v26 := Tryd.zeroValue9
  t28 := Tryd.underlying58
  a28 := Tryd.isAgg58
  z28 := Tryd.sizeOf58
  v28 := Tryd.zeroValue58
  i26 := by kernel_rfl }
def Tryd.sort25_ren : Go.Shelf.Ren := ⟨fun | 6 => 25 | 8 => 44 | 9 => 43 | 19 => 68 | 20 => 69 | 21 => 59 | 22 => 60 | 23 => 61 | 24 => 62 | 25 => 63 | 26 => 64 | 27 => 65 | 28 => 66 | 29 => 67 | 36 => 81 | 31 => 82 | 32 => 83 | 37 => 84 | 38 => 85 | 39 => 76 | 41 => 88 | n => n, fun | 27 => 39 | 29 => 9 | 3 => 3 | 32 => 82 | 26 => 39 | 0 => 0 | 44 => 103 | 46 => 105 | 4 => 4 | 36 => 95 | 35 => 94 | 41 => 100 | 5 => 5 | 9 => 9 | 53 => 116 | 57 => 120 | 63 => 123 | 64 => 124 | n => n, fun | n => n⟩
theorem Tryd.sort25 : Go.Proofs.SlLaysM.n6 Tryd.prog Tryd.sort25_ren := {
  mixed := by kernel_rfl
  f6 := ⟨Tryd.f25.name, by decide, Tryd.func25.trans (congrArg some (by kernel_rfl))⟩
  f8 := Tryd.func44.trans (congrArg some (by kernel_rfl))
  f9 := ⟨Tryd.f43.name, by decide, Tryd.func43.trans (congrArg some (by kernel_rfl))⟩
  f19 := Tryd.func68.trans (congrArg some (by kernel_rfl))
  f20 := Tryd.func69.trans (congrArg some (by kernel_rfl))
  f21 := ⟨Tryd.f59.name, by decide, Tryd.func59.trans (congrArg some (by kernel_rfl))⟩
  f22 := ⟨Tryd.f60.name, by decide, Tryd.func60.trans (congrArg some (by kernel_rfl))⟩
  f23 := ⟨Tryd.f61.name, by decide, Tryd.func61.trans (congrArg some (by kernel_rfl))⟩
  f24 := ⟨Tryd.f62.name, by decide, Tryd.func62.trans (congrArg some (by kernel_rfl))⟩
  f25 := ⟨Tryd.f63.name, by decide, Tryd.func63.trans (congrArg some (by kernel_rfl))⟩
  f26 := ⟨Tryd.f64.name, by decide, Tryd.func64.trans (congrArg some (by kernel_rfl))⟩
  f27 := ⟨Tryd.f65.name, by decide, Tryd.func65.trans (congrArg some (by kernel_rfl))⟩
  f28 := ⟨Tryd.f66.name, by decide, Tryd.func66.trans (congrArg some (by kernel_rfl))⟩
  f29 := ⟨Tryd.f67.name, by decide, Tryd.func67.trans (congrArg some (by kernel_rfl))⟩
  f31 := Tryd.func82.trans (congrArg some (by kernel_rfl))
  f32 := Tryd.func83.trans (congrArg some (by kernel_rfl))
  f36 := ⟨Tryd.f81.name, by decide, Tryd.func81.trans (congrArg some (by kernel_rfl))⟩
  f37 := ⟨Tryd.f84.name, by decide, Tryd.func84.trans (congrArg some (by kernel_rfl))⟩
  f38 := ⟨Tryd.f85.name, by decide, Tryd.func85.trans (congrArg some (by kernel_rfl))⟩
  f39 := ⟨Tryd.f76.name, by decide, Tryd.func76.trans (congrArg some (by kernel_rfl))⟩
  f41 := ⟨Tryd.f88.name, by decide, Tryd.func88.trans (congrArg some (by kernel_rfl))⟩
  t0 := Tryd.underlying0
  a0 := Tryd.isAgg0
  z0 := Tryd.sizeOf0
  v0 := Tryd.zeroValue0
  t3 := Tryd.underlying3
  a3 := Tryd.isAgg3
  z3 := Tryd.sizeOf3
  v3 := Tryd.zeroValue3
  t4 := Tryd.underlying4
  a4 := Tryd.isAgg4
  z4 := Tryd.sizeOf4
  v4 := Tryd.zeroValue4
  t5 := Tryd.underlying5
  a5 := Tryd.isAgg5
  z5 := Tryd.sizeOf5
  v5 := Tryd.zeroValue5
  t9 := Tryd.underlying9
  a9 := Tryd.isAgg9
  z9 := Tryd.sizeOf9
  v9 := Tryd.zeroValue9
  t26 := Tryd.underlying39
  a26 := Tryd.isAgg39
  z26 := Tryd.sizeOf39
  v26 := Tryd.zeroValue39
  t27 := Tryd.underlying39
  a27 := Tryd.isAgg39
  z27 := Tryd.sizeOf39
  v27 := Tryd.zeroValue39
  t29 := Tryd.underlying9
  a29 := Tryd.isAgg9
  z29 := Tryd.sizeOf9
  v29 := Tryd.zeroValue9
  t32 := Tryd.underlying82
  a32 := Tryd.isAgg82
  z32 := Tryd.sizeOf82
  v32 := Tryd.zeroValue82
  t35 := Tryd.underlying94
  a35 := Tryd.isAgg94
  z35 := Tryd.sizeOf94
  v35 := Tryd.zeroValue94
  t36 := Tryd.underlying95
  a36 := Tryd.isAgg95
  z36 := Tryd.sizeOf95
  v36 := Tryd.zeroValue95
  t41 := Tryd.underlying100
  a41 := Tryd.isAgg100
  z41 := Tryd.sizeOf100
  v41 := Tryd.zeroValue100
  t44 := Tryd.underlying103
  a44 := Tryd.isAgg103
  z44 := Tryd.sizeOf103
  v44 := Tryd.zeroValue103
  t46 := Tryd.underlying105
  a46 := Tryd.isAgg105
  z46 := Tryd.sizeOf105
  v46 := Tryd.zeroValue105
  t53 := Tryd.underlying116
  a53 := Tryd.isAgg116
  z53 := Tryd.sizeOf116
  v53 := Tryd.zeroValue116
  t57 := Tryd.underlying120
  a57 := Tryd.isAgg120
  z57 := Tryd.sizeOf120
  v57 := Tryd.zeroValue120
  t63 := Tryd.underlying123
  a63 := Tryd.isAgg123
  z63 := Tryd.sizeOf123
  v63 := Tryd.zeroValue123
  t64 := Tryd.underlying124
  a64 := Tryd.isAgg124
  z64 := Tryd.sizeOf124
  v64 := Tryd.zeroValue124 }
def Tryd.keys54_ren : Go.Shelf.Ren := ⟨fun | 7 => 54 | 10 => 77 | n => n, fun | 23 => 69 | 26 => 9 | 3 => 22 | 28 => 58 | 0 => 0 | 27 => 57 | 33 => 54 | 4 => 4 | n => n, fun | n => n⟩
theorem Tryd.keys54 : Go.Proofs.SlLaysZ.n7 Tryd.prog Tryd.keys54_ren := {
  mixed := by kernel_rfl
  f7 := ⟨Tryd.f54.name, by decide, Tryd.func54.trans (congrArg some (by kernel_rfl))⟩
  f10 := ⟨Tryd.f77.name, by decide, Tryd.func77.trans (congrArg some (by kernel_rfl))⟩
  t0 := Tryd.underlying0
  a0 := Tryd.isAgg0
  z0 := Tryd.sizeOf0
  v0 := Tryd.zeroValue0
  t4 := Tryd.underlying4
  a4 := Tryd.isAgg4
  z4 := Tryd.sizeOf4
  v4 := Tryd.zeroValue4
  t23 := Tryd.underlying69
  a23 := Tryd.isAgg69
  z23 := Tryd.sizeOf69
  v23 := Tryd.zeroValue69
  t26 := Tryd.underlying9
  a26 := Tryd.isAgg9
  z26 := Tryd.sizeOf9
  v26 := Tryd.zeroValue9
  t27 := Tryd.underlying57
  a27 := Tryd.isAgg57
  z27 := Tryd.sizeOf57
  v27 := Tryd.zeroValue57
  t28 := Tryd.underlying58
  a28 := Tryd.isAgg58
  z28 := Tryd.sizeOf58
  v28 := Tryd.zeroValue58
  t33 := Tryd.underlying54
  a33 := Tryd.isAgg54
  z33 := Tryd.sizeOf54
  v33 := Tryd.zeroValue54 }
end Go.Proofs
end
section
namespace Go.Proofs.YtgpadcokcdpmnaaDoor.Fd
open Go Go.RowKit Go.Maps Go.Shelf Go.Lib Go.Sort
set_option linter.unusedVariables false
set_option linter.unusedSimpArgs false
structure Fr (S : Nat → Prop) (w w' : World) : Prop where
  os : w'.os = w.os
  tape : w'.tape = w.tape
  output : w'.output = w.output
  size : w.heap.size ≤ w'.heap.size
  block : ∀ k, k < w.heap.size → ¬ S k → w'.heap[k]? = w.heap[k]?
theorem Fr.refl (S : Nat → Prop) (w : World) : Fr S w w := ⟨rfl, rfl, rfl, Nat.le_refl _, fun _ _ _ => rfl⟩
theorem Fr.trans {S : Nat → Prop} {a b c : World} (h : Fr S a b) (k : Fr S b c) : Fr S a c :=
  ⟨k.os.trans h.os, k.tape.trans h.tape, k.output.trans h.output, Nat.le_trans h.size k.size, fun i hi hS => (k.block i (Nat.lt_of_lt_of_le hi h.size) hS).trans (h.block i hi hS)⟩
theorem Fr.mono {S S' : Nat → Prop} {a b : World} (h : Fr S a b) (hs : ∀ k, k < a.heap.size → S k → S' k) : Fr S' a b := ⟨h.os, h.tape, h.output, h.size, fun i hi hS => h.block i hi (fun hc => hS (hs i hi hc))⟩
theorem Fr.of_below {S : Nat → Prop} {w w' : World} (h : Below w.heap.size w w') : Fr S w w' := ⟨h.os, h.tape, h.output, h.size, fun k hk _ => h.block k hk⟩
theorem Fr.below {S : Nat → Prop} {B : Nat} {w w' : World} (h : Fr S w w') (hB : B ≤ w.heap.size) (hS : ∀ k, S k → B ≤ k) : Below B w w' :=
  ⟨h.os, h.tape, h.output, h.size, fun k hk => h.block k (Nat.lt_of_lt_of_le hk hB) (fun hc => by have := hS k hc; omega)⟩
theorem Fr.alloc {S : Nat → Prop} {a w : World} (h : Fr S a w) (o : Obj) : Fr S a (w.alloc o) := h.trans (Fr.of_below ((Below.refl _ _).alloc (Nat.le_refl _) o))
theorem Fr.drew {S : Nat → Prop} {a w : World} (h : Fr S a w) : Fr S a w.drew := ⟨h.os, h.tape, h.output, h.size, h.block⟩
theorem Fr.drewN {S : Nat → Prop} {a w : World} (h : Fr S a w) (n : Nat) : Fr S a (w.drewN n) := ⟨h.os, h.tape, h.output, h.size, h.block⟩
theorem Fr.setCell {S : Nat → Prop} {a w : World} (h : Fr S a w) {p : Addr} (hp : S p.block) (u : Value) : Fr S a (w.setCell p u) :=
  h.trans ⟨rfl, rfl, rfl, by simp [World.setCell], fun k _ hS => Below.heap_setCell _ _ _ _ (fun e => hS (e ▸ hp))⟩
theorem Fr.grown {S : Nat → Prop} {a w w' : World} {row : Option Nat} (h : Fr S a w) (hg : w.grownBy w' row) (hr : ∀ k, row = some k → S k) : Fr S a w' :=
  h.trans ⟨hg.os, hg.tape, hg.output, hg.size, fun k hk hS => hg.block k hk (fun e => hS (hr k e.symm))⟩
theorem setCell_block {w : World} {p i : Nat} {c : Array Value} {e : TypeId} {f : Nat × Nat} (h : w.heap[p]? = some (.cells c e f)) (v : Value) :
    (w.setCell ⟨p, i, none⟩ v).heap[p]? = some (.cells (c.setIfInBounds i v) e f) := by
  simp [World.setCell, Array.getElem?_modify, h]
abbrev GE := List UInt8 × Value
def gins (x : GE) : List GE → List GE
  | [] => [x]
  | y :: r => if bytesBefore x.1 y.1 then x :: y :: r else y :: gins x r
def gput (L : List GE) (s : List UInt8) (v : Value) : List GE := gins (s, v) (L.filter fun e => !(e.1 == s))
def gget (L : List GE) (s : List UInt8) : Option Value := (L.find? fun e => e.1 == s).map (·.2)
theorem mem_gins {x y : GE} : ∀ {L : List GE}, y ∈ gins x L ↔ y = x ∨ y ∈ L
  | [] => by simp [gins]
  | z :: r => by
    unfold gins
    split
    · simp
    · simp [mem_gins (L := r)]; constructor <;> (intro h; rcases h with h | h | h <;> simp [h])
theorem mem_gput {L : List GE} {s : List UInt8} {v : Value} {y : GE} : y ∈ gput L s v ↔ y = (s, v) ∨ (y ∈ L ∧ y.1 ≠ s) := by
  unfold gput; rw [mem_gins]; simp
theorem gins_length (x : GE) : ∀ L : List GE, (gins x L).length = L.length + 1
  | [] => rfl
  | y :: r => by unfold gins; split <;> simp [gins_length x r]
theorem gput_length (L : List GE) (s : List UInt8) (v : Value) : (gput L s v).length ≤ L.length + 1 := by
  unfold gput; rw [gins_length]; have := List.length_filter_le (fun e : GE => !(e.1 == s)) L; omega
theorem gput_length_new {L : List GE} {s : List UInt8} (h : gget L s = none) (v : Value) : (gput L s v).length = L.length + 1 := by
  have hf : L.filter (fun e => !(e.1 == s)) = L := by
    rw [List.filter_eq_self]
    intro e he
    unfold gget at h
    rw [Option.map_eq_none_iff, List.find?_eq_none] at h
    simpa using h e he
  unfold gput; rw [gins_length, hf]
theorem gget_mem {L : List GE} {s : List UInt8} {v : Value} (h : gget L s = some v) : (s, v) ∈ L := by
  unfold gget at h
  cases hf : L.find? (fun e => e.1 == s) with
  | none => rw [hf] at h; cases h
  | some e =>
    rw [hf] at h
    have h1 := List.mem_of_find?_eq_some hf
    have h2 := List.find?_some hf
    simp only [Option.map_some, Option.some.injEq] at h
    have h3 : e.1 = s := by simpa using h2
    rw [← h, ← h3]; exact h1
theorem gget_cons (e : GE) (L : List GE) (s : List UInt8) : gget (e :: L) s = if e.1 = s then some e.2 else gget L s := by
  unfold gget
  rw [List.find?_cons]
  by_cases h : e.1 = s
  · rw [if_pos h, h]; simp
  · rw [if_neg h]
    have : (e.1 == s) = false := by simpa using h
    rw [this]
theorem gget_gins_self (x : GE) : ∀ {L : List GE}, (∀ e ∈ L, e.1 ≠ x.1) → gget (gins x L) x.1 = some x.2
  | [], _ => by simp [gins, gget_cons]
  | y :: r, h => by
    unfold gins
    split
    · simp [gget_cons]
    · rw [gget_cons, if_neg (h y (by simp))]; exact gget_gins_self x (fun e he => h e (by simp [he]))
theorem gget_gins_ne (x : GE) {s : List UInt8} (hs : x.1 ≠ s) : ∀ {L : List GE}, gget (gins x L) s = gget L s
  | [] => by simp [gins, gget_cons, hs]
  | y :: r => by
    unfold gins
    split
    · rw [gget_cons x, if_neg hs]
    · rw [gget_cons, gget_cons, gget_gins_ne x hs (L := r)]
theorem gget_filter_ne {s u : List UInt8} (h : u ≠ s) : ∀ {L : List GE}, gget (L.filter fun e => !(e.1 == u)) s = gget L s
  | [] => rfl
  | y :: r => by
    rw [List.filter_cons]
    by_cases hy : y.1 = u
    · have : (!(y.1 == u)) = false := by simp [hy]
      rw [this]
      simp only [Bool.false_eq_true, if_false]
      rw [gget_cons, if_neg (by rw [hy]; exact h)]
      exact gget_filter_ne h (L := r)
    · have : (!(y.1 == u)) = true := by simpa using hy
      rw [this]
      simp only [if_true]
      rw [gget_cons, gget_cons, gget_filter_ne h (L := r)]
theorem gget_gput (L : List GE) (s u : List UInt8) (v : Value) : gget (gput L s v) u = if s = u then some v else gget L u := by
  unfold gput
  by_cases h : s = u
  · subst h
    rw [if_pos rfl]
    exact gget_gins_self (s, v) (by intro e he; simpa using (List.mem_filter.1 he).2)
  · rw [if_neg h, gget_gins_ne (s, v) (by exact h), gget_filter_ne h]
def gent (e : GE) : Lit × DataW Value := (.string e.1, .held e.2)
def GD (L : List GE) : DataW Value := .map (L.map gent)
def RV : Value → Option (DataW Value × List MemPlace) := fun v => some (.held v, [])
theorem insert_gins (x : GE) : ∀ L : List GE, DataW.insert (gent x) (L.map gent) = (gins x L).map gent
  | [] => rfl
  | y :: r => by
    simp only [List.map_cons, DataW.insert, gins]
    by_cases h : (gent x).1.before (gent y).1 = true
    · rw [if_pos h, if_pos (show bytesBefore x.1 y.1 = true from h)]; rfl
    · rw [if_neg h, if_neg (show ¬ bytesBefore x.1 y.1 = true from h), insert_gins x r]; rfl
theorem GD_put (L : List GE) (s : List UInt8) (v : Value) : (GD L).put (.string s) (.held v) = GD (gput L s v) := by
  unfold GD gput DataW.put
  simp only
  congr 1
  rw [List.filter_map]
  exact insert_gins (s, v) _
theorem GD_size (L : List GE) : Maps.size (GD L) = L.length := by simp [GD, Maps.size]
theorem GD_has (L : List GE) (s : List UInt8) : Maps.has (GD L) (.string s) = (gget L s).isSome := by
  unfold GD gget
  show (L.map gent).any _ = _
  rw [List.any_map, Option.isSome_map, List.isSome_find?]
  rfl
theorem find_map_gent (s : List UInt8) : ∀ L : List GE, (L.map gent).find? (fun p => p.1.sameKey (.string s)) = (L.find? fun e => e.1 == s).map gent
  | [] => rfl
  | e :: r => by
    simp only [List.map_cons, List.find?_cons]
    have : (gent e).1.sameKey (.string s) = (e.1 == s) := rfl
    rw [this]
    cases e.1 == s
    · exact find_map_gent s r
    · rfl
theorem GD_at (L : List GE) (s : List UInt8) (z : DataW Value) : (GD L).atKey (.string s) z = match gget L s with | some v => .held v | none => z := by
  unfold GD gget DataW.atKey
  simp only [find_map_gent]
  cases L.find? (fun e => e.1 == s) <;> rfl
theorem lawS : Keyed Tryd.prog 9 := string_keyed Tryd.underlying9
theorem keyS {s : ByteArray} (hs : s.size ≤ maxLen) : keyOf Tryd.prog 9 (.string s) = some (.string s.data.toList) := by
  simp [keyOf, mapKey, Tryd.underlying9, hs]
def GM (w : World) (b : Nat) (L : List GE) : Prop := w.ownsMap Tryd.prog 9 RV b L.length (GD L)
theorem own_exact {w : World} {b n : Nat} {D : DataW Value} (h : w.ownsMap Tryd.prog 9 RV b n D) : w.ownsMap Tryd.prog 9 RV b (Maps.size D) D := by
  obtain ⟨es, clock, hb, F, hs, rfl⟩ := h
  refine ⟨es, clock, hb, F, ?_, rfl⟩
  simp [Maps.size, length_sorted]
theorem GM.of {w : World} {b n : Nat} {L : List GE} (h : w.ownsMap Tryd.prog 9 RV b n (GD L)) : GM w b L := by
  have := own_exact h
  rw [GD_size] at this
  exact this
theorem GM.made (w : World) : GM (w.alloc (.map #[] 0)) w.heap.size [] := World.ownsMap_made w Tryd.prog 9 RV
theorem GM.of_block {w w' : World} {b : Nat} {L : List GE} (h : GM w b L) (hb : w'.heap[b]? = w.heap[b]?) : GM w' b L := by
  obtain ⟨es, clock, hb', r⟩ := h
  exact ⟨es, clock, hb.trans hb', r⟩
theorem GM.lt {w : World} {b : Nat} {L : List GE} (h : GM w b L) : b < w.heap.size := World.ownsMap.lt h
theorem GM.below {w w' : World} {b : Nat} {L : List GE} (h : GM w b L) (hb : Below w.heap.size w w') : GM w' b L := h.of_block (hb.block _ h.lt)
theorem GM.fr {S : Nat → Prop} {w w' : World} {b : Nat} {L : List GE} (h : GM w b L) (hf : Fr S w w') (hb : ¬ S b) : GM w' b L := h.of_block (hf.block _ h.lt hb)
theorem GM.look {w : World} {b : Nat} {L : List GE} (h : GM w b L) {t e : TypeId} (ht : Tryd.prog.underlying t = some (.map 9 e)) {z : Value} (hz : ∀ w, (zeroValue e).run Tryd.prog w = .ok z w) {s : ByteArray} (hs : s.size ≤ maxLen) :
    (Instr.lookup t (.map (some b)) (.string s) false).run Tryd.prog w = .ok ((gget L s.data.toList).getD z) w := by
  obtain ⟨v, ps, hrun, hv⟩ := World.ownsMap.lookup (t := t) (e := e) h lawS ht (hz w) (show RV z = some (.held z, []) from rfl) (keyS hs)
  rw [hrun]
  unfold RV at hv
  rw [GD_at] at hv
  cases hg : gget L s.data.toList with
  | none => rw [hg] at hv; cases hv; rfl
  | some v => rw [hg] at hv; cases hv; rfl
theorem GM.look_ok {w : World} {b : Nat} {L : List GE} (h : GM w b L) {t e : TypeId} (ht : Tryd.prog.underlying t = some (.map 9 e)) {z : Value} (hz : ∀ w, (zeroValue e).run Tryd.prog w = .ok z w) {s : ByteArray} (hs : s.size ≤ maxLen) :
    (Instr.lookup t (.map (some b)) (.string s) true).run Tryd.prog w = .ok (.tuple #[(gget L s.data.toList).getD z, .bool (gget L s.data.toList).isSome]) w := by
  obtain ⟨v, ps, hrun, hv⟩ := World.ownsMap.look_ok (t := t) (e := e) h lawS ht (hz w) (show RV z = some (.held z, []) from rfl) (keyS hs)
  rw [hrun, GD_has]
  unfold RV at hv
  rw [GD_at] at hv
  cases hg : gget L s.data.toList with
  | none => rw [hg] at hv; cases hv; rfl
  | some v => rw [hg] at hv; cases hv; rfl
theorem GM.store {w : World} {b : Nat} {L : List GE} (h : GM w b L) {t e : TypeId} (ht : Tryd.prog.underlying t = some (.map 9 e)) {s : ByteArray} (hs : s.size ≤ maxLen) (hn : L.length < maxLen) (v : Value) :
    ∃ w', (Instr.mapUpdate t (.map (some b)) (.string s) v).run Tryd.prog w = .ok () w' ∧ GM w' b (gput L s.data.toList v) ∧ w.mapTurned w' b := by
  obtain ⟨w', hrun, hown, htn⟩ := World.ownsMap.store (t := t) (e := e) h lawS ht hn (keyS hs) (show RV v = some (.held v, []) from rfl)
  rw [GD_put] at hown
  exact ⟨w', hrun, GM.of hown, htn⟩
theorem le_of_before : ∀ {a b : List UInt8}, bytesBefore a b = true → a ≤ b
  | [], _, _ => by simp
  | _ :: _, [], h => by simp [bytesBefore] at h
  | a :: r, b :: s, h => by
    simp only [bytesBefore, Bool.or_eq_true, Bool.and_eq_true, decide_eq_true_eq, beq_iff_eq] at h
    rw [List.cons_le_cons_iff]
    rcases h with h | ⟨h1, h2⟩
    · exact .inl h
    · exact .inr ⟨h1, le_of_before h2⟩
def GRise (L : List GE) : Prop := L.Pairwise (fun x y => bytesBefore x.1 y.1 = true)
theorem GM.rising {w : World} {b : Nat} {L : List GE} (h : GM w b L) : GRise L := by
  obtain ⟨es, he, hp, _⟩ := World.ownsMap.canon h lawS
  unfold GD at he
  obtain rfl := DataW.map.inj he
  rw [List.pairwise_map] at hp
  exact hp
theorem strKeys_GD (L : List GE) : strKeys (GD L) = L.map (·.1) := by
  unfold GD strKeys
  simp only
  induction L with
  | nil => rfl
  | cons e r ih => simp [gent] at ih ⊢; exact ⟨rfl, ih⟩
end Go.Proofs.YtgpadcokcdpmnaaDoor.Fd
end
section
namespace Go.Proofs
open Go.Shelf Go.RowKit Go.Lib
set_option linter.unusedVariables false
set_option linter.unusedSimpArgs false
section
variable {P : Program} {ρ : Ren}
set_option maxHeartbeats 1000000 in
theorem Any.YtgpadcokcdpmnaaDoor_Split1 (L : Lays.n146 P ρ) (hi9 : (P.info? (ρ.t 9)).map (fun i => (i.zero, i.size, i.bytes)) = some (some (.string ByteArray.empty), 1, 16)) (s : ByteArray) (c : UInt8) (w : World)
    (hs : s.size < 4294967281) :
    Calls P (ρ.f 146) #[.string s, .string ⟨#[c]⟩] w fun e w' =>
      e = .returned (.slice (some ⟨w.heap.size, 0, none⟩) (Lib.countB s ⟨#[c]⟩ + 1) (Lib.countB s ⟨#[c]⟩ + 1)) ∧ w' = w.alloc (.cells ((Lib.splitB ⟨#[c]⟩ 0 (Lib.countB s ⟨#[c]⟩) s).map Value.string).toArray (ρ.t 9)) := by
  have h1 : 1 ≤ (⟨#[c]⟩ : ByteArray).size := Nat.le_refl 1
  have hle := Lib.countB_le ⟨#[c]⟩ h1 s.size s (Nat.le_refl _)
  have hlen := Lib.splitB_all ⟨#[c]⟩ h1 0 _ s rfl
  have cc := Any.strings_genSplit_core { L with } hi9 s ⟨#[c]⟩ 0 (-1) (Lib.countB s ⟨#[c]⟩ + 1) w hs h1 (Nat.zero_le _)
    (fun x cs hx => (Any.strings_Index_one { L with } x c _).mono fun e w' ⟨he, hw⟩ => ⟨by
      rw [he]
      show _ = Ending.returned (Value.int .i64 (Lib.index x.data.toList [c]))
      rw [Lib.index_one], hw⟩)
    ((Any.strings_Count_one { L with } s c w).mono fun e w' ⟨he, hw⟩ => ⟨by
      rw [he]
      show _ = Ending.returned (Value.int .i64 ((Lib.count s.data.toList [c] : Nat) : Int))
      rw [Lib.count_one]
      rfl, hw⟩) (by decide) (by decide) (by rw [if_pos (by decide)]; omega)
  rw [Nat.add_sub_cancel, hlen] at cc
  have e2 : Lib.cellsOf (Lib.splitB ⟨#[c]⟩ 0 (Lib.countB s ⟨#[c]⟩) s) (Lib.countB s ⟨#[c]⟩ + 1) = ((Lib.splitB ⟨#[c]⟩ 0 (Lib.countB s ⟨#[c]⟩) s).map Value.string).toArray := by rw [← hlen]; exact Lib.cellsOf_full _
  rw [e2] at cc
  have t3 := L.t3; have t9 := L.t9; have t31 := L.t31
  have a3 := L.a3; have a9 := L.a9; have a31 := L.a31
  have z3 := L.z3; have v3 := L.v3; have z9 := L.z9; have v9 := L.v9; have z31 := L.z31; have v31 := L.v31
  have e221 : ∀ args w, (callFunc (ρ.f 221) args).run P w = .ok (.enter (ρ.f 221) args) w := enters_of L.f221 (by kernel_rfl) rfl
  go_enter L.f146, Body.n146_ntmps ρ
  go_wp2_with (go_at_fn (ρ.f 221); refine cc.mono ?_; rintro e w' ⟨rfl, hw⟩; rw [hw])
  go_ret
  exact ⟨rfl, rfl⟩
end
theorem Tryd_Split1 (s : ByteArray) (c : UInt8) (w : World) (hs : s.size < 4294967281) :
    Calls Tryd.prog 79 #[.string s, .string ⟨#[c]⟩] w fun e w' =>
      e = .returned (.slice (some ⟨w.heap.size, 0, none⟩) (Lib.countB s ⟨#[c]⟩ + 1) (Lib.countB s ⟨#[c]⟩ + 1)) ∧ w' = w.alloc (.cells ((Lib.splitB ⟨#[c]⟩ 0 (Lib.countB s ⟨#[c]⟩) s).map Value.string).toArray 9) :=
  Any.YtgpadcokcdpmnaaDoor_Split1 Tryd.lays146 (by kernel_rfl) s c w hs
end Go.Proofs
namespace Go.Proofs.YtgpadcokcdpmnaaDoor.Fd
open Go Go.RowKit Go.Maps Go.Shelf Go.Lib
set_option linter.unusedVariables false
set_option linter.unusedSimpArgs false
theorem odd_pred (w : World) : PredAt Tryd.prog 39 #[] encR oddB w := fun W r _ => by
  unfold FnGives
  by_cases h1 : 97 ≤ r <;> by_cases h2 : r ≤ 122 <;> by_cases h3 : 48 ≤ r <;> by_cases h4 : r ≤ 57 <;> by_cases h5 : r = 45
  all_goals first
    | (exfalso; omega)
    | (
      have z1 : ((97 : Int) ≤ (r : Int)) ↔ 97 ≤ r := by omega
      have z2 : ((r : Int) ≤ 122) ↔ r ≤ 122 := by omega
      have z3 : ((48 : Int) ≤ (r : Int)) ↔ 48 ≤ r := by omega
      have z4 : ((r : Int) ≤ 57) ↔ r ≤ 57 := by omega
      have z5 : ((r : Int) = 45) ↔ r = 45 := by omega
      have H : Hid (oddB r = ((decide (r < 97) || decide (122 < r)) && (decide (r < 48) || decide (57 < r)) && (r != 45))) := rfl
      go_enter Tryd.func39, Tryd.ntmps39
      go_wp2
      all_goals first
        | (exfalso; omega)
        | (go_ret; exact ⟨by rw [H.out]; first | (simp [h1, h2, h3, h4, h5]; done) | (simp [h1, h2, h3, h4, h5]; rw [Bool.eq_iff_iff]; simp; omega) | (rw [Bool.eq_iff_iff]; simp; omega), 0, rfl⟩))
theorem name_calls (s : ByteArray) (w : World) : Calls Tryd.prog 21 #[.string s] w fun e w' => e = .returned (.bool (nameB s)) ∧ Below w.heap.size w w' := by
  have hC := fun W => Tryd.strings_ContainsFunc 39 #[] (enters_of Tryd.func39 (by kernel_rfl) rfl) oddB s W (odd_pred W)
  have H : Hid (nameB s = (decide (1 ≤ s.size) && decide (s.size ≤ 24) && decide (idxFunc oddB true s < 0))) := rfl
  have HC := Lib.hid hC
  clear hC
  have HN : Hid ((!decide (0 ≤ idxFunc oddB true s)) = decide (idxFunc oddB true s < 0)) := by
    unfold Hid; rw [Bool.eq_iff_iff]; simp
  by_cases h1 : (1 : Int) ≤ s.size <;> by_cases h2 : (s.size : Int) ≤ 24
  · go_enter Tryd.func21, Tryd.ntmps21
    go_wp2_with (go_at_call 40; refine (HC.out _).mono ?_; rintro e w' ⟨rfl, hb⟩)
    go_ret
    have h1' : 1 ≤ s.size := by omega
    have h2' : s.size ≤ 24 := by omega
    exact ⟨by rw [H.out, ← HN.out]; simp [h1', h2'], hb⟩
  · go_enter Tryd.func21, Tryd.ntmps21
    go_wp2_with fail
    go_ret
    have h2' : ¬ s.size ≤ 24 := by omega
    exact ⟨by rw [H.out]; simp [h2'], Below.refl _ _⟩
  · go_enter Tryd.func21, Tryd.ntmps21
    go_wp2_with fail
    go_ret
    have h1' : ¬ 1 ≤ s.size := by omega
    exact ⟨by rw [H.out]; simp [h1'], Below.refl _ _⟩
  · exfalso; omega
def cutL (c : UInt8) : List UInt8 → List UInt8 × List UInt8 × Bool
  | [] => ([], [], false)
  | b :: r => if b == c then ([], r, true) else (b :: (cutL c r).1, (cutL c r).2.1, (cutL c r).2.2)
theorem cut_one (c : UInt8) : ∀ s : List UInt8, Lib.cut s [c] = cutL c s
  | [] => by simp [Lib.cut, cutL, Lib.index_one, Lib.indexByte]
  | b :: r => by
    have ih := cut_one c r
    unfold Lib.cut at ih ⊢
    rw [Lib.index_one] at ih ⊢
    unfold cutL
    unfold Lib.indexByte
    by_cases hb : (b == c) = true
    · rw [if_pos hb, if_pos hb]; simp
    · rw [if_neg hb, if_neg hb, ← ih]
      by_cases h0 : 0 ≤ Lib.indexByte r c
      · have h1 : ¬ (Lib.indexByte r c == -1) = true := by rw [beq_iff_eq]; omega
        rw [if_neg h1, if_pos h0, if_pos (by omega)]
        have e : (Lib.indexByte r c + 1).toNat = (Lib.indexByte r c).toNat + 1 := by omega
        rw [e]
        simp [Nat.add_right_comm]
      · rw [if_neg h0]
        by_cases h1 : (Lib.indexByte r c == -1) = true
        · rw [if_pos h1, if_neg (by omega)]
        · rw [if_neg h1]
          rw [beq_iff_eq] at h1
          rw [if_neg (by omega)]
set_option maxHeartbeats 1000000 in
theorem slcut_calls (s : ByteArray) (c : UInt8) (w : World) (hs : s.size < 4294967281) :
    Calls Tryd.prog 78 #[.string s, .string ⟨#[c]⟩] w fun e w' => e = .returned (.tuple #[.string ⟨(cutL c s.data.toList).1.toArray⟩, .string ⟨(cutL c s.data.toList).2.1.toArray⟩, .bool (cutL c s.data.toList).2.2]) ∧ ∃ n, w' = w.drewN n := by
  rw [← cut_one]
  have hi : Lib.index s.data.toList [c] = Lib.indexByte s.data.toList c := Lib.index_one ..
  rcases Lib.indexB_cases s ⟨#[c]⟩ with hix | ⟨i, hix, hroom⟩
  · obtain ⟨e1, e2, e3⟩ := Lib.cutB_miss s ⟨#[c]⟩ hix
    have hix' : Lib.indexByte s.data.toList c = -1 := by rw [← hi]; exact hix
    rw [show [c] = (⟨#[c]⟩ : ByteArray).data.toList from rfl, e1, e2, e3]
    go_enter Tryd.func78, Tryd.ntmps78
    go_wp2_with (go_at_call 86; refine (Tryd.stringslite_Index_one s c _).mono ?_; rintro e w' ⟨rfl, rfl⟩; rw [hix'])
    go_ret3
    exact ⟨rfl, 0, rfl⟩
  · obtain ⟨e1, e2, e3⟩ := Lib.cutB_hit s ⟨#[c]⟩ i hix
    have hix' : Lib.indexByte s.data.toList c = i := by rw [← hi]; exact hix
    rw [show [c] = (⟨#[c]⟩ : ByteArray).data.toList from rfl, e1, e2, e3]
    have hroom' : i + 1 ≤ s.size := hroom
    have hsz : (⟨#[c]⟩ : ByteArray).size = 1 := rfl
    have mixed : Tryd.prog.follows Departure.mixedOrders = true := by kernel_rfl
    have hw1 : IntKind.i64.wrap ((i : Int) + 1) = (i : Int) + 1 := IntWalk.i64_in _ (by omega)
    have hn1 : ((i : Int) + 1).toNat = i + 1 := by omega
    have c1 : (0 : Int) ≤ ↑i := by omega
    have c2 : (↑i : Int) ≤ ↑s.size := by omega
    have c3 : (0 : Int) ≤ ↑i + 1 := by omega
    have c4 : (↑i + 1 : Int) ≤ ↑s.size := by omega
    go_enter Tryd.func78, Tryd.ntmps78
    go_wp2_with (go_at_call 86; refine (Tryd.stringslite_Index_one s c _).mono ?_; rintro e w' ⟨rfl, rfl⟩; rw [hix'])
    go_region_o
    go_wp2
    go_ret3
    exact ⟨rfl, 1, rfl⟩
theorem cut_calls (s : ByteArray) (c : UInt8) (w : World) (hs : s.size < 4294967281) :
    Calls Tryd.prog 55 #[.string s, .string ⟨#[c]⟩] w fun e w' => e = .returned (.tuple #[.string ⟨(cutL c s.data.toList).1.toArray⟩, .string ⟨(cutL c s.data.toList).2.1.toArray⟩, .bool (cutL c s.data.toList).2.2]) ∧ ∃ n, w' = w.drewN n := by
  go_enter Tryd.func55, Tryd.ntmps55
  go_wp2_with (go_at_call 78; refine (slcut_calls s c _ hs).mono ?_; rintro e w' ⟨rfl, n, rfl⟩)
  go_ret3
  exact ⟨rfl, n, rfl⟩
end Go.Proofs.YtgpadcokcdpmnaaDoor.Fd
end
section
namespace Go.Proofs.YtgpadcokcdpmnaaDoor.Fd
open Go Go.RowKit Go.Maps Go.Shelf Go.Lib
set_option linter.unusedVariables false
set_option linter.unusedSimpArgs false
def prevOk : Option (List UInt8) → List UInt8 → Bool
  | none, _ => true
  | some q, x => bytesBefore q x
def tagRun : Option (List UInt8) → List (List UInt8) → Bool
  | _, [] => true
  | p, x :: r => nameB ⟨x.toArray⟩ && prevOk p x && tagRun (some x) r
def tagsB (ws : List (List UInt8)) : Bool := tagRun none ws && decide (ws.length ≤ 8)
def labelsB (s : List UInt8) : Bool := s.isEmpty || tagsB (parts 44 s)
def goodsB (s : List UInt8) : Bool := (cutL 59 s).2.2 && nameB ⟨(cutL 59 s).1.toArray⟩ && labelsB (cutL 59 s).2.1
def RowAt (w : World) (g : Nat) (ps : List ByteArray) : Prop := g < w.heap.size ∧ ∀ (i : Nat) (x : ByteArray), ps[i]? = some x → w.cell? ⟨g, i, none⟩ = some (.string x)
theorem RowAt.below {w w' : World} {g : Nat} {ps : List ByteArray} (h : RowAt w g ps) (hb : Below w.heap.size w w') : RowAt w' g ps :=
  ⟨Nat.lt_of_lt_of_le h.1 hb.size, fun i x hx => (hb.cell (p := ⟨g, i, none⟩) h.1).trans (h.2 i x hx)⟩
theorem heap_alloc_new (w : World) (o : Obj) : (w.alloc o).heap[w.heap.size]? = some o := (Go.MapKept.heap_alloc w o).1
theorem RowAt.split (w : World) (s : ByteArray) (c : UInt8) (e : TypeId) {ps : List ByteArray} (hps : Lib.splitB ⟨#[c]⟩ 0 (Lib.countB s ⟨#[c]⟩) s = ps) :
    RowAt (w.alloc (.cells (ps.map Value.string).toArray e)) w.heap.size ps := by
  refine ⟨by simp, fun i x hx => ?_⟩
  have h1 := heap_alloc_new w (.cells (ps.map Value.string).toArray e)
  simp only [World.cell?, h1]
  simp [hx]
theorem split_len (s : ByteArray) (c : UInt8) : (Lib.splitB ⟨#[c]⟩ 0 (Lib.countB s ⟨#[c]⟩) s).length = Lib.countB s ⟨#[c]⟩ + 1 := Lib.splitB_all ⟨#[c]⟩ (Nat.le_refl 1) 0 _ s rfl
theorem split_data (s : ByteArray) (c : UInt8) : (Lib.splitB ⟨#[c]⟩ 0 (Lib.countB s ⟨#[c]⟩) s).map (·.data.toList) = parts c s.data.toList := by
  rw [splitB_data, ← split_parts]; rfl
theorem tagRun_drop {ws : List (List UInt8)} {k : Nat} {x : List UInt8} (hx : ws[k]? = some x) (p : Option (List UInt8)) :
    tagRun p (ws.drop k) = (nameB ⟨x.toArray⟩ && prevOk p x && tagRun (some x) (ws.drop (k + 1))) := by
  obtain ⟨h5, h6⟩ := List.getElem?_eq_some_iff.1 hx
  rw [List.drop_eq_getElem_cons h5, h6]; rfl
def prevAt (ws : List (List UInt8)) (k : Nat) : Option (List UInt8) := if k = 0 then none else ws[k - 1]?
def LB (B : Nat) (W : World) (ws : List (List UInt8)) (v : Value) (wr : World) : Prop :=
  ∃ k : Nat, k ≤ ws.length ∧ v = .int .i64 k ∧ Below B W wr ∧ tagRun none ws = tagRun (prevAt ws k) (ws.drop k)
theorem ba_self (x : ByteArray) : (⟨x.data.toList.toArray⟩ : ByteArray) = x := ba_ext rfl
set_option maxHeartbeats 4000000 in
set_option maxRecDepth 100000 in
theorem labels_calls (s : ByteArray) (w : World) (hs : s.size ≤ 1000000) : Calls Tryd.prog 57 #[.string s] w fun e w' => e = .returned (.bool (labelsB s.data.toList)) ∧ Below w.heap.size w w' := by
  by_cases h0 : s.data.toList = []
  · have q0 : s.toList.isEmpty = true := by rw [toList_data, h0]; rfl
    have HE : Hid (labelsB s.data.toList = true) := by unfold Hid labelsB; rw [h0]; rfl
    clear h0
    go_enter Tryd.func57, Tryd.ntmps57
    go_wp2_with fail
    go_ret
    exact ⟨by rw [HE.out]; rfl, Below.refl _ _⟩
  · have q0 : s.toList.isEmpty = false := by rw [toList_data]; simpa using h0
    have HE : Hid (labelsB s.data.toList = tagsB (parts 44 s.data.toList)) := by unfold Hid labelsB; rw [← toList_data, q0, Bool.false_or]
    obtain ⟨ps, hps⟩ : ∃ ps, Lib.splitB ⟨#[44]⟩ 0 (Lib.countB s ⟨#[44]⟩) s = ps := ⟨_, rfl⟩
    have hpd := split_data s 44
    have hpl := split_len s 44
    rw [hps] at hpd hpl
    have hrow := RowAt.split w s 44 9 hps
    have hll := parts_length_le 44 s.data.toList
    rw [← hpd] at hll HE
    simp only [List.length_map] at hll
    have hsl : s.data.toList.length = s.size := by simp
    have HPD := Lib.hid hpd
    clear h0 hpd
    obtain ⟨w1, hw1⟩ : ∃ w1, w1 = w.alloc (.cells (ps.map Value.string).toArray 9) := ⟨_, rfl⟩
    rw [← hw1] at hrow
    have hbw : Below w.heap.size w w1 := by rw [hw1]; exact (Below.refl _ _).alloc (Nat.le_refl _) _
    have HS : Hid (Calls Tryd.prog 79 #[.string s, .string ⟨#[44]⟩] w fun e w' => e = .returned (.slice (some ⟨w.heap.size, 0, none⟩) ps.length ps.length) ∧ w' = w1) := by
      have h := Tryd_Split1 s 44 w (by omega)
      rw [hps, ← hpl, ← hw1] at h
      exact h
    have HROW := Lib.hid hrow
    have HB := Lib.hid hbw
    have hpsn : ps.length ≤ 1000001 := by omega
    clear hps hpl hw1 hrow hbw hsl hll
    go_enter Tryd.func57, Tryd.ntmps57
    go_wp2_with (go_at_call 79; refine HS.out.mono ?_; rintro e w2 ⟨rfl, rfl⟩)
    go_loopw [12] (fun v wr => LB w2.heap.size w2 (ps.map (·.data.toList)) v wr) (fun i _ => ps.length - (intOf i).toNat)
    case atStart => exact ⟨0, Nat.zero_le _, rfl, Below.refl _ _, rfl⟩
    case round =>
      obtain ⟨k, hk, rfl, hb, ht⟩ := hrel
      simp only [List.length_map] at hk
      by_cases hlt : k < ps.length
      · obtain ⟨x, hx⟩ : ∃ x, ps[k]? = some x := ⟨_, List.getElem?_eq_getElem hlt⟩
        have hc := (HROW.out.below hb).2 k x hx
        have hxl : (ps.map (·.data.toList))[k]? = some x.data.toList := by rw [List.getElem?_map, hx]; rfl
        rw [tagRun_drop hxl, ba_self] at ht
        have HT := Lib.hid ht
        clear ht hxl
        have hli : (k : Int) < ps.length := by omega
        have hki : (0 : Int) ≤ k := by omega
        cases hnm : nameB x with
        | false =>
          have HN : Hid (labelsB s.data.toList = false) := by rw [Hid, HE.out]; unfold tagsB; rw [HT.out, hnm]; simp
          go_wp2_with (go_at_call 21; refine (name_calls x _).mono ?_; rintro e y1 ⟨rfl, hb1⟩; rw [hnm])
          go_ret
          exact ⟨by rw [HN.out]; rfl, HB.out.trans ((hb.trans (hb1.mono hb.size)).mono HB.out.size)⟩
        | true =>
          rw [hnm, Bool.true_and] at HT
          rcases Nat.eq_zero_or_pos k with hk0 | hk0
          · subst hk0
            have HNEXT : Hid (tagRun none (ps.map (·.data.toList)) = tagRun (prevAt (ps.map (·.data.toList)) (0 + 1)) ((ps.map (·.data.toList)).drop (0 + 1))) := by
              rw [Hid, HT.out]
              unfold prevAt
              rw [if_pos rfl, if_neg (by omega), show (0 + 1 - 1) = 0 from rfl, List.getElem?_map, hx]
              simp [prevOk]
            go_wp2_with (go_at_call 21; refine (name_calls x _).mono ?_; rintro e y1 ⟨rfl, hb1⟩; rw [hnm])
            go_roundw
            case rel => exact ⟨0 + 1, by simp; omega, rfl, hb.trans (hb1.mono hb.size), HNEXT.out⟩
            case measure => simp [intOf]; omega
          · obtain ⟨m, rfl⟩ : ∃ m, k = m + 1 := ⟨k - 1, by omega⟩
            obtain ⟨y, hy⟩ : ∃ y, ps[m]? = some y := ⟨_, List.getElem?_eq_getElem (by omega)⟩
            have HT2 : Hid (tagRun none (ps.map (·.data.toList)) = (Op.bytesLess y.toList x.toList && tagRun (some x.data.toList) ((ps.map (·.data.toList)).drop (m + 1 + 1)))) := by
              rw [Hid, HT.out]
              unfold prevAt
              rw [if_neg (by omega), Nat.add_sub_cancel, List.getElem?_map, hy]
              simp only [Option.map_some, prevOk, toList_data, less_before]
            have hwm : wrap64 (m : Int) = (m : Int) := IntWalk.wrap64_in _ (by omega)
            have hmt : ((m : Int)).toNat = m := by omega
            have hm0 : (0 : Int) ≤ (m : Int) := by omega
            have hml : (m : Int) < ps.length := by omega
            clear HT hk0
            cases hlb : Op.bytesLess y.toList x.toList with
            | false =>
              have HN : Hid (labelsB s.data.toList = false) := by rw [Hid, HE.out]; unfold tagsB; rw [HT2.out, hlb]; simp
              rcases not_less hlb with ⟨hq, hq2⟩ | ⟨hq, hq2⟩
              all_goals
                go_wp2_with (go_at_call 21; refine (name_calls x _).mono ?_; rintro e y1 ⟨rfl, hb1⟩; have hcm := (HROW.out.below (hb.trans (hb1.mono hb.size))).2 m y hy; rw [hnm])
                go_ret
                exact ⟨by rw [HN.out]; rfl, HB.out.trans ((hb.trans (hb1.mono hb.size)).mono HB.out.size)⟩
            | true =>
              obtain ⟨hq, hq2⟩ := less_not hlb
              have HNEXT : Hid (tagRun none (ps.map (·.data.toList)) = tagRun (prevAt (ps.map (·.data.toList)) (m + 1 + 1)) ((ps.map (·.data.toList)).drop (m + 1 + 1))) := by
                rw [Hid, HT2.out, hlb, Bool.true_and]
                unfold prevAt
                rw [if_neg (by omega), Nat.add_sub_cancel, List.getElem?_map, hx]; rfl
              go_wp2_with (go_at_call 21; refine (name_calls x _).mono ?_; rintro e y1 ⟨rfl, hb1⟩; have hcm := (HROW.out.below (hb.trans (hb1.mono hb.size))).2 m y hy; rw [hnm])
              go_roundw
              case rel => exact ⟨m + 1 + 1, by simp; omega, rfl, hb.trans (hb1.mono hb.size), HNEXT.out⟩
              case measure => simp [intOf]; omega
      · have hke : k = ps.length := by omega
        have HF : Hid (labelsB s.data.toList = decide ((ps.length : Int) ≤ 8)) := by
          rw [Hid, HE.out]; unfold tagsB
          rw [ht, List.drop_of_length_le (by simp; omega)]
          simp only [tagRun, Bool.true_and, List.length_map]
          rw [Bool.eq_iff_iff]; simp only [decide_eq_true_eq]; omega
        clear ht
        go_wp2_with fail
        go_ret
        exact ⟨by rw [HF.out]; rfl, HB.out.trans (hb.mono HB.out.size)⟩
theorem cutL_len (c : UInt8) : ∀ s : List UInt8, (cutL c s).2.1.length ≤ s.length
  | [] => by simp [cutL]
  | b :: r => by
    unfold cutL
    split
    · simp
    · have := cutL_len c r
      simp only [List.length_cons]; omega
theorem below_drewN {B : Nat} {a w : World} (h : Below B a w) (n : Nat) : Below B a (w.drewN n) := ⟨h.os, h.tape, h.output, h.size, h.block⟩
set_option maxHeartbeats 4000000 in
set_option maxRecDepth 100000 in
theorem goods_loop (s M T : ByteArray) (w : World) (HC : ∀ W, Calls Tryd.prog 55 #[.string s, .string ⟨#[59]⟩] W fun e w' => e = .returned (.tuple #[.string M, .string T, .bool true]) ∧ ∃ n, w' = W.drewN n)
    (hnmM : nameB M = true) (q0 : T.toList.isEmpty = false) (hE : goodsB s.data.toList = tagsB (parts 44 T.data.toList)) (hs : T.size ≤ 1000000) :
    Calls Tryd.prog 74 #[.string s] w fun e w' => e = .returned (.bool (goodsB s.data.toList)) ∧ Below w.heap.size w w' := by
  have HCUT := Lib.hid HC
  have HE := Lib.hid hE
  have HNMM := Lib.hid hnmM
  clear HC hE hnmM
  go_enter Tryd.func74, Tryd.ntmps74
  go_wp2_with (first
    | (go_at_call 55; refine (HCUT.out _).mono ?_; rintro e y0 ⟨rfl, n0, rfl⟩)
    | (go_at_call 21; refine (name_calls M _).mono ?_; rintro e w0 ⟨rfl, hb1⟩; rw [HNMM.out]; refine Hid.out ?_)
    | fail)
  refine Lib.hid ?_
  have HB0 : Hid (Below w.heap.size w w0) := (below_drewN (Below.refl _ _) n0).trans (hb1.mono (by simp))
  clear hb1
  obtain ⟨ps, hps⟩ : ∃ ps, Lib.splitB ⟨#[44]⟩ 0 (Lib.countB T ⟨#[44]⟩) T = ps := ⟨_, rfl⟩
  have hpd := split_data T 44
  have hpl := split_len T 44
  rw [hps] at hpd hpl
  have hrow := RowAt.split w0 T 44 9 hps
  have hll := parts_length_le 44 T.data.toList
  rw [← hpd] at hll HE
  simp only [List.length_map] at hll
  have hsl : T.data.toList.length = T.size := by simp
  have HPD := Lib.hid hpd
  clear hpd
  obtain ⟨w1, hw1⟩ : ∃ w1, w1 = w0.alloc (.cells (ps.map Value.string).toArray 9) := ⟨_, rfl⟩
  rw [← hw1] at hrow
  have hbw : Below w0.heap.size w0 w1 := by rw [hw1]; exact (Below.refl _ _).alloc (Nat.le_refl _) _
  have HS : Hid (Calls Tryd.prog 79 #[.string T, .string ⟨#[44]⟩] w0 fun e w' => e = .returned (.slice (some ⟨w0.heap.size, 0, none⟩) ps.length ps.length) ∧ w' = w1) := by
    have h := Tryd_Split1 T 44 w0 (by omega)
    rw [hps, ← hpl, ← hw1] at h
    exact h
  have HROW := Lib.hid hrow
  have HB := Lib.hid hbw
  have hpsn : ps.length ≤ 1000001 := by omega
  clear hps hpl hw1 hrow hbw hsl hll
  go_wp2_with (go_at_call 79; refine HS.out.mono ?_; rintro e w2 ⟨rfl, rfl⟩)
  go_loopw [28] (fun v wr => LB w2.heap.size w2 (ps.map (·.data.toList)) v wr) (fun i _ => ps.length - (intOf i).toNat)
  case atStart => exact ⟨0, Nat.zero_le _, rfl, Below.refl _ _, rfl⟩
  case round =>
    obtain ⟨k, hk, rfl, hb, ht⟩ := hrel
    simp only [List.length_map] at hk
    by_cases hlt : k < ps.length
    · obtain ⟨x, hx⟩ : ∃ x, ps[k]? = some x := ⟨_, List.getElem?_eq_getElem hlt⟩
      have hc := (HROW.out.below hb).2 k x hx
      have hxl : (ps.map (·.data.toList))[k]? = some x.data.toList := by rw [List.getElem?_map, hx]; rfl
      rw [tagRun_drop hxl, ba_self] at ht
      have HT := Lib.hid ht
      clear ht hxl
      have hli : (k : Int) < ps.length := by omega
      have hki : (0 : Int) ≤ k := by omega
      cases hnm : nameB x with
      | false =>
        have HN : Hid (goodsB s.data.toList = false) := by rw [Hid, HE.out]; unfold tagsB; rw [HT.out, hnm]; simp
        go_wp2_with (go_at_call 21; refine (name_calls x _).mono ?_; rintro e y1 ⟨rfl, hb1⟩; rw [hnm])
        go_ret
        exact ⟨by rw [HN.out]; rfl, HB0.out.trans ((HB.out.trans ((hb.trans (hb1.mono hb.size)).mono HB.out.size)).mono HB0.out.size)⟩
      | true =>
        rw [hnm, Bool.true_and] at HT
        rcases Nat.eq_zero_or_pos k with hk0 | hk0
        · subst hk0
          have HNEXT : Hid (tagRun none (ps.map (·.data.toList)) = tagRun (prevAt (ps.map (·.data.toList)) (0 + 1)) ((ps.map (·.data.toList)).drop (0 + 1))) := by
            rw [Hid, HT.out]
            unfold prevAt
            rw [if_pos rfl, if_neg (by omega), show (0 + 1 - 1) = 0 from rfl, List.getElem?_map, hx]
            simp [prevOk]
          go_wp2_with (go_at_call 21; refine (name_calls x _).mono ?_; rintro e y1 ⟨rfl, hb1⟩; rw [hnm])
          go_roundw
          case rel => exact ⟨0 + 1, by simp; omega, rfl, hb.trans (hb1.mono hb.size), HNEXT.out⟩
          case measure => simp [intOf]; omega
        · obtain ⟨m, rfl⟩ : ∃ m, k = m + 1 := ⟨k - 1, by omega⟩
          obtain ⟨y, hy⟩ : ∃ y, ps[m]? = some y := ⟨_, List.getElem?_eq_getElem (by omega)⟩
          have HT2 : Hid (tagRun none (ps.map (·.data.toList)) = (Op.bytesLess y.toList x.toList && tagRun (some x.data.toList) ((ps.map (·.data.toList)).drop (m + 1 + 1)))) := by
            rw [Hid, HT.out]
            unfold prevAt
            rw [if_neg (by omega), Nat.add_sub_cancel, List.getElem?_map, hy]
            simp only [Option.map_some, prevOk, toList_data, less_before]
          have hwm : wrap64 (m : Int) = (m : Int) := IntWalk.wrap64_in _ (by omega)
          have hmt : ((m : Int)).toNat = m := by omega
          have hm0 : (0 : Int) ≤ (m : Int) := by omega
          have hml : (m : Int) < ps.length := by omega
          clear HT hk0
          cases hlb : Op.bytesLess y.toList x.toList with
          | false =>
            have HN : Hid (goodsB s.data.toList = false) := by rw [Hid, HE.out]; unfold tagsB; rw [HT2.out, hlb]; simp
            rcases not_less hlb with ⟨hq, hq2⟩ | ⟨hq, hq2⟩
            all_goals
              go_wp2_with (go_at_call 21; refine (name_calls x _).mono ?_; rintro e y1 ⟨rfl, hb1⟩; have hcm := (HROW.out.below (hb.trans (hb1.mono hb.size))).2 m y hy; rw [hnm])
              go_ret
              exact ⟨by rw [HN.out]; rfl, HB0.out.trans ((HB.out.trans ((hb.trans (hb1.mono hb.size)).mono HB.out.size)).mono HB0.out.size)⟩
          | true =>
            obtain ⟨hq, hq2⟩ := less_not hlb
            have HNEXT : Hid (tagRun none (ps.map (·.data.toList)) = tagRun (prevAt (ps.map (·.data.toList)) (m + 1 + 1)) ((ps.map (·.data.toList)).drop (m + 1 + 1))) := by
              rw [Hid, HT2.out, hlb, Bool.true_and]
              unfold prevAt
              rw [if_neg (by omega), Nat.add_sub_cancel, List.getElem?_map, hx]; rfl
            go_wp2_with (go_at_call 21; refine (name_calls x _).mono ?_; rintro e y1 ⟨rfl, hb1⟩; have hcm := (HROW.out.below (hb.trans (hb1.mono hb.size))).2 m y hy; rw [hnm])
            go_roundw
            case rel => exact ⟨m + 1 + 1, by simp; omega, rfl, hb.trans (hb1.mono hb.size), HNEXT.out⟩
            case measure => simp [intOf]; omega
    · have hke : k = ps.length := by omega
      have HF : Hid (goodsB s.data.toList = decide ((ps.length : Int) ≤ 8)) := by
        rw [Hid, HE.out]; unfold tagsB
        rw [ht, List.drop_of_length_le (by simp; omega)]
        simp only [tagRun, Bool.true_and, List.length_map]
        rw [Bool.eq_iff_iff]; simp only [decide_eq_true_eq]; omega
      clear ht
      go_wp2_with fail
      go_ret
      exact ⟨by rw [HF.out]; rfl, HB0.out.trans ((HB.out.trans (hb.mono HB.out.size)).mono HB0.out.size)⟩
set_option maxHeartbeats 4000000 in
set_option maxRecDepth 100000 in
theorem goods_calls (s : ByteArray) (w : World) (hs : s.size ≤ 1000000) : Calls Tryd.prog 74 #[.string s] w fun e w' => e = .returned (.bool (goodsB s.data.toList)) ∧ Below w.heap.size w w' := by
  obtain ⟨M, hM⟩ : ∃ M : ByteArray, (⟨(cutL 59 s.data.toList).1.toArray⟩ : ByteArray) = M := ⟨_, rfl⟩
  obtain ⟨T, hT⟩ : ∃ T : ByteArray, (⟨(cutL 59 s.data.toList).2.1.toArray⟩ : ByteArray) = T := ⟨_, rfl⟩
  obtain ⟨f, hf⟩ : ∃ f : Bool, (cutL 59 s.data.toList).2.2 = f := ⟨_, rfl⟩
  have HC := fun W => cut_calls s 59 W (by omega)
  rw [hM, hT, hf] at HC
  have HCUT := Lib.hid HC
  have HG : Hid (goodsB s.data.toList = (f && nameB M && labelsB T.data.toList)) := by
    unfold Hid goodsB
    rw [hM, hf, ← hT]
  have hTl : T.data.toList.length ≤ s.data.toList.length := by rw [← hT]; exact cutL_len 59 _
  have hsl : s.data.toList.length = s.size := by simp
  have htl : T.data.toList.length = T.size := by simp
  clear hM hT hf HC
  cases f with
  | false =>
    have HN : Hid (goodsB s.data.toList = false) := by rw [Hid, HG.out]; rfl
    go_enter Tryd.func74, Tryd.ntmps74
    go_wp2_with (go_at_call 55; refine (HCUT.out _).mono ?_; rintro e y0 ⟨rfl, n0, rfl⟩)
    go_ret
    exact ⟨by rw [HN.out]; rfl, below_drewN (Below.refl _ _) _⟩
  | true =>
    cases hnm : nameB M with
    | false =>
      have HN : Hid (goodsB s.data.toList = false) := by rw [Hid, HG.out, hnm]; rfl
      go_enter Tryd.func74, Tryd.ntmps74
      go_wp2_with (first
        | (go_at_call 55; refine (HCUT.out _).mono ?_; rintro e y0 ⟨rfl, n0, rfl⟩)
        | (go_at_call 21; refine (name_calls M _).mono ?_; rintro e y1 ⟨rfl, hb1⟩; rw [hnm]))
      go_ret
      exact ⟨by rw [HN.out]; rfl, (below_drewN (Below.refl _ _) _).trans (hb1.mono (by simp))⟩
    | true =>
      rw [hnm] at HG
      simp only [Bool.true_and] at HG
      by_cases h0 : T.data.toList = []
      · have q0 : T.toList.isEmpty = true := by rw [toList_data, h0]; rfl
        have HE : Hid (goodsB s.data.toList = true) := by rw [Hid, HG.out]; unfold labelsB; rw [h0]; rfl
        clear h0
        go_enter Tryd.func74, Tryd.ntmps74
        go_wp2_with (first
          | (go_at_call 55; refine (HCUT.out _).mono ?_; rintro e y0 ⟨rfl, n0, rfl⟩)
          | (go_at_call 21; refine (name_calls M _).mono ?_; rintro e y1 ⟨rfl, hb1⟩; rw [hnm]))
        go_ret
        exact ⟨by rw [HE.out]; rfl, (below_drewN (Below.refl _ _) _).trans (hb1.mono (by simp))⟩
      · have q0 : T.toList.isEmpty = false := by rw [toList_data]; simpa using h0
        have HE : Hid (goodsB s.data.toList = tagsB (parts 44 T.data.toList)) := by rw [Hid, HG.out]; unfold labelsB; rw [← toList_data, q0, Bool.false_or]
        clear h0
        exact goods_loop s M T w HCUT.out hnm q0 HE.out (by omega)
end Go.Proofs.YtgpadcokcdpmnaaDoor.Fd
end
section
namespace Go.Proofs.YtgpadcokcdpmnaaDoor.Fd
open Go Go.RowKit Go.Maps Go.Shelf Go.Lib
set_option linter.unusedVariables false
set_option linter.unusedSimpArgs false
structure Ev where
  src : ByteArray
  num : Int
  at_ : Int
  kind : Int
  person : ByteArray
  item : ByteArray
  value : Int
  text : ByteArray
structure Asks where
  person : Bool
  item : Bool
  maker : Bool
  goods : Bool
  least : Int
  most : Int
  ok : Bool
def asksOf (k : Int) : Asks :=
  if k = 0 ∨ k = 1 ∨ k = 2 ∨ k = 3 ∨ k = 5 ∨ k = 6 then ⟨true, true, false, false, 0, 0, true⟩
  else if k = 4 then ⟨true, true, false, false, 1, 5, true⟩
  else if k = 7 ∨ k = 8 ∨ k = 9 ∨ k = 10 then ⟨true, false, true, false, 0, 0, true⟩
  else if k = 11 then ⟨false, true, false, true, 0, 1048576, true⟩
  else if k = 12 then ⟨false, true, false, false, 0, 1048576, true⟩
  else if k = 13 then ⟨false, true, false, false, 0, 0, true⟩
  else if k = 14 then ⟨true, false, false, false, 0, 0, true⟩
  else ⟨false, false, false, false, 0, 0, false⟩
def inB (n lo hi : Int) : Bool := decide (lo ≤ n) && decide (n ≤ hi)
def namedB (s : ByteArray) (a : Bool) : Bool := if a then nameB s else s.toList.isEmpty
def mayB (e : Ev) : Bool :=
  (asksOf e.kind).ok && nameB e.src && inB e.num 1 1099511627776 && inB e.at_ 0 1099511627776 && inB e.value (asksOf e.kind).least (asksOf e.kind).most &&
    (namedB e.person (asksOf e.kind).person && namedB e.item (asksOf e.kind).item && (if (asksOf e.kind).goods then goodsB e.text.data.toList else namedB e.text (asksOf e.kind).maker))
def ownB (e : Ev) : Bool := mayB e && (decide (e.kind = 11) || decide (e.kind = 12) || decide (e.kind = 13))
theorem within_calls (n lo hi : Int) (w : World) : Calls Tryd.prog 72 #[.int .i64 n, .int .i64 lo, .int .i64 hi] w fun e w' => e = .returned (.bool (inB n lo hi)) ∧ w = w' := by
  have H : Hid (inB n lo hi = (decide (lo ≤ n) && decide (n ≤ hi))) := rfl
  by_cases h1 : lo ≤ n <;> by_cases h2 : n ≤ hi
  all_goals
    go_enter Tryd.func72, Tryd.ntmps72
    go_wp2_with fail
    go_ret
    exact ⟨by rw [H.out]; simp [h1, h2], rfl⟩
theorem named_calls (s : ByteArray) (a : Bool) (w : World) : Calls Tryd.prog 73 #[.string s, .bool a] w fun e w' => e = .returned (.bool (namedB s a)) ∧ Below w.heap.size w w' := by
  cases a with
  | true =>
    have H : Hid (namedB s true = nameB s) := rfl
    cases hn : nameB s
    all_goals
      go_enter Tryd.func73, Tryd.ntmps73
      go_wp2_with (go_at_call 21; refine (name_calls s _).mono ?_; rintro e w' ⟨rfl, hb⟩; rw [hn])
      go_ret
      exact ⟨by rw [H.out, hn]; rfl, hb⟩
  | false =>
    have H : Hid (namedB s false = s.toList.isEmpty) := rfl
    cases hn : s.toList.isEmpty
    all_goals
      go_enter Tryd.func73, Tryd.ntmps73
      go_wp2_with fail
      go_ret
      exact ⟨by rw [H.out, hn]; rfl, Below.refl _ _⟩
set_option maxHeartbeats 4000000 in
theorem row_calls (k : Int) (w : World) : Calls Tryd.prog 71 #[.int .i64 k] w fun e w' =>
    e = .returned (.tuple #[.agg #[.bool (asksOf k).person, .bool (asksOf k).item, .bool (asksOf k).maker, .bool (asksOf k).goods, .int .i64 (asksOf k).least, .int .i64 (asksOf k).most], .bool (asksOf k).ok]) ∧ Below w.heap.size w w' := by
  have hfin : k = 0 ∨ k = 1 ∨ k = 2 ∨ k = 3 ∨ k = 4 ∨ k = 5 ∨ k = 6 ∨ k = 7 ∨ k = 8 ∨ k = 9 ∨ k = 10 ∨ k = 11 ∨ k = 12 ∨ k = 13 ∨ k = 14 ∨ (k ≠ 0 ∧ k ≠ 1 ∧ k ≠ 2 ∧ k ≠ 3 ∧ k ≠ 4 ∧ k ≠ 5 ∧ k ≠ 6 ∧ k ≠ 7 ∧ k ≠ 8 ∧ k ≠ 9 ∧ k ≠ 10 ∧ k ≠ 11 ∧ k ≠ 12 ∧ k ≠ 13 ∧ k ≠ 14) := by omega
  rcases hfin with rfl | rfl | rfl | rfl | rfl | rfl | rfl | rfl | rfl | rfl | rfl | rfl | rfl | rfl | rfl | ⟨h0, h1, h2, h3, h4, h5, h6, h7, h8, h9, h10, h11, h12, h13, h14⟩
  case inr.inr.inr.inr.inr.inr.inr.inr.inr.inr.inr.inr.inr.inr.inr =>
    have HA : Hid (asksOf k = ⟨false, false, false, false, 0, 0, false⟩) := by
      unfold Hid asksOf
      rw [if_neg (by omega), if_neg h4, if_neg (by omega), if_neg h11, if_neg h12, if_neg h13, if_neg h14]
    have b0 : (k == 0) = false := beq_eq_false_iff_ne.2 h0
    have b1 : (k == 1) = false := beq_eq_false_iff_ne.2 h1
    have b2 : (k == 2) = false := beq_eq_false_iff_ne.2 h2
    have b3 : (k == 3) = false := beq_eq_false_iff_ne.2 h3
    have b4 : (k == 4) = false := beq_eq_false_iff_ne.2 h4
    have b5 : (k == 5) = false := beq_eq_false_iff_ne.2 h5
    have b6 : (k == 6) = false := beq_eq_false_iff_ne.2 h6
    have b7 : (k == 7) = false := beq_eq_false_iff_ne.2 h7
    have b8 : (k == 8) = false := beq_eq_false_iff_ne.2 h8
    have b9 : (k == 9) = false := beq_eq_false_iff_ne.2 h9
    have b10 : (k == 10) = false := beq_eq_false_iff_ne.2 h10
    have b11 : (k == 11) = false := beq_eq_false_iff_ne.2 h11
    have b12 : (k == 12) = false := beq_eq_false_iff_ne.2 h12
    have b13 : (k == 13) = false := beq_eq_false_iff_ne.2 h13
    have b14 : (k == 14) = false := beq_eq_false_iff_ne.2 h14
    clear h0 h1 h2 h3 h4 h5 h6 h7 h8 h9 h10 h11 h12 h13 h14
    go_enter Tryd.func71, Tryd.ntmps71
    go_wp2_with fail
    (try simp only [Exit.inBlock, Exit.then])
    refine ⟨rfl, _, (by rw [results_cell_tmp rfl]; go_simp; rfl), ?_⟩
    exact ⟨by rw [HA.out], (Below.refl _ _).alloc (Nat.le_refl _) _⟩
  all_goals
    go_enter Tryd.func71, Tryd.ntmps71
    go_wp2_with fail
    (try simp only [Exit.inBlock, Exit.then])
    refine ⟨rfl, _, (by rw [results_cell_tmp rfl]; go_simp; rfl), ?_⟩
    exact ⟨rfl, (Below.refl _ _).alloc (Nat.le_refl _) _⟩
end Go.Proofs.YtgpadcokcdpmnaaDoor.Fd
end
section
namespace Go.Proofs.YtgpadcokcdpmnaaDoor.Fd
open Go Go.RowKit Go.Maps Go.Shelf Go.Lib
set_option linter.unusedVariables false
set_option linter.unusedSimpArgs false
def Ev.cells (e : Ev) : Array Value := #[.string e.src, .int .i64 e.num, .int .i64 e.at_, .int .i64 e.kind, .string e.person, .string e.item, .int .i64 e.value, .string e.text]
def Ev.val (e : Ev) : Value := .agg e.cells
def EvAt (w : World) (q : Nat) (e : Ev) : Prop := w.heap[q]? = some (.cells e.cells 37 (0, 0))
theorem EvAt.facts {w : World} {q : Nat} {e : Ev} (h : EvAt w q e) :
    w.cell? ⟨q, 0, none⟩ = some (.string e.src) ∧ w.cell? ⟨q, 1, none⟩ = some (.int .i64 e.num) ∧ w.cell? ⟨q, 2, none⟩ = some (.int .i64 e.at_) ∧ w.cell? ⟨q, 3, none⟩ = some (.int .i64 e.kind) ∧
    w.cell? ⟨q, 4, none⟩ = some (.string e.person) ∧ w.cell? ⟨q, 5, none⟩ = some (.string e.item) ∧ w.cell? ⟨q, 6, none⟩ = some (.int .i64 e.value) ∧ w.cell? ⟨q, 7, none⟩ = some (.string e.text) := by
  unfold EvAt Ev.cells at h
  simp only [World.cell?, h]
  simp
theorem EvAt.below {w w' : World} {q : Nat} {e : Ev} (h : EvAt w q e) (hb : Below w.heap.size w w') : EvAt w' q e := (hb.block q (Array.getElem?_eq_some_iff.1 h).1).trans h
theorem EvAt.new (w : World) (e : Ev) : EvAt (w.alloc (.cells e.cells 37)) w.heap.size e := heap_alloc_new w _
def AskAt (w : World) (q : Nat) (a : Asks) : Prop := w.heap[q]? = some (.cells #[.bool a.person, .bool a.item, .bool a.maker, .bool a.goods, .int .i64 a.least, .int .i64 a.most] 108 (0, 0))
theorem AskAt.facts {w : World} {q : Nat} {a : Asks} (h : AskAt w q a) :
    w.cell? ⟨q, 0, none⟩ = some (.bool a.person) ∧ w.cell? ⟨q, 1, none⟩ = some (.bool a.item) ∧ w.cell? ⟨q, 2, none⟩ = some (.bool a.maker) ∧ w.cell? ⟨q, 3, none⟩ = some (.bool a.goods) ∧
    w.cell? ⟨q, 4, none⟩ = some (.int .i64 a.least) ∧ w.cell? ⟨q, 5, none⟩ = some (.int .i64 a.most) := by
  unfold AskAt at h
  simp only [World.cell?, h]
  simp
theorem AskAt.below {w w' : World} {q : Nat} {a : Asks} (h : AskAt w q a) (hb : Below w.heap.size w w') : AskAt w' q a := (hb.block q (Array.getElem?_eq_some_iff.1 h).1).trans h
theorem AskAt.new (w : World) (a : Asks) : AskAt (w.alloc (.cells #[.bool a.person, .bool a.item, .bool a.maker, .bool a.goods, .int .i64 a.least, .int .i64 a.most] 108)) w.heap.size a := heap_alloc_new w _
set_option maxHeartbeats 8000000 in
set_option maxRecDepth 100000 in
theorem may_calls (e : Ev) (w : World) (ht : e.text.size ≤ 1000000) : Calls Tryd.prog 49 #[e.val] w fun r w' => r = .returned (.bool (mayB e)) ∧ Below w.heap.size w w' := by
  have HM : Hid (mayB e = ((asksOf e.kind).ok && nameB e.src && inB e.num 1 1099511627776 && inB e.at_ 0 1099511627776 && inB e.value (asksOf e.kind).least (asksOf e.kind).most &&
    (namedB e.person (asksOf e.kind).person && namedB e.item (asksOf e.kind).item && (if (asksOf e.kind).goods then goodsB e.text.data.toList else namedB e.text (asksOf e.kind).maker)))) := rfl
  have HROW := fun W => row_calls e.kind W
  have HT := Lib.hid ht
  obtain ⟨a, ha⟩ : ∃ a, asksOf e.kind = a := ⟨_, rfl⟩
  rw [ha] at HM HROW
  have HR := Lib.hid HROW
  have HEN := EvAt.new w e
  have HEV : Hid (∀ Y, Below (w.alloc (.cells e.cells 37)).heap.size (w.alloc (.cells e.cells 37)) Y → EvAt Y w.heap.size e) := fun Y hY => HEN.below hY
  clear ha HROW HEN ht
  have HW0 : Hid (Below w.heap.size w (w.alloc (.cells e.cells 37))) := (Below.refl _ _).alloc (Nat.le_refl _) _
  unfold Ev.val Ev.cells
  obtain ⟨ap, ai, am, ag, al, ah, ao⟩ := a
  dsimp only at HM HR
  have hfe := (HEV.out _ (Below.refl _ _)).facts
  unfold Ev.cells at HEV HW0 hfe
  cases ao with
  | false =>
    go_enter Tryd.func49, Tryd.ntmps49
    go_wp2_with (first
      | (go_at_call 71; with_reducible refine (HR.out _).mono ?_; rintro r y ⟨rfl, hb⟩; have hbe := Lib.hid hb; have HBC := Lib.hid (HW0.out.trans (hb.mono HW0.out.size)); clear hfe; obtain ⟨hx0, hx1, hx2, hx3, hx4, hx5, hx6, hx7⟩ := (HEV.out _ (hb.alloc hb.size (.cells #[.bool ap, .bool ai, .bool am, .bool ag, .int .i64 al, .int .i64 ah] 108))).facts)
      | (go_at_call 21; with_reducible refine (name_calls e.src _).mono ?_; rintro r y1 ⟨rfl, hb1⟩; have HB1 := Lib.hid ((HBC.out.alloc HBC.out.size _).trans (hb1.mono (HBC.out.alloc HBC.out.size _).size)); have hbe1 := Lib.hid ((hbe.out.alloc hbe.out.size _).trans (hb1.mono (hbe.out.alloc hbe.out.size _).size)); clear hx0 hx1 hx2 hx3 hx4 hx5 hx6 hx7; obtain ⟨hx0, hx1, hx2, hx3, hx4, hx5, hx6, hx7⟩ := (HEV.out _ hbe1.out).facts; have HA1 := Lib.hid ((AskAt.new y ⟨ap, ai, am, ag, al, ah, true⟩).below hb1); have hfa1 := HA1.out.facts; dsimp only at hfa1; obtain ⟨ha0, ha1, ha2, ha3, ha4, ha5⟩ := hfa1; clear hb1; rw [hn])
      | (go_at_call 72; with_reducible refine (within_calls e.num 1 1099511627776 _).mono ?_; rintro r y2 ⟨rfl, rfl⟩; rw [h1])
      | (go_at_call 72; with_reducible refine (within_calls e.at_ 0 1099511627776 _).mono ?_; rintro r y2 ⟨rfl, rfl⟩; rw [h2])
      | (go_at_call 72; with_reducible refine (within_calls e.value al ah _).mono ?_; rintro r y2 ⟨rfl, rfl⟩; rw [h3])
      | (go_at_call 73; with_reducible refine (named_calls e.person ap _).mono ?_; rintro r y3 ⟨rfl, hb3⟩; have HB3 := Lib.hid (HB1.out.trans (hb3.mono HB1.out.size)); have hbe3 := Lib.hid (hbe1.out.trans (hb3.mono hbe1.out.size)); clear hx0 hx1 hx2 hx3 hx4 hx5 hx6 hx7 ha0 ha1 ha2 ha3 ha4 ha5; obtain ⟨hx0, hx1, hx2, hx3, hx4, hx5, hx6, hx7⟩ := (HEV.out _ hbe3.out).facts; have HA3 := Lib.hid (HA1.out.below hb3); have hfa3 := HA3.out.facts; dsimp only at hfa3; obtain ⟨ha0, ha1, ha2, ha3, ha4, ha5⟩ := hfa3; clear hb3; rw [h4])
      | (go_at_call 73; with_reducible refine (named_calls e.item ai _).mono ?_; rintro r y4 ⟨rfl, hb4⟩; have HB4 := Lib.hid (HB3.out.trans (hb4.mono HB3.out.size)); have hbe4 := Lib.hid (hbe3.out.trans (hb4.mono hbe3.out.size)); clear hx0 hx1 hx2 hx3 hx4 hx5 hx6 hx7 ha0 ha1 ha2 ha3 ha4 ha5; obtain ⟨hx0, hx1, hx2, hx3, hx4, hx5, hx6, hx7⟩ := (HEV.out _ hbe4.out).facts; have HA4 := Lib.hid (HA3.out.below hb4); have hfa4 := HA4.out.facts; dsimp only at hfa4; obtain ⟨ha0, ha1, ha2, ha3, ha4, ha5⟩ := hfa4; clear hb4; rw [h5])
      | (go_at_call 74; with_reducible refine (goods_calls e.text _ HT.out).mono ?_; rintro r y5 ⟨rfl, hb5⟩; have HB5 := Lib.hid (HB4.out.trans (hb5.mono HB4.out.size)))
      | (go_at_call 73; with_reducible refine (named_calls e.text am _).mono ?_; rintro r y5 ⟨rfl, hb5⟩; have HB5 := Lib.hid (HB4.out.trans (hb5.mono HB4.out.size)))
      | fail)
    go_ret
    exact ⟨by rw [HM.out]; first | rfl | (simp; done) | (simp [*]; done), HBC.out.alloc HBC.out.size _⟩
  | true =>
    cases hn : nameB e.src with
    | false =>
      rw [hn] at HM
      go_enter Tryd.func49, Tryd.ntmps49
      go_wp2_with (first
        | (go_at_call 71; with_reducible refine (HR.out _).mono ?_; rintro r y ⟨rfl, hb⟩; have hbe := Lib.hid hb; have HBC := Lib.hid (HW0.out.trans (hb.mono HW0.out.size)); clear hfe; obtain ⟨hx0, hx1, hx2, hx3, hx4, hx5, hx6, hx7⟩ := (HEV.out _ (hb.alloc hb.size (.cells #[.bool ap, .bool ai, .bool am, .bool ag, .int .i64 al, .int .i64 ah] 108))).facts)
        | (go_at_call 21; with_reducible refine (name_calls e.src _).mono ?_; rintro r y1 ⟨rfl, hb1⟩; have HB1 := Lib.hid ((HBC.out.alloc HBC.out.size _).trans (hb1.mono (HBC.out.alloc HBC.out.size _).size)); have hbe1 := Lib.hid ((hbe.out.alloc hbe.out.size _).trans (hb1.mono (hbe.out.alloc hbe.out.size _).size)); clear hx0 hx1 hx2 hx3 hx4 hx5 hx6 hx7; obtain ⟨hx0, hx1, hx2, hx3, hx4, hx5, hx6, hx7⟩ := (HEV.out _ hbe1.out).facts; have HA1 := Lib.hid ((AskAt.new y ⟨ap, ai, am, ag, al, ah, true⟩).below hb1); have hfa1 := HA1.out.facts; dsimp only at hfa1; obtain ⟨ha0, ha1, ha2, ha3, ha4, ha5⟩ := hfa1; clear hb1; rw [hn])
        | (go_at_call 72; with_reducible refine (within_calls e.num 1 1099511627776 _).mono ?_; rintro r y2 ⟨rfl, rfl⟩; rw [h1])
        | (go_at_call 72; with_reducible refine (within_calls e.at_ 0 1099511627776 _).mono ?_; rintro r y2 ⟨rfl, rfl⟩; rw [h2])
        | (go_at_call 72; with_reducible refine (within_calls e.value al ah _).mono ?_; rintro r y2 ⟨rfl, rfl⟩; rw [h3])
        | (go_at_call 73; with_reducible refine (named_calls e.person ap _).mono ?_; rintro r y3 ⟨rfl, hb3⟩; have HB3 := Lib.hid (HB1.out.trans (hb3.mono HB1.out.size)); have hbe3 := Lib.hid (hbe1.out.trans (hb3.mono hbe1.out.size)); clear hx0 hx1 hx2 hx3 hx4 hx5 hx6 hx7 ha0 ha1 ha2 ha3 ha4 ha5; obtain ⟨hx0, hx1, hx2, hx3, hx4, hx5, hx6, hx7⟩ := (HEV.out _ hbe3.out).facts; have HA3 := Lib.hid (HA1.out.below hb3); have hfa3 := HA3.out.facts; dsimp only at hfa3; obtain ⟨ha0, ha1, ha2, ha3, ha4, ha5⟩ := hfa3; clear hb3; rw [h4])
        | (go_at_call 73; with_reducible refine (named_calls e.item ai _).mono ?_; rintro r y4 ⟨rfl, hb4⟩; have HB4 := Lib.hid (HB3.out.trans (hb4.mono HB3.out.size)); have hbe4 := Lib.hid (hbe3.out.trans (hb4.mono hbe3.out.size)); clear hx0 hx1 hx2 hx3 hx4 hx5 hx6 hx7 ha0 ha1 ha2 ha3 ha4 ha5; obtain ⟨hx0, hx1, hx2, hx3, hx4, hx5, hx6, hx7⟩ := (HEV.out _ hbe4.out).facts; have HA4 := Lib.hid (HA3.out.below hb4); have hfa4 := HA4.out.facts; dsimp only at hfa4; obtain ⟨ha0, ha1, ha2, ha3, ha4, ha5⟩ := hfa4; clear hb4; rw [h5])
        | (go_at_call 74; with_reducible refine (goods_calls e.text _ HT.out).mono ?_; rintro r y5 ⟨rfl, hb5⟩; have HB5 := Lib.hid (HB4.out.trans (hb5.mono HB4.out.size)))
        | (go_at_call 73; with_reducible refine (named_calls e.text am _).mono ?_; rintro r y5 ⟨rfl, hb5⟩; have HB5 := Lib.hid (HB4.out.trans (hb5.mono HB4.out.size)))
        | fail)
      go_ret
      exact ⟨by rw [HM.out]; first | rfl | (simp; done) | (simp [*]; done), HB1.out⟩
    | true =>
      rw [hn] at HM
      cases h1 : inB e.num 1 1099511627776 with
      | false =>
        rw [h1] at HM
        go_enter Tryd.func49, Tryd.ntmps49
        go_wp2_with (first
          | (go_at_call 71; with_reducible refine (HR.out _).mono ?_; rintro r y ⟨rfl, hb⟩; have hbe := Lib.hid hb; have HBC := Lib.hid (HW0.out.trans (hb.mono HW0.out.size)); clear hfe; obtain ⟨hx0, hx1, hx2, hx3, hx4, hx5, hx6, hx7⟩ := (HEV.out _ (hb.alloc hb.size (.cells #[.bool ap, .bool ai, .bool am, .bool ag, .int .i64 al, .int .i64 ah] 108))).facts)
          | (go_at_call 21; with_reducible refine (name_calls e.src _).mono ?_; rintro r y1 ⟨rfl, hb1⟩; have HB1 := Lib.hid ((HBC.out.alloc HBC.out.size _).trans (hb1.mono (HBC.out.alloc HBC.out.size _).size)); have hbe1 := Lib.hid ((hbe.out.alloc hbe.out.size _).trans (hb1.mono (hbe.out.alloc hbe.out.size _).size)); clear hx0 hx1 hx2 hx3 hx4 hx5 hx6 hx7; obtain ⟨hx0, hx1, hx2, hx3, hx4, hx5, hx6, hx7⟩ := (HEV.out _ hbe1.out).facts; have HA1 := Lib.hid ((AskAt.new y ⟨ap, ai, am, ag, al, ah, true⟩).below hb1); have hfa1 := HA1.out.facts; dsimp only at hfa1; obtain ⟨ha0, ha1, ha2, ha3, ha4, ha5⟩ := hfa1; clear hb1; rw [hn])
          | (go_at_call 72; with_reducible refine (within_calls e.num 1 1099511627776 _).mono ?_; rintro r y2 ⟨rfl, rfl⟩; rw [h1])
          | (go_at_call 72; with_reducible refine (within_calls e.at_ 0 1099511627776 _).mono ?_; rintro r y2 ⟨rfl, rfl⟩; rw [h2])
          | (go_at_call 72; with_reducible refine (within_calls e.value al ah _).mono ?_; rintro r y2 ⟨rfl, rfl⟩; rw [h3])
          | (go_at_call 73; with_reducible refine (named_calls e.person ap _).mono ?_; rintro r y3 ⟨rfl, hb3⟩; have HB3 := Lib.hid (HB1.out.trans (hb3.mono HB1.out.size)); have hbe3 := Lib.hid (hbe1.out.trans (hb3.mono hbe1.out.size)); clear hx0 hx1 hx2 hx3 hx4 hx5 hx6 hx7 ha0 ha1 ha2 ha3 ha4 ha5; obtain ⟨hx0, hx1, hx2, hx3, hx4, hx5, hx6, hx7⟩ := (HEV.out _ hbe3.out).facts; have HA3 := Lib.hid (HA1.out.below hb3); have hfa3 := HA3.out.facts; dsimp only at hfa3; obtain ⟨ha0, ha1, ha2, ha3, ha4, ha5⟩ := hfa3; clear hb3; rw [h4])
          | (go_at_call 73; with_reducible refine (named_calls e.item ai _).mono ?_; rintro r y4 ⟨rfl, hb4⟩; have HB4 := Lib.hid (HB3.out.trans (hb4.mono HB3.out.size)); have hbe4 := Lib.hid (hbe3.out.trans (hb4.mono hbe3.out.size)); clear hx0 hx1 hx2 hx3 hx4 hx5 hx6 hx7 ha0 ha1 ha2 ha3 ha4 ha5; obtain ⟨hx0, hx1, hx2, hx3, hx4, hx5, hx6, hx7⟩ := (HEV.out _ hbe4.out).facts; have HA4 := Lib.hid (HA3.out.below hb4); have hfa4 := HA4.out.facts; dsimp only at hfa4; obtain ⟨ha0, ha1, ha2, ha3, ha4, ha5⟩ := hfa4; clear hb4; rw [h5])
          | (go_at_call 74; with_reducible refine (goods_calls e.text _ HT.out).mono ?_; rintro r y5 ⟨rfl, hb5⟩; have HB5 := Lib.hid (HB4.out.trans (hb5.mono HB4.out.size)))
          | (go_at_call 73; with_reducible refine (named_calls e.text am _).mono ?_; rintro r y5 ⟨rfl, hb5⟩; have HB5 := Lib.hid (HB4.out.trans (hb5.mono HB4.out.size)))
          | fail)
        go_ret
        exact ⟨by rw [HM.out]; first | rfl | (simp; done) | (simp [*]; done), HB1.out⟩
      | true =>
        rw [h1] at HM
        cases h2 : inB e.at_ 0 1099511627776 with
        | false =>
          rw [h2] at HM
          go_enter Tryd.func49, Tryd.ntmps49
          go_wp2_with (first
            | (go_at_call 71; with_reducible refine (HR.out _).mono ?_; rintro r y ⟨rfl, hb⟩; have hbe := Lib.hid hb; have HBC := Lib.hid (HW0.out.trans (hb.mono HW0.out.size)); clear hfe; obtain ⟨hx0, hx1, hx2, hx3, hx4, hx5, hx6, hx7⟩ := (HEV.out _ (hb.alloc hb.size (.cells #[.bool ap, .bool ai, .bool am, .bool ag, .int .i64 al, .int .i64 ah] 108))).facts)
            | (go_at_call 21; with_reducible refine (name_calls e.src _).mono ?_; rintro r y1 ⟨rfl, hb1⟩; have HB1 := Lib.hid ((HBC.out.alloc HBC.out.size _).trans (hb1.mono (HBC.out.alloc HBC.out.size _).size)); have hbe1 := Lib.hid ((hbe.out.alloc hbe.out.size _).trans (hb1.mono (hbe.out.alloc hbe.out.size _).size)); clear hx0 hx1 hx2 hx3 hx4 hx5 hx6 hx7; obtain ⟨hx0, hx1, hx2, hx3, hx4, hx5, hx6, hx7⟩ := (HEV.out _ hbe1.out).facts; have HA1 := Lib.hid ((AskAt.new y ⟨ap, ai, am, ag, al, ah, true⟩).below hb1); have hfa1 := HA1.out.facts; dsimp only at hfa1; obtain ⟨ha0, ha1, ha2, ha3, ha4, ha5⟩ := hfa1; clear hb1; rw [hn])
            | (go_at_call 72; with_reducible refine (within_calls e.num 1 1099511627776 _).mono ?_; rintro r y2 ⟨rfl, rfl⟩; rw [h1])
            | (go_at_call 72; with_reducible refine (within_calls e.at_ 0 1099511627776 _).mono ?_; rintro r y2 ⟨rfl, rfl⟩; rw [h2])
            | (go_at_call 72; with_reducible refine (within_calls e.value al ah _).mono ?_; rintro r y2 ⟨rfl, rfl⟩; rw [h3])
            | (go_at_call 73; with_reducible refine (named_calls e.person ap _).mono ?_; rintro r y3 ⟨rfl, hb3⟩; have HB3 := Lib.hid (HB1.out.trans (hb3.mono HB1.out.size)); have hbe3 := Lib.hid (hbe1.out.trans (hb3.mono hbe1.out.size)); clear hx0 hx1 hx2 hx3 hx4 hx5 hx6 hx7 ha0 ha1 ha2 ha3 ha4 ha5; obtain ⟨hx0, hx1, hx2, hx3, hx4, hx5, hx6, hx7⟩ := (HEV.out _ hbe3.out).facts; have HA3 := Lib.hid (HA1.out.below hb3); have hfa3 := HA3.out.facts; dsimp only at hfa3; obtain ⟨ha0, ha1, ha2, ha3, ha4, ha5⟩ := hfa3; clear hb3; rw [h4])
            | (go_at_call 73; with_reducible refine (named_calls e.item ai _).mono ?_; rintro r y4 ⟨rfl, hb4⟩; have HB4 := Lib.hid (HB3.out.trans (hb4.mono HB3.out.size)); have hbe4 := Lib.hid (hbe3.out.trans (hb4.mono hbe3.out.size)); clear hx0 hx1 hx2 hx3 hx4 hx5 hx6 hx7 ha0 ha1 ha2 ha3 ha4 ha5; obtain ⟨hx0, hx1, hx2, hx3, hx4, hx5, hx6, hx7⟩ := (HEV.out _ hbe4.out).facts; have HA4 := Lib.hid (HA3.out.below hb4); have hfa4 := HA4.out.facts; dsimp only at hfa4; obtain ⟨ha0, ha1, ha2, ha3, ha4, ha5⟩ := hfa4; clear hb4; rw [h5])
            | (go_at_call 74; with_reducible refine (goods_calls e.text _ HT.out).mono ?_; rintro r y5 ⟨rfl, hb5⟩; have HB5 := Lib.hid (HB4.out.trans (hb5.mono HB4.out.size)))
            | (go_at_call 73; with_reducible refine (named_calls e.text am _).mono ?_; rintro r y5 ⟨rfl, hb5⟩; have HB5 := Lib.hid (HB4.out.trans (hb5.mono HB4.out.size)))
            | fail)
          go_ret
          exact ⟨by rw [HM.out]; first | rfl | (simp; done) | (simp [*]; done), HB1.out⟩
        | true =>
          rw [h2] at HM
          cases h3 : inB e.value al ah with
          | false =>
            rw [h3] at HM
            go_enter Tryd.func49, Tryd.ntmps49
            go_wp2_with (first
              | (go_at_call 71; with_reducible refine (HR.out _).mono ?_; rintro r y ⟨rfl, hb⟩; have hbe := Lib.hid hb; have HBC := Lib.hid (HW0.out.trans (hb.mono HW0.out.size)); clear hfe; obtain ⟨hx0, hx1, hx2, hx3, hx4, hx5, hx6, hx7⟩ := (HEV.out _ (hb.alloc hb.size (.cells #[.bool ap, .bool ai, .bool am, .bool ag, .int .i64 al, .int .i64 ah] 108))).facts)
              | (go_at_call 21; with_reducible refine (name_calls e.src _).mono ?_; rintro r y1 ⟨rfl, hb1⟩; have HB1 := Lib.hid ((HBC.out.alloc HBC.out.size _).trans (hb1.mono (HBC.out.alloc HBC.out.size _).size)); have hbe1 := Lib.hid ((hbe.out.alloc hbe.out.size _).trans (hb1.mono (hbe.out.alloc hbe.out.size _).size)); clear hx0 hx1 hx2 hx3 hx4 hx5 hx6 hx7; obtain ⟨hx0, hx1, hx2, hx3, hx4, hx5, hx6, hx7⟩ := (HEV.out _ hbe1.out).facts; have HA1 := Lib.hid ((AskAt.new y ⟨ap, ai, am, ag, al, ah, true⟩).below hb1); have hfa1 := HA1.out.facts; dsimp only at hfa1; obtain ⟨ha0, ha1, ha2, ha3, ha4, ha5⟩ := hfa1; clear hb1; rw [hn])
              | (go_at_call 72; with_reducible refine (within_calls e.num 1 1099511627776 _).mono ?_; rintro r y2 ⟨rfl, rfl⟩; rw [h1])
              | (go_at_call 72; with_reducible refine (within_calls e.at_ 0 1099511627776 _).mono ?_; rintro r y2 ⟨rfl, rfl⟩; rw [h2])
              | (go_at_call 72; with_reducible refine (within_calls e.value al ah _).mono ?_; rintro r y2 ⟨rfl, rfl⟩; rw [h3])
              | (go_at_call 73; with_reducible refine (named_calls e.person ap _).mono ?_; rintro r y3 ⟨rfl, hb3⟩; have HB3 := Lib.hid (HB1.out.trans (hb3.mono HB1.out.size)); have hbe3 := Lib.hid (hbe1.out.trans (hb3.mono hbe1.out.size)); clear hx0 hx1 hx2 hx3 hx4 hx5 hx6 hx7 ha0 ha1 ha2 ha3 ha4 ha5; obtain ⟨hx0, hx1, hx2, hx3, hx4, hx5, hx6, hx7⟩ := (HEV.out _ hbe3.out).facts; have HA3 := Lib.hid (HA1.out.below hb3); have hfa3 := HA3.out.facts; dsimp only at hfa3; obtain ⟨ha0, ha1, ha2, ha3, ha4, ha5⟩ := hfa3; clear hb3; rw [h4])
              | (go_at_call 73; with_reducible refine (named_calls e.item ai _).mono ?_; rintro r y4 ⟨rfl, hb4⟩; have HB4 := Lib.hid (HB3.out.trans (hb4.mono HB3.out.size)); have hbe4 := Lib.hid (hbe3.out.trans (hb4.mono hbe3.out.size)); clear hx0 hx1 hx2 hx3 hx4 hx5 hx6 hx7 ha0 ha1 ha2 ha3 ha4 ha5; obtain ⟨hx0, hx1, hx2, hx3, hx4, hx5, hx6, hx7⟩ := (HEV.out _ hbe4.out).facts; have HA4 := Lib.hid (HA3.out.below hb4); have hfa4 := HA4.out.facts; dsimp only at hfa4; obtain ⟨ha0, ha1, ha2, ha3, ha4, ha5⟩ := hfa4; clear hb4; rw [h5])
              | (go_at_call 74; with_reducible refine (goods_calls e.text _ HT.out).mono ?_; rintro r y5 ⟨rfl, hb5⟩; have HB5 := Lib.hid (HB4.out.trans (hb5.mono HB4.out.size)))
              | (go_at_call 73; with_reducible refine (named_calls e.text am _).mono ?_; rintro r y5 ⟨rfl, hb5⟩; have HB5 := Lib.hid (HB4.out.trans (hb5.mono HB4.out.size)))
              | fail)
            go_ret
            exact ⟨by rw [HM.out]; first | rfl | (simp; done) | (simp [*]; done), HB1.out⟩
          | true =>
            rw [h3] at HM
            cases h4 : namedB e.person ap with
            | false =>
              rw [h4] at HM
              cases ag with
              | true =>
                go_enter Tryd.func49, Tryd.ntmps49
                go_wp2_with (first
                  | (go_at_call 71; with_reducible refine (HR.out _).mono ?_; rintro r y ⟨rfl, hb⟩; have hbe := Lib.hid hb; have HBC := Lib.hid (HW0.out.trans (hb.mono HW0.out.size)); clear hfe; obtain ⟨hx0, hx1, hx2, hx3, hx4, hx5, hx6, hx7⟩ := (HEV.out _ (hb.alloc hb.size (.cells #[.bool ap, .bool ai, .bool am, .bool true, .int .i64 al, .int .i64 ah] 108))).facts)
                  | (go_at_call 21; with_reducible refine (name_calls e.src _).mono ?_; rintro r y1 ⟨rfl, hb1⟩; have HB1 := Lib.hid ((HBC.out.alloc HBC.out.size _).trans (hb1.mono (HBC.out.alloc HBC.out.size _).size)); have hbe1 := Lib.hid ((hbe.out.alloc hbe.out.size _).trans (hb1.mono (hbe.out.alloc hbe.out.size _).size)); clear hx0 hx1 hx2 hx3 hx4 hx5 hx6 hx7; obtain ⟨hx0, hx1, hx2, hx3, hx4, hx5, hx6, hx7⟩ := (HEV.out _ hbe1.out).facts; have HA1 := Lib.hid ((AskAt.new y ⟨ap, ai, am, true, al, ah, true⟩).below hb1); have hfa1 := HA1.out.facts; dsimp only at hfa1; obtain ⟨ha0, ha1, ha2, ha3, ha4, ha5⟩ := hfa1; clear hb1; rw [hn])
                  | (go_at_call 72; with_reducible refine (within_calls e.num 1 1099511627776 _).mono ?_; rintro r y2 ⟨rfl, rfl⟩; rw [h1])
                  | (go_at_call 72; with_reducible refine (within_calls e.at_ 0 1099511627776 _).mono ?_; rintro r y2 ⟨rfl, rfl⟩; rw [h2])
                  | (go_at_call 72; with_reducible refine (within_calls e.value al ah _).mono ?_; rintro r y2 ⟨rfl, rfl⟩; rw [h3])
                  | (go_at_call 73; with_reducible refine (named_calls e.person ap _).mono ?_; rintro r y3 ⟨rfl, hb3⟩; have HB3 := Lib.hid (HB1.out.trans (hb3.mono HB1.out.size)); have hbe3 := Lib.hid (hbe1.out.trans (hb3.mono hbe1.out.size)); clear hx0 hx1 hx2 hx3 hx4 hx5 hx6 hx7 ha0 ha1 ha2 ha3 ha4 ha5; obtain ⟨hx0, hx1, hx2, hx3, hx4, hx5, hx6, hx7⟩ := (HEV.out _ hbe3.out).facts; have HA3 := Lib.hid (HA1.out.below hb3); have hfa3 := HA3.out.facts; dsimp only at hfa3; obtain ⟨ha0, ha1, ha2, ha3, ha4, ha5⟩ := hfa3; clear hb3; rw [h4])
                  | (go_at_call 73; with_reducible refine (named_calls e.item ai _).mono ?_; rintro r y4 ⟨rfl, hb4⟩; have HB4 := Lib.hid (HB3.out.trans (hb4.mono HB3.out.size)); have hbe4 := Lib.hid (hbe3.out.trans (hb4.mono hbe3.out.size)); clear hx0 hx1 hx2 hx3 hx4 hx5 hx6 hx7 ha0 ha1 ha2 ha3 ha4 ha5; obtain ⟨hx0, hx1, hx2, hx3, hx4, hx5, hx6, hx7⟩ := (HEV.out _ hbe4.out).facts; have HA4 := Lib.hid (HA3.out.below hb4); have hfa4 := HA4.out.facts; dsimp only at hfa4; obtain ⟨ha0, ha1, ha2, ha3, ha4, ha5⟩ := hfa4; clear hb4; rw [h5])
                  | (go_at_call 74; with_reducible refine (goods_calls e.text _ HT.out).mono ?_; rintro r y5 ⟨rfl, hb5⟩; have HB5 := Lib.hid (HB4.out.trans (hb5.mono HB4.out.size)))
                  | (go_at_call 73; with_reducible refine (named_calls e.text am _).mono ?_; rintro r y5 ⟨rfl, hb5⟩; have HB5 := Lib.hid (HB4.out.trans (hb5.mono HB4.out.size)))
                  | fail)
                go_ret
                exact ⟨by rw [HM.out]; first | rfl | (simp; done) | (simp [*]; done), HB3.out⟩
              | false =>
                go_enter Tryd.func49, Tryd.ntmps49
                go_wp2_with (first
                  | (go_at_call 71; with_reducible refine (HR.out _).mono ?_; rintro r y ⟨rfl, hb⟩; have hbe := Lib.hid hb; have HBC := Lib.hid (HW0.out.trans (hb.mono HW0.out.size)); clear hfe; obtain ⟨hx0, hx1, hx2, hx3, hx4, hx5, hx6, hx7⟩ := (HEV.out _ (hb.alloc hb.size (.cells #[.bool ap, .bool ai, .bool am, .bool false, .int .i64 al, .int .i64 ah] 108))).facts)
                  | (go_at_call 21; with_reducible refine (name_calls e.src _).mono ?_; rintro r y1 ⟨rfl, hb1⟩; have HB1 := Lib.hid ((HBC.out.alloc HBC.out.size _).trans (hb1.mono (HBC.out.alloc HBC.out.size _).size)); have hbe1 := Lib.hid ((hbe.out.alloc hbe.out.size _).trans (hb1.mono (hbe.out.alloc hbe.out.size _).size)); clear hx0 hx1 hx2 hx3 hx4 hx5 hx6 hx7; obtain ⟨hx0, hx1, hx2, hx3, hx4, hx5, hx6, hx7⟩ := (HEV.out _ hbe1.out).facts; have HA1 := Lib.hid ((AskAt.new y ⟨ap, ai, am, false, al, ah, true⟩).below hb1); have hfa1 := HA1.out.facts; dsimp only at hfa1; obtain ⟨ha0, ha1, ha2, ha3, ha4, ha5⟩ := hfa1; clear hb1; rw [hn])
                  | (go_at_call 72; with_reducible refine (within_calls e.num 1 1099511627776 _).mono ?_; rintro r y2 ⟨rfl, rfl⟩; rw [h1])
                  | (go_at_call 72; with_reducible refine (within_calls e.at_ 0 1099511627776 _).mono ?_; rintro r y2 ⟨rfl, rfl⟩; rw [h2])
                  | (go_at_call 72; with_reducible refine (within_calls e.value al ah _).mono ?_; rintro r y2 ⟨rfl, rfl⟩; rw [h3])
                  | (go_at_call 73; with_reducible refine (named_calls e.person ap _).mono ?_; rintro r y3 ⟨rfl, hb3⟩; have HB3 := Lib.hid (HB1.out.trans (hb3.mono HB1.out.size)); have hbe3 := Lib.hid (hbe1.out.trans (hb3.mono hbe1.out.size)); clear hx0 hx1 hx2 hx3 hx4 hx5 hx6 hx7 ha0 ha1 ha2 ha3 ha4 ha5; obtain ⟨hx0, hx1, hx2, hx3, hx4, hx5, hx6, hx7⟩ := (HEV.out _ hbe3.out).facts; have HA3 := Lib.hid (HA1.out.below hb3); have hfa3 := HA3.out.facts; dsimp only at hfa3; obtain ⟨ha0, ha1, ha2, ha3, ha4, ha5⟩ := hfa3; clear hb3; rw [h4])
                  | (go_at_call 73; with_reducible refine (named_calls e.item ai _).mono ?_; rintro r y4 ⟨rfl, hb4⟩; have HB4 := Lib.hid (HB3.out.trans (hb4.mono HB3.out.size)); have hbe4 := Lib.hid (hbe3.out.trans (hb4.mono hbe3.out.size)); clear hx0 hx1 hx2 hx3 hx4 hx5 hx6 hx7 ha0 ha1 ha2 ha3 ha4 ha5; obtain ⟨hx0, hx1, hx2, hx3, hx4, hx5, hx6, hx7⟩ := (HEV.out _ hbe4.out).facts; have HA4 := Lib.hid (HA3.out.below hb4); have hfa4 := HA4.out.facts; dsimp only at hfa4; obtain ⟨ha0, ha1, ha2, ha3, ha4, ha5⟩ := hfa4; clear hb4; rw [h5])
                  | (go_at_call 74; with_reducible refine (goods_calls e.text _ HT.out).mono ?_; rintro r y5 ⟨rfl, hb5⟩; have HB5 := Lib.hid (HB4.out.trans (hb5.mono HB4.out.size)))
                  | (go_at_call 73; with_reducible refine (named_calls e.text am _).mono ?_; rintro r y5 ⟨rfl, hb5⟩; have HB5 := Lib.hid (HB4.out.trans (hb5.mono HB4.out.size)))
                  | fail)
                go_ret
                exact ⟨by rw [HM.out]; first | rfl | (simp; done) | (simp [*]; done), HB3.out⟩
            | true =>
              rw [h4] at HM
              cases h5 : namedB e.item ai with
              | false =>
                rw [h5] at HM
                cases ag with
                | true =>
                  go_enter Tryd.func49, Tryd.ntmps49
                  go_wp2_with (first
                    | (go_at_call 71; with_reducible refine (HR.out _).mono ?_; rintro r y ⟨rfl, hb⟩; have hbe := Lib.hid hb; have HBC := Lib.hid (HW0.out.trans (hb.mono HW0.out.size)); clear hfe; obtain ⟨hx0, hx1, hx2, hx3, hx4, hx5, hx6, hx7⟩ := (HEV.out _ (hb.alloc hb.size (.cells #[.bool ap, .bool ai, .bool am, .bool true, .int .i64 al, .int .i64 ah] 108))).facts)
                    | (go_at_call 21; with_reducible refine (name_calls e.src _).mono ?_; rintro r y1 ⟨rfl, hb1⟩; have HB1 := Lib.hid ((HBC.out.alloc HBC.out.size _).trans (hb1.mono (HBC.out.alloc HBC.out.size _).size)); have hbe1 := Lib.hid ((hbe.out.alloc hbe.out.size _).trans (hb1.mono (hbe.out.alloc hbe.out.size _).size)); clear hx0 hx1 hx2 hx3 hx4 hx5 hx6 hx7; obtain ⟨hx0, hx1, hx2, hx3, hx4, hx5, hx6, hx7⟩ := (HEV.out _ hbe1.out).facts; have HA1 := Lib.hid ((AskAt.new y ⟨ap, ai, am, true, al, ah, true⟩).below hb1); have hfa1 := HA1.out.facts; dsimp only at hfa1; obtain ⟨ha0, ha1, ha2, ha3, ha4, ha5⟩ := hfa1; clear hb1; rw [hn])
                    | (go_at_call 72; with_reducible refine (within_calls e.num 1 1099511627776 _).mono ?_; rintro r y2 ⟨rfl, rfl⟩; rw [h1])
                    | (go_at_call 72; with_reducible refine (within_calls e.at_ 0 1099511627776 _).mono ?_; rintro r y2 ⟨rfl, rfl⟩; rw [h2])
                    | (go_at_call 72; with_reducible refine (within_calls e.value al ah _).mono ?_; rintro r y2 ⟨rfl, rfl⟩; rw [h3])
                    | (go_at_call 73; with_reducible refine (named_calls e.person ap _).mono ?_; rintro r y3 ⟨rfl, hb3⟩; have HB3 := Lib.hid (HB1.out.trans (hb3.mono HB1.out.size)); have hbe3 := Lib.hid (hbe1.out.trans (hb3.mono hbe1.out.size)); clear hx0 hx1 hx2 hx3 hx4 hx5 hx6 hx7 ha0 ha1 ha2 ha3 ha4 ha5; obtain ⟨hx0, hx1, hx2, hx3, hx4, hx5, hx6, hx7⟩ := (HEV.out _ hbe3.out).facts; have HA3 := Lib.hid (HA1.out.below hb3); have hfa3 := HA3.out.facts; dsimp only at hfa3; obtain ⟨ha0, ha1, ha2, ha3, ha4, ha5⟩ := hfa3; clear hb3; rw [h4])
                    | (go_at_call 73; with_reducible refine (named_calls e.item ai _).mono ?_; rintro r y4 ⟨rfl, hb4⟩; have HB4 := Lib.hid (HB3.out.trans (hb4.mono HB3.out.size)); have hbe4 := Lib.hid (hbe3.out.trans (hb4.mono hbe3.out.size)); clear hx0 hx1 hx2 hx3 hx4 hx5 hx6 hx7 ha0 ha1 ha2 ha3 ha4 ha5; obtain ⟨hx0, hx1, hx2, hx3, hx4, hx5, hx6, hx7⟩ := (HEV.out _ hbe4.out).facts; have HA4 := Lib.hid (HA3.out.below hb4); have hfa4 := HA4.out.facts; dsimp only at hfa4; obtain ⟨ha0, ha1, ha2, ha3, ha4, ha5⟩ := hfa4; clear hb4; rw [h5])
                    | (go_at_call 74; with_reducible refine (goods_calls e.text _ HT.out).mono ?_; rintro r y5 ⟨rfl, hb5⟩; have HB5 := Lib.hid (HB4.out.trans (hb5.mono HB4.out.size)))
                    | (go_at_call 73; with_reducible refine (named_calls e.text am _).mono ?_; rintro r y5 ⟨rfl, hb5⟩; have HB5 := Lib.hid (HB4.out.trans (hb5.mono HB4.out.size)))
                    | fail)
                  go_ret
                  exact ⟨by rw [HM.out]; first | rfl | (simp; done) | (simp [*]; done), HB4.out⟩
                | false =>
                  go_enter Tryd.func49, Tryd.ntmps49
                  go_wp2_with (first
                    | (go_at_call 71; with_reducible refine (HR.out _).mono ?_; rintro r y ⟨rfl, hb⟩; have hbe := Lib.hid hb; have HBC := Lib.hid (HW0.out.trans (hb.mono HW0.out.size)); clear hfe; obtain ⟨hx0, hx1, hx2, hx3, hx4, hx5, hx6, hx7⟩ := (HEV.out _ (hb.alloc hb.size (.cells #[.bool ap, .bool ai, .bool am, .bool false, .int .i64 al, .int .i64 ah] 108))).facts)
                    | (go_at_call 21; with_reducible refine (name_calls e.src _).mono ?_; rintro r y1 ⟨rfl, hb1⟩; have HB1 := Lib.hid ((HBC.out.alloc HBC.out.size _).trans (hb1.mono (HBC.out.alloc HBC.out.size _).size)); have hbe1 := Lib.hid ((hbe.out.alloc hbe.out.size _).trans (hb1.mono (hbe.out.alloc hbe.out.size _).size)); clear hx0 hx1 hx2 hx3 hx4 hx5 hx6 hx7; obtain ⟨hx0, hx1, hx2, hx3, hx4, hx5, hx6, hx7⟩ := (HEV.out _ hbe1.out).facts; have HA1 := Lib.hid ((AskAt.new y ⟨ap, ai, am, false, al, ah, true⟩).below hb1); have hfa1 := HA1.out.facts; dsimp only at hfa1; obtain ⟨ha0, ha1, ha2, ha3, ha4, ha5⟩ := hfa1; clear hb1; rw [hn])
                    | (go_at_call 72; with_reducible refine (within_calls e.num 1 1099511627776 _).mono ?_; rintro r y2 ⟨rfl, rfl⟩; rw [h1])
                    | (go_at_call 72; with_reducible refine (within_calls e.at_ 0 1099511627776 _).mono ?_; rintro r y2 ⟨rfl, rfl⟩; rw [h2])
                    | (go_at_call 72; with_reducible refine (within_calls e.value al ah _).mono ?_; rintro r y2 ⟨rfl, rfl⟩; rw [h3])
                    | (go_at_call 73; with_reducible refine (named_calls e.person ap _).mono ?_; rintro r y3 ⟨rfl, hb3⟩; have HB3 := Lib.hid (HB1.out.trans (hb3.mono HB1.out.size)); have hbe3 := Lib.hid (hbe1.out.trans (hb3.mono hbe1.out.size)); clear hx0 hx1 hx2 hx3 hx4 hx5 hx6 hx7 ha0 ha1 ha2 ha3 ha4 ha5; obtain ⟨hx0, hx1, hx2, hx3, hx4, hx5, hx6, hx7⟩ := (HEV.out _ hbe3.out).facts; have HA3 := Lib.hid (HA1.out.below hb3); have hfa3 := HA3.out.facts; dsimp only at hfa3; obtain ⟨ha0, ha1, ha2, ha3, ha4, ha5⟩ := hfa3; clear hb3; rw [h4])
                    | (go_at_call 73; with_reducible refine (named_calls e.item ai _).mono ?_; rintro r y4 ⟨rfl, hb4⟩; have HB4 := Lib.hid (HB3.out.trans (hb4.mono HB3.out.size)); have hbe4 := Lib.hid (hbe3.out.trans (hb4.mono hbe3.out.size)); clear hx0 hx1 hx2 hx3 hx4 hx5 hx6 hx7 ha0 ha1 ha2 ha3 ha4 ha5; obtain ⟨hx0, hx1, hx2, hx3, hx4, hx5, hx6, hx7⟩ := (HEV.out _ hbe4.out).facts; have HA4 := Lib.hid (HA3.out.below hb4); have hfa4 := HA4.out.facts; dsimp only at hfa4; obtain ⟨ha0, ha1, ha2, ha3, ha4, ha5⟩ := hfa4; clear hb4; rw [h5])
                    | (go_at_call 74; with_reducible refine (goods_calls e.text _ HT.out).mono ?_; rintro r y5 ⟨rfl, hb5⟩; have HB5 := Lib.hid (HB4.out.trans (hb5.mono HB4.out.size)))
                    | (go_at_call 73; with_reducible refine (named_calls e.text am _).mono ?_; rintro r y5 ⟨rfl, hb5⟩; have HB5 := Lib.hid (HB4.out.trans (hb5.mono HB4.out.size)))
                    | fail)
                  go_ret
                  exact ⟨by rw [HM.out]; first | rfl | (simp; done) | (simp [*]; done), HB4.out⟩
              | true =>
                rw [h5] at HM
                cases ag with
                | true =>
                  go_enter Tryd.func49, Tryd.ntmps49
                  go_wp2_with (first
                    | (go_at_call 71; with_reducible refine (HR.out _).mono ?_; rintro r y ⟨rfl, hb⟩; have hbe := Lib.hid hb; have HBC := Lib.hid (HW0.out.trans (hb.mono HW0.out.size)); clear hfe; obtain ⟨hx0, hx1, hx2, hx3, hx4, hx5, hx6, hx7⟩ := (HEV.out _ (hb.alloc hb.size (.cells #[.bool ap, .bool ai, .bool am, .bool true, .int .i64 al, .int .i64 ah] 108))).facts)
                    | (go_at_call 21; with_reducible refine (name_calls e.src _).mono ?_; rintro r y1 ⟨rfl, hb1⟩; have HB1 := Lib.hid ((HBC.out.alloc HBC.out.size _).trans (hb1.mono (HBC.out.alloc HBC.out.size _).size)); have hbe1 := Lib.hid ((hbe.out.alloc hbe.out.size _).trans (hb1.mono (hbe.out.alloc hbe.out.size _).size)); clear hx0 hx1 hx2 hx3 hx4 hx5 hx6 hx7; obtain ⟨hx0, hx1, hx2, hx3, hx4, hx5, hx6, hx7⟩ := (HEV.out _ hbe1.out).facts; have HA1 := Lib.hid ((AskAt.new y ⟨ap, ai, am, true, al, ah, true⟩).below hb1); have hfa1 := HA1.out.facts; dsimp only at hfa1; obtain ⟨ha0, ha1, ha2, ha3, ha4, ha5⟩ := hfa1; clear hb1; rw [hn])
                    | (go_at_call 72; with_reducible refine (within_calls e.num 1 1099511627776 _).mono ?_; rintro r y2 ⟨rfl, rfl⟩; rw [h1])
                    | (go_at_call 72; with_reducible refine (within_calls e.at_ 0 1099511627776 _).mono ?_; rintro r y2 ⟨rfl, rfl⟩; rw [h2])
                    | (go_at_call 72; with_reducible refine (within_calls e.value al ah _).mono ?_; rintro r y2 ⟨rfl, rfl⟩; rw [h3])
                    | (go_at_call 73; with_reducible refine (named_calls e.person ap _).mono ?_; rintro r y3 ⟨rfl, hb3⟩; have HB3 := Lib.hid (HB1.out.trans (hb3.mono HB1.out.size)); have hbe3 := Lib.hid (hbe1.out.trans (hb3.mono hbe1.out.size)); clear hx0 hx1 hx2 hx3 hx4 hx5 hx6 hx7 ha0 ha1 ha2 ha3 ha4 ha5; obtain ⟨hx0, hx1, hx2, hx3, hx4, hx5, hx6, hx7⟩ := (HEV.out _ hbe3.out).facts; have HA3 := Lib.hid (HA1.out.below hb3); have hfa3 := HA3.out.facts; dsimp only at hfa3; obtain ⟨ha0, ha1, ha2, ha3, ha4, ha5⟩ := hfa3; clear hb3; rw [h4])
                    | (go_at_call 73; with_reducible refine (named_calls e.item ai _).mono ?_; rintro r y4 ⟨rfl, hb4⟩; have HB4 := Lib.hid (HB3.out.trans (hb4.mono HB3.out.size)); have hbe4 := Lib.hid (hbe3.out.trans (hb4.mono hbe3.out.size)); clear hx0 hx1 hx2 hx3 hx4 hx5 hx6 hx7 ha0 ha1 ha2 ha3 ha4 ha5; obtain ⟨hx0, hx1, hx2, hx3, hx4, hx5, hx6, hx7⟩ := (HEV.out _ hbe4.out).facts; have HA4 := Lib.hid (HA3.out.below hb4); have hfa4 := HA4.out.facts; dsimp only at hfa4; obtain ⟨ha0, ha1, ha2, ha3, ha4, ha5⟩ := hfa4; clear hb4; rw [h5])
                    | (go_at_call 74; with_reducible refine (goods_calls e.text _ HT.out).mono ?_; rintro r y5 ⟨rfl, hb5⟩; have HB5 := Lib.hid (HB4.out.trans (hb5.mono HB4.out.size)))
                    | (go_at_call 73; with_reducible refine (named_calls e.text am _).mono ?_; rintro r y5 ⟨rfl, hb5⟩; have HB5 := Lib.hid (HB4.out.trans (hb5.mono HB4.out.size)))
                    | fail)
                  go_ret
                  exact ⟨by rw [HM.out]; first | rfl | (simp; done) | (simp [*]; done), HB5.out⟩
                | false =>
                  go_enter Tryd.func49, Tryd.ntmps49
                  go_wp2_with (first
                    | (go_at_call 71; with_reducible refine (HR.out _).mono ?_; rintro r y ⟨rfl, hb⟩; have hbe := Lib.hid hb; have HBC := Lib.hid (HW0.out.trans (hb.mono HW0.out.size)); clear hfe; obtain ⟨hx0, hx1, hx2, hx3, hx4, hx5, hx6, hx7⟩ := (HEV.out _ (hb.alloc hb.size (.cells #[.bool ap, .bool ai, .bool am, .bool false, .int .i64 al, .int .i64 ah] 108))).facts)
                    | (go_at_call 21; with_reducible refine (name_calls e.src _).mono ?_; rintro r y1 ⟨rfl, hb1⟩; have HB1 := Lib.hid ((HBC.out.alloc HBC.out.size _).trans (hb1.mono (HBC.out.alloc HBC.out.size _).size)); have hbe1 := Lib.hid ((hbe.out.alloc hbe.out.size _).trans (hb1.mono (hbe.out.alloc hbe.out.size _).size)); clear hx0 hx1 hx2 hx3 hx4 hx5 hx6 hx7; obtain ⟨hx0, hx1, hx2, hx3, hx4, hx5, hx6, hx7⟩ := (HEV.out _ hbe1.out).facts; have HA1 := Lib.hid ((AskAt.new y ⟨ap, ai, am, false, al, ah, true⟩).below hb1); have hfa1 := HA1.out.facts; dsimp only at hfa1; obtain ⟨ha0, ha1, ha2, ha3, ha4, ha5⟩ := hfa1; clear hb1; rw [hn])
                    | (go_at_call 72; with_reducible refine (within_calls e.num 1 1099511627776 _).mono ?_; rintro r y2 ⟨rfl, rfl⟩; rw [h1])
                    | (go_at_call 72; with_reducible refine (within_calls e.at_ 0 1099511627776 _).mono ?_; rintro r y2 ⟨rfl, rfl⟩; rw [h2])
                    | (go_at_call 72; with_reducible refine (within_calls e.value al ah _).mono ?_; rintro r y2 ⟨rfl, rfl⟩; rw [h3])
                    | (go_at_call 73; with_reducible refine (named_calls e.person ap _).mono ?_; rintro r y3 ⟨rfl, hb3⟩; have HB3 := Lib.hid (HB1.out.trans (hb3.mono HB1.out.size)); have hbe3 := Lib.hid (hbe1.out.trans (hb3.mono hbe1.out.size)); clear hx0 hx1 hx2 hx3 hx4 hx5 hx6 hx7 ha0 ha1 ha2 ha3 ha4 ha5; obtain ⟨hx0, hx1, hx2, hx3, hx4, hx5, hx6, hx7⟩ := (HEV.out _ hbe3.out).facts; have HA3 := Lib.hid (HA1.out.below hb3); have hfa3 := HA3.out.facts; dsimp only at hfa3; obtain ⟨ha0, ha1, ha2, ha3, ha4, ha5⟩ := hfa3; clear hb3; rw [h4])
                    | (go_at_call 73; with_reducible refine (named_calls e.item ai _).mono ?_; rintro r y4 ⟨rfl, hb4⟩; have HB4 := Lib.hid (HB3.out.trans (hb4.mono HB3.out.size)); have hbe4 := Lib.hid (hbe3.out.trans (hb4.mono hbe3.out.size)); clear hx0 hx1 hx2 hx3 hx4 hx5 hx6 hx7 ha0 ha1 ha2 ha3 ha4 ha5; obtain ⟨hx0, hx1, hx2, hx3, hx4, hx5, hx6, hx7⟩ := (HEV.out _ hbe4.out).facts; have HA4 := Lib.hid (HA3.out.below hb4); have hfa4 := HA4.out.facts; dsimp only at hfa4; obtain ⟨ha0, ha1, ha2, ha3, ha4, ha5⟩ := hfa4; clear hb4; rw [h5])
                    | (go_at_call 74; with_reducible refine (goods_calls e.text _ HT.out).mono ?_; rintro r y5 ⟨rfl, hb5⟩; have HB5 := Lib.hid (HB4.out.trans (hb5.mono HB4.out.size)))
                    | (go_at_call 73; with_reducible refine (named_calls e.text am _).mono ?_; rintro r y5 ⟨rfl, hb5⟩; have HB5 := Lib.hid (HB4.out.trans (hb5.mono HB4.out.size)))
                    | fail)
                  go_ret
                  exact ⟨by rw [HM.out]; first | rfl | (simp; done) | (simp [*]; done), HB5.out⟩
end Go.Proofs.YtgpadcokcdpmnaaDoor.Fd
end
section
namespace Go.Proofs.YtgpadcokcdpmnaaDoor.Fd
open Go Go.RowKit Go.Maps Go.Shelf Go.Lib
set_option linter.unusedVariables false
set_option linter.unusedSimpArgs false
structure It where
  name : ByteArray
  maker : ByteArray
  tags : ByteArray
  stock : Int
  price : Int
  born : Int
  listed : Bool
def It.cells (x : It) : Array Value := #[.string x.name, .string x.maker, .string x.tags, .int .i64 x.stock, .int .i64 x.price, .int .i64 x.born, .bool x.listed]
def It.val (x : It) : Value := .agg x.cells
def ItAt (w : World) (q : Nat) (x : It) : Prop := w.heap[q]? = some (.cells x.cells 42 (0, 0))
theorem ItAt.below {w w' : World} {q : Nat} {x : It} (h : ItAt w q x) (hb : Below w.heap.size w w') : ItAt w' q x := (hb.block q (Array.getElem?_eq_some_iff.1 h).1).trans h
theorem ItAt.facts {w : World} {q : Nat} {x : It} (h : ItAt w q x) :
    w.cell? ⟨q, 0, none⟩ = some (.string x.name) ∧ w.cell? ⟨q, 1, none⟩ = some (.string x.maker) ∧ w.cell? ⟨q, 2, none⟩ = some (.string x.tags) ∧ w.cell? ⟨q, 3, none⟩ = some (.int .i64 x.stock) ∧
    w.cell? ⟨q, 4, none⟩ = some (.int .i64 x.price) ∧ w.cell? ⟨q, 5, none⟩ = some (.int .i64 x.born) ∧ w.cell? ⟨q, 6, none⟩ = some (.bool x.listed) := by
  unfold ItAt It.cells at h
  simp only [World.cell?, h]
  simp
theorem ItAt.drewN {w : World} {q : Nat} {x : It} (h : ItAt w q x) (n : Nat) : ItAt (w.drewN n) q x := h
theorem ItAt.set {w : World} {q : Nat} {x y : It} (h : ItAt w q x) (i : Nat) (v : Value) (hy : x.cells.setIfInBounds i v = y.cells) : ItAt (w.setCell ⟨q, i, none⟩ v) q y := by
  unfold ItAt
  rw [setCell_block h, hy]
theorem ItAt.lt {w : World} {q : Nat} {x : It} (h : ItAt w q x) : q < w.heap.size := (Array.getElem?_eq_some_iff.1 h).1
theorem ItAt.fz {w : World} {q : Nat} {x : It} (h : ItAt w q x) (i : Nat) : w.frozen? ⟨q, i, none⟩ = false := by
  unfold ItAt at h
  simp [World.frozen?, h]
def chg (x : It) (e : Ev) (l : Bool) : It :=
  if e.kind = 11 then ⟨x.name, ⟨(cutL 59 e.text.data.toList).1.toArray⟩, ⟨(cutL 59 e.text.data.toList).2.1.toArray⟩, x.stock, e.value, if l then x.born else e.at_, true⟩
  else if e.kind = 12 then { x with stock := e.value }
  else if e.kind = 13 then { x with listed := false }
  else x
set_option maxHeartbeats 1000000 in
set_option maxRecDepth 100000 in
theorem own_calls (e : Ev) (w : World) (ht : e.text.size ≤ 1000000) : Calls Tryd.prog 33 #[e.val] w fun r w' => r = .returned (.bool (ownB e)) ∧ Below w.heap.size w w' := by
  have HM : Hid (ownB e = (mayB e && (decide (e.kind = 11) || decide (e.kind = 12) || decide (e.kind = 13)))) := rfl
  have hM := fun W => may_calls e W ht
  unfold Ev.val Ev.cells at hM ⊢
  have HMC := Lib.hid hM
  have HEN := EvAt.new w e
  have HEV : Hid (∀ Y, Below (w.alloc (.cells e.cells 37)).heap.size (w.alloc (.cells e.cells 37)) Y → EvAt Y w.heap.size e) := fun Y hY => HEN.below hY
  have HW0 : Hid (Below w.heap.size w (w.alloc (.cells e.cells 37))) := (Below.refl _ _).alloc (Nat.le_refl _) _
  have hfe := (HEV.out _ (Below.refl _ _)).facts
  unfold Ev.cells at HEV HW0 hfe
  clear hM HEN
  cases hm : mayB e with
  | false =>
    rw [hm] at HM
    go_enter Tryd.func33, Tryd.ntmps33
    go_wp2_with (first
      | (go_at_call 49; with_reducible refine (HMC.out _).mono ?_; rintro r y ⟨rfl, hb⟩; rw [hm])
      | fail)
    go_ret
    exact ⟨by rw [HM.out]; rfl, HW0.out.trans (hb.mono HW0.out.size)⟩
  | true =>
    rw [hm] at HM
    by_cases h1 : e.kind = 11
    · have b1 : (e.kind == 11) = true := by rw [h1]; rfl
      have H1 := Lib.hid h1
      clear h1
      go_enter Tryd.func33, Tryd.ntmps33
      go_wp2_with (first
        | (go_at_call 49; with_reducible refine (HMC.out _).mono ?_; rintro r y ⟨rfl, hb⟩; obtain ⟨hx0, hx1, hx2, hx3, hx4, hx5, hx6, hx7⟩ := (HEV.out _ hb).facts; rw [hm])
        | fail)
      go_ret
      exact ⟨by rw [HM.out]; simp [H1.out], HW0.out.trans (hb.mono HW0.out.size)⟩
    · have b1 : (e.kind == 11) = false := beq_eq_false_iff_ne.2 h1
      by_cases h2 : e.kind = 12
      · have b2 : (e.kind == 12) = true := by rw [h2]; rfl
        have H2 := Lib.hid h2
        clear h2
        go_enter Tryd.func33, Tryd.ntmps33
        go_wp2_with (first
          | (go_at_call 49; with_reducible refine (HMC.out _).mono ?_; rintro r y ⟨rfl, hb⟩; obtain ⟨hx0, hx1, hx2, hx3, hx4, hx5, hx6, hx7⟩ := (HEV.out _ hb).facts; rw [hm])
          | fail)
        go_ret
        exact ⟨by rw [HM.out]; simp [H2.out], HW0.out.trans (hb.mono HW0.out.size)⟩
      · have b2 : (e.kind == 12) = false := beq_eq_false_iff_ne.2 h2
        by_cases h3 : e.kind = 13
        · have b3 : (e.kind == 13) = true := by rw [h3]; rfl
          have H3 := Lib.hid h3
          clear h3
          go_enter Tryd.func33, Tryd.ntmps33
          go_wp2_with (first
            | (go_at_call 49; with_reducible refine (HMC.out _).mono ?_; rintro r y ⟨rfl, hb⟩; obtain ⟨hx0, hx1, hx2, hx3, hx4, hx5, hx6, hx7⟩ := (HEV.out _ hb).facts; rw [hm])
            | fail)
          go_ret
          exact ⟨by rw [HM.out]; simp [H3.out], HW0.out.trans (hb.mono HW0.out.size)⟩
        · have b3 : (e.kind == 13) = false := beq_eq_false_iff_ne.2 h3
          go_enter Tryd.func33, Tryd.ntmps33
          go_wp2_with (first
            | (go_at_call 49; with_reducible refine (HMC.out _).mono ?_; rintro r y ⟨rfl, hb⟩; obtain ⟨hx0, hx1, hx2, hx3, hx4, hx5, hx6, hx7⟩ := (HEV.out _ hb).facts; rw [hm])
            | fail)
          go_ret
          exact ⟨by rw [HM.out]; simp [h1, h2, h3], HW0.out.trans (hb.mono HW0.out.size)⟩
end Go.Proofs.YtgpadcokcdpmnaaDoor.Fd
end
section
namespace Go.Proofs.YtgpadcokcdpmnaaDoor.Fd
open Go Go.RowKit Go.Maps Go.Shelf Go.Lib
set_option linter.unusedVariables false
set_option linter.unusedSimpArgs false
set_option maxHeartbeats 1000000 in
set_option maxRecDepth 100000 in
theorem change_calls (q : Nat) (x : It) (e : Ev) (l : Bool) (w : World) (hq : ItAt w q x) (ht : e.text.size ≤ 1000000) :
    Calls Tryd.prog 37 #[.pointer (some ⟨q, 0, none⟩), e.val, .bool l] w fun r w' => r = .returned (.tuple #[]) ∧ ItAt w' q (chg x e l) ∧ Fr (· = q) w w' := by
  obtain ⟨M, hM⟩ : ∃ M : ByteArray, (⟨(cutL 59 e.text.data.toList).1.toArray⟩ : ByteArray) = M := ⟨_, rfl⟩
  obtain ⟨T, hT⟩ : ∃ T : ByteArray, (⟨(cutL 59 e.text.data.toList).2.1.toArray⟩ : ByteArray) = T := ⟨_, rfl⟩
  have HC := fun W => cut_calls e.text 59 W (by omega)
  rw [hM, hT] at HC
  have HCUT := Lib.hid HC
  have HG : Hid (chg x e l = if e.kind = 11 then ⟨x.name, M, T, x.stock, e.value, if l then x.born else e.at_, true⟩
      else if e.kind = 12 then { x with stock := e.value } else if e.kind = 13 then { x with listed := false } else x) := by
    unfold Hid chg
    rw [hM, hT]
  clear hM hT HC
  have hlt := hq.lt
  have hne : ¬ w.heap.size = q := by omega
  have hnq : ¬ q = w.heap.size := by omega
  obtain ⟨W0, hW0⟩ : ∃ W0, W0 = w.alloc (.cells e.cells 37) := ⟨_, rfl⟩
  have hqW : ItAt W0 q x := by rw [hW0]; exact hq.below ((Below.refl _ _).alloc (Nat.le_refl _) _)
  have hev : EvAt W0 w.heap.size e := by rw [hW0]; exact EvAt.new w e
  have hfr : Fr (· = q) w W0 := by rw [hW0]; exact (Fr.refl _ _).alloc _
  have HQW := Lib.hid hqW
  have HEV := Lib.hid hev
  have HFR := Lib.hid hfr
  unfold Ev.val
  have hcs : e.cells = #[.string e.src, .int .i64 e.num, .int .i64 e.at_, .int .i64 e.kind, .string e.person, .string e.item, .int .i64 e.value, .string e.text] := rfl
  rw [hcs] at hW0 ⊢
  obtain ⟨hx0, hx1, hx2, hx3, hx4, hx5, hx6, hx7⟩ := hev.facts
  have hfz := fun i => hq.fz i
  obtain ⟨hc0, hc1, hc2, hc3, hc4, hc5, hc6⟩ := hq.facts
  rw [hW0] at hx0 hx1 hx2 hx3 hx4 hx5 hx6 hx7
  have HW := Lib.hid hW0
  have HQ := Lib.hid hq
  clear hq hqW hev hfr hcs hW0
  by_cases h1 : e.kind = 11
  · have b1 : (e.kind == 11) = true := by rw [h1]; rfl
    have H1 := Lib.hid h1
    clear h1
    cases l with
    | true =>
      go_enter Tryd.func37, Tryd.ntmps37
      go_wp2_with (first
        | (go_at_call 55; with_reducible refine (HCUT.out _).mono ?_; rintro r y ⟨rfl, n0, rfl⟩)
        | fail)
      go_end0
      rw [← HW.out]
      refine ⟨rfl, ?_, ?_⟩
      · rw [HG.out, if_pos H1.out]
        simp only [if_true]
        exact (((((HQW.out.drewN n0).set (y := ⟨x.name, M, x.tags, x.stock, x.price, x.born, x.listed⟩) 1 _ rfl).set (y := ⟨x.name, M, T, x.stock, x.price, x.born, x.listed⟩) 2 _ rfl).set (y := ⟨x.name, M, T, x.stock, e.value, x.born, x.listed⟩) 4 _ rfl).set (y := ⟨x.name, M, T, x.stock, e.value, x.born, true⟩) 6 _ rfl)
      · exact ((((HFR.out.drewN n0).setCell (p := ⟨q, 1, none⟩) rfl _).setCell (p := ⟨q, 2, none⟩) rfl _).setCell (p := ⟨q, 4, none⟩) rfl _).setCell (p := ⟨q, 6, none⟩) rfl _
    | false =>
      go_enter Tryd.func37, Tryd.ntmps37
      go_wp2_with (first
        | (go_at_call 55; with_reducible refine (HCUT.out _).mono ?_; rintro r y ⟨rfl, n0, rfl⟩)
        | fail)
      go_end0
      rw [← HW.out]
      refine ⟨rfl, ?_, ?_⟩
      · rw [HG.out, if_pos H1.out]
        simp only [Bool.false_eq_true, if_false]
        exact ((((((HQW.out.drewN n0).set (y := ⟨x.name, M, x.tags, x.stock, x.price, x.born, x.listed⟩) 1 _ rfl).set (y := ⟨x.name, M, T, x.stock, x.price, x.born, x.listed⟩) 2 _ rfl).set (y := ⟨x.name, M, T, x.stock, e.value, x.born, x.listed⟩) 4 _ rfl).set (y := ⟨x.name, M, T, x.stock, e.value, x.born, true⟩) 6 _ rfl).set (y := ⟨x.name, M, T, x.stock, e.value, e.at_, true⟩) 5 _ rfl)
      · exact (((((HFR.out.drewN n0).setCell (p := ⟨q, 1, none⟩) rfl _).setCell (p := ⟨q, 2, none⟩) rfl _).setCell (p := ⟨q, 4, none⟩) rfl _).setCell (p := ⟨q, 6, none⟩) rfl _).setCell (p := ⟨q, 5, none⟩) rfl _
  · have b1 : (e.kind == 11) = false := beq_eq_false_iff_ne.2 h1
    by_cases h2 : e.kind = 12
    · have b2 : (e.kind == 12) = true := by rw [h2]; rfl
      have H1 := Lib.hid h1
      have H2 := Lib.hid h2
      clear h1 h2
      go_enter Tryd.func37, Tryd.ntmps37
      go_wp2_with fail
      go_end0
      refine ⟨rfl, ?_, ?_⟩
      · rw [HG.out, if_neg H1.out, if_pos H2.out]
        exact (HQ.out.set (y := { x with stock := e.value }) 3 (.int .i64 e.value) rfl).below ((Below.refl _ _).alloc (Nat.le_refl _) _)
      · exact (Fr.setCell (S := fun k => k = q) (Fr.refl _ _) (p := ⟨q, 3, none⟩) rfl _).alloc _
    · have b2 : (e.kind == 12) = false := beq_eq_false_iff_ne.2 h2
      by_cases h3 : e.kind = 13
      · have b3 : (e.kind == 13) = true := by rw [h3]; rfl
        have H1 := Lib.hid h1
        have H2 := Lib.hid h2
        have H3 := Lib.hid h3
        clear h1 h2 h3
        go_enter Tryd.func37, Tryd.ntmps37
        go_wp2_with fail
        go_end0
        refine ⟨rfl, ?_, ?_⟩
        · rw [HG.out, if_neg H1.out, if_neg H2.out, if_pos H3.out]
          exact (HQ.out.set (y := { x with listed := false }) 6 (.bool false) rfl).below ((Below.refl _ _).alloc (Nat.le_refl _) _)
        · exact (Fr.setCell (S := fun k => k = q) (Fr.refl _ _) (p := ⟨q, 6, none⟩) rfl _).alloc _
      · have b3 : (e.kind == 13) = false := beq_eq_false_iff_ne.2 h3
        go_enter Tryd.func37, Tryd.ntmps37
        go_wp2_with fail
        go_end0
        rw [← HW.out]
        refine ⟨rfl, ?_, HFR.out⟩
        rw [HG.out, if_neg h1, if_neg h2, if_neg h3]
        exact HQW.out
end Go.Proofs.YtgpadcokcdpmnaaDoor.Fd
end
section
namespace Go.Proofs.YtgpadcokcdpmnaaDoor.Fd
open Go Go.RowKit Go.Maps Go.Shelf Go.Lib
set_option linter.unusedVariables false
set_option linter.unusedSimpArgs false
theorem add_none' (g j : Nat) : ((⟨g, 0, none⟩ : Addr).add j) = ⟨g, j, none⟩ := by unfold Addr.add; split <;> simp_all
def cellsV (l : List Ev) : List Value := l.flatMap (·.cells.toList)
theorem ev_cells_len (e : Ev) : e.cells.toList.length = 8 := rfl
theorem cellsV_get : ∀ (l : List Ev) (i j : Nat) (a : Ev), l[i]? = some a → j < 8 → (cellsV l)[i * 8 + j]? = a.cells.toList[j]?
  | [], i, j, a, h, _ => by simp at h
  | x :: r, 0, j, a, h, hj => by
    simp at h; subst h
    unfold cellsV
    rw [List.flatMap_cons, List.getElem?_append_left (by rw [ev_cells_len]; omega)]
    simp
  | x :: r, i + 1, j, a, h, hj => by
    simp at h
    have := cellsV_get r i j a h hj
    unfold cellsV at this ⊢
    rw [List.flatMap_cons, List.getElem?_append_right (by rw [ev_cells_len]; omega)]
    have e : (i + 1) * 8 + j - (x.cells.toList).length = i * 8 + j := by rw [ev_cells_len]; omega
    rw [e]; exact this
theorem cellsV_append (l m : List Ev) : cellsV (l ++ m) = cellsV l ++ cellsV m := by simp [cellsV, List.flatMap_append]
def Evs (w : World) (A : Option Addr) (l : List Ev) : Prop :=
  ∀ i e, l[i]? = some e → ∃ g, A = some ⟨g, 0, none⟩ ∧ g < w.heap.size ∧ ∀ j u, e.cells.toList[j]? = some u → w.cell? ⟨g, i * 8 + j, none⟩ = some u
theorem Evs.of_own {w : World} {base n : Nat} {t : TypeId} {A : Option Addr} {cap : Nat} {l : List Ev} (hn : l.length = n) (h : w.ownsRow base t 8 (.slice A n cap) n (cellsV l)) : Evs w A l := by
  intro i a hi
  have hp : 0 < n := by have := (List.getElem?_eq_some_iff.1 hi).1; omega
  obtain ⟨g, cap', hv, hg, hlt⟩ := h.form hp
  have hA : A = some ⟨g, 0, none⟩ := by injection hv
  subst hA
  have hc := h.cells (g := g) rfl
  refine ⟨g, rfl, hlt, fun j u hj => ?_⟩
  have hj8 : j < 8 := by have := (List.getElem?_eq_some_iff.1 hj).1; rw [ev_cells_len] at this; exact this
  have := hc (i * 8 + j) u (by rw [cellsV_get l i j a hi hj8]; exact hj)
  rwa [add_none'] at this
theorem Evs.below {w w' : World} {A : Option Addr} {l : List Ev} (h : Evs w A l) (hb : Below w.heap.size w w') : Evs w' A l := by
  intro i e hi
  obtain ⟨g, rfl, hg, hc⟩ := h i e hi
  exact ⟨g, rfl, Nat.lt_of_lt_of_le hg hb.size, fun j u hj => (hb.cell (p := ⟨g, i * 8 + j, none⟩) hg).trans (hc j u hj)⟩
def Ev.z : Ev := ⟨⟨#[]⟩, 0, 0, 0, ⟨#[]⟩, ⟨#[]⟩, 0, ⟨#[]⟩⟩
def lastE (L : List Ev) : Ev := L.getLast?.getD Ev.z
def evsOf (L : List Ev) (s : List UInt8) : List Ev := L.filter (fun e => e.item.data.toList == s)
def catCells (b : Nat) (e : Ev) (some_ : Bool) : Array Value := #[.map (some b), .string e.src, .int .i64 e.num, .int .i64 e.at_, .int .i64 e.kind, .string e.person, .string e.item, .int .i64 e.value, .string e.text, .bool some_]
structure Cat (B : Nat) (w : World) (p b : Nat) (L : List Ev) (M : List GE) : Prop where
  cells : w.heap[p]? = some (.cells (catCells b (lastE L) (!L.isEmpty)) 71 (0, 0))
  map : GM w b M
  hp : B ≤ p
  hb : B ≤ b
  none_ : ∀ s, gget M s = none → evsOf L s = []
  row : ∀ s v, gget M s = some v → w.ownsRow B 37 8 v (evsOf L s).length (cellsV (evsOf L s)) ∧ evsOf L s ≠ []
  apart : ∀ s t u v, s ≠ t → gget M s = some u → gget M t = some v → u.ownBlock ≠ v.ownBlock
theorem Cat.ltp {B : Nat} {w : World} {p b : Nat} {L : List Ev} {M : List GE} (h : Cat B w p b L M) : p < w.heap.size := (Array.getElem?_eq_some_iff.1 h.cells).1
theorem Cat.ltb {B : Nat} {w : World} {p b : Nat} {L : List Ev} {M : List GE} (h : Cat B w p b L M) : b < w.heap.size := h.map.lt
theorem ownsRow_below {w w' : World} {base n size : Nat} {e : TypeId} {v : Value} {xs : List Value} (h : w.ownsRow base e size v n xs) (hb : Below w.heap.size w w') : w'.ownsRow base e size v n xs := by
  refine ⟨h.1, ?_⟩
  rcases h.2 with h0 | ⟨g, cap, cur, h1, h2, h3, h4⟩
  · exact .inl h0
  · exact .inr ⟨g, cap, cur, h1, h2, (hb.block g (Array.getElem?_eq_some_iff.1 h3).1).trans h3, h4⟩
theorem Cat.below {B : Nat} {w w' : World} {p b : Nat} {L : List Ev} {M : List GE} (h : Cat B w p b L M) (hb : Below w.heap.size w w') : Cat B w' p b L M :=
  ⟨(hb.block _ h.ltp).trans h.cells, h.map.below hb, h.hp, h.hb, h.none_, fun s v hv => ⟨ownsRow_below (h.row s v hv).1 hb, (h.row s v hv).2⟩, h.apart⟩
set_option maxHeartbeats 1000000 in
theorem new_calls (w : World) : Calls Tryd.prog 18 #[] w fun e w' => e = .returned (.pointer (some ⟨w.heap.size + 1, 0, none⟩)) ∧ Cat w.heap.size w' (w.heap.size + 1) w.heap.size [] [] ∧ Below w.heap.size w w' := by
  have hmm := @run_makeMap Tryd.prog
  go_enter Tryd.func18, Tryd.ntmps18
  go_wp2_with fail
  go_ret
  refine ⟨rfl, ⟨?_, ?_, by omega, Nat.le_refl _, fun _ _ => rfl, fun s v hv => ?_, fun s t u v _ hv => ?_⟩, ((Below.refl _ _).alloc (Nat.le_refl _) _).alloc (by simp) _⟩
  · have := heap_alloc_new (w.alloc (.map #[] 0)) (.cells (catCells w.heap.size Ev.z false) 71)
    simpa [catCells, lastE, Ev.z] using this
  · exact (GM.made w).below ((Below.refl _ _).alloc (Nat.le_refl _) _)
  · cases hv
  · cases hv
end Go.Proofs.YtgpadcokcdpmnaaDoor.Fd
end
