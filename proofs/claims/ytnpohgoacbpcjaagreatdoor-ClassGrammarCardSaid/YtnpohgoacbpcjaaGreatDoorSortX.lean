import Derived.Shelf.SlGeneric
import Derived.Shelf.SlSortCmp.WholeK
import Derived.Shelf.SlSortCmp.NoneTotal
import Derived.Ground.SlsfProg
import Derived.Shelf.Spec.SlicesGrow
import Derived.Ground.Names8Prog
import Derived.Test.YtnpohgoacbpcjaaGreatDoorProg
namespace Go.Proofs
open Go.Shelf
def Tryz.sortRange_ren : Go.Shelf.Ren := ⟨fun | 6 => 25 | 15 => 39 | 14 => 38 | 28 => 57 | 29 => 58 | 20 => 49 | 21 => 50 | 22 => 51 | 23 => 52 | 24 => 53 | 25 => 54 | 26 => 55 | 27 => 56 | 46 => 63 | 47 => 64 | 48 => 65 | 49 => 66 | 50 => 67 | 57 => 78 | n => n, fun | 22 => 22 | 24 => 28 | 25 => 52 | 3 => 3 | 39 => 81 | 0 => 0 | 53 => 98 | 55 => 100 | 4 => 4 | 46 => 92 | 45 => 91 | 50 => 53 | 5 => 5 | 9 => 9 | 66 => 105 | 70 => 109 | 76 => 123 | 77 => 124 | n => n, fun | n => n⟩
theorem Tryz.sortRange : Go.Proofs.SlLaysF0.n6 Tryz.prog Tryz.sortRange_ren := {
  mixed := by kernel_rfl
  f6 := ⟨Tryz.f25.name, by decide, Tryz.func25.trans (congrArg some (by kernel_rfl))⟩
  f14 := ⟨Tryz.f38.name, by decide, Tryz.func38.trans (congrArg some (by kernel_rfl))⟩
  f15 := Tryz.func39.trans (congrArg some (by kernel_rfl))
  f20 := ⟨Tryz.f49.name, by decide, Tryz.func49.trans (congrArg some (by kernel_rfl))⟩
  f21 := ⟨Tryz.f50.name, by decide, Tryz.func50.trans (congrArg some (by kernel_rfl))⟩
  f22 := ⟨Tryz.f51.name, by decide, Tryz.func51.trans (congrArg some (by kernel_rfl))⟩
  f23 := ⟨Tryz.f52.name, by decide, Tryz.func52.trans (congrArg some (by kernel_rfl))⟩
  f24 := ⟨Tryz.f53.name, by decide, Tryz.func53.trans (congrArg some (by kernel_rfl))⟩
  f25 := ⟨Tryz.f54.name, by decide, Tryz.func54.trans (congrArg some (by kernel_rfl))⟩
  f26 := ⟨Tryz.f55.name, by decide, Tryz.func55.trans (congrArg some (by kernel_rfl))⟩
  f27 := ⟨Tryz.f56.name, by decide, Tryz.func56.trans (congrArg some (by kernel_rfl))⟩
  f28 := Tryz.func57.trans (congrArg some (by kernel_rfl))
  f29 := Tryz.func58.trans (congrArg some (by kernel_rfl))
  f46 := ⟨Tryz.f63.name, by decide, Tryz.func63.trans (congrArg some (by kernel_rfl))⟩
  f47 := Tryz.func64.trans (congrArg some (by kernel_rfl))
  f48 := Tryz.func65.trans (congrArg some (by kernel_rfl))
  f49 := ⟨Tryz.f66.name, by decide, Tryz.func66.trans (congrArg some (by kernel_rfl))⟩
  f50 := ⟨Tryz.f67.name, by decide, Tryz.func67.trans (congrArg some (by kernel_rfl))⟩
  f57 := ⟨Tryz.f78.name, by decide, Tryz.func78.trans (congrArg some (by kernel_rfl))⟩
  t0 := Tryz.underlying0
  a0 := Tryz.isAgg0
  z0 := Tryz.sizeOf0
  v0 := Tryz.zeroValue0
  t3 := Tryz.underlying3
  a3 := Tryz.isAgg3
  z3 := Tryz.sizeOf3
  v3 := Tryz.zeroValue3
  t4 := Tryz.underlying4
  a4 := Tryz.isAgg4
  z4 := Tryz.sizeOf4
  v4 := Tryz.zeroValue4
  t5 := Tryz.underlying5
  a5 := Tryz.isAgg5
  z5 := Tryz.sizeOf5
  v5 := Tryz.zeroValue5
  t9 := Tryz.underlying9
  a9 := Tryz.isAgg9
  z9 := Tryz.sizeOf9
  v9 := Tryz.zeroValue9
  t22 := Tryz.underlying22
  a22 := Tryz.isAgg22
  z22 := Tryz.sizeOf22
  v22 := Tryz.zeroValue22
  t25 := Tryz.underlying52
  a25 := Tryz.isAgg52
  z25 := Tryz.sizeOf52
  v25 := Tryz.zeroValue52
  t39 := Tryz.underlying81
  a39 := Tryz.isAgg81
  z39 := Tryz.sizeOf81
  v39 := Tryz.zeroValue81
  t45 := Tryz.underlying91
  a45 := Tryz.isAgg91
  z45 := Tryz.sizeOf91
  v45 := Tryz.zeroValue91
  t46 := Tryz.underlying92
  a46 := Tryz.isAgg92
  z46 := Tryz.sizeOf92
  v46 := Tryz.zeroValue92
  t50 := Tryz.underlying53
  a50 := Tryz.isAgg53
  z50 := Tryz.sizeOf53
  v50 := Tryz.zeroValue53
  t53 := Tryz.underlying98
  a53 := Tryz.isAgg98
  z53 := Tryz.sizeOf98
  v53 := Tryz.zeroValue98
  t55 := Tryz.underlying100
  a55 := Tryz.isAgg100
  z55 := Tryz.sizeOf100
  v55 := Tryz.zeroValue100
  t66 := Tryz.underlying105
  a66 := Tryz.isAgg105
  z66 := Tryz.sizeOf105
  v66 := Tryz.zeroValue105
  t70 := Tryz.underlying109
  a70 := Tryz.isAgg109
  z70 := Tryz.sizeOf109
  v70 := Tryz.zeroValue109
  t76 := Tryz.underlying123
  a76 := Tryz.isAgg123
  z76 := Tryz.sizeOf123
  v76 := Tryz.zeroValue123
  t77 := Tryz.underlying124
  a77 := Tryz.isAgg124
  z77 := Tryz.sizeOf124
  v77 := Tryz.zeroValue124 }
def Tryz.growRange_ren : Go.Shelf.Ren := ⟨fun | 4 => 48 | n => n, fun | 22 => 25 | 25 => 28 | 3 => 3 | 4 => 4 | 9 => 9 | 20 => 20 | 0 => 0 | n => n, fun | n => n⟩
theorem Tryz.growRange : Go.Proofs.Lays8.n4 Tryz.prog Tryz.growRange_ren := {
  mixed := by kernel_rfl
  f4 := ⟨Tryz.f48.name, by decide, Tryz.func48.trans (congrArg some (by kernel_rfl))⟩
  t0 := Tryz.underlying0
  a0 := Tryz.isAgg0
  z0 := Tryz.sizeOf0
  v0 := Tryz.zeroValue0
  t3 := Tryz.underlying3
  a3 := Tryz.isAgg3
  z3 := Tryz.sizeOf3
  v3 := Tryz.zeroValue3
  t4 := Tryz.underlying4
  a4 := Tryz.isAgg4
  z4 := Tryz.sizeOf4
  v4 := Tryz.zeroValue4
  t9 := Tryz.underlying9
  a9 := Tryz.isAgg9
  z9 := Tryz.sizeOf9
  v9 := Tryz.zeroValue9
  t20 := Tryz.underlying20
  a20 := Tryz.isAgg20
  z20 := Tryz.sizeOf20
  v20 := Tryz.zeroValue20
  t22 := Tryz.underlying25
  a22 := Tryz.isAgg25
  z22 := Tryz.sizeOf25
  v22 := Tryz.zeroValue25 }
end Go.Proofs
