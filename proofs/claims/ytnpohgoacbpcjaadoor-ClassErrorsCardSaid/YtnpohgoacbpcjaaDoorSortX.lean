import Derived.Shelf.SlGeneric
import Derived.Shelf.SlSortCmp.WholeK
import Derived.Shelf.SlSortCmp.NoneTotal
import Derived.Ground.SlsfProg
import Derived.Test.YtnpohgoacbpcjaaDoorProg
namespace Go.Proofs
open Go.Shelf
def Tryd.sortRange_ren : Go.Shelf.Ren := ⟨fun | 6 => 25 | 15 => 36 | 14 => 35 | 28 => 61 | 29 => 62 | 20 => 53 | 21 => 54 | 22 => 55 | 23 => 56 | 24 => 57 | 25 => 58 | 26 => 59 | 27 => 60 | 46 => 78 | 47 => 79 | 48 => 80 | 49 => 81 | 50 => 82 | 57 => 95 | n => n, fun | 22 => 26 | 24 => 41 | 25 => 62 | 3 => 3 | 39 => 25 | 0 => 0 | 53 => 102 | 55 => 77 | 4 => 4 | 46 => 96 | 45 => 95 | 50 => 38 | 5 => 5 | 9 => 9 | 66 => 117 | 70 => 121 | 76 => 130 | 77 => 131 | n => n, fun | n => n⟩
theorem Tryd.sortRange : Go.Proofs.SlLaysF0.n6 Tryd.prog Tryd.sortRange_ren := {
  mixed := by kernel_rfl
  f6 := ⟨Tryd.f25.name, by decide, Tryd.func25.trans (congrArg some (by kernel_rfl))⟩
  f14 := ⟨Tryd.f35.name, by decide, Tryd.func35.trans (congrArg some (by kernel_rfl))⟩
  f15 := Tryd.func36.trans (congrArg some (by kernel_rfl))
  f20 := ⟨Tryd.f53.name, by decide, Tryd.func53.trans (congrArg some (by kernel_rfl))⟩
  f21 := ⟨Tryd.f54.name, by decide, Tryd.func54.trans (congrArg some (by kernel_rfl))⟩
  f22 := ⟨Tryd.f55.name, by decide, Tryd.func55.trans (congrArg some (by kernel_rfl))⟩
  f23 := ⟨Tryd.f56.name, by decide, Tryd.func56.trans (congrArg some (by kernel_rfl))⟩
  f24 := ⟨Tryd.f57.name, by decide, Tryd.func57.trans (congrArg some (by kernel_rfl))⟩
  f25 := ⟨Tryd.f58.name, by decide, Tryd.func58.trans (congrArg some (by kernel_rfl))⟩
  f26 := ⟨Tryd.f59.name, by decide, Tryd.func59.trans (congrArg some (by kernel_rfl))⟩
  f27 := ⟨Tryd.f60.name, by decide, Tryd.func60.trans (congrArg some (by kernel_rfl))⟩
  f28 := Tryd.func61.trans (congrArg some (by kernel_rfl))
  f29 := Tryd.func62.trans (congrArg some (by kernel_rfl))
  f46 := ⟨Tryd.f78.name, by decide, Tryd.func78.trans (congrArg some (by kernel_rfl))⟩
  f47 := Tryd.func79.trans (congrArg some (by kernel_rfl))
  f48 := Tryd.func80.trans (congrArg some (by kernel_rfl))
  f49 := ⟨Tryd.f81.name, by decide, Tryd.func81.trans (congrArg some (by kernel_rfl))⟩
  f50 := ⟨Tryd.f82.name, by decide, Tryd.func82.trans (congrArg some (by kernel_rfl))⟩
  f57 := ⟨Tryd.f95.name, by decide, Tryd.func95.trans (congrArg some (by kernel_rfl))⟩
  t0 := Tryd.underlying0
  a0 := Tryd.isAgg0
  z0 := Tryd.sizeOf0
  v0 := Tryd.zeroValue0
  t3 := Tryd.underlying3
  a3 := Tryd.isAgg3
  z3 := Tryd.sizeOf3
  v3 := Tryd.zeroValue3
  t4 := Tryd.underlying4
  a4 := Tryd.isAgg4
  z4 := Tryd.sizeOf4
  v4 := Tryd.zeroValue4
  t5 := Tryd.underlying5
  a5 := Tryd.isAgg5
  z5 := Tryd.sizeOf5
  v5 := Tryd.zeroValue5
  t9 := Tryd.underlying9
  a9 := Tryd.isAgg9
  z9 := Tryd.sizeOf9
  v9 := Tryd.zeroValue9
  t22 := Tryd.underlying26
  a22 := Tryd.isAgg26
  z22 := Tryd.sizeOf26
  v22 := Tryd.zeroValue26
  t25 := Tryd.underlying62
  a25 := Tryd.isAgg62
  z25 := Tryd.sizeOf62
  v25 := Tryd.zeroValue62
  t39 := Tryd.underlying25
  a39 := Tryd.isAgg25
  z39 := Tryd.sizeOf25
  v39 := Tryd.zeroValue25
  t45 := Tryd.underlying95
  a45 := Tryd.isAgg95
  z45 := Tryd.sizeOf95
  v45 := Tryd.zeroValue95
  t46 := Tryd.underlying96
  a46 := Tryd.isAgg96
  z46 := Tryd.sizeOf96
  v46 := Tryd.zeroValue96
  t50 := Tryd.underlying38
  a50 := Tryd.isAgg38
  z50 := Tryd.sizeOf38
  v50 := Tryd.zeroValue38
  t53 := Tryd.underlying102
  a53 := Tryd.isAgg102
  z53 := Tryd.sizeOf102
  v53 := Tryd.zeroValue102
  t55 := Tryd.underlying77
  a55 := Tryd.isAgg77
  z55 := Tryd.sizeOf77
  v55 := Tryd.zeroValue77
  t66 := Tryd.underlying117
  a66 := Tryd.isAgg117
  z66 := Tryd.sizeOf117
  v66 := Tryd.zeroValue117
  t70 := Tryd.underlying121
  a70 := Tryd.isAgg121
  z70 := Tryd.sizeOf121
  v70 := Tryd.zeroValue121
  t76 := Tryd.underlying130
  a76 := Tryd.isAgg130
  z76 := Tryd.sizeOf130
  v76 := Tryd.zeroValue130
  t77 := Tryd.underlying131
  a77 := Tryd.isAgg131
  z77 := Tryd.sizeOf131
  v77 := Tryd.zeroValue131 }
end Go.Proofs
