/-
  The contract of slices.SortFunc at prefixes, laid by the kit (lay-plain).
-/
import Derived.Shelf.SlSortCmp.NoneTotal
import Derived.Test.YtimhcjakpdebjaaRows
import Derived.Test.YtimhcjakpdebjaaProg
namespace Go.Proofs.Ytimhcjakpdebjaa
open Go Go.Shelf Go.RowKit
def sortPref_ren : Go.Shelf.Ren := ⟨fun | 6 => 46 | 15 => 66 | 14 => 65 | 28 => 85 | 29 => 86 | 20 => 77 | 21 => 78 | 22 => 79 | 23 => 80 | 24 => 81 | 25 => 82 | 26 => 83 | 27 => 84 | 46 => 91 | 47 => 92 | 48 => 93 | 49 => 94 | 50 => 95 | 57 => 96 | n => n, fun | 22 => 39 | 24 => 24 | 25 => 97 | 3 => 3 | 39 => 132 | 0 => 0 | 53 => 67 | 55 => 60 | 4 => 4 | 46 => 151 | 45 => 150 | 50 => 35 | 5 => 5 | 9 => 9 | 66 => 160 | 70 => 164 | 76 => 166 | 77 => 92 | n => n, fun | n => n⟩
theorem sortPref : Go.Proofs.SlLaysF0.n6 Try.prog sortPref_ren := {
  mixed := by kernel_rfl
  f6 := ⟨Try.f46.name, by decide, Try.func46.trans (congrArg some (by kernel_rfl))⟩
  f14 := ⟨Try.f65.name, by decide, Try.func65.trans (congrArg some (by kernel_rfl))⟩
  f15 := Try.func66.trans (congrArg some (by kernel_rfl))
  f20 := ⟨Try.f77.name, by decide, Try.func77.trans (congrArg some (by kernel_rfl))⟩
  f21 := ⟨Try.f78.name, by decide, Try.func78.trans (congrArg some (by kernel_rfl))⟩
  f22 := ⟨Try.f79.name, by decide, Try.func79.trans (congrArg some (by kernel_rfl))⟩
  f23 := ⟨Try.f80.name, by decide, Try.func80.trans (congrArg some (by kernel_rfl))⟩
  f24 := ⟨Try.f81.name, by decide, Try.func81.trans (congrArg some (by kernel_rfl))⟩
  f25 := ⟨Try.f82.name, by decide, Try.func82.trans (congrArg some (by kernel_rfl))⟩
  f26 := ⟨Try.f83.name, by decide, Try.func83.trans (congrArg some (by kernel_rfl))⟩
  f27 := ⟨Try.f84.name, by decide, Try.func84.trans (congrArg some (by kernel_rfl))⟩
  f28 := Try.func85.trans (congrArg some (by kernel_rfl))
  f29 := Try.func86.trans (congrArg some (by kernel_rfl))
  f46 := ⟨Try.f91.name, by decide, Try.func91.trans (congrArg some (by kernel_rfl))⟩
  f47 := Try.func92.trans (congrArg some (by kernel_rfl))
  f48 := Try.func93.trans (congrArg some (by kernel_rfl))
  f49 := ⟨Try.f94.name, by decide, Try.func94.trans (congrArg some (by kernel_rfl))⟩
  f50 := ⟨Try.f95.name, by decide, Try.func95.trans (congrArg some (by kernel_rfl))⟩
  f57 := ⟨Try.f96.name, by decide, Try.func96.trans (congrArg some (by kernel_rfl))⟩
  t0 := Try.underlying0
  a0 := Try.isAgg0
  z0 := Try.sizeOf0
  v0 := Try.zeroValue0
  t3 := Try.underlying3
  a3 := Try.isAgg3
  z3 := Try.sizeOf3
  v3 := Try.zeroValue3
  t4 := Try.underlying4
  a4 := Try.isAgg4
  z4 := Try.sizeOf4
  v4 := Try.zeroValue4
  t5 := Try.underlying5
  a5 := Try.isAgg5
  z5 := Try.sizeOf5
  v5 := Try.zeroValue5
  t9 := Try.underlying9
  a9 := Try.isAgg9
  z9 := Try.sizeOf9
  v9 := Try.zeroValue9
  t22 := Try.underlying39
  a22 := Try.isAgg39
  z22 := Try.sizeOf39
  v22 := Try.zeroValue39
  t25 := Try.underlying97
  a25 := Try.isAgg97
  z25 := Try.sizeOf97
  v25 := Try.zeroValue97
  t39 := Try.underlying132
  a39 := Try.isAgg132
  z39 := Try.sizeOf132
  v39 := Try.zeroValue132
  t45 := Try.underlying150
  a45 := Try.isAgg150
  z45 := Try.sizeOf150
  v45 := Try.zeroValue150
  t46 := Try.underlying151
  a46 := Try.isAgg151
  z46 := Try.sizeOf151
  v46 := Try.zeroValue151
  t50 := Try.underlying35
  a50 := Try.isAgg35
  z50 := Try.sizeOf35
  v50 := Try.zeroValue35
  t53 := Try.underlying67
  a53 := Try.isAgg67
  z53 := Try.sizeOf67
  v53 := Try.zeroValue67
  t55 := Try.underlying60
  a55 := Try.isAgg60
  z55 := Try.sizeOf60
  v55 := Try.zeroValue60
  t66 := Try.underlying160
  a66 := Try.isAgg160
  z66 := Try.sizeOf160
  v66 := Try.zeroValue160
  t70 := Try.underlying164
  a70 := Try.isAgg164
  z70 := Try.sizeOf164
  v70 := Try.zeroValue164
  t76 := Try.underlying166
  a76 := Try.isAgg166
  z76 := Try.sizeOf166
  v76 := Try.zeroValue166
  t77 := Try.underlying92
  a77 := Try.isAgg92
  z77 := Try.sizeOf92
  v77 := Try.zeroValue92 }
end Go.Proofs.Ytimhcjakpdebjaa
