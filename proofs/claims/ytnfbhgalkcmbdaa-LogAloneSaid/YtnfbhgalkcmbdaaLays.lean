/-
  DERIVED: THE SHELF's CONTRACTS AT THIS DUMP, IN PLAIN WORDS (tools/lay-plain.mjs out of 'YtnfbhgalkcmbdaaLays.lean', which tools/lay-shelf.mjs wrote): THE SAME DECLARATIONS UNDER THE SAME NAMES: 'import', 'namespace', 'open', 'def', 'theorem' AND NOTHING ELSE: no command of the shelf's: FOR A HAND-IN. Each laying: the table of numbers ('.._ren') and one theorem, a field a fact of the dump's own or the kernel's comparison; each contract: ONE APPLICATION.
-/
import Derived.Shelf.SlIterI.Nil
import Derived.Shelf.SortM.Plain
import Derived.Shelf.SortM.SortNone
import Derived.Ground.GgzProg
import Derived.Ground.SlgmProg
import Derived.Test.YtnfbhgalkcmbdaaProg
set_option linter.unusedVariables false
set_option linter.unusedSimpArgs false
set_option linter.constructorNameAsVariable false
namespace Go.Proofs
open Go.Shelf
def Try.keysA_ren : Go.Shelf.Ren := ⟨fun | 7 => 51 | 10 => 71 | n => n, fun | 23 => 68 | 26 => 3 | 3 => 86 | 28 => 83 | 0 => 0 | 27 => 82 | 33 => 41 | 4 => 4 | n => n, fun | n => n⟩
theorem Try.keysA : Go.Proofs.SlLaysZI.n7 Try.prog Try.keysA_ren := {
  mixed := by kernel_rfl
  f7 := ⟨Try.f51.name, by decide, Try.func51.trans (congrArg some (by kernel_rfl))⟩
  f10 := ⟨Try.f71.name, by decide, Try.func71.trans (congrArg some (by kernel_rfl))⟩
  t0 := Try.underlying0
  a0 := Try.isAgg0
  z0 := Try.sizeOf0
  v0 := Try.zeroValue0
  t4 := Try.underlying4
  a4 := Try.isAgg4
  z4 := Try.sizeOf4
  v4 := Try.zeroValue4
  t23 := Try.underlying68
  a23 := Try.isAgg68
  z23 := Try.sizeOf68
  v23 := Try.zeroValue68
  t26 := Try.underlying3
  a26 := Try.isAgg3
  z26 := Try.sizeOf3
  v26 := Try.zeroValue3
  t27 := Try.underlying82
  a27 := Try.isAgg82
  z27 := Try.sizeOf82
  v27 := Try.zeroValue82
  t28 := Try.underlying83
  a28 := Try.isAgg83
  z28 := Try.sizeOf83
  v28 := Try.zeroValue83
  t33 := Try.underlying41
  a33 := Try.isAgg41
  z33 := Try.sizeOf41
  v33 := Try.zeroValue41 }
def Try.sortedA_ren : Go.Shelf.Ren := ⟨fun | 6 => 50 | 8 => 69 | 9 => 70 | 11 => 79 | 13 => 81 | 12 => 80 | 23 => 97 | 24 => 98 | 14 => 88 | 15 => 89 | 16 => 90 | 17 => 91 | 18 => 92 | 19 => 93 | 20 => 94 | 21 => 95 | 22 => 96 | 25 => 102 | 26 => 103 | 27 => 104 | 28 => 105 | 29 => 106 | 30 => 107 | 31 => 109 | n => n, fun | 26 => 3 | 28 => 83 | 24 => 32 | 0 => 0 | 3 => 3 | 37 => 123 | 48 => 121 | 50 => 35 | 4 => 4 | 40 => 136 | 39 => 135 | 45 => 141 | 5 => 5 | 9 => 9 | 51 => 148 | 55 => 152 | 57 => 155 | 58 => 156 | 33 => 41 | n => n, fun | n => n⟩
theorem Try.sortedA : Go.Proofs.SlLaysZI.n6 Try.prog Try.sortedA_ren := {
  mixed := by kernel_rfl
  f6 := ⟨Try.f50.name, by decide, Try.func50.trans (congrArg some (by kernel_rfl))⟩
  f8 := ⟨Try.f69.name, by decide, Try.func69.trans (congrArg some (by kernel_rfl))⟩
  f11 := ⟨Try.f79.name, by decide, Try.func79.trans (congrArg some (by kernel_rfl))⟩
  t0 := Try.underlying0
  a0 := Try.isAgg0
  z0 := Try.sizeOf0
  v0 := Try.zeroValue0
  t24 := Try.underlying32
  a24 := Try.isAgg32
  z24 := Try.sizeOf32
  v24 := Try.zeroValue32
  t26 := Try.underlying3
  a26 := Try.isAgg3
  z26 := Try.sizeOf3
  v26 := Try.zeroValue3
  t28 := Try.underlying83
  a28 := Try.isAgg83
  z28 := Try.sizeOf83
  v28 := Try.zeroValue83
  i26 := by kernel_rfl }
def Try.sortA_ren : Go.Shelf.Ren := ⟨fun | 5 => 70 | 8 => 81 | 7 => 80 | 19 => 97 | 20 => 98 | 10 => 88 | 11 => 89 | 12 => 90 | 13 => 91 | 14 => 92 | 15 => 93 | 16 => 94 | 17 => 95 | 18 => 96 | 30 => 102 | 31 => 103 | 32 => 104 | 33 => 105 | 34 => 106 | 35 => 107 | 40 => 109 | n => n, fun | 23 => 32 | 25 => 3 | 3 => 3 | 32 => 123 | 22 => 32 | 0 => 0 | 44 => 121 | 46 => 35 | 4 => 4 | 36 => 136 | 35 => 135 | 41 => 141 | 5 => 5 | 9 => 9 | 53 => 148 | 57 => 152 | 63 => 155 | 64 => 156 | n => n, fun | n => n⟩
theorem Try.sortA : Go.Proofs.SlLaysM.n5 Try.prog Try.sortA_ren := {
  mixed := by kernel_rfl
  f5 := ⟨Try.f70.name, by decide, Try.func70.trans (congrArg some (by kernel_rfl))⟩
  f7 := ⟨Try.f80.name, by decide, Try.func80.trans (congrArg some (by kernel_rfl))⟩
  f8 := Try.func81.trans (congrArg some (by kernel_rfl))
  f10 := ⟨Try.f88.name, by decide, Try.func88.trans (congrArg some (by kernel_rfl))⟩
  f11 := ⟨Try.f89.name, by decide, Try.func89.trans (congrArg some (by kernel_rfl))⟩
  f12 := ⟨Try.f90.name, by decide, Try.func90.trans (congrArg some (by kernel_rfl))⟩
  f13 := ⟨Try.f91.name, by decide, Try.func91.trans (congrArg some (by kernel_rfl))⟩
  f14 := ⟨Try.f92.name, by decide, Try.func92.trans (congrArg some (by kernel_rfl))⟩
  f15 := ⟨Try.f93.name, by decide, Try.func93.trans (congrArg some (by kernel_rfl))⟩
  f16 := ⟨Try.f94.name, by decide, Try.func94.trans (congrArg some (by kernel_rfl))⟩
  f17 := ⟨Try.f95.name, by decide, Try.func95.trans (congrArg some (by kernel_rfl))⟩
  f18 := ⟨Try.f96.name, by decide, Try.func96.trans (congrArg some (by kernel_rfl))⟩
  f19 := Try.func97.trans (congrArg some (by kernel_rfl))
  f20 := Try.func98.trans (congrArg some (by kernel_rfl))
  f30 := ⟨Try.f102.name, by decide, Try.func102.trans (congrArg some (by kernel_rfl))⟩
  f31 := Try.func103.trans (congrArg some (by kernel_rfl))
  f32 := Try.func104.trans (congrArg some (by kernel_rfl))
  f33 := ⟨Try.f105.name, by decide, Try.func105.trans (congrArg some (by kernel_rfl))⟩
  f34 := ⟨Try.f106.name, by decide, Try.func106.trans (congrArg some (by kernel_rfl))⟩
  f35 := ⟨Try.f107.name, by decide, Try.func107.trans (congrArg some (by kernel_rfl))⟩
  f40 := ⟨Try.f109.name, by decide, Try.func109.trans (congrArg some (by kernel_rfl))⟩
  t0 := Try.underlying0
  a0 := Try.isAgg0
  z0 := Try.sizeOf0
  v0 := Try.zeroValue0
  t3 := Try.underlying3
  a3 := Try.isAgg3
  z3 := Try.sizeOf3
  v3 := Try.zeroValue3
  t4 := Try.underlying4
  a4 := Try.isAgg4
  z4 := Try.sizeOf4
  v4 := Try.zeroValue4
  t5 := Try.underlying5
  a5 := Try.isAgg5
  z5 := Try.sizeOf5
  v5 := Try.zeroValue5
  t9 := Try.underlying9
  a9 := Try.isAgg9
  z9 := Try.sizeOf9
  v9 := Try.zeroValue9
  t22 := Try.underlying32
  a22 := Try.isAgg32
  z22 := Try.sizeOf32
  v22 := Try.zeroValue32
  t23 := Try.underlying32
  a23 := Try.isAgg32
  z23 := Try.sizeOf32
  v23 := Try.zeroValue32
  t25 := Try.underlying3
  a25 := Try.isAgg3
  z25 := Try.sizeOf3
  v25 := Try.zeroValue3
  t32 := Try.underlying123
  a32 := Try.isAgg123
  z32 := Try.sizeOf123
  v32 := Try.zeroValue123
  t35 := Try.underlying135
  a35 := Try.isAgg135
  z35 := Try.sizeOf135
  v35 := Try.zeroValue135
  t36 := Try.underlying136
  a36 := Try.isAgg136
  z36 := Try.sizeOf136
  v36 := Try.zeroValue136
  t41 := Try.underlying141
  a41 := Try.isAgg141
  z41 := Try.sizeOf141
  v41 := Try.zeroValue141
  t44 := Try.underlying121
  a44 := Try.isAgg121
  z44 := Try.sizeOf121
  v44 := Try.zeroValue121
  t46 := Try.underlying35
  a46 := Try.isAgg35
  z46 := Try.sizeOf35
  v46 := Try.zeroValue35
  t53 := Try.underlying148
  a53 := Try.isAgg148
  z53 := Try.sizeOf148
  v53 := Try.zeroValue148
  t57 := Try.underlying152
  a57 := Try.isAgg152
  z57 := Try.sizeOf152
  v57 := Try.zeroValue152
  t63 := Try.underlying155
  a63 := Try.isAgg155
  z63 := Try.sizeOf155
  v63 := Try.zeroValue155
  t64 := Try.underlying156
  a64 := Try.isAgg156
  z64 := Try.sizeOf156
  v64 := Try.zeroValue156 }
end Go.Proofs
