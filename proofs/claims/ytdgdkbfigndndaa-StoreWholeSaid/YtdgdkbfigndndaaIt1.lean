/-
  DERIVED: THE SHELF's CONTRACTS AT THIS DUMP, IN PLAIN WORDS (tools/lay-plain.mjs out of 'YtdgdkbfigndndaaIt0.lean', which tools/lay-shelf.mjs wrote): THE SAME DECLARATIONS UNDER THE SAME NAMES: 'import', 'namespace', 'open', 'def', 'theorem' AND NOTHING ELSE: no command of the shelf's: FOR A HAND-IN. Each laying: the table of numbers ('.._ren') and one theorem, a field a fact of the dump's own or the kernel's comparison; each contract: ONE APPLICATION.
-/
import Derived.Shelf.SlIterI.Nil
import Derived.Shelf.SlIterI.Sorted
import Derived.Shelf.SortM.Plain
import Derived.Shelf.SortM.SortNone
import Derived.Ground.GgzProg
import Derived.Ground.SlgmProg
import Derived.Test.YtdgdkbfigndndaaProg
namespace Go.Proofs
open Go.Shelf
def Try.keysA_ren : Go.Shelf.Ren := ⟨fun | 7 => 35 | 10 => 49 | n => n, fun | 23 => 65 | 26 => 3 | 3 => 72 | 28 => 82 | 0 => 0 | 27 => 81 | 33 => 91 | 4 => 4 | n => n, fun | n => n⟩
theorem Try.keysA : Go.Proofs.SlLaysZI.n7 Try.prog Try.keysA_ren := {
  mixed := by kernel_rfl
  f7 := ⟨Try.f35.name, by decide, Try.func35.trans (congrArg some (by kernel_rfl))⟩
  f10 := ⟨Try.f49.name, by decide, Try.func49.trans (congrArg some (by kernel_rfl))⟩
  t0 := Try.underlying0
  a0 := Try.isAgg0
  z0 := Try.sizeOf0
  v0 := Try.zeroValue0
  t4 := Try.underlying4
  a4 := Try.isAgg4
  z4 := Try.sizeOf4
  v4 := Try.zeroValue4
  t23 := Try.underlying65
  a23 := Try.isAgg65
  z23 := Try.sizeOf65
  v23 := Try.zeroValue65
  t26 := Try.underlying3
  a26 := Try.isAgg3
  z26 := Try.sizeOf3
  v26 := Try.zeroValue3
  t27 := Try.underlying81
  a27 := Try.isAgg81
  z27 := Try.sizeOf81
  v27 := Try.zeroValue81
  t28 := Try.underlying82
  a28 := Try.isAgg82
  z28 := Try.sizeOf82
  v28 := Try.zeroValue82
  t33 := Try.underlying91
  a33 := Try.isAgg91
  z33 := Try.sizeOf91
  v33 := Try.zeroValue91 }
def Try.sortedA_ren : Go.Shelf.Ren := ⟨fun | 6 => 34 | 8 => 47 | 9 => 48 | 11 => 52 | 13 => 54 | 12 => 53 | 23 => 66 | 24 => 67 | 14 => 57 | 15 => 58 | 16 => 59 | 17 => 60 | 18 => 61 | 19 => 62 | 20 => 63 | 21 => 64 | 22 => 65 | 25 => 68 | 26 => 69 | 27 => 70 | 28 => 71 | 29 => 72 | 30 => 73 | 31 => 74 | n => n, fun | 26 => 3 | 28 => 82 | 24 => 79 | 0 => 0 | 3 => 3 | 37 => 103 | 48 => 115 | 50 => 117 | 4 => 4 | 40 => 107 | 39 => 106 | 45 => 112 | 5 => 5 | 9 => 9 | 51 => 118 | 55 => 122 | 57 => 124 | 58 => 125 | 33 => 91 | n => n, fun | n => n⟩
theorem Try.sortedA : Go.Proofs.SlLaysZI.n6 Try.prog Try.sortedA_ren := {
  mixed := by kernel_rfl
  f6 := ⟨Try.f34.name, by decide, Try.func34.trans (congrArg some (by kernel_rfl))⟩
  f8 := ⟨Try.f47.name, by decide, Try.func47.trans (congrArg some (by kernel_rfl))⟩
  f11 := ⟨Try.f52.name, by decide, Try.func52.trans (congrArg some (by kernel_rfl))⟩
  t0 := Try.underlying0
  a0 := Try.isAgg0
  z0 := Try.sizeOf0
  v0 := Try.zeroValue0
  t24 := Try.underlying79
  a24 := Try.isAgg79
  z24 := Try.sizeOf79
  v24 := Try.zeroValue79
  t26 := Try.underlying3
  a26 := Try.isAgg3
  z26 := Try.sizeOf3
  v26 := Try.zeroValue3
  t28 := Try.underlying82
  a28 := Try.isAgg82
  z28 := Try.sizeOf82
  v28 := Try.zeroValue82
  i26 := by kernel_rfl }
def Try.sortA_ren : Go.Shelf.Ren := ⟨fun | 5 => 48 | 8 => 54 | 7 => 53 | 19 => 66 | 20 => 67 | 10 => 57 | 11 => 58 | 12 => 59 | 13 => 60 | 14 => 61 | 15 => 62 | 16 => 63 | 17 => 64 | 18 => 65 | 30 => 68 | 31 => 69 | 32 => 70 | 33 => 71 | 34 => 72 | 35 => 73 | 40 => 74 | n => n, fun | 23 => 79 | 25 => 3 | 3 => 3 | 32 => 103 | 22 => 79 | 0 => 0 | 44 => 115 | 46 => 117 | 4 => 4 | 36 => 107 | 35 => 106 | 41 => 112 | 5 => 5 | 9 => 9 | 53 => 118 | 57 => 122 | 63 => 124 | 64 => 125 | n => n, fun | n => n⟩
theorem Try.sortA : Go.Proofs.SlLaysM.n5 Try.prog Try.sortA_ren := {
  mixed := by kernel_rfl
  f5 := ⟨Try.f48.name, by decide, Try.func48.trans (congrArg some (by kernel_rfl))⟩
  f7 := ⟨Try.f53.name, by decide, Try.func53.trans (congrArg some (by kernel_rfl))⟩
  f8 := Try.func54.trans (congrArg some (by kernel_rfl))
  f10 := ⟨Try.f57.name, by decide, Try.func57.trans (congrArg some (by kernel_rfl))⟩
  f11 := ⟨Try.f58.name, by decide, Try.func58.trans (congrArg some (by kernel_rfl))⟩
  f12 := ⟨Try.f59.name, by decide, Try.func59.trans (congrArg some (by kernel_rfl))⟩
  f13 := ⟨Try.f60.name, by decide, Try.func60.trans (congrArg some (by kernel_rfl))⟩
  f14 := ⟨Try.f61.name, by decide, Try.func61.trans (congrArg some (by kernel_rfl))⟩
  f15 := ⟨Try.f62.name, by decide, Try.func62.trans (congrArg some (by kernel_rfl))⟩
  f16 := ⟨Try.f63.name, by decide, Try.func63.trans (congrArg some (by kernel_rfl))⟩
  f17 := ⟨Try.f64.name, by decide, Try.func64.trans (congrArg some (by kernel_rfl))⟩
  f18 := ⟨Try.f65.name, by decide, Try.func65.trans (congrArg some (by kernel_rfl))⟩
  f19 := Try.func66.trans (congrArg some (by kernel_rfl))
  f20 := Try.func67.trans (congrArg some (by kernel_rfl))
  f30 := ⟨Try.f68.name, by decide, Try.func68.trans (congrArg some (by kernel_rfl))⟩
  f31 := Try.func69.trans (congrArg some (by kernel_rfl))
  f32 := Try.func70.trans (congrArg some (by kernel_rfl))
  f33 := ⟨Try.f71.name, by decide, Try.func71.trans (congrArg some (by kernel_rfl))⟩
  f34 := ⟨Try.f72.name, by decide, Try.func72.trans (congrArg some (by kernel_rfl))⟩
  f35 := ⟨Try.f73.name, by decide, Try.func73.trans (congrArg some (by kernel_rfl))⟩
  f40 := ⟨Try.f74.name, by decide, Try.func74.trans (congrArg some (by kernel_rfl))⟩
  t0 := Try.underlying0
  a0 := Try.isAgg0
  z0 := Try.sizeOf0
  v0 := Try.zeroValue0
  t3 := Try.underlying3
  a3 := Try.isAgg3
  z3 := Try.sizeOf3
  v3 := Try.zeroValue3
  t4 := Try.underlying4
  a4 := Try.isAgg4
  z4 := Try.sizeOf4
  v4 := Try.zeroValue4
  t5 := Try.underlying5
  a5 := Try.isAgg5
  z5 := Try.sizeOf5
  v5 := Try.zeroValue5
  t9 := Try.underlying9
  a9 := Try.isAgg9
  z9 := Try.sizeOf9
  v9 := Try.zeroValue9
  t22 := Try.underlying79
  a22 := Try.isAgg79
  z22 := Try.sizeOf79
  v22 := Try.zeroValue79
  t23 := Try.underlying79
  a23 := Try.isAgg79
  z23 := Try.sizeOf79
  v23 := Try.zeroValue79
  t25 := Try.underlying3
  a25 := Try.isAgg3
  z25 := Try.sizeOf3
  v25 := Try.zeroValue3
  t32 := Try.underlying103
  a32 := Try.isAgg103
  z32 := Try.sizeOf103
  v32 := Try.zeroValue103
  t35 := Try.underlying106
  a35 := Try.isAgg106
  z35 := Try.sizeOf106
  v35 := Try.zeroValue106
  t36 := Try.underlying107
  a36 := Try.isAgg107
  z36 := Try.sizeOf107
  v36 := Try.zeroValue107
  t41 := Try.underlying112
  a41 := Try.isAgg112
  z41 := Try.sizeOf112
  v41 := Try.zeroValue112
  t44 := Try.underlying115
  a44 := Try.isAgg115
  z44 := Try.sizeOf115
  v44 := Try.zeroValue115
  t46 := Try.underlying117
  a46 := Try.isAgg117
  z46 := Try.sizeOf117
  v46 := Try.zeroValue117
  t53 := Try.underlying118
  a53 := Try.isAgg118
  z53 := Try.sizeOf118
  v53 := Try.zeroValue118
  t57 := Try.underlying122
  a57 := Try.isAgg122
  z57 := Try.sizeOf122
  v57 := Try.zeroValue122
  t63 := Try.underlying124
  a63 := Try.isAgg124
  z63 := Try.sizeOf124
  v63 := Try.zeroValue124
  t64 := Try.underlying125
  a64 := Try.isAgg125
  z64 := Try.sizeOf125
  v64 := Try.zeroValue125 }
end Go.Proofs
