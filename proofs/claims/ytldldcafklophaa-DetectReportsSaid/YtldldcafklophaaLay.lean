/- The library's contracts of sorting at this program: the table of numbers, and that each body is the one that the contract was proved of. -/
import Derived.Shelf.Sort.Plain
import Derived.Shelf.Slices.In.SortNone
import Derived.Shelf.Slices.CompactI
import Derived.Ground.Names2Prog
import Derived.Test.YtldldcafklophaaProg
set_option linter.all false
namespace Go.Proofs.Ytldldcafklophaa
open Go.Shelf
def Try.lays189_ren : Go.Shelf.Ren := ⟨fun | 189 => 81 | 125 => 104 | 257 => 103 | 128 => 118 | 129 => 119 | 294 => 110 | 295 => 111 | 296 => 112 | 297 => 113 | 298 => 114 | 299 => 115 | 216 => 96 | 300 => 116 | 301 => 117 | 328 => 123 | 329 => 124 | 330 => 125 | 331 => 126 | 332 => 127 | 215 => 105 | 343 => 129 | n => n, fun | 28 => 33 | 3 => 3 | 46 => 107 | 0 => 0 | 51 => 37 | 53 => 124 | 4 => 4 | 183 => 118 | 182 => 117 | 131 => 30 | 5 => 5 | 9 => 9 | 218 => 126 | 222 => 130 | 228 => 133 | 229 => 134 | n => n, fun | n => n⟩
theorem Try.lays189 : Go.Proofs.Lays.n189 Try.prog Try.lays189_ren := {
  mixed := by kernel_rfl
  f125 := Try.func104.trans (congrArg some (by kernel_rfl))
  f128 := Try.func118.trans (congrArg some (by kernel_rfl))
  f129 := Try.func119.trans (congrArg some (by kernel_rfl))
  f189 := Try.func81.trans (congrArg some (by kernel_rfl))
  f215 := Try.func105.trans (congrArg some (by kernel_rfl))
  f216 := Try.func96.trans (congrArg some (by kernel_rfl))
  f257 := Try.func103.trans (congrArg some (by kernel_rfl))
  f294 := Try.func110.trans (congrArg some (by kernel_rfl))
  f295 := Try.func111.trans (congrArg some (by kernel_rfl))
  f296 := Try.func112.trans (congrArg some (by kernel_rfl))
  f297 := Try.func113.trans (congrArg some (by kernel_rfl))
  f298 := Try.func114.trans (congrArg some (by kernel_rfl))
  f299 := Try.func115.trans (congrArg some (by kernel_rfl))
  f300 := Try.func116.trans (congrArg some (by kernel_rfl))
  f301 := Try.func117.trans (congrArg some (by kernel_rfl))
  f328 := Try.func123.trans (congrArg some (by kernel_rfl))
  f329 := Try.func124.trans (congrArg some (by kernel_rfl))
  f330 := Try.func125.trans (congrArg some (by kernel_rfl))
  f331 := Try.func126.trans (congrArg some (by kernel_rfl))
  f332 := Try.func127.trans (congrArg some (by kernel_rfl))
  f343 := Try.func129.trans (congrArg some (by kernel_rfl))
  t0 := Try.underlying0
  a0 := Try.isAgg0
  z0 := Try.sizeOf0
  v0 := Try.zeroValue0
  t3 := Try.underlying3
  a3 := Try.isAgg3
  z3 := Try.sizeOf3
  v3 := Try.zeroValue3
  t4 := Try.underlying4
  a4 := Try.isAgg4
  z4 := Try.sizeOf4
  v4 := Try.zeroValue4
  t5 := Try.underlying5
  a5 := Try.isAgg5
  z5 := Try.sizeOf5
  v5 := Try.zeroValue5
  t9 := Try.underlying9
  a9 := Try.isAgg9
  z9 := Try.sizeOf9
  v9 := Try.zeroValue9
  t28 := Try.underlying33
  a28 := Try.isAgg33
  z28 := Try.sizeOf33
  v28 := Try.zeroValue33
  t46 := Try.underlying107
  a46 := Try.isAgg107
  z46 := Try.sizeOf107
  v46 := Try.zeroValue107
  t51 := Try.underlying37
  a51 := Try.isAgg37
  z51 := Try.sizeOf37
  v51 := Try.zeroValue37
  t53 := Try.underlying124
  a53 := Try.isAgg124
  z53 := Try.sizeOf124
  v53 := Try.zeroValue124
  t131 := Try.underlying30
  a131 := Try.isAgg30
  z131 := Try.sizeOf30
  v131 := Try.zeroValue30
  t182 := Try.underlying117
  a182 := Try.isAgg117
  z182 := Try.sizeOf117
  v182 := Try.zeroValue117
  t183 := Try.underlying118
  a183 := Try.isAgg118
  z183 := Try.sizeOf118
  v183 := Try.zeroValue118
  t218 := Try.underlying126
  a218 := Try.isAgg126
  z218 := Try.sizeOf126
  v218 := Try.zeroValue126
  t222 := Try.underlying130
  a222 := Try.isAgg130
  z222 := Try.sizeOf130
  v222 := Try.zeroValue130
  t228 := Try.underlying133
  a228 := Try.isAgg133
  z228 := Try.sizeOf133
  v228 := Try.zeroValue133
  t229 := Try.underlying134
  a229 := Try.isAgg134
  z229 := Try.sizeOf134
  v229 := Try.zeroValue134 }
def Try.laysNm220_ren : Go.Shelf.Ren := ⟨fun | 20 => 82 | n => n, fun | 22 => 33 | 3 => 3 | 4 => 4 | 0 => 0 | n => n, fun | n => n⟩
theorem Try.laysNm220 : Go.Proofs.Lays2.n20 Try.prog Try.laysNm220_ren := {
  mixed := by kernel_rfl
  f20 := Try.func82.trans (congrArg some (by kernel_rfl))
  t0 := Try.underlying0
  a0 := Try.isAgg0
  z0 := Try.sizeOf0
  v0 := Try.zeroValue0
  t3 := Try.underlying3
  a3 := Try.isAgg3
  z3 := Try.sizeOf3
  v3 := Try.zeroValue3
  t4 := Try.underlying4
  a4 := Try.isAgg4
  z4 := Try.sizeOf4
  v4 := Try.zeroValue4
  t22 := Try.underlying33
  a22 := Try.isAgg33
  z22 := Try.sizeOf33
  v22 := Try.zeroValue33
  i3 := by kernel_rfl }
end Go.Proofs.Ytldldcafklophaa
