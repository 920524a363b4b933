/-
  DERIVED: THE SHELF's CONTRACTS AT THIS DUMP, IN PLAIN WORDS (tools/lay-plain.mjs out of 'YthmmpnkmjbfimaaGreatDoorShelf.lean', which tools/lay-shelf.mjs wrote): THE SAME DECLARATIONS UNDER THE SAME NAMES: 'import', 'namespace', 'open', 'def', 'theorem' AND NOTHING ELSE: no command of the shelf's: FOR A HAND-IN. Each laying: the table of numbers ('.._ren') and one theorem, a field a fact of the dump's own or the kernel's comparison; each contract: ONE APPLICATION.
-/
import Derived.Test.YthmmpnkmjbfimaaGreatDoorProg
import Derived.Shelf.Strings.Fields
set_option linter.unusedVariables false
set_option linter.unusedSimpArgs false
set_option linter.unusedSectionVars false
set_option linter.unnecessarySimpa false
namespace Go.Proofs
open Go.Shelf
def Tryz.lays157_ren : Go.Shelf.Ren := ⟨fun | 157 => 156 | 229 => 238 | 199 => 239 | 261 => 302 | 311 => 338 | 312 => 339 | n => n, fun | 9 => 9 | 31 => 23 | 3 => 3 | 5 => 5 | 4 => 4 | 119 => 161 | 0 => 0 | 40 => 282 | 152 => 327 | 21 => 21 | 154 => 329 | 51 => 224 | 141 => 331 | 196 => 368 | 193 => 365 | 198 => 371 | 49 => 369 | 194 => 366 | 201 => 374 | 226 => 389 | 46 => 180 | 227 => 390 | n => n, fun | 0 => 1 | 6 => 2 | n => n⟩
theorem Tryz.lays157 : Go.Proofs.Lays.n157 Tryz.prog Tryz.lays157_ren := {
  mixed := by kernel_rfl
  f157 := Tryz.func156.trans (congrArg some (by kernel_rfl))
  f199 := Tryz.func239.trans (congrArg some (by kernel_rfl))
  f229 := Tryz.func238.trans (congrArg some (by kernel_rfl))
  f261 := Tryz.func302.trans (congrArg some (by kernel_rfl))
  f311 := Tryz.func338.trans (congrArg some (by kernel_rfl))
  f312 := Tryz.func339.trans (congrArg some (by kernel_rfl))
  t0 := Tryz.underlying0
  a0 := Tryz.isAgg0
  z0 := Tryz.sizeOf0
  v0 := Tryz.zeroValue0
  t3 := Tryz.underlying3
  a3 := Tryz.isAgg3
  z3 := Tryz.sizeOf3
  v3 := Tryz.zeroValue3
  t4 := Tryz.underlying4
  a4 := Tryz.isAgg4
  z4 := Tryz.sizeOf4
  v4 := Tryz.zeroValue4
  t5 := Tryz.underlying5
  a5 := Tryz.isAgg5
  z5 := Tryz.sizeOf5
  v5 := Tryz.zeroValue5
  t9 := Tryz.underlying9
  a9 := Tryz.isAgg9
  z9 := Tryz.sizeOf9
  v9 := Tryz.zeroValue9
  t21 := Tryz.underlying21
  a21 := Tryz.isAgg21
  z21 := Tryz.sizeOf21
  v21 := Tryz.zeroValue21
  t31 := Tryz.underlying23
  a31 := Tryz.isAgg23
  z31 := Tryz.sizeOf23
  v31 := Tryz.zeroValue23
  t40 := Tryz.underlying282
  a40 := Tryz.isAgg282
  z40 := Tryz.sizeOf282
  v40 := Tryz.zeroValue282
  t46 := Tryz.underlying180
  a46 := Tryz.isAgg180
  z46 := Tryz.sizeOf180
  v46 := Tryz.zeroValue180
  t49 := Tryz.underlying369
  a49 := Tryz.isAgg369
  z49 := Tryz.sizeOf369
  v49 := Tryz.zeroValue369
  t51 := Tryz.underlying224
  a51 := Tryz.isAgg224
  z51 := Tryz.sizeOf224
  v51 := Tryz.zeroValue224
  t119 := Tryz.underlying161
  a119 := Tryz.isAgg161
  z119 := Tryz.sizeOf161
  t141 := Tryz.underlying331
  a141 := Tryz.isAgg331
  z141 := Tryz.sizeOf331
  v141 := Tryz.zeroValue331
  t152 := Tryz.underlying327
  a152 := Tryz.isAgg327
  z152 := Tryz.sizeOf327
  v152 := Tryz.zeroValue327
  t154 := Tryz.underlying329
  a154 := Tryz.isAgg329
  z154 := Tryz.sizeOf329
  v154 := Tryz.zeroValue329
  t193 := Tryz.underlying365
  a193 := Tryz.isAgg365
  z193 := Tryz.sizeOf365
  v193 := Tryz.zeroValue365
  t194 := Tryz.underlying366
  a194 := Tryz.isAgg366
  z194 := Tryz.sizeOf366
  v194 := Tryz.zeroValue366
  t196 := Tryz.underlying368
  a196 := Tryz.isAgg368
  z196 := Tryz.sizeOf368
  v196 := Tryz.zeroValue368
  t198 := Tryz.underlying371
  a198 := Tryz.isAgg371
  z198 := Tryz.sizeOf371
  v198 := Tryz.zeroValue371
  t201 := Tryz.underlying374
  a201 := Tryz.isAgg374
  z201 := Tryz.sizeOf374
  v201 := Tryz.zeroValue374
  t226 := Tryz.underlying389
  a226 := Tryz.isAgg389
  z226 := Tryz.sizeOf389
  v226 := Tryz.zeroValue389
  t227 := Tryz.underlying390
  a227 := Tryz.isAgg390
  z227 := Tryz.sizeOf390
  v227 := Tryz.zeroValue390
  g0 := by kernel_rfl
  g6 := by kernel_rfl }
end Go.Proofs
