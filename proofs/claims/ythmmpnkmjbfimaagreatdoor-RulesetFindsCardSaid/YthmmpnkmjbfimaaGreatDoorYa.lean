/- What the program's own closed calls give, reckoned by the kernel: the table of kinds. -/
import Derived.Test.YthmmpnkmjbfimaaGreatDoorFb
import Derived.Test.YthmmpnkmjbfimaaGreatDoorProg
import Derived.KernelRfl
set_option linter.unusedVariables false
set_option linter.unusedSimpArgs false
set_option linter.unusedSectionVars false
set_option linter.unnecessarySimpa false
open Go Go.Ab Go.Ab.F Go.Proofs
namespace Go.Proofs.YthmmpnkmjbfimaaGreatDoor
set_option linter.unusedVariables false
noncomputable section
def sumA : CallFn := fun f => selA (Nat.beq f 337) sIndexByte (selA (Nat.beq f 360) sSame (selA (Nat.beq f 156) sFields (fun _ _ => none)))
def pureB (f : Nat) : Bool := nth (fun b => b) false [false, false, false, false, true, false, false, false, false, false, true, true, true, false, false, false, false, false, false, false, false, false, true, true, false, false, false, false, false, false, false, true, false, false, false, true, false, true, false, false, true, true, false, false, false, false, false, false, true, false, true, false, true, false, false, false, false, false, false, false, false, false, false, false, false, false, false, false, false, false, true, false, false, false, false, false, false, false, false, false, false, false, true, false, false, false, false, false, false, false, false, false, true, true, false, true, false, false, false, false, false, false, true, false, false, true, false, false, false, false, false, false, false, true, true, false, false, false, false, false, false, false, false, false, false, false, false, false, false, false, false, false, false, false, false, false, false, false, false, false, false, false, false, false, false, false, false, true, true, true, true, false, true, true, false, false, false, false, false, false, false, false, false, false, false, false, false, false, false, false, false, false, false, false, false, false, false, false, false, false, false, false, false, false, false, false, false, false, false, false, false, false, false, false, false, false, false, false, false, false, false, false, false, false, false, false, false, false, false, false, false, false, false, false, false, false, false, false, false, false, false, false, false, false, false, false, false, false, true, true, true, false, false, false, false, false, false, false, false, false, false, false, false, false, false, false, false, false, false, false, false, false, false, false, false, true, false, false, false, false, false, false, true, false, false, false, false, false, false, false, false, false, false, false, false, false, false, false, false, false, false, false, false, false, false, false, false, false, false, false, false, true] f
def cfgA : Cfg := { ok := fun _ => true, pure := fun f => Nat.beq f 101, dfr := fun f => Nat.beq f 261, sum := sumA }
def kindsTable : AV := .agg [.int .u8 (.ofNat 0), .int .u8 (.ofNat 0), .int .u8 (.ofNat 0), .int .u8 (.ofNat 0), .int .u8 (.ofNat 0), .int .u8 (.ofNat 0), .int .u8 (.ofNat 0), .int .u8 (.ofNat 0), .int .u8 (.ofNat 0),
  .int .u8 (.ofNat 1), .int .u8 (.ofNat 1), .int .u8 (.ofNat 0), .int .u8 (.ofNat 0), .int .u8 (.ofNat 1), .int .u8 (.ofNat 0), .int .u8 (.ofNat 0), .int .u8 (.ofNat 0), .int .u8 (.ofNat 0),
  .int .u8 (.ofNat 0), .int .u8 (.ofNat 0), .int .u8 (.ofNat 0), .int .u8 (.ofNat 0), .int .u8 (.ofNat 0), .int .u8 (.ofNat 0), .int .u8 (.ofNat 0), .int .u8 (.ofNat 0), .int .u8 (.ofNat 0),
  .int .u8 (.ofNat 0), .int .u8 (.ofNat 0), .int .u8 (.ofNat 0), .int .u8 (.ofNat 0), .int .u8 (.ofNat 0), .int .u8 (.ofNat 1), .int .u8 (.ofNat 0), .int .u8 (.ofNat 0), .int .u8 (.ofNat 0),
  .int .u8 (.ofNat 0), .int .u8 (.ofNat 0), .int .u8 (.ofNat 0), .int .u8 (.ofNat 0), .int .u8 (.ofNat 5), .int .u8 (.ofNat 5), .int .u8 (.ofNat 5), .int .u8 (.ofNat 5), .int .u8 (.ofNat 5),
  .int .u8 (.ofNat 5), .int .u8 (.ofNat 4), .int .u8 (.ofNat 5), .int .u8 (.ofNat 3), .int .u8 (.ofNat 3), .int .u8 (.ofNat 3), .int .u8 (.ofNat 3), .int .u8 (.ofNat 3), .int .u8 (.ofNat 3),
  .int .u8 (.ofNat 3), .int .u8 (.ofNat 3), .int .u8 (.ofNat 3), .int .u8 (.ofNat 3), .int .u8 (.ofNat 0), .int .u8 (.ofNat 5), .int .u8 (.ofNat 0), .int .u8 (.ofNat 5), .int .u8 (.ofNat 0),
  .int .u8 (.ofNat 0), .int .u8 (.ofNat 0), .int .u8 (.ofNat 2), .int .u8 (.ofNat 2), .int .u8 (.ofNat 2), .int .u8 (.ofNat 2), .int .u8 (.ofNat 2), .int .u8 (.ofNat 2), .int .u8 (.ofNat 2),
  .int .u8 (.ofNat 2), .int .u8 (.ofNat 2), .int .u8 (.ofNat 2), .int .u8 (.ofNat 2), .int .u8 (.ofNat 2), .int .u8 (.ofNat 2), .int .u8 (.ofNat 2), .int .u8 (.ofNat 2), .int .u8 (.ofNat 2),
  .int .u8 (.ofNat 2), .int .u8 (.ofNat 2), .int .u8 (.ofNat 2), .int .u8 (.ofNat 2), .int .u8 (.ofNat 2), .int .u8 (.ofNat 2), .int .u8 (.ofNat 2), .int .u8 (.ofNat 2), .int .u8 (.ofNat 2),
  .int .u8 (.ofNat 2), .int .u8 (.ofNat 0), .int .u8 (.ofNat 0), .int .u8 (.ofNat 0), .int .u8 (.ofNat 0), .int .u8 (.ofNat 2), .int .u8 (.ofNat 0), .int .u8 (.ofNat 2), .int .u8 (.ofNat 2),
  .int .u8 (.ofNat 2), .int .u8 (.ofNat 2), .int .u8 (.ofNat 2), .int .u8 (.ofNat 2), .int .u8 (.ofNat 2), .int .u8 (.ofNat 2), .int .u8 (.ofNat 2), .int .u8 (.ofNat 2), .int .u8 (.ofNat 2),
  .int .u8 (.ofNat 2), .int .u8 (.ofNat 2), .int .u8 (.ofNat 2), .int .u8 (.ofNat 2), .int .u8 (.ofNat 2), .int .u8 (.ofNat 2), .int .u8 (.ofNat 2), .int .u8 (.ofNat 2), .int .u8 (.ofNat 2),
  .int .u8 (.ofNat 2), .int .u8 (.ofNat 2), .int .u8 (.ofNat 2), .int .u8 (.ofNat 2), .int .u8 (.ofNat 2), .int .u8 (.ofNat 2), .int .u8 (.ofNat 5), .int .u8 (.ofNat 0), .int .u8 (.ofNat 5),
  .int .u8 (.ofNat 0), .int .u8 (.ofNat 0), .int .u8 (.ofNat 0), .int .u8 (.ofNat 0), .int .u8 (.ofNat 0), .int .u8 (.ofNat 0), .int .u8 (.ofNat 0), .int .u8 (.ofNat 0), .int .u8 (.ofNat 0),
  .int .u8 (.ofNat 0), .int .u8 (.ofNat 0), .int .u8 (.ofNat 0), .int .u8 (.ofNat 0), .int .u8 (.ofNat 0), .int .u8 (.ofNat 0), .int .u8 (.ofNat 0), .int .u8 (.ofNat 0), .int .u8 (.ofNat 0),
  .int .u8 (.ofNat 0), .int .u8 (.ofNat 0), .int .u8 (.ofNat 0), .int .u8 (.ofNat 0), .int .u8 (.ofNat 0), .int .u8 (.ofNat 0), .int .u8 (.ofNat 0), .int .u8 (.ofNat 0), .int .u8 (.ofNat 0),
  .int .u8 (.ofNat 0), .int .u8 (.ofNat 0), .int .u8 (.ofNat 0), .int .u8 (.ofNat 0), .int .u8 (.ofNat 0), .int .u8 (.ofNat 0), .int .u8 (.ofNat 0), .int .u8 (.ofNat 0), .int .u8 (.ofNat 0),
  .int .u8 (.ofNat 0), .int .u8 (.ofNat 0), .int .u8 (.ofNat 0), .int .u8 (.ofNat 0), .int .u8 (.ofNat 0), .int .u8 (.ofNat 0), .int .u8 (.ofNat 0), .int .u8 (.ofNat 0), .int .u8 (.ofNat 0),
  .int .u8 (.ofNat 0), .int .u8 (.ofNat 0), .int .u8 (.ofNat 0), .int .u8 (.ofNat 0), .int .u8 (.ofNat 0), .int .u8 (.ofNat 0), .int .u8 (.ofNat 0), .int .u8 (.ofNat 0), .int .u8 (.ofNat 0),
  .int .u8 (.ofNat 0), .int .u8 (.ofNat 0), .int .u8 (.ofNat 0), .int .u8 (.ofNat 0), .int .u8 (.ofNat 0), .int .u8 (.ofNat 0), .int .u8 (.ofNat 0), .int .u8 (.ofNat 0), .int .u8 (.ofNat 0),
  .int .u8 (.ofNat 0), .int .u8 (.ofNat 0), .int .u8 (.ofNat 0), .int .u8 (.ofNat 0), .int .u8 (.ofNat 0), .int .u8 (.ofNat 0), .int .u8 (.ofNat 0), .int .u8 (.ofNat 0), .int .u8 (.ofNat 0),
  .int .u8 (.ofNat 0), .int .u8 (.ofNat 0), .int .u8 (.ofNat 0), .int .u8 (.ofNat 0), .int .u8 (.ofNat 0), .int .u8 (.ofNat 0), .int .u8 (.ofNat 0), .int .u8 (.ofNat 0), .int .u8 (.ofNat 0),
  .int .u8 (.ofNat 0), .int .u8 (.ofNat 0), .int .u8 (.ofNat 0), .int .u8 (.ofNat 0), .int .u8 (.ofNat 0), .int .u8 (.ofNat 0), .int .u8 (.ofNat 0), .int .u8 (.ofNat 0), .int .u8 (.ofNat 0),
  .int .u8 (.ofNat 0), .int .u8 (.ofNat 0), .int .u8 (.ofNat 0), .int .u8 (.ofNat 0), .int .u8 (.ofNat 0), .int .u8 (.ofNat 0), .int .u8 (.ofNat 0), .int .u8 (.ofNat 0), .int .u8 (.ofNat 0),
  .int .u8 (.ofNat 0), .int .u8 (.ofNat 0), .int .u8 (.ofNat 0), .int .u8 (.ofNat 0), .int .u8 (.ofNat 0), .int .u8 (.ofNat 0), .int .u8 (.ofNat 0), .int .u8 (.ofNat 0), .int .u8 (.ofNat 0),
  .int .u8 (.ofNat 0), .int .u8 (.ofNat 0), .int .u8 (.ofNat 0), .int .u8 (.ofNat 0), .int .u8 (.ofNat 0), .int .u8 (.ofNat 0), .int .u8 (.ofNat 0), .int .u8 (.ofNat 0), .int .u8 (.ofNat 0),
  .int .u8 (.ofNat 0), .int .u8 (.ofNat 0), .int .u8 (.ofNat 0), .int .u8 (.ofNat 0), .int .u8 (.ofNat 0), .int .u8 (.ofNat 0), .int .u8 (.ofNat 0), .int .u8 (.ofNat 0), .int .u8 (.ofNat 0),
  .int .u8 (.ofNat 0), .int .u8 (.ofNat 0), .int .u8 (.ofNat 0), .int .u8 (.ofNat 0)]
theorem kindsF : ∀ H, callF Tryz.prog cfgA 2000 101 [] H = some (.res kindsTable H) := fun H => by kernel_rfl
def sumB : CallFn := fun f => selA (Nat.beq f 101) (tabS isNil kindsTable) (sumA f)
def cfgB : Cfg := { ok := fun _ => true, pure := pureB, dfr := fun f => Nat.beq f 261, sum := sumB }
def example1 : List UInt8 := [100, 105, 115, 99, 105, 112, 108, 105, 110, 101, 32, 102, 105, 103, 117, 114, 101, 32, 115, 101, 97, 115, 111, 110, 32, 50, 48, 50, 54, 59, 32, 112, 117, 98, 108, 105, 115, 104, 32, 50, 32, 104, 97, 108, 102, 95, 117, 112, 59, 32, 114, 97, 110, 107, 32, 101, 120, 97, 99, 116, 59, 32, 103, 114, 111, 117, 112, 32, 106, 117, 109, 112, 32, 108, 105, 109, 105, 116, 32, 55, 32, 99, 114, 101, 100, 105, 116, 32, 48, 59, 32, 101, 108, 101, 109, 101, 110, 116, 32, 50, 65, 32, 103, 114, 111, 117, 112, 32, 106, 117, 109, 112, 32, 118, 97, 108, 117, 101, 32, 51, 46, 51, 59, 32, 115, 101, 103, 109, 101, 110, 116, 32, 102, 114, 101, 101, 32, 123, 32, 99, 111, 117, 110, 116, 32, 55, 59, 32, 114, 101, 112, 101, 97, 116, 32, 49, 59, 32, 99, 111, 110, 110, 101, 99, 116, 105, 111, 110, 115, 32, 48, 59, 32, 112, 97, 110, 101, 108, 32, 97, 114, 116, 32, 111, 118, 101, 114, 97, 108, 108, 32, 48, 32, 116, 111, 32, 49, 48, 32, 115, 116, 101, 112, 32, 48, 46, 50, 53, 32, 106, 117, 100, 103, 101, 115, 32, 55, 32, 108, 101, 97, 115, 116, 32, 53, 32, 100, 114, 111, 112, 32, 49, 32, 116, 111, 108, 101, 114, 97, 110, 99, 101, 32, 49, 59, 32, 115, 99, 111, 114, 101, 32, 100, 105, 102, 102, 105, 99, 117, 108, 116, 121, 32, 43, 32, 97, 114, 116, 59, 32, 125, 32, 116, 105, 101, 32, 97, 114, 116, 32, 98, 101, 115, 116, 59]
def tokens1 : AV := .tup [.isl false [[.int .i64 (.ofNat 1), .str [100, 105, 115, 99, 105, 112, 108, 105, 110, 101], .int .i64 (.ofNat 0), .int .i64 (.ofNat 0)], [.int .i64 (.ofNat 1), .str [102, 105, 103, 117, 114, 101],
  .int .i64 (.ofNat 0), .int .i64 (.ofNat 11)], [.int .i64 (.ofNat 1), .str [115, 101, 97, 115, 111, 110], .int .i64 (.ofNat 0), .int .i64 (.ofNat 18)], [.int .i64 (.ofNat 2), .str [],
  .int .i64 (.ofNat 2026000), .int .i64 (.ofNat 25)], [.int .i64 (.ofNat 4), .str [59], .int .i64 (.ofNat 0), .int .i64 (.ofNat 29)], [.int .i64 (.ofNat 1), .str [112, 117, 98, 108, 105, 115, 104],
  .int .i64 (.ofNat 0), .int .i64 (.ofNat 31)], [.int .i64 (.ofNat 2), .str [], .int .i64 (.ofNat 2000), .int .i64 (.ofNat 39)], [.int .i64 (.ofNat 1), .str [104, 97, 108, 102, 95, 117, 112],
  .int .i64 (.ofNat 0), .int .i64 (.ofNat 41)], [.int .i64 (.ofNat 4), .str [59], .int .i64 (.ofNat 0), .int .i64 (.ofNat 48)], [.int .i64 (.ofNat 1), .str [114, 97, 110, 107], .int .i64 (.ofNat 0),
  .int .i64 (.ofNat 50)], [.int .i64 (.ofNat 1), .str [101, 120, 97, 99, 116], .int .i64 (.ofNat 0), .int .i64 (.ofNat 55)], [.int .i64 (.ofNat 4), .str [59], .int .i64 (.ofNat 0),
  .int .i64 (.ofNat 60)], [.int .i64 (.ofNat 1), .str [103, 114, 111, 117, 112], .int .i64 (.ofNat 0), .int .i64 (.ofNat 62)], [.int .i64 (.ofNat 1), .str [106, 117, 109, 112], .int .i64 (.ofNat 0),
  .int .i64 (.ofNat 68)], [.int .i64 (.ofNat 1), .str [108, 105, 109, 105, 116], .int .i64 (.ofNat 0), .int .i64 (.ofNat 73)], [.int .i64 (.ofNat 2), .str [], .int .i64 (.ofNat 7000),
  .int .i64 (.ofNat 79)], [.int .i64 (.ofNat 1), .str [99, 114, 101, 100, 105, 116], .int .i64 (.ofNat 0), .int .i64 (.ofNat 81)], [.int .i64 (.ofNat 2), .str [], .int .i64 (.ofNat 0),
  .int .i64 (.ofNat 88)], [.int .i64 (.ofNat 4), .str [59], .int .i64 (.ofNat 0), .int .i64 (.ofNat 89)], [.int .i64 (.ofNat 1), .str [101, 108, 101, 109, 101, 110, 116], .int .i64 (.ofNat 0),
  .int .i64 (.ofNat 91)], [.int .i64 (.ofNat 1), .str [50, 65], .int .i64 (.ofNat 0), .int .i64 (.ofNat 99)], [.int .i64 (.ofNat 1), .str [103, 114, 111, 117, 112], .int .i64 (.ofNat 0),
  .int .i64 (.ofNat 102)], [.int .i64 (.ofNat 1), .str [106, 117, 109, 112], .int .i64 (.ofNat 0), .int .i64 (.ofNat 108)], [.int .i64 (.ofNat 1), .str [118, 97, 108, 117, 101], .int .i64 (.ofNat 0),
  .int .i64 (.ofNat 113)], [.int .i64 (.ofNat 2), .str [], .int .i64 (.ofNat 3300), .int .i64 (.ofNat 119)], [.int .i64 (.ofNat 4), .str [59], .int .i64 (.ofNat 0), .int .i64 (.ofNat 122)],
  [.int .i64 (.ofNat 1), .str [115, 101, 103, 109, 101, 110, 116], .int .i64 (.ofNat 0), .int .i64 (.ofNat 124)], [.int .i64 (.ofNat 1), .str [102, 114, 101, 101], .int .i64 (.ofNat 0),
  .int .i64 (.ofNat 132)], [.int .i64 (.ofNat 4), .str [123], .int .i64 (.ofNat 0), .int .i64 (.ofNat 137)], [.int .i64 (.ofNat 1), .str [99, 111, 117, 110, 116], .int .i64 (.ofNat 0),
  .int .i64 (.ofNat 139)], [.int .i64 (.ofNat 2), .str [], .int .i64 (.ofNat 7000), .int .i64 (.ofNat 145)], [.int .i64 (.ofNat 4), .str [59], .int .i64 (.ofNat 0), .int .i64 (.ofNat 146)],
  [.int .i64 (.ofNat 1), .str [114, 101, 112, 101, 97, 116], .int .i64 (.ofNat 0), .int .i64 (.ofNat 148)], [.int .i64 (.ofNat 2), .str [], .int .i64 (.ofNat 1000), .int .i64 (.ofNat 155)],
  [.int .i64 (.ofNat 4), .str [59], .int .i64 (.ofNat 0), .int .i64 (.ofNat 156)], [.int .i64 (.ofNat 1), .str [99, 111, 110, 110, 101, 99, 116, 105, 111, 110, 115], .int .i64 (.ofNat 0),
  .int .i64 (.ofNat 158)], [.int .i64 (.ofNat 2), .str [], .int .i64 (.ofNat 0), .int .i64 (.ofNat 170)], [.int .i64 (.ofNat 4), .str [59], .int .i64 (.ofNat 0), .int .i64 (.ofNat 171)],
  [.int .i64 (.ofNat 1), .str [112, 97, 110, 101, 108], .int .i64 (.ofNat 0), .int .i64 (.ofNat 173)], [.int .i64 (.ofNat 1), .str [97, 114, 116], .int .i64 (.ofNat 0), .int .i64 (.ofNat 179)],
  [.int .i64 (.ofNat 1), .str [111, 118, 101, 114, 97, 108, 108], .int .i64 (.ofNat 0), .int .i64 (.ofNat 183)], [.int .i64 (.ofNat 2), .str [], .int .i64 (.ofNat 0), .int .i64 (.ofNat 191)],
  [.int .i64 (.ofNat 1), .str [116, 111], .int .i64 (.ofNat 0), .int .i64 (.ofNat 193)], [.int .i64 (.ofNat 2), .str [], .int .i64 (.ofNat 10000), .int .i64 (.ofNat 196)], [.int .i64 (.ofNat 1),
  .str [115, 116, 101, 112], .int .i64 (.ofNat 0), .int .i64 (.ofNat 199)], [.int .i64 (.ofNat 2), .str [], .int .i64 (.ofNat 250), .int .i64 (.ofNat 204)], [.int .i64 (.ofNat 1), .str [106, 117, 100,
  103, 101, 115], .int .i64 (.ofNat 0), .int .i64 (.ofNat 209)], [.int .i64 (.ofNat 2), .str [], .int .i64 (.ofNat 7000), .int .i64 (.ofNat 216)], [.int .i64 (.ofNat 1), .str [108, 101, 97, 115, 116],
  .int .i64 (.ofNat 0), .int .i64 (.ofNat 218)], [.int .i64 (.ofNat 2), .str [], .int .i64 (.ofNat 5000), .int .i64 (.ofNat 224)], [.int .i64 (.ofNat 1), .str [100, 114, 111, 112], .int .i64 (.ofNat 0),
  .int .i64 (.ofNat 226)], [.int .i64 (.ofNat 2), .str [], .int .i64 (.ofNat 1000), .int .i64 (.ofNat 231)], [.int .i64 (.ofNat 1), .str [116, 111, 108, 101, 114, 97, 110, 99, 101], .int .i64 (.ofNat 0),
  .int .i64 (.ofNat 233)], [.int .i64 (.ofNat 2), .str [], .int .i64 (.ofNat 1000), .int .i64 (.ofNat 243)], [.int .i64 (.ofNat 4), .str [59], .int .i64 (.ofNat 0), .int .i64 (.ofNat 244)],
  [.int .i64 (.ofNat 1), .str [115, 99, 111, 114, 101], .int .i64 (.ofNat 0), .int .i64 (.ofNat 246)], [.int .i64 (.ofNat 1), .str [100, 105, 102, 102, 105, 99, 117, 108, 116, 121], .int .i64 (.ofNat 0),
  .int .i64 (.ofNat 252)], [.int .i64 (.ofNat 4), .str [43], .int .i64 (.ofNat 0), .int .i64 (.ofNat 263)], [.int .i64 (.ofNat 1), .str [97, 114, 116], .int .i64 (.ofNat 0), .int .i64 (.ofNat 265)],
  [.int .i64 (.ofNat 4), .str [59], .int .i64 (.ofNat 0), .int .i64 (.ofNat 268)], [.int .i64 (.ofNat 4), .str [125], .int .i64 (.ofNat 0), .int .i64 (.ofNat 270)], [.int .i64 (.ofNat 1), .str [116, 105,
  101], .int .i64 (.ofNat 0), .int .i64 (.ofNat 272)], [.int .i64 (.ofNat 1), .str [97, 114, 116], .int .i64 (.ofNat 0), .int .i64 (.ofNat 276)], [.int .i64 (.ofNat 1), .str [98, 101, 115, 116],
  .int .i64 (.ofNat 0), .int .i64 (.ofNat 280)], [.int .i64 (.ofNat 4), .str [59], .int .i64 (.ofNat 0), .int .i64 (.ofNat 284)], [.int .i64 (.ofNat 5), .str [], .int .i64 (.ofNat 0),
  .int .i64 (.ofNat 285)]], .agg [.int .i64 (.ofNat 0), .int .i64 (.ofNat 0)]]
def sumC : CallFn := fun f => selA (Nat.beq f 31) (tabS (isStr1 example1) tokens1) (sumB f)
def cfgC : Cfg := { ok := fun _ => true, pure := pureB, dfr := fun f => Nat.beq f 261, sum := sumC }
end
end Go.Proofs.YthmmpnkmjbfimaaGreatDoor
