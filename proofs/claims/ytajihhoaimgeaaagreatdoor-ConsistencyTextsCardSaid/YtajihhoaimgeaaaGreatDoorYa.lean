/- What the program's own closed calls give, reckoned by the kernel: the table of kinds. -/
import Derived.Test.YtajihhoaimgeaaaGreatDoorFb
import Derived.Test.YtajihhoaimgeaaaGreatDoorProg
import Derived.KernelRfl
set_option linter.unusedVariables false
set_option linter.unusedSimpArgs false
set_option linter.unusedSectionVars false
set_option linter.unnecessarySimpa false
open Go Go.Ab Go.Ab.F Go.Proofs
namespace Go.Proofs.YtajihhoaimgeaaaGreatDoor
set_option linter.unusedVariables false
noncomputable section
def sumA : CallFn := fun f => selA (Nat.beq f 458) sIndexByte (selA (Nat.beq f 447) sSame (selA (Nat.beq f 237) sFields (selA (Nat.beq f 13) sFormatInt (selA (Nat.beq f 156) sCmpString (fun _ _ => none)))))
def pureB (f : Nat) : Bool := nth (fun b => b) false [false, false, false, false, true, true, false, true, false, true, true, false, true, false, true, false, false, false, false, false, false, false, false, false, false, false, true, true, true, false, false, true, false, false, false, false, false, false, false, false, false, false, false, false, false, false, false, false, true, false, false, true, true, false, false, true, false, false, false, false, false, false, true, false, false, false, true, false, false, false, false, false, false, false, false, false, false, false, false, false, false, false, false, false, false, false, false, false, false, false, false, false, false, false, false, false, false, false, false, false, false, false, false, false, false, false, true, false, false, true, true, false, false, false, false, false, false, false, false, false, false, false, false, false, false, true, false, false, false, false, false, false, false, false, false, false, false, false, false, false, false, false, false, false, false, true, false, false, false, false, false, false, false, false, false, false, false, false, false, false, false, false, false, true, true, false, false, false, false, false, false, false, false, false, false, true, false, false, false, false, true, false, false, false, false, false, false, false, false, false, false, false, false, false, false, false, false, false, false, false, false, false, false, false, false, false, false, false, false, false, false, false, false, false, false, false, false, false, false, false, false, false, false, false, false, false, true, true, false, false, false, false, true, true, false, false, true, false, false, false, false, false, false, false, false, false, false, false, false, false, false, false, false, false, false, false, false, false, false, false, false, false, false, false, false, false, false, false, false, false, false, false, false, false, false, false, false, false, false, false, false, false, false, false, false, false, false, false, false, false, false, false, false, false, false, false, false, false, false, false, false, false, false, false, false, false, false, false, false, false, false, false, false, true, false, false, false, false, false, true, true] f
def cfgA : Cfg := { ok := fun _ => true, pure := fun f => Nat.beq f 236, dfr := fun f => Nat.beq f 343, sum := sumA }
def kindsTable : AV := .agg [.int .u8 (.ofNat 0), .int .u8 (.ofNat 0), .int .u8 (.ofNat 0), .int .u8 (.ofNat 0), .int .u8 (.ofNat 0), .int .u8 (.ofNat 0), .int .u8 (.ofNat 0), .int .u8 (.ofNat 0), .int .u8 (.ofNat 0),
  .int .u8 (.ofNat 1), .int .u8 (.ofNat 1), .int .u8 (.ofNat 0), .int .u8 (.ofNat 0), .int .u8 (.ofNat 1), .int .u8 (.ofNat 0), .int .u8 (.ofNat 0), .int .u8 (.ofNat 0), .int .u8 (.ofNat 0),
  .int .u8 (.ofNat 0), .int .u8 (.ofNat 0), .int .u8 (.ofNat 0), .int .u8 (.ofNat 0), .int .u8 (.ofNat 0), .int .u8 (.ofNat 0), .int .u8 (.ofNat 0), .int .u8 (.ofNat 0), .int .u8 (.ofNat 0),
  .int .u8 (.ofNat 0), .int .u8 (.ofNat 0), .int .u8 (.ofNat 0), .int .u8 (.ofNat 0), .int .u8 (.ofNat 0), .int .u8 (.ofNat 1), .int .u8 (.ofNat 0), .int .u8 (.ofNat 0), .int .u8 (.ofNat 0),
  .int .u8 (.ofNat 0), .int .u8 (.ofNat 0), .int .u8 (.ofNat 0), .int .u8 (.ofNat 0), .int .u8 (.ofNat 5), .int .u8 (.ofNat 5), .int .u8 (.ofNat 5), .int .u8 (.ofNat 5), .int .u8 (.ofNat 5),
  .int .u8 (.ofNat 5), .int .u8 (.ofNat 4), .int .u8 (.ofNat 5), .int .u8 (.ofNat 3), .int .u8 (.ofNat 3), .int .u8 (.ofNat 3), .int .u8 (.ofNat 3), .int .u8 (.ofNat 3), .int .u8 (.ofNat 3),
  .int .u8 (.ofNat 3), .int .u8 (.ofNat 3), .int .u8 (.ofNat 3), .int .u8 (.ofNat 3), .int .u8 (.ofNat 0), .int .u8 (.ofNat 5), .int .u8 (.ofNat 0), .int .u8 (.ofNat 5), .int .u8 (.ofNat 0),
  .int .u8 (.ofNat 0), .int .u8 (.ofNat 0), .int .u8 (.ofNat 2), .int .u8 (.ofNat 2), .int .u8 (.ofNat 2), .int .u8 (.ofNat 2), .int .u8 (.ofNat 2), .int .u8 (.ofNat 2), .int .u8 (.ofNat 2),
  .int .u8 (.ofNat 2), .int .u8 (.ofNat 2), .int .u8 (.ofNat 2), .int .u8 (.ofNat 2), .int .u8 (.ofNat 2), .int .u8 (.ofNat 2), .int .u8 (.ofNat 2), .int .u8 (.ofNat 2), .int .u8 (.ofNat 2),
  .int .u8 (.ofNat 2), .int .u8 (.ofNat 2), .int .u8 (.ofNat 2), .int .u8 (.ofNat 2), .int .u8 (.ofNat 2), .int .u8 (.ofNat 2), .int .u8 (.ofNat 2), .int .u8 (.ofNat 2), .int .u8 (.ofNat 2),
  .int .u8 (.ofNat 2), .int .u8 (.ofNat 0), .int .u8 (.ofNat 0), .int .u8 (.ofNat 0), .int .u8 (.ofNat 0), .int .u8 (.ofNat 2), .int .u8 (.ofNat 0), .int .u8 (.ofNat 2), .int .u8 (.ofNat 2),
  .int .u8 (.ofNat 2), .int .u8 (.ofNat 2), .int .u8 (.ofNat 2), .int .u8 (.ofNat 2), .int .u8 (.ofNat 2), .int .u8 (.ofNat 2), .int .u8 (.ofNat 2), .int .u8 (.ofNat 2), .int .u8 (.ofNat 2),
  .int .u8 (.ofNat 2), .int .u8 (.ofNat 2), .int .u8 (.ofNat 2), .int .u8 (.ofNat 2), .int .u8 (.ofNat 2), .int .u8 (.ofNat 2), .int .u8 (.ofNat 2), .int .u8 (.ofNat 2), .int .u8 (.ofNat 2),
  .int .u8 (.ofNat 2), .int .u8 (.ofNat 2), .int .u8 (.ofNat 2), .int .u8 (.ofNat 2), .int .u8 (.ofNat 2), .int .u8 (.ofNat 2), .int .u8 (.ofNat 5), .int .u8 (.ofNat 0), .int .u8 (.ofNat 5),
  .int .u8 (.ofNat 0), .int .u8 (.ofNat 0), .int .u8 (.ofNat 0), .int .u8 (.ofNat 0), .int .u8 (.ofNat 0), .int .u8 (.ofNat 0), .int .u8 (.ofNat 0), .int .u8 (.ofNat 0), .int .u8 (.ofNat 0),
  .int .u8 (.ofNat 0), .int .u8 (.ofNat 0), .int .u8 (.ofNat 0), .int .u8 (.ofNat 0), .int .u8 (.ofNat 0), .int .u8 (.ofNat 0), .int .u8 (.ofNat 0), .int .u8 (.ofNat 0), .int .u8 (.ofNat 0),
  .int .u8 (.ofNat 0), .int .u8 (.ofNat 0), .int .u8 (.ofNat 0), .int .u8 (.ofNat 0), .int .u8 (.ofNat 0), .int .u8 (.ofNat 0), .int .u8 (.ofNat 0), .int .u8 (.ofNat 0), .int .u8 (.ofNat 0),
  .int .u8 (.ofNat 0), .int .u8 (.ofNat 0), .int .u8 (.ofNat 0), .int .u8 (.ofNat 0), .int .u8 (.ofNat 0), .int .u8 (.ofNat 0), .int .u8 (.ofNat 0), .int .u8 (.ofNat 0), .int .u8 (.ofNat 0),
  .int .u8 (.ofNat 0), .int .u8 (.ofNat 0), .int .u8 (.ofNat 0), .int .u8 (.ofNat 0), .int .u8 (.ofNat 0), .int .u8 (.ofNat 0), .int .u8 (.ofNat 0), .int .u8 (.ofNat 0), .int .u8 (.ofNat 0),
  .int .u8 (.ofNat 0), .int .u8 (.ofNat 0), .int .u8 (.ofNat 0), .int .u8 (.ofNat 0), .int .u8 (.ofNat 0), .int .u8 (.ofNat 0), .int .u8 (.ofNat 0), .int .u8 (.ofNat 0), .int .u8 (.ofNat 0),
  .int .u8 (.ofNat 0), .int .u8 (.ofNat 0), .int .u8 (.ofNat 0), .int .u8 (.ofNat 0), .int .u8 (.ofNat 0), .int .u8 (.ofNat 0), .int .u8 (.ofNat 0), .int .u8 (.ofNat 0), .int .u8 (.ofNat 0),
  .int .u8 (.ofNat 0), .int .u8 (.ofNat 0), .int .u8 (.ofNat 0), .int .u8 (.ofNat 0), .int .u8 (.ofNat 0), .int .u8 (.ofNat 0), .int .u8 (.ofNat 0), .int .u8 (.ofNat 0), .int .u8 (.ofNat 0),
  .int .u8 (.ofNat 0), .int .u8 (.ofNat 0), .int .u8 (.ofNat 0), .int .u8 (.ofNat 0), .int .u8 (.ofNat 0), .int .u8 (.ofNat 0), .int .u8 (.ofNat 0), .int .u8 (.ofNat 0), .int .u8 (.ofNat 0),
  .int .u8 (.ofNat 0), .int .u8 (.ofNat 0), .int .u8 (.ofNat 0), .int .u8 (.ofNat 0), .int .u8 (.ofNat 0), .int .u8 (.ofNat 0), .int .u8 (.ofNat 0), .int .u8 (.ofNat 0), .int .u8 (.ofNat 0),
  .int .u8 (.ofNat 0), .int .u8 (.ofNat 0), .int .u8 (.ofNat 0), .int .u8 (.ofNat 0), .int .u8 (.ofNat 0), .int .u8 (.ofNat 0), .int .u8 (.ofNat 0), .int .u8 (.ofNat 0), .int .u8 (.ofNat 0),
  .int .u8 (.ofNat 0), .int .u8 (.ofNat 0), .int .u8 (.ofNat 0), .int .u8 (.ofNat 0), .int .u8 (.ofNat 0), .int .u8 (.ofNat 0), .int .u8 (.ofNat 0), .int .u8 (.ofNat 0), .int .u8 (.ofNat 0),
  .int .u8 (.ofNat 0), .int .u8 (.ofNat 0), .int .u8 (.ofNat 0), .int .u8 (.ofNat 0), .int .u8 (.ofNat 0), .int .u8 (.ofNat 0), .int .u8 (.ofNat 0), .int .u8 (.ofNat 0), .int .u8 (.ofNat 0),
  .int .u8 (.ofNat 0), .int .u8 (.ofNat 0), .int .u8 (.ofNat 0), .int .u8 (.ofNat 0), .int .u8 (.ofNat 0), .int .u8 (.ofNat 0), .int .u8 (.ofNat 0), .int .u8 (.ofNat 0), .int .u8 (.ofNat 0),
  .int .u8 (.ofNat 0), .int .u8 (.ofNat 0), .int .u8 (.ofNat 0), .int .u8 (.ofNat 0)]
theorem kindsF : ∀ H, callF Tryz.prog cfgA 2000 236 [] H = some (.res kindsTable H) := fun H => by kernel_rfl
def sumB : CallFn := fun f => selA (Nat.beq f 236) (tabS isNil kindsTable) (sumA f)
def cfgB : Cfg := { ok := fun _ => true, pure := pureB, dfr := fun f => Nat.beq f 343, sum := sumB }
def rulesA : List AV := [.agg [.str [102, 105, 103, 117, 114, 101], .int .i64 (.ofNat 2026), .int .i64 (.ofNat 2), .int .i64 (.ofNat 2), .bool false, .isl true [[.str [106, 117, 109, 112], .int .i64 (.ofNat 2),
  .int .i64 (.ofNat 0)]], .nils, .isl true [[.str [50, 65], .str [106, 117, 109, 112], .int .i64 (.ofNat 3300), .str [], .str []], [.str [51, 65], .str [106, 117, 109, 112], .int .i64 (.ofNat 8000),
  .str [], .str []]], .nils, .nils, .isl true [[.str [102, 114, 101, 101], .int .i64 (.ofNat 3), .int .i64 (.ofNat 1), .int .i64 (.ofNat 0), .isl true [[.str [106, 117, 109, 112], .int .i64 (.ofNat 2),
  .int .i64 (.ofNat 500)]], .nils, .nils, .int .i64 (.ofNat 2), .str [100, 105, 102, 102, 105, 99, 117, 108, 116, 121], .int .i64 (.ofNat 0), .nils, .int .i64 (.ofNat 0)]]]]
def rulesB : List AV := [.agg [.str [102, 105, 103, 117, 114, 101], .int .i64 (.ofNat 2026), .int .i64 (.ofNat 2), .int .i64 (.ofNat 2), .bool false, .isl true [[.str [106, 117, 109, 112], .int .i64 (.ofNat 2),
  .int .i64 (.ofNat 0)]], .nils, .isl true [[.str [50, 65], .str [106, 117, 109, 112], .int .i64 (.ofNat 3300), .str [], .str []], [.str [51, 65], .str [106, 117, 109, 112], .int .i64 (.ofNat 8000),
  .str [], .str []]], .nils, .nils, .isl true [[.str [102, 114, 101, 101], .int .i64 (.ofNat 3), .int .i64 (.ofNat 1), .int .i64 (.ofNat 0), .isl true [[.str [106, 117, 109, 112], .int .i64 (.ofNat 3),
  .int .i64 (.ofNat 500)]], .nils, .nils, .int .i64 (.ofNat 2), .str [100, 105, 102, 102, 105, 99, 117, 108, 116, 121], .int .i64 (.ofNat 0), .nils, .int .i64 (.ofNat 0)]]]]
def rulesX : List AV := [.agg [.str [102, 105, 103, 117, 114, 101], .int .i64 (.ofNat 2026), .int .i64 (.ofNat 2), .int .i64 (.ofNat 2), .bool false, .isl true [[.str [106, 117, 109, 112], .int .i64 (.ofNat 2),
  .int .i64 (.ofNat 0)]], .nils, .isl true [[.str [50, 65], .str [106, 117, 109, 112], .int .i64 (.ofNat 3300), .str [], .str []], [.str [51, 65], .str [106, 117, 109, 112], .int .i64 (.ofNat 8000),
  .str [], .str []]], .nils, .nils, .isl true [[.str [102, 114, 101, 101], .int .i64 (.ofNat 3), .int .i64 (.ofNat 1), .int .i64 (.ofNat 0), .isl true [[.str [106, 117, 109, 112], .int .i64 (.ofNat 2),
  .int .i64 (.ofNat 500)]], .nils, .nils, .int .i64 (.ofNat 6), .str [], .int .i64 (.ofNat 0), .isl true [[.int .i64 (.ofNat 6), .str [], .int .i64 (.ofNat 0), .isl true [[.int .i64 (.ofNat 6), .str [],
  .int .i64 (.ofNat 0), .isl true [[.int .i64 (.ofNat 6), .str [], .int .i64 (.ofNat 0), .isl true [[.int .i64 (.ofNat 6), .str [], .int .i64 (.ofNat 0), .isl true [[.int .i64 (.ofNat 6), .str [],
  .int .i64 (.ofNat 0), .isl true [[.int .i64 (.ofNat 2), .str [100, 105, 102, 102, 105, 99, 117, 108, 116, 121], .int .i64 (.ofNat 0), .nils, .int .i64 (.ofNat 0)], [.int .i64 (.ofNat 2), .str [100,
  105, 102, 102, 105, 99, 117, 108, 116, 121], .int .i64 (.ofNat 0), .nils, .int .i64 (.ofNat 0)]], .int .i64 (.ofNat 0)], [.int .i64 (.ofNat 2), .str [100, 105, 102, 102, 105, 99, 117, 108, 116, 121],
  .int .i64 (.ofNat 0), .nils, .int .i64 (.ofNat 0)]], .int .i64 (.ofNat 0)], [.int .i64 (.ofNat 2), .str [100, 105, 102, 102, 105, 99, 117, 108, 116, 121], .int .i64 (.ofNat 0), .nils,
  .int .i64 (.ofNat 0)]], .int .i64 (.ofNat 0)], [.int .i64 (.ofNat 2), .str [100, 105, 102, 102, 105, 99, 117, 108, 116, 121], .int .i64 (.ofNat 0), .nils, .int .i64 (.ofNat 0)]], .int .i64 (.ofNat 0)],
  [.int .i64 (.ofNat 2), .str [100, 105, 102, 102, 105, 99, 117, 108, 116, 121], .int .i64 (.ofNat 0), .nils, .int .i64 (.ofNat 0)]], .int .i64 (.ofNat 0)], [.int .i64 (.ofNat 2), .str [100, 105, 102,
  102, 105, 99, 117, 108, 116, 121], .int .i64 (.ofNat 0), .nils, .int .i64 (.ofNat 0)]], .int .i64 (.ofNat 0)]]]]
def sumC : CallFn := fun f => selA (Nat.beq f 14) (orS (tabS (isArgs rulesA) (.bool true)) (orS (tabS (isArgs rulesB) (.bool true)) (tabS (isArgs rulesX) (.bool true)))) (sumB f)
def cfgC : Cfg := { ok := fun _ => true, pure := pureB, dfr := fun f => Nat.beq f 343, sum := sumC }
def foundX : AV := .tup [.isl false [[.int .i64 (.ofNat 8), .str [102, 114, 101, 101], .str [], .int .i64 (.ofNat 2)]], .int .i64 (.ofNat 0)]
def sumD : CallFn := fun f => selA (Nat.beq f 7) (tabS (isArgs rulesX) foundX) (sumC f)
def cfgD : Cfg := { ok := fun _ => true, pure := pureB, dfr := fun f => Nat.beq f 343, sum := sumD }
def sumE : CallFn := fun f => selA (Nat.beq f 4) (tabS isNil (.bool true)) (sumD f)
def cfgE : Cfg := { ok := fun _ => true, pure := pureB, dfr := fun f => Nat.beq f 343, sum := sumE }
end
end Go.Proofs.YtajihhoaimgeaaaGreatDoor
