/- The code of the law's own functions, by their regions. -/
import Derived.Test.YthmmpnkmjbfimaaGreatDoorSb
import Derived.Test.YthmmpnkmjbfimaaGreatDoorYa
import Derived.Test.YthmmpnkmjbfimaaGreatDoorProg
import Derived.KernelRfl
set_option linter.unusedVariables false
set_option linter.unusedSimpArgs false
set_option linter.unusedSectionVars false
set_option linter.unnecessarySimpa false
open Go Go.Ab Go.Proofs
namespace Go.Proofs.YthmmpnkmjbfimaaGreatDoor
set_option linter.unusedVariables false
noncomputable section
noncomputable def r3_0 : Array Oper := (regionsOf (bodyOf Tryz.f3)).getD 0 #[]
noncomputable def r3_1 : Array Oper := (regionsOf (bodyOf Tryz.f3)).getD 1 #[]
noncomputable def r3_2 : Array Oper := (regionsOf (bodyOf Tryz.f3)).getD 2 #[]
noncomputable def r3_3 : Array Oper := (regionsOf (bodyOf Tryz.f3)).getD 3 #[]
noncomputable def r3_4 : Array Oper := (regionsOf (bodyOf Tryz.f3)).getD 4 #[]
noncomputable def r3_5 : Array Oper := (regionsOf (bodyOf Tryz.f3)).getD 5 #[]
noncomputable def r3_6 : Array Oper := (regionsOf (bodyOf Tryz.f3)).getD 6 #[]
noncomputable def r3_7 : Array Oper := (regionsOf (bodyOf Tryz.f3)).getD 7 #[]
noncomputable def r3_8 : Array Oper := (regionsOf (bodyOf Tryz.f3)).getD 8 #[]
noncomputable def r3_9 : Array Oper := (regionsOf (bodyOf Tryz.f3)).getD 9 #[]
noncomputable def r3_10 : Array Oper := (regionsOf (bodyOf Tryz.f3)).getD 10 #[]
noncomputable def r3_11 : Array Oper := (regionsOf (bodyOf Tryz.f3)).getD 11 #[]
noncomputable def r3_12 : Array Oper := (regionsOf (bodyOf Tryz.f3)).getD 12 #[]
noncomputable def r3_13 : Array Oper := (regionsOf (bodyOf Tryz.f3)).getD 13 #[]
noncomputable def r3_14 : Array Oper := (regionsOf (bodyOf Tryz.f3)).getD 14 #[]
noncomputable def r3_15 : Array Oper := (regionsOf (bodyOf Tryz.f3)).getD 15 #[]
noncomputable def r3_16 : Array Oper := (regionsOf (bodyOf Tryz.f3)).getD 16 #[]
theorem b3 : Tryz.f3.body = some (.seq (.region 0 r3_0 false) (.seq (.seq (.region 1 r3_1 false) (.cond (Operand.tmp 10) (.seq (.region 2 r3_2 false) .ret) .skip)) (.seq (.seq (.region 3 r3_3 false) (.cond (Operand.tmp 13) (.seq (.region 4 r3_4 false) .ret) .skip)) (.seq (.region 5 r3_5 false) (.seq (.region 6 r3_6 false) (.seq (.seq (.region 7 r3_7 false) (.cond (Operand.tmp 34) (.seq (.region 8 r3_8 false) .ret) .skip)) (.seq (.seq (.region 9 r3_9 false) (.cond (Operand.tmp 36) (.seq (.region 10 r3_10 false) .ret) .skip)) (.seq (.seq (.region 11 r3_11 false) (.block 0 (.loop (.seq (.seq (.region 12 r3_12 false) (.cond (Operand.tmp 43) .skip (.exit 0))) (.seq (.block 1 (.seq (.region 14 r3_13 false) (.cond (Operand.tmp 53) (.seq (.region 15 r3_14 true) .ret) .skip))) (.region 13 r3_15 false)))))) (.seq (.region 16 r3_16 false) .ret))))))))) := by kernel_rfl
theorem nt3 : Tryz.f3.ntmps = 61 := by kernel_rfl
theorem rs3 : Tryz.f3.results.toList = [ResultVar.tmp 4] := by kernel_rfl
theorem l3_0 : lite 61 r3_0 = some [
    ⟨some 2, Op.box 30 (Operand.tmp 0), none⟩,
    ⟨some 4, Op.assign (Operand.const (Value.bool false)), none⟩] := by kernel_rfl
theorem l3_1 : lite 61 r3_1 = some [
    ⟨some 9, Op.call { callee := Callee.value (Operand.func 4), args := #[], argTypes := #[] }, none⟩,
    ⟨some 10, Op.unOp UnOp.not 4 (Operand.tmp 9), none⟩] := by kernel_rfl
theorem l3_2 : lite 61 r3_2 = some [
    ⟨some 4, Op.assign (Operand.const (Value.bool false)), none⟩] := by kernel_rfl
theorem l3_3 : lite 61 r3_3 = some [
    ⟨some 11, Op.load 30 (Operand.tmp 2), none⟩,
    ⟨some 12, Op.call { callee := Callee.value (Operand.func 5), args := #[Operand.tmp 11], argTypes := #[30] }, none⟩,
    ⟨some 13, Op.unOp UnOp.not 4 (Operand.tmp 12), none⟩] := by kernel_rfl
theorem l3_4 : lite 61 r3_4 = some [
    ⟨some 4, Op.assign (Operand.const (Value.bool true)), none⟩] := by kernel_rfl
theorem l3_5 : lite 61 r3_5 = some [
    ⟨some 15, Op.load 30 (Operand.tmp 2), none⟩,
    ⟨some 16, Op.move (Operand.tmp 1), none⟩,
    ⟨some 17, Op.call { callee := Callee.value (Operand.func 6), args := #[Operand.tmp 15, Operand.tmp 16], argTypes := #[30, 9] }, none⟩,
    ⟨some 14, Op.move (Operand.tmp 17), none⟩,
    ⟨some 18, Op.extract (Operand.tmp 14) 0, none⟩,
    ⟨some 19, Op.extract (Operand.tmp 14) 1, none⟩,
    ⟨some 5, Op.alloc 40, none⟩,
    ⟨none, Op.store 40 (Operand.tmp 5) (Operand.tmp 18), none⟩,
    ⟨some 6, Op.assign (Operand.tmp 19), none⟩] := by kernel_rfl
theorem l3_6 : lite 61 r3_6 = some [
    ⟨some 20, Op.load 30 (Operand.tmp 2), none⟩,
    ⟨some 21, Op.move (Operand.tmp 1), none⟩,
    ⟨some 22, Op.call { callee := Callee.value (Operand.func 7), args := #[Operand.tmp 20, Operand.tmp 21], argTypes := #[30, 9] }, none⟩,
    ⟨some 7, Op.assign (Operand.tmp 22), none⟩] := by kernel_rfl
theorem l3_7 : lite 61 r3_7 = some [
    ⟨some 23, Op.move (Operand.tmp 7), none⟩,
    ⟨some 24, Op.load 30 (Operand.tmp 2), none⟩,
    ⟨some 25, Op.move (Operand.tmp 1), none⟩,
    ⟨some 26, Op.call { callee := Callee.value (Operand.func 8), args := #[Operand.tmp 24, Operand.tmp 25], argTypes := #[30, 9] }, none⟩,
    ⟨some 27, Op.binOp BinOp.neq 3 (Operand.tmp 23) (Operand.tmp 26) 3, none⟩,
    ⟨some 28, Op.move (Operand.tmp 27), none⟩,
    ⟨some 29, Op.move (Operand.tmp 6), some (28, false)⟩,
    ⟨some 30, Op.binOp BinOp.eql 41 (Operand.tmp 29) (Operand.const (Value.int IntKind.i64 0)) 41, some (28, false)⟩,
    ⟨some 31, Op.move (Operand.tmp 7), some (28, false)⟩,
    ⟨some 32, Op.binOp BinOp.eql 3 (Operand.tmp 31) (Operand.const (Value.int IntKind.i64 1)) 3, some (28, false)⟩,
    ⟨some 33, Op.binOp BinOp.neq 4 (Operand.tmp 30) (Operand.tmp 32) 4, some (28, false)⟩,
    ⟨some 34, Op.pick (Operand.tmp 28) (Operand.const (Value.bool true)) (Operand.tmp 33), none⟩] := by kernel_rfl
theorem l3_8 : lite 61 r3_8 = some [
    ⟨some 4, Op.assign (Operand.const (Value.bool false)), none⟩] := by kernel_rfl
theorem l3_9 : lite 61 r3_9 = some [
    ⟨some 35, Op.move (Operand.tmp 6), none⟩,
    ⟨some 36, Op.binOp BinOp.neq 41 (Operand.tmp 35) (Operand.const (Value.int IntKind.i64 0)) 41, none⟩] := by kernel_rfl
theorem l3_10 : lite 61 r3_10 = some [
    ⟨some 37, Op.move (Operand.tmp 6), none⟩,
    ⟨some 38, Op.binOp BinOp.eql 41 (Operand.tmp 37) (Operand.const (Value.int IntKind.i64 3)) 41, none⟩,
    ⟨some 4, Op.assign (Operand.tmp 38), none⟩] := by kernel_rfl
theorem l3_11 : lite 61 r3_11 = some [
    ⟨some 8, Op.assign (Operand.const (Value.int IntKind.i64 0)), none⟩] := by kernel_rfl
theorem l3_12 : lite 61 r3_12 = some [
    ⟨some 39, Op.move (Operand.tmp 8), none⟩,
    ⟨some 40, Op.fieldAddr 30 (Operand.tmp 2) 7, none⟩,
    ⟨some 41, Op.load 28 (Operand.tmp 40), none⟩,
    ⟨some 42, Op.call { callee := Callee.builtin Builtin.len, args := #[Operand.tmp 41], argTypes := #[28] }, none⟩,
    ⟨some 43, Op.binOp BinOp.lss 3 (Operand.tmp 39) (Operand.tmp 42) 3, none⟩] := by kernel_rfl
theorem l3_13 : lite 61 r3_13 = some [
    ⟨some 46, Op.fieldAddr 30 (Operand.tmp 2) 7, none⟩,
    ⟨some 47, Op.load 28 (Operand.tmp 46), none⟩,
    ⟨some 48, Op.move (Operand.tmp 8), none⟩,
    ⟨some 49, Op.indexAddr 28 (Operand.tmp 47) (Operand.tmp 48), none⟩,
    ⟨some 50, Op.fieldAddr 40 (Operand.tmp 49) 0, none⟩,
    ⟨some 51, Op.load 9 (Operand.tmp 50), none⟩,
    ⟨some 52, Op.move (Operand.tmp 1), none⟩,
    ⟨some 53, Op.binOp BinOp.eql 9 (Operand.tmp 51) (Operand.tmp 52) 9, none⟩] := by kernel_rfl
theorem l3_14 : lite 61 r3_14 = some [
    ⟨some 54, Op.fieldAddr 30 (Operand.tmp 2) 7, none⟩,
    ⟨some 55, Op.load 28 (Operand.tmp 54), none⟩,
    ⟨some 56, Op.move (Operand.tmp 8), none⟩,
    ⟨some 57, Op.indexAddr 28 (Operand.tmp 55) (Operand.tmp 56), none⟩,
    ⟨some 58, Op.load 40 (Operand.tmp 57), none⟩,
    ⟨some 59, Op.load 40 (Operand.tmp 5), none⟩,
    ⟨some 60, Op.call { callee := Callee.value (Operand.func 9), args := #[Operand.tmp 58, Operand.tmp 59], argTypes := #[40, 40] }, none⟩,
    ⟨some 4, Op.assign (Operand.tmp 60), none⟩] := by kernel_rfl
theorem n3_14 : F.noPairs Tryz.prog r3_14 = true := by kernel_rfl
theorem l3_15 : lite 61 r3_15 = some [
    ⟨some 44, Op.move (Operand.tmp 8), none⟩,
    ⟨some 45, Op.binOp BinOp.add 3 (Operand.tmp 44) (Operand.const (Value.int IntKind.i64 1)) 3, none⟩,
    ⟨some 8, Op.assign (Operand.tmp 45), none⟩] := by kernel_rfl
theorem l3_16 : lite 61 r3_16 = some [
    ⟨some 4, Op.assign (Operand.const (Value.bool false)), none⟩] := by kernel_rfl

noncomputable def r5_0 : Array Oper := (regionsOf (bodyOf Tryz.f5)).getD 0 #[]
noncomputable def r5_1 : Array Oper := (regionsOf (bodyOf Tryz.f5)).getD 1 #[]
noncomputable def r5_2 : Array Oper := (regionsOf (bodyOf Tryz.f5)).getD 2 #[]
noncomputable def r5_3 : Array Oper := (regionsOf (bodyOf Tryz.f5)).getD 3 #[]
noncomputable def r5_4 : Array Oper := (regionsOf (bodyOf Tryz.f5)).getD 4 #[]
noncomputable def r5_5 : Array Oper := (regionsOf (bodyOf Tryz.f5)).getD 5 #[]
noncomputable def r5_6 : Array Oper := (regionsOf (bodyOf Tryz.f5)).getD 6 #[]
noncomputable def r5_7 : Array Oper := (regionsOf (bodyOf Tryz.f5)).getD 7 #[]
noncomputable def r5_8 : Array Oper := (regionsOf (bodyOf Tryz.f5)).getD 8 #[]
theorem b5 : Tryz.f5.body = some (.seq (.region 0 r5_0 false) (.seq (.seq (.region 1 r5_1 false) (.cond (Operand.tmp 19) (.seq (.region 2 r5_2 false) .ret) .skip)) (.seq (.seq (.region 3 r5_3 false) (.block 0 (.loop (.seq (.seq (.region 4 r5_4 false) (.cond (Operand.tmp 24) .skip (.exit 0))) (.seq (.block 1 (.seq (.region 6 r5_5 false) (.cond (Operand.tmp 33) (.seq (.region 7 r5_6 false) .ret) .skip))) (.region 5 r5_7 false)))))) (.seq (.region 8 r5_8 false) .ret)))) := by kernel_rfl
theorem nt5 : Tryz.f5.ntmps = 34 := by kernel_rfl
theorem rs5 : Tryz.f5.results.toList = [ResultVar.tmp 2] := by kernel_rfl
theorem l5_0 : lite 34 r5_0 = some [
    ⟨some 1, Op.box 30 (Operand.tmp 0), none⟩,
    ⟨some 2, Op.assign (Operand.const (Value.bool false)), none⟩] := by kernel_rfl
theorem l5_1 : lite 34 r5_1 = some [
    ⟨some 4, Op.fieldAddr 30 (Operand.tmp 1) 5, none⟩,
    ⟨some 5, Op.load 27 (Operand.tmp 4), none⟩,
    ⟨some 6, Op.call { callee := Callee.value (Operand.func 13), args := #[Operand.tmp 5], argTypes := #[27] }, none⟩,
    ⟨some 7, Op.unOp UnOp.not 4 (Operand.tmp 6), none⟩,
    ⟨some 8, Op.move (Operand.tmp 7), none⟩,
    ⟨some 9, Op.fieldAddr 30 (Operand.tmp 1) 7, some (8, false)⟩,
    ⟨some 10, Op.load 28 (Operand.tmp 9), some (8, false)⟩,
    ⟨some 11, Op.call { callee := Callee.builtin Builtin.len, args := #[Operand.tmp 10], argTypes := #[28] }, some (8, false)⟩,
    ⟨some 12, Op.binOp BinOp.gtr 3 (Operand.tmp 11) (Operand.const (Value.int IntKind.i64 10)) 3, some (8, false)⟩,
    ⟨some 13, Op.pick (Operand.tmp 8) (Operand.const (Value.bool true)) (Operand.tmp 12), none⟩,
    ⟨some 14, Op.move (Operand.tmp 13), none⟩,
    ⟨some 15, Op.fieldAddr 30 (Operand.tmp 1) 6, some (14, false)⟩,
    ⟨some 16, Op.load 23 (Operand.tmp 15), some (14, false)⟩,
    ⟨some 17, Op.call { callee := Callee.builtin Builtin.len, args := #[Operand.tmp 16], argTypes := #[23] }, some (14, false)⟩,
    ⟨some 18, Op.binOp BinOp.gtr 3 (Operand.tmp 17) (Operand.const (Value.int IntKind.i64 20)) 3, some (14, false)⟩,
    ⟨some 19, Op.pick (Operand.tmp 14) (Operand.const (Value.bool true)) (Operand.tmp 18), none⟩] := by kernel_rfl
theorem l5_2 : lite 34 r5_2 = some [
    ⟨some 2, Op.assign (Operand.const (Value.bool false)), none⟩] := by kernel_rfl
theorem l5_3 : lite 34 r5_3 = some [
    ⟨some 3, Op.assign (Operand.const (Value.int IntKind.i64 0)), none⟩] := by kernel_rfl
theorem l5_4 : lite 34 r5_4 = some [
    ⟨some 20, Op.move (Operand.tmp 3), none⟩,
    ⟨some 21, Op.fieldAddr 30 (Operand.tmp 1) 7, none⟩,
    ⟨some 22, Op.load 28 (Operand.tmp 21), none⟩,
    ⟨some 23, Op.call { callee := Callee.builtin Builtin.len, args := #[Operand.tmp 22], argTypes := #[28] }, none⟩,
    ⟨some 24, Op.binOp BinOp.lss 3 (Operand.tmp 20) (Operand.tmp 23) 3, none⟩] := by kernel_rfl
theorem l5_5 : lite 34 r5_5 = some [
    ⟨some 27, Op.fieldAddr 30 (Operand.tmp 1) 7, none⟩,
    ⟨some 28, Op.load 28 (Operand.tmp 27), none⟩,
    ⟨some 29, Op.move (Operand.tmp 3), none⟩,
    ⟨some 30, Op.indexAddr 28 (Operand.tmp 28) (Operand.tmp 29), none⟩,
    ⟨some 31, Op.load 40 (Operand.tmp 30), none⟩,
    ⟨some 32, Op.call { callee := Callee.value (Operand.func 14), args := #[Operand.tmp 31], argTypes := #[40] }, none⟩,
    ⟨some 33, Op.unOp UnOp.not 4 (Operand.tmp 32), none⟩] := by kernel_rfl
theorem l5_6 : lite 34 r5_6 = some [
    ⟨some 2, Op.assign (Operand.const (Value.bool false)), none⟩] := by kernel_rfl
theorem l5_7 : lite 34 r5_7 = some [
    ⟨some 25, Op.move (Operand.tmp 3), none⟩,
    ⟨some 26, Op.binOp BinOp.add 3 (Operand.tmp 25) (Operand.const (Value.int IntKind.i64 1)) 3, none⟩,
    ⟨some 3, Op.assign (Operand.tmp 26), none⟩] := by kernel_rfl
theorem l5_8 : lite 34 r5_8 = some [
    ⟨some 2, Op.assign (Operand.const (Value.bool true)), none⟩] := by kernel_rfl

noncomputable def r6_0 : Array Oper := (regionsOf (bodyOf Tryz.f6)).getD 0 #[]
noncomputable def r6_1 : Array Oper := (regionsOf (bodyOf Tryz.f6)).getD 1 #[]
noncomputable def r6_2 : Array Oper := (regionsOf (bodyOf Tryz.f6)).getD 2 #[]
noncomputable def r6_3 : Array Oper := (regionsOf (bodyOf Tryz.f6)).getD 3 #[]
noncomputable def r6_4 : Array Oper := (regionsOf (bodyOf Tryz.f6)).getD 4 #[]
theorem b6 : Tryz.f6.body = some (.seq (.region 0 r6_0 false) (.seq (.region 1 r6_1 false) (.seq (.seq (.region 2 r6_2 false) (.cond (Operand.tmp 12) (.seq (.region 3 r6_3 false) .ret) .skip)) (.seq (.region 4 r6_4 false) .ret)))) := by kernel_rfl
theorem nt6 : Tryz.f6.ntmps = 19 := by kernel_rfl
theorem rs6 : Tryz.f6.results.toList = [ResultVar.cell 4 40, ResultVar.tmp 5] := by kernel_rfl
theorem l6_0 : lite 19 r6_0 = some [
    ⟨some 2, Op.box 30 (Operand.tmp 0), none⟩,
    ⟨some 3, Op.box 9 (Operand.tmp 1), none⟩,
    ⟨some 4, Op.alloc 40, none⟩,
    ⟨some 5, Op.assign (Operand.const (Value.int IntKind.i64 0)), none⟩] := by kernel_rfl
theorem l6_1 : lite 19 r6_1 = some [
    ⟨some 7, Op.fieldAddr 30 (Operand.tmp 2) 7, none⟩,
    ⟨some 8, Op.load 28 (Operand.tmp 7), none⟩,
    ⟨some 9, Op.makeFunc (Fn.func 16) #[] #[Operand.tmp 3], none⟩,
    ⟨some 10, Op.call { callee := Callee.value (Operand.func 15), args := #[Operand.tmp 8, Operand.tmp 9], argTypes := #[28, 53] }, none⟩,
    ⟨some 6, Op.assign (Operand.tmp 10), none⟩] := by kernel_rfl
theorem l6_2 : lite 19 r6_2 = some [
    ⟨some 11, Op.move (Operand.tmp 6), none⟩,
    ⟨some 12, Op.binOp BinOp.lss 3 (Operand.tmp 11) (Operand.const (Value.int IntKind.i64 0)) 3, none⟩] := by kernel_rfl
theorem l6_3 : lite 19 r6_3 = some [
    ⟨some 13, Op.build 40 #[], none⟩,
    ⟨none, Op.store 40 (Operand.tmp 4) (Operand.tmp 13), none⟩,
    ⟨some 5, Op.assign (Operand.const (Value.int IntKind.i64 3)), none⟩] := by kernel_rfl
theorem l6_4 : lite 19 r6_4 = some [
    ⟨some 14, Op.fieldAddr 30 (Operand.tmp 2) 7, none⟩,
    ⟨some 15, Op.load 28 (Operand.tmp 14), none⟩,
    ⟨some 16, Op.move (Operand.tmp 6), none⟩,
    ⟨some 17, Op.indexAddr 28 (Operand.tmp 15) (Operand.tmp 16), none⟩,
    ⟨some 18, Op.load 40 (Operand.tmp 17), none⟩,
    ⟨none, Op.store 40 (Operand.tmp 4) (Operand.tmp 18), none⟩,
    ⟨some 5, Op.assign (Operand.const (Value.int IntKind.i64 0)), none⟩] := by kernel_rfl

noncomputable def r7_0 : Array Oper := (regionsOf (bodyOf Tryz.f7)).getD 0 #[]
noncomputable def r7_1 : Array Oper := (regionsOf (bodyOf Tryz.f7)).getD 1 #[]
noncomputable def r7_2 : Array Oper := (regionsOf (bodyOf Tryz.f7)).getD 2 #[]
noncomputable def r7_3 : Array Oper := (regionsOf (bodyOf Tryz.f7)).getD 3 #[]
noncomputable def r7_4 : Array Oper := (regionsOf (bodyOf Tryz.f7)).getD 4 #[]
noncomputable def r7_5 : Array Oper := (regionsOf (bodyOf Tryz.f7)).getD 5 #[]
noncomputable def r7_6 : Array Oper := (regionsOf (bodyOf Tryz.f7)).getD 6 #[]
noncomputable def r7_7 : Array Oper := (regionsOf (bodyOf Tryz.f7)).getD 7 #[]
noncomputable def r7_8 : Array Oper := (regionsOf (bodyOf Tryz.f7)).getD 8 #[]
noncomputable def r7_9 : Array Oper := (regionsOf (bodyOf Tryz.f7)).getD 9 #[]
noncomputable def r7_10 : Array Oper := (regionsOf (bodyOf Tryz.f7)).getD 10 #[]
noncomputable def r7_11 : Array Oper := (regionsOf (bodyOf Tryz.f7)).getD 11 #[]
noncomputable def r7_12 : Array Oper := (regionsOf (bodyOf Tryz.f7)).getD 12 #[]
noncomputable def r7_13 : Array Oper := (regionsOf (bodyOf Tryz.f7)).getD 13 #[]
noncomputable def r7_14 : Array Oper := (regionsOf (bodyOf Tryz.f7)).getD 14 #[]
noncomputable def r7_15 : Array Oper := (regionsOf (bodyOf Tryz.f7)).getD 15 #[]
noncomputable def r7_16 : Array Oper := (regionsOf (bodyOf Tryz.f7)).getD 16 #[]
noncomputable def r7_17 : Array Oper := (regionsOf (bodyOf Tryz.f7)).getD 17 #[]
theorem b7 : Tryz.f7.body = some (.seq (.region 0 r7_0 false) (.seq (.seq (.region 1 r7_1 false) (.seq (.region 2 r7_2 false) (.cond (Operand.tmp 16) (.seq (.region 3 r7_3 false) .ret) .skip))) (.seq (.seq (.region 4 r7_4 false) (.block 0 (.loop (.seq (.region 5 r7_5 false) (.seq (.cond (Operand.tmp 21) .skip (.exit 0)) (.seq (.block 1 (.seq (.region 6 r7_6 false) (.seq (.region 7 r7_7 false) (.cond (Operand.tmp 27) (.seq (.region 8 r7_8 false) .ret) .skip)))) (.region 9 r7_9 false))))))) (.seq (.seq (.region 10 r7_10 false) (.block 2 (.seq (.region 11 r7_11 false) (.cond (Operand.tmp 30) (.seq (.region 12 r7_12 false) .ret) (.seq (.region 13 r7_13 false) (.cond (Operand.tmp 32) (.seq (.region 14 r7_14 false) .ret) (.seq (.region 15 r7_15 false) (.cond (Operand.tmp 34) (.seq (.region 16 r7_16 false) .ret) .skip)))))))) (.seq (.region 17 r7_17 false) .ret))))) := by kernel_rfl
theorem nt7 : Tryz.f7.ntmps = 36 := by kernel_rfl
theorem rs7 : Tryz.f7.results.toList = [ResultVar.tmp 4] := by kernel_rfl
theorem l7_0 : lite 36 r7_0 = some [
    ⟨some 2, Op.box 30 (Operand.tmp 0), none⟩,
    ⟨some 3, Op.box 9 (Operand.tmp 1), none⟩,
    ⟨some 4, Op.assign (Operand.const (Value.int IntKind.i64 0)), none⟩] := by kernel_rfl
theorem l7_1 : lite 36 r7_1 = some [
    ⟨some 10, Op.load 30 (Operand.tmp 2), none⟩,
    ⟨some 11, Op.load 9 (Operand.tmp 3), none⟩,
    ⟨some 12, Op.call { callee := Callee.value (Operand.func 6), args := #[Operand.tmp 10, Operand.tmp 11], argTypes := #[30, 9] }, none⟩,
    ⟨some 9, Op.move (Operand.tmp 12), none⟩,
    ⟨some 13, Op.extract (Operand.tmp 9) 0, none⟩,
    ⟨some 14, Op.extract (Operand.tmp 9) 1, none⟩,
    ⟨some 5, Op.alloc 40, none⟩,
    ⟨none, Op.store 40 (Operand.tmp 5) (Operand.tmp 13), none⟩,
    ⟨some 6, Op.assign (Operand.tmp 14), none⟩] := by kernel_rfl
theorem l7_2 : lite 36 r7_2 = some [
    ⟨some 15, Op.move (Operand.tmp 6), none⟩,
    ⟨some 16, Op.binOp BinOp.eql 41 (Operand.tmp 15) (Operand.const (Value.int IntKind.i64 0)) 41, none⟩] := by kernel_rfl
theorem l7_3 : lite 36 r7_3 = some [
    ⟨some 4, Op.assign (Operand.const (Value.int IntKind.i64 1)), none⟩] := by kernel_rfl
theorem l7_4 : lite 36 r7_4 = some [
    ⟨some 17, Op.fieldAddr 30 (Operand.tmp 2) 7, none⟩,
    ⟨some 18, Op.load 28 (Operand.tmp 17), none⟩,
    ⟨some 19, Op.call { callee := Callee.builtin Builtin.len, args := #[Operand.tmp 18], argTypes := #[28] }, none⟩,
    ⟨some 20, Op.move (Operand.const (Value.int IntKind.i64 0)), none⟩] := by kernel_rfl
theorem l7_5 : lite 36 r7_5 = some [
    ⟨some 21, Op.binOp BinOp.lss 3 (Operand.tmp 20) (Operand.tmp 19) 3, none⟩] := by kernel_rfl
theorem l7_6 : lite 36 r7_6 = some [
    ⟨some 22, Op.indexAddr 28 (Operand.tmp 18) (Operand.tmp 20), none⟩,
    ⟨some 23, Op.load 40 (Operand.tmp 22), none⟩,
    ⟨some 8, Op.alloc 40, none⟩,
    ⟨none, Op.store 40 (Operand.tmp 8) (Operand.tmp 23), none⟩] := by kernel_rfl
theorem l7_7 : lite 36 r7_7 = some [
    ⟨some 24, Op.fieldAddr 40 (Operand.tmp 8) 6, none⟩,
    ⟨some 25, Op.load 35 (Operand.tmp 24), none⟩,
    ⟨some 26, Op.makeFunc (Fn.func 18) #[] #[Operand.tmp 3], none⟩,
    ⟨some 27, Op.call { callee := Callee.value (Operand.func 17), args := #[Operand.tmp 25, Operand.tmp 26], argTypes := #[35, 58] }, none⟩] := by kernel_rfl
theorem l7_8 : lite 36 r7_8 = some [
    ⟨some 4, Op.assign (Operand.const (Value.int IntKind.i64 2)), none⟩] := by kernel_rfl
theorem l7_9 : lite 36 r7_9 = some [
    ⟨some 28, Op.binOp BinOp.add 3 (Operand.tmp 20) (Operand.const (Value.int IntKind.i64 1)) 3, none⟩,
    ⟨some 20, Op.move (Operand.tmp 28), none⟩] := by kernel_rfl
theorem l7_10 : lite 36 r7_10 = some [
    ⟨some 29, Op.load 9 (Operand.tmp 3), none⟩] := by kernel_rfl
theorem l7_11 : lite 36 r7_11 = some [
    ⟨some 31, Op.binOp BinOp.eql 9 (Operand.tmp 29) (Operand.const (Value.string { data := #[100, 105, 102, 102, 105, 99, 117, 108, 116, 121] })) 9, none⟩,
    ⟨some 30, Op.assign (Operand.tmp 31), none⟩] := by kernel_rfl
theorem l7_12 : lite 36 r7_12 = some [
    ⟨some 4, Op.assign (Operand.const (Value.int IntKind.i64 3)), none⟩] := by kernel_rfl
theorem l7_13 : lite 36 r7_13 = some [
    ⟨some 33, Op.binOp BinOp.eql 9 (Operand.tmp 29) (Operand.const (Value.string { data := #[112, 101, 110, 97, 108, 116, 105, 101, 115] })) 9, none⟩,
    ⟨some 32, Op.assign (Operand.tmp 33), none⟩] := by kernel_rfl
theorem l7_14 : lite 36 r7_14 = some [
    ⟨some 4, Op.assign (Operand.const (Value.int IntKind.i64 4)), none⟩] := by kernel_rfl
theorem l7_15 : lite 36 r7_15 = some [
    ⟨some 35, Op.binOp BinOp.eql 9 (Operand.tmp 29) (Operand.const (Value.string { data := #[98, 101, 115, 116] })) 9, none⟩,
    ⟨some 34, Op.assign (Operand.tmp 35), none⟩] := by kernel_rfl
theorem l7_16 : lite 36 r7_16 = some [
    ⟨some 4, Op.assign (Operand.const (Value.int IntKind.i64 5)), none⟩] := by kernel_rfl
theorem l7_17 : lite 36 r7_17 = some [
    ⟨some 4, Op.assign (Operand.const (Value.int IntKind.i64 0)), none⟩] := by kernel_rfl

noncomputable def r8_0 : Array Oper := (regionsOf (bodyOf Tryz.f8)).getD 0 #[]
noncomputable def r8_1 : Array Oper := (regionsOf (bodyOf Tryz.f8)).getD 1 #[]
noncomputable def r8_2 : Array Oper := (regionsOf (bodyOf Tryz.f8)).getD 2 #[]
noncomputable def r8_3 : Array Oper := (regionsOf (bodyOf Tryz.f8)).getD 3 #[]
noncomputable def r8_4 : Array Oper := (regionsOf (bodyOf Tryz.f8)).getD 4 #[]
noncomputable def r8_5 : Array Oper := (regionsOf (bodyOf Tryz.f8)).getD 5 #[]
noncomputable def r8_6 : Array Oper := (regionsOf (bodyOf Tryz.f8)).getD 6 #[]
noncomputable def r8_7 : Array Oper := (regionsOf (bodyOf Tryz.f8)).getD 7 #[]
noncomputable def r8_8 : Array Oper := (regionsOf (bodyOf Tryz.f8)).getD 8 #[]
noncomputable def r8_9 : Array Oper := (regionsOf (bodyOf Tryz.f8)).getD 9 #[]
noncomputable def r8_10 : Array Oper := (regionsOf (bodyOf Tryz.f8)).getD 10 #[]
noncomputable def r8_11 : Array Oper := (regionsOf (bodyOf Tryz.f8)).getD 11 #[]
noncomputable def r8_12 : Array Oper := (regionsOf (bodyOf Tryz.f8)).getD 12 #[]
noncomputable def r8_13 : Array Oper := (regionsOf (bodyOf Tryz.f8)).getD 13 #[]
noncomputable def r8_14 : Array Oper := (regionsOf (bodyOf Tryz.f8)).getD 14 #[]
noncomputable def r8_15 : Array Oper := (regionsOf (bodyOf Tryz.f8)).getD 15 #[]
noncomputable def r8_16 : Array Oper := (regionsOf (bodyOf Tryz.f8)).getD 16 #[]
noncomputable def r8_17 : Array Oper := (regionsOf (bodyOf Tryz.f8)).getD 17 #[]
noncomputable def r8_18 : Array Oper := (regionsOf (bodyOf Tryz.f8)).getD 18 #[]
theorem b8 : Tryz.f8.body = some (.seq (.region 0 r8_0 false) (.seq (.seq (.region 1 r8_1 false) (.block 0 (.loop (.seq (.seq (.region 2 r8_2 false) (.cond (Operand.tmp 11) .skip (.exit 0))) (.seq (.block 1 (.seq (.region 4 r8_3 false) (.cond (Operand.tmp 21) (.seq (.region 5 r8_4 false) .ret) .skip))) (.region 3 r8_5 false)))))) (.seq (.seq (.region 6 r8_6 false) (.block 2 (.loop (.seq (.seq (.region 7 r8_7 false) (.cond (Operand.tmp 26) .skip (.exit 2))) (.seq (.block 3 (.seq (.region 9 r8_8 false) (.cond (Operand.tmp 36) (.seq (.region 10 r8_9 false) .ret) .skip))) (.region 8 r8_10 false)))))) (.seq (.seq (.region 11 r8_11 false) (.block 4 (.seq (.region 12 r8_12 false) (.cond (Operand.tmp 38) (.seq (.region 13 r8_13 false) .ret) (.seq (.region 14 r8_14 false) (.cond (Operand.tmp 40) (.seq (.region 15 r8_15 false) .ret) (.seq (.region 16 r8_16 false) (.cond (Operand.tmp 42) (.seq (.region 17 r8_17 false) .ret) .skip)))))))) (.seq (.region 18 r8_18 false) .ret))))) := by kernel_rfl
theorem nt8 : Tryz.f8.ntmps = 44 := by kernel_rfl
theorem rs8 : Tryz.f8.results.toList = [ResultVar.tmp 4] := by kernel_rfl
theorem l8_0 : lite 44 r8_0 = some [
    ⟨some 2, Op.box 30 (Operand.tmp 0), none⟩,
    ⟨some 4, Op.assign (Operand.const (Value.int IntKind.i64 0)), none⟩] := by kernel_rfl
theorem l8_1 : lite 44 r8_1 = some [
    ⟨some 5, Op.assign (Operand.const (Value.int IntKind.i64 0)), none⟩] := by kernel_rfl
theorem l8_2 : lite 44 r8_2 = some [
    ⟨some 7, Op.move (Operand.tmp 5), none⟩,
    ⟨some 8, Op.fieldAddr 30 (Operand.tmp 2) 7, none⟩,
    ⟨some 9, Op.load 28 (Operand.tmp 8), none⟩,
    ⟨some 10, Op.call { callee := Callee.builtin Builtin.len, args := #[Operand.tmp 9], argTypes := #[28] }, none⟩,
    ⟨some 11, Op.binOp BinOp.lss 3 (Operand.tmp 7) (Operand.tmp 10) 3, none⟩] := by kernel_rfl
theorem l8_3 : lite 44 r8_3 = some [
    ⟨some 14, Op.fieldAddr 30 (Operand.tmp 2) 7, none⟩,
    ⟨some 15, Op.load 28 (Operand.tmp 14), none⟩,
    ⟨some 16, Op.move (Operand.tmp 5), none⟩,
    ⟨some 17, Op.indexAddr 28 (Operand.tmp 15) (Operand.tmp 16), none⟩,
    ⟨some 18, Op.fieldAddr 40 (Operand.tmp 17) 0, none⟩,
    ⟨some 19, Op.load 9 (Operand.tmp 18), none⟩,
    ⟨some 20, Op.move (Operand.tmp 1), none⟩,
    ⟨some 21, Op.binOp BinOp.eql 9 (Operand.tmp 19) (Operand.tmp 20) 9, none⟩] := by kernel_rfl
theorem l8_4 : lite 44 r8_4 = some [
    ⟨some 4, Op.assign (Operand.const (Value.int IntKind.i64 1)), none⟩] := by kernel_rfl
theorem l8_5 : lite 44 r8_5 = some [
    ⟨some 12, Op.move (Operand.tmp 5), none⟩,
    ⟨some 13, Op.binOp BinOp.add 3 (Operand.tmp 12) (Operand.const (Value.int IntKind.i64 1)) 3, none⟩,
    ⟨some 5, Op.assign (Operand.tmp 13), none⟩] := by kernel_rfl
theorem l8_6 : lite 44 r8_6 = some [
    ⟨some 6, Op.assign (Operand.const (Value.int IntKind.i64 0)), none⟩] := by kernel_rfl
theorem l8_7 : lite 44 r8_7 = some [
    ⟨some 22, Op.move (Operand.tmp 6), none⟩,
    ⟨some 23, Op.fieldAddr 30 (Operand.tmp 2) 7, none⟩,
    ⟨some 24, Op.load 28 (Operand.tmp 23), none⟩,
    ⟨some 25, Op.call { callee := Callee.builtin Builtin.len, args := #[Operand.tmp 24], argTypes := #[28] }, none⟩,
    ⟨some 26, Op.binOp BinOp.lss 3 (Operand.tmp 22) (Operand.tmp 25) 3, none⟩] := by kernel_rfl
theorem l8_8 : lite 44 r8_8 = some [
    ⟨some 29, Op.fieldAddr 30 (Operand.tmp 2) 7, none⟩,
    ⟨some 30, Op.load 28 (Operand.tmp 29), none⟩,
    ⟨some 31, Op.move (Operand.tmp 6), none⟩,
    ⟨some 32, Op.indexAddr 28 (Operand.tmp 30) (Operand.tmp 31), none⟩,
    ⟨some 33, Op.load 40 (Operand.tmp 32), none⟩,
    ⟨some 34, Op.call { callee := Callee.value (Operand.func 20), args := #[Operand.tmp 33], argTypes := #[40] }, none⟩,
    ⟨some 35, Op.move (Operand.tmp 1), none⟩,
    ⟨some 36, Op.call { callee := Callee.value (Operand.func 19), args := #[Operand.tmp 34, Operand.tmp 35], argTypes := #[23, 9] }, none⟩] := by kernel_rfl
theorem l8_9 : lite 44 r8_9 = some [
    ⟨some 4, Op.assign (Operand.const (Value.int IntKind.i64 2)), none⟩] := by kernel_rfl
theorem l8_10 : lite 44 r8_10 = some [
    ⟨some 27, Op.move (Operand.tmp 6), none⟩,
    ⟨some 28, Op.binOp BinOp.add 3 (Operand.tmp 27) (Operand.const (Value.int IntKind.i64 1)) 3, none⟩,
    ⟨some 6, Op.assign (Operand.tmp 28), none⟩] := by kernel_rfl
theorem l8_11 : lite 44 r8_11 = some [
    ⟨some 37, Op.move (Operand.tmp 1), none⟩] := by kernel_rfl
theorem l8_12 : lite 44 r8_12 = some [
    ⟨some 39, Op.binOp BinOp.eql 9 (Operand.tmp 37) (Operand.const (Value.string { data := #[100, 105, 102, 102, 105, 99, 117, 108, 116, 121] })) 9, none⟩,
    ⟨some 38, Op.assign (Operand.tmp 39), none⟩] := by kernel_rfl
theorem l8_13 : lite 44 r8_13 = some [
    ⟨some 4, Op.assign (Operand.const (Value.int IntKind.i64 3)), none⟩] := by kernel_rfl
theorem l8_14 : lite 44 r8_14 = some [
    ⟨some 41, Op.binOp BinOp.eql 9 (Operand.tmp 37) (Operand.const (Value.string { data := #[112, 101, 110, 97, 108, 116, 105, 101, 115] })) 9, none⟩,
    ⟨some 40, Op.assign (Operand.tmp 41), none⟩] := by kernel_rfl
theorem l8_15 : lite 44 r8_15 = some [
    ⟨some 4, Op.assign (Operand.const (Value.int IntKind.i64 4)), none⟩] := by kernel_rfl
theorem l8_16 : lite 44 r8_16 = some [
    ⟨some 43, Op.binOp BinOp.eql 9 (Operand.tmp 37) (Operand.const (Value.string { data := #[98, 101, 115, 116] })) 9, none⟩,
    ⟨some 42, Op.assign (Operand.tmp 43), none⟩] := by kernel_rfl
theorem l8_17 : lite 44 r8_17 = some [
    ⟨some 4, Op.assign (Operand.const (Value.int IntKind.i64 5)), none⟩] := by kernel_rfl
theorem l8_18 : lite 44 r8_18 = some [
    ⟨some 4, Op.assign (Operand.const (Value.int IntKind.i64 0)), none⟩] := by kernel_rfl

noncomputable def r9_0 : Array Oper := (regionsOf (bodyOf Tryz.f9)).getD 0 #[]
noncomputable def r9_1 : Array Oper := (regionsOf (bodyOf Tryz.f9)).getD 1 #[]
noncomputable def r9_2 : Array Oper := (regionsOf (bodyOf Tryz.f9)).getD 2 #[]
noncomputable def r9_3 : Array Oper := (regionsOf (bodyOf Tryz.f9)).getD 3 #[]
noncomputable def r9_4 : Array Oper := (regionsOf (bodyOf Tryz.f9)).getD 4 #[]
noncomputable def r9_5 : Array Oper := (regionsOf (bodyOf Tryz.f9)).getD 5 #[]
noncomputable def r9_6 : Array Oper := (regionsOf (bodyOf Tryz.f9)).getD 6 #[]
noncomputable def r9_7 : Array Oper := (regionsOf (bodyOf Tryz.f9)).getD 7 #[]
noncomputable def r9_8 : Array Oper := (regionsOf (bodyOf Tryz.f9)).getD 8 #[]
noncomputable def r9_9 : Array Oper := (regionsOf (bodyOf Tryz.f9)).getD 9 #[]
noncomputable def r9_10 : Array Oper := (regionsOf (bodyOf Tryz.f9)).getD 10 #[]
noncomputable def r9_11 : Array Oper := (regionsOf (bodyOf Tryz.f9)).getD 11 #[]
noncomputable def r9_12 : Array Oper := (regionsOf (bodyOf Tryz.f9)).getD 12 #[]
noncomputable def r9_13 : Array Oper := (regionsOf (bodyOf Tryz.f9)).getD 13 #[]
noncomputable def r9_14 : Array Oper := (regionsOf (bodyOf Tryz.f9)).getD 14 #[]
noncomputable def r9_15 : Array Oper := (regionsOf (bodyOf Tryz.f9)).getD 15 #[]
noncomputable def r9_16 : Array Oper := (regionsOf (bodyOf Tryz.f9)).getD 16 #[]
noncomputable def r9_17 : Array Oper := (regionsOf (bodyOf Tryz.f9)).getD 17 #[]
noncomputable def r9_18 : Array Oper := (regionsOf (bodyOf Tryz.f9)).getD 18 #[]
noncomputable def r9_19 : Array Oper := (regionsOf (bodyOf Tryz.f9)).getD 19 #[]
noncomputable def r9_20 : Array Oper := (regionsOf (bodyOf Tryz.f9)).getD 20 #[]
theorem b9 : Tryz.f9.body = some (.seq (.region 0 r9_0 false) (.seq (.seq (.region 1 r9_1 false) (.cond (Operand.tmp 41) (.seq (.region 2 r9_2 false) .ret) .skip)) (.seq (.seq (.region 3 r9_3 false) (.cond (Operand.tmp 66) (.seq (.region 4 r9_4 false) .ret) .skip)) (.seq (.seq (.region 5 r9_5 false) (.block 0 (.loop (.seq (.seq (.region 6 r9_6 false) (.cond (Operand.tmp 71) .skip (.exit 0))) (.seq (.block 1 (.seq (.region 8 r9_7 true) (.cond (Operand.tmp 84) (.seq (.region 9 r9_8 false) .ret) .skip))) (.region 7 r9_9 false)))))) (.seq (.seq (.region 10 r9_10 false) (.block 2 (.loop (.seq (.seq (.region 11 r9_11 false) (.cond (Operand.tmp 89) .skip (.exit 2))) (.seq (.block 3 (.seq (.region 13 r9_12 true) (.cond (Operand.tmp 102) (.seq (.region 14 r9_13 false) .ret) .skip))) (.region 12 r9_14 false)))))) (.seq (.seq (.region 15 r9_15 false) (.block 4 (.loop (.seq (.seq (.region 16 r9_16 false) (.cond (Operand.tmp 107) .skip (.exit 4))) (.seq (.block 5 (.seq (.region 18 r9_17 true) (.cond (Operand.tmp 120) (.seq (.region 19 r9_18 false) .ret) .skip))) (.region 17 r9_19 false)))))) (.seq (.region 20 r9_20 false) .ret))))))) := by kernel_rfl
theorem nt9 : Tryz.f9.ntmps = 121 := by kernel_rfl
theorem rs9 : Tryz.f9.results.toList = [ResultVar.tmp 4] := by kernel_rfl
theorem l9_0 : lite 121 r9_0 = some [
    ⟨some 2, Op.box 40 (Operand.tmp 0), none⟩,
    ⟨some 3, Op.box 40 (Operand.tmp 1), none⟩,
    ⟨some 4, Op.assign (Operand.const (Value.bool false)), none⟩] := by kernel_rfl
theorem l9_1 : lite 121 r9_1 = some [
    ⟨some 8, Op.fieldAddr 40 (Operand.tmp 2) 0, none⟩,
    ⟨some 9, Op.load 9 (Operand.tmp 8), none⟩,
    ⟨some 10, Op.fieldAddr 40 (Operand.tmp 3) 0, none⟩,
    ⟨some 11, Op.load 9 (Operand.tmp 10), none⟩,
    ⟨some 12, Op.binOp BinOp.neq 9 (Operand.tmp 9) (Operand.tmp 11) 9, none⟩,
    ⟨some 13, Op.move (Operand.tmp 12), none⟩,
    ⟨some 14, Op.fieldAddr 40 (Operand.tmp 2) 1, some (13, false)⟩,
    ⟨some 15, Op.load 3 (Operand.tmp 14), some (13, false)⟩,
    ⟨some 16, Op.fieldAddr 40 (Operand.tmp 3) 1, some (13, false)⟩,
    ⟨some 17, Op.load 3 (Operand.tmp 16), some (13, false)⟩,
    ⟨some 18, Op.binOp BinOp.neq 3 (Operand.tmp 15) (Operand.tmp 17) 3, some (13, false)⟩,
    ⟨some 19, Op.pick (Operand.tmp 13) (Operand.const (Value.bool true)) (Operand.tmp 18), none⟩,
    ⟨some 20, Op.move (Operand.tmp 19), none⟩,
    ⟨some 21, Op.fieldAddr 40 (Operand.tmp 2) 2, some (20, false)⟩,
    ⟨some 22, Op.load 3 (Operand.tmp 21), some (20, false)⟩,
    ⟨some 23, Op.fieldAddr 40 (Operand.tmp 3) 2, some (20, false)⟩,
    ⟨some 24, Op.load 3 (Operand.tmp 23), some (20, false)⟩,
    ⟨some 25, Op.binOp BinOp.neq 3 (Operand.tmp 22) (Operand.tmp 24) 3, some (20, false)⟩,
    ⟨some 26, Op.pick (Operand.tmp 20) (Operand.const (Value.bool true)) (Operand.tmp 25), none⟩,
    ⟨some 27, Op.move (Operand.tmp 26), none⟩,
    ⟨some 28, Op.fieldAddr 40 (Operand.tmp 2) 3, some (27, false)⟩,
    ⟨some 29, Op.load 2 (Operand.tmp 28), some (27, false)⟩,
    ⟨some 30, Op.fieldAddr 40 (Operand.tmp 3) 3, some (27, false)⟩,
    ⟨some 31, Op.load 2 (Operand.tmp 30), some (27, false)⟩,
    ⟨some 32, Op.binOp BinOp.neq 2 (Operand.tmp 29) (Operand.tmp 31) 2, some (27, false)⟩,
    ⟨some 33, Op.pick (Operand.tmp 27) (Operand.const (Value.bool true)) (Operand.tmp 32), none⟩,
    ⟨some 34, Op.move (Operand.tmp 33), none⟩,
    ⟨some 35, Op.fieldAddr 40 (Operand.tmp 2) 7, some (34, false)⟩,
    ⟨some 36, Op.load 38 (Operand.tmp 35), some (34, false)⟩,
    ⟨some 37, Op.fieldAddr 40 (Operand.tmp 3) 7, some (34, false)⟩,
    ⟨some 38, Op.load 38 (Operand.tmp 37), some (34, false)⟩,
    ⟨some 39, Op.call { callee := Callee.value (Operand.func 21), args := #[Operand.tmp 36, Operand.tmp 38], argTypes := #[38, 38] }, some (34, false)⟩,
    ⟨some 40, Op.unOp UnOp.not 4 (Operand.tmp 39), some (34, false)⟩,
    ⟨some 41, Op.pick (Operand.tmp 34) (Operand.const (Value.bool true)) (Operand.tmp 40), none⟩] := by kernel_rfl
theorem l9_2 : lite 121 r9_2 = some [
    ⟨some 4, Op.assign (Operand.const (Value.bool false)), none⟩] := by kernel_rfl
theorem l9_3 : lite 121 r9_3 = some [
    ⟨some 42, Op.fieldAddr 40 (Operand.tmp 2) 4, none⟩,
    ⟨some 43, Op.load 33 (Operand.tmp 42), none⟩,
    ⟨some 44, Op.call { callee := Callee.builtin Builtin.len, args := #[Operand.tmp 43], argTypes := #[33] }, none⟩,
    ⟨some 45, Op.fieldAddr 40 (Operand.tmp 3) 4, none⟩,
    ⟨some 46, Op.load 33 (Operand.tmp 45), none⟩,
    ⟨some 47, Op.call { callee := Callee.builtin Builtin.len, args := #[Operand.tmp 46], argTypes := #[33] }, none⟩,
    ⟨some 48, Op.binOp BinOp.neq 3 (Operand.tmp 44) (Operand.tmp 47) 3, none⟩,
    ⟨some 49, Op.move (Operand.tmp 48), none⟩,
    ⟨some 50, Op.fieldAddr 40 (Operand.tmp 2) 5, some (49, false)⟩,
    ⟨some 51, Op.load 34 (Operand.tmp 50), some (49, false)⟩,
    ⟨some 52, Op.call { callee := Callee.builtin Builtin.len, args := #[Operand.tmp 51], argTypes := #[34] }, some (49, false)⟩,
    ⟨some 53, Op.fieldAddr 40 (Operand.tmp 3) 5, some (49, false)⟩,
    ⟨some 54, Op.load 34 (Operand.tmp 53), some (49, false)⟩,
    ⟨some 55, Op.call { callee := Callee.builtin Builtin.len, args := #[Operand.tmp 54], argTypes := #[34] }, some (49, false)⟩,
    ⟨some 56, Op.binOp BinOp.neq 3 (Operand.tmp 52) (Operand.tmp 55) 3, some (49, false)⟩,
    ⟨some 57, Op.pick (Operand.tmp 49) (Operand.const (Value.bool true)) (Operand.tmp 56), none⟩,
    ⟨some 58, Op.move (Operand.tmp 57), none⟩,
    ⟨some 59, Op.fieldAddr 40 (Operand.tmp 2) 6, some (58, false)⟩,
    ⟨some 60, Op.load 35 (Operand.tmp 59), some (58, false)⟩,
    ⟨some 61, Op.call { callee := Callee.builtin Builtin.len, args := #[Operand.tmp 60], argTypes := #[35] }, some (58, false)⟩,
    ⟨some 62, Op.fieldAddr 40 (Operand.tmp 3) 6, some (58, false)⟩,
    ⟨some 63, Op.load 35 (Operand.tmp 62), some (58, false)⟩,
    ⟨some 64, Op.call { callee := Callee.builtin Builtin.len, args := #[Operand.tmp 63], argTypes := #[35] }, some (58, false)⟩,
    ⟨some 65, Op.binOp BinOp.neq 3 (Operand.tmp 61) (Operand.tmp 64) 3, some (58, false)⟩,
    ⟨some 66, Op.pick (Operand.tmp 58) (Operand.const (Value.bool true)) (Operand.tmp 65), none⟩] := by kernel_rfl
theorem l9_4 : lite 121 r9_4 = some [
    ⟨some 4, Op.assign (Operand.const (Value.bool false)), none⟩] := by kernel_rfl
theorem l9_5 : lite 121 r9_5 = some [
    ⟨some 5, Op.assign (Operand.const (Value.int IntKind.i64 0)), none⟩] := by kernel_rfl
theorem l9_6 : lite 121 r9_6 = some [
    ⟨some 67, Op.move (Operand.tmp 5), none⟩,
    ⟨some 68, Op.fieldAddr 40 (Operand.tmp 2) 4, none⟩,
    ⟨some 69, Op.load 33 (Operand.tmp 68), none⟩,
    ⟨some 70, Op.call { callee := Callee.builtin Builtin.len, args := #[Operand.tmp 69], argTypes := #[33] }, none⟩,
    ⟨some 71, Op.binOp BinOp.lss 3 (Operand.tmp 67) (Operand.tmp 70) 3, none⟩] := by kernel_rfl
theorem l9_7 : lite 121 r9_7 = some [
    ⟨some 74, Op.fieldAddr 40 (Operand.tmp 2) 4, none⟩,
    ⟨some 75, Op.load 33 (Operand.tmp 74), none⟩,
    ⟨some 76, Op.move (Operand.tmp 5), none⟩,
    ⟨some 77, Op.indexAddr 33 (Operand.tmp 75) (Operand.tmp 76), none⟩,
    ⟨some 78, Op.load 63 (Operand.tmp 77), none⟩,
    ⟨some 79, Op.fieldAddr 40 (Operand.tmp 3) 4, none⟩,
    ⟨some 80, Op.load 33 (Operand.tmp 79), none⟩,
    ⟨some 81, Op.move (Operand.tmp 5), none⟩,
    ⟨some 82, Op.indexAddr 33 (Operand.tmp 80) (Operand.tmp 81), none⟩,
    ⟨some 83, Op.load 63 (Operand.tmp 82), none⟩,
    ⟨some 84, Op.binOp BinOp.neq 63 (Operand.tmp 78) (Operand.tmp 83) 63, none⟩] := by kernel_rfl
theorem n9_7 : F.noPairs Tryz.prog r9_7 = true := by kernel_rfl
theorem l9_8 : lite 121 r9_8 = some [
    ⟨some 4, Op.assign (Operand.const (Value.bool false)), none⟩] := by kernel_rfl
theorem l9_9 : lite 121 r9_9 = some [
    ⟨some 72, Op.move (Operand.tmp 5), none⟩,
    ⟨some 73, Op.binOp BinOp.add 3 (Operand.tmp 72) (Operand.const (Value.int IntKind.i64 1)) 3, none⟩,
    ⟨some 5, Op.assign (Operand.tmp 73), none⟩] := by kernel_rfl
theorem l9_10 : lite 121 r9_10 = some [
    ⟨some 6, Op.assign (Operand.const (Value.int IntKind.i64 0)), none⟩] := by kernel_rfl
theorem l9_11 : lite 121 r9_11 = some [
    ⟨some 85, Op.move (Operand.tmp 6), none⟩,
    ⟨some 86, Op.fieldAddr 40 (Operand.tmp 2) 5, none⟩,
    ⟨some 87, Op.load 34 (Operand.tmp 86), none⟩,
    ⟨some 88, Op.call { callee := Callee.builtin Builtin.len, args := #[Operand.tmp 87], argTypes := #[34] }, none⟩,
    ⟨some 89, Op.binOp BinOp.lss 3 (Operand.tmp 85) (Operand.tmp 88) 3, none⟩] := by kernel_rfl
theorem l9_12 : lite 121 r9_12 = some [
    ⟨some 92, Op.fieldAddr 40 (Operand.tmp 2) 5, none⟩,
    ⟨some 93, Op.load 34 (Operand.tmp 92), none⟩,
    ⟨some 94, Op.move (Operand.tmp 6), none⟩,
    ⟨some 95, Op.indexAddr 34 (Operand.tmp 93) (Operand.tmp 94), none⟩,
    ⟨some 96, Op.load 65 (Operand.tmp 95), none⟩,
    ⟨some 97, Op.fieldAddr 40 (Operand.tmp 3) 5, none⟩,
    ⟨some 98, Op.load 34 (Operand.tmp 97), none⟩,
    ⟨some 99, Op.move (Operand.tmp 6), none⟩,
    ⟨some 100, Op.indexAddr 34 (Operand.tmp 98) (Operand.tmp 99), none⟩,
    ⟨some 101, Op.load 65 (Operand.tmp 100), none⟩,
    ⟨some 102, Op.binOp BinOp.neq 65 (Operand.tmp 96) (Operand.tmp 101) 65, none⟩] := by kernel_rfl
theorem n9_12 : F.noPairs Tryz.prog r9_12 = true := by kernel_rfl
theorem l9_13 : lite 121 r9_13 = some [
    ⟨some 4, Op.assign (Operand.const (Value.bool false)), none⟩] := by kernel_rfl
theorem l9_14 : lite 121 r9_14 = some [
    ⟨some 90, Op.move (Operand.tmp 6), none⟩,
    ⟨some 91, Op.binOp BinOp.add 3 (Operand.tmp 90) (Operand.const (Value.int IntKind.i64 1)) 3, none⟩,
    ⟨some 6, Op.assign (Operand.tmp 91), none⟩] := by kernel_rfl
theorem l9_15 : lite 121 r9_15 = some [
    ⟨some 7, Op.assign (Operand.const (Value.int IntKind.i64 0)), none⟩] := by kernel_rfl
theorem l9_16 : lite 121 r9_16 = some [
    ⟨some 103, Op.move (Operand.tmp 7), none⟩,
    ⟨some 104, Op.fieldAddr 40 (Operand.tmp 2) 6, none⟩,
    ⟨some 105, Op.load 35 (Operand.tmp 104), none⟩,
    ⟨some 106, Op.call { callee := Callee.builtin Builtin.len, args := #[Operand.tmp 105], argTypes := #[35] }, none⟩,
    ⟨some 107, Op.binOp BinOp.lss 3 (Operand.tmp 103) (Operand.tmp 106) 3, none⟩] := by kernel_rfl
theorem l9_17 : lite 121 r9_17 = some [
    ⟨some 110, Op.fieldAddr 40 (Operand.tmp 2) 6, none⟩,
    ⟨some 111, Op.load 35 (Operand.tmp 110), none⟩,
    ⟨some 112, Op.move (Operand.tmp 7), none⟩,
    ⟨some 113, Op.indexAddr 35 (Operand.tmp 111) (Operand.tmp 112), none⟩,
    ⟨some 114, Op.load 57 (Operand.tmp 113), none⟩,
    ⟨some 115, Op.fieldAddr 40 (Operand.tmp 3) 6, none⟩,
    ⟨some 116, Op.load 35 (Operand.tmp 115), none⟩,
    ⟨some 117, Op.move (Operand.tmp 7), none⟩,
    ⟨some 118, Op.indexAddr 35 (Operand.tmp 116) (Operand.tmp 117), none⟩,
    ⟨some 119, Op.load 57 (Operand.tmp 118), none⟩,
    ⟨some 120, Op.binOp BinOp.neq 57 (Operand.tmp 114) (Operand.tmp 119) 57, none⟩] := by kernel_rfl
theorem n9_17 : F.noPairs Tryz.prog r9_17 = true := by kernel_rfl
theorem l9_18 : lite 121 r9_18 = some [
    ⟨some 4, Op.assign (Operand.const (Value.bool false)), none⟩] := by kernel_rfl
theorem l9_19 : lite 121 r9_19 = some [
    ⟨some 108, Op.move (Operand.tmp 7), none⟩,
    ⟨some 109, Op.binOp BinOp.add 3 (Operand.tmp 108) (Operand.const (Value.int IntKind.i64 1)) 3, none⟩,
    ⟨some 7, Op.assign (Operand.tmp 109), none⟩] := by kernel_rfl
theorem l9_20 : lite 121 r9_20 = some [
    ⟨some 4, Op.assign (Operand.const (Value.bool true)), none⟩] := by kernel_rfl

noncomputable def r13_0 : Array Oper := (regionsOf (bodyOf Tryz.f13)).getD 0 #[]
noncomputable def r13_1 : Array Oper := (regionsOf (bodyOf Tryz.f13)).getD 1 #[]
theorem b13 : Tryz.f13.body = some (.seq (.region 0 r13_0 false) (.seq (.region 1 r13_1 false) .ret)) := by kernel_rfl
theorem nt13 : Tryz.f13.ntmps = 25 := by kernel_rfl
theorem rs13 : Tryz.f13.results.toList = [ResultVar.tmp 2] := by kernel_rfl
theorem l13_0 : lite 25 r13_0 = some [
    ⟨some 1, Op.box 27 (Operand.tmp 0), none⟩,
    ⟨some 2, Op.assign (Operand.const (Value.bool false)), none⟩] := by kernel_rfl
theorem l13_1 : lite 25 r13_1 = some [
    ⟨some 3, Op.fieldAddr 27 (Operand.tmp 1) 0, none⟩,
    ⟨some 4, Op.load 22 (Operand.tmp 3), none⟩,
    ⟨some 5, Op.call { callee := Callee.builtin Builtin.len, args := #[Operand.tmp 4], argTypes := #[22] }, none⟩,
    ⟨some 6, Op.binOp BinOp.leq 3 (Operand.tmp 5) (Operand.const (Value.int IntKind.i64 12)) 3, none⟩,
    ⟨some 7, Op.move (Operand.tmp 6), none⟩,
    ⟨some 8, Op.fieldAddr 27 (Operand.tmp 1) 1, some (7, true)⟩,
    ⟨some 9, Op.load 23 (Operand.tmp 8), some (7, true)⟩,
    ⟨some 10, Op.call { callee := Callee.builtin Builtin.len, args := #[Operand.tmp 9], argTypes := #[23] }, some (7, true)⟩,
    ⟨some 11, Op.binOp BinOp.leq 3 (Operand.tmp 10) (Operand.const (Value.int IntKind.i64 16)) 3, some (7, true)⟩,
    ⟨some 12, Op.pick (Operand.tmp 7) (Operand.tmp 11) (Operand.const (Value.bool false)), none⟩,
    ⟨some 13, Op.move (Operand.tmp 12), none⟩,
    ⟨some 14, Op.fieldAddr 27 (Operand.tmp 1) 2, some (13, true)⟩,
    ⟨some 15, Op.load 24 (Operand.tmp 14), some (13, true)⟩,
    ⟨some 16, Op.call { callee := Callee.builtin Builtin.len, args := #[Operand.tmp 15], argTypes := #[24] }, some (13, true)⟩,
    ⟨some 17, Op.binOp BinOp.leq 3 (Operand.tmp 16) (Operand.const (Value.int IntKind.i64 40)) 3, some (13, true)⟩,
    ⟨some 18, Op.pick (Operand.tmp 13) (Operand.tmp 17) (Operand.const (Value.bool false)), none⟩,
    ⟨some 19, Op.move (Operand.tmp 18), none⟩,
    ⟨some 20, Op.fieldAddr 27 (Operand.tmp 1) 3, some (19, true)⟩,
    ⟨some 21, Op.load 25 (Operand.tmp 20), some (19, true)⟩,
    ⟨some 22, Op.call { callee := Callee.builtin Builtin.len, args := #[Operand.tmp 21], argTypes := #[25] }, some (19, true)⟩,
    ⟨some 23, Op.binOp BinOp.leq 3 (Operand.tmp 22) (Operand.const (Value.int IntKind.i64 40)) 3, some (19, true)⟩,
    ⟨some 24, Op.pick (Operand.tmp 19) (Operand.tmp 23) (Operand.const (Value.bool false)), none⟩,
    ⟨some 2, Op.assign (Operand.tmp 24), none⟩] := by kernel_rfl

noncomputable def r14_0 : Array Oper := (regionsOf (bodyOf Tryz.f14)).getD 0 #[]
noncomputable def r14_1 : Array Oper := (regionsOf (bodyOf Tryz.f14)).getD 1 #[]
theorem b14 : Tryz.f14.body = some (.seq (.region 0 r14_0 false) (.seq (.region 1 r14_1 false) .ret)) := by kernel_rfl
theorem nt14 : Tryz.f14.ntmps = 24 := by kernel_rfl
theorem rs14 : Tryz.f14.results.toList = [ResultVar.tmp 2] := by kernel_rfl
theorem l14_0 : lite 24 r14_0 = some [
    ⟨some 1, Op.box 40 (Operand.tmp 0), none⟩,
    ⟨some 2, Op.assign (Operand.const (Value.bool false)), none⟩] := by kernel_rfl
theorem l14_1 : lite 24 r14_1 = some [
    ⟨some 3, Op.fieldAddr 40 (Operand.tmp 1) 4, none⟩,
    ⟨some 4, Op.load 33 (Operand.tmp 3), none⟩,
    ⟨some 5, Op.call { callee := Callee.builtin Builtin.len, args := #[Operand.tmp 4], argTypes := #[33] }, none⟩,
    ⟨some 6, Op.binOp BinOp.leq 3 (Operand.tmp 5) (Operand.const (Value.int IntKind.i64 12)) 3, none⟩,
    ⟨some 7, Op.move (Operand.tmp 6), none⟩,
    ⟨some 8, Op.fieldAddr 40 (Operand.tmp 1) 5, some (7, true)⟩,
    ⟨some 9, Op.load 34 (Operand.tmp 8), some (7, true)⟩,
    ⟨some 10, Op.call { callee := Callee.builtin Builtin.len, args := #[Operand.tmp 9], argTypes := #[34] }, some (7, true)⟩,
    ⟨some 11, Op.binOp BinOp.leq 3 (Operand.tmp 10) (Operand.const (Value.int IntKind.i64 20)) 3, some (7, true)⟩,
    ⟨some 12, Op.pick (Operand.tmp 7) (Operand.tmp 11) (Operand.const (Value.bool false)), none⟩,
    ⟨some 13, Op.move (Operand.tmp 12), none⟩,
    ⟨some 14, Op.fieldAddr 40 (Operand.tmp 1) 6, some (13, true)⟩,
    ⟨some 15, Op.load 35 (Operand.tmp 14), some (13, true)⟩,
    ⟨some 16, Op.call { callee := Callee.builtin Builtin.len, args := #[Operand.tmp 15], argTypes := #[35] }, some (13, true)⟩,
    ⟨some 17, Op.binOp BinOp.leq 3 (Operand.tmp 16) (Operand.const (Value.int IntKind.i64 10)) 3, some (13, true)⟩,
    ⟨some 18, Op.pick (Operand.tmp 13) (Operand.tmp 17) (Operand.const (Value.bool false)), none⟩,
    ⟨some 19, Op.move (Operand.tmp 18), none⟩,
    ⟨some 20, Op.fieldAddr 40 (Operand.tmp 1) 7, some (19, true)⟩,
    ⟨some 21, Op.load 38 (Operand.tmp 20), some (19, true)⟩,
    ⟨some 22, Op.call { callee := Callee.value (Operand.func 29), args := #[Operand.tmp 21, Operand.const (Value.int IntKind.i64 100)], argTypes := #[38, 3] }, some (19, true)⟩,
    ⟨some 23, Op.pick (Operand.tmp 19) (Operand.tmp 22) (Operand.const (Value.bool false)), none⟩,
    ⟨some 2, Op.assign (Operand.tmp 23), none⟩] := by kernel_rfl

noncomputable def r15_0 : Array Oper := (regionsOf (bodyOf Tryz.f15)).getD 0 #[]
noncomputable def r15_1 : Array Oper := (regionsOf (bodyOf Tryz.f15)).getD 1 #[]
noncomputable def r15_2 : Array Oper := (regionsOf (bodyOf Tryz.f15)).getD 2 #[]
noncomputable def r15_3 : Array Oper := (regionsOf (bodyOf Tryz.f15)).getD 3 #[]
noncomputable def r15_4 : Array Oper := (regionsOf (bodyOf Tryz.f15)).getD 4 #[]
noncomputable def r15_5 : Array Oper := (regionsOf (bodyOf Tryz.f15)).getD 5 #[]
noncomputable def r15_6 : Array Oper := (regionsOf (bodyOf Tryz.f15)).getD 6 #[]
noncomputable def r15_7 : Array Oper := (regionsOf (bodyOf Tryz.f15)).getD 7 #[]
theorem b15 : Tryz.f15.body = some (.seq (.region 0 r15_0 false) (.seq (.seq (.region 1 r15_1 false) (.block 0 (.loop (.seq (.region 2 r15_2 false) (.seq (.cond (Operand.tmp 9) .skip (.exit 0)) (.seq (.block 1 (.seq (.region 3 r15_3 false) (.seq (.region 4 r15_4 false) (.cond (Operand.tmp 16) (.seq (.region 5 r15_5 false) .ret) .skip)))) (.region 6 r15_6 false))))))) (.seq (.region 7 r15_7 false) .ret))) := by kernel_rfl
theorem nt15 : Tryz.f15.ntmps = 19 := by kernel_rfl
theorem rs15 : Tryz.f15.results.toList = [ResultVar.tmp 4] := by kernel_rfl
theorem l15_0 : lite 19 r15_0 = some [
    ⟨some 4, Op.assign (Operand.const (Value.int IntKind.i64 0)), none⟩] := by kernel_rfl
theorem l15_1 : lite 19 r15_1 = some [
    ⟨some 6, Op.move (Operand.tmp 0), none⟩,
    ⟨some 7, Op.call { callee := Callee.builtin Builtin.len, args := #[Operand.tmp 6], argTypes := #[28] }, none⟩,
    ⟨some 8, Op.move (Operand.const (Value.int IntKind.i64 0)), none⟩] := by kernel_rfl
theorem l15_2 : lite 19 r15_2 = some [
    ⟨some 9, Op.binOp BinOp.lss 3 (Operand.tmp 8) (Operand.tmp 7) 3, none⟩] := by kernel_rfl
theorem l15_3 : lite 19 r15_3 = some [
    ⟨some 10, Op.move (Operand.tmp 8), none⟩,
    ⟨some 5, Op.assign (Operand.tmp 10), none⟩] := by kernel_rfl
theorem l15_4 : lite 19 r15_4 = some [
    ⟨some 11, Op.move (Operand.tmp 1), none⟩,
    ⟨some 12, Op.move (Operand.tmp 0), none⟩,
    ⟨some 13, Op.move (Operand.tmp 5), none⟩,
    ⟨some 14, Op.indexAddr 28 (Operand.tmp 12) (Operand.tmp 13), none⟩,
    ⟨some 15, Op.load 40 (Operand.tmp 14), none⟩,
    ⟨some 16, Op.call { callee := Callee.value (Operand.tmp 11), args := #[Operand.tmp 15], argTypes := #[40] }, none⟩] := by kernel_rfl
theorem l15_5 : lite 19 r15_5 = some [
    ⟨some 17, Op.move (Operand.tmp 5), none⟩,
    ⟨some 4, Op.assign (Operand.tmp 17), none⟩] := by kernel_rfl
theorem l15_6 : lite 19 r15_6 = some [
    ⟨some 18, Op.binOp BinOp.add 3 (Operand.tmp 8) (Operand.const (Value.int IntKind.i64 1)) 3, none⟩,
    ⟨some 8, Op.move (Operand.tmp 18), none⟩] := by kernel_rfl
theorem l15_7 : lite 19 r15_7 = some [
    ⟨some 4, Op.assign (Operand.const (Value.int IntKind.i64 (-1))), none⟩] := by kernel_rfl

noncomputable def r16_0 : Array Oper := (regionsOf (bodyOf Tryz.f16)).getD 0 #[]
noncomputable def r16_1 : Array Oper := (regionsOf (bodyOf Tryz.f16)).getD 1 #[]
theorem b16 : Tryz.f16.body = some (.seq (.region 0 r16_0 false) (.seq (.region 1 r16_1 false) .ret)) := by kernel_rfl
theorem nt16 : Tryz.f16.ntmps = 8 := by kernel_rfl
theorem rs16 : Tryz.f16.results.toList = [ResultVar.tmp 3] := by kernel_rfl
theorem l16_0 : lite 8 r16_0 = some [
    ⟨some 2, Op.box 40 (Operand.tmp 0), none⟩,
    ⟨some 3, Op.assign (Operand.const (Value.bool false)), none⟩] := by kernel_rfl
theorem l16_1 : lite 8 r16_1 = some [
    ⟨some 4, Op.fieldAddr 40 (Operand.tmp 2) 0, none⟩,
    ⟨some 5, Op.load 9 (Operand.tmp 4), none⟩,
    ⟨some 6, Op.load 9 (Operand.tmp 1), none⟩,
    ⟨some 7, Op.binOp BinOp.eql 9 (Operand.tmp 5) (Operand.tmp 6) 9, none⟩,
    ⟨some 3, Op.assign (Operand.tmp 7), none⟩] := by kernel_rfl

noncomputable def r17_0 : Array Oper := (regionsOf (bodyOf Tryz.f17)).getD 0 #[]
noncomputable def r17_1 : Array Oper := (regionsOf (bodyOf Tryz.f17)).getD 1 #[]
theorem b17 : Tryz.f17.body = some (.seq (.region 0 r17_0 false) (.seq (.region 1 r17_1 false) .ret)) := by kernel_rfl
theorem nt17 : Tryz.f17.ntmps = 9 := by kernel_rfl
theorem rs17 : Tryz.f17.results.toList = [ResultVar.tmp 4] := by kernel_rfl
theorem l17_0 : lite 9 r17_0 = some [
    ⟨some 4, Op.assign (Operand.const (Value.bool false)), none⟩] := by kernel_rfl
theorem l17_1 : lite 9 r17_1 = some [
    ⟨some 5, Op.move (Operand.tmp 0), none⟩,
    ⟨some 6, Op.move (Operand.tmp 1), none⟩,
    ⟨some 7, Op.call { callee := Callee.value (Operand.func 30), args := #[Operand.tmp 5, Operand.tmp 6], argTypes := #[35, 58] }, none⟩,
    ⟨some 8, Op.binOp BinOp.geq 3 (Operand.tmp 7) (Operand.const (Value.int IntKind.i64 0)) 3, none⟩,
    ⟨some 4, Op.assign (Operand.tmp 8), none⟩] := by kernel_rfl

noncomputable def r18_0 : Array Oper := (regionsOf (bodyOf Tryz.f18)).getD 0 #[]
noncomputable def r18_1 : Array Oper := (regionsOf (bodyOf Tryz.f18)).getD 1 #[]
theorem b18 : Tryz.f18.body = some (.seq (.region 0 r18_0 false) (.seq (.region 1 r18_1 false) .ret)) := by kernel_rfl
theorem nt18 : Tryz.f18.ntmps = 8 := by kernel_rfl
theorem rs18 : Tryz.f18.results.toList = [ResultVar.tmp 3] := by kernel_rfl
theorem l18_0 : lite 8 r18_0 = some [
    ⟨some 2, Op.box 57 (Operand.tmp 0), none⟩,
    ⟨some 3, Op.assign (Operand.const (Value.bool false)), none⟩] := by kernel_rfl
theorem l18_1 : lite 8 r18_1 = some [
    ⟨some 4, Op.fieldAddr 57 (Operand.tmp 2) 0, none⟩,
    ⟨some 5, Op.load 9 (Operand.tmp 4), none⟩,
    ⟨some 6, Op.load 9 (Operand.tmp 1), none⟩,
    ⟨some 7, Op.binOp BinOp.eql 9 (Operand.tmp 5) (Operand.tmp 6) 9, none⟩,
    ⟨some 3, Op.assign (Operand.tmp 7), none⟩] := by kernel_rfl

noncomputable def r19_0 : Array Oper := (regionsOf (bodyOf Tryz.f19)).getD 0 #[]
noncomputable def r19_1 : Array Oper := (regionsOf (bodyOf Tryz.f19)).getD 1 #[]
noncomputable def r19_2 : Array Oper := (regionsOf (bodyOf Tryz.f19)).getD 2 #[]
noncomputable def r19_3 : Array Oper := (regionsOf (bodyOf Tryz.f19)).getD 3 #[]
noncomputable def r19_4 : Array Oper := (regionsOf (bodyOf Tryz.f19)).getD 4 #[]
noncomputable def r19_5 : Array Oper := (regionsOf (bodyOf Tryz.f19)).getD 5 #[]
noncomputable def r19_6 : Array Oper := (regionsOf (bodyOf Tryz.f19)).getD 6 #[]
theorem b19 : Tryz.f19.body = some (.seq (.region 0 r19_0 false) (.seq (.seq (.region 1 r19_1 false) (.block 0 (.loop (.seq (.seq (.region 2 r19_2 false) (.cond (Operand.tmp 9) .skip (.exit 0))) (.seq (.block 1 (.seq (.region 4 r19_3 false) (.cond (Operand.tmp 17) (.seq (.region 5 r19_4 false) .ret) .skip))) (.region 3 r19_5 false)))))) (.seq (.region 6 r19_6 false) .ret))) := by kernel_rfl
theorem nt19 : Tryz.f19.ntmps = 18 := by kernel_rfl
theorem rs19 : Tryz.f19.results.toList = [ResultVar.tmp 4] := by kernel_rfl
theorem l19_0 : lite 18 r19_0 = some [
    ⟨some 4, Op.assign (Operand.const (Value.bool false)), none⟩] := by kernel_rfl
theorem l19_1 : lite 18 r19_1 = some [
    ⟨some 5, Op.assign (Operand.const (Value.int IntKind.i64 0)), none⟩] := by kernel_rfl
theorem l19_2 : lite 18 r19_2 = some [
    ⟨some 6, Op.move (Operand.tmp 5), none⟩,
    ⟨some 7, Op.move (Operand.tmp 0), none⟩,
    ⟨some 8, Op.call { callee := Callee.builtin Builtin.len, args := #[Operand.tmp 7], argTypes := #[23] }, none⟩,
    ⟨some 9, Op.binOp BinOp.lss 3 (Operand.tmp 6) (Operand.tmp 8) 3, none⟩] := by kernel_rfl
theorem l19_3 : lite 18 r19_3 = some [
    ⟨some 12, Op.move (Operand.tmp 0), none⟩,
    ⟨some 13, Op.move (Operand.tmp 5), none⟩,
    ⟨some 14, Op.indexAddr 23 (Operand.tmp 12) (Operand.tmp 13), none⟩,
    ⟨some 15, Op.load 9 (Operand.tmp 14), none⟩,
    ⟨some 16, Op.move (Operand.tmp 1), none⟩,
    ⟨some 17, Op.binOp BinOp.eql 9 (Operand.tmp 15) (Operand.tmp 16) 9, none⟩] := by kernel_rfl
theorem l19_4 : lite 18 r19_4 = some [
    ⟨some 4, Op.assign (Operand.const (Value.bool true)), none⟩] := by kernel_rfl
theorem l19_5 : lite 18 r19_5 = some [
    ⟨some 10, Op.move (Operand.tmp 5), none⟩,
    ⟨some 11, Op.binOp BinOp.add 3 (Operand.tmp 10) (Operand.const (Value.int IntKind.i64 1)) 3, none⟩,
    ⟨some 5, Op.assign (Operand.tmp 11), none⟩] := by kernel_rfl
theorem l19_6 : lite 18 r19_6 = some [
    ⟨some 4, Op.assign (Operand.const (Value.bool false)), none⟩] := by kernel_rfl

noncomputable def r20_0 : Array Oper := (regionsOf (bodyOf Tryz.f20)).getD 0 #[]
noncomputable def r20_1 : Array Oper := (regionsOf (bodyOf Tryz.f20)).getD 1 #[]
noncomputable def r20_2 : Array Oper := (regionsOf (bodyOf Tryz.f20)).getD 2 #[]
noncomputable def r20_3 : Array Oper := (regionsOf (bodyOf Tryz.f20)).getD 3 #[]
noncomputable def r20_4 : Array Oper := (regionsOf (bodyOf Tryz.f20)).getD 4 #[]
noncomputable def r20_5 : Array Oper := (regionsOf (bodyOf Tryz.f20)).getD 5 #[]
noncomputable def r20_6 : Array Oper := (regionsOf (bodyOf Tryz.f20)).getD 6 #[]
theorem b20 : Tryz.f20.body = some (.seq (.region 0 r20_0 false) (.seq (.region 1 r20_1 false) (.seq (.seq (.region 2 r20_2 false) (.block 0 (.loop (.seq (.seq (.region 3 r20_3 false) (.cond (Operand.tmp 10) .skip (.exit 0))) (.seq (.block 1 (.region 5 r20_4 false)) (.region 4 r20_5 false)))))) (.seq (.region 6 r20_6 false) .ret)))) := by kernel_rfl
theorem nt20 : Tryz.f20.ntmps = 23 := by kernel_rfl
theorem rs20 : Tryz.f20.results.toList = [ResultVar.tmp 2] := by kernel_rfl
theorem l20_0 : lite 23 r20_0 = some [
    ⟨some 1, Op.box 40 (Operand.tmp 0), none⟩,
    ⟨some 2, Op.assign (Operand.const (Value.slice none 0 0)), none⟩] := by kernel_rfl
theorem l20_1 : lite 23 r20_1 = some [
    ⟨some 5, Op.buildSlice 23 0 #[], none⟩,
    ⟨some 3, Op.assign (Operand.tmp 5), none⟩] := by kernel_rfl
theorem l20_2 : lite 23 r20_2 = some [
    ⟨some 4, Op.assign (Operand.const (Value.int IntKind.i64 0)), none⟩] := by kernel_rfl
theorem l20_3 : lite 23 r20_3 = some [
    ⟨some 6, Op.move (Operand.tmp 4), none⟩,
    ⟨some 7, Op.fieldAddr 40 (Operand.tmp 1) 6, none⟩,
    ⟨some 8, Op.load 35 (Operand.tmp 7), none⟩,
    ⟨some 9, Op.call { callee := Callee.builtin Builtin.len, args := #[Operand.tmp 8], argTypes := #[35] }, none⟩,
    ⟨some 10, Op.binOp BinOp.lss 3 (Operand.tmp 6) (Operand.tmp 9) 3, none⟩] := by kernel_rfl
theorem l20_4 : lite 23 r20_4 = some [
    ⟨some 13, Op.move (Operand.tmp 3), none⟩,
    ⟨some 14, Op.fieldAddr 40 (Operand.tmp 1) 6, none⟩,
    ⟨some 15, Op.load 35 (Operand.tmp 14), none⟩,
    ⟨some 16, Op.move (Operand.tmp 4), none⟩,
    ⟨some 17, Op.indexAddr 35 (Operand.tmp 15) (Operand.tmp 16), none⟩,
    ⟨some 18, Op.fieldAddr 57 (Operand.tmp 17) 0, none⟩,
    ⟨some 19, Op.load 9 (Operand.tmp 18), none⟩,
    ⟨some 20, Op.buildSlice 23 1 #[(0, Operand.tmp 19)], none⟩,
    ⟨some 21, Op.call { callee := Callee.builtin Builtin.append, args := #[Operand.tmp 13, Operand.tmp 20], argTypes := #[23, 23] }, none⟩,
    ⟨some 3, Op.assign (Operand.tmp 21), none⟩] := by kernel_rfl
theorem l20_5 : lite 23 r20_5 = some [
    ⟨some 11, Op.move (Operand.tmp 4), none⟩,
    ⟨some 12, Op.binOp BinOp.add 3 (Operand.tmp 11) (Operand.const (Value.int IntKind.i64 1)) 3, none⟩,
    ⟨some 4, Op.assign (Operand.tmp 12), none⟩] := by kernel_rfl
theorem l20_6 : lite 23 r20_6 = some [
    ⟨some 22, Op.move (Operand.tmp 3), none⟩,
    ⟨some 2, Op.assign (Operand.tmp 22), none⟩] := by kernel_rfl

noncomputable def r21_0 : Array Oper := (regionsOf (bodyOf Tryz.f21)).getD 0 #[]
noncomputable def r21_1 : Array Oper := (regionsOf (bodyOf Tryz.f21)).getD 1 #[]
noncomputable def r21_2 : Array Oper := (regionsOf (bodyOf Tryz.f21)).getD 2 #[]
noncomputable def r21_3 : Array Oper := (regionsOf (bodyOf Tryz.f21)).getD 3 #[]
noncomputable def r21_4 : Array Oper := (regionsOf (bodyOf Tryz.f21)).getD 4 #[]
noncomputable def r21_5 : Array Oper := (regionsOf (bodyOf Tryz.f21)).getD 5 #[]
noncomputable def r21_6 : Array Oper := (regionsOf (bodyOf Tryz.f21)).getD 6 #[]
noncomputable def r21_7 : Array Oper := (regionsOf (bodyOf Tryz.f21)).getD 7 #[]
noncomputable def r21_8 : Array Oper := (regionsOf (bodyOf Tryz.f21)).getD 8 #[]
theorem b21 : Tryz.f21.body = some (.seq (.region 0 r21_0 false) (.seq (.seq (.region 1 r21_1 false) (.cond (Operand.tmp 33) (.seq (.region 2 r21_2 false) .ret) .skip)) (.seq (.seq (.region 3 r21_3 false) (.block 0 (.loop (.seq (.seq (.region 4 r21_4 false) (.cond (Operand.tmp 38) .skip (.exit 0))) (.seq (.block 1 (.seq (.region 6 r21_5 true) (.cond (Operand.tmp 52) (.seq (.region 7 r21_6 false) .ret) .skip))) (.region 5 r21_7 false)))))) (.seq (.region 8 r21_8 false) .ret)))) := by kernel_rfl
theorem nt21 : Tryz.f21.ntmps = 53 := by kernel_rfl
theorem rs21 : Tryz.f21.results.toList = [ResultVar.tmp 4] := by kernel_rfl
theorem l21_0 : lite 53 r21_0 = some [
    ⟨some 2, Op.box 38 (Operand.tmp 0), none⟩,
    ⟨some 3, Op.box 38 (Operand.tmp 1), none⟩,
    ⟨some 4, Op.assign (Operand.const (Value.bool false)), none⟩] := by kernel_rfl
theorem l21_1 : lite 53 r21_1 = some [
    ⟨some 6, Op.fieldAddr 38 (Operand.tmp 2) 0, none⟩,
    ⟨some 7, Op.load 3 (Operand.tmp 6), none⟩,
    ⟨some 8, Op.fieldAddr 38 (Operand.tmp 3) 0, none⟩,
    ⟨some 9, Op.load 3 (Operand.tmp 8), none⟩,
    ⟨some 10, Op.binOp BinOp.neq 3 (Operand.tmp 7) (Operand.tmp 9) 3, none⟩,
    ⟨some 11, Op.move (Operand.tmp 10), none⟩,
    ⟨some 12, Op.fieldAddr 38 (Operand.tmp 2) 1, some (11, false)⟩,
    ⟨some 13, Op.load 9 (Operand.tmp 12), some (11, false)⟩,
    ⟨some 14, Op.fieldAddr 38 (Operand.tmp 3) 1, some (11, false)⟩,
    ⟨some 15, Op.load 9 (Operand.tmp 14), some (11, false)⟩,
    ⟨some 16, Op.binOp BinOp.neq 9 (Operand.tmp 13) (Operand.tmp 15) 9, some (11, false)⟩,
    ⟨some 17, Op.pick (Operand.tmp 11) (Operand.const (Value.bool true)) (Operand.tmp 16), none⟩,
    ⟨some 18, Op.move (Operand.tmp 17), none⟩,
    ⟨some 19, Op.fieldAddr 38 (Operand.tmp 2) 2, some (18, false)⟩,
    ⟨some 20, Op.load 2 (Operand.tmp 19), some (18, false)⟩,
    ⟨some 21, Op.fieldAddr 38 (Operand.tmp 3) 2, some (18, false)⟩,
    ⟨some 22, Op.load 2 (Operand.tmp 21), some (18, false)⟩,
    ⟨some 23, Op.binOp BinOp.neq 2 (Operand.tmp 20) (Operand.tmp 22) 2, some (18, false)⟩,
    ⟨some 24, Op.pick (Operand.tmp 18) (Operand.const (Value.bool true)) (Operand.tmp 23), none⟩,
    ⟨some 25, Op.move (Operand.tmp 24), none⟩,
    ⟨some 26, Op.fieldAddr 38 (Operand.tmp 2) 3, some (25, false)⟩,
    ⟨some 27, Op.load 36 (Operand.tmp 26), some (25, false)⟩,
    ⟨some 28, Op.call { callee := Callee.builtin Builtin.len, args := #[Operand.tmp 27], argTypes := #[36] }, some (25, false)⟩,
    ⟨some 29, Op.fieldAddr 38 (Operand.tmp 3) 3, some (25, false)⟩,
    ⟨some 30, Op.load 36 (Operand.tmp 29), some (25, false)⟩,
    ⟨some 31, Op.call { callee := Callee.builtin Builtin.len, args := #[Operand.tmp 30], argTypes := #[36] }, some (25, false)⟩,
    ⟨some 32, Op.binOp BinOp.neq 3 (Operand.tmp 28) (Operand.tmp 31) 3, some (25, false)⟩,
    ⟨some 33, Op.pick (Operand.tmp 25) (Operand.const (Value.bool true)) (Operand.tmp 32), none⟩] := by kernel_rfl
theorem l21_2 : lite 53 r21_2 = some [
    ⟨some 4, Op.assign (Operand.const (Value.bool false)), none⟩] := by kernel_rfl
theorem l21_3 : lite 53 r21_3 = some [
    ⟨some 5, Op.assign (Operand.const (Value.int IntKind.i64 0)), none⟩] := by kernel_rfl
theorem l21_4 : lite 53 r21_4 = some [
    ⟨some 34, Op.move (Operand.tmp 5), none⟩,
    ⟨some 35, Op.fieldAddr 38 (Operand.tmp 2) 3, none⟩,
    ⟨some 36, Op.load 36 (Operand.tmp 35), none⟩,
    ⟨some 37, Op.call { callee := Callee.builtin Builtin.len, args := #[Operand.tmp 36], argTypes := #[36] }, none⟩,
    ⟨some 38, Op.binOp BinOp.lss 3 (Operand.tmp 34) (Operand.tmp 37) 3, none⟩] := by kernel_rfl
theorem l21_5 : lite 53 r21_5 = some [
    ⟨some 41, Op.fieldAddr 38 (Operand.tmp 2) 3, none⟩,
    ⟨some 42, Op.load 36 (Operand.tmp 41), none⟩,
    ⟨some 43, Op.move (Operand.tmp 5), none⟩,
    ⟨some 44, Op.indexAddr 36 (Operand.tmp 42) (Operand.tmp 43), none⟩,
    ⟨some 45, Op.load 38 (Operand.tmp 44), none⟩,
    ⟨some 46, Op.fieldAddr 38 (Operand.tmp 3) 3, none⟩,
    ⟨some 47, Op.load 36 (Operand.tmp 46), none⟩,
    ⟨some 48, Op.move (Operand.tmp 5), none⟩,
    ⟨some 49, Op.indexAddr 36 (Operand.tmp 47) (Operand.tmp 48), none⟩,
    ⟨some 50, Op.load 38 (Operand.tmp 49), none⟩,
    ⟨some 51, Op.call { callee := Callee.value (Operand.func 21), args := #[Operand.tmp 45, Operand.tmp 50], argTypes := #[38, 38] }, none⟩,
    ⟨some 52, Op.unOp UnOp.not 4 (Operand.tmp 51), none⟩] := by kernel_rfl
theorem n21_5 : F.noPairs Tryz.prog r21_5 = true := by kernel_rfl
theorem l21_6 : lite 53 r21_6 = some [
    ⟨some 4, Op.assign (Operand.const (Value.bool false)), none⟩] := by kernel_rfl
theorem l21_7 : lite 53 r21_7 = some [
    ⟨some 39, Op.move (Operand.tmp 5), none⟩,
    ⟨some 40, Op.binOp BinOp.add 3 (Operand.tmp 39) (Operand.const (Value.int IntKind.i64 1)) 3, none⟩,
    ⟨some 5, Op.assign (Operand.tmp 40), none⟩] := by kernel_rfl
theorem l21_8 : lite 53 r21_8 = some [
    ⟨some 4, Op.assign (Operand.const (Value.bool true)), none⟩] := by kernel_rfl

noncomputable def r29_0 : Array Oper := (regionsOf (bodyOf Tryz.f29)).getD 0 #[]
noncomputable def r29_1 : Array Oper := (regionsOf (bodyOf Tryz.f29)).getD 1 #[]
theorem b29 : Tryz.f29.body = some (.seq (.region 0 r29_0 false) (.seq (.region 1 r29_1 false) .ret)) := by kernel_rfl
theorem nt29 : Tryz.f29.ntmps = 9 := by kernel_rfl
theorem rs29 : Tryz.f29.results.toList = [ResultVar.tmp 4] := by kernel_rfl
theorem l29_0 : lite 9 r29_0 = some [
    ⟨some 2, Op.box 38 (Operand.tmp 0), none⟩,
    ⟨some 4, Op.assign (Operand.const (Value.bool false)), none⟩] := by kernel_rfl
theorem l29_1 : lite 9 r29_1 = some [
    ⟨some 5, Op.load 38 (Operand.tmp 2), none⟩,
    ⟨some 6, Op.move (Operand.tmp 1), none⟩,
    ⟨some 7, Op.call { callee := Callee.value (Operand.func 49), args := #[Operand.tmp 5, Operand.tmp 6], argTypes := #[38, 3] }, none⟩,
    ⟨some 8, Op.binOp BinOp.geq 3 (Operand.tmp 7) (Operand.const (Value.int IntKind.i64 0)) 3, none⟩,
    ⟨some 4, Op.assign (Operand.tmp 8), none⟩] := by kernel_rfl

noncomputable def r30_0 : Array Oper := (regionsOf (bodyOf Tryz.f30)).getD 0 #[]
noncomputable def r30_1 : Array Oper := (regionsOf (bodyOf Tryz.f30)).getD 1 #[]
noncomputable def r30_2 : Array Oper := (regionsOf (bodyOf Tryz.f30)).getD 2 #[]
noncomputable def r30_3 : Array Oper := (regionsOf (bodyOf Tryz.f30)).getD 3 #[]
noncomputable def r30_4 : Array Oper := (regionsOf (bodyOf Tryz.f30)).getD 4 #[]
noncomputable def r30_5 : Array Oper := (regionsOf (bodyOf Tryz.f30)).getD 5 #[]
noncomputable def r30_6 : Array Oper := (regionsOf (bodyOf Tryz.f30)).getD 6 #[]
noncomputable def r30_7 : Array Oper := (regionsOf (bodyOf Tryz.f30)).getD 7 #[]
theorem b30 : Tryz.f30.body = some (.seq (.region 0 r30_0 false) (.seq (.seq (.region 1 r30_1 false) (.block 0 (.loop (.seq (.region 2 r30_2 false) (.seq (.cond (Operand.tmp 9) .skip (.exit 0)) (.seq (.block 1 (.seq (.region 3 r30_3 false) (.seq (.region 4 r30_4 false) (.cond (Operand.tmp 16) (.seq (.region 5 r30_5 false) .ret) .skip)))) (.region 6 r30_6 false))))))) (.seq (.region 7 r30_7 false) .ret))) := by kernel_rfl
theorem nt30 : Tryz.f30.ntmps = 19 := by kernel_rfl
theorem rs30 : Tryz.f30.results.toList = [ResultVar.tmp 4] := by kernel_rfl
theorem l30_0 : lite 19 r30_0 = some [
    ⟨some 4, Op.assign (Operand.const (Value.int IntKind.i64 0)), none⟩] := by kernel_rfl
theorem l30_1 : lite 19 r30_1 = some [
    ⟨some 6, Op.move (Operand.tmp 0), none⟩,
    ⟨some 7, Op.call { callee := Callee.builtin Builtin.len, args := #[Operand.tmp 6], argTypes := #[35] }, none⟩,
    ⟨some 8, Op.move (Operand.const (Value.int IntKind.i64 0)), none⟩] := by kernel_rfl
theorem l30_2 : lite 19 r30_2 = some [
    ⟨some 9, Op.binOp BinOp.lss 3 (Operand.tmp 8) (Operand.tmp 7) 3, none⟩] := by kernel_rfl
theorem l30_3 : lite 19 r30_3 = some [
    ⟨some 10, Op.move (Operand.tmp 8), none⟩,
    ⟨some 5, Op.assign (Operand.tmp 10), none⟩] := by kernel_rfl
theorem l30_4 : lite 19 r30_4 = some [
    ⟨some 11, Op.move (Operand.tmp 1), none⟩,
    ⟨some 12, Op.move (Operand.tmp 0), none⟩,
    ⟨some 13, Op.move (Operand.tmp 5), none⟩,
    ⟨some 14, Op.indexAddr 35 (Operand.tmp 12) (Operand.tmp 13), none⟩,
    ⟨some 15, Op.load 57 (Operand.tmp 14), none⟩,
    ⟨some 16, Op.call { callee := Callee.value (Operand.tmp 11), args := #[Operand.tmp 15], argTypes := #[57] }, none⟩] := by kernel_rfl
theorem l30_5 : lite 19 r30_5 = some [
    ⟨some 17, Op.move (Operand.tmp 5), none⟩,
    ⟨some 4, Op.assign (Operand.tmp 17), none⟩] := by kernel_rfl
theorem l30_6 : lite 19 r30_6 = some [
    ⟨some 18, Op.binOp BinOp.add 3 (Operand.tmp 8) (Operand.const (Value.int IntKind.i64 1)) 3, none⟩,
    ⟨some 8, Op.move (Operand.tmp 18), none⟩] := by kernel_rfl
theorem l30_7 : lite 19 r30_7 = some [
    ⟨some 4, Op.assign (Operand.const (Value.int IntKind.i64 (-1))), none⟩] := by kernel_rfl

noncomputable def r49_0 : Array Oper := (regionsOf (bodyOf Tryz.f49)).getD 0 #[]
noncomputable def r49_1 : Array Oper := (regionsOf (bodyOf Tryz.f49)).getD 1 #[]
noncomputable def r49_2 : Array Oper := (regionsOf (bodyOf Tryz.f49)).getD 2 #[]
noncomputable def r49_3 : Array Oper := (regionsOf (bodyOf Tryz.f49)).getD 3 #[]
noncomputable def r49_4 : Array Oper := (regionsOf (bodyOf Tryz.f49)).getD 4 #[]
noncomputable def r49_5 : Array Oper := (regionsOf (bodyOf Tryz.f49)).getD 5 #[]
noncomputable def r49_6 : Array Oper := (regionsOf (bodyOf Tryz.f49)).getD 6 #[]
noncomputable def r49_7 : Array Oper := (regionsOf (bodyOf Tryz.f49)).getD 7 #[]
noncomputable def r49_8 : Array Oper := (regionsOf (bodyOf Tryz.f49)).getD 8 #[]
theorem b49 : Tryz.f49.body = some (.seq (.region 0 r49_0 false) (.seq (.seq (.region 1 r49_1 false) (.cond (Operand.tmp 10) (.seq (.region 2 r49_2 false) .ret) .skip)) (.seq (.region 3 r49_3 false) (.seq (.seq (.region 4 r49_4 false) (.block 0 (.loop (.seq (.seq (.region 5 r49_5 false) (.cond (Operand.tmp 21) .skip (.exit 0))) (.seq (.block 1 (.region 7 r49_6 false)) (.region 6 r49_7 false)))))) (.seq (.region 8 r49_8 false) .ret))))) := by kernel_rfl
theorem nt49 : Tryz.f49.ntmps = 32 := by kernel_rfl
theorem rs49 : Tryz.f49.results.toList = [ResultVar.tmp 4] := by kernel_rfl
theorem l49_0 : lite 32 r49_0 = some [
    ⟨some 2, Op.box 38 (Operand.tmp 0), none⟩,
    ⟨some 4, Op.assign (Operand.const (Value.int IntKind.i64 0)), none⟩] := by kernel_rfl
theorem l49_1 : lite 32 r49_1 = some [
    ⟨some 7, Op.fieldAddr 38 (Operand.tmp 2) 1, none⟩,
    ⟨some 8, Op.load 9 (Operand.tmp 7), none⟩,
    ⟨some 9, Op.call { callee := Callee.builtin Builtin.len, args := #[Operand.tmp 8], argTypes := #[9] }, none⟩,
    ⟨some 10, Op.binOp BinOp.gtr 3 (Operand.tmp 9) (Operand.const (Value.int IntKind.i64 40)) 3, none⟩] := by kernel_rfl
theorem l49_2 : lite 32 r49_2 = some [
    ⟨some 4, Op.assign (Operand.const (Value.int IntKind.i64 (-1))), none⟩] := by kernel_rfl
theorem l49_3 : lite 32 r49_3 = some [
    ⟨some 11, Op.move (Operand.tmp 1), none⟩,
    ⟨some 12, Op.binOp BinOp.sub 3 (Operand.tmp 11) (Operand.const (Value.int IntKind.i64 1)) 3, none⟩,
    ⟨some 5, Op.assign (Operand.tmp 12), none⟩] := by kernel_rfl
theorem l49_4 : lite 32 r49_4 = some [
    ⟨some 6, Op.assign (Operand.const (Value.int IntKind.i64 0)), none⟩] := by kernel_rfl
theorem l49_5 : lite 32 r49_5 = some [
    ⟨some 13, Op.move (Operand.tmp 6), none⟩,
    ⟨some 14, Op.fieldAddr 38 (Operand.tmp 2) 3, none⟩,
    ⟨some 15, Op.load 36 (Operand.tmp 14), none⟩,
    ⟨some 16, Op.call { callee := Callee.builtin Builtin.len, args := #[Operand.tmp 15], argTypes := #[36] }, none⟩,
    ⟨some 17, Op.binOp BinOp.lss 3 (Operand.tmp 13) (Operand.tmp 16) 3, none⟩,
    ⟨some 18, Op.move (Operand.tmp 17), none⟩,
    ⟨some 19, Op.move (Operand.tmp 5), some (18, true)⟩,
    ⟨some 20, Op.binOp BinOp.geq 3 (Operand.tmp 19) (Operand.const (Value.int IntKind.i64 0)) 3, some (18, true)⟩,
    ⟨some 21, Op.pick (Operand.tmp 18) (Operand.tmp 20) (Operand.const (Value.bool false)), none⟩] := by kernel_rfl
theorem l49_6 : lite 32 r49_6 = some [
    ⟨some 24, Op.fieldAddr 38 (Operand.tmp 2) 3, none⟩,
    ⟨some 25, Op.load 36 (Operand.tmp 24), none⟩,
    ⟨some 26, Op.move (Operand.tmp 6), none⟩,
    ⟨some 27, Op.indexAddr 36 (Operand.tmp 25) (Operand.tmp 26), none⟩,
    ⟨some 28, Op.load 38 (Operand.tmp 27), none⟩,
    ⟨some 29, Op.move (Operand.tmp 5), none⟩,
    ⟨some 30, Op.call { callee := Callee.value (Operand.func 49), args := #[Operand.tmp 28, Operand.tmp 29], argTypes := #[38, 3] }, none⟩,
    ⟨some 5, Op.assign (Operand.tmp 30), none⟩] := by kernel_rfl
theorem l49_7 : lite 32 r49_7 = some [
    ⟨some 22, Op.move (Operand.tmp 6), none⟩,
    ⟨some 23, Op.binOp BinOp.add 3 (Operand.tmp 22) (Operand.const (Value.int IntKind.i64 1)) 3, none⟩,
    ⟨some 6, Op.assign (Operand.tmp 23), none⟩] := by kernel_rfl
theorem l49_8 : lite 32 r49_8 = some [
    ⟨some 31, Op.move (Operand.tmp 5), none⟩,
    ⟨some 4, Op.assign (Operand.tmp 31), none⟩] := by kernel_rfl


end
end Go.Proofs.YthmmpnkmjbfimaaGreatDoor

