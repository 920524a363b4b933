/- The code of the law's own functions, by their regions; facts of its types. -/
import Derived.Test.YtajihhoaimgeaaaGreatDoorSb
import Derived.Test.YtajihhoaimgeaaaGreatDoorYa
import Derived.Test.YtajihhoaimgeaaaGreatDoorProg
import Derived.KernelRfl
set_option linter.unusedVariables false
set_option linter.unusedSimpArgs false
set_option linter.unusedSectionVars false
set_option linter.unnecessarySimpa false
open Go Go.Ab Go.Proofs
namespace Go.Proofs.YtajihhoaimgeaaaGreatDoor
set_option linter.unusedVariables false
noncomputable section
def fsF (f : Nat) : Bool := f == 4 || f == 5 || f == 6 || f == 13
def cfgF : Cfg := { ok := fun _ => true, pure := fsF, dfr := fun _ => false, sum := sumE }
noncomputable def r3_0 : Array Oper := (regionsOf (bodyOf Tryz.f3)).getD 0 #[]
noncomputable def r3_1 : Array Oper := (regionsOf (bodyOf Tryz.f3)).getD 1 #[]
noncomputable def r3_2 : Array Oper := (regionsOf (bodyOf Tryz.f3)).getD 2 #[]
noncomputable def r3_3 : Array Oper := (regionsOf (bodyOf Tryz.f3)).getD 3 #[]
theorem b3 : Tryz.f3.body = some (.seq (.region 0 r3_0 false) (.seq (.seq (.region 1 r3_1 false) (.cond (Operand.tmp 12) (.seq (.region 2 r3_2 false) .ret) .skip)) (.seq (.region 3 r3_3 true) .ret))) := by kernel_rfl
theorem nt3 : Tryz.f3.ntmps = 22 := by kernel_rfl
theorem rs3 : Tryz.f3.results.toList = [ResultVar.tmp 2] := by kernel_rfl
theorem l3_0 : lite 22 r3_0 = some [
    ⟨some 1, Op.box 23 (Operand.tmp 0), none⟩,
    ⟨some 2, Op.assign (Operand.const (Value.bool false)), none⟩] := by kernel_rfl
theorem l3_1 : lite 22 r3_1 = some [
    ⟨some 3, Op.fieldAddr 23 (Operand.tmp 1) 1, none⟩,
    ⟨some 4, Op.load 9 (Operand.tmp 3), none⟩,
    ⟨some 5, Op.call { callee := Callee.builtin Builtin.len, args := #[Operand.tmp 4], argTypes := #[9] }, none⟩,
    ⟨some 6, Op.binOp BinOp.gtr 3 (Operand.tmp 5) (Operand.const (Value.int IntKind.i64 60)) 3, none⟩,
    ⟨some 7, Op.move (Operand.tmp 6), none⟩,
    ⟨some 8, Op.fieldAddr 23 (Operand.tmp 1) 2, some (7, false)⟩,
    ⟨some 9, Op.load 9 (Operand.tmp 8), some (7, false)⟩,
    ⟨some 10, Op.call { callee := Callee.builtin Builtin.len, args := #[Operand.tmp 9], argTypes := #[9] }, some (7, false)⟩,
    ⟨some 11, Op.binOp BinOp.gtr 3 (Operand.tmp 10) (Operand.const (Value.int IntKind.i64 60)) 3, some (7, false)⟩,
    ⟨some 12, Op.pick (Operand.tmp 7) (Operand.const (Value.bool true)) (Operand.tmp 11), none⟩] := by kernel_rfl
theorem l3_2 : lite 22 r3_2 = some [
    ⟨some 13, Op.call { callee := Callee.value (Operand.func 4), args := #[], argTypes := #[] }, none⟩,
    ⟨some 2, Op.assign (Operand.tmp 13), none⟩] := by kernel_rfl
theorem l3_3 : lite 22 r3_3 = some [
    ⟨some 14, Op.call { callee := Callee.value (Operand.func 4), args := #[], argTypes := #[] }, none⟩,
    ⟨some 15, Op.move (Operand.tmp 14), none⟩,
    ⟨some 16, Op.load 23 (Operand.tmp 1), some (15, true)⟩,
    ⟨some 17, Op.call { callee := Callee.value (Operand.func 5), args := #[Operand.tmp 16], argTypes := #[26] }, some (15, true)⟩,
    ⟨some 18, Op.load 23 (Operand.tmp 1), some (15, true)⟩,
    ⟨some 19, Op.call { callee := Callee.value (Operand.func 6), args := #[Operand.tmp 18], argTypes := #[23] }, some (15, true)⟩,
    ⟨some 20, Op.binOp BinOp.eql 9 (Operand.tmp 17) (Operand.tmp 19) 9, some (15, true)⟩,
    ⟨some 21, Op.pick (Operand.tmp 15) (Operand.tmp 20) (Operand.const (Value.bool false)), none⟩,
    ⟨some 2, Op.assign (Operand.tmp 21), none⟩] := by kernel_rfl
theorem n3_3 : stillDraw Tryz.prog fsF r3_3 = true := by kernel_rfl

noncomputable def r5_0 : Array Oper := (regionsOf (bodyOf Tryz.f5)).getD 0 #[]
noncomputable def r5_1 : Array Oper := (regionsOf (bodyOf Tryz.f5)).getD 1 #[]
noncomputable def r5_2 : Array Oper := (regionsOf (bodyOf Tryz.f5)).getD 2 #[]
noncomputable def r5_3 : Array Oper := (regionsOf (bodyOf Tryz.f5)).getD 3 #[]
noncomputable def r5_4 : Array Oper := (regionsOf (bodyOf Tryz.f5)).getD 4 #[]
noncomputable def r5_5 : Array Oper := (regionsOf (bodyOf Tryz.f5)).getD 5 #[]
noncomputable def r5_6 : Array Oper := (regionsOf (bodyOf Tryz.f5)).getD 6 #[]
noncomputable def r5_7 : Array Oper := (regionsOf (bodyOf Tryz.f5)).getD 7 #[]
noncomputable def r5_8 : Array Oper := (regionsOf (bodyOf Tryz.f5)).getD 8 #[]
noncomputable def r5_9 : Array Oper := (regionsOf (bodyOf Tryz.f5)).getD 9 #[]
noncomputable def r5_10 : Array Oper := (regionsOf (bodyOf Tryz.f5)).getD 10 #[]
noncomputable def r5_11 : Array Oper := (regionsOf (bodyOf Tryz.f5)).getD 11 #[]
theorem b5 : Tryz.f5.body = some (.seq (.region 0 r5_0 false) (.seq (.region 1 r5_1 false) (.seq (.seq (.region 2 r5_2 false) (.cond (Operand.tmp 15) (.seq (.region 3 r5_3 false) .ret) .skip)) (.seq (.region 4 r5_4 false) (.seq (.seq (.region 5 r5_5 true) (.block 0 (.loop (.seq (.region 6 r5_6 false) (.seq (.cond (Operand.tmp 32) .skip (.exit 0)) (.seq (.block 1 (.seq (.region 7 r5_7 false) (.seq (.region 8 r5_8 false) (.cond (Operand.tmp 36) (.region 9 r5_9 false) .skip)))) (.region 10 r5_10 false))))))) (.seq (.region 11 r5_11 false) .ret)))))) := by kernel_rfl
theorem nt5 : Tryz.f5.ntmps = 43 := by kernel_rfl
theorem rs5 : Tryz.f5.results.toList = [ResultVar.tmp 2] := by kernel_rfl
theorem l5_0 : lite 43 r5_0 = some [
    ⟨some 1, Op.box 26 (Operand.tmp 0), none⟩,
    ⟨some 2, Op.assign (Operand.const (Value.string { data := #[] })), none⟩] := by kernel_rfl
theorem l5_1 : lite 43 r5_1 = some [
    ⟨some 7, Op.buildSlice 34 10 #[(0, Operand.const (Value.string { data := #[] })), (1, Operand.const (Value.string { data := #[117, 110, 114, 101, 97, 99, 104, 97, 98, 108, 101] })), (2, Operand.const (Value.string { data := #[116, 111, 103, 101, 116, 104, 101, 114] })), (3, Operand.const (Value.string { data := #[105, 100, 108, 101] })), (4, Operand.const (Value.string { data := #[99, 114, 101, 100, 105, 116] })), (5, Operand.const (Value.string { data := #[117, 110, 117, 115, 101, 100] })), (6, Operand.const (Value.string { data := #[115, 116, 114, 97, 110, 103, 101] })), (7, Operand.const (Value.string { data := #[100, 111, 109, 105, 110, 97, 116, 101, 100] })), (8, Operand.const (Value.string { data := #[111, 118, 101, 114, 102, 108, 111, 119] })), (9, Operand.const (Value.string { data := #[102, 108, 97, 116] }))], none⟩,
    ⟨some 3, Op.assign (Operand.tmp 7), none⟩] := by kernel_rfl
theorem l5_2 : lite 43 r5_2 = some [
    ⟨some 8, Op.fieldAddr 26 (Operand.tmp 1) 0, none⟩,
    ⟨some 9, Op.load 3 (Operand.tmp 8), none⟩,
    ⟨some 10, Op.binOp BinOp.lss 3 (Operand.tmp 9) (Operand.const (Value.int IntKind.i64 1)) 3, none⟩,
    ⟨some 11, Op.move (Operand.tmp 10), none⟩,
    ⟨some 12, Op.fieldAddr 26 (Operand.tmp 1) 0, some (11, false)⟩,
    ⟨some 13, Op.load 3 (Operand.tmp 12), some (11, false)⟩,
    ⟨some 14, Op.binOp BinOp.gtr 3 (Operand.tmp 13) (Operand.const (Value.int IntKind.i64 9)) 3, some (11, false)⟩,
    ⟨some 15, Op.pick (Operand.tmp 11) (Operand.const (Value.bool true)) (Operand.tmp 14), none⟩] := by kernel_rfl
theorem l5_3 : lite 43 r5_3 = some [
    ⟨some 2, Op.assign (Operand.const (Value.string { data := #[] })), none⟩] := by kernel_rfl
theorem l5_4 : lite 43 r5_4 = some [
    ⟨some 16, Op.move (Operand.tmp 3), none⟩,
    ⟨some 17, Op.fieldAddr 26 (Operand.tmp 1) 0, none⟩,
    ⟨some 18, Op.load 3 (Operand.tmp 17), none⟩,
    ⟨some 19, Op.indexAddr 34 (Operand.tmp 16) (Operand.tmp 18), none⟩,
    ⟨some 20, Op.load 9 (Operand.tmp 19), none⟩,
    ⟨some 21, Op.binOp BinOp.add 9 (Operand.tmp 20) (Operand.const (Value.string { data := #[58] })) 9, none⟩,
    ⟨some 4, Op.assign (Operand.tmp 21), none⟩] := by kernel_rfl
theorem l5_5 : lite 43 r5_5 = some [
    ⟨some 22, Op.fieldAddr 26 (Operand.tmp 1) 1, none⟩,
    ⟨some 23, Op.load 9 (Operand.tmp 22), none⟩,
    ⟨some 24, Op.fieldAddr 26 (Operand.tmp 1) 2, none⟩,
    ⟨some 25, Op.load 9 (Operand.tmp 24), none⟩,
    ⟨some 26, Op.fieldAddr 26 (Operand.tmp 1) 3, none⟩,
    ⟨some 27, Op.load 2 (Operand.tmp 26), none⟩,
    ⟨some 28, Op.call { callee := Callee.value (Operand.func 13), args := #[Operand.tmp 27, Operand.const (Value.int IntKind.i64 10)], argTypes := #[2, 3] }, none⟩,
    ⟨some 29, Op.buildSlice 34 3 #[(0, Operand.tmp 23), (1, Operand.tmp 25), (2, Operand.tmp 28)], none⟩,
    ⟨some 30, Op.call { callee := Callee.builtin Builtin.len, args := #[Operand.tmp 29], argTypes := #[34] }, none⟩,
    ⟨some 31, Op.move (Operand.const (Value.int IntKind.i64 0)), none⟩] := by kernel_rfl
theorem n5_5 : stillDraw Tryz.prog fsF r5_5 = true := by kernel_rfl
theorem l5_6 : lite 43 r5_6 = some [
    ⟨some 32, Op.binOp BinOp.lss 3 (Operand.tmp 31) (Operand.tmp 30) 3, none⟩] := by kernel_rfl
theorem l5_7 : lite 43 r5_7 = some [
    ⟨some 33, Op.indexAddr 34 (Operand.tmp 29) (Operand.tmp 31), none⟩,
    ⟨some 34, Op.load 9 (Operand.tmp 33), none⟩,
    ⟨some 6, Op.assign (Operand.tmp 34), none⟩] := by kernel_rfl
theorem l5_8 : lite 43 r5_8 = some [
    ⟨some 35, Op.move (Operand.tmp 6), none⟩,
    ⟨some 36, Op.binOp BinOp.neq 9 (Operand.tmp 35) (Operand.const (Value.string { data := #[] })) 9, none⟩] := by kernel_rfl
theorem l5_9 : lite 43 r5_9 = some [
    ⟨some 37, Op.move (Operand.tmp 4), none⟩,
    ⟨some 38, Op.move (Operand.tmp 6), none⟩,
    ⟨some 39, Op.binOp BinOp.add 9 (Operand.const (Value.string { data := #[32] })) (Operand.tmp 38) 9, none⟩,
    ⟨some 40, Op.binOp BinOp.add 9 (Operand.tmp 37) (Operand.tmp 39) 9, none⟩,
    ⟨some 4, Op.assign (Operand.tmp 40), none⟩] := by kernel_rfl
theorem l5_10 : lite 43 r5_10 = some [
    ⟨some 41, Op.binOp BinOp.add 3 (Operand.tmp 31) (Operand.const (Value.int IntKind.i64 1)) 3, none⟩,
    ⟨some 31, Op.move (Operand.tmp 41), none⟩] := by kernel_rfl
theorem l5_11 : lite 43 r5_11 = some [
    ⟨some 42, Op.move (Operand.tmp 4), none⟩,
    ⟨some 2, Op.assign (Operand.tmp 42), none⟩] := by kernel_rfl

noncomputable def r6_0 : Array Oper := (regionsOf (bodyOf Tryz.f6)).getD 0 #[]
noncomputable def r6_1 : Array Oper := (regionsOf (bodyOf Tryz.f6)).getD 1 #[]
noncomputable def r6_2 : Array Oper := (regionsOf (bodyOf Tryz.f6)).getD 2 #[]
noncomputable def r6_3 : Array Oper := (regionsOf (bodyOf Tryz.f6)).getD 3 #[]
noncomputable def r6_4 : Array Oper := (regionsOf (bodyOf Tryz.f6)).getD 4 #[]
noncomputable def r6_5 : Array Oper := (regionsOf (bodyOf Tryz.f6)).getD 5 #[]
noncomputable def r6_6 : Array Oper := (regionsOf (bodyOf Tryz.f6)).getD 6 #[]
noncomputable def r6_7 : Array Oper := (regionsOf (bodyOf Tryz.f6)).getD 7 #[]
noncomputable def r6_8 : Array Oper := (regionsOf (bodyOf Tryz.f6)).getD 8 #[]
noncomputable def r6_9 : Array Oper := (regionsOf (bodyOf Tryz.f6)).getD 9 #[]
theorem b6 : Tryz.f6.body = some (.seq (.region 0 r6_0 false) (.seq (.region 1 r6_1 false) (.seq (.seq (.region 2 r6_2 false) (.cond (Operand.tmp 15) (.seq (.region 3 r6_3 false) .ret) .skip)) (.seq (.region 4 r6_4 false) (.seq (.seq (.region 5 r6_5 false) (.cond (Operand.tmp 24) (.region 6 r6_6 false) .skip)) (.seq (.seq (.region 7 r6_7 false) (.cond (Operand.tmp 32) (.region 8 r6_8 false) .skip)) (.seq (.region 9 r6_9 false) .ret))))))) := by kernel_rfl
theorem nt6 : Tryz.f6.ntmps = 44 := by kernel_rfl
theorem rs6 : Tryz.f6.results.toList = [ResultVar.tmp 2] := by kernel_rfl
theorem l6_0 : lite 44 r6_0 = some [
    ⟨some 1, Op.box 23 (Operand.tmp 0), none⟩,
    ⟨some 2, Op.assign (Operand.const (Value.string { data := #[] })), none⟩] := by kernel_rfl
theorem l6_1 : lite 44 r6_1 = some [
    ⟨some 5, Op.buildSlice 34 10 #[(0, Operand.const (Value.string { data := #[] })), (1, Operand.const (Value.string { data := #[117, 110, 114, 101, 97, 99, 104, 97, 98, 108, 101] })), (2, Operand.const (Value.string { data := #[116, 111, 103, 101, 116, 104, 101, 114] })), (3, Operand.const (Value.string { data := #[105, 100, 108, 101] })), (4, Operand.const (Value.string { data := #[99, 114, 101, 100, 105, 116] })), (5, Operand.const (Value.string { data := #[117, 110, 117, 115, 101, 100] })), (6, Operand.const (Value.string { data := #[115, 116, 114, 97, 110, 103, 101] })), (7, Operand.const (Value.string { data := #[100, 111, 109, 105, 110, 97, 116, 101, 100] })), (8, Operand.const (Value.string { data := #[111, 118, 101, 114, 102, 108, 111, 119] })), (9, Operand.const (Value.string { data := #[102, 108, 97, 116] }))], none⟩,
    ⟨some 3, Op.assign (Operand.tmp 5), none⟩] := by kernel_rfl
theorem l6_2 : lite 44 r6_2 = some [
    ⟨some 6, Op.fieldAddr 23 (Operand.tmp 1) 0, none⟩,
    ⟨some 7, Op.load 3 (Operand.tmp 6), none⟩,
    ⟨some 8, Op.binOp BinOp.lss 3 (Operand.tmp 7) (Operand.const (Value.int IntKind.i64 1)) 3, none⟩,
    ⟨some 9, Op.move (Operand.tmp 8), none⟩,
    ⟨some 10, Op.fieldAddr 23 (Operand.tmp 1) 0, some (9, false)⟩,
    ⟨some 11, Op.load 3 (Operand.tmp 10), some (9, false)⟩,
    ⟨some 12, Op.move (Operand.tmp 3), some (9, false)⟩,
    ⟨some 13, Op.call { callee := Callee.builtin Builtin.len, args := #[Operand.tmp 12], argTypes := #[34] }, some (9, false)⟩,
    ⟨some 14, Op.binOp BinOp.geq 3 (Operand.tmp 11) (Operand.tmp 13) 3, some (9, false)⟩,
    ⟨some 15, Op.pick (Operand.tmp 9) (Operand.const (Value.bool true)) (Operand.tmp 14), none⟩] := by kernel_rfl
theorem l6_3 : lite 44 r6_3 = some [
    ⟨some 2, Op.assign (Operand.const (Value.string { data := #[] })), none⟩] := by kernel_rfl
theorem l6_4 : lite 44 r6_4 = some [
    ⟨some 16, Op.move (Operand.tmp 3), none⟩,
    ⟨some 17, Op.fieldAddr 23 (Operand.tmp 1) 0, none⟩,
    ⟨some 18, Op.load 3 (Operand.tmp 17), none⟩,
    ⟨some 19, Op.indexAddr 34 (Operand.tmp 16) (Operand.tmp 18), none⟩,
    ⟨some 20, Op.load 9 (Operand.tmp 19), none⟩,
    ⟨some 21, Op.binOp BinOp.add 9 (Operand.tmp 20) (Operand.const (Value.string { data := #[58] })) 9, none⟩,
    ⟨some 4, Op.assign (Operand.tmp 21), none⟩] := by kernel_rfl
theorem l6_5 : lite 44 r6_5 = some [
    ⟨some 22, Op.fieldAddr 23 (Operand.tmp 1) 1, none⟩,
    ⟨some 23, Op.load 9 (Operand.tmp 22), none⟩,
    ⟨some 24, Op.binOp BinOp.neq 9 (Operand.tmp 23) (Operand.const (Value.string { data := #[] })) 9, none⟩] := by kernel_rfl
theorem l6_6 : lite 44 r6_6 = some [
    ⟨some 25, Op.move (Operand.tmp 4), none⟩,
    ⟨some 26, Op.fieldAddr 23 (Operand.tmp 1) 1, none⟩,
    ⟨some 27, Op.load 9 (Operand.tmp 26), none⟩,
    ⟨some 28, Op.binOp BinOp.add 9 (Operand.const (Value.string { data := #[32] })) (Operand.tmp 27) 9, none⟩,
    ⟨some 29, Op.binOp BinOp.add 9 (Operand.tmp 25) (Operand.tmp 28) 9, none⟩,
    ⟨some 4, Op.assign (Operand.tmp 29), none⟩] := by kernel_rfl
theorem l6_7 : lite 44 r6_7 = some [
    ⟨some 30, Op.fieldAddr 23 (Operand.tmp 1) 2, none⟩,
    ⟨some 31, Op.load 9 (Operand.tmp 30), none⟩,
    ⟨some 32, Op.binOp BinOp.neq 9 (Operand.tmp 31) (Operand.const (Value.string { data := #[] })) 9, none⟩] := by kernel_rfl
theorem l6_8 : lite 44 r6_8 = some [
    ⟨some 33, Op.move (Operand.tmp 4), none⟩,
    ⟨some 34, Op.fieldAddr 23 (Operand.tmp 1) 2, none⟩,
    ⟨some 35, Op.load 9 (Operand.tmp 34), none⟩,
    ⟨some 36, Op.binOp BinOp.add 9 (Operand.const (Value.string { data := #[32] })) (Operand.tmp 35) 9, none⟩,
    ⟨some 37, Op.binOp BinOp.add 9 (Operand.tmp 33) (Operand.tmp 36) 9, none⟩,
    ⟨some 4, Op.assign (Operand.tmp 37), none⟩] := by kernel_rfl
theorem l6_9 : lite 44 r6_9 = some [
    ⟨some 38, Op.move (Operand.tmp 4), none⟩,
    ⟨some 39, Op.binOp BinOp.add 9 (Operand.tmp 38) (Operand.const (Value.string { data := #[32] })) 9, none⟩,
    ⟨some 40, Op.fieldAddr 23 (Operand.tmp 1) 3, none⟩,
    ⟨some 41, Op.load 2 (Operand.tmp 40), none⟩,
    ⟨some 42, Op.call { callee := Callee.value (Operand.func 13), args := #[Operand.tmp 41, Operand.const (Value.int IntKind.i64 10)], argTypes := #[2, 3] }, none⟩,
    ⟨some 43, Op.binOp BinOp.add 9 (Operand.tmp 39) (Operand.tmp 42) 9, none⟩,
    ⟨some 2, Op.assign (Operand.tmp 43), none⟩] := by kernel_rfl

theorem ta2 : tagg Tryz.prog 2 = some false := by kernel_rfl
theorem ts2 : tsz Tryz.prog 2 = some 1 := by kernel_rfl
theorem ta3 : tagg Tryz.prog 3 = some false := by kernel_rfl
theorem ts3 : tsz Tryz.prog 3 = some 1 := by kernel_rfl
theorem ta4 : tagg Tryz.prog 4 = some false := by kernel_rfl
theorem ts4 : tsz Tryz.prog 4 = some 1 := by kernel_rfl
theorem ta9 : tagg Tryz.prog 9 = some false := by kernel_rfl
theorem ts9 : tsz Tryz.prog 9 = some 1 := by kernel_rfl
theorem ta23 : tagg Tryz.prog 23 = some true := by kernel_rfl
theorem ts23 : tsz Tryz.prog 23 = some 4 := by kernel_rfl
theorem fo23_0 : F.fOff Tryz.prog 23 0 = some 0 := by kernel_rfl
theorem fo23_1 : F.fOff Tryz.prog 23 1 = some 1 := by kernel_rfl
theorem fo23_2 : F.fOff Tryz.prog 23 2 = some 2 := by kernel_rfl
theorem fo23_3 : F.fOff Tryz.prog 23 3 = some 3 := by kernel_rfl
theorem fo26_0 : F.fOff Tryz.prog 26 0 = some 0 := by kernel_rfl
theorem fo26_1 : F.fOff Tryz.prog 26 1 = some 1 := by kernel_rfl
theorem fo26_2 : F.fOff Tryz.prog 26 2 = some 2 := by kernel_rfl
theorem fo26_3 : F.fOff Tryz.prog 26 3 = some 3 := by kernel_rfl
theorem un2 : Tryz.prog.underlying 2 = some (.int .i64) := by kernel_rfl
theorem co2 : Tryz.prog.cellsOf 2 = 1 := by kernel_rfl
theorem un3 : Tryz.prog.underlying 3 = some (.int .i64) := by kernel_rfl
theorem co3 : Tryz.prog.cellsOf 3 = 1 := by kernel_rfl
theorem un4 : Tryz.prog.underlying 4 = some .bool := by kernel_rfl
theorem co4 : Tryz.prog.cellsOf 4 = 1 := by kernel_rfl
theorem un9 : Tryz.prog.underlying 9 = some .string := by kernel_rfl
theorem co9 : Tryz.prog.cellsOf 9 = 1 := by kernel_rfl
noncomputable def fs23 : Array Field := match Tryz.prog.underlying 23 with | some (.struct fs) => fs | _ => #[]
theorem ft23 : fs23.toList.map (fun f => f.type) = [3, 9, 9, 2] := by kernel_rfl
theorem un23 : Tryz.prog.underlying 23 = some (.struct fs23) := by kernel_rfl
theorem fp23 : fs23.toList.map (fun f => (f.type, f.offset)) = [(3, 0), (9, 1), (9, 2), (2, 3)] := by kernel_rfl
theorem eg23 : Tryz.prog.eqGuardType Tryz.prog.depth 23 = false := by kernel_rfl
theorem sh23 : Tryz.prog.stoodInHeld 23 = false := by kernel_rfl
theorem co23 : Tryz.prog.cellsOf 23 = 4 := by kernel_rfl
noncomputable def fs26 : Array Field := match Tryz.prog.underlying 26 with | some (.struct fs) => fs | _ => #[]
theorem ft26 : fs26.toList.map (fun f => f.type) = [3, 9, 9, 2] := by kernel_rfl
theorem un26 : Tryz.prog.underlying 26 = some (.struct fs26) := by kernel_rfl
theorem fp26 : fs26.toList.map (fun f => (f.type, f.offset)) = [(3, 0), (9, 1), (9, 2), (2, 3)] := by kernel_rfl
theorem eg26 : Tryz.prog.eqGuardType Tryz.prog.depth 26 = false := by kernel_rfl
theorem sh26 : Tryz.prog.stoodInHeld 26 = false := by kernel_rfl
theorem co26 : Tryz.prog.cellsOf 26 = 4 := by kernel_rfl
theorem un34 : Tryz.prog.underlying 34 = some (.slice 9) := by kernel_rfl
theorem co34 : Tryz.prog.cellsOf 34 = 1 := by kernel_rfl
theorem ix34 : F.ixSl Tryz.prog 34 = some 1 := by kernel_rfl
theorem tz9 : tzero Tryz.prog 9 = some (.str []) := by kernel_rfl
theorem un34e : Tryz.prog.underlying 34 = some (.slice 9) := by kernel_rfl
end
end Go.Proofs.YtajihhoaimgeaaaGreatDoor
