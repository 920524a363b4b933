/- The law's call: it returns true; what lay in memory lies there as before. -/
import Derived.Test.YthmmpnkmjbfimaaGreatDoorYl
import Derived.Test.YthmmpnkmjbfimaaGreatDoorYb
import Derived.Test.YthmmpnkmjbfimaaGreatDoorYc
import Derived.Test.YthmmpnkmjbfimaaGreatDoorShelf
import Derived.Below
set_option linter.unusedVariables false
set_option linter.unusedSimpArgs false
set_option linter.unusedSectionVars false
set_option linter.unnecessarySimpa false
open Go Go.Ab Go.Proofs Go.RowKit
namespace Go.Proofs.YthmmpnkmjbfimaaGreatDoor
set_option linter.unusedVariables false
set_option linter.unusedSectionVars false

section
variable [HasBase]
theorem plainN : plainNames Tryz.prog = true := by kernel_rfl
theorem mixed : Tryz.prog.follows .mixedOrders = true := by kernel_rfl
theorem hi157 : (Tryz.prog.info? (Tryz.lays157_ren.t 9)).map (fun i => (i.zero, i.size, i.bytes)) = some (some (.string ByteArray.empty), 1, 16) := by kernel_rfl
theorem ren156 : Tryz.lays157_ren.f 157 = 156 := by kernel_rfl
theorem ren1 : Tryz.lays157_ren.g 0 = 1 := by kernel_rfl
theorem fields_ok {tab : Obj} (hB : HasBase.B 1 = some tab)
    (hT : ∀ w : World, w.heap[1]? = some tab → ∀ c : Nat, c < 256 → w.cell? ⟨1, c, none⟩ = some (.int .u8 (if Lib.isSp (UInt8.ofNat c) then 1 else 0))) : SumOK Tryz.prog 156 sFields := by
  have h := sFields_ok (P := Tryz.prog) Tryz.lays157 hi157 (fun vs w => by rw [ren156]; exact enter_run plainN Tryz.func156 (by kernel_rfl) vs w) (by rw [ren1]; exact hB) (by rw [ren1]; exact hT)
  rw [ren156] at h
  exact h
theorem sumA_ok {tab : Obj} (hB : HasBase.B 1 = some tab)
    (hT : ∀ w : World, w.heap[1]? = some tab → ∀ c : Nat, c < 256 → w.cell? ⟨1, c, none⟩ = some (.int .u8 (if Lib.isSp (UInt8.ofNat c) then 1 else 0))) : CallOK Tryz.prog sumA :=
  sum_cons (sIndexByte_ok Tryz.func337 (by kernel_rfl) (by kernel_rfl) (by kernel_rfl) (by kernel_rfl))
    (sum_cons (sSame_ok Tryz.func360 (by kernel_rfl) (by kernel_rfl) (by kernel_rfl) (by kernel_rfl))
      (sum_cons (fields_ok hB hT) sum_nil))
theorem sumB_ok (hA : CallOK Tryz.prog sumA) : CallOK Tryz.prog sumB :=
  sum_cons (tab_ok (callN_ok cfgA mixed plainN hA 2000) isNil_ok (tab_kernel kindsF)) hA
theorem sumC_ok (hA : CallOK Tryz.prog sumA) : CallOK Tryz.prog sumC :=
  sum_cons (tab_ok (callN_ok cfgB mixed plainN (sumB_ok hA) 2000) (isStr1_ok example1) (tab_kernel lexF)) (sumB_ok hA)
theorem sumD_ok (hA : CallOK Tryz.prog sumA) : CallOK Tryz.prog sumD :=
  sum_cons (tab_ok (callN_ok cfgC mixed plainN (sumC_ok hA) 2000) isNil_ok (tab_kernel awakeF)) (sumC_ok hA)
end

/-- The types of a ruleset. -/
def plainTypes : List TypeId := [30, 9, 3, 4, 27, 23, 28, 22, 24, 25, 106, 109, 112, 40, 2, 33, 34, 35, 38, 36, 57, 63, 65]
theorem closedPlain : closedT Tryz.prog plainTypes = true := by kernel_rfl

theorem law_calls {H : Type} {enc : TypeId × Value → H} (W : World) (cs : Array Value) (s : ByteArray) (hs : s.size ≤ maxLen) {spare : Nat → Bool} {held : Bool} {fuel : Nat} {d : DataW H} {ps : List MemPlace} (h0 : DataW.trod enc Tryz.prog W 0 spare held fuel 30 cs.toList = some (d, ps))
    {tab : Obj} (htab : W.heap[1]? = some tab)
    (hT : ∀ w : World, w.heap[1]? = some tab → ∀ c : Nat, c < 256 → w.cell? ⟨1, c, none⟩ = some (.int .u8 (if Lib.isSp (UInt8.ofNat c) then 1 else 0))) :
    Calls Tryz.prog 3 #[.agg cs, .string s] W fun e w' => e = .returned (.bool true) ∧ Below W.heap.size W w' := by
  letI : HasBase := ⟨fun b => if b = 1 then some tab else none⟩
  let E : Env := { mu := fun _ => none, perm := fun b => b < W.heap.size, w := W }
  have hlt1 : 1 < W.heap.size := (Array.getElem?_eq_some_iff.1 htab).1
  have hsat : Sat E Heap.empty.get :=
    { muLt := fun id b o h => by cases h
      permLt := fun b h => h
      permOwn := fun b _ ⟨id, o, hm⟩ => by cases hm
      ob := fun id b o h => by cases h
      base := fun b o hb => by
        have hb : (if b = 1 then some tab else none) = some o := hb
        split at hb
        · rename_i e; subst e; cases hb; exact ⟨hlt1, htab⟩
        · cases hb
      inj := fun id id' b o o' h => by cases h }
  obtain ⟨avs, hc, ht⟩ := open_cells (E := E) (fun _ => rfl) closedPlain fuel 30 cs.toList d ps (by decide) h0
  have hA : CallOK Tryz.prog sumA := sumA_ok (tab := tab) rfl hT
  obtain ⟨K, hK⟩ := law3 ht (nm := s.data.toList) (by rw [← Lib.size_eq]; exact hs)
  obtain ⟨H', hrun⟩ := hK K (Nat.le_refl _)
  have hok := callN_ok cfgD mixed plainN (sumD_ok hA) K 3 _ _ _ _ hrun wf_empty
  obtain ⟨-, -, hinv⟩ := hok
  have hvl : VL E [.agg avs, .str s.data.toList] (#[.agg cs, .string s] : Array Value).toList := by
    refine .cons (.agg avs cs (by rw [hc.vl.1]; simp) fun j x v h1 h2 => hc.vl.2 j x v h1 (by simpa using h2)) (.cons (.str _ _ rfl) (.nil E))
  rcases hinv E #[.agg cs, .string s] hvl hsat (fun id _ _ => rfl) with ⟨v, w', h1, _⟩ | ⟨_, h2⟩
  · have e : (callFunc 3 #[.agg cs, .string s]).run Tryz.prog W = .ok (.enter 3 #[.agg cs, .string s]) W := enter_run plainN Tryz.func3 (by kernel_rfl) _ _
    have h1 : (callFunc 3 #[.agg cs, .string s]).run Tryz.prog W = .ok (.value v) w' := h1
    rw [e] at h1
    cases h1
  · refine h2.mono ?_
    rintro e w' ⟨E', rfl, hext, hsat', v, rfl, hv⟩
    cases hv
    exact ⟨rfl, hext.os, hext.tape, hext.output, hext.size, fun k hk => hext.frame k hk fun id o hid => absurd hid (by show ¬ id < 0; omega)⟩
end Go.Proofs.YthmmpnkmjbfimaaGreatDoor
