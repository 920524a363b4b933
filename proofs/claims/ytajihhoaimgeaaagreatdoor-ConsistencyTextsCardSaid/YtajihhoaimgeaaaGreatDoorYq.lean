/- The law's call: it returns true; what lay in memory lies there as before. -/
import Derived.Test.YtajihhoaimgeaaaGreatDoorYg
import Derived.Test.YtajihhoaimgeaaaGreatDoorYb
import Derived.Test.YtajihhoaimgeaaaGreatDoorYc
import Derived.Test.YtajihhoaimgeaaaGreatDoorYd
import Derived.Test.YtajihhoaimgeaaaGreatDoorYe
import Derived.Test.YtajihhoaimgeaaaGreatDoorShelf
import Derived.Below
set_option linter.unusedVariables false
set_option linter.unusedSimpArgs false
set_option linter.unusedSectionVars false
set_option linter.unnecessarySimpa false
open Go Go.Ab Go.Proofs Go.RowKit
namespace Go.Proofs.YtajihhoaimgeaaaGreatDoor
set_option linter.unusedVariables false
set_option linter.unusedSectionVars false

section
variable [HasBase]
theorem plainN : plainNames Tryz.prog = true := by kernel_rfl
theorem mixed : Tryz.prog.follows .mixedOrders = true := by kernel_rfl
theorem hi157 : (Tryz.prog.info? (Tryz.lays157_ren.t 9)).map (fun i => (i.zero, i.size, i.bytes)) = some (some (.string ByteArray.empty), 1, 16) := by kernel_rfl
theorem ren157 : Tryz.lays157_ren.f 157 = 237 := by kernel_rfl
theorem renG : Tryz.lays157_ren.g 0 = 4 := by kernel_rfl
theorem ren173 : Tryz.laysM173_ren.f 173 = 13 := by kernel_rfl
theorem fields_ok {tab : Obj} (hB : HasBase.B 4 = some tab)
    (hT : ∀ w : World, w.heap[4]? = some tab → ∀ c : Nat, c < 256 → w.cell? ⟨4, c, none⟩ = some (.int .u8 (if Lib.isSp (UInt8.ofNat c) then 1 else 0))) : SumOK Tryz.prog 237 sFields := by
  have h := sFields_ok (P := Tryz.prog) Tryz.lays157 hi157 (fun vs w => by rw [ren157]; exact enter_run plainN Tryz.func237 (by kernel_rfl) vs w) (by rw [renG]; exact hB) (by rw [renG]; exact hT)
  rw [ren157] at h
  exact h
theorem format_ok {tab : Obj} (hB : HasBase.B 0 = some tab)
    (hT : ∀ w : World, w.heap[0]? = some tab → Lib.TabIs Tryz.prog w "internal/strconv.uint64pow10" .u64 Lib.pow10Tab) : SumOK Tryz.prog 13 sFormatInt := by
  have h := sFormatInt_ok (P := Tryz.prog) Tryz.laysM173 (fun vs w => by rw [ren173]; exact enter_run plainN Tryz.func13 (by kernel_rfl) vs w) hB hT
  rw [ren173] at h
  exact h
variable {tabS tabP : Obj} (hBS : HasBase.B 4 = some tabS)
    (hTS : ∀ w : World, w.heap[4]? = some tabS → ∀ c : Nat, c < 256 → w.cell? ⟨4, c, none⟩ = some (.int .u8 (if Lib.isSp (UInt8.ofNat c) then 1 else 0)))
    (hBP : HasBase.B 0 = some tabP) (hTP : ∀ w : World, w.heap[0]? = some tabP → Lib.TabIs Tryz.prog w "internal/strconv.uint64pow10" .u64 Lib.pow10Tab)
include hBS hTS hBP hTP
theorem sumA_ok : CallOK Tryz.prog sumA :=
  sum_cons (sIndexByte_ok Tryz.func458 (by kernel_rfl) (by kernel_rfl) (by kernel_rfl) (by kernel_rfl))
    (sum_cons (sSame_ok Tryz.func447 (by kernel_rfl) (by kernel_rfl) (by kernel_rfl) (by kernel_rfl))
      (sum_cons (fields_ok hBS hTS)
        (sum_cons (format_ok hBP hTP)
          (sum_cons (sCmpString_ok Tryz.func156 (by kernel_rfl) (by kernel_rfl) (by kernel_rfl) (by kernel_rfl)) sum_nil))))
theorem sumB_ok : CallOK Tryz.prog sumB :=
  sum_cons (tab_ok (callN_ok cfgA mixed plainN (sumA_ok hBS hTS hBP hTP) 2000) isNil_ok (tab_kernel kindsF)) (sumA_ok hBS hTS hBP hTP)
theorem sumC_ok : CallOK Tryz.prog sumC :=
  have h := sumB_ok hBS hTS hBP hTP
  sum_cons (or_ok (tab_ok (callN_ok cfgB mixed plainN h 2000) (isArgs_ok rulesA) (tab_kernel validA))
    (or_ok (tab_ok (callN_ok cfgB mixed plainN h 2000) (isArgs_ok rulesB) (tab_kernel validB)) (tab_ok (callN_ok cfgB mixed plainN h 2000) (isArgs_ok rulesX) (tab_kernel validX)))) h
theorem sumD_ok : CallOK Tryz.prog sumD :=
  have h := sumC_ok hBS hTS hBP hTP
  sum_cons (tab_ok (callN_ok cfgC mixed plainN h 2000) (isArgs_ok rulesX) (tab_kernel checkX)) h
theorem sumE_ok : CallOK Tryz.prog sumE :=
  have h := sumD_ok hBS hTS hBP hTP
  sum_cons (tab_ok (callN_ok cfgD mixed plainN h 2000) isNil_ok (tab_kernel awakeF)) h
end

/-- The types of a finding. -/
def plainTypes : List TypeId := [23, 3, 9, 2]
theorem closedPlain : closedT Tryz.prog plainTypes = true := by kernel_rfl

theorem law_calls {H : Type} {enc : TypeId × Value → H} (W : World) (cs : Array Value) {spare : Nat → Bool} {held : Bool} {fuel : Nat} {d : DataW H} {ps : List MemPlace} (h0 : DataW.trod enc Tryz.prog W 0 spare held fuel 23 cs.toList = some (d, ps))
    {tabS tabP : Obj} (hS : W.heap[4]? = some tabS) (hP : W.heap[0]? = some tabP)
    (hTS : ∀ w : World, w.heap[4]? = some tabS → ∀ c : Nat, c < 256 → w.cell? ⟨4, c, none⟩ = some (.int .u8 (if Lib.isSp (UInt8.ofNat c) then 1 else 0)))
    (hTP : ∀ w : World, w.heap[0]? = some tabP → Lib.TabIs Tryz.prog w "internal/strconv.uint64pow10" .u64 Lib.pow10Tab) :
    Calls Tryz.prog 3 #[.agg cs] W fun e w' => e = .returned (.bool true) ∧ Below W.heap.size W w' := by
  letI : HasBase := ⟨fun b => if b = 4 then some tabS else if b = 0 then some tabP else none⟩
  let E : Env := { mu := fun _ => none, perm := fun b => b < W.heap.size, w := W }
  have hlt4 : 4 < W.heap.size := (Array.getElem?_eq_some_iff.1 hS).1
  have hlt0 : 0 < W.heap.size := (Array.getElem?_eq_some_iff.1 hP).1
  have hsat : Sat E Heap.empty.get :=
    { muLt := fun id b o h => by cases h
      permLt := fun b h => h
      permOwn := fun b _ ⟨id, o, hm⟩ => by cases hm
      ob := fun id b o h => by cases h
      base := fun b o hb => by
        have hb : (if b = 4 then some tabS else if b = 0 then some tabP else none) = some o := hb
        split at hb
        · rename_i e; subst e; cases hb; exact ⟨hlt4, hS⟩
        · split at hb
          · rename_i e; subst e; cases hb; exact ⟨hlt0, hP⟩
          · cases hb
      inj := fun id id' b o o' h => by cases h }
  obtain ⟨avs, hc, ht⟩ := open_cells (E := E) (fun _ => rfl) closedPlain fuel 23 cs.toList d ps (by decide) h0
  obtain ⟨K, hK⟩ := law3 ht
  obtain ⟨H', hrun⟩ := hK K (Nat.le_refl _)
  have hok := callN_ok cfgF mixed plainN (sumE_ok (tabS := tabS) (tabP := tabP) rfl hTS rfl hTP) K 3 _ _ _ _ hrun wf_empty
  obtain ⟨-, -, hinv⟩ := hok
  have hvl : VL E [.agg avs] (#[.agg cs] : Array Value).toList := by
    refine .cons (.agg avs cs (by rw [hc.vl.1]; simp) fun j x v h1 h2 => hc.vl.2 j x v h1 (by simpa using h2)) (.nil E)
  rcases hinv E #[.agg cs] hvl hsat (fun id _ _ => rfl) with ⟨v, w', h1, _⟩ | ⟨_, h2⟩
  · have e : (callFunc 3 #[.agg cs]).run Tryz.prog W = .ok (.enter 3 #[.agg cs]) W := enter_run plainN Tryz.func3 (by kernel_rfl) _ _
    have h1 : (callFunc 3 #[.agg cs]).run Tryz.prog W = .ok (.value v) w' := h1
    rw [e] at h1
    cases h1
  · refine h2.mono ?_
    rintro e w' ⟨E', rfl, hext, hsat', v, rfl, hv⟩
    cases hv
    exact ⟨rfl, hext.os, hext.tape, hext.output, hext.size, fun k hk => hext.frame k hk fun id o hid => absurd hid (by show ¬ id < 0; omega)⟩
end Go.Proofs.YtajihhoaimgeaaaGreatDoor
