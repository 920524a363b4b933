/- The row of RulesetFinds: for every ruleset and name the law returns true. -/
import Derived.Test.YthmmpnkmjbfimaaGreatDoorYq
import Derived.Test.YthmmpnkmjbfimaaGreatDoorYt
import Derived.Test.YthmmpnkmjbfimaaGreatDoorRows
import Derived.ProofKit
import Derived.Lay
import Derived.MakeChecks
import Derived.Carry
import Derived.Stop.LaidErr
set_option linter.unusedVariables false
set_option linter.unusedSimpArgs false
set_option linter.unusedSectionVars false
set_option linter.unnecessarySimpa false
open Go Go.Ab Go.Proofs
namespace Go.Proofs.YthmmpnkmjbfimaaGreatDoor
open Go.ChangeShapes Go.WideShapes Go.ChangeAt Go.RowKit
open Go.ChangeMaps (open_string shut_string)
set_option linter.unusedVariables false

theorem laidOut : laidOutB Tryz.prog = true := by kernel_rfl
theorem gSpace : Tryz.prog.globalNamed "strings.asciiSpace" = some 1 := by kernel_rfl
theorem gSpaceT : (Tryz.prog.globals[1]?).map (·.type) = some 161 := by kernel_rfl
theorem co5 : Tryz.prog.cellsOf 5 = 1 := by kernel_rfl
theorem co161 : Tryz.prog.cellsOf 161 = 256 := by kernel_rfl
theorem un161 : Tryz.prog.underlying 161 = some (.array 256 5) := by kernel_rfl
theorem un5 : Tryz.prog.underlying 5 = some (.int .u8) := by kernel_rfl
theorem spaceData : (Rows.laid_strings_asciiSpace : DataW Unit) = Lib.tabData .u8 Lib.asciiSpaceTab := by kernel_rfl
theorem space_of_laid {W : World} (h : laidMetH Tryz.prog Rows.rulesetFindsRow.laid W) : Lib.TabIs Tryz.prog W "strings.asciiSpace" .u8 Lib.asciiSpaceTab := by
  rw [MakeChecks.laidMetH_plain _ _ _ (by kernel_rfl)] at h
  have h8 : laidMet Tryz.prog (("strings.asciiSpace", Rows.laid_strings_asciiSpace) :: [("unicode/utf8.first", Rows.laid_unicode_utf8_first)]) W := h.tail.tail.tail.tail.tail.tail.tail
  rw [spaceData] at h8
  exact Lib.tabIs_of_head gSpace gSpaceT un161 un5 co5 co161 h8
theorem tab_of_laid {W : World} (h : laidMetH Tryz.prog Rows.rulesetFindsRow.laid W) : ∃ tab, W.heap[1]? = some tab ∧ ∀ w : World, w.heap[1]? = some tab → ∀ c : Nat, c < 256 → w.cell? ⟨1, c, none⟩ = some (.int .u8 (if Lib.isSp (UInt8.ofNat c) then 1 else 0)) := by
  have ht := space_of_laid h
  have hc : ∀ c : Nat, c < 256 → W.cell? ⟨1, c, none⟩ = some (.int .u8 (if Lib.isSp (UInt8.ofNat c) then 1 else 0)) := fun c hc => by
    rw [ht.cell gSpace c (by rw [Lib.asciiSpaceTab_length]; exact hc), Lib.asciiSpaceTab_at c hc]
  haveI : HasBase := ⟨fun _ => none⟩
  obtain ⟨_, hlt⟩ := cell_spot (hc 0 (by decide))
  refine ⟨W.heap[1]'hlt, Array.getElem?_eq_getElem hlt, fun w hw c hcl => ?_⟩
  rw [cell_of_block (hw.trans (Array.getElem?_eq_getElem hlt).symm)]
  exact hc c hcl

def zeroArgs : Array Value := #[.agg #[.string ⟨#[]⟩, .int .i64 0, .int .i64 0, .int .i64 0, .bool false, .slice none 0 0, .slice none 0 0, .slice none 0 0, .slice none 0 0, .slice none 0 0, .slice none 0 0], .string ⟨#[]⟩]

set_option maxRecDepth 100000 in
theorem lifted (os : Os) (started : os.Started) (H : Type) (enc : TypeId × Value → H) :
    ReturnsInHanded {} Tryz.checked os 3 .any (fun w args => (Rows.rulesetFindsSpec.pre enc Tryz.prog Tryz.f3 Rows.rulesetFindsRow.domain false w args ∧ laidMetH Tryz.prog Rows.rulesetFindsRow.laid w) ∧ sizedMet enc Tryz.prog Tryz.f3 (OpenSpec.ofChange Rows.rulesetFindsSpec) false w args)
      (Rows.rulesetFindsSpec.post enc Tryz.prog Tryz.f3 false true false false) := by
  refine returnsInHanded_of_change_and (C := Tryz.checked) (X := fun w _ => laidMetH Tryz.prog Rows.rulesetFindsRow.laid w) (fun _ _ _ hh h => h.of_heap hh) own started (by kernel_rfl) Tryz.func3
    (ChangeSpec.witness_shaped (enc := enc) (C := Tryz.checked) (X := fun w _ => laidMetH Tryz.prog Rows.rulesetFindsRow.laid w) false (World.laidAll Tryz.prog os Rows.rulesetFindsRow.laid) zeroArgs 8 (World.laidAll_os _ _ _) (World.shaped_of_ZipB (by kernel_rfl) (by kernel_rfl)) (by kernel_rfl) (by kernel_rfl) (by kernel_rfl)
      (by rw [MakeChecks.laidMetH_plain _ _ _ (by kernel_rfl)]; exact laidMet_laidAll _ (by kernel_rfl) (by kernel_rfl))) ?_
  intro W base args ds gs before hval0 hW _ _ hL _
  have hval : ∀ (j : Nat) t v, Tryz.f3.params[j]? = some t → args[j]? = some v → Value.okWide Tryz.prog W .any base t v := hval0
  have hW' := hW
  obtain ⟨p, q, hA0, hV, rfl, hfz, hnd⟩ := hW
  have hA : DataW.TrodAll enc Tryz.prog W 0 (fun _ => true) true Tryz.f3.params.toList args.toList ds p := hA0
  rw [Tryz.params3] at hA hval
  obtain ⟨v0, v1, d0, d1, p0, p1, rfl, rfl, rfl, h0, h1⟩ := trodAll_two hA
  obtain ⟨rfl, rfl⟩ := trodVars_none hV
  obtain ⟨cs, rfl, -⟩ := okWide_struct Tryz.underlying30 (hval 0 30 v0 rfl rfl)
  obtain ⟨s, rfl, rfl, rfl, ws⟩ := open_string Tryz.underlying9 (hval 1 9 v1 rfl rfl) h1
  obtain ⟨tab, htab, hT⟩ := tab_of_laid hL
  have h0' := h0
  obtain ⟨fuel, h0f⟩ := h0
  refine (law_calls W cs s ws h0f htab hT).mono fun e W' ⟨he, hb⟩ => ?_
  subst he
  refine ⟨_, rfl, _, _, _, [], p0 ++ [], [], hW', trodAll_mk1 (shut_bool Tryz.underlying4 true), ?_, ?_, hb.frame _, fun h => by cases h⟩
  · refine trodAll_mk2 (Below.trod laidOut (by kernel_rfl) (of_decide_eq_true (by kernel_rfl)) h0' hb fun x hx => hW'.lt x (List.mem_append_left _ (List.mem_append_left _ hx))) (shut_string Tryz.underlying9 ws)
  · rfl

theorem holds : Rows.RulesetFindsSaid :=
  OpenClaim.holds_of_wide 3 Tryz.f3 rfl rfl rfl rfl rfl rfl rfl ⟨rfl, rfl, rfl, rfl, rfl⟩ rfl rfl rfl rfl rfl name3 Tryz.func3 closed inst3 wrap3
    (fun os started H enc _ => lifted os started H enc)
end Go.Proofs.YthmmpnkmjbfimaaGreatDoor
