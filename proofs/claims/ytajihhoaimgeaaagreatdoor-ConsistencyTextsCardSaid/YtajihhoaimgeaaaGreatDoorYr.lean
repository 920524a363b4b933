/- The row of ConsistencyTexts: for every finding the law returns true. -/
import Derived.Test.YtajihhoaimgeaaaGreatDoorYq
import Derived.Test.YtajihhoaimgeaaaGreatDoorYt
import Derived.Test.YtajihhoaimgeaaaGreatDoorRows
import Derived.ProofKit
import Derived.Lay
import Derived.MakeChecks
import Derived.Carry
import Derived.Stop.LaidErr
set_option linter.unusedVariables false
set_option linter.unusedSimpArgs false
set_option linter.unusedSectionVars false
set_option linter.unnecessarySimpa false
open Go Go.Ab Go.Proofs
namespace Go.Proofs.YtajihhoaimgeaaaGreatDoor
open Go.ChangeShapes Go.WideShapes Go.ChangeAt Go.RowKit
open Go.ChangeMaps (open_string shut_string)
set_option linter.unusedVariables false

theorem laidOut : laidOutB Tryz.prog = true := by kernel_rfl
theorem gSpace : Tryz.prog.globalNamed "strings.asciiSpace" = some 4 := by kernel_rfl
theorem gSpaceT : (Tryz.prog.globals[4]?).map (·.type) = some 310 := by kernel_rfl
theorem gPow : Tryz.prog.globalNamed "internal/strconv.uint64pow10" = some 0 := by kernel_rfl
theorem gPowT : (Tryz.prog.globals[0]?).map (·.type) = some 173 := by kernel_rfl
theorem co5 : Tryz.prog.cellsOf 5 = 1 := by kernel_rfl
theorem co310 : Tryz.prog.cellsOf 310 = 256 := by kernel_rfl
theorem co110 : Tryz.prog.cellsOf 110 = 1 := by kernel_rfl
theorem co173 : Tryz.prog.cellsOf 173 = 20 := by kernel_rfl
theorem un310 : Tryz.prog.underlying 310 = some (.array 256 5) := by kernel_rfl
theorem un5 : Tryz.prog.underlying 5 = some (.int .u8) := by kernel_rfl
theorem un173 : Tryz.prog.underlying 173 = some (.array 20 110) := by kernel_rfl
theorem un110 : Tryz.prog.underlying 110 = some (.int .u64) := by kernel_rfl
theorem spaceData : (Rows.laid_strings_asciiSpace : DataW Unit) = Lib.tabData .u8 Lib.asciiSpaceTab := by kernel_rfl
theorem powData : (Rows.laid_internal_strconv_uint64pow10 : DataW Unit) = Lib.tabData .u64 Lib.pow10Tab := by kernel_rfl
theorem space_of_laid {W : World} (h : laidMetH Tryz.prog Rows.consistencyTextsRow.laid W) : Lib.TabIs Tryz.prog W "strings.asciiSpace" .u8 Lib.asciiSpaceTab := by
  rw [MakeChecks.laidMetH_plain _ _ _ (by kernel_rfl)] at h
  have h8 : laidMet Tryz.prog (("strings.asciiSpace", Rows.laid_strings_asciiSpace) :: [("unicode.White_Space", Rows.laid_unicode_White_Space)]) W := h.tail.tail.tail.tail.tail.tail.tail
  rw [spaceData] at h8
  exact Lib.tabIs_of_head gSpace gSpaceT un310 un5 co5 co310 h8
theorem pow_of_laid {W : World} (h : laidMetH Tryz.prog Rows.consistencyTextsRow.laid W) : Lib.TabIs Tryz.prog W "internal/strconv.uint64pow10" .u64 Lib.pow10Tab := by
  rw [MakeChecks.laidMetH_plain _ _ _ (by kernel_rfl)] at h
  have h8 : laidMet Tryz.prog (("internal/strconv.uint64pow10", Rows.laid_internal_strconv_uint64pow10) :: Rows.consistencyTextsRow.laid.tail) W := h
  rw [powData] at h8
  exact Lib.tabIs_of_head gPow gPowT un173 un110 co110 co173 h8
theorem tab_of_laid {W : World} (h : laidMetH Tryz.prog Rows.consistencyTextsRow.laid W) : ∃ tab, W.heap[4]? = some tab ∧ ∀ w : World, w.heap[4]? = some tab → ∀ c : Nat, c < 256 → w.cell? ⟨4, c, none⟩ = some (.int .u8 (if Lib.isSp (UInt8.ofNat c) then 1 else 0)) := by
  have ht := space_of_laid h
  have hc : ∀ c : Nat, c < 256 → W.cell? ⟨4, c, none⟩ = some (.int .u8 (if Lib.isSp (UInt8.ofNat c) then 1 else 0)) := fun c hc => by
    rw [ht.cell gSpace c (by rw [Lib.asciiSpaceTab_length]; exact hc), Lib.asciiSpaceTab_at c hc]
  haveI : HasBase := ⟨fun _ => none⟩
  obtain ⟨_, hlt⟩ := cell_spot (hc 0 (by decide))
  refine ⟨W.heap[4]'hlt, Array.getElem?_eq_getElem hlt, fun w hw c hcl => ?_⟩
  rw [cell_of_block (hw.trans (Array.getElem?_eq_getElem hlt).symm)]
  exact hc c hcl
theorem tabIs_block {W w : World} (h : Lib.TabIs Tryz.prog W "internal/strconv.uint64pow10" .u64 Lib.pow10Tab) (hb : w.heap[0]? = W.heap[0]?) : Lib.TabIs Tryz.prog w "internal/strconv.uint64pow10" .u64 Lib.pow10Tab := by
  unfold Lib.TabIs World.var? at *
  rw [gPow] at h ⊢
  simp only [Option.bind_some] at h ⊢
  rw [hb]
  exact h
theorem powTab_of_laid {W : World} (h : laidMetH Tryz.prog Rows.consistencyTextsRow.laid W) : ∃ tab, W.heap[0]? = some tab ∧ ∀ w : World, w.heap[0]? = some tab → Lib.TabIs Tryz.prog w "internal/strconv.uint64pow10" .u64 Lib.pow10Tab := by
  have ht := pow_of_laid h
  have hc := ht.cell gPow 0 (by rw [Lib.pow10Tab_length]; decide)
  haveI : HasBase := ⟨fun _ => none⟩
  obtain ⟨_, hlt⟩ := cell_spot hc
  exact ⟨W.heap[0]'hlt, Array.getElem?_eq_getElem hlt, fun w hw => tabIs_block ht (hw.trans (Array.getElem?_eq_getElem hlt).symm)⟩

def zeroArgs : Array Value := #[.agg #[.int .i64 0, .string ⟨#[]⟩, .string ⟨#[]⟩, .int .i64 0]]

set_option maxRecDepth 100000 in
theorem lifted (os : Os) (started : os.Started) (H : Type) (enc : TypeId × Value → H) :
    ReturnsInHanded {} Tryz.checked os 3 .any (fun w args => (Rows.consistencyTextsSpec.pre enc Tryz.prog Tryz.f3 Rows.consistencyTextsRow.domain false w args ∧ laidMetH Tryz.prog Rows.consistencyTextsRow.laid w) ∧ sizedMet enc Tryz.prog Tryz.f3 (OpenSpec.ofChange Rows.consistencyTextsSpec) false w args)
      (Rows.consistencyTextsSpec.post enc Tryz.prog Tryz.f3 false true false false) := by
  refine returnsInHanded_of_change_and (C := Tryz.checked) (X := fun w _ => laidMetH Tryz.prog Rows.consistencyTextsRow.laid w) (fun _ _ _ hh h => h.of_heap hh) own started (by kernel_rfl) Tryz.func3
    (ChangeSpec.witness_shaped (enc := enc) (C := Tryz.checked) (X := fun w _ => laidMetH Tryz.prog Rows.consistencyTextsRow.laid w) false (World.laidAll Tryz.prog os Rows.consistencyTextsRow.laid) zeroArgs 8 (World.laidAll_os _ _ _) (World.shaped_of_ZipB (by kernel_rfl) (by kernel_rfl)) (by kernel_rfl) (by kernel_rfl) (by kernel_rfl)
      (by rw [MakeChecks.laidMetH_plain _ _ _ (by kernel_rfl)]; exact laidMet_laidAll _ (by kernel_rfl) (by kernel_rfl))) ?_
  intro W base args ds gs before hval0 hW _ _ hL _
  have hval : ∀ (j : Nat) t v, Tryz.f3.params[j]? = some t → args[j]? = some v → Value.okWide Tryz.prog W .any base t v := hval0
  have hW' := hW
  obtain ⟨p, q, hA0, hV, rfl, hfz, hnd⟩ := hW
  have hA : DataW.TrodAll enc Tryz.prog W 0 (fun _ => true) true Tryz.f3.params.toList args.toList ds p := hA0
  rw [Tryz.params3] at hA hval
  obtain ⟨v0, d0, rfl, rfl, h0⟩ := trodAll_one hA
  obtain ⟨rfl, rfl⟩ := trodVars_none hV
  obtain ⟨cs, rfl, -⟩ := okWide_struct Tryz.underlying23 (hval 0 23 v0 rfl rfl)
  obtain ⟨tabS, hS, hTS⟩ := tab_of_laid hL
  obtain ⟨tabP, hP, hTP⟩ := powTab_of_laid hL
  have h0' := h0
  obtain ⟨fuel, h0f⟩ := h0
  refine (law_calls W cs h0f hS hP hTS hTP).mono fun e W' ⟨he, hb⟩ => ?_
  subst he
  refine ⟨_, rfl, _, _, _, [], p, [], hW', trodAll_mk1 (shut_bool Tryz.underlying4 true), ?_, ?_, hb.frame _, fun h => by cases h⟩
  · exact trodAll_mk1 (Below.trod laidOut (by kernel_rfl) (of_decide_eq_true (by kernel_rfl)) h0' hb fun x hx => hW'.lt x (List.mem_append_left _ hx))
  · rfl

theorem holds : Rows.ConsistencyTextsSaid :=
  OpenClaim.holds_of_wide 3 Tryz.f3 rfl rfl rfl rfl rfl rfl rfl ⟨rfl, rfl, rfl, rfl, rfl⟩ rfl rfl rfl rfl rfl name3 Tryz.func3 closed inst3 wrap3
    (fun os started H enc _ => lifted os started H enc)
end Go.Proofs.YtajihhoaimgeaaaGreatDoor
