/- For every finding ConsistencyTexts returns true, and what it reads stays as it was; the library's tables that it lists are tied to the program's text. No condition beyond the card's own. -/
import Derived.Test.YtajihhoaimgeaaaGreatDoorYr
import Derived.Test.YtajihhoaimgeaaaGreatDoorTc
import Derived.Test.YtajihhoaimgeaaaGreatDoorCards
import Derived.SevenTiedAt
set_option linter.unusedVariables false
set_option linter.unusedSimpArgs false
set_option linter.unusedSectionVars false
set_option linter.unnecessarySimpa false
open Go Go.Proofs
namespace Go.Proofs.YtajihhoaimgeaaaGreatDoor
theorem fname3 : Tryz.prog.funcNamed "salchow/salchowlaw17.ConsistencyTexts" = some 3 := by kernel_rfl
theorem main3 : Tryz.prog.mainIs = some ((true, "e6cf03d8dee5406c3d0d4f9d992c8be6b22894738b77181ebea551adc689e4dd").1, (true, "e6cf03d8dee5406c3d0d4f9d992c8be6b22894738b77181ebea551adc689e4dd").2.toList) := by kernel_rfl
theorem looks3 : true = Tryz.prog.looks [] := by kernel_rfl
/-- Where no body of the program starts a goroutine, no call does. -/
theorem goes_none {P : Program} (h0 : P.funcs.any Func.goes = false) {c : OpenClaim} (hs : c.start = .entering) : false = c.goesBy P := by
  have h : ∀ g : Nat, (P.funcs[g]?).any Func.goes = false := fun g => by
    cases hg : P.funcs[g]? with
    | none => rfl
    | some fn =>
      have hm : fn ∈ P.funcs := Array.mem_of_getElem? hg
      cases hx : fn.goes with
      | false => simp [hx]
      | true =>
        have h1 : P.funcs.any Func.goes = true := Array.any_eq_true'.2 ⟨fn, hm, hx⟩
        rw [h0] at h1
        cases h1
  have h3 : ∀ f, P.goes f = false := fun f => by
    unfold Program.goes
    rw [h0, Bool.and_false, Bool.or_false, List.any_eq_false]
    intro g _
    simp [h g]
  unfold OpenClaim.goesBy Program.goesAt Program.goesFrom
  rw [hs]
  cases P.funcNamed c.func with
  | none => rfl
  | some f => simp [h3 f]
theorem noGo : Tryz.prog.funcs.any Func.goes = false := by kernel_rfl
theorem goes3 : false = Rows.consistencyTextsRow.goesBy Tryz.prog := goes_none noGo rfl
theorem wf3 : Rows.consistencyTextsRow.wfByText (OpenSpec.ofChange Rows.consistencyTextsSpec) = true := by kernel_rfl
theorem stand23 : Tryz.prog.wantsStandIn 23 = false := by kernel_rfl
theorem card_holds : Rows.ConsistencyTextsCardSaid :=
  Claim7.holds_tied_plain_at .later [] [.data, .data, .data, .pinned, .data, .sentinel, .sentinel, .data, .listed] true (true, "e6cf03d8dee5406c3d0d4f9d992c8be6b22894738b77181ebea551adc689e4dd") true
    holds (fun _ h => by cases h) wf3 (fun _ h => by cases h) row_tie rfl ⟨rfl, rfl⟩ main3 rfl
    (fun f fn hf hfn => by
      obtain rfl : f = 3 := (Option.some.inj (fname3.symm.trans hf)).symm
      obtain rfl : fn = Tryz.f3 := (Option.some.inj (Tryz.func3.symm.trans hfn)).symm
      exact ⟨looks3, fun j t ht => by
        rw [Tryz.params3] at ht
        obtain rfl : t = 23 := by
          rcases j with _ | j
          · simpa using ht.symm
          · simp at ht
        exact stand23⟩)
    goes3
#print axioms card_holds
end Go.Proofs.YtajihhoaimgeaaaGreatDoor
