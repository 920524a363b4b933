/- For every ruleset and every name RulesetFinds returns true, and what it reads stays as it was; the library's tables that it lists are tied to the program's text. No condition beyond the card's own. -/
import Derived.Test.YthmmpnkmjbfimaaGreatDoorYr
import Derived.Test.YthmmpnkmjbfimaaGreatDoorTie
import Derived.Test.YthmmpnkmjbfimaaGreatDoorCards
import Derived.SevenTiedAt
set_option linter.unusedVariables false
set_option linter.unusedSimpArgs false
set_option linter.unusedSectionVars false
set_option linter.unnecessarySimpa false
open Go Go.Proofs
namespace Go.Proofs.YthmmpnkmjbfimaaGreatDoor
theorem fname3 : Tryz.prog.funcNamed "salchow/salchowlaw16.RulesetFinds" = some 3 := by kernel_rfl
theorem main3 : Tryz.prog.mainIs = some ((true, "9fc2c69201f31d0a57a184b40d38467be19099af1c63114dd605d6117da4cdf7").1, (true, "9fc2c69201f31d0a57a184b40d38467be19099af1c63114dd605d6117da4cdf7").2.toList) := by kernel_rfl
theorem looks3 : true = Tryz.prog.looks [] := by kernel_rfl
/-- Where no body of the program starts a goroutine, no call does. -/
theorem goes_none {P : Program} (h0 : P.funcs.any Func.goes = false) {c : OpenClaim} (hs : c.start = .entering) : false = c.goesBy P := by
  have h : ∀ g : Nat, (P.funcs[g]?).any Func.goes = false := fun g => by
    cases hg : P.funcs[g]? with
    | none => rfl
    | some fn =>
      have hm : fn ∈ P.funcs := Array.mem_of_getElem? hg
      cases hx : fn.goes with
      | false => simp [hx]
      | true =>
        have h1 : P.funcs.any Func.goes = true := Array.any_eq_true'.2 ⟨fn, hm, hx⟩
        rw [h0] at h1
        cases h1
  have h3 : ∀ f, P.goes f = false := fun f => by
    unfold Program.goes
    rw [h0, Bool.and_false, Bool.or_false, List.any_eq_false]
    intro g _
    simp [h g]
  unfold OpenClaim.goesBy Program.goesAt Program.goesFrom
  rw [hs]
  cases P.funcNamed c.func with
  | none => rfl
  | some f => simp [h3 f]
theorem noGo : Tryz.prog.funcs.any Func.goes = false := by kernel_rfl
theorem goes3 : false = Rows.rulesetFindsRow.goesBy Tryz.prog := goes_none noGo rfl
theorem wf3 : Rows.rulesetFindsRow.wfByText (OpenSpec.ofChange Rows.rulesetFindsSpec) = true := by kernel_rfl
theorem stand30 : Tryz.prog.wantsStandIn 30 = false := by kernel_rfl
theorem stand9 : Tryz.prog.wantsStandIn 9 = false := by kernel_rfl
theorem card_holds : Rows.RulesetFindsCardSaid :=
  Claim7.holds_tied_plain_at .later [] [.data, .data, .data, .data, .sentinel, .sentinel, .listed, .data, .pinned] true (true, "9fc2c69201f31d0a57a184b40d38467be19099af1c63114dd605d6117da4cdf7") true
    holds (fun _ h => by cases h) wf3 (fun _ h => by cases h) rulesetFinds_row_tie rfl ⟨rfl, rfl⟩ main3 rfl
    (fun f fn hf hfn => by
      obtain rfl : f = 3 := (Option.some.inj (fname3.symm.trans hf)).symm
      obtain rfl : fn = Tryz.f3 := (Option.some.inj (Tryz.func3.symm.trans hfn)).symm
      exact ⟨looks3, fun j t ht => by
        rw [Tryz.params3] at ht
        have hm : t = 30 ∨ t = 9 := by
          rcases j with _ | _ | j
          · exact .inl (by simpa using ht.symm)
          · exact .inr (by simpa using ht.symm)
          · simp at ht
        rcases hm with rfl | rfl
        · exact stand30
        · exact stand9⟩)
    goes3
#print axioms card_holds
end Go.Proofs.YthmmpnkmjbfimaaGreatDoor
