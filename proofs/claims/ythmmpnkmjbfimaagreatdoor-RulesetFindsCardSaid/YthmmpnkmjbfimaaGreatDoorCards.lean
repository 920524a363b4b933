/-
  DERIVED. GIVEN WITH THE SEED: THE CARDS: each row of YthmmpnkmjbfimaaGreatDoorRows.lean that lists a variable, with what it lists TIED to the program's text (the seventh form; the later family's looks); each row that meets fmt, with fmt's text TOLD by the authors' own Lean function (tested against real Go, not proved from fmt's source: count such statements apart). THE CARD IS WHAT COUNTS. Prove the row's statement (the work); the ties are given (YthmmpnkmjbfimaaGreatDoorTie.lean); close each card by the builder's one call (the guide's Derived/Test/ToyasCard.lean, 'card_holds'). Laid BY PROGRAM, IN A SANDBOX (cutbox-door.mjs). By AI agents, Wed Nov 11 2026. No macro, syntax, notation, axiom, sorry.
-/
import Derived.Test.YthmmpnkmjbfimaaGreatDoorRows
import GoSem.ClaimSeven
namespace Go.Proofs.YthmmpnkmjbfimaaGreatDoor
namespace Rows

/-- THE TIED CARD OF 'salchowlaw16.RulesetFinds'. -/
def rulesetFindsCard : Claim7 := { stood := { row := rulesetFindsRow, standIns := [], harness := (true, "9fc2c69201f31d0a57a184b40d38467be19099af1c63114dd605d6117da4cdf7"), looks := true }, kinds := [], alts := [], laidByText := true, laidKinds := [.data, .data, .data, .data, .sentinel, .sentinel, .listed, .data, .pinned], laidTests := true, laidLooks := .later }
def RulesetFindsCardSaid : Prop := Claim7.holds Tryz.pinned (.plain (OpenSpec.ofChange rulesetFindsSpec)) rulesetFindsCard

/-- THE SECOND FORM's CARD OF 'salchowlaw16.RulesetFinds'. -/
def rulesetFindsUptoCard : Claim7 := { stood := { row := rulesetFindsUptoRow, standIns := [], harness := (true, "9fc2c69201f31d0a57a184b40d38467be19099af1c63114dd605d6117da4cdf7"), looks := true }, kinds := [], alts := [], laidByText := true, laidKinds := [.data, .data, .data, .data, .sentinel, .sentinel, .listed, .data, .pinned], laidTests := true, laidLooks := .later }
def RulesetFindsUptoCardSaid : Prop := Claim7.holds Tryz.pinned (.plain (OpenSpec.upto rulesetFindsSpec)) rulesetFindsUptoCard
end Rows
end Go.Proofs.YthmmpnkmjbfimaaGreatDoor
