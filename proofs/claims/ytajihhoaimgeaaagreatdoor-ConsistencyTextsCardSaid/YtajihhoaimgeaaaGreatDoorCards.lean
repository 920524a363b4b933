/-
  DERIVED. GIVEN WITH THE SEED: THE CARDS: each row of YtajihhoaimgeaaaGreatDoorRows.lean that lists a variable, with what it lists TIED to the program's text (the seventh form; the later family's looks); each row that meets fmt, with fmt's text TOLD by the authors' own Lean function (tested against real Go, not proved from fmt's source: count such statements apart). THE CARD IS WHAT COUNTS. Prove the row's statement (the work); the ties are given (YtajihhoaimgeaaaGreatDoorTie.lean); close each card by the builder's one call (the guide's Derived/Test/ToyasCard.lean, 'card_holds'). Laid BY PROGRAM, IN A SANDBOX (cutbox-door.mjs). By AI agents, Wed Nov 11 2026. No macro, syntax, notation, axiom, sorry.
-/
import Derived.Test.YtajihhoaimgeaaaGreatDoorRows
import GoSem.ClaimSeven
namespace Go.Proofs.YtajihhoaimgeaaaGreatDoor
namespace Rows

/-- THE TIED CARD OF 'salchowlaw17.ConsistencyTexts'. -/
def consistencyTextsCard : Claim7 := { stood := { row := consistencyTextsRow, standIns := [], harness := (true, "e6cf03d8dee5406c3d0d4f9d992c8be6b22894738b77181ebea551adc689e4dd"), looks := true }, kinds := [], alts := [], laidByText := true, laidKinds := [.data, .data, .data, .pinned, .data, .sentinel, .sentinel, .data, .listed], laidTests := true, laidLooks := .later }
def ConsistencyTextsCardSaid : Prop := Claim7.holds Tryz.pinned (.plain (OpenSpec.ofChange consistencyTextsSpec)) consistencyTextsCard

/-- THE SECOND FORM's CARD OF 'salchowlaw17.ConsistencyTexts'. -/
def consistencyTextsUptoCard : Claim7 := { stood := { row := consistencyTextsUptoRow, standIns := [], harness := (true, "e6cf03d8dee5406c3d0d4f9d992c8be6b22894738b77181ebea551adc689e4dd"), looks := true }, kinds := [], alts := [], laidByText := true, laidKinds := [.data, .data, .data, .pinned, .data, .sentinel, .sentinel, .data, .listed], laidTests := true, laidLooks := .later }
def ConsistencyTextsUptoCardSaid : Prop := Claim7.holds Tryz.pinned (.plain (OpenSpec.upto consistencyTextsSpec)) consistencyTextsUptoCard
end Rows
end Go.Proofs.YtajihhoaimgeaaaGreatDoor
