/- What the program's text lays in the listed variables: the run, and what it leaves. -/
import Derived.Test.YtajihhoaimgeaaaGreatDoorTa
set_option linter.unusedVariables false
set_option linter.unusedSimpArgs false
set_option linter.unusedSectionVars false
set_option linter.unnecessarySimpa false
namespace Go.Proofs.YtajihhoaimgeaaaGreatDoor
open Go
def restL : List MemPlace := [.cell 8 0, .cell 19 0, .cell 9 0, .cell 18 0]
def restM : List MemPlace := [.cell 5 0, .cell 21 0, .cell 21 1, .cell 21 2]
def placesL : List MemPlace := MemPlace.row ⟨0, 0, none⟩ 20 ++ (MemPlace.row ⟨2, 0, none⟩ 32 ++ (MemPlace.row ⟨3, 0, none⟩ 64 ++ (MemPlace.row ⟨11, 0, none⟩ 32 ++ (restL ++ (MemPlace.row ⟨4, 0, none⟩ 256 ++ (restM ++ MemPlace.row ⟨20, 0, none⟩ 21))))))
theorem tie7 : ∀ os tape, varsDone Tryz.prog 400 (varsId Tryz.prog) os tape = true := fun _ _ => by kernel_rfl
theorem tie8 : ∀ os tape, DataW.laidRun Tryz.prog (varsWorld Tryz.prog 400 (varsId Tryz.prog) os tape).memory 8 (laidL.map (·.1)) = some (laidL, placesL) := fun _ _ => by kernel_rfl
theorem places_ok : placesL.Nodup := Ab.nodup_places (by kernel_rfl)
end Go.Proofs.YtajihhoaimgeaaaGreatDoor
