/- The law's own check of the chapter's examples, reckoned by the kernel. -/
import Derived.Test.YtajihhoaimgeaaaGreatDoorYa
import Derived.Test.YtajihhoaimgeaaaGreatDoorProg
import Derived.KernelRfl
set_option linter.unusedVariables false
set_option linter.unusedSimpArgs false
set_option linter.unusedSectionVars false
set_option linter.unnecessarySimpa false
open Go Go.Ab Go.Ab.F Go.Proofs
namespace Go.Proofs.YtajihhoaimgeaaaGreatDoor
set_option linter.unusedVariables false
noncomputable section
theorem awakeF : ∀ H, callF Tryz.prog cfgD 2000 4 [] H = some (.res (.bool true) H) := fun H => by kernel_rfl
end
end Go.Proofs.YtajihhoaimgeaaaGreatDoor
