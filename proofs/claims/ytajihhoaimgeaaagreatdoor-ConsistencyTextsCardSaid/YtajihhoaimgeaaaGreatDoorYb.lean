/- Valid of the rulesets of the examples, reckoned by the kernel. -/
import Derived.Test.YtajihhoaimgeaaaGreatDoorYa
import Derived.Test.YtajihhoaimgeaaaGreatDoorProg
import Derived.KernelRfl
set_option linter.unusedVariables false
set_option linter.unusedSimpArgs false
set_option linter.unusedSectionVars false
set_option linter.unnecessarySimpa false
open Go Go.Ab Go.Ab.F Go.Proofs
namespace Go.Proofs.YtajihhoaimgeaaaGreatDoor
set_option linter.unusedVariables false
noncomputable section
theorem validA : ∀ H, callF Tryz.prog cfgB 2000 14 rulesA H = some (.res (.bool true) H) := fun H => by as_aux_lemma => kernel_rfl
theorem validB : ∀ H, callF Tryz.prog cfgB 2000 14 rulesB H = some (.res (.bool true) H) := fun H => by as_aux_lemma => kernel_rfl
end
end Go.Proofs.YtajihhoaimgeaaaGreatDoor
