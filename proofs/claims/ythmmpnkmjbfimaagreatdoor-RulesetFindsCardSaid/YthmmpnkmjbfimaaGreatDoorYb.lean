/- What the lexer gives of the example, reckoned by the kernel. -/
import Derived.Test.YthmmpnkmjbfimaaGreatDoorYa
import Derived.Test.YthmmpnkmjbfimaaGreatDoorProg
import Derived.KernelRfl
set_option linter.unusedVariables false
set_option linter.unusedSimpArgs false
set_option linter.unusedSectionVars false
set_option linter.unnecessarySimpa false
open Go Go.Ab Go.Ab.F Go.Proofs
namespace Go.Proofs.YthmmpnkmjbfimaaGreatDoor
set_option linter.unusedVariables false
noncomputable section
theorem lexF : ∀ H, callF Tryz.prog cfgB 2000 31 [.str example1] H = some (.res tokens1 H) := fun H => by kernel_rfl
end
end Go.Proofs.YthmmpnkmjbfimaaGreatDoor
