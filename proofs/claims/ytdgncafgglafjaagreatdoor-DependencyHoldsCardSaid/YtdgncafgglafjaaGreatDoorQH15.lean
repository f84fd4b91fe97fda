/- Parts of one proof, joined by a program. -/
import Derived.Test.YtdgncafgglafjaaGreatDoorQ14
set_option linter.defProp false
set_option linter.unusedVariables false
set_option linter.unusedSimpArgs false
set_option linter.unusedSectionVars false
set_option maxHeartbeats 16000000
namespace Go.Proofs.YtdgncafgglafjaaGreatDoor
open Go.Proofs.Tryz
open Go.RowKit Go.MapKept
section
section
variable {V M:List (Par×Rat)} {m0:Rat}
end
end
end Go.Proofs.YtdgncafgglafjaaGreatDoor
