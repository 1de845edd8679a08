import Derived.Test.YteekiicblankjaaGreatDoorSb19
import Derived.Test.YteekiicblankjaaGreatDoorRows
import Derived.JoinedOf
import Derived.JoinedCond
set_option linter.unusedVariables false
set_option linter.unusedSectionVars false
set_option linter.unusedSimpArgs false
namespace Go.Proofs.YteekiicblankjaaGreatDoor
open Go
theorem b0S : ((Rows.sessionBackUptoRow.inPlace == Tryz.pinned.checked.prog.inPlace 4)) = true := by kernel_rfl
end Go.Proofs.YteekiicblankjaaGreatDoor
