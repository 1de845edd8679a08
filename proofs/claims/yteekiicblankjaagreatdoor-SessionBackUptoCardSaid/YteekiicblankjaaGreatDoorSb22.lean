import Derived.Test.YteekiicblankjaaGreatDoorSb21
import Derived.Test.YteekiicblankjaaGreatDoorRows
import Derived.JoinedOf
import Derived.JoinedCond
set_option linter.unusedVariables false
set_option linter.unusedSectionVars false
set_option linter.unusedSimpArgs false
namespace Go.Proofs.YteekiicblankjaaGreatDoor
open Go
theorem a93 : ((Rows.sessionBackUptoRow.recurses == Tryz.pinned.checked.prog.recurses 4)) = true := by kernel_rfl
end Go.Proofs.YteekiicblankjaaGreatDoor
