import Derived.Test.YteekiicblankjaaGreatDoorSb22
import Derived.Test.YteekiicblankjaaGreatDoorRows
import Derived.JoinedOf
import Derived.JoinedCond
set_option linter.unusedVariables false
set_option linter.unusedSectionVars false
set_option linter.unusedSimpArgs false
namespace Go.Proofs.YteekiicblankjaaGreatDoor
open Go
theorem a94 : ((Rows.sessionBackUptoRow.named == Tryz.pinned.checked.prog.varsNamed 4)) = true := by kernel_rfl
end Go.Proofs.YteekiicblankjaaGreatDoor
