import Derived.Test.YteekiicblankjaaGreatDoorSb40
import Derived.Test.YteekiicblankjaaGreatDoorRows
import Derived.JoinedOf
import Derived.JoinedCond
import Derived.SevenTiedAt
set_option linter.unusedVariables false
set_option linter.unusedSectionVars false
set_option linter.unusedSimpArgs false
namespace Go.Proofs.YteekiicblankjaaGreatDoor.sessionBack
open Go Go.Proofs
theorem wfT : Rows.sessionBackUptoRow.wfByText (Rows.OpenSpec.upto Rows.sessionBackSpec) = true := by kernel_rfl
theorem b0n : Tryz.pinned.checked.prog.mainIs = some (true, "b2a86d2d6abcd8f8082318d318aa156b105244e5ee2aeb3bedcab52329b9b23c".toList) := by kernel_rfl
end Go.Proofs.YteekiicblankjaaGreatDoor.sessionBack
