import Derived.Test.YteekiicblankjaaGreatDoorSb24
import Derived.Test.YteekiicblankjaaGreatDoorRows
import Derived.JoinedOf
import Derived.JoinedCond
set_option linter.unusedVariables false
set_option linter.unusedSectionVars false
set_option linter.unusedSimpArgs false
namespace Go.Proofs.YteekiicblankjaaGreatDoor
open Go
theorem b0e : ((Rows.sessionBackUptoRow.plainKeys == Tryz.pinned.checked.prog.plainKeys)) = true := by kernel_rfl
theorem b0f : (Rows.sessionBackUptoRow.shortTexts.isNone) = true := by kernel_rfl
theorem b0g : (Tryz.pinned.checked.prog.stopsHeard) = true := by kernel_rfl
theorem b0h : (Tryz.pinned.checked.prog.mayEnter) = true := by kernel_rfl
theorem b0i : ((Rows.sessionBackUptoRow.lifted == Tryz.pinned.checked.prog.liftsFinal)) = true := by kernel_rfl
theorem b0j : ((Tryz.pinned.checked.prog.make == some Rows.sessionBackUptoRow.make)) = true := by kernel_rfl
end Go.Proofs.YteekiicblankjaaGreatDoor
