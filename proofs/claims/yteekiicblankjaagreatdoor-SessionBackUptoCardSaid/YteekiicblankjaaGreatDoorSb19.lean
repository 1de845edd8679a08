import Derived.Test.YteekiicblankjaaGreatDoorSb18
import Derived.Test.YteekiicblankjaaGreatDoorRows
import Derived.JoinedOf
import Derived.JoinedCond
set_option linter.unusedVariables false
set_option linter.unusedSectionVars false
set_option linter.unusedSimpArgs false
namespace Go.Proofs.YteekiicblankjaaGreatDoor
open Go
theorem b0J : (Rows.sessionBackUptoRow.wf (OpenSpec.ofChange (Rows.OpenSpec.upto Rows.sessionBackSpec).bare)) = true := by kernel_rfl
theorem b0K : (laidOutB Tryz.pinned.checked.prog) = true := by kernel_rfl
theorem b0L : (mapsRowed Tryz.pinned.checked.prog) = true := by kernel_rfl
theorem b0M : (Tryz.f4.params.all (Tryz.pinned.checked.prog.readableRec ·)) = true := by kernel_rfl
theorem b0N : (namedTie Tryz.pinned.checked.prog Rows.sessionBackUptoRow.named (Rows.OpenSpec.upto Rows.sessionBackSpec).bare.vars) = true := by kernel_rfl
theorem b0O : ((Rows.sessionBackUptoRow.stops == [])) = true := by kernel_rfl
theorem b0P : ((Tryz.pinned.checked.prog.stops == [])) = true := by kernel_rfl
theorem b0Q : ((Rows.sessionBackUptoRow.knobs == [])) = true := by kernel_rfl
theorem b0R : ((Tryz.pinned.checked.prog.stopKnobs == [])) = true := by kernel_rfl
end Go.Proofs.YteekiicblankjaaGreatDoor
