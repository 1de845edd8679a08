import Derived.Test.YteekiicblankjaaGreatDoorSb31
import Derived.Test.YteekiicblankjaaGreatDoorRows
import Derived.LaidByTextLater
import Derived.SevenTiedAt
set_option linter.unusedVariables false
set_option linter.unusedSectionVars false
set_option linter.unusedSimpArgs false
namespace Go.Proofs.YteekiicblankjaaGreatDoor
open Go
theorem tB (os : Os) (tape : Tape) : varsDone Tryz.prog 400 (varsId Tryz.prog) os tape = true := by kernel_rfl
end Go.Proofs.YteekiicblankjaaGreatDoor
