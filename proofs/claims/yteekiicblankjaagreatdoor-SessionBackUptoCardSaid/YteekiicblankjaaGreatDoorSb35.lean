import Derived.Test.YteekiicblankjaaGreatDoorSb34
import Derived.Test.YteekiicblankjaaGreatDoorRows
import Derived.LaidByTextLater
import Derived.SevenTiedAt
set_option linter.unusedVariables false
set_option linter.unusedSectionVars false
set_option linter.unusedSimpArgs false
namespace Go.Proofs.YteekiicblankjaaGreatDoor
open Go
theorem tE (os : Os) (tape : Tape) : (a6R.filter fun x => x.2.handleName?.isSome).all (handleAtB Tryz.prog (varsWorld Tryz.prog 400 (varsId Tryz.prog) os tape).memory) = true := by kernel_rfl
end Go.Proofs.YteekiicblankjaaGreatDoor
