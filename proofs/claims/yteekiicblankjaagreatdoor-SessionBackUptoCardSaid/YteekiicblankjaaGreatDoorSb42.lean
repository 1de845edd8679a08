/- SessionBack: whatever the input, up to the bulk that the statement names, the law answers true, and what was handed in reads as it did. Its conditions: the bound of the given statement and the variables that its card ties, no other. -/
import Derived.Test.YteekiicblankjaaGreatDoorSb41
set_option linter.unusedVariables false
set_option linter.unusedSectionVars false
set_option linter.unusedSimpArgs false
namespace Go.Proofs.YteekiicblankjaaGreatDoor.sessionBack
open Go Go.Proofs
open Go.ChangeShapes Go.WideShapes Go.ChangeAt Go.RowKit Go.VE
theorem proved : Rows.SessionBackUptoCardSaid :=
 Claim7.holds_tied_goes .later _ _ (true, "b2a86d2d6abcd8f8082318d318aa156b105244e5ee2aeb3bedcab52329b9b23c") _ b0X wfT a7T rfl ⟨rfl, rfl⟩ b0n rfl plain a90
end Go.Proofs.YteekiicblankjaaGreatDoor.sessionBack
