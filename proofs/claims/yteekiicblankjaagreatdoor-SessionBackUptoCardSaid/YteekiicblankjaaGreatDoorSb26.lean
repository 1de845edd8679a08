import Derived.Test.YteekiicblankjaaGreatDoorSb25
import Derived.Test.YteekiicblankjaaGreatDoorRows
import Derived.JoinedOf
import Derived.JoinedCond
set_option linter.unusedVariables false
set_option linter.unusedSectionVars false
set_option linter.unusedSimpArgs false
namespace Go.Proofs.YteekiicblankjaaGreatDoor
open Go
theorem b07 : ((Rows.sessionBackUptoRow.kinds == (if Rows.sessionBackUptoRow.domain.isEmpty then [] else Tryz.f4.params.toList.map fun t => match Tryz.pinned.checked.prog.underlying t with | some (.int k) => some k | _ => none))) = true := by kernel_rfl
theorem b0k : ((Rows.sessionBackUptoRow.pinned == Rows.sessionBackUptoRow.pinnedBy)) = true := by kernel_rfl
theorem b0l : ((Rows.sessionBackUptoRow.veiled == (Tryz.f4.params.toList ++ (Rows.OpenSpec.upto Rows.sessionBackSpec).bare.plain.varTypes Tryz.pinned.checked.prog ++ Tryz.f4.resultTypes.toList).any (Tryz.pinned.checked.prog.veiledRec ·))) = true := by kernel_rfl
theorem b0m : (Rows.sessionBackUptoRow.veiledFits Tryz.pinned.checked.prog Tryz.f4.params.toList (Tryz.f4.params.toList ++ (Rows.OpenSpec.upto Rows.sessionBackSpec).bare.plain.varTypes Tryz.pinned.checked.prog ++ Tryz.f4.resultTypes.toList)) = true := by kernel_rfl
end Go.Proofs.YteekiicblankjaaGreatDoor
