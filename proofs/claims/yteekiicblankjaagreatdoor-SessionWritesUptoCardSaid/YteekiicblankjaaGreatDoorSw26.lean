import Derived.Test.YteekiicblankjaaGreatDoorSw25
import Derived.Test.YteekiicblankjaaGreatDoorRows
import Derived.JoinedOf
import Derived.JoinedCond
set_option linter.unusedVariables false
set_option linter.unusedSectionVars false
set_option linter.unusedSimpArgs false
namespace Go.Proofs.YteekiicblankjaaGreatDoor
open Go
theorem b07 : ((Rows.sessionWritesUptoRow.kinds == (if Rows.sessionWritesUptoRow.domain.isEmpty then [] else Tryz.f3.params.toList.map fun t => match Tryz.pinned.checked.prog.underlying t with | some (.int k) => some k | _ => none))) = true := by kernel_rfl
theorem b0k : ((Rows.sessionWritesUptoRow.pinned == Rows.sessionWritesUptoRow.pinnedBy)) = true := by kernel_rfl
theorem b0l : ((Rows.sessionWritesUptoRow.veiled == (Tryz.f3.params.toList ++ (Rows.OpenSpec.upto Rows.sessionWritesSpec).bare.plain.varTypes Tryz.pinned.checked.prog ++ Tryz.f3.resultTypes.toList).any (Tryz.pinned.checked.prog.veiledRec ·))) = true := by kernel_rfl
theorem b0m : (Rows.sessionWritesUptoRow.veiledFits Tryz.pinned.checked.prog Tryz.f3.params.toList (Tryz.f3.params.toList ++ (Rows.OpenSpec.upto Rows.sessionWritesSpec).bare.plain.varTypes Tryz.pinned.checked.prog ++ Tryz.f3.resultTypes.toList)) = true := by kernel_rfl
end Go.Proofs.YteekiicblankjaaGreatDoor
