import Derived.Test.YtogkdhgjefiipaaGreatDoorES19
import Derived.RowKitTokens
set_option linter.unusedVariables false
set_option linter.unusedSectionVars false
set_option linter.unusedSimpArgs false
namespace Go.Proofs.YtogkdhgjefiipaaGreatDoor.exlineSpells
open Go Go.Proofs
open Go.ChangeShapes Go.WideShapes Go.ChangeAt Go.RowKit Go.VE
theorem e73:joinedFacts Tryz.pinned.checked.prog 4 Tryz.f4 (Rows.OpenSpec.upto Rows.exlineSpellsSpec).bare Rows.exlineSpellsUptoRow=true:=by kernel_rfl
end Go.Proofs.YtogkdhgjefiipaaGreatDoor.exlineSpells
