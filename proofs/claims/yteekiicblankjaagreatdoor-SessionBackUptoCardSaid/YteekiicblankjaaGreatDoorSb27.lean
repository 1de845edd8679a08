import Derived.Test.YteekiicblankjaaGreatDoorSb26
set_option linter.unusedVariables false
set_option linter.unusedSectionVars false
set_option linter.unusedSimpArgs false
namespace Go.Proofs.YteekiicblankjaaGreatDoor
open Go
theorem l3 {a b : Bool} (x : a = true) (y : b = true) : (a && b) = true := by rw [x, y]; rfl
theorem a7Z : joinedFacts Tryz.pinned.checked.prog 4 Tryz.f4 (Rows.OpenSpec.upto Rows.sessionBackSpec).bare Rows.sessionBackUptoRow = true := by
 unfold joinedFacts
 refine l3 ?_ b0m
 refine l3 ?_ b0l
 refine l3 ?_ b0k
 refine l3 ?_ (by kernel_rfl)
 refine l3 ?_ b0j
 refine l3 ?_ b0i
 refine l3 ?_ b0h
 refine l3 ?_ b0g
 refine l3 ?_ b0f
 refine l3 ?_ b0e
 refine l3 ?_ b0d
 refine l3 ?_ b0c
 refine l3 ?_ b0b
 refine l3 ?_ b0a
 refine l3 ?_ a99
 refine l3 ?_ a98
 refine l3 ?_ a97
 refine l3 ?_ a96
 refine l3 ?_ a95
 refine l3 ?_ a94
 refine l3 ?_ a93
 refine l3 ?_ a9k
 refine l3 ?_ b0S
 refine l3 ?_ b0R
 refine l3 ?_ b0Q
 refine l3 ?_ b0P
 refine l3 ?_ b0O
 refine l3 ?_ b0N
 refine l3 ?_ b0M
 refine l3 ?_ b0L
 refine l3 ?_ b0K
 exact b0J
end Go.Proofs.YteekiicblankjaaGreatDoor
