import Derived.Test.YteekiicblankjaaGreatDoorSw39
set_option linter.unusedVariables false
set_option linter.unusedSectionVars false
set_option linter.unusedSimpArgs false
namespace Go.Proofs.YteekiicblankjaaGreatDoor.sessionWrites
open Go Go.Proofs
theorem b02 : Tryz.pinned.checked.prog.unfollowed 3 = true := (beq_iff_eq.1 a9k).symm
theorem a90 : true = Rows.sessionWritesUptoRow.goesBy Tryz.pinned.checked.prog := by
 have h1 : Tryz.pinned.checked.prog.goes 3 = true := by
  unfold Program.goes
  rw [b02, a8O]
  simp only [Bool.and_self, Bool.or_true]
 have h2 : Tryz.pinned.checked.prog.goesFrom "quoin/quoinlaw28.SessionWrites" = true := by
  unfold Program.goesFrom
  rw [named, Option.any_some]
  exact h1
 show true = Tryz.pinned.checked.prog.goesAt .entering "quoin/quoinlaw28.SessionWrites"
 unfold Program.goesAt
 rw [h2]
 rfl
end Go.Proofs.YteekiicblankjaaGreatDoor.sessionWrites
