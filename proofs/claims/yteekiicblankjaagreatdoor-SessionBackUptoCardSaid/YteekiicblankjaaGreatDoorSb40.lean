import Derived.Test.YteekiicblankjaaGreatDoorSb39
set_option linter.unusedVariables false
set_option linter.unusedSectionVars false
set_option linter.unusedSimpArgs false
namespace Go.Proofs.YteekiicblankjaaGreatDoor.sessionBack
open Go Go.Proofs
theorem b02 : Tryz.pinned.checked.prog.unfollowed 4 = true := (beq_iff_eq.1 a9k).symm
theorem a90 : true = Rows.sessionBackUptoRow.goesBy Tryz.pinned.checked.prog := by
 have h1 : Tryz.pinned.checked.prog.goes 4 = true := by
  unfold Program.goes
  rw [b02, a8O]
  simp only [Bool.and_self, Bool.or_true]
 have h2 : Tryz.pinned.checked.prog.goesFrom "quoin/quoinlaw28.SessionBack" = true := by
  unfold Program.goesFrom
  rw [named, Option.any_some]
  exact h1
 show true = Tryz.pinned.checked.prog.goesAt .entering "quoin/quoinlaw28.SessionBack"
 unfold Program.goesAt
 rw [h2]
 rfl
end Go.Proofs.YteekiicblankjaaGreatDoor.sessionBack
