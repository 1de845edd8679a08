import Derived.Test.YteekiicblankjaaGreatDoorSb36
set_option linter.unusedVariables false
set_option linter.unusedSectionVars false
set_option linter.unusedSimpArgs false
namespace Go.Proofs.YteekiicblankjaaGreatDoor
open Go
theorem a9P : Rows.sessionWritesUptoRow.laidByTextAt .later Tryz.pinned [.pinned, .data, .pinned, .sentinel, .data, .data, .data, .handle] true :=
 OpenClaim.laidByTextAt_pinned rfl rfl tie rfl rfl rfl rfl (fun y hy _e => by
  simp only [Rows.sessionWritesUptoRow, List.zip_cons_cons, List.zip_nil_right, List.mem_cons, List.mem_nil_iff, or_false] at hy
  rcases hy with rfl | rfl | rfl | rfl | rfl | rfl | rfl | rfl
  ·exact ⟨a5n, by kernel_rfl⟩
  ·cases _e
  ·exact ⟨a6a, by kernel_rfl⟩
  ·cases _e
  ·cases _e
  ·cases _e
  ·cases _e
  ·cases _e) a9f
theorem a7T : Rows.sessionBackUptoRow.laidByTextAt .later Tryz.pinned [.pinned, .data, .pinned, .sentinel, .data, .data, .data, .handle] true :=
 OpenClaim.laidByTextAt_pinned rfl rfl tie rfl rfl rfl rfl (fun y hy _e => by
  simp only [Rows.sessionBackUptoRow, List.zip_cons_cons, List.zip_nil_right, List.mem_cons, List.mem_nil_iff, or_false] at hy
  rcases hy with rfl | rfl | rfl | rfl | rfl | rfl | rfl | rfl
  ·exact ⟨a5n, by kernel_rfl⟩
  ·cases _e
  ·exact ⟨a6a, by kernel_rfl⟩
  ·cases _e
  ·cases _e
  ·cases _e
  ·cases _e
  ·cases _e) a9f
end Go.Proofs.YteekiicblankjaaGreatDoor
