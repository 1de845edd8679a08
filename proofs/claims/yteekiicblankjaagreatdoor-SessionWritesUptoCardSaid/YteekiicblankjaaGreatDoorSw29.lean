import Derived.Test.YteekiicblankjaaGreatDoorSw28
import Derived.RowKitTokens
import GoSem.ClaimWrapper
set_option linter.unusedVariables false
set_option linter.unusedSectionVars false
set_option linter.unusedSimpArgs false
namespace Go.Proofs.YteekiicblankjaaGreatDoor.sessionWrites
open Go Go.Proofs
open Go.ChangeShapes Go.WideShapes Go.ChangeAt Go.RowKit Go.VE
theorem named : Tryz.pinned.checked.prog.funcNamed "quoin/quoinlaw28.SessionWrites" = some 3 := by kernel_rfl
theorem wfS : Rows.sessionWritesUptoRow.stays.wf (OpenSpec.ofChange (Rows.OpenSpec.upto Rows.sessionWritesSpec).bare) = true := by kernel_rfl
theorem wfU : Rows.sessionWritesUptoRow.wf (Rows.OpenSpec.upto Rows.sessionWritesSpec) = true := by kernel_rfl
theorem b0X : Rows.SessionWritesUptoSaid :=
 OpenClaim.holds_of_stays rfl rfl wfU <| OpenClaim.holds_of_cond (c := Rows.sessionWritesUptoRow.stays) 3 Tryz.f3 rfl rfl rfl rfl rfl rfl rfl ⟨rfl, rfl, rfl, rfl, rfl⟩ rfl rfl rfl rfl rfl named Tryz.func3 (a3k a7Z wfS)
  (of_decide_eq_true (by kernel_rfl)) (by unfold Func.isWrapper; first | (rw [if_pos (by decide +kernel)]; kernel_rfl) | (rw [if_neg (by decide +kernel)]; exact ⟨rfl, rfl⟩))
  (fun os started H enc _ F => by rw [OpenClaim.pre_eq_preRow]; exact lifted os started H enc F)
end Go.Proofs.YteekiicblankjaaGreatDoor.sessionWrites
