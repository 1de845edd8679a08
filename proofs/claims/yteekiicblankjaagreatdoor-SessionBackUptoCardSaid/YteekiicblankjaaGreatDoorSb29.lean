import Derived.Test.YteekiicblankjaaGreatDoorSb28
import Derived.RowKitTokens
import GoSem.ClaimWrapper
set_option linter.unusedVariables false
set_option linter.unusedSectionVars false
set_option linter.unusedSimpArgs false
namespace Go.Proofs.YteekiicblankjaaGreatDoor.sessionBack
open Go Go.Proofs
open Go.ChangeShapes Go.WideShapes Go.ChangeAt Go.RowKit Go.VE
theorem named : Tryz.pinned.checked.prog.funcNamed "quoin/quoinlaw28.SessionBack" = some 4 := by kernel_rfl
theorem wfS : Rows.sessionBackUptoRow.stays.wf (OpenSpec.ofChange (Rows.OpenSpec.upto Rows.sessionBackSpec).bare) = true := by kernel_rfl
theorem wfU : Rows.sessionBackUptoRow.wf (Rows.OpenSpec.upto Rows.sessionBackSpec) = true := by kernel_rfl
theorem b0X : Rows.SessionBackUptoSaid :=
 OpenClaim.holds_of_stays rfl rfl wfU <| OpenClaim.holds_of_cond (c := Rows.sessionBackUptoRow.stays) 4 Tryz.f4 rfl rfl rfl rfl rfl rfl rfl ⟨rfl, rfl, rfl, rfl, rfl⟩ rfl rfl rfl rfl rfl named Tryz.func4 (a3k a7Z wfS)
  (of_decide_eq_true (by kernel_rfl)) (by unfold Func.isWrapper; first | (rw [if_pos (by decide +kernel)]; kernel_rfl) | (rw [if_neg (by decide +kernel)]; exact ⟨rfl, rfl⟩))
  (fun os started H enc _ F => by rw [OpenClaim.pre_eq_preRow]; exact lifted os started H enc F)
end Go.Proofs.YteekiicblankjaaGreatDoor.sessionBack
