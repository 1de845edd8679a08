import Derived.Test.YteekiicblankjaaGreatDoorSb38
import Derived.Test.YteekiicblankjaaGreatDoorRows
import GoSem.ClaimGoes
set_option linter.unusedVariables false
set_option linter.unusedSectionVars false
set_option linter.unusedSimpArgs false
namespace Go.Proofs.YteekiicblankjaaGreatDoor
open Go
theorem a6O : (Tryz.prog.funcs[79]?).any Func.goes = true := by kernel_rfl
theorem a7k {P : Program} {i : Nat} (h : (P.funcs[i]?).any Func.goes = true) : P.funcs.any Func.goes = true := by
 cases hf : P.funcs[i]? with
 | none => rw [hf] at h; cases h
 | some fn =>
  rw [hf] at h
  obtain ⟨hi, he⟩ := Array.getElem?_eq_some_iff.1 hf
  rw [Array.any_eq_true]
  exact ⟨i, hi, by rw [he]; exact h⟩
theorem a8O : Tryz.pinned.checked.prog.funcs.any Func.goes = true := a7k a6O
end Go.Proofs.YteekiicblankjaaGreatDoor
