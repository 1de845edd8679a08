/- TypingOver: whatever the input, up to the bulk that the statement names, the law answers true, and what was handed in reads as it did. Its conditions: the bound of the given statement, no other. -/
import Derived.Test.YtdmgfabppaffkaaS13
import Derived.Test.YtdmgfabppaffkaaRows
import Derived.WalkKit
import Derived.ProofKit
import Derived.OpenShut
import Derived.JoinedCond
set_option linter.unusedVariables false
namespace Go.Proofs.Ytdmgfabppaffkaa.typingOver
open Go.ChangeShapes Go.WideShapes Go.ChangeAt Go.RowKit Go.VE

theorem bulks {H : Type} : BulkFn (H := H) Rows.uptoBulk Rows.uptoBulkAll where
  str := fun b => by simp [Rows.uptoBulk]
  lit := fun l => by cases l <;> simp [Rows.uptoBulk]
  nil := by simp [Rows.uptoBulk]
  slice := fun a b => by simp only [Rows.uptoBulk]; omega
  agg := fun a => by simp only [Rows.uptoBulk]; omega
  cons := fun d r => by simp only [Rows.uptoBulkAll]; exact Nat.le_refl _

theorem own : ownKnob Try.prog.godebug = none := by kernel_rfl
theorem laid : laidOutB Try.prog = true := by kernel_rfl
theorem law (v : valsA quoinlaw20_TypingOver_A) (hw : wfA quoinlaw20_TypingOver_A v) (hb : bulkA quoinlaw20_TypingOver_A v ≤ 1048576) : quoinlaw20_TypingOver_R (mkA quoinlaw20_TypingOver_A v) (fun r _ => r = .one (.v .bool true)) := over_law v hw hb
set_option maxRecDepth 100000 in
theorem contract (H : Type) (enc : TypeId × Value → H) (W : World) (base : Nat) (args : Array Value) (ds gs : List (DataW H)) (before : List MemPlace)
    (hval : ∀ (j : Nat) t v, Try.f6.params[j]? = some t → args[j]? = some v → Value.okWide Try.prog W .any base t v)
    (hW : DataW.Whole enc Try.prog Try.f6.params.toList Rows.typingOverSpec.vars false W args.toList ds gs before) (hk : Rows.uptoSmall H (ds ++ gs) = true) :
    Calls Try.prog 6 args W fun e W' => ∃ v, e = .returned v ∧ Rows.typingOverSpec.post enc Try.prog Try.f6 false true false false W args v W' :=
  law_contract tb_ok (fn := Try.f6) (by kernel_rfl) (by kernel_rfl) (l := quoinlaw20_TypingOver_A) quoinlaw20_TypingOver_ok (by kernel_rfl) (by kernel_rfl) laid (rt := 4) (by kernel_rfl) (by kernel_rfl) bulks (s := Rows.typingOverSpec) rfl (N := 1048576)
    (fun ds hd => by match ds, hd with | [x0, x1, x2], _ => rfl) law hval hW (of_decide_eq_true hk)

set_option maxRecDepth 100000 in
theorem lifted (os : Os) (started : os.Started) (H : Type) (enc : TypeId × Value → H) (F : Stop.Interp) :
    ReturnsInHanded {} Try.checked os 6 .any ((Rows.OpenSpec.upto Rows.typingOverSpec).pre6 enc Try.prog Try.f6 Rows.typingOverUptoRow.domain false) (((Rows.OpenSpec.upto Rows.typingOverSpec).at F).post enc Try.prog Try.f6 false true false false) := by
  refine returnsInHanded_of_cond (C := Try.checked) (s := Rows.OpenSpec.upto Rows.typingOverSpec) (k := Rows.uptoSmall) rfl own started (by kernel_rfl) Try.func6
    (OpenSpec.witness (enc := enc) (C := Try.checked) (s := Rows.OpenSpec.upto Rows.typingOverSpec) (k := Rows.uptoSmall) rfl false ⟨#[], #[.slice none 0 0, .int .i64 0, .slice none 0 0], []⟩ 8 (by kernel_rfl) (by kernel_rfl) (by kernel_rfl)
      (x := ([.nil, .lit (.int .i64 0), .nil], [], [])) (by kernel_rfl) rfl (by kernel_rfl)) ?_
  intro W base args ds gs before hval hW _ hk _
  exact contract H enc W base args ds gs before hval hW hk

theorem proved : Rows.TypingOverUptoSaid :=
  OpenClaim.holds_of_cond 6 Try.f6 rfl rfl rfl rfl rfl rfl rfl ⟨rfl, rfl, rfl, rfl, rfl⟩ rfl rfl rfl rfl rfl (by kernel_rfl) Try.func6 (by kernel_rfl)
    (of_decide_eq_true (by kernel_rfl)) (by unfold Func.isWrapper; first | (rw [if_pos (by decide +kernel)]; kernel_rfl) | (rw [if_neg (by decide +kernel)]; exact ⟨rfl, rfl⟩))
    (fun os started H enc _ F => lifted os started H enc F)
end Go.Proofs.Ytdmgfabppaffkaa.typingOver
