/- TypingFinished: whatever the input, up to the bulk that the statement names, the law answers true, and what was handed in reads as it did. Its conditions: the bound of the given statement, no other. -/
import Derived.Test.YtdmgfabppaffkabF15
import Derived.Test.YtdmgfabppaffkabRows
import Derived.WalkKit
import Derived.ProofKit
import Derived.OpenShut
import Derived.JoinedCond
set_option linter.unusedVariables false
set_option linter.unusedSectionVars false
set_option linter.unusedSimpArgs false
namespace Go.Proofs.Ytdmgfabppaffkab.typingFinished
open Go.ChangeShapes Go.WideShapes Go.ChangeAt Go.RowKit Go.VE

theorem bulks {H : Type} : BulkFn (H := H) Rows.uptoBulk Rows.uptoBulkAll where
  str := fun b => by simp [Rows.uptoBulk]
  lit := fun l => by cases l <;> simp [Rows.uptoBulk]
  nil := by simp [Rows.uptoBulk]
  slice := fun a b => by simp only [Rows.uptoBulk]; omega
  agg := fun a => by simp only [Rows.uptoBulk]; omega
  cons := fun d r => by simp only [Rows.uptoBulkAll]; exact Nat.le_refl _

theorem own : ownKnob Try.prog.godebug = none := by kernel_rfl
theorem laid : laidOutB Try.prog = true := by kernel_rfl
theorem law (v : valsA quoinlaw20_TypingFinished_A) (hw : wfA quoinlaw20_TypingFinished_A v) (hb : bulkA quoinlaw20_TypingFinished_A v ≤ 1048576) : quoinlaw20_TypingFinished_R (mkA quoinlaw20_TypingFinished_A v) (fun r _ => r = .one (.v .bool true)) := Go.VE.finished_law v hw hb
set_option maxRecDepth 100000 in
theorem contract (H : Type) (enc : TypeId × Value → H) (W : World) (base : Nat) (args : Array Value) (ds gs : List (DataW H)) (before : List MemPlace)
    (hval : ∀ (j : Nat) t v, Try.f3.params[j]? = some t → args[j]? = some v → Value.okWide Try.prog W .any base t v)
    (hW : DataW.Whole enc Try.prog Try.f3.params.toList Rows.typingFinishedSpec.vars false W args.toList ds gs before) (hk : Rows.uptoSmall H (ds ++ gs) = true) :
    Calls Try.prog 3 args W fun e W' => ∃ v, e = .returned v ∧ Rows.typingFinishedSpec.post enc Try.prog Try.f3 false true false false W args v W' :=
  law_contract tb_ok (fn := Try.f3) (by kernel_rfl) (by kernel_rfl) (l := quoinlaw20_TypingFinished_A) quoinlaw20_TypingFinished_ok (by kernel_rfl) (by kernel_rfl) laid (rt := 4) (by kernel_rfl) (by kernel_rfl) bulks (s := Rows.typingFinishedSpec) rfl (N := 1048576)
    (fun ds hd => by match ds, hd with | [x0, x1], _ => rfl) law trivial hval hW (of_decide_eq_true hk)

set_option maxRecDepth 100000 in
theorem lifted (os : Os) (started : os.Started) (H : Type) (enc : TypeId × Value → H) (F : Stop.Interp) :
    ReturnsInHanded {} Try.checked os 3 .any ((Rows.OpenSpec.upto Rows.typingFinishedSpec).pre6 enc Try.prog Try.f3 Rows.typingFinishedUptoRow.domain false) (((Rows.OpenSpec.upto Rows.typingFinishedSpec).at F).post enc Try.prog Try.f3 false true false false) := by
  refine returnsInHanded_of_cond (C := Try.checked) (s := Rows.OpenSpec.upto Rows.typingFinishedSpec) (k := Rows.uptoSmall) rfl own started (by kernel_rfl) Try.func3
    (OpenSpec.witness (enc := enc) (C := Try.checked) (s := Rows.OpenSpec.upto Rows.typingFinishedSpec) (k := Rows.uptoSmall) rfl false ⟨#[], #[.slice none 0 0, .agg #[.int .u8 0, .int .i64 0, .slice none 0 0, .int .i64 0, .int .i64 0]], []⟩ 8 (by kernel_rfl) (by kernel_rfl) (by kernel_rfl)
      (x := ([.nil, .agg [.lit (.int .u8 0), .lit (.int .i64 0), .nil, .lit (.int .i64 0), .lit (.int .i64 0)]], [], [])) (by kernel_rfl) rfl (by kernel_rfl)) ?_
  intro W base args ds gs before hval hW _ hk _
  exact contract H enc W base args ds gs before hval hW hk

theorem proved : Rows.TypingFinishedUptoSaid :=
  OpenClaim.holds_of_cond 3 Try.f3 rfl rfl rfl rfl rfl rfl rfl ⟨rfl, rfl, rfl, rfl, rfl⟩ rfl rfl rfl rfl rfl (by kernel_rfl) Try.func3 (by kernel_rfl)
    (of_decide_eq_true (by kernel_rfl)) (by unfold Func.isWrapper; first | (rw [if_pos (by decide +kernel)]; kernel_rfl) | (rw [if_neg (by decide +kernel)]; exact ⟨rfl, rfl⟩))
    (fun os started H enc _ F => lifted os started H enc F)
end Go.Proofs.Ytdmgfabppaffkab.typingFinished
