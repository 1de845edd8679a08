import Derived.Test.YteekiicblankjaaGreatDoorSb17
import Derived.Test.YteekiicblankjaaGreatDoorCards
import Derived.WalkKit
import Derived.ProofKit
import Derived.OpenShut
import Derived.JoinedCond
import Derived.Deep.DeepHandedRow
import Derived.Deep.DeepWitnessRowRef
set_option linter.unusedVariables false
set_option linter.unusedSectionVars false
set_option linter.unusedSimpArgs false
namespace Go.VE
open Go Go.Proofs
def tbp : Tab := [(5, ⟨.int .u8, 0, [], 1⟩), (9, ⟨.str, 0, [], 16⟩), (22, ⟨.sl (.int .u8), 5, [], 24⟩)]
theorem a89 : p8 Tryz.prog tbp 5 ⟨.int .u8, 0, [], 1⟩ := p8.ofInt (by kernel_rfl) (by kernel_rfl) rfl
theorem a9a : p8 Tryz.prog tbp 9 ⟨.str, 0, [], 16⟩ := p8.ofStr (by kernel_rfl) (by kernel_rfl) rfl
theorem a8G : p8 Tryz.prog tbp 22 ⟨.sl (.int .u8), 5, [], 24⟩ := p8.ofSl (by kernel_rfl) (by kernel_rfl) rfl (by kernel_rfl)
theorem a9K : o4 Tryz.prog tbp := o4.of (all_cons a89 (all_cons a9a (all_cons a8G (a6T))))
end Go.VE
namespace Go.Proofs.YteekiicblankjaaGreatDoor.sessionBack
open Go.ChangeShapes Go.WideShapes Go.ChangeAt Go.RowKit Go.VE
theorem a9U {H : Type} : a2M (H := H) Rows.uptoBulk Rows.uptoBulkAll where
 str := fun b => by simp [Rows.uptoBulk]
 lit := fun l => by cases l <;> simp [Rows.uptoBulk]
 nil := by simp [Rows.uptoBulk]
 slice := fun a b => by simp only [Rows.uptoBulk]; omega
 agg := fun a => by simp only [Rows.uptoBulk]; omega
 cons := fun d r => by simp only [Rows.uptoBulkAll]; exact Nat.le_refl _
theorem own : ownKnob Tryz.prog.godebug = none := by kernel_rfl
theorem a8V : laidOutB Tryz.prog = true := by kernel_rfl
set_option maxRecDepth 100000 in
theorem contract (H : Type) (enc : TypeId × Value → H) (W : World) (base : Nat) (args : Array Value) (ds gs : List (DataW H)) (before : List MemPlace)
  (hval : ∀ (j : Nat) t v, Tryz.f4.params[j]? = some t → args[j]? = some v → Value.okWide Tryz.prog W .any base t v)
  (hW : DataW.Whole enc Tryz.prog Tryz.f4.params.toList Rows.sessionBackSpec.vars false W args.toList ds gs before) (hL : laidMetH Tryz.prog Rows.sessionBackUptoRow.laid W) (hsh : W.ShapedOpen Tryz.prog) (hk : Rows.uptoSmall H (ds ++ gs) = true) :
  Calls Tryz.prog 4 args W fun e W' => ∃ v, e = .returned v ∧ Rows.sessionBackSpec.post enc Tryz.prog Tryz.f4 false true false false W args v W' :=
 have hL2 : laidMet Tryz.prog a3M W ∧ handlesMet Tryz.prog [("errors.errorType", Rows.laid_errors_errorType)] W := hL
 a5z a9K (fn := Tryz.f4) (by kernel_rfl) (by kernel_rfl) (l := o6) a0P (by kernel_rfl) (by kernel_rfl) a8V (rt := 4) (by kernel_rfl) (by kernel_rfl) a9U (s := Rows.sessionBackSpec) rfl (N := 1048576)
  (fun ds hd => by match ds, hd with | [x0, x1], _ => rfl) rfl (fun v hw hb => Go.VE.back_law v hw hb) (a9Z hL2.1 hL2.2 hsh).ok hval hW (of_decide_eq_true hk)
theorem a8o (os : Os) : laidMetH Tryz.prog Rows.sessionBackUptoRow.laid ((a1d os).forCall (fun _ _ => 0) ⟨#[], #[.slice none 0 0, .string .empty], []⟩).memory :=
 laidMetH_of_parts (a6E os _) (by kernel_rfl)
theorem reads (os : Os) {H : Type} (enc : TypeId × Value → H) : ∃ places, DataW.whole enc Tryz.prog ((a1d os).forCall (fun _ _ => 0) ⟨#[], #[.slice none 0 0, .string .empty], []⟩).memory Tryz.f4.params.toList Rows.sessionBackSpec.vars false (#[.slice none 0 0, .string .empty] : Array Value).toList 8 = some ([.nil, .lit (.string [])], [], places) :=
 ⟨[], by kernel_rfl⟩
set_option maxRecDepth 100000 in
theorem lifted (os : Os) (started : os.Started) (H : Type) (enc : TypeId × Value → H) (F : Stop.Interp) :
  ReturnsInHanded {} Tryz.checked os 4 .any ((Rows.OpenSpec.upto Rows.sessionBackSpec).preRow enc Tryz.prog Tryz.f4 Rows.sessionBackUptoRow.domain false Rows.sessionBackUptoRow.laid) (((Rows.OpenSpec.upto Rows.sessionBackSpec).at F).post enc Tryz.prog Tryz.f4 false true false false) := by
 obtain ⟨places, hx⟩ := reads os enc
 refine returnsInHanded_of_row (C := Tryz.checked) (s := Rows.OpenSpec.upto Rows.sessionBackSpec) own started (by kernel_rfl) Tryz.func4
  (witness_row_atRef (enc := enc) (C := Tryz.checked) false (a1d os) #[.slice none 0 0, .string .empty] rfl (by kernel_rfl) (by kernel_rfl) (by kernel_rfl)
   (OpenSpec.preRow_of_cond 8 hx (by kernel_rfl) (fun k hk => by cases hk; kernel_rfl) (by kernel_rfl) (a8o os))) ?_
 intro W base args ds gs before hval hW _ hcond _ hL hsh _
 exact contract H enc W base args ds gs before hval hW hL hsh (hcond _ rfl)
end Go.Proofs.YteekiicblankjaaGreatDoor.sessionBack
