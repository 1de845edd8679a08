import Derived.Test.YtogkdhgjefiipaaGreatDoorES18
import Derived.Test.YtogkdhgjefiipaaGreatDoorCards
import Derived.Test.YtogkdhgjefiipaaGreatDoorTie
import Derived.WalkKit
import Derived.ProofKit
import Derived.OpenShut
import Derived.JoinedCond
import Derived.Deep.DeepHandedRow
import Derived.Lib.LaidTab
import Derived.Lib.LaidU8T
import Derived.Shelf.Vars
import Derived.Stop.LaidErr
set_option linter.unusedVariables false
set_option linter.unusedSectionVars false
set_option linter.unusedSimpArgs false
namespace Go.VE
open Go Go.Proofs
def tbp:Tab:=[(3,⟨.int .i64,0,[],8⟩),(4,⟨.bool,0,[],1⟩),(5,⟨.int .u8,0,[],1⟩),(9,⟨.str,0,[],16⟩),(22,⟨.sl (.int .u8),5,[],24⟩),(25,⟨.st (.pair (.int .u8) (.pair (.int .i64) (.pair (.int .u8) (.pair (.sl (.int .u8)) (.pair (.int .i64) (.bool)))))),0,[],64⟩),(27,⟨.st (.pair tyA (.pair tyA (.pair (.bool) (.pair (.str) (.pair tyA (.pair (.int .u8) (.pair (.int .i64) (.pair (.sl (.int .u8)) (.pair (.sl (.int .u8)) (.bool)))))))))),0,[],288⟩)]
theorem e7Z:o4 Tryz.prog tbp 3 ⟨.int .i64,0,[],8⟩:=o4.ofInt (by kernel_rfl) (by kernel_rfl) rfl
theorem e70:o4 Tryz.prog tbp 4 ⟨.bool,0,[],1⟩:=o4.ofBool (by kernel_rfl) (by kernel_rfl) rfl
theorem e71:o4 Tryz.prog tbp 5 ⟨.int .u8,0,[],1⟩:=o4.ofInt (by kernel_rfl) (by kernel_rfl) rfl
theorem e72:o4 Tryz.prog tbp 9 ⟨.str,0,[],16⟩:=o4.ofStr (by kernel_rfl) (by kernel_rfl) rfl
theorem e7U:o4 Tryz.prog tbp 22 ⟨.sl (.int .u8),5,[],24⟩:=o4.ofSl (by kernel_rfl) (by kernel_rfl) rfl (by kernel_rfl)
theorem e7V:o4 Tryz.prog tbp 25 ⟨.st (.pair (.int .u8) (.pair (.int .i64) (.pair (.int .u8) (.pair (.sl (.int .u8)) (.pair (.int .i64) (.bool)))))),0,[],64⟩:=o4.ofSt (c:=6) (by kernel_rfl) (by kernel_rfl) (by kernel_rfl) rfl (by kernel_rfl)
theorem e7W:o4 Tryz.prog tbp 27 ⟨.st (.pair tyA (.pair tyA (.pair (.bool) (.pair (.str) (.pair tyA (.pair (.int .u8) (.pair (.int .i64) (.pair (.sl (.int .u8)) (.pair (.sl (.int .u8)) (.bool)))))))))),0,[],288⟩:=o4.ofSt (c:=25) (by kernel_rfl) (by kernel_rfl) (by kernel_rfl) rfl (by kernel_rfl)
theorem e75:q9 Tryz.prog tbp:=q9.of (all_cons e7Z (all_cons e70 (all_cons e71 (all_cons e72 (all_cons e7U (all_cons e7V (all_cons e7W (b9C))))))))
end Go.VE
namespace Go.Proofs.YtogkdhgjefiipaaGreatDoor.exlineSpells
open Go.ChangeShapes Go.WideShapes Go.ChangeAt Go.RowKit Go.VE
theorem e76 {H:Type}:a5v (H:=H) Rows.uptoBulk Rows.uptoBulkAll where
 str:=fun b=>by simp [Rows.uptoBulk]
 lit:=fun l=>by cases l <;> simp [Rows.uptoBulk]
 nil:=by simp [Rows.uptoBulk]
 slice:=fun a b=>by simp only [Rows.uptoBulk]; omega
 agg:=fun a=>by simp only [Rows.uptoBulk]; omega
 cons:=fun d r=>by simp only [Rows.uptoBulkAll]; exact Nat.le_refl _
theorem own:ownKnob Tryz.prog.godebug=none:=by kernel_rfl
theorem e7Y:laidOutB Tryz.prog=true:=by kernel_rfl
set_option maxRecDepth 100000 in
theorem law (v:j3 b1C) (hw:wfA b1C v) (hb:a5Q b1C v≤1048576):e36 (mkA b1C v) (fun r _=>r=.one (.v .bool true)):=Go.VE.spells_law v hw hb
theorem e7X : Tryz.prog.globalNamed "internal/strconv.uint64pow10" = some 1 := by kernel_rfl
theorem e7S:(Tryz.prog.globals[1]?).map (·.type)=some 278:=by kernel_rfl
theorem e8a:(Rows.laid_internal_strconv_uint64pow10:DataW Unit)=Lib.tabData .u64 Lib.pow10Tab:=by kernel_rfl
theorem e8d:Tryz.prog.underlying 278=some (.array 20 175):=by kernel_rfl
theorem e8c:Tryz.prog.underlying 175=some (.int .u64):=by kernel_rfl
theorem e77:Tryz.prog.cellsOf 175=1:=by kernel_rfl
theorem e78:Tryz.prog.cellsOf 278=20:=by kernel_rfl
theorem e8b {W : World} (h : laidMetH Tryz.prog Rows.exlineSpellsUptoRow.laid W) : Lib.TabIs Tryz.prog W "internal/strconv.uint64pow10" .u64 Lib.pow10Tab := by
 have h0:laidMet Tryz.prog Rows.exlineSpellsUptoRow.laid W:=h
 have h1 : laidMet Tryz.prog (("internal/strconv.uint64pow10", Lib.tabData .u64 Lib.pow10Tab) :: [("unicode/utf8.acceptRanges", Rows.laid_unicode_utf8_acceptRanges), ("unicode/utf8.first", Rows.laid_unicode_utf8_first)]) W := by
  rw [← e8a]; exact h0.tail.tail
 exact Lib.tabIs_of_head e7X e7S e8d e8c e77 e78 h1
theorem e79 {W : World} (h : laidMetH Tryz.prog Rows.exlineSpellsUptoRow.laid W) : ∃ g ob, Tryz.prog.globalNamed "internal/strconv.uint64pow10" = some g ∧ Old W g ∧ W.heap[g]? = some ob ∧ ∀ w' : World, w'.heap[g]? = some ob → Lib.TabIs Tryz.prog w' "internal/strconv.uint64pow10" .u64 Lib.pow10Tab := by
 have ht:=e8b h
 have hv : W.var? Tryz.prog "internal/strconv.uint64pow10" = some (Lib.pow10Tab.map fun z => Value.int .u64 z).toArray := ht
 unfold World.var? at hv
 rw [e7X] at hv
 simp only [Option.bind_some] at hv
 split at hv
 ·rename_i cs c1 c2 hh
  refine ⟨1,_,e7X,(Array.getElem?_eq_some_iff.1 hh).1,hh,fun w' hw'=>?_⟩
  show w'.var? Tryz.prog "internal/strconv.uint64pow10" = _
  unfold World.var?
  rw [e7X]
  simp only [Option.bind_some,hw']
  exact hv
 ·cases hv
set_option maxRecDepth 100000 in
theorem e7R (H:Type) (enc:TypeId×Value→H) (W:World) (base:Nat) (args:Array Value) (ds gs:List (DataW H)) (before:List MemPlace)
  (hval:∀ (j:Nat) t v,Tryz.f4.params[j]?=some t→args[j]?=some v→Value.okWide Tryz.prog W .any base t v)
  (hW:DataW.Whole enc Tryz.prog Tryz.f4.params.toList Rows.exlineSpellsSpec.vars false W args.toList ds gs before) (hL:laidMetH Tryz.prog Rows.exlineSpellsUptoRow.laid W) (hsh:W.ShapedOpen Tryz.prog) (hk:Rows.uptoSmall H (ds++gs)=true) :
  Calls Tryz.prog 4 args W fun e W'=>∃ v,e=.returned v∧Rows.exlineSpellsSpec.post enc Tryz.prog Tryz.f4 false true false false W args v W':=
 b26 e75 (fn:=Tryz.f4) (by kernel_rfl) (by kernel_rfl) (l:=b1C) e6T (by kernel_rfl) (by kernel_rfl) e7Y (rt:=4) (by kernel_rfl) (by kernel_rfl) e76 (s:=Rows.exlineSpellsSpec) rfl (N:=1048576)
  (fun ds hd=>by match ds,hd with | [x0],_=>rfl) rfl law (e79 hL) hval hW (of_decide_eq_true hk)
noncomputable def e7Q (os:Os):World:=
 {World.holding Tryz.prog os ⟨#[],#[],[]⟩ with heap:=((((((World.holding Tryz.prog os ⟨#[],#[],[]⟩).heap.modify 4 fun
   | .cells _ t frozen=>.cells #[.int .u8 0,.int .u8 1,.int .u8 28,.int .u8 2,.int .u8 29,.int .u8 14,.int .u8 24,.int .u8 3,.int .u8 30,.int .u8 22,.int .u8 20,.int .u8 15,.int .u8 25,.int .u8 17,.int .u8 4,.int .u8 8,.int .u8 31,.int .u8 27,.int .u8 13,.int .u8 23,.int .u8 21,.int .u8 19,.int .u8 16,.int .u8 7,.int .u8 26,.int .u8 12,.int .u8 18,.int .u8 6,.int .u8 11,.int .u8 5,.int .u8 10,.int .u8 9] t frozen
   | o=>o).modify 5 fun
   | .cells _ t frozen=>.cells #[.int .u8 0,.int .u8 1,.int .u8 56,.int .u8 2,.int .u8 57,.int .u8 49,.int .u8 28,.int .u8 3,.int .u8 61,.int .u8 58,.int .u8 42,.int .u8 50,.int .u8 38,.int .u8 29,.int .u8 17,.int .u8 4,.int .u8 62,.int .u8 47,.int .u8 59,.int .u8 36,.int .u8 45,.int .u8 43,.int .u8 51,.int .u8 22,.int .u8 53,.int .u8 39,.int .u8 33,.int .u8 30,.int .u8 24,.int .u8 18,.int .u8 12,.int .u8 5,.int .u8 63,.int .u8 55,.int .u8 48,.int .u8 27,.int .u8 60,.int .u8 41,.int .u8 37,.int .u8 16,.int .u8 46,.int .u8 35,.int .u8 44,.int .u8 21,.int .u8 52,.int .u8 32,.int .u8 23,.int .u8 11,.int .u8 54,.int .u8 26,.int .u8 40,.int .u8 15,.int .u8 34,.int .u8 20,.int .u8 31,.int .u8 10,.int .u8 25,.int .u8 14,.int .u8 19,.int .u8 9,.int .u8 13,.int .u8 8,.int .u8 7,.int .u8 6] t frozen
   | o=>o).modify 1 fun
   | .cells _ t frozen=>.cells #[.int .u64 1,.int .u64 10,.int .u64 100,.int .u64 1000,.int .u64 10000,.int .u64 100000,.int .u64 1000000,.int .u64 10000000,.int .u64 100000000,.int .u64 1000000000,.int .u64 10000000000,.int .u64 100000000000,.int .u64 1000000000000,.int .u64 10000000000000,.int .u64 100000000000000,.int .u64 1000000000000000,.int .u64 10000000000000000,.int .u64 100000000000000000,.int .u64 1000000000000000000,.int .u64 10000000000000000000] t frozen
   | o=>o).modify 3 fun
   | .cells _ t frozen=>.cells #[.int .u8 128,.int .u8 191,.int .u8 160,.int .u8 191,.int .u8 128,.int .u8 159,.int .u8 144,.int .u8 191,.int .u8 128,.int .u8 143,.int .u8 0,.int .u8 0,.int .u8 0,.int .u8 0,.int .u8 0,.int .u8 0,.int .u8 0,.int .u8 0,.int .u8 0,.int .u8 0,.int .u8 0,.int .u8 0,.int .u8 0,.int .u8 0,.int .u8 0,.int .u8 0,.int .u8 0,.int .u8 0,.int .u8 0,.int .u8 0,.int .u8 0,.int .u8 0] t frozen
   | o=>o).modify 2 fun
   | .cells _ t frozen=>.cells (Lib.firstTab.map fun z=>Value.int .u8 z).toArray t frozen
   | o=>o) }
theorem e7T (os:Os):laidMet Tryz.prog Rows.exlineSpellsUptoRow.laid ((e7Q os).forCall (fun _ _=>0) ⟨#[],#[.agg #[.int .u8 0,.int .i64 0,.int .u8 0,.slice none 0 0,.int .i64 0,.bool false,.int .u8 0,.int .i64 0,.int .u8 0,.slice none 0 0,.int .i64 0,.bool false,.bool false,.string .empty,.int .u8 0,.int .i64 0,.int .u8 0,.slice none 0 0,.int .i64 0,.bool false,.int .u8 0,.int .i64 0,.slice none 0 0,.slice none 0 0,.bool false]],[]⟩).memory:=
 laidMet_of_run' 8 (by kernel_rfl) (by kernel_rfl)
theorem reads (os:Os) {H:Type} (enc:TypeId×Value→H):∃ places,DataW.whole enc Tryz.prog ((e7Q os).forCall (fun _ _=>0) ⟨#[],#[.agg #[.int .u8 0,.int .i64 0,.int .u8 0,.slice none 0 0,.int .i64 0,.bool false,.int .u8 0,.int .i64 0,.int .u8 0,.slice none 0 0,.int .i64 0,.bool false,.bool false,.string .empty,.int .u8 0,.int .i64 0,.int .u8 0,.slice none 0 0,.int .i64 0,.bool false,.int .u8 0,.int .i64 0,.slice none 0 0,.slice none 0 0,.bool false]],[]⟩).memory Tryz.f4.params.toList Rows.exlineSpellsSpec.vars false (#[.agg #[.int .u8 0,.int .i64 0,.int .u8 0,.slice none 0 0,.int .i64 0,.bool false,.int .u8 0,.int .i64 0,.int .u8 0,.slice none 0 0,.int .i64 0,.bool false,.bool false,.string .empty,.int .u8 0,.int .i64 0,.int .u8 0,.slice none 0 0,.int .i64 0,.bool false,.int .u8 0,.int .i64 0,.slice none 0 0,.slice none 0 0,.bool false]]:Array Value).toList 8=some ([.agg [.agg [.lit (.int .u8 0),.lit (.int .i64 0),.lit (.int .u8 0),.nil,.lit (.int .i64 0),.lit (.bool false)],.agg [.lit (.int .u8 0),.lit (.int .i64 0),.lit (.int .u8 0),.nil,.lit (.int .i64 0),.lit (.bool false)],.lit (.bool false),.lit (.string []),.agg [.lit (.int .u8 0),.lit (.int .i64 0),.lit (.int .u8 0),.nil,.lit (.int .i64 0),.lit (.bool false)],.lit (.int .u8 0),.lit (.int .i64 0),.nil,.nil,.lit (.bool false)]],[],places):=
 ⟨[],by kernel_rfl⟩
set_option maxRecDepth 100000 in
theorem e74 (os:Os) (started:os.Started) (H:Type) (enc:TypeId×Value→H) (F:Stop.Interp) :
  ReturnsInHanded {} Tryz.checked os 4 .any ((Rows.OpenSpec.upto Rows.exlineSpellsSpec).preRow enc Tryz.prog Tryz.f4 Rows.exlineSpellsUptoRow.domain false Rows.exlineSpellsUptoRow.laid) (((Rows.OpenSpec.upto Rows.exlineSpellsSpec).at F).post enc Tryz.prog Tryz.f4 false true false false):=by
 obtain ⟨places,hx⟩:=reads os enc
 refine returnsInHanded_of_row (C:=Tryz.checked) (s:=Rows.OpenSpec.upto Rows.exlineSpellsSpec) own started (by kernel_rfl) Tryz.func4
  (witness_row_at (enc:=enc) (C:=Tryz.checked) false (e7Q os) #[.agg #[.int .u8 0,.int .i64 0,.int .u8 0,.slice none 0 0,.int .i64 0,.bool false,.int .u8 0,.int .i64 0,.int .u8 0,.slice none 0 0,.int .i64 0,.bool false,.bool false,.string .empty,.int .u8 0,.int .i64 0,.int .u8 0,.slice none 0 0,.int .i64 0,.bool false,.int .u8 0,.int .i64 0,.slice none 0 0,.slice none 0 0,.bool false]] rfl (by kernel_rfl) (by kernel_rfl) (by kernel_rfl)
   (OpenSpec.preRow_of_cond 8 hx (by kernel_rfl) (fun k hk=>by cases hk; kernel_rfl) (by kernel_rfl) (e7T os))) ?_
 intro W base args ds gs before hval hW _ hcond _ hL hsh _
 exact e7R H enc W base args ds gs before hval hW hL hsh (hcond _ rfl)
end Go.Proofs.YtogkdhgjefiipaaGreatDoor.exlineSpells
