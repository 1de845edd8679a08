/- ExlineSpells: whatever the input, up to the bulk that the statement names, the law answers true, and what was handed in reads as it did. Its conditions: the bound of the given statement and the tables that its card ties, no other. -/
import Derived.Test.YtogkdhgjefiipaaGreatDoorES18
import Derived.Test.YtogkdhgjefiipaaGreatDoorCards
import Derived.Test.YtogkdhgjefiipaaGreatDoorTie
import Derived.WalkKit
import Derived.ProofKit
import Derived.OpenShut
import Derived.JoinedCond
import Derived.Deep.DeepHandedRow
import Derived.Lib.LaidTab
import Derived.Lib.LaidU8T
import Derived.Shelf.Vars
import Derived.Stop.LaidErr
set_option linter.unusedVariables false
set_option linter.unusedSectionVars false
set_option linter.unusedSimpArgs false
namespace Go.VE
open Go Go.Proofs
def tbp:Tab:=[(3,⟨.int .i64,0,[],8⟩),(4,⟨.bool,0,[],1⟩),(5,⟨.int .u8,0,[],1⟩),(9,⟨.str,0,[],16⟩),(22,⟨.sl (.int .u8),5,[],24⟩),(25,⟨.st (.pair (.int .u8) (.pair (.int .i64) (.pair (.int .u8) (.pair (.sl (.int .u8)) (.pair (.int .i64) (.bool)))))),0,[],64⟩),(27,⟨.st (.pair tyA (.pair tyA (.pair (.bool) (.pair (.str) (.pair tyA (.pair (.int .u8) (.pair (.int .i64) (.pair (.sl (.int .u8)) (.pair (.sl (.int .u8)) (.bool)))))))))),0,[],288⟩)]
theorem tbpty_3:o4 Tryz.prog tbp 3 ⟨.int .i64,0,[],8⟩:=o4.ofInt (by kernel_rfl) (by kernel_rfl) rfl
theorem tbpty_4:o4 Tryz.prog tbp 4 ⟨.bool,0,[],1⟩:=o4.ofBool (by kernel_rfl) (by kernel_rfl) rfl
theorem tbpty_5:o4 Tryz.prog tbp 5 ⟨.int .u8,0,[],1⟩:=o4.ofInt (by kernel_rfl) (by kernel_rfl) rfl
theorem tbpty_9:o4 Tryz.prog tbp 9 ⟨.str,0,[],16⟩:=o4.ofStr (by kernel_rfl) (by kernel_rfl) rfl
theorem tbpty_22:o4 Tryz.prog tbp 22 ⟨.sl (.int .u8),5,[],24⟩:=o4.ofSl (by kernel_rfl) (by kernel_rfl) rfl (by kernel_rfl)
theorem tbpty_25:o4 Tryz.prog tbp 25 ⟨.st (.pair (.int .u8) (.pair (.int .i64) (.pair (.int .u8) (.pair (.sl (.int .u8)) (.pair (.int .i64) (.bool)))))),0,[],64⟩:=o4.ofSt (c:=6) (by kernel_rfl) (by kernel_rfl) (by kernel_rfl) rfl (by kernel_rfl)
theorem tbpty_27:o4 Tryz.prog tbp 27 ⟨.st (.pair tyA (.pair tyA (.pair (.bool) (.pair (.str) (.pair tyA (.pair (.int .u8) (.pair (.int .i64) (.pair (.sl (.int .u8)) (.pair (.sl (.int .u8)) (.bool)))))))))),0,[],288⟩:=o4.ofSt (c:=25) (by kernel_rfl) (by kernel_rfl) (by kernel_rfl) rfl (by kernel_rfl)
theorem tbp_ok:q9 Tryz.prog tbp:=q9.of (all_cons tbpty_3 (all_cons tbpty_4 (all_cons tbpty_5 (all_cons tbpty_9 (all_cons tbpty_22 (all_cons tbpty_25 (all_cons tbpty_27 (b9C))))))))
end Go.VE
namespace Go.Proofs.YtogkdhgjefiipaaGreatDoor.exlineSpells
open Go.ChangeShapes Go.WideShapes Go.ChangeAt Go.RowKit Go.VE
theorem bulks {H:Type}:a5v (H:=H) Rows.uptoBulk Rows.uptoBulkAll where
 str:=fun b=>by simp [Rows.uptoBulk]
 lit:=fun l=>by cases l <;> simp [Rows.uptoBulk]
 nil:=by simp [Rows.uptoBulk]
 slice:=fun a b=>by simp only [Rows.uptoBulk]; omega
 agg:=fun a=>by simp only [Rows.uptoBulk]; omega
 cons:=fun d r=>by simp only [Rows.uptoBulkAll]; exact Nat.le_refl _
theorem own:ownKnob Tryz.prog.godebug=none:=by kernel_rfl
theorem laidOut:laidOutB Tryz.prog=true:=by kernel_rfl
set_option maxRecDepth 100000 in
theorem law (v:j3 b1C) (hw:wfA b1C v) (hb:a5Q b1C v≤1048576):e36 (mkA b1C v) (fun r _=>r=.one (.v .bool true)):=Go.VE.spells_law v hw hb
theorem gTab : Tryz.prog.globalNamed "internal/strconv.uint64pow10" = some 1 := by kernel_rfl
theorem gTabType:(Tryz.prog.globals[1]?).map (·.type)=some 278:=by kernel_rfl
theorem tabEq:(Rows.laid_internal_strconv_uint64pow10:DataW Unit)=Lib.tabData .u64 Lib.pow10Tab:=by kernel_rfl
theorem undT:Tryz.prog.underlying 278=some (.array 20 175):=by kernel_rfl
theorem undE:Tryz.prog.underlying 175=some (.int .u64):=by kernel_rfl
theorem cellE:Tryz.prog.cellsOf 175=1:=by kernel_rfl
theorem cellT:Tryz.prog.cellsOf 278=20:=by kernel_rfl
theorem table {W : World} (h : laidMetH Tryz.prog Rows.exlineSpellsUptoRow.laid W) : Lib.TabIs Tryz.prog W "internal/strconv.uint64pow10" .u64 Lib.pow10Tab := by
 have h0:laidMet Tryz.prog Rows.exlineSpellsUptoRow.laid W:=h
 have h1 : laidMet Tryz.prog (("internal/strconv.uint64pow10", Lib.tabData .u64 Lib.pow10Tab) :: [("unicode/utf8.acceptRanges", Rows.laid_unicode_utf8_acceptRanges), ("unicode/utf8.first", Rows.laid_unicode_utf8_first)]) W := by
  rw [← tabEq]; exact h0.tail.tail
 exact Lib.tabIs_of_head gTab gTabType undT undE cellE cellT h1
theorem globP {W : World} (h : laidMetH Tryz.prog Rows.exlineSpellsUptoRow.laid W) : ∃ g ob, Tryz.prog.globalNamed "internal/strconv.uint64pow10" = some g ∧ Old W g ∧ W.heap[g]? = some ob ∧ ∀ w' : World, w'.heap[g]? = some ob → Lib.TabIs Tryz.prog w' "internal/strconv.uint64pow10" .u64 Lib.pow10Tab := by
 have ht:=table h
 have hv : W.var? Tryz.prog "internal/strconv.uint64pow10" = some (Lib.pow10Tab.map fun z => Value.int .u64 z).toArray := ht
 unfold World.var? at hv
 rw [gTab] at hv
 simp only [Option.bind_some] at hv
 split at hv
 ·rename_i cs c1 c2 hh
  refine ⟨1,_,gTab,(Array.getElem?_eq_some_iff.1 hh).1,hh,fun w' hw'=>?_⟩
  show w'.var? Tryz.prog "internal/strconv.uint64pow10" = _
  unfold World.var?
  rw [gTab]
  simp only [Option.bind_some,hw']
  exact hv
 ·cases hv
set_option maxRecDepth 100000 in
theorem contract (H:Type) (enc:TypeId×Value→H) (W:World) (base:Nat) (args:Array Value) (ds gs:List (DataW H)) (before:List MemPlace)
  (hval:∀ (j:Nat) t v,Tryz.f4.params[j]?=some t→args[j]?=some v→Value.okWide Tryz.prog W .any base t v)
  (hW:DataW.Whole enc Tryz.prog Tryz.f4.params.toList Rows.exlineSpellsSpec.vars false W args.toList ds gs before) (hL:laidMetH Tryz.prog Rows.exlineSpellsUptoRow.laid W) (hsh:W.ShapedOpen Tryz.prog) (hk:Rows.uptoSmall H (ds++gs)=true) :
  Calls Tryz.prog 4 args W fun e W'=>∃ v,e=.returned v∧Rows.exlineSpellsSpec.post enc Tryz.prog Tryz.f4 false true false false W args v W':=
 b26 tbp_ok (fn:=Tryz.f4) (by kernel_rfl) (by kernel_rfl) (l:=b1C) e6T (by kernel_rfl) (by kernel_rfl) laidOut (rt:=4) (by kernel_rfl) (by kernel_rfl) bulks (s:=Rows.exlineSpellsSpec) rfl (N:=1048576)
  (fun ds hd=>by match ds,hd with | [x0],_=>rfl) rfl law (globP hL) hval hW (of_decide_eq_true hk)
noncomputable def laidWorld (os:Os):World:=
 {World.holding Tryz.prog os ⟨#[],#[],[]⟩ with heap:=((((((World.holding Tryz.prog os ⟨#[],#[],[]⟩).heap.modify 4 fun
   | .cells _ t frozen=>.cells #[.int .u8 0,.int .u8 1,.int .u8 28,.int .u8 2,.int .u8 29,.int .u8 14,.int .u8 24,.int .u8 3,.int .u8 30,.int .u8 22,.int .u8 20,.int .u8 15,.int .u8 25,.int .u8 17,.int .u8 4,.int .u8 8,.int .u8 31,.int .u8 27,.int .u8 13,.int .u8 23,.int .u8 21,.int .u8 19,.int .u8 16,.int .u8 7,.int .u8 26,.int .u8 12,.int .u8 18,.int .u8 6,.int .u8 11,.int .u8 5,.int .u8 10,.int .u8 9] t frozen
   | o=>o).modify 5 fun
   | .cells _ t frozen=>.cells #[.int .u8 0,.int .u8 1,.int .u8 56,.int .u8 2,.int .u8 57,.int .u8 49,.int .u8 28,.int .u8 3,.int .u8 61,.int .u8 58,.int .u8 42,.int .u8 50,.int .u8 38,.int .u8 29,.int .u8 17,.int .u8 4,.int .u8 62,.int .u8 47,.int .u8 59,.int .u8 36,.int .u8 45,.int .u8 43,.int .u8 51,.int .u8 22,.int .u8 53,.int .u8 39,.int .u8 33,.int .u8 30,.int .u8 24,.int .u8 18,.int .u8 12,.int .u8 5,.int .u8 63,.int .u8 55,.int .u8 48,.int .u8 27,.int .u8 60,.int .u8 41,.int .u8 37,.int .u8 16,.int .u8 46,.int .u8 35,.int .u8 44,.int .u8 21,.int .u8 52,.int .u8 32,.int .u8 23,.int .u8 11,.int .u8 54,.int .u8 26,.int .u8 40,.int .u8 15,.int .u8 34,.int .u8 20,.int .u8 31,.int .u8 10,.int .u8 25,.int .u8 14,.int .u8 19,.int .u8 9,.int .u8 13,.int .u8 8,.int .u8 7,.int .u8 6] t frozen
   | o=>o).modify 1 fun
   | .cells _ t frozen=>.cells #[.int .u64 1,.int .u64 10,.int .u64 100,.int .u64 1000,.int .u64 10000,.int .u64 100000,.int .u64 1000000,.int .u64 10000000,.int .u64 100000000,.int .u64 1000000000,.int .u64 10000000000,.int .u64 100000000000,.int .u64 1000000000000,.int .u64 10000000000000,.int .u64 100000000000000,.int .u64 1000000000000000,.int .u64 10000000000000000,.int .u64 100000000000000000,.int .u64 1000000000000000000,.int .u64 10000000000000000000] t frozen
   | o=>o).modify 3 fun
   | .cells _ t frozen=>.cells #[.int .u8 128,.int .u8 191,.int .u8 160,.int .u8 191,.int .u8 128,.int .u8 159,.int .u8 144,.int .u8 191,.int .u8 128,.int .u8 143,.int .u8 0,.int .u8 0,.int .u8 0,.int .u8 0,.int .u8 0,.int .u8 0,.int .u8 0,.int .u8 0,.int .u8 0,.int .u8 0,.int .u8 0,.int .u8 0,.int .u8 0,.int .u8 0,.int .u8 0,.int .u8 0,.int .u8 0,.int .u8 0,.int .u8 0,.int .u8 0,.int .u8 0,.int .u8 0] t frozen
   | o=>o).modify 2 fun
   | .cells _ t frozen=>.cells (Lib.firstTab.map fun z=>Value.int .u8 z).toArray t frozen
   | o=>o) }
theorem laid_met (os:Os):laidMet Tryz.prog Rows.exlineSpellsUptoRow.laid ((laidWorld os).forCall (fun _ _=>0) ⟨#[],#[.agg #[.int .u8 0,.int .i64 0,.int .u8 0,.slice none 0 0,.int .i64 0,.bool false,.int .u8 0,.int .i64 0,.int .u8 0,.slice none 0 0,.int .i64 0,.bool false,.bool false,.string .empty,.int .u8 0,.int .i64 0,.int .u8 0,.slice none 0 0,.int .i64 0,.bool false,.int .u8 0,.int .i64 0,.slice none 0 0,.slice none 0 0,.bool false]],[]⟩).memory:=
 laidMet_of_run' 8 (by kernel_rfl) (by kernel_rfl)
theorem reads (os:Os) {H:Type} (enc:TypeId×Value→H):∃ places,DataW.whole enc Tryz.prog ((laidWorld os).forCall (fun _ _=>0) ⟨#[],#[.agg #[.int .u8 0,.int .i64 0,.int .u8 0,.slice none 0 0,.int .i64 0,.bool false,.int .u8 0,.int .i64 0,.int .u8 0,.slice none 0 0,.int .i64 0,.bool false,.bool false,.string .empty,.int .u8 0,.int .i64 0,.int .u8 0,.slice none 0 0,.int .i64 0,.bool false,.int .u8 0,.int .i64 0,.slice none 0 0,.slice none 0 0,.bool false]],[]⟩).memory Tryz.f4.params.toList Rows.exlineSpellsSpec.vars false (#[.agg #[.int .u8 0,.int .i64 0,.int .u8 0,.slice none 0 0,.int .i64 0,.bool false,.int .u8 0,.int .i64 0,.int .u8 0,.slice none 0 0,.int .i64 0,.bool false,.bool false,.string .empty,.int .u8 0,.int .i64 0,.int .u8 0,.slice none 0 0,.int .i64 0,.bool false,.int .u8 0,.int .i64 0,.slice none 0 0,.slice none 0 0,.bool false]]:Array Value).toList 8=some ([.agg [.agg [.lit (.int .u8 0),.lit (.int .i64 0),.lit (.int .u8 0),.nil,.lit (.int .i64 0),.lit (.bool false)],.agg [.lit (.int .u8 0),.lit (.int .i64 0),.lit (.int .u8 0),.nil,.lit (.int .i64 0),.lit (.bool false)],.lit (.bool false),.lit (.string []),.agg [.lit (.int .u8 0),.lit (.int .i64 0),.lit (.int .u8 0),.nil,.lit (.int .i64 0),.lit (.bool false)],.lit (.int .u8 0),.lit (.int .i64 0),.nil,.nil,.lit (.bool false)]],[],places):=
 ⟨[],by kernel_rfl⟩
set_option maxRecDepth 100000 in
theorem lifted (os:Os) (started:os.Started) (H:Type) (enc:TypeId×Value→H) (F:Stop.Interp) :
  ReturnsInHanded {} Tryz.checked os 4 .any ((Rows.OpenSpec.upto Rows.exlineSpellsSpec).preRow enc Tryz.prog Tryz.f4 Rows.exlineSpellsUptoRow.domain false Rows.exlineSpellsUptoRow.laid) (((Rows.OpenSpec.upto Rows.exlineSpellsSpec).at F).post enc Tryz.prog Tryz.f4 false true false false):=by
 obtain ⟨places,hx⟩:=reads os enc
 refine returnsInHanded_of_row (C:=Tryz.checked) (s:=Rows.OpenSpec.upto Rows.exlineSpellsSpec) own started (by kernel_rfl) Tryz.func4
  (witness_row_at (enc:=enc) (C:=Tryz.checked) false (laidWorld os) #[.agg #[.int .u8 0,.int .i64 0,.int .u8 0,.slice none 0 0,.int .i64 0,.bool false,.int .u8 0,.int .i64 0,.int .u8 0,.slice none 0 0,.int .i64 0,.bool false,.bool false,.string .empty,.int .u8 0,.int .i64 0,.int .u8 0,.slice none 0 0,.int .i64 0,.bool false,.int .u8 0,.int .i64 0,.slice none 0 0,.slice none 0 0,.bool false]] rfl (by kernel_rfl) (by kernel_rfl) (by kernel_rfl)
   (OpenSpec.preRow_of_cond 8 hx (by kernel_rfl) (fun k hk=>by cases hk; kernel_rfl) (by kernel_rfl) (laid_met os))) ?_
 intro W base args ds gs before hval hW _ hcond _ hL hsh _
 exact contract H enc W base args ds gs before hval hW hL hsh (hcond _ rfl)
theorem said:Rows.ExlineSpellsUptoSaid:=
 OpenClaim.holds_of_cond 4 Tryz.f4 rfl rfl rfl rfl rfl rfl rfl ⟨rfl,rfl,rfl,rfl,rfl⟩ rfl rfl rfl rfl rfl (by kernel_rfl) Tryz.func4 (by kernel_rfl)
  (of_decide_eq_true (by kernel_rfl)) (by unfold Func.isWrapper; first | (rw [if_pos (by decide +kernel)]; kernel_rfl) | (rw [if_neg (by decide +kernel)]; exact ⟨rfl,rfl⟩))
  (fun os started H enc _ F=>by rw [OpenClaim.pre_eq_preRow]; exact lifted os started H enc F)
theorem plain (f : FuncId) (fn : Func) (hf : Tryz.pinned.checked.prog.funcNamed "quoin/quoinlaw24.ExlineSpells" = some f) (hfn : Tryz.pinned.checked.prog.funcs[f]? = some fn) :
  true=Tryz.pinned.checked.prog.looks []∧∀ (j:Nat) t,fn.params[j]?=some t→Tryz.pinned.checked.prog.wantsStandIn t=false:=by
 obtain rfl : f = 4 := Option.some.inj ((show Tryz.prog.funcNamed "quoin/quoinlaw24.ExlineSpells" = some 4 by kernel_rfl).symm.trans hf) |>.symm
 obtain rfl:fn=Tryz.f4:=(Option.some.inj (Tryz.func4.symm.trans hfn)).symm
 refine ⟨by kernel_rfl,fun j t ht=>?_⟩
 have hall:(Tryz.f4.params.toList.all fun t=>!Tryz.prog.wantsStandIn t)=true:=by kernel_rfl
 have hm:t∈Tryz.f4.params.toList:=Array.mem_toList_iff.2 (Array.mem_of_getElem? ht)
 have:=List.all_eq_true.1 hall t hm
 exact Bool.not_eq_true' _ |>.mp this
theorem proved:Rows.ExlineSpellsUptoCardSaid:=
 Claim7.holds_tied_plain_at .later [] _ _ _ _ said (fun _ h=>by cases h) (by kernel_rfl) (fun _ h=>by cases h) exlineSpellsUpto_row_tie rfl ⟨rfl,rfl⟩ (by kernel_rfl) rfl plain (by kernel_rfl)
end Go.Proofs.YtogkdhgjefiipaaGreatDoor.exlineSpells
