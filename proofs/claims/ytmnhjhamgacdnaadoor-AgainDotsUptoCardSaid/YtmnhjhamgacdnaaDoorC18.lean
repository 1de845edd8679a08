/- AgainDots: whatever the input, up to the bulk that the statement names, the law answers true, and what was handed in reads as it did. Its conditions: the bound of the given statement and the tables that its card ties, no other. -/
import Derived.Test.YtmnhjhamgacdnaaDoorC17
import Derived.Test.YtmnhjhamgacdnaaDoorCards
import Derived.Test.YtmnhjhamgacdnaaDoorTie
import Derived.WalkKit
import Derived.ProofKit
import Derived.OpenShut
import Derived.JoinedCond
import Derived.Deep.DeepHandedRow
import Derived.Lib.LaidTab
import Derived.Lib.LaidU8T
import Derived.Shelf.Vars
import Derived.Stop.LaidErr
set_option linter.unusedVariables false
set_option linter.unusedSectionVars false
set_option linter.unusedSimpArgs false
namespace Go.Proofs.YtmnhjhamgacdnaaDoor.againDots
open Go.ChangeShapes Go.WideShapes Go.ChangeAt Go.RowKit Go.VE

theorem bulks {H : Type} : BulkFn (H := H) Rows.uptoBulk Rows.uptoBulkAll where
  str := fun b => by simp [Rows.uptoBulk]
  lit := fun l => by cases l <;> simp [Rows.uptoBulk]
  nil := by simp [Rows.uptoBulk]
  slice := fun a b => by simp only [Rows.uptoBulk]; omega
  agg := fun a => by simp only [Rows.uptoBulk]; omega
  cons := fun d r => by simp only [Rows.uptoBulkAll]; exact Nat.le_refl _

theorem own : ownKnob Tryd.prog.godebug = none := by kernel_rfl
theorem laidOut : laidOutB Tryd.prog = true := by kernel_rfl
set_option maxRecDepth 100000 in
theorem law (v : valsA qa_AgainDots_A) (hw : wfA qa_AgainDots_A v) (hb : bulkA qa_AgainDots_A v ≤ 1048576) : qa_AgainDots_R (mkA qa_AgainDots_A v) (fun r _ => r = .one (.v .bool true)) := Go.VE.dots_law v hw hb
theorem gTab : Tryd.prog.globalNamed "internal/strconv.uint64pow10" = some 1 := by kernel_rfl
theorem gTabType : (Tryd.prog.globals[1]?).map (·.type) = some 189 := by kernel_rfl
theorem tabEq : (Rows.laid_internal_strconv_uint64pow10 : DataW Unit) = Lib.tabData .u64 Lib.pow10Tab := by kernel_rfl
theorem undT : Tryd.prog.underlying 189 = some (.array 20 147) := by kernel_rfl
theorem undE : Tryd.prog.underlying 147 = some (.int .u64) := by kernel_rfl
theorem cellE : Tryd.prog.cellsOf 147 = 1 := by kernel_rfl
theorem cellT : Tryd.prog.cellsOf 189 = 20 := by kernel_rfl
theorem table {W : World} (h : laidMetH Tryd.prog Rows.againDotsUptoRow.laid W) : Lib.TabIs Tryd.prog W "internal/strconv.uint64pow10" .u64 Lib.pow10Tab := by
  have h0 : laidMet Tryd.prog Rows.againDotsUptoRow.laid W := h
  have h1 : laidMet Tryd.prog (("internal/strconv.uint64pow10", Lib.tabData .u64 Lib.pow10Tab) :: [("unicode/utf8.acceptRanges", Rows.laid_unicode_utf8_acceptRanges), ("unicode/utf8.first", Rows.laid_unicode_utf8_first)]) W := by
    rw [← tabEq]; exact h0.tail.tail
  exact Lib.tabIs_of_head gTab gTabType undT undE cellE cellT h1
theorem globP {W : World} (h : laidMetH Tryd.prog Rows.againDotsUptoRow.laid W) : ∃ g ob, Tryd.prog.globalNamed "internal/strconv.uint64pow10" = some g ∧ Old W g ∧ W.heap[g]? = some ob ∧ ∀ w' : World, w'.heap[g]? = some ob → Lib.TabIs Tryd.prog w' "internal/strconv.uint64pow10" .u64 Lib.pow10Tab := by
  have ht := table h
  have hv : W.var? Tryd.prog "internal/strconv.uint64pow10" = some (Lib.pow10Tab.map fun z => Value.int .u64 z).toArray := ht
  unfold World.var? at hv
  rw [gTab] at hv
  simp only [Option.bind_some] at hv
  split at hv
  · rename_i cs c1 c2 hh
    refine ⟨1, _, gTab, (Array.getElem?_eq_some_iff.1 hh).1, hh, fun w' hw' => ?_⟩
    show w'.var? Tryd.prog "internal/strconv.uint64pow10" = _
    unfold World.var?
    rw [gTab]
    simp only [Option.bind_some, hw']
    exact hv
  · cases hv
theorem cellBlock {W : World} {g i : Nat} {v : Value} (h : W.cell? ⟨g, i, none⟩ = some v) : ∃ ob, g < W.heap.size ∧ W.heap[g]? = some ob ∧ ∀ w' : World, w'.heap[g]? = some ob → ∀ j, w'.cell? ⟨g, j, none⟩ = W.cell? ⟨g, j, none⟩ := by
  cases hh : W.heap[g]? with
  | none => simp [World.cell?, hh] at h
  | some ob => exact ⟨ob, (Array.getElem?_eq_some_iff.1 hh).1, rfl, fun w' hw' j => by simp only [World.cell?, hw', hh]⟩
theorem firstEq : (Rows.laid_unicode_utf8_first : DataW Unit) = Lib.firstData := by kernel_rfl
theorem acceptEq : (Rows.laid_unicode_utf8_acceptRanges : DataW Unit) = Lib.acceptData := by kernel_rfl
def u8ren : Go.Shelf.Ren := ⟨fun n => n, fun | 5 => 5 | 119 => 193 | 139 => 196 | 138 => 195 | n => n, fun | 3 => 2 | 4 => 3 | n => n⟩
theorem utf8s {W : World} (h : laidMetH Tryd.prog Rows.againDotsUptoRow.laid W) : Lib.Utf8Tabs 2 3 W := by
  have h0 : laidMet Tryd.prog Rows.againDotsUptoRow.laid W := h
  have h3 : Lib.VarReads Tryd.prog W "unicode/utf8.first" Rows.laid_unicode_utf8_first := Lib.laidMet.reads h0 (by simp [Rows.againDotsUptoRow])
  have h4 : Lib.VarReads Tryd.prog W "unicode/utf8.acceptRanges" Rows.laid_unicode_utf8_acceptRanges := Lib.laidMet.reads h0 (by simp [Rows.againDotsUptoRow])
  rw [firstEq] at h3
  rw [acceptEq] at h4
  exact utf8Tabs_of_readsT (ρ := u8ren) ⟨by kernel_rfl, by kernel_rfl, by kernel_rfl, by kernel_rfl⟩ ⟨by kernel_rfl, by kernel_rfl, by kernel_rfl, by kernel_rfl, by kernel_rfl, by kernel_rfl, by kernel_rfl⟩ h3 h4
theorem glob {W : World} (h : laidMetH Tryd.prog Rows.againDotsUptoRow.laid W) (hs : W.ShapedOpen Tryd.prog) : Glob.ok (Old W) W := by
  refine ⟨?_, ?_, globP h⟩
  · obtain ⟨m, hm⟩ := cell_of_shapedOpen_int (zero := #[.int .i64 0]) (t := 3) (g := 0) hs (of_decide_eq_true (by kernel_rfl)) (by kernel_rfl) rfl (by kernel_rfl) (by kernel_rfl) Tryd.underlying3
    obtain ⟨ob, hl, hh, hw⟩ := cellBlock hm
    exact ⟨ob, m, hl, hh, fun w' hw' => (hw w' hw' 0).trans hm⟩
  · have hT := utf8s h
    obtain ⟨o2, l2, h2, w2⟩ := cellBlock (hT.1 0 (by decide))
    obtain ⟨o3, l3, h3, w3⟩ := cellBlock (hT.2 0 (by decide)).1
    exact ⟨o2, o3, l2, l3, h2, h3, fun w' a b => ⟨fun c hc => (w2 w' a c).trans (hT.1 c hc), fun i hi => ⟨(w3 w' b _).trans (hT.2 i hi).1, (w3 w' b _).trans (hT.2 i hi).2⟩⟩⟩
set_option maxRecDepth 100000 in
theorem contract (H : Type) (enc : TypeId × Value → H) (W : World) (base : Nat) (args : Array Value) (ds gs : List (DataW H)) (before : List MemPlace)
    (hval : ∀ (j : Nat) t v, Tryd.f4.params[j]? = some t → args[j]? = some v → Value.okWide Tryd.prog W .any base t v)
    (hW : DataW.Whole enc Tryd.prog Tryd.f4.params.toList Rows.againDotsSpec.vars false W args.toList ds gs before) (hL : laidMetH Tryd.prog Rows.againDotsUptoRow.laid W) (hsh : W.ShapedOpen Tryd.prog) (hk : Rows.uptoSmall H (ds ++ gs) = true) :
    Calls Tryd.prog 4 args W fun e W' => ∃ v, e = .returned v ∧ Rows.againDotsSpec.post enc Tryd.prog Tryd.f4 false true false false W args v W' :=
  law_contract tb_ok (fn := Tryd.f4) (by kernel_rfl) (by kernel_rfl) (l := qa_AgainDots_A) qa_AgainDots_ok (by kernel_rfl) (by kernel_rfl) laidOut (rt := 4) (by kernel_rfl) (by kernel_rfl) bulks (s := Rows.againDotsSpec) rfl (N := 1048576)
    (fun ds hd => by match ds, hd with | [x0], _ => rfl) law (glob hL hsh) hval hW (of_decide_eq_true hk)

noncomputable def laidWorld (os : Os) : World :=
  { World.holding Tryd.prog os ⟨#[], #[], []⟩ with heap := ((((((World.holding Tryd.prog os ⟨#[], #[], []⟩).heap.modify 4 fun
      | .cells _ t frozen => .cells #[.int .u8 0, .int .u8 1, .int .u8 28, .int .u8 2, .int .u8 29, .int .u8 14, .int .u8 24, .int .u8 3, .int .u8 30, .int .u8 22, .int .u8 20, .int .u8 15, .int .u8 25, .int .u8 17, .int .u8 4, .int .u8 8, .int .u8 31, .int .u8 27, .int .u8 13, .int .u8 23, .int .u8 21, .int .u8 19, .int .u8 16, .int .u8 7, .int .u8 26, .int .u8 12, .int .u8 18, .int .u8 6, .int .u8 11, .int .u8 5, .int .u8 10, .int .u8 9] t frozen
      | o => o).modify 5 fun
      | .cells _ t frozen => .cells #[.int .u8 0, .int .u8 1, .int .u8 56, .int .u8 2, .int .u8 57, .int .u8 49, .int .u8 28, .int .u8 3, .int .u8 61, .int .u8 58, .int .u8 42, .int .u8 50, .int .u8 38, .int .u8 29, .int .u8 17, .int .u8 4, .int .u8 62, .int .u8 47, .int .u8 59, .int .u8 36, .int .u8 45, .int .u8 43, .int .u8 51, .int .u8 22, .int .u8 53, .int .u8 39, .int .u8 33, .int .u8 30, .int .u8 24, .int .u8 18, .int .u8 12, .int .u8 5, .int .u8 63, .int .u8 55, .int .u8 48, .int .u8 27, .int .u8 60, .int .u8 41, .int .u8 37, .int .u8 16, .int .u8 46, .int .u8 35, .int .u8 44, .int .u8 21, .int .u8 52, .int .u8 32, .int .u8 23, .int .u8 11, .int .u8 54, .int .u8 26, .int .u8 40, .int .u8 15, .int .u8 34, .int .u8 20, .int .u8 31, .int .u8 10, .int .u8 25, .int .u8 14, .int .u8 19, .int .u8 9, .int .u8 13, .int .u8 8, .int .u8 7, .int .u8 6] t frozen
      | o => o).modify 1 fun
      | .cells _ t frozen => .cells #[.int .u64 1, .int .u64 10, .int .u64 100, .int .u64 1000, .int .u64 10000, .int .u64 100000, .int .u64 1000000, .int .u64 10000000, .int .u64 100000000, .int .u64 1000000000, .int .u64 10000000000, .int .u64 100000000000, .int .u64 1000000000000, .int .u64 10000000000000, .int .u64 100000000000000, .int .u64 1000000000000000, .int .u64 10000000000000000, .int .u64 100000000000000000, .int .u64 1000000000000000000, .int .u64 10000000000000000000] t frozen
      | o => o).modify 3 fun
      | .cells _ t frozen => .cells #[.int .u8 128, .int .u8 191, .int .u8 160, .int .u8 191, .int .u8 128, .int .u8 159, .int .u8 144, .int .u8 191, .int .u8 128, .int .u8 143, .int .u8 0, .int .u8 0, .int .u8 0, .int .u8 0, .int .u8 0, .int .u8 0, .int .u8 0, .int .u8 0, .int .u8 0, .int .u8 0, .int .u8 0, .int .u8 0, .int .u8 0, .int .u8 0, .int .u8 0, .int .u8 0, .int .u8 0, .int .u8 0, .int .u8 0, .int .u8 0, .int .u8 0, .int .u8 0] t frozen
      | o => o).modify 2 fun
      | .cells _ t frozen => .cells (Lib.firstTab.map fun z => Value.int .u8 z).toArray t frozen
      | o => o) }
theorem laid_met (os : Os) : laidMet Tryd.prog Rows.againDotsUptoRow.laid ((laidWorld os).forCall (fun _ _ => 0) ⟨#[], #[.agg #[.bool false, .int .u8 0, .int .i64 0, .slice none 0 0]], []⟩).memory :=
  laidMet_of_run' 8 (by kernel_rfl) (by kernel_rfl)
theorem reads (os : Os) {H : Type} (enc : TypeId × Value → H) : ∃ places, DataW.whole enc Tryd.prog ((laidWorld os).forCall (fun _ _ => 0) ⟨#[], #[.agg #[.bool false, .int .u8 0, .int .i64 0, .slice none 0 0]], []⟩).memory Tryd.f4.params.toList Rows.againDotsSpec.vars false (#[.agg #[.bool false, .int .u8 0, .int .i64 0, .slice none 0 0]] : Array Value).toList 8 = some ([.agg [.lit (.bool false), .lit (.int .u8 0), .lit (.int .i64 0), .nil]], [], places) :=
  ⟨[], by kernel_rfl⟩
set_option maxRecDepth 100000 in
theorem lifted (os : Os) (started : os.Started) (H : Type) (enc : TypeId × Value → H) (F : Stop.Interp) :
    ReturnsInHanded {} Tryd.checked os 4 .any ((Rows.OpenSpec.upto Rows.againDotsSpec).preRow enc Tryd.prog Tryd.f4 Rows.againDotsUptoRow.domain false Rows.againDotsUptoRow.laid) (((Rows.OpenSpec.upto Rows.againDotsSpec).at F).post enc Tryd.prog Tryd.f4 false true false false) := by
  obtain ⟨places, hx⟩ := reads os enc
  refine returnsInHanded_of_row (C := Tryd.checked) (s := Rows.OpenSpec.upto Rows.againDotsSpec) own started (by kernel_rfl) Tryd.func4
    (witness_row_at (enc := enc) (C := Tryd.checked) false (laidWorld os) #[.agg #[.bool false, .int .u8 0, .int .i64 0, .slice none 0 0]] rfl (by kernel_rfl) (by kernel_rfl) (by kernel_rfl)
      (OpenSpec.preRow_of_cond 8 hx (by kernel_rfl) (fun k hk => by cases hk; kernel_rfl) (by kernel_rfl) (laid_met os))) ?_
  intro W base args ds gs before hval hW _ hcond _ hL hsh _
  exact contract H enc W base args ds gs before hval hW hL hsh (hcond _ rfl)
theorem said : Rows.AgainDotsUptoSaid :=
  OpenClaim.holds_of_cond 4 Tryd.f4 rfl rfl rfl rfl rfl rfl rfl ⟨rfl, rfl, rfl, rfl, rfl⟩ rfl rfl rfl rfl rfl (by kernel_rfl) Tryd.func4 (by kernel_rfl)
    (of_decide_eq_true (by kernel_rfl)) (by unfold Func.isWrapper; first | (rw [if_pos (by decide +kernel)]; kernel_rfl) | (rw [if_neg (by decide +kernel)]; exact ⟨rfl, rfl⟩))
    (fun os started H enc _ F => by rw [OpenClaim.pre_eq_preRow]; exact lifted os started H enc F)
theorem plain (f : FuncId) (fn : Func) (hf : Tryd.pinned.checked.prog.funcNamed "quoin/quoinlaw22.AgainDots" = some f) (hfn : Tryd.pinned.checked.prog.funcs[f]? = some fn) :
    false = Tryd.pinned.checked.prog.looks [] ∧ ∀ (j : Nat) t, fn.params[j]? = some t → Tryd.pinned.checked.prog.wantsStandIn t = false := by
  obtain rfl : f = 4 := Option.some.inj ((show Tryd.prog.funcNamed "quoin/quoinlaw22.AgainDots" = some 4 by kernel_rfl).symm.trans hf) |>.symm
  obtain rfl : fn = Tryd.f4 := (Option.some.inj (Tryd.func4.symm.trans hfn)).symm
  refine ⟨by kernel_rfl, fun j t ht => ?_⟩
  have hall : (Tryd.f4.params.toList.all fun t => !Tryd.prog.wantsStandIn t) = true := by kernel_rfl
  have hm : t ∈ Tryd.f4.params.toList := Array.mem_toList_iff.2 (Array.mem_of_getElem? ht)
  have := List.all_eq_true.1 hall t hm
  exact Bool.not_eq_true' _ |>.mp this
theorem proved : Rows.AgainDotsUptoCardSaid :=
  Claim7.holds_tied_plain_at .later [] _ _ _ _ said (fun _ h => by cases h) (by kernel_rfl) (fun _ h => by cases h) againDotsUpto_row_tie rfl ⟨rfl, rfl⟩ (by kernel_rfl) rfl plain (by kernel_rfl)
end Go.Proofs.YtmnhjhamgacdnaaDoor.againDots
