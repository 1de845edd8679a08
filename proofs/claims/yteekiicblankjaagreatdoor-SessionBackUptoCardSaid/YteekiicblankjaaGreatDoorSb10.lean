import Derived.Test.YteekiicblankjaaGreatDoorSb9
import Derived.Test.YteekiicblankjaaGreatDoorProg
import Derived.Lib.LaidTab
import Derived.Shelf.Strings.CaseAny
import Derived.Lib.SmallJoins
import Derived.Lib.ItoaNum
set_option linter.unusedVariables false
set_option linter.unusedSectionVars false
set_option linter.unusedSimpArgs false
namespace Go.VE
open Go Go.Proofs
/-- what start-up code lays, in the blocks ahead of all others -/
structure GF (w : World) : Prop where
 hE : w.cell? ⟨0, 0, none⟩ = some (.iface 175 (.agg #[.pointer (some ⟨9, 42, none⟩)]))
 hM : ∃ m, w.cell? ⟨1, 0, none⟩ = some (.int .i64 m)
 hC : Lib.CaseVar 2 Lib.caseA w
 hT : Lib.TabIs Tryz.prog w "internal/strconv.uint64pow10" .u64 Lib.pow10Tab
 hU : Lib.Utf8Tabs 4 5 w
theorem GF.below {w w' : World} (h : GF w) (hb : RowKit.Below w.heap.size w w') : GF w' := by
 have k : ∀ {a : Addr} {v : Value}, w.cell? a = some v → w'.cell? a = some v := fun {a v} hc => (hb.cell (World.block_lt_of_cell? w a hc)).trans hc
 exact ⟨k h.hE, h.hM.imp fun m hm => k hm, Lib.CaseVar_below h.hC hb, Go.Joins.tab_stays (g := 3) (by kernel_rfl) h.hT hb (Nat.le_refl _), Go.Proofs.Utf8Tabs_below h.hU hb⟩
instance : M9 where
 ok I w := ∃ h : Array Obj, (∀ b, b < h.size → I b ∧ w.heap[b]? = h[b]?) ∧ ∀ w0 : World, w0.heap = h → GF w0
 keep := fun hk ⟨h, h1, h2⟩ => ⟨h, fun b hb => ⟨hk.sub b (h1 b hb).1, (hk.heap b (h1 b hb).1).trans (h1 b hb).2⟩, h2⟩
theorem GF.of {I : Nat → Prop} {w : World} (h : M9.ok I w) : GF w := by
 obtain ⟨h, h1, h2⟩ := h
 refine (h2 { w with heap := h } rfl).below ⟨rfl, rfl, rfl, ?_, fun k hk => (h1 k hk).2⟩
 show h.size ≤ w.heap.size
 rcases Nat.lt_or_ge w.heap.size h.size with hl | hl
 ·have := (h1 _ hl).2
  rw [Array.getElem?_eq_none (Nat.le_refl _), Array.getElem?_eq_getElem hl] at this
  cases this
 ·exact hl
def tb : Tab := [(3, ⟨.int .i64, 0, [], 8⟩), (4, ⟨.bool, 0, [], 1⟩), (5, ⟨.int .u8, 0, [], 1⟩), (9, ⟨.str, 0, [], 16⟩), (22, ⟨.sl (.int .u8), 5, [], 24⟩), (26, ⟨.int .i64, 0, [], 8⟩), (51, ⟨.sl (.str), 9, [], 24⟩), (186, ⟨.int .u32, 0, [], 4⟩)]
theorem tb_M : Tryz.prog.follows .mixedOrders = true := by kernel_rfl
theorem b0Y : p8 Tryz.prog tb 3 ⟨.int .i64, 0, [], 8⟩ := p8.ofInt (by kernel_rfl) (by kernel_rfl) rfl
theorem b0Z : p8 Tryz.prog tb 4 ⟨.bool, 0, [], 1⟩ := p8.ofBool (by kernel_rfl) (by kernel_rfl) rfl
theorem b00 : p8 Tryz.prog tb 5 ⟨.int .u8, 0, [], 1⟩ := p8.ofInt (by kernel_rfl) (by kernel_rfl) rfl
theorem b01 : p8 Tryz.prog tb 9 ⟨.str, 0, [], 16⟩ := p8.ofStr (by kernel_rfl) (by kernel_rfl) rfl
theorem b0w : p8 Tryz.prog tb 22 ⟨.sl (.int .u8), 5, [], 24⟩ := p8.ofSl (by kernel_rfl) (by kernel_rfl) rfl (by kernel_rfl)
theorem b0x : p8 Tryz.prog tb 26 ⟨.int .i64, 0, [], 8⟩ := p8.ofInt (by kernel_rfl) (by kernel_rfl) rfl
theorem b0y : p8 Tryz.prog tb 51 ⟨.sl (.str), 9, [], 24⟩ := p8.ofSl (by kernel_rfl) (by kernel_rfl) rfl (by kernel_rfl)
theorem a9L : p8 Tryz.prog tb 186 ⟨.int .u32, 0, [], 4⟩ := p8.ofInt (by kernel_rfl) (by kernel_rfl) rfl
theorem a0p : o4 Tryz.prog tb := o4.of (all_cons b0Y (all_cons b0Z (all_cons b00 (all_cons b01 (all_cons b0w (all_cons b0x (all_cons b0y (all_cons a9L (a6T)))))))))
end Go.VE
