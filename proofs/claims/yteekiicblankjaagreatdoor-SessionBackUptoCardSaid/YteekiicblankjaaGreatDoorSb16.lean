import Derived.Test.YteekiicblankjaaGreatDoorSb15
import Derived.Test.YteekiicblankjaaGreatDoorRows
import Derived.Lib.LaidTab
import Derived.Lib.LaidU8T
import Derived.Lib.LaidCase
import Derived.LaidHandle
import Derived.Stop.LaidErr
import Derived.Shelf.Vars
import Derived.RowKitTokens
set_option linter.unusedVariables false
set_option linter.unusedSectionVars false
set_option linter.unusedSimpArgs false
namespace Go.VE
open Go
theorem GF.heap {w w0 : World} (e : w0.heap = w.heap) (h : GF w) : GF w0 := by
 obtain ⟨H, t, d, os, o⟩ := w
 obtain ⟨H0, t0, d0, os0, o0⟩ := w0
 dsimp only at e
 subst e
 exact ⟨h.hE, h.hM, h.hC, h.hT, h.hU⟩
theorem GF.ok {w : World} (h : GF w) : M9.ok (Old w) w := ⟨w.heap, fun b hb => ⟨hb, rfl⟩, fun _ e => h.heap e⟩
end Go.VE
namespace Go.Proofs.YteekiicblankjaaGreatDoor
open Go.RowKit Go.Shelf
def a3M : List (String × DataW Unit) := [("unicode/utf8.first", Rows.laid_unicode_utf8_first), ("unicode/utf8.acceptRanges", Rows.laid_unicode_utf8_acceptRanges), ("unicode.CaseRanges", Rows.laid_unicode_CaseRanges), ("bytes.ErrTooLarge", Rows.laid_bytes_ErrTooLarge), ("internal/strconv.uint64pow10", Rows.laid_internal_strconv_uint64pow10), ("math/bits.deBruijn32tab", Rows.laid_math_bits_deBruijn32tab), ("math/bits.deBruijn64tab", Rows.laid_math_bits_deBruijn64tab)]
theorem et : Tryz.prog.globalNamed "errors.errorType" = some 0 := by kernel_rfl
theorem rt : (Tryz.prog.cutTypes.find? (·.1 == "internal/reflectlite.rtype")).map (·.2) = some 175 := by kernel_rfl
theorem a9B : ((List.range 629).filter fun t => Tryz.prog.rowNamed t [101, 114, 114, 111, 114]) = [42] := by kernel_rfl
theorem b0v : Tryz.prog.types.size = 629 := by kernel_rfl
theorem a8R : (Rows.laid_unicode_utf8_first : DataW Unit) = Lib.firstData := by kernel_rfl
theorem a7S : (Rows.laid_unicode_utf8_acceptRanges : DataW Unit) = Lib.acceptData := by kernel_rfl
theorem a7Y : (Rows.laid_unicode_CaseRanges : DataW Unit) = Lib.caseData := by kernel_rfl
theorem b0u : (Rows.laid_internal_strconv_uint64pow10 : DataW Unit) = Lib.tabData .u64 Lib.pow10Tab := by kernel_rfl
def b0z : Go.Shelf.Ren := ⟨fun n => n, fun | 5 => 5 | 119 => 232 | 139 => 235 | 138 => 234 | n => n, fun | 3 => 4 | 4 => 5 | n => n⟩
theorem a9e : CaseExtra Tryz.prog E7 := ⟨by kernel_rfl, by kernel_rfl, by kernel_rfl, by kernel_rfl, by kernel_rfl, by kernel_rfl⟩
theorem a9Z {W : World} (h1 : laidMet Tryz.prog a3M W) (h2 : handlesMet Tryz.prog [("errors.errorType", Rows.laid_errors_errorType)] W) (hs : W.ShapedOpen Tryz.prog) : Go.VE.GF W where
 hE := by
  obtain ⟨name, u, ty, e1, e2, e3, e4, e5⟩ := h2 _ (List.mem_singleton.2 rfl)
  have en : name = [101, 114, 114, 111, 114] := (Option.some.inj e1).symm
  subst en
  obtain rfl := Option.some.inj (rt.symm.trans e2)
  have hm : ty ∈ (List.range 629).filter fun t => Tryz.prog.rowNamed t [101, 114, 114, 111, 114] := List.mem_filter.2 ⟨List.mem_range.2 (by rw [← b0v]; exact e3), e4⟩
  rw [a9B] at hm
  obtain rfl := List.mem_singleton.1 hm
  have hh : typeHandle Tryz.prog 42 = .pointer (some ⟨9, 42, none⟩) := by kernel_rfl
  rw [hh] at e5
  simpa using World.var?_cell et e5 0
 hM := cell_of_shapedOpen_int (zero := #[.int .i64 0]) (t := 3) (g := 1) hs (of_decide_eq_true (by kernel_rfl)) (by kernel_rfl) rfl (by kernel_rfl) (by kernel_rfl) Tryz.underlying3
 hC := by
  have h3 : Lib.VarReads Tryz.prog W "unicode.CaseRanges" Rows.laid_unicode_CaseRanges := Lib.laidMet.reads h1 (by simp [a3M])
  rw [a7Y] at h3
  exact caseVar_of_reads { lays159 with } (by kernel_rfl) a9e h3
 hT := by
  have h3 : laidMet Tryz.prog (("internal/strconv.uint64pow10", Lib.tabData .u64 Lib.pow10Tab) :: [("math/bits.deBruijn32tab", Rows.laid_math_bits_deBruijn32tab), ("math/bits.deBruijn64tab", Rows.laid_math_bits_deBruijn64tab)]) W := by
   rw [← b0u]; exact h1.tail.tail.tail.tail
  exact Lib.tabIs_of_head (g := 3) (t := 229) (e := 169) (n := 20) (by kernel_rfl) (by kernel_rfl) (by kernel_rfl) (by kernel_rfl) (by kernel_rfl) (by kernel_rfl) h3
 hU := by
  have h3 : Lib.VarReads Tryz.prog W "unicode/utf8.first" Rows.laid_unicode_utf8_first := Lib.laidMet.reads h1 (by simp [a3M])
  have h4 : Lib.VarReads Tryz.prog W "unicode/utf8.acceptRanges" Rows.laid_unicode_utf8_acceptRanges := Lib.laidMet.reads h1 (by simp [a3M])
  rw [a8R] at h3
  rw [a7S] at h4
  exact utf8Tabs_of_readsT (ρ := b0z) ⟨by kernel_rfl, by kernel_rfl, by kernel_rfl, by kernel_rfl⟩ ⟨by kernel_rfl, by kernel_rfl, by kernel_rfl, by kernel_rfl, by kernel_rfl, by kernel_rfl, by kernel_rfl⟩ h3 h4
end Go.Proofs.YteekiicblankjaaGreatDoor
