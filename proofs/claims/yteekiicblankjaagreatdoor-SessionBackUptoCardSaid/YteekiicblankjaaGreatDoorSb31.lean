import Derived.Test.YteekiicblankjaaGreatDoorSb30
import Derived.Test.YteekiicblankjaaGreatDoorRows
import Derived.LaidByTextLater
import Derived.SevenTiedAt
set_option linter.unusedVariables false
set_option linter.unusedSectionVars false
set_option linter.unusedSimpArgs false
namespace Go.Proofs.YteekiicblankjaaGreatDoor
open Go
theorem tA1 : Tryz.prog.worded (varsWordLater true) = true := by kernel_rfl
theorem tA2 : Tryz.prog.worded (varsWordLater !true) = false := by kernel_rfl
theorem tA3 : Tryz.prog.worded rootWordLater = true := by kernel_rfl
def a6R : List (String × DataW Unit) := [("unicode/utf8.acceptRanges", Rows.laid_unicode_utf8_acceptRanges), ("bytes.ErrTooLarge", Rows.laid_bytes_ErrTooLarge), ("internal/strconv.uint64pow10", Rows.laid_internal_strconv_uint64pow10), ("math/bits.deBruijn32tab", Rows.laid_math_bits_deBruijn32tab), ("math/bits.deBruijn64tab", Rows.laid_math_bits_deBruijn64tab), ("errors.errorType", Rows.laid_errors_errorType)]
theorem tA4 : a6R.map (fun x => Tryz.prog.kindOfLater x.1) = ([.data, .sentinel, .data, .data, .data, .handle] : List LaidKind).map some := by kernel_rfl
theorem tA5 : (Tryz.prog.funcNamed "gosem.cut.vars").isSome = true := by kernel_rfl
theorem tA6 : varsNamedLaterB Tryz.prog (varsId Tryz.prog) a6R = true := by kernel_rfl
end Go.Proofs.YteekiicblankjaaGreatDoor
