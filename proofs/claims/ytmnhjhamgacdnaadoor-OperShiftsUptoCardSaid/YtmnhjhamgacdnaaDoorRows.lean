/-
  NARROWER THAN 'FOR EVERY INPUT', by the rows' own cells (each row's printed sentence says how): AgainReads: laid · AgainDots: laid · OperPuts: laid · OperBack: laid · OperCases: laid · OperShifts: laid · OperFits: laid.
  DERIVED. THE GIVEN ROWS OF THIS SEAT. 7 by the template 'for every input the law returns true; each argument reads behind the call as it read before'; 0 by the template 'total and deterministic' (their statements: YtmnhjhamgacdnaaDoorTotals.lean).
  GIVEN WITH THE SEED: the statements are not yours to turn. If you find one false, say at which input.
  Laid BY PROGRAM, IN A SANDBOX (cutbox-rows.mjs): the forced cells as the released guide's own fill.sh prints them over the translation a8cebda1f80c10c2… (all of the seat's roots in one cut). By AI agents, Wed Nov 11 2026. No macro, syntax, notation, axiom, sorry.
-/
import Derived.Test.YtmnhjhamgacdnaaDoorChecked
import GoSem.PinnedTables
import GoSem.Claim
import GoSem.ClaimJoined
import GoSem.ClaimMapViews
import Derived.JoinedTies
import Derived.KernelRfl
namespace Go.Proofs.YtmnhjhamgacdnaaDoor
/- THE CELL 'sum', in the pinned program and in every row, IS THE sha256 OF THE DUMP (.gsa) THAT YtmnhjhamgacdnaaDoorProg.lean LOADS. Nothing in Lean hashes anything: it is a label: what it is worth is what the hold of that sum in a sandbox is worth. -/
noncomputable def Tryd.pinned : Pinned := { name := "ytmnhjhamgacdnaadoor", sum := "a8cebda1f80c10c2713b6a7ec522a58f814a5f3db3ca5f72f580b321443ac8c9", checked := Tryd.checked }
namespace Rows
def none {H : Type} : Left H := { results := [], args := [] }

/- WHAT THE LISTED PACKAGE-LEVEL VARIABLES READ AS WHEN THE CALL BEGINS. Each datum BY PROGRAM (the guide's laid-datum.mjs) off the statement by which the dump's own 'gosem.cut.vars' lays the variable. In a bare row this is a premise. The card (YtmnhjhamgacdnaaDoorCards.lean) ties it to the program's text. -/
def laid_math_bits_deBruijn32tab {H : Type} : DataW H := .agg [.lit (.int .u8 0), .lit (.int .u8 1), .lit (.int .u8 28), .lit (.int .u8 2), .lit (.int .u8 29), .lit (.int .u8 14), .lit (.int .u8 24), .lit (.int .u8 3), .lit (.int .u8 30), .lit (.int .u8 22), .lit (.int .u8 20), .lit (.int .u8 15), .lit (.int .u8 25), .lit (.int .u8 17), .lit (.int .u8 4), .lit (.int .u8 8), .lit (.int .u8 31), .lit (.int .u8 27), .lit (.int .u8 13), .lit (.int .u8 23), .lit (.int .u8 21), .lit (.int .u8 19), .lit (.int .u8 16), .lit (.int .u8 7), .lit (.int .u8 26), .lit (.int .u8 12), .lit (.int .u8 18), .lit (.int .u8 6), .lit (.int .u8 11), .lit (.int .u8 5), .lit (.int .u8 10), .lit (.int .u8 9)]
def laid_math_bits_deBruijn64tab {H : Type} : DataW H := .agg [.lit (.int .u8 0), .lit (.int .u8 1), .lit (.int .u8 56), .lit (.int .u8 2), .lit (.int .u8 57), .lit (.int .u8 49), .lit (.int .u8 28), .lit (.int .u8 3), .lit (.int .u8 61), .lit (.int .u8 58), .lit (.int .u8 42), .lit (.int .u8 50), .lit (.int .u8 38), .lit (.int .u8 29), .lit (.int .u8 17), .lit (.int .u8 4), .lit (.int .u8 62), .lit (.int .u8 47), .lit (.int .u8 59), .lit (.int .u8 36), .lit (.int .u8 45), .lit (.int .u8 43), .lit (.int .u8 51), .lit (.int .u8 22), .lit (.int .u8 53), .lit (.int .u8 39), .lit (.int .u8 33), .lit (.int .u8 30), .lit (.int .u8 24), .lit (.int .u8 18), .lit (.int .u8 12), .lit (.int .u8 5), .lit (.int .u8 63), .lit (.int .u8 55), .lit (.int .u8 48), .lit (.int .u8 27), .lit (.int .u8 60), .lit (.int .u8 41), .lit (.int .u8 37), .lit (.int .u8 16), .lit (.int .u8 46), .lit (.int .u8 35), .lit (.int .u8 44), .lit (.int .u8 21), .lit (.int .u8 52), .lit (.int .u8 32), .lit (.int .u8 23), .lit (.int .u8 11), .lit (.int .u8 54), .lit (.int .u8 26), .lit (.int .u8 40), .lit (.int .u8 15), .lit (.int .u8 34), .lit (.int .u8 20), .lit (.int .u8 31), .lit (.int .u8 10), .lit (.int .u8 25), .lit (.int .u8 14), .lit (.int .u8 19), .lit (.int .u8 9), .lit (.int .u8 13), .lit (.int .u8 8), .lit (.int .u8 7), .lit (.int .u8 6)]
def laid_internal_strconv_uint64pow10 {H : Type} : DataW H := .agg [.lit (.int .u64 1), .lit (.int .u64 10), .lit (.int .u64 100), .lit (.int .u64 1000), .lit (.int .u64 10000), .lit (.int .u64 100000), .lit (.int .u64 1000000), .lit (.int .u64 10000000), .lit (.int .u64 100000000), .lit (.int .u64 1000000000), .lit (.int .u64 10000000000), .lit (.int .u64 100000000000), .lit (.int .u64 1000000000000), .lit (.int .u64 10000000000000), .lit (.int .u64 100000000000000), .lit (.int .u64 1000000000000000), .lit (.int .u64 10000000000000000), .lit (.int .u64 100000000000000000), .lit (.int .u64 1000000000000000000), .lit (.int .u64 10000000000000000000)]
def laid_unicode_utf8_acceptRanges {H : Type} : DataW H := .agg [.agg [.lit (.int .u8 128), .lit (.int .u8 191)], .agg [.lit (.int .u8 160), .lit (.int .u8 191)], .agg [.lit (.int .u8 128), .lit (.int .u8 159)], .agg [.lit (.int .u8 144), .lit (.int .u8 191)], .agg [.lit (.int .u8 128), .lit (.int .u8 143)], .agg [.lit (.int .u8 0), .lit (.int .u8 0)], .agg [.lit (.int .u8 0), .lit (.int .u8 0)], .agg [.lit (.int .u8 0), .lit (.int .u8 0)], .agg [.lit (.int .u8 0), .lit (.int .u8 0)], .agg [.lit (.int .u8 0), .lit (.int .u8 0)], .agg [.lit (.int .u8 0), .lit (.int .u8 0)], .agg [.lit (.int .u8 0), .lit (.int .u8 0)], .agg [.lit (.int .u8 0), .lit (.int .u8 0)], .agg [.lit (.int .u8 0), .lit (.int .u8 0)], .agg [.lit (.int .u8 0), .lit (.int .u8 0)], .agg [.lit (.int .u8 0), .lit (.int .u8 0)]]
/-- One of Go's own tables, pinned by name: the form's constant. -/
def laid_unicode_utf8_first : DataW Unit := Go.Pinned.utf8First

/-- 'quoinlaw22.AgainReads': WHATEVER THE INPUT: true; the input reads as it did. -/
def againReadsSpec : ChangeSpec := { name := "againReads", fn := fun _ => fun
  | [d1, d2, d3] => { results := [.lit (.bool true)], args := [d1, d2, d3] }
  | _ => none }
def againReadsRow : OpenClaim := { program := "ytmnhjhamgacdnaadoor", sum := "a8cebda1f80c10c2713b6a7ec522a58f814a5f3db3ca5f72f580b321443ac8c9", func := "quoin/quoinlaw22.AgainReads", spec := "againReads", inPlace := ["internal/bytealg.IndexByteString", "internal/bytealg.IndexString", "internal/bytealg.IndexByte", "internal/bytealg.Index"], named := ["internal/bytealg.MaxLen", "unicode/utf8.first", "unicode/utf8.acceptRanges", "internal/strconv.uint64pow10", "math/bits.deBruijn32tab", "math/bits.deBruijn64tab"], apart := false, laid := [("math/bits.deBruijn32tab", laid_math_bits_deBruijn32tab), ("math/bits.deBruijn64tab", laid_math_bits_deBruijn64tab), ("internal/strconv.uint64pow10", laid_internal_strconv_uint64pow10), ("unicode/utf8.acceptRanges", laid_unicode_utf8_acceptRanges), ("unicode/utf8.first", laid_unicode_utf8_first)] }
def AgainReadsSaid : Prop := againReadsRow.holds Tryd.pinned (OpenSpec.ofChange againReadsSpec)

/-- ITS FALSE NEIGHBOUR: 'it returns false'. Refute it at one input. -/
def againReadsWrong : ChangeSpec := { name := "againReads", fn := fun _ => fun
  | [d1, d2, d3] => { results := [.lit (.bool false)], args := [d1, d2, d3] }
  | _ => none }
def AgainReadsWrongFalsely : Prop := againReadsRow.holds Tryd.pinned (OpenSpec.ofChange againReadsWrong)

/-- 'quoinlaw22.AgainDots': WHATEVER THE INPUT: true; the input reads as it did. -/
def againDotsSpec : ChangeSpec := { name := "againDots", fn := fun _ => fun
  | [d] => { results := [.lit (.bool true)], args := [d] }
  | _ => none }
def againDotsRow : OpenClaim := { program := "ytmnhjhamgacdnaadoor", sum := "a8cebda1f80c10c2713b6a7ec522a58f814a5f3db3ca5f72f580b321443ac8c9", func := "quoin/quoinlaw22.AgainDots", spec := "againDots", inPlace := ["internal/bytealg.IndexByteString", "internal/bytealg.IndexString", "internal/bytealg.IndexByte", "internal/bytealg.Index"], named := ["internal/bytealg.MaxLen", "unicode/utf8.first", "unicode/utf8.acceptRanges", "internal/strconv.uint64pow10", "math/bits.deBruijn32tab", "math/bits.deBruijn64tab"], apart := false, laid := [("math/bits.deBruijn32tab", laid_math_bits_deBruijn32tab), ("math/bits.deBruijn64tab", laid_math_bits_deBruijn64tab), ("internal/strconv.uint64pow10", laid_internal_strconv_uint64pow10), ("unicode/utf8.acceptRanges", laid_unicode_utf8_acceptRanges), ("unicode/utf8.first", laid_unicode_utf8_first)] }
def AgainDotsSaid : Prop := againDotsRow.holds Tryd.pinned (OpenSpec.ofChange againDotsSpec)

/-- ITS FALSE NEIGHBOUR: 'it returns false'. Refute it at one input. -/
def againDotsWrong : ChangeSpec := { name := "againDots", fn := fun _ => fun
  | [d] => { results := [.lit (.bool false)], args := [d] }
  | _ => none }
def AgainDotsWrongFalsely : Prop := againDotsRow.holds Tryd.pinned (OpenSpec.ofChange againDotsWrong)

/-- 'quoinlaw19.OperPuts': WHATEVER THE INPUT: true; the input reads as it did. -/
def operPutsSpec : ChangeSpec := { name := "operPuts", fn := fun _ => fun
  | [d1, d2] => { results := [.lit (.bool true)], args := [d1, d2] }
  | _ => none }
def operPutsRow : OpenClaim := { program := "ytmnhjhamgacdnaadoor", sum := "a8cebda1f80c10c2713b6a7ec522a58f814a5f3db3ca5f72f580b321443ac8c9", func := "quoin/quoinlaw19.OperPuts", spec := "operPuts", inPlace := ["internal/bytealg.IndexByte", "slices.overlaps[byte]", "internal/bytealg.Count", "internal/bytealg.Index", "internal/bytealg.MakeNoZero"], unfollowed := true, recurses := true, named := ["internal/bytealg.MaxLen", "unicode/utf8.first", "unicode/utf8.acceptRanges"], apart := false, laid := [("unicode/utf8.acceptRanges", laid_unicode_utf8_acceptRanges), ("unicode/utf8.first", laid_unicode_utf8_first)] }
def OperPutsSaid : Prop := operPutsRow.holds Tryd.pinned (OpenSpec.ofChange operPutsSpec)

/-- ITS FALSE NEIGHBOUR: 'it returns false'. Refute it at one input. -/
def operPutsWrong : ChangeSpec := { name := "operPuts", fn := fun _ => fun
  | [d1, d2] => { results := [.lit (.bool false)], args := [d1, d2] }
  | _ => none }
def OperPutsWrongFalsely : Prop := operPutsRow.holds Tryd.pinned (OpenSpec.ofChange operPutsWrong)

/-- 'quoinlaw19.OperBack': WHATEVER THE INPUT: true; the input reads as it did. -/
def operBackSpec : ChangeSpec := { name := "operBack", fn := fun _ => fun
  | [d1, d2] => { results := [.lit (.bool true)], args := [d1, d2] }
  | _ => none }
def operBackRow : OpenClaim := { program := "ytmnhjhamgacdnaadoor", sum := "a8cebda1f80c10c2713b6a7ec522a58f814a5f3db3ca5f72f580b321443ac8c9", func := "quoin/quoinlaw19.OperBack", spec := "operBack", inPlace := ["internal/bytealg.IndexByte", "slices.overlaps[byte]", "internal/bytealg.Count", "internal/bytealg.Index", "internal/bytealg.MakeNoZero"], unfollowed := true, recurses := true, named := ["internal/bytealg.MaxLen", "unicode/utf8.first", "unicode/utf8.acceptRanges"], apart := false, laid := [("unicode/utf8.acceptRanges", laid_unicode_utf8_acceptRanges), ("unicode/utf8.first", laid_unicode_utf8_first)] }
def OperBackSaid : Prop := operBackRow.holds Tryd.pinned (OpenSpec.ofChange operBackSpec)

/-- ITS FALSE NEIGHBOUR: 'it returns false'. Refute it at one input. -/
def operBackWrong : ChangeSpec := { name := "operBack", fn := fun _ => fun
  | [d1, d2] => { results := [.lit (.bool false)], args := [d1, d2] }
  | _ => none }
def OperBackWrongFalsely : Prop := operBackRow.holds Tryd.pinned (OpenSpec.ofChange operBackWrong)

/-- 'quoinlaw19.OperCases': WHATEVER THE INPUT: true; the input reads as it did. -/
def operCasesSpec : ChangeSpec := { name := "operCases", fn := fun _ => fun
  | [d1, d2, d3] => { results := [.lit (.bool true)], args := [d1, d2, d3] }
  | _ => none }
def operCasesRow : OpenClaim := { program := "ytmnhjhamgacdnaadoor", sum := "a8cebda1f80c10c2713b6a7ec522a58f814a5f3db3ca5f72f580b321443ac8c9", func := "quoin/quoinlaw19.OperCases", spec := "operCases", inPlace := ["internal/bytealg.IndexByte", "slices.overlaps[byte]", "internal/bytealg.Count", "internal/bytealg.Index", "internal/bytealg.MakeNoZero"], unfollowed := true, recurses := true, named := ["internal/bytealg.MaxLen", "unicode/utf8.first", "unicode/utf8.acceptRanges"], apart := false, laid := [("unicode/utf8.acceptRanges", laid_unicode_utf8_acceptRanges), ("unicode/utf8.first", laid_unicode_utf8_first)] }
def OperCasesSaid : Prop := operCasesRow.holds Tryd.pinned (OpenSpec.ofChange operCasesSpec)

/-- ITS FALSE NEIGHBOUR: 'it returns false'. Refute it at one input. -/
def operCasesWrong : ChangeSpec := { name := "operCases", fn := fun _ => fun
  | [d1, d2, d3] => { results := [.lit (.bool false)], args := [d1, d2, d3] }
  | _ => none }
def OperCasesWrongFalsely : Prop := operCasesRow.holds Tryd.pinned (OpenSpec.ofChange operCasesWrong)

/-- 'quoinlaw19.OperShifts': WHATEVER THE INPUT: true; the input reads as it did. -/
def operShiftsSpec : ChangeSpec := { name := "operShifts", fn := fun _ => fun
  | [d1, d2, d3] => { results := [.lit (.bool true)], args := [d1, d2, d3] }
  | _ => none }
def operShiftsRow : OpenClaim := { program := "ytmnhjhamgacdnaadoor", sum := "a8cebda1f80c10c2713b6a7ec522a58f814a5f3db3ca5f72f580b321443ac8c9", func := "quoin/quoinlaw19.OperShifts", spec := "operShifts", inPlace := ["internal/bytealg.IndexByte", "slices.overlaps[byte]", "internal/bytealg.Count", "internal/bytealg.Index", "internal/bytealg.MakeNoZero"], unfollowed := true, recurses := true, named := ["internal/bytealg.MaxLen", "unicode/utf8.first", "unicode/utf8.acceptRanges"], apart := false, laid := [("unicode/utf8.acceptRanges", laid_unicode_utf8_acceptRanges), ("unicode/utf8.first", laid_unicode_utf8_first)] }
def OperShiftsSaid : Prop := operShiftsRow.holds Tryd.pinned (OpenSpec.ofChange operShiftsSpec)

/-- ITS FALSE NEIGHBOUR: 'it returns false'. Refute it at one input. -/
def operShiftsWrong : ChangeSpec := { name := "operShifts", fn := fun _ => fun
  | [d1, d2, d3] => { results := [.lit (.bool false)], args := [d1, d2, d3] }
  | _ => none }
def OperShiftsWrongFalsely : Prop := operShiftsRow.holds Tryd.pinned (OpenSpec.ofChange operShiftsWrong)

/-- 'quoinlaw19.OperFits': WHATEVER THE INPUT: true; the input reads as it did. -/
def operFitsSpec : ChangeSpec := { name := "operFits", fn := fun _ => fun
  | [d1, d2] => { results := [.lit (.bool true)], args := [d1, d2] }
  | _ => none }
def operFitsRow : OpenClaim := { program := "ytmnhjhamgacdnaadoor", sum := "a8cebda1f80c10c2713b6a7ec522a58f814a5f3db3ca5f72f580b321443ac8c9", func := "quoin/quoinlaw19.OperFits", spec := "operFits", inPlace := ["internal/bytealg.IndexByte", "slices.overlaps[byte]", "internal/bytealg.Count", "internal/bytealg.Index", "internal/bytealg.MakeNoZero"], unfollowed := true, recurses := true, named := ["internal/bytealg.MaxLen", "unicode/utf8.first", "unicode/utf8.acceptRanges"], apart := false, laid := [("unicode/utf8.acceptRanges", laid_unicode_utf8_acceptRanges), ("unicode/utf8.first", laid_unicode_utf8_first)] }
def OperFitsSaid : Prop := operFitsRow.holds Tryd.pinned (OpenSpec.ofChange operFitsSpec)

/-- ITS FALSE NEIGHBOUR: 'it returns false'. Refute it at one input. -/
def operFitsWrong : ChangeSpec := { name := "operFits", fn := fun _ => fun
  | [d1, d2] => { results := [.lit (.bool false)], args := [d1, d2] }
  | _ => none }
def OperFitsWrongFalsely : Prop := operFitsRow.holds Tryd.pinned (OpenSpec.ofChange operFitsWrong)

/- THE SECOND FORM. 'bulk': how many values and letters a reading holds, each counted each time it is reached (what is shared counts as often as it is met; a slice's spare places count too). A statement '..UptoSaid' is the law's where the arguments, and the package variables that the reading takes, are together of bulk at most 1048576: NARROWER than '..Said'. Prove '..Said' where nothing that the law and all that it calls make is longer than what came in: it says more and counts as full. Else prove '..UptoSaid'. A law counts once. -/
mutual
def uptoBulk {H : Type} : DataW H → Nat
  | .lit (.string bytes) => bytes.length + 1
  | .lit _ => 1
  | .nil => 1
  | .ptr d => uptoBulk d + 1
  | .slice elems spare => uptoBulkAll elems + uptoBulkAll spare + 1
  | .agg parts => uptoBulkAll parts + 1
  | .iface _ d => uptoBulk d + 1
  | .map entries => uptoBulkEntries entries + 1
  | .held _ => 1
def uptoBulkAll {H : Type} : List (DataW H) → Nat
  | [] => 0
  | d :: r => uptoBulk d + uptoBulkAll r
def uptoBulkEntries {H : Type} : List (Lit × DataW H) → Nat
  | [] => 0
  | x :: r => uptoBulkEntry x + uptoBulkEntries r
def uptoBulkEntry {H : Type} : Lit × DataW H → Nat
  | (.string bytes, d) => bytes.length + uptoBulk d + 1
  | (_, d) => uptoBulk d + 1
 end
def uptoSmall : (H : Type) → List (DataW H) → Bool := fun _ ds => decide (uptoBulkAll ds ≤ 1048576)
def OpenSpec.upto (s : _root_.Go.ChangeSpec) : _root_.Go.OpenSpec := { _root_.Go.OpenSpec.ofChange s with cond := some uptoSmall }

/-- 'quoinlaw22.AgainReads', WHERE WHAT IT READS IS OF BULK AT MOST 1048576: true; the input reads as it did. -/
def againReadsUptoRow : OpenClaim := { program := "ytmnhjhamgacdnaadoor", sum := "a8cebda1f80c10c2713b6a7ec522a58f814a5f3db3ca5f72f580b321443ac8c9", func := "quoin/quoinlaw22.AgainReads", spec := "againReads", inPlace := ["internal/bytealg.IndexByteString", "internal/bytealg.IndexString", "internal/bytealg.IndexByte", "internal/bytealg.Index"], named := ["internal/bytealg.MaxLen", "unicode/utf8.first", "unicode/utf8.acceptRanges", "internal/strconv.uint64pow10", "math/bits.deBruijn32tab", "math/bits.deBruijn64tab"], apart := false, laid := [("math/bits.deBruijn32tab", laid_math_bits_deBruijn32tab), ("math/bits.deBruijn64tab", laid_math_bits_deBruijn64tab), ("internal/strconv.uint64pow10", laid_internal_strconv_uint64pow10), ("unicode/utf8.acceptRanges", laid_unicode_utf8_acceptRanges), ("unicode/utf8.first", laid_unicode_utf8_first)], narrowed := true }
def AgainReadsUptoSaid : Prop := againReadsUptoRow.holds Tryd.pinned (OpenSpec.upto againReadsSpec)

/-- 'quoinlaw22.AgainDots', WHERE WHAT IT READS IS OF BULK AT MOST 1048576: true; the input reads as it did. -/
def againDotsUptoRow : OpenClaim := { program := "ytmnhjhamgacdnaadoor", sum := "a8cebda1f80c10c2713b6a7ec522a58f814a5f3db3ca5f72f580b321443ac8c9", func := "quoin/quoinlaw22.AgainDots", spec := "againDots", inPlace := ["internal/bytealg.IndexByteString", "internal/bytealg.IndexString", "internal/bytealg.IndexByte", "internal/bytealg.Index"], named := ["internal/bytealg.MaxLen", "unicode/utf8.first", "unicode/utf8.acceptRanges", "internal/strconv.uint64pow10", "math/bits.deBruijn32tab", "math/bits.deBruijn64tab"], apart := false, laid := [("math/bits.deBruijn32tab", laid_math_bits_deBruijn32tab), ("math/bits.deBruijn64tab", laid_math_bits_deBruijn64tab), ("internal/strconv.uint64pow10", laid_internal_strconv_uint64pow10), ("unicode/utf8.acceptRanges", laid_unicode_utf8_acceptRanges), ("unicode/utf8.first", laid_unicode_utf8_first)], narrowed := true }
def AgainDotsUptoSaid : Prop := againDotsUptoRow.holds Tryd.pinned (OpenSpec.upto againDotsSpec)

/-- 'quoinlaw19.OperPuts', WHERE WHAT IT READS IS OF BULK AT MOST 1048576: true; the input reads as it did. -/
def operPutsUptoRow : OpenClaim := { program := "ytmnhjhamgacdnaadoor", sum := "a8cebda1f80c10c2713b6a7ec522a58f814a5f3db3ca5f72f580b321443ac8c9", func := "quoin/quoinlaw19.OperPuts", spec := "operPuts", inPlace := ["internal/bytealg.IndexByte", "slices.overlaps[byte]", "internal/bytealg.Count", "internal/bytealg.Index", "internal/bytealg.MakeNoZero"], unfollowed := true, recurses := true, named := ["internal/bytealg.MaxLen", "unicode/utf8.first", "unicode/utf8.acceptRanges"], apart := false, laid := [("unicode/utf8.acceptRanges", laid_unicode_utf8_acceptRanges), ("unicode/utf8.first", laid_unicode_utf8_first)], narrowed := true }
def OperPutsUptoSaid : Prop := operPutsUptoRow.holds Tryd.pinned (OpenSpec.upto operPutsSpec)

/-- 'quoinlaw19.OperBack', WHERE WHAT IT READS IS OF BULK AT MOST 1048576: true; the input reads as it did. -/
def operBackUptoRow : OpenClaim := { program := "ytmnhjhamgacdnaadoor", sum := "a8cebda1f80c10c2713b6a7ec522a58f814a5f3db3ca5f72f580b321443ac8c9", func := "quoin/quoinlaw19.OperBack", spec := "operBack", inPlace := ["internal/bytealg.IndexByte", "slices.overlaps[byte]", "internal/bytealg.Count", "internal/bytealg.Index", "internal/bytealg.MakeNoZero"], unfollowed := true, recurses := true, named := ["internal/bytealg.MaxLen", "unicode/utf8.first", "unicode/utf8.acceptRanges"], apart := false, laid := [("unicode/utf8.acceptRanges", laid_unicode_utf8_acceptRanges), ("unicode/utf8.first", laid_unicode_utf8_first)], narrowed := true }
def OperBackUptoSaid : Prop := operBackUptoRow.holds Tryd.pinned (OpenSpec.upto operBackSpec)

/-- 'quoinlaw19.OperCases', WHERE WHAT IT READS IS OF BULK AT MOST 1048576: true; the input reads as it did. -/
def operCasesUptoRow : OpenClaim := { program := "ytmnhjhamgacdnaadoor", sum := "a8cebda1f80c10c2713b6a7ec522a58f814a5f3db3ca5f72f580b321443ac8c9", func := "quoin/quoinlaw19.OperCases", spec := "operCases", inPlace := ["internal/bytealg.IndexByte", "slices.overlaps[byte]", "internal/bytealg.Count", "internal/bytealg.Index", "internal/bytealg.MakeNoZero"], unfollowed := true, recurses := true, named := ["internal/bytealg.MaxLen", "unicode/utf8.first", "unicode/utf8.acceptRanges"], apart := false, laid := [("unicode/utf8.acceptRanges", laid_unicode_utf8_acceptRanges), ("unicode/utf8.first", laid_unicode_utf8_first)], narrowed := true }
def OperCasesUptoSaid : Prop := operCasesUptoRow.holds Tryd.pinned (OpenSpec.upto operCasesSpec)

/-- 'quoinlaw19.OperShifts', WHERE WHAT IT READS IS OF BULK AT MOST 1048576: true; the input reads as it did. -/
def operShiftsUptoRow : OpenClaim := { program := "ytmnhjhamgacdnaadoor", sum := "a8cebda1f80c10c2713b6a7ec522a58f814a5f3db3ca5f72f580b321443ac8c9", func := "quoin/quoinlaw19.OperShifts", spec := "operShifts", inPlace := ["internal/bytealg.IndexByte", "slices.overlaps[byte]", "internal/bytealg.Count", "internal/bytealg.Index", "internal/bytealg.MakeNoZero"], unfollowed := true, recurses := true, named := ["internal/bytealg.MaxLen", "unicode/utf8.first", "unicode/utf8.acceptRanges"], apart := false, laid := [("unicode/utf8.acceptRanges", laid_unicode_utf8_acceptRanges), ("unicode/utf8.first", laid_unicode_utf8_first)], narrowed := true }
def OperShiftsUptoSaid : Prop := operShiftsUptoRow.holds Tryd.pinned (OpenSpec.upto operShiftsSpec)

/-- 'quoinlaw19.OperFits', WHERE WHAT IT READS IS OF BULK AT MOST 1048576: true; the input reads as it did. -/
def operFitsUptoRow : OpenClaim := { program := "ytmnhjhamgacdnaadoor", sum := "a8cebda1f80c10c2713b6a7ec522a58f814a5f3db3ca5f72f580b321443ac8c9", func := "quoin/quoinlaw19.OperFits", spec := "operFits", inPlace := ["internal/bytealg.IndexByte", "slices.overlaps[byte]", "internal/bytealg.Count", "internal/bytealg.Index", "internal/bytealg.MakeNoZero"], unfollowed := true, recurses := true, named := ["internal/bytealg.MaxLen", "unicode/utf8.first", "unicode/utf8.acceptRanges"], apart := false, laid := [("unicode/utf8.acceptRanges", laid_unicode_utf8_acceptRanges), ("unicode/utf8.first", laid_unicode_utf8_first)], narrowed := true }
def OperFitsUptoSaid : Prop := operFitsUptoRow.holds Tryd.pinned (OpenSpec.upto operFitsSpec)

end Rows
end Go.Proofs.YtmnhjhamgacdnaaDoor
