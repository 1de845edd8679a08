/-
  NARROWER THAN 'FOR EVERY INPUT', by the rows' own cells (each row's printed sentence says how): KeysParse: laid · KeysNames: laid · KeysBack: laid · KeysOn: laid · KeysMore: laid · KeysCounts: laid · KeysKeeps: laid.
  DERIVED. THE GIVEN ROWS OF THIS SEAT. 7 by the template 'for every input the law returns true; each argument reads behind the call as it read before'; 0 by the template 'total and deterministic' (their statements: YtdmgfabppaffkaaDoorTotals.lean).
  GIVEN WITH THE SEED: the statements are not yours to turn. If you find one false, say at which input.
  Laid BY PROGRAM, IN A SANDBOX (cutbox-rows.mjs): the forced cells as the released guide's own fill.sh prints them over the translation 3b552c240c4fd558… (all of the seat's roots in one cut). By AI agents, Wed Nov 11 2026. No macro, syntax, notation, axiom, sorry.
-/
import Derived.Test.YtdmgfabppaffkaaDoorChecked
import GoSem.Claim
import GoSem.ClaimJoined
import GoSem.ClaimMapViews
import Derived.JoinedTies
import Derived.KernelRfl
namespace Go.Proofs.YtdmgfabppaffkaaDoor
/- THE CELL 'sum', in the pinned program and in every row, IS THE sha256 OF THE DUMP (.gsa) THAT YtdmgfabppaffkaaDoorProg.lean LOADS. Nothing in Lean hashes anything: it is a label: what it is worth is what the hold of that sum in a sandbox is worth. -/
noncomputable def Tryd.pinned : Pinned := { name := "ytdmgfabppaffkaadoor", sum := "3b552c240c4fd558b68896379146fadf67aa570525d4ce1d31c326aa9f7a1aa9", checked := Tryd.checked }
namespace Rows
def none {H : Type} : Left H := { results := [], args := [] }

/- WHAT THE LISTED PACKAGE-LEVEL VARIABLES READ AS WHEN THE CALL BEGINS. Each datum BY PROGRAM (the guide's laid-datum.mjs) off the statement by which the dump's own 'gosem.cut.vars' lays the variable. In a bare row this is a premise. The card (YtdmgfabppaffkaaDoorCards.lean) ties it to the program's text. -/
def laid_math_bits_deBruijn32tab {H : Type} : DataW H := .agg [.lit (.int .u8 0), .lit (.int .u8 1), .lit (.int .u8 28), .lit (.int .u8 2), .lit (.int .u8 29), .lit (.int .u8 14), .lit (.int .u8 24), .lit (.int .u8 3), .lit (.int .u8 30), .lit (.int .u8 22), .lit (.int .u8 20), .lit (.int .u8 15), .lit (.int .u8 25), .lit (.int .u8 17), .lit (.int .u8 4), .lit (.int .u8 8), .lit (.int .u8 31), .lit (.int .u8 27), .lit (.int .u8 13), .lit (.int .u8 23), .lit (.int .u8 21), .lit (.int .u8 19), .lit (.int .u8 16), .lit (.int .u8 7), .lit (.int .u8 26), .lit (.int .u8 12), .lit (.int .u8 18), .lit (.int .u8 6), .lit (.int .u8 11), .lit (.int .u8 5), .lit (.int .u8 10), .lit (.int .u8 9)]
def laid_math_bits_deBruijn64tab {H : Type} : DataW H := .agg [.lit (.int .u8 0), .lit (.int .u8 1), .lit (.int .u8 56), .lit (.int .u8 2), .lit (.int .u8 57), .lit (.int .u8 49), .lit (.int .u8 28), .lit (.int .u8 3), .lit (.int .u8 61), .lit (.int .u8 58), .lit (.int .u8 42), .lit (.int .u8 50), .lit (.int .u8 38), .lit (.int .u8 29), .lit (.int .u8 17), .lit (.int .u8 4), .lit (.int .u8 62), .lit (.int .u8 47), .lit (.int .u8 59), .lit (.int .u8 36), .lit (.int .u8 45), .lit (.int .u8 43), .lit (.int .u8 51), .lit (.int .u8 22), .lit (.int .u8 53), .lit (.int .u8 39), .lit (.int .u8 33), .lit (.int .u8 30), .lit (.int .u8 24), .lit (.int .u8 18), .lit (.int .u8 12), .lit (.int .u8 5), .lit (.int .u8 63), .lit (.int .u8 55), .lit (.int .u8 48), .lit (.int .u8 27), .lit (.int .u8 60), .lit (.int .u8 41), .lit (.int .u8 37), .lit (.int .u8 16), .lit (.int .u8 46), .lit (.int .u8 35), .lit (.int .u8 44), .lit (.int .u8 21), .lit (.int .u8 52), .lit (.int .u8 32), .lit (.int .u8 23), .lit (.int .u8 11), .lit (.int .u8 54), .lit (.int .u8 26), .lit (.int .u8 40), .lit (.int .u8 15), .lit (.int .u8 34), .lit (.int .u8 20), .lit (.int .u8 31), .lit (.int .u8 10), .lit (.int .u8 25), .lit (.int .u8 14), .lit (.int .u8 19), .lit (.int .u8 9), .lit (.int .u8 13), .lit (.int .u8 8), .lit (.int .u8 7), .lit (.int .u8 6)]
def laid_internal_strconv_uint64pow10 {H : Type} : DataW H := .agg [.lit (.int .u64 1), .lit (.int .u64 10), .lit (.int .u64 100), .lit (.int .u64 1000), .lit (.int .u64 10000), .lit (.int .u64 100000), .lit (.int .u64 1000000), .lit (.int .u64 10000000), .lit (.int .u64 100000000), .lit (.int .u64 1000000000), .lit (.int .u64 10000000000), .lit (.int .u64 100000000000), .lit (.int .u64 1000000000000), .lit (.int .u64 10000000000000), .lit (.int .u64 100000000000000), .lit (.int .u64 1000000000000000), .lit (.int .u64 10000000000000000), .lit (.int .u64 100000000000000000), .lit (.int .u64 1000000000000000000), .lit (.int .u64 10000000000000000000)]

/-- 'quoinlaw21.KeysParse': WHATEVER THE INPUT: true; the input reads as it did. -/
def keysParseSpec : ChangeSpec := { name := "keysParse", fn := fun _ => fun
  | [d] => { results := [.lit (.bool true)], args := [d] }
  | _ => none }
def keysParseRow : OpenClaim := { program := "ytdmgfabppaffkaadoor", sum := "3b552c240c4fd558b68896379146fadf67aa570525d4ce1d31c326aa9f7a1aa9", func := "quoin/quoinlaw21.KeysParse", spec := "keysParse", inPlace := ["internal/bytealg.IndexByteString", "internal/bytealg.IndexString"], named := ["internal/bytealg.MaxLen", "internal/strconv.uint64pow10", "math/bits.deBruijn32tab", "math/bits.deBruijn64tab"], apart := false, laid := [("math/bits.deBruijn32tab", laid_math_bits_deBruijn32tab), ("math/bits.deBruijn64tab", laid_math_bits_deBruijn64tab), ("internal/strconv.uint64pow10", laid_internal_strconv_uint64pow10)] }
def KeysParseSaid : Prop := keysParseRow.holds Tryd.pinned (OpenSpec.ofChange keysParseSpec)

/-- ITS FALSE NEIGHBOUR: 'it returns false'. Refute it at one input. -/
def keysParseWrong : ChangeSpec := { name := "keysParse", fn := fun _ => fun
  | [d] => { results := [.lit (.bool false)], args := [d] }
  | _ => none }
def KeysParseWrongFalsely : Prop := keysParseRow.holds Tryd.pinned (OpenSpec.ofChange keysParseWrong)

/-- 'quoinlaw21.KeysNames': WHATEVER THE INPUT: true; the input reads as it did. -/
def keysNamesSpec : ChangeSpec := { name := "keysNames", fn := fun _ => fun
  | [d] => { results := [.lit (.bool true)], args := [d] }
  | _ => none }
def keysNamesRow : OpenClaim := { program := "ytdmgfabppaffkaadoor", sum := "3b552c240c4fd558b68896379146fadf67aa570525d4ce1d31c326aa9f7a1aa9", func := "quoin/quoinlaw21.KeysNames", spec := "keysNames", inPlace := ["internal/bytealg.IndexByteString", "internal/bytealg.IndexString"], recurses := true, named := ["internal/bytealg.MaxLen", "internal/strconv.uint64pow10", "math/bits.deBruijn32tab", "math/bits.deBruijn64tab"], apart := false, laid := [("math/bits.deBruijn32tab", laid_math_bits_deBruijn32tab), ("math/bits.deBruijn64tab", laid_math_bits_deBruijn64tab), ("internal/strconv.uint64pow10", laid_internal_strconv_uint64pow10)] }
def KeysNamesSaid : Prop := keysNamesRow.holds Tryd.pinned (OpenSpec.ofChange keysNamesSpec)

/-- ITS FALSE NEIGHBOUR: 'it returns false'. Refute it at one input. -/
def keysNamesWrong : ChangeSpec := { name := "keysNames", fn := fun _ => fun
  | [d] => { results := [.lit (.bool false)], args := [d] }
  | _ => none }
def KeysNamesWrongFalsely : Prop := keysNamesRow.holds Tryd.pinned (OpenSpec.ofChange keysNamesWrong)

/-- 'quoinlaw21.KeysBack': WHATEVER THE INPUT: true; the input reads as it did. -/
def keysBackSpec : ChangeSpec := { name := "keysBack", fn := fun _ => fun
  | [d1, d2] => { results := [.lit (.bool true)], args := [d1, d2] }
  | _ => none }
def keysBackRow : OpenClaim := { program := "ytdmgfabppaffkaadoor", sum := "3b552c240c4fd558b68896379146fadf67aa570525d4ce1d31c326aa9f7a1aa9", func := "quoin/quoinlaw21.KeysBack", spec := "keysBack", inPlace := ["internal/bytealg.IndexByteString", "internal/bytealg.IndexString"], named := ["internal/bytealg.MaxLen", "internal/strconv.uint64pow10", "math/bits.deBruijn32tab", "math/bits.deBruijn64tab"], apart := false, laid := [("math/bits.deBruijn32tab", laid_math_bits_deBruijn32tab), ("math/bits.deBruijn64tab", laid_math_bits_deBruijn64tab), ("internal/strconv.uint64pow10", laid_internal_strconv_uint64pow10)] }
def KeysBackSaid : Prop := keysBackRow.holds Tryd.pinned (OpenSpec.ofChange keysBackSpec)

/-- ITS FALSE NEIGHBOUR: 'it returns false'. Refute it at one input. -/
def keysBackWrong : ChangeSpec := { name := "keysBack", fn := fun _ => fun
  | [d1, d2] => { results := [.lit (.bool false)], args := [d1, d2] }
  | _ => none }
def KeysBackWrongFalsely : Prop := keysBackRow.holds Tryd.pinned (OpenSpec.ofChange keysBackWrong)

/-- 'quoinlaw21.KeysOn': WHATEVER THE INPUT: true; the input reads as it did. -/
def keysOnSpec : ChangeSpec := { name := "keysOn", fn := fun _ => fun
  | [d1, d2] => { results := [.lit (.bool true)], args := [d1, d2] }
  | _ => none }
def keysOnRow : OpenClaim := { program := "ytdmgfabppaffkaadoor", sum := "3b552c240c4fd558b68896379146fadf67aa570525d4ce1d31c326aa9f7a1aa9", func := "quoin/quoinlaw21.KeysOn", spec := "keysOn", inPlace := ["internal/bytealg.IndexByteString", "internal/bytealg.IndexString"], named := ["internal/bytealg.MaxLen", "internal/strconv.uint64pow10", "math/bits.deBruijn32tab", "math/bits.deBruijn64tab"], apart := false, laid := [("math/bits.deBruijn32tab", laid_math_bits_deBruijn32tab), ("math/bits.deBruijn64tab", laid_math_bits_deBruijn64tab), ("internal/strconv.uint64pow10", laid_internal_strconv_uint64pow10)] }
def KeysOnSaid : Prop := keysOnRow.holds Tryd.pinned (OpenSpec.ofChange keysOnSpec)

/-- ITS FALSE NEIGHBOUR: 'it returns false'. Refute it at one input. -/
def keysOnWrong : ChangeSpec := { name := "keysOn", fn := fun _ => fun
  | [d1, d2] => { results := [.lit (.bool false)], args := [d1, d2] }
  | _ => none }
def KeysOnWrongFalsely : Prop := keysOnRow.holds Tryd.pinned (OpenSpec.ofChange keysOnWrong)

/-- 'quoinlaw21.KeysMore': WHATEVER THE INPUT: true; the input reads as it did. -/
def keysMoreSpec : ChangeSpec := { name := "keysMore", fn := fun _ => fun
  | [d] => { results := [.lit (.bool true)], args := [d] }
  | _ => none }
def keysMoreRow : OpenClaim := { program := "ytdmgfabppaffkaadoor", sum := "3b552c240c4fd558b68896379146fadf67aa570525d4ce1d31c326aa9f7a1aa9", func := "quoin/quoinlaw21.KeysMore", spec := "keysMore", inPlace := ["internal/bytealg.IndexByteString", "internal/bytealg.IndexString"], named := ["internal/bytealg.MaxLen", "internal/strconv.uint64pow10", "math/bits.deBruijn32tab", "math/bits.deBruijn64tab"], apart := false, laid := [("math/bits.deBruijn32tab", laid_math_bits_deBruijn32tab), ("math/bits.deBruijn64tab", laid_math_bits_deBruijn64tab), ("internal/strconv.uint64pow10", laid_internal_strconv_uint64pow10)] }
def KeysMoreSaid : Prop := keysMoreRow.holds Tryd.pinned (OpenSpec.ofChange keysMoreSpec)

/-- ITS FALSE NEIGHBOUR: 'it returns false'. Refute it at one input. -/
def keysMoreWrong : ChangeSpec := { name := "keysMore", fn := fun _ => fun
  | [d] => { results := [.lit (.bool false)], args := [d] }
  | _ => none }
def KeysMoreWrongFalsely : Prop := keysMoreRow.holds Tryd.pinned (OpenSpec.ofChange keysMoreWrong)

/-- 'quoinlaw21.KeysCounts': WHATEVER THE INPUT: true; the input reads as it did. -/
def keysCountsSpec : ChangeSpec := { name := "keysCounts", fn := fun _ => fun
  | [d1, d2, d3] => { results := [.lit (.bool true)], args := [d1, d2, d3] }
  | _ => none }
def keysCountsRow : OpenClaim := { program := "ytdmgfabppaffkaadoor", sum := "3b552c240c4fd558b68896379146fadf67aa570525d4ce1d31c326aa9f7a1aa9", func := "quoin/quoinlaw21.KeysCounts", spec := "keysCounts", inPlace := ["internal/bytealg.IndexByteString", "internal/bytealg.IndexString"], recurses := true, named := ["internal/bytealg.MaxLen", "internal/strconv.uint64pow10", "math/bits.deBruijn32tab", "math/bits.deBruijn64tab"], apart := false, laid := [("math/bits.deBruijn32tab", laid_math_bits_deBruijn32tab), ("math/bits.deBruijn64tab", laid_math_bits_deBruijn64tab), ("internal/strconv.uint64pow10", laid_internal_strconv_uint64pow10)] }
def KeysCountsSaid : Prop := keysCountsRow.holds Tryd.pinned (OpenSpec.ofChange keysCountsSpec)

/-- ITS FALSE NEIGHBOUR: 'it returns false'. Refute it at one input. -/
def keysCountsWrong : ChangeSpec := { name := "keysCounts", fn := fun _ => fun
  | [d1, d2, d3] => { results := [.lit (.bool false)], args := [d1, d2, d3] }
  | _ => none }
def KeysCountsWrongFalsely : Prop := keysCountsRow.holds Tryd.pinned (OpenSpec.ofChange keysCountsWrong)

/-- 'quoinlaw21.KeysKeeps': WHATEVER THE INPUT: true; the input reads as it did. -/
def keysKeepsSpec : ChangeSpec := { name := "keysKeeps", fn := fun _ => fun
  | [d1, d2] => { results := [.lit (.bool true)], args := [d1, d2] }
  | _ => none }
def keysKeepsRow : OpenClaim := { program := "ytdmgfabppaffkaadoor", sum := "3b552c240c4fd558b68896379146fadf67aa570525d4ce1d31c326aa9f7a1aa9", func := "quoin/quoinlaw21.KeysKeeps", spec := "keysKeeps", inPlace := ["internal/bytealg.IndexByteString", "internal/bytealg.IndexString"], named := ["internal/bytealg.MaxLen", "internal/strconv.uint64pow10", "math/bits.deBruijn32tab", "math/bits.deBruijn64tab"], apart := false, laid := [("math/bits.deBruijn32tab", laid_math_bits_deBruijn32tab), ("math/bits.deBruijn64tab", laid_math_bits_deBruijn64tab), ("internal/strconv.uint64pow10", laid_internal_strconv_uint64pow10)] }
def KeysKeepsSaid : Prop := keysKeepsRow.holds Tryd.pinned (OpenSpec.ofChange keysKeepsSpec)

/-- ITS FALSE NEIGHBOUR: 'it returns false'. Refute it at one input. -/
def keysKeepsWrong : ChangeSpec := { name := "keysKeeps", fn := fun _ => fun
  | [d1, d2] => { results := [.lit (.bool false)], args := [d1, d2] }
  | _ => none }
def KeysKeepsWrongFalsely : Prop := keysKeepsRow.holds Tryd.pinned (OpenSpec.ofChange keysKeepsWrong)

/- THE SECOND FORM. 'bulk': how many values and letters a reading holds, each counted each time it is reached (what is shared counts as often as it is met; a slice's spare places count too). A statement '..UptoSaid' is the law's where the arguments, and the package variables that the reading takes, are together of bulk at most 1048576: NARROWER than '..Said'. Prove '..Said' where nothing that the law and all that it calls make is longer than what came in: it says more and counts as full. Else prove '..UptoSaid'. A law counts once. -/
mutual
def uptoBulk {H : Type} : DataW H → Nat
  | .lit (.string bytes) => bytes.length + 1
  | .lit _ => 1
  | .nil => 1
  | .ptr d => uptoBulk d + 1
  | .slice elems spare => uptoBulkAll elems + uptoBulkAll spare + 1
  | .agg parts => uptoBulkAll parts + 1
  | .iface _ d => uptoBulk d + 1
  | .map entries => uptoBulkEntries entries + 1
  | .held _ => 1
def uptoBulkAll {H : Type} : List (DataW H) → Nat
  | [] => 0
  | d :: r => uptoBulk d + uptoBulkAll r
def uptoBulkEntries {H : Type} : List (Lit × DataW H) → Nat
  | [] => 0
  | x :: r => uptoBulkEntry x + uptoBulkEntries r
def uptoBulkEntry {H : Type} : Lit × DataW H → Nat
  | (.string bytes, d) => bytes.length + uptoBulk d + 1
  | (_, d) => uptoBulk d + 1
 end
def uptoSmall : (H : Type) → List (DataW H) → Bool := fun _ ds => decide (uptoBulkAll ds ≤ 1048576)
def OpenSpec.upto (s : _root_.Go.ChangeSpec) : _root_.Go.OpenSpec := { _root_.Go.OpenSpec.ofChange s with cond := some uptoSmall }

/-- 'quoinlaw21.KeysParse', WHERE WHAT IT READS IS OF BULK AT MOST 1048576: true; the input reads as it did. -/
def keysParseUptoRow : OpenClaim := { program := "ytdmgfabppaffkaadoor", sum := "3b552c240c4fd558b68896379146fadf67aa570525d4ce1d31c326aa9f7a1aa9", func := "quoin/quoinlaw21.KeysParse", spec := "keysParse", inPlace := ["internal/bytealg.IndexByteString", "internal/bytealg.IndexString"], named := ["internal/bytealg.MaxLen", "internal/strconv.uint64pow10", "math/bits.deBruijn32tab", "math/bits.deBruijn64tab"], apart := false, laid := [("math/bits.deBruijn32tab", laid_math_bits_deBruijn32tab), ("math/bits.deBruijn64tab", laid_math_bits_deBruijn64tab), ("internal/strconv.uint64pow10", laid_internal_strconv_uint64pow10)], narrowed := true }
def KeysParseUptoSaid : Prop := keysParseUptoRow.holds Tryd.pinned (OpenSpec.upto keysParseSpec)

/-- 'quoinlaw21.KeysNames', WHERE WHAT IT READS IS OF BULK AT MOST 1048576: true; the input reads as it did. -/
def keysNamesUptoRow : OpenClaim := { program := "ytdmgfabppaffkaadoor", sum := "3b552c240c4fd558b68896379146fadf67aa570525d4ce1d31c326aa9f7a1aa9", func := "quoin/quoinlaw21.KeysNames", spec := "keysNames", inPlace := ["internal/bytealg.IndexByteString", "internal/bytealg.IndexString"], recurses := true, named := ["internal/bytealg.MaxLen", "internal/strconv.uint64pow10", "math/bits.deBruijn32tab", "math/bits.deBruijn64tab"], apart := false, laid := [("math/bits.deBruijn32tab", laid_math_bits_deBruijn32tab), ("math/bits.deBruijn64tab", laid_math_bits_deBruijn64tab), ("internal/strconv.uint64pow10", laid_internal_strconv_uint64pow10)], narrowed := true }
def KeysNamesUptoSaid : Prop := keysNamesUptoRow.holds Tryd.pinned (OpenSpec.upto keysNamesSpec)

/-- 'quoinlaw21.KeysBack', WHERE WHAT IT READS IS OF BULK AT MOST 1048576: true; the input reads as it did. -/
def keysBackUptoRow : OpenClaim := { program := "ytdmgfabppaffkaadoor", sum := "3b552c240c4fd558b68896379146fadf67aa570525d4ce1d31c326aa9f7a1aa9", func := "quoin/quoinlaw21.KeysBack", spec := "keysBack", inPlace := ["internal/bytealg.IndexByteString", "internal/bytealg.IndexString"], named := ["internal/bytealg.MaxLen", "internal/strconv.uint64pow10", "math/bits.deBruijn32tab", "math/bits.deBruijn64tab"], apart := false, laid := [("math/bits.deBruijn32tab", laid_math_bits_deBruijn32tab), ("math/bits.deBruijn64tab", laid_math_bits_deBruijn64tab), ("internal/strconv.uint64pow10", laid_internal_strconv_uint64pow10)], narrowed := true }
def KeysBackUptoSaid : Prop := keysBackUptoRow.holds Tryd.pinned (OpenSpec.upto keysBackSpec)

/-- 'quoinlaw21.KeysOn', WHERE WHAT IT READS IS OF BULK AT MOST 1048576: true; the input reads as it did. -/
def keysOnUptoRow : OpenClaim := { program := "ytdmgfabppaffkaadoor", sum := "3b552c240c4fd558b68896379146fadf67aa570525d4ce1d31c326aa9f7a1aa9", func := "quoin/quoinlaw21.KeysOn", spec := "keysOn", inPlace := ["internal/bytealg.IndexByteString", "internal/bytealg.IndexString"], named := ["internal/bytealg.MaxLen", "internal/strconv.uint64pow10", "math/bits.deBruijn32tab", "math/bits.deBruijn64tab"], apart := false, laid := [("math/bits.deBruijn32tab", laid_math_bits_deBruijn32tab), ("math/bits.deBruijn64tab", laid_math_bits_deBruijn64tab), ("internal/strconv.uint64pow10", laid_internal_strconv_uint64pow10)], narrowed := true }
def KeysOnUptoSaid : Prop := keysOnUptoRow.holds Tryd.pinned (OpenSpec.upto keysOnSpec)

/-- 'quoinlaw21.KeysMore', WHERE WHAT IT READS IS OF BULK AT MOST 1048576: true; the input reads as it did. -/
def keysMoreUptoRow : OpenClaim := { program := "ytdmgfabppaffkaadoor", sum := "3b552c240c4fd558b68896379146fadf67aa570525d4ce1d31c326aa9f7a1aa9", func := "quoin/quoinlaw21.KeysMore", spec := "keysMore", inPlace := ["internal/bytealg.IndexByteString", "internal/bytealg.IndexString"], named := ["internal/bytealg.MaxLen", "internal/strconv.uint64pow10", "math/bits.deBruijn32tab", "math/bits.deBruijn64tab"], apart := false, laid := [("math/bits.deBruijn32tab", laid_math_bits_deBruijn32tab), ("math/bits.deBruijn64tab", laid_math_bits_deBruijn64tab), ("internal/strconv.uint64pow10", laid_internal_strconv_uint64pow10)], narrowed := true }
def KeysMoreUptoSaid : Prop := keysMoreUptoRow.holds Tryd.pinned (OpenSpec.upto keysMoreSpec)

/-- 'quoinlaw21.KeysCounts', WHERE WHAT IT READS IS OF BULK AT MOST 1048576: true; the input reads as it did. -/
def keysCountsUptoRow : OpenClaim := { program := "ytdmgfabppaffkaadoor", sum := "3b552c240c4fd558b68896379146fadf67aa570525d4ce1d31c326aa9f7a1aa9", func := "quoin/quoinlaw21.KeysCounts", spec := "keysCounts", inPlace := ["internal/bytealg.IndexByteString", "internal/bytealg.IndexString"], recurses := true, named := ["internal/bytealg.MaxLen", "internal/strconv.uint64pow10", "math/bits.deBruijn32tab", "math/bits.deBruijn64tab"], apart := false, laid := [("math/bits.deBruijn32tab", laid_math_bits_deBruijn32tab), ("math/bits.deBruijn64tab", laid_math_bits_deBruijn64tab), ("internal/strconv.uint64pow10", laid_internal_strconv_uint64pow10)], narrowed := true }
def KeysCountsUptoSaid : Prop := keysCountsUptoRow.holds Tryd.pinned (OpenSpec.upto keysCountsSpec)

/-- 'quoinlaw21.KeysKeeps', WHERE WHAT IT READS IS OF BULK AT MOST 1048576: true; the input reads as it did. -/
def keysKeepsUptoRow : OpenClaim := { program := "ytdmgfabppaffkaadoor", sum := "3b552c240c4fd558b68896379146fadf67aa570525d4ce1d31c326aa9f7a1aa9", func := "quoin/quoinlaw21.KeysKeeps", spec := "keysKeeps", inPlace := ["internal/bytealg.IndexByteString", "internal/bytealg.IndexString"], named := ["internal/bytealg.MaxLen", "internal/strconv.uint64pow10", "math/bits.deBruijn32tab", "math/bits.deBruijn64tab"], apart := false, laid := [("math/bits.deBruijn32tab", laid_math_bits_deBruijn32tab), ("math/bits.deBruijn64tab", laid_math_bits_deBruijn64tab), ("internal/strconv.uint64pow10", laid_internal_strconv_uint64pow10)], narrowed := true }
def KeysKeepsUptoSaid : Prop := keysKeepsUptoRow.holds Tryd.pinned (OpenSpec.upto keysKeepsSpec)

end Rows
end Go.Proofs.YtdmgfabppaffkaaDoor
