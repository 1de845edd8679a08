/-
  No cell of these rows narrows 'for every input' (looked for: loops, veiled, ifaces, maps, wideKeys, modest, calm, conditions, laid).
  DERIVED. THE GIVEN ROWS OF THIS SEAT. 5 by the template 'for every input the law returns true; each argument reads behind the call as it read before'; 0 by the template 'total and deterministic' (their statements: YtdmgfabppaffkaaTotals.lean).
  GIVEN WITH THE SEED: the statements are not yours to turn. If you find one false, say at which input.
  Laid BY PROGRAM, IN A SANDBOX (cutbox-rows.mjs): the forced cells as the released guide's own fill.sh prints them over the translation 6acd8bde628cae71… (all of the seat's roots in one cut). By AI agents, Wed Nov 11 2026. No macro, syntax, notation, axiom, sorry.
-/
import Derived.Test.YtdmgfabppaffkaaChecked
import GoSem.Claim
import GoSem.ClaimJoined
import GoSem.ClaimMapViews
import Derived.JoinedTies
import Derived.KernelRfl
namespace Go.Proofs.Ytdmgfabppaffkaa
/- THE CELL 'sum', in the pinned program and in every row, IS THE sha256 OF THE DUMP (.gsa) THAT YtdmgfabppaffkaaProg.lean LOADS. Nothing in Lean hashes anything: it is a label: what it is worth is what the hold of that sum in a sandbox is worth. -/
noncomputable def Try.pinned : Pinned := { name := "ytdmgfabppaffkaa", sum := "6acd8bde628cae71d20d2593c2f9cafa47ce238825f2d0b11b1d2ab16c876551", checked := Try.checked }
namespace Rows
def none {H : Type} : Left H := { results := [], args := [] }

/-- 'quoinlaw20.TypingPresses': WHATEVER THE INPUT: true; the input reads as it did. -/
def typingPressesSpec : ChangeSpec := { name := "typingPresses", fn := fun _ => fun
  | [d1, d2, d3] => { results := [.lit (.bool true)], args := [d1, d2, d3] }
  | _ => none }
def typingPressesRow : OpenClaim := { program := "ytdmgfabppaffkaa", sum := "6acd8bde628cae71d20d2593c2f9cafa47ce238825f2d0b11b1d2ab16c876551", func := "quoin/quoinlaw20.TypingPresses", spec := "typingPresses", inPlace := ["internal/bytealg.Count", "internal/bytealg.IndexByte", "internal/bytealg.Index", "internal/bytealg.MakeNoZero"], unfollowed := true, recurses := true, named := ["internal/bytealg.MaxLen"], apart := false }
def TypingPressesSaid : Prop := typingPressesRow.holds Try.pinned (OpenSpec.ofChange typingPressesSpec)

/-- ITS FALSE NEIGHBOUR: 'it returns false'. Refute it at one input. -/
def typingPressesWrong : ChangeSpec := { name := "typingPresses", fn := fun _ => fun
  | [d1, d2, d3] => { results := [.lit (.bool false)], args := [d1, d2, d3] }
  | _ => none }
def TypingPressesWrongFalsely : Prop := typingPressesRow.holds Try.pinned (OpenSpec.ofChange typingPressesWrong)

/-- 'quoinlaw20.TypingShows': WHATEVER THE INPUT: true; the input reads as it did. -/
def typingShowsSpec : ChangeSpec := { name := "typingShows", fn := fun _ => fun
  | [d1, d2] => { results := [.lit (.bool true)], args := [d1, d2] }
  | _ => none }
def typingShowsRow : OpenClaim := { program := "ytdmgfabppaffkaa", sum := "6acd8bde628cae71d20d2593c2f9cafa47ce238825f2d0b11b1d2ab16c876551", func := "quoin/quoinlaw20.TypingShows", spec := "typingShows", inPlace := ["internal/bytealg.Count", "internal/bytealg.IndexByte", "internal/bytealg.Index", "internal/bytealg.MakeNoZero"], unfollowed := true, recurses := true, named := ["internal/bytealg.MaxLen"], apart := false }
def TypingShowsSaid : Prop := typingShowsRow.holds Try.pinned (OpenSpec.ofChange typingShowsSpec)

/-- ITS FALSE NEIGHBOUR: 'it returns false'. Refute it at one input. -/
def typingShowsWrong : ChangeSpec := { name := "typingShows", fn := fun _ => fun
  | [d1, d2] => { results := [.lit (.bool false)], args := [d1, d2] }
  | _ => none }
def TypingShowsWrongFalsely : Prop := typingShowsRow.holds Try.pinned (OpenSpec.ofChange typingShowsWrong)

/-- 'quoinlaw20.TypingBack': WHATEVER THE INPUT: true; the input reads as it did. -/
def typingBackSpec : ChangeSpec := { name := "typingBack", fn := fun _ => fun
  | [d1, d2, d3] => { results := [.lit (.bool true)], args := [d1, d2, d3] }
  | _ => none }
def typingBackRow : OpenClaim := { program := "ytdmgfabppaffkaa", sum := "6acd8bde628cae71d20d2593c2f9cafa47ce238825f2d0b11b1d2ab16c876551", func := "quoin/quoinlaw20.TypingBack", spec := "typingBack", inPlace := ["internal/bytealg.Count", "internal/bytealg.IndexByte", "internal/bytealg.Index", "internal/bytealg.MakeNoZero"], unfollowed := true, recurses := true, named := ["internal/bytealg.MaxLen"], apart := false }
def TypingBackSaid : Prop := typingBackRow.holds Try.pinned (OpenSpec.ofChange typingBackSpec)

/-- ITS FALSE NEIGHBOUR: 'it returns false'. Refute it at one input. -/
def typingBackWrong : ChangeSpec := { name := "typingBack", fn := fun _ => fun
  | [d1, d2, d3] => { results := [.lit (.bool false)], args := [d1, d2, d3] }
  | _ => none }
def TypingBackWrongFalsely : Prop := typingBackRow.holds Try.pinned (OpenSpec.ofChange typingBackWrong)

/-- 'quoinlaw20.TypingOver': WHATEVER THE INPUT: true; the input reads as it did. -/
def typingOverSpec : ChangeSpec := { name := "typingOver", fn := fun _ => fun
  | [d1, d2, d3] => { results := [.lit (.bool true)], args := [d1, d2, d3] }
  | _ => none }
def typingOverRow : OpenClaim := { program := "ytdmgfabppaffkaa", sum := "6acd8bde628cae71d20d2593c2f9cafa47ce238825f2d0b11b1d2ab16c876551", func := "quoin/quoinlaw20.TypingOver", spec := "typingOver", inPlace := ["internal/bytealg.Count", "internal/bytealg.IndexByte", "internal/bytealg.Index", "internal/bytealg.MakeNoZero"], unfollowed := true, recurses := true, named := ["internal/bytealg.MaxLen"], apart := false }
def TypingOverSaid : Prop := typingOverRow.holds Try.pinned (OpenSpec.ofChange typingOverSpec)

/-- ITS FALSE NEIGHBOUR: 'it returns false'. Refute it at one input. -/
def typingOverWrong : ChangeSpec := { name := "typingOver", fn := fun _ => fun
  | [d1, d2, d3] => { results := [.lit (.bool false)], args := [d1, d2, d3] }
  | _ => none }
def TypingOverWrongFalsely : Prop := typingOverRow.holds Try.pinned (OpenSpec.ofChange typingOverWrong)

/-- 'quoinlaw20.TypingScripts': WHATEVER THE INPUT: true; the input reads as it did. -/
def typingScriptsSpec : ChangeSpec := { name := "typingScripts", fn := fun _ => fun
  | [d1, d2, d3] => { results := [.lit (.bool true)], args := [d1, d2, d3] }
  | _ => none }
def typingScriptsRow : OpenClaim := { program := "ytdmgfabppaffkaa", sum := "6acd8bde628cae71d20d2593c2f9cafa47ce238825f2d0b11b1d2ab16c876551", func := "quoin/quoinlaw20.TypingScripts", spec := "typingScripts", inPlace := ["internal/bytealg.Count", "internal/bytealg.IndexByte", "internal/bytealg.Index", "internal/bytealg.MakeNoZero"], unfollowed := true, recurses := true, named := ["internal/bytealg.MaxLen"], apart := false }
def TypingScriptsSaid : Prop := typingScriptsRow.holds Try.pinned (OpenSpec.ofChange typingScriptsSpec)

/-- ITS FALSE NEIGHBOUR: 'it returns false'. Refute it at one input. -/
def typingScriptsWrong : ChangeSpec := { name := "typingScripts", fn := fun _ => fun
  | [d1, d2, d3] => { results := [.lit (.bool false)], args := [d1, d2, d3] }
  | _ => none }
def TypingScriptsWrongFalsely : Prop := typingScriptsRow.holds Try.pinned (OpenSpec.ofChange typingScriptsWrong)

/- THE SECOND FORM. 'bulk': how many values and letters a reading holds, each counted each time it is reached (what is shared counts as often as it is met; a slice's spare places count too). A statement '..UptoSaid' is the law's where the arguments, and the package variables that the reading takes, are together of bulk at most 1048576: NARROWER than '..Said'. Prove '..Said' where nothing that the law and all that it calls make is longer than what came in: it says more and counts as full. Else prove '..UptoSaid'. A law counts once. -/
mutual
def uptoBulk {H : Type} : DataW H → Nat
  | .lit (.string bytes) => bytes.length + 1
  | .lit _ => 1
  | .nil => 1
  | .ptr d => uptoBulk d + 1
  | .slice elems spare => uptoBulkAll elems + uptoBulkAll spare + 1
  | .agg parts => uptoBulkAll parts + 1
  | .iface _ d => uptoBulk d + 1
  | .map entries => uptoBulkEntries entries + 1
  | .held _ => 1
def uptoBulkAll {H : Type} : List (DataW H) → Nat
  | [] => 0
  | d :: r => uptoBulk d + uptoBulkAll r
def uptoBulkEntries {H : Type} : List (Lit × DataW H) → Nat
  | [] => 0
  | x :: r => uptoBulkEntry x + uptoBulkEntries r
def uptoBulkEntry {H : Type} : Lit × DataW H → Nat
  | (.string bytes, d) => bytes.length + uptoBulk d + 1
  | (_, d) => uptoBulk d + 1
 end
def uptoSmall : (H : Type) → List (DataW H) → Bool := fun _ ds => decide (uptoBulkAll ds ≤ 1048576)
def OpenSpec.upto (s : _root_.Go.ChangeSpec) : _root_.Go.OpenSpec := { _root_.Go.OpenSpec.ofChange s with cond := some uptoSmall }

/-- 'quoinlaw20.TypingPresses', WHERE WHAT IT READS IS OF BULK AT MOST 1048576: true; the input reads as it did. -/
def typingPressesUptoRow : OpenClaim := { program := "ytdmgfabppaffkaa", sum := "6acd8bde628cae71d20d2593c2f9cafa47ce238825f2d0b11b1d2ab16c876551", func := "quoin/quoinlaw20.TypingPresses", spec := "typingPresses", inPlace := ["internal/bytealg.Count", "internal/bytealg.IndexByte", "internal/bytealg.Index", "internal/bytealg.MakeNoZero"], unfollowed := true, recurses := true, named := ["internal/bytealg.MaxLen"], apart := false, narrowed := true }
def TypingPressesUptoSaid : Prop := typingPressesUptoRow.holds Try.pinned (OpenSpec.upto typingPressesSpec)

/-- 'quoinlaw20.TypingShows', WHERE WHAT IT READS IS OF BULK AT MOST 1048576: true; the input reads as it did. -/
def typingShowsUptoRow : OpenClaim := { program := "ytdmgfabppaffkaa", sum := "6acd8bde628cae71d20d2593c2f9cafa47ce238825f2d0b11b1d2ab16c876551", func := "quoin/quoinlaw20.TypingShows", spec := "typingShows", inPlace := ["internal/bytealg.Count", "internal/bytealg.IndexByte", "internal/bytealg.Index", "internal/bytealg.MakeNoZero"], unfollowed := true, recurses := true, named := ["internal/bytealg.MaxLen"], apart := false, narrowed := true }
def TypingShowsUptoSaid : Prop := typingShowsUptoRow.holds Try.pinned (OpenSpec.upto typingShowsSpec)

/-- 'quoinlaw20.TypingBack', WHERE WHAT IT READS IS OF BULK AT MOST 1048576: true; the input reads as it did. -/
def typingBackUptoRow : OpenClaim := { program := "ytdmgfabppaffkaa", sum := "6acd8bde628cae71d20d2593c2f9cafa47ce238825f2d0b11b1d2ab16c876551", func := "quoin/quoinlaw20.TypingBack", spec := "typingBack", inPlace := ["internal/bytealg.Count", "internal/bytealg.IndexByte", "internal/bytealg.Index", "internal/bytealg.MakeNoZero"], unfollowed := true, recurses := true, named := ["internal/bytealg.MaxLen"], apart := false, narrowed := true }
def TypingBackUptoSaid : Prop := typingBackUptoRow.holds Try.pinned (OpenSpec.upto typingBackSpec)

/-- 'quoinlaw20.TypingOver', WHERE WHAT IT READS IS OF BULK AT MOST 1048576: true; the input reads as it did. -/
def typingOverUptoRow : OpenClaim := { program := "ytdmgfabppaffkaa", sum := "6acd8bde628cae71d20d2593c2f9cafa47ce238825f2d0b11b1d2ab16c876551", func := "quoin/quoinlaw20.TypingOver", spec := "typingOver", inPlace := ["internal/bytealg.Count", "internal/bytealg.IndexByte", "internal/bytealg.Index", "internal/bytealg.MakeNoZero"], unfollowed := true, recurses := true, named := ["internal/bytealg.MaxLen"], apart := false, narrowed := true }
def TypingOverUptoSaid : Prop := typingOverUptoRow.holds Try.pinned (OpenSpec.upto typingOverSpec)

/-- 'quoinlaw20.TypingScripts', WHERE WHAT IT READS IS OF BULK AT MOST 1048576: true; the input reads as it did. -/
def typingScriptsUptoRow : OpenClaim := { program := "ytdmgfabppaffkaa", sum := "6acd8bde628cae71d20d2593c2f9cafa47ce238825f2d0b11b1d2ab16c876551", func := "quoin/quoinlaw20.TypingScripts", spec := "typingScripts", inPlace := ["internal/bytealg.Count", "internal/bytealg.IndexByte", "internal/bytealg.Index", "internal/bytealg.MakeNoZero"], unfollowed := true, recurses := true, named := ["internal/bytealg.MaxLen"], apart := false, narrowed := true }
def TypingScriptsUptoSaid : Prop := typingScriptsUptoRow.holds Try.pinned (OpenSpec.upto typingScriptsSpec)

end Rows
end Go.Proofs.Ytdmgfabppaffkaa
