/-
  DERIVED. GIVEN WITH THE SEED: THE CARDS: each row of YtdmgfabppaffkaaDoorRows.lean that lists a variable, with what it lists TIED to the program's text (the seventh form; the later family's looks); each row that meets fmt, with fmt's text TOLD by the authors' own Lean function (tested against real Go, not proved from fmt's source: count such statements apart). THE CARD IS WHAT COUNTS. Prove the row's statement (the work); the ties are given (YtdmgfabppaffkaaDoorTie.lean); close each card by the builder's one call (the guide's Derived/Test/ToyasCard.lean, 'card_holds'). Laid BY PROGRAM, IN A SANDBOX (cutbox-door.mjs). By AI agents, Wed Nov 11 2026. No macro, syntax, notation, axiom, sorry.
-/
import Derived.Test.YtdmgfabppaffkaaDoorRows
import GoSem.ClaimSeven
namespace Go.Proofs.YtdmgfabppaffkaaDoor
namespace Rows

/-- THE TIED CARD OF 'quoinlaw21.KeysParse'. -/
def keysParseCard : Claim7 := { stood := { row := keysParseRow, standIns := [], harness := (true, "bd2230dce7e689f4c1af42c8fc434da7a22a568a8cacd7b95836bdb7ba6a2df6"), looks := false }, kinds := [], alts := [], laidByText := true, laidKinds := [.data, .data, .data], laidTests := true, laidLooks := .later }
def KeysParseCardSaid : Prop := Claim7.holds Tryd.pinned (.plain (OpenSpec.ofChange keysParseSpec)) keysParseCard

/-- THE TIED CARD OF 'quoinlaw21.KeysNames'. -/
def keysNamesCard : Claim7 := { stood := { row := keysNamesRow, standIns := [], harness := (true, "bd2230dce7e689f4c1af42c8fc434da7a22a568a8cacd7b95836bdb7ba6a2df6"), looks := false }, kinds := [], alts := [], laidByText := true, laidKinds := [.data, .data, .data], laidTests := true, laidLooks := .later }
def KeysNamesCardSaid : Prop := Claim7.holds Tryd.pinned (.plain (OpenSpec.ofChange keysNamesSpec)) keysNamesCard

/-- THE TIED CARD OF 'quoinlaw21.KeysBack'. -/
def keysBackCard : Claim7 := { stood := { row := keysBackRow, standIns := [], harness := (true, "bd2230dce7e689f4c1af42c8fc434da7a22a568a8cacd7b95836bdb7ba6a2df6"), looks := false }, kinds := [], alts := [], laidByText := true, laidKinds := [.data, .data, .data], laidTests := true, laidLooks := .later }
def KeysBackCardSaid : Prop := Claim7.holds Tryd.pinned (.plain (OpenSpec.ofChange keysBackSpec)) keysBackCard

/-- THE TIED CARD OF 'quoinlaw21.KeysOn'. -/
def keysOnCard : Claim7 := { stood := { row := keysOnRow, standIns := [], harness := (true, "bd2230dce7e689f4c1af42c8fc434da7a22a568a8cacd7b95836bdb7ba6a2df6"), looks := false }, kinds := [], alts := [], laidByText := true, laidKinds := [.data, .data, .data], laidTests := true, laidLooks := .later }
def KeysOnCardSaid : Prop := Claim7.holds Tryd.pinned (.plain (OpenSpec.ofChange keysOnSpec)) keysOnCard

/-- THE TIED CARD OF 'quoinlaw21.KeysMore'. -/
def keysMoreCard : Claim7 := { stood := { row := keysMoreRow, standIns := [], harness := (true, "bd2230dce7e689f4c1af42c8fc434da7a22a568a8cacd7b95836bdb7ba6a2df6"), looks := false }, kinds := [], alts := [], laidByText := true, laidKinds := [.data, .data, .data], laidTests := true, laidLooks := .later }
def KeysMoreCardSaid : Prop := Claim7.holds Tryd.pinned (.plain (OpenSpec.ofChange keysMoreSpec)) keysMoreCard

/-- THE TIED CARD OF 'quoinlaw21.KeysCounts'. -/
def keysCountsCard : Claim7 := { stood := { row := keysCountsRow, standIns := [], harness := (true, "bd2230dce7e689f4c1af42c8fc434da7a22a568a8cacd7b95836bdb7ba6a2df6"), looks := false }, kinds := [], alts := [], laidByText := true, laidKinds := [.data, .data, .data], laidTests := true, laidLooks := .later }
def KeysCountsCardSaid : Prop := Claim7.holds Tryd.pinned (.plain (OpenSpec.ofChange keysCountsSpec)) keysCountsCard

/-- THE TIED CARD OF 'quoinlaw21.KeysKeeps'. -/
def keysKeepsCard : Claim7 := { stood := { row := keysKeepsRow, standIns := [], harness := (true, "bd2230dce7e689f4c1af42c8fc434da7a22a568a8cacd7b95836bdb7ba6a2df6"), looks := false }, kinds := [], alts := [], laidByText := true, laidKinds := [.data, .data, .data], laidTests := true, laidLooks := .later }
def KeysKeepsCardSaid : Prop := Claim7.holds Tryd.pinned (.plain (OpenSpec.ofChange keysKeepsSpec)) keysKeepsCard

/-- THE SECOND FORM's CARD OF 'quoinlaw21.KeysParse'. -/
def keysParseUptoCard : Claim7 := { stood := { row := keysParseUptoRow, standIns := [], harness := (true, "bd2230dce7e689f4c1af42c8fc434da7a22a568a8cacd7b95836bdb7ba6a2df6"), looks := false }, kinds := [], alts := [], laidByText := true, laidKinds := [.data, .data, .data], laidTests := true, laidLooks := .later }
def KeysParseUptoCardSaid : Prop := Claim7.holds Tryd.pinned (.plain (OpenSpec.upto keysParseSpec)) keysParseUptoCard

/-- THE SECOND FORM's CARD OF 'quoinlaw21.KeysNames'. -/
def keysNamesUptoCard : Claim7 := { stood := { row := keysNamesUptoRow, standIns := [], harness := (true, "bd2230dce7e689f4c1af42c8fc434da7a22a568a8cacd7b95836bdb7ba6a2df6"), looks := false }, kinds := [], alts := [], laidByText := true, laidKinds := [.data, .data, .data], laidTests := true, laidLooks := .later }
def KeysNamesUptoCardSaid : Prop := Claim7.holds Tryd.pinned (.plain (OpenSpec.upto keysNamesSpec)) keysNamesUptoCard

/-- THE SECOND FORM's CARD OF 'quoinlaw21.KeysBack'. -/
def keysBackUptoCard : Claim7 := { stood := { row := keysBackUptoRow, standIns := [], harness := (true, "bd2230dce7e689f4c1af42c8fc434da7a22a568a8cacd7b95836bdb7ba6a2df6"), looks := false }, kinds := [], alts := [], laidByText := true, laidKinds := [.data, .data, .data], laidTests := true, laidLooks := .later }
def KeysBackUptoCardSaid : Prop := Claim7.holds Tryd.pinned (.plain (OpenSpec.upto keysBackSpec)) keysBackUptoCard

/-- THE SECOND FORM's CARD OF 'quoinlaw21.KeysOn'. -/
def keysOnUptoCard : Claim7 := { stood := { row := keysOnUptoRow, standIns := [], harness := (true, "bd2230dce7e689f4c1af42c8fc434da7a22a568a8cacd7b95836bdb7ba6a2df6"), looks := false }, kinds := [], alts := [], laidByText := true, laidKinds := [.data, .data, .data], laidTests := true, laidLooks := .later }
def KeysOnUptoCardSaid : Prop := Claim7.holds Tryd.pinned (.plain (OpenSpec.upto keysOnSpec)) keysOnUptoCard

/-- THE SECOND FORM's CARD OF 'quoinlaw21.KeysMore'. -/
def keysMoreUptoCard : Claim7 := { stood := { row := keysMoreUptoRow, standIns := [], harness := (true, "bd2230dce7e689f4c1af42c8fc434da7a22a568a8cacd7b95836bdb7ba6a2df6"), looks := false }, kinds := [], alts := [], laidByText := true, laidKinds := [.data, .data, .data], laidTests := true, laidLooks := .later }
def KeysMoreUptoCardSaid : Prop := Claim7.holds Tryd.pinned (.plain (OpenSpec.upto keysMoreSpec)) keysMoreUptoCard

/-- THE SECOND FORM's CARD OF 'quoinlaw21.KeysCounts'. -/
def keysCountsUptoCard : Claim7 := { stood := { row := keysCountsUptoRow, standIns := [], harness := (true, "bd2230dce7e689f4c1af42c8fc434da7a22a568a8cacd7b95836bdb7ba6a2df6"), looks := false }, kinds := [], alts := [], laidByText := true, laidKinds := [.data, .data, .data], laidTests := true, laidLooks := .later }
def KeysCountsUptoCardSaid : Prop := Claim7.holds Tryd.pinned (.plain (OpenSpec.upto keysCountsSpec)) keysCountsUptoCard

/-- THE SECOND FORM's CARD OF 'quoinlaw21.KeysKeeps'. -/
def keysKeepsUptoCard : Claim7 := { stood := { row := keysKeepsUptoRow, standIns := [], harness := (true, "bd2230dce7e689f4c1af42c8fc434da7a22a568a8cacd7b95836bdb7ba6a2df6"), looks := false }, kinds := [], alts := [], laidByText := true, laidKinds := [.data, .data, .data], laidTests := true, laidLooks := .later }
def KeysKeepsUptoCardSaid : Prop := Claim7.holds Tryd.pinned (.plain (OpenSpec.upto keysKeepsSpec)) keysKeepsUptoCard
end Rows
end Go.Proofs.YtdmgfabppaffkaaDoor
