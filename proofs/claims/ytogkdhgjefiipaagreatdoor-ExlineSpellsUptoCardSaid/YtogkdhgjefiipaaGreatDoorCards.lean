/-
  DERIVED. GIVEN WITH THE SEED: THE CARDS: each row of YtogkdhgjefiipaaGreatDoorRows.lean that lists a variable, with what it lists TIED to the program's text (the seventh form; the later family's looks); each row that meets fmt, with fmt's text TOLD by the authors' own Lean function (tested against real Go, not proved from fmt's source: count such statements apart). THE CARD IS WHAT COUNTS. Prove the row's statement (the work); the ties are given (YtogkdhgjefiipaaGreatDoorTie.lean); close each card by the builder's one call (the guide's Derived/Test/ToyasCard.lean, 'card_holds'). Laid BY PROGRAM, IN A SANDBOX (cutbox-door.mjs). By AI agents, Wed Nov 11 2026. No macro, syntax, notation, axiom, sorry.
-/
import Derived.Test.YtogkdhgjefiipaaGreatDoorRows
import GoSem.ClaimSeven
namespace Go.Proofs.YtogkdhgjefiipaaGreatDoor
namespace Rows

/-- THE TIED CARD OF 'quoinlaw24.ExlineParses'. -/
def exlineParsesCard : Claim7 := { stood := { row := exlineParsesRow, standIns := [], harness := (true, "e6500460935fb662a78d944599bbb8040b837476831a143002fd0da424bbfa32"), looks := true }, kinds := [], alts := [], laidByText := true, laidKinds := [.data, .data, .data, .data, .pinned], laidTests := true, laidLooks := .later }
def ExlineParsesCardSaid : Prop := Claim7.holds Tryz.pinned (.plain (OpenSpec.ofChange exlineParsesSpec)) exlineParsesCard

/-- THE TIED CARD OF 'quoinlaw24.ExlineSpells'. -/
def exlineSpellsCard : Claim7 := { stood := { row := exlineSpellsRow, standIns := [], harness := (true, "e6500460935fb662a78d944599bbb8040b837476831a143002fd0da424bbfa32"), looks := true }, kinds := [], alts := [], laidByText := true, laidKinds := [.data, .data, .data, .data, .pinned], laidTests := true, laidLooks := .later }
def ExlineSpellsCardSaid : Prop := Claim7.holds Tryz.pinned (.plain (OpenSpec.ofChange exlineSpellsSpec)) exlineSpellsCard

/-- THE TIED CARD OF 'quoinlaw24.ExlineDoes'. -/
def exlineDoesCard : Claim7 := { stood := { row := exlineDoesRow, standIns := [], harness := (true, "e6500460935fb662a78d944599bbb8040b837476831a143002fd0da424bbfa32"), looks := true }, kinds := [], alts := [], laidByText := true, laidKinds := [.data, .data, .data, .data, .pinned], laidTests := true, laidLooks := .later }
def ExlineDoesCardSaid : Prop := Claim7.holds Tryz.pinned (.plain (OpenSpec.ofChange exlineDoesSpec)) exlineDoesCard

/-- THE TIED CARD OF 'quoinlaw24.ExlineBack'. -/
def exlineBackCard : Claim7 := { stood := { row := exlineBackRow, standIns := [], harness := (true, "e6500460935fb662a78d944599bbb8040b837476831a143002fd0da424bbfa32"), looks := true }, kinds := [], alts := [], laidByText := true, laidKinds := [.data, .data, .data, .data, .pinned], laidTests := true, laidLooks := .later }
def ExlineBackCardSaid : Prop := Claim7.holds Tryz.pinned (.plain (OpenSpec.ofChange exlineBackSpec)) exlineBackCard

/-- THE TIED CARD OF 'quoinlaw24.ExlineFits'. -/
def exlineFitsCard : Claim7 := { stood := { row := exlineFitsRow, standIns := [], harness := (true, "e6500460935fb662a78d944599bbb8040b837476831a143002fd0da424bbfa32"), looks := true }, kinds := [], alts := [], laidByText := true, laidKinds := [.data, .data, .data, .data, .pinned], laidTests := true, laidLooks := .later }
def ExlineFitsCardSaid : Prop := Claim7.holds Tryz.pinned (.plain (OpenSpec.ofChange exlineFitsSpec)) exlineFitsCard

/-- THE TIED CARD OF 'quoinlaw24.ExlineLines'. -/
def exlineLinesCard : Claim7 := { stood := { row := exlineLinesRow, standIns := [], harness := (true, "e6500460935fb662a78d944599bbb8040b837476831a143002fd0da424bbfa32"), looks := true }, kinds := [], alts := [], laidByText := true, laidKinds := [.data, .data, .data, .data, .pinned], laidTests := true, laidLooks := .later }
def ExlineLinesCardSaid : Prop := Claim7.holds Tryz.pinned (.plain (OpenSpec.ofChange exlineLinesSpec)) exlineLinesCard

/-- THE TIED CARD OF 'quoinlaw24.ExlineWhole'. -/
def exlineWholeCard : Claim7 := { stood := { row := exlineWholeRow, standIns := [], harness := (true, "e6500460935fb662a78d944599bbb8040b837476831a143002fd0da424bbfa32"), looks := true }, kinds := [], alts := [], laidByText := true, laidKinds := [.data, .data, .data, .data, .pinned], laidTests := true, laidLooks := .later }
def ExlineWholeCardSaid : Prop := Claim7.holds Tryz.pinned (.plain (OpenSpec.ofChange exlineWholeSpec)) exlineWholeCard

/-- THE TIED CARD OF 'quoinlaw24.ExlineKeeps'. -/
def exlineKeepsCard : Claim7 := { stood := { row := exlineKeepsRow, standIns := [], harness := (true, "e6500460935fb662a78d944599bbb8040b837476831a143002fd0da424bbfa32"), looks := true }, kinds := [], alts := [], laidByText := true, laidKinds := [.data, .data, .data, .data, .pinned], laidTests := true, laidLooks := .later }
def ExlineKeepsCardSaid : Prop := Claim7.holds Tryz.pinned (.plain (OpenSpec.ofChange exlineKeepsSpec)) exlineKeepsCard

/-- THE SECOND FORM's CARD OF 'quoinlaw24.ExlineParses'. -/
def exlineParsesUptoCard : Claim7 := { stood := { row := exlineParsesUptoRow, standIns := [], harness := (true, "e6500460935fb662a78d944599bbb8040b837476831a143002fd0da424bbfa32"), looks := true }, kinds := [], alts := [], laidByText := true, laidKinds := [.data, .data, .data, .data, .pinned], laidTests := true, laidLooks := .later }
def ExlineParsesUptoCardSaid : Prop := Claim7.holds Tryz.pinned (.plain (OpenSpec.upto exlineParsesSpec)) exlineParsesUptoCard

/-- THE SECOND FORM's CARD OF 'quoinlaw24.ExlineSpells'. -/
def exlineSpellsUptoCard : Claim7 := { stood := { row := exlineSpellsUptoRow, standIns := [], harness := (true, "e6500460935fb662a78d944599bbb8040b837476831a143002fd0da424bbfa32"), looks := true }, kinds := [], alts := [], laidByText := true, laidKinds := [.data, .data, .data, .data, .pinned], laidTests := true, laidLooks := .later }
def ExlineSpellsUptoCardSaid : Prop := Claim7.holds Tryz.pinned (.plain (OpenSpec.upto exlineSpellsSpec)) exlineSpellsUptoCard

/-- THE SECOND FORM's CARD OF 'quoinlaw24.ExlineDoes'. -/
def exlineDoesUptoCard : Claim7 := { stood := { row := exlineDoesUptoRow, standIns := [], harness := (true, "e6500460935fb662a78d944599bbb8040b837476831a143002fd0da424bbfa32"), looks := true }, kinds := [], alts := [], laidByText := true, laidKinds := [.data, .data, .data, .data, .pinned], laidTests := true, laidLooks := .later }
def ExlineDoesUptoCardSaid : Prop := Claim7.holds Tryz.pinned (.plain (OpenSpec.upto exlineDoesSpec)) exlineDoesUptoCard

/-- THE SECOND FORM's CARD OF 'quoinlaw24.ExlineBack'. -/
def exlineBackUptoCard : Claim7 := { stood := { row := exlineBackUptoRow, standIns := [], harness := (true, "e6500460935fb662a78d944599bbb8040b837476831a143002fd0da424bbfa32"), looks := true }, kinds := [], alts := [], laidByText := true, laidKinds := [.data, .data, .data, .data, .pinned], laidTests := true, laidLooks := .later }
def ExlineBackUptoCardSaid : Prop := Claim7.holds Tryz.pinned (.plain (OpenSpec.upto exlineBackSpec)) exlineBackUptoCard

/-- THE SECOND FORM's CARD OF 'quoinlaw24.ExlineFits'. -/
def exlineFitsUptoCard : Claim7 := { stood := { row := exlineFitsUptoRow, standIns := [], harness := (true, "e6500460935fb662a78d944599bbb8040b837476831a143002fd0da424bbfa32"), looks := true }, kinds := [], alts := [], laidByText := true, laidKinds := [.data, .data, .data, .data, .pinned], laidTests := true, laidLooks := .later }
def ExlineFitsUptoCardSaid : Prop := Claim7.holds Tryz.pinned (.plain (OpenSpec.upto exlineFitsSpec)) exlineFitsUptoCard

/-- THE SECOND FORM's CARD OF 'quoinlaw24.ExlineLines'. -/
def exlineLinesUptoCard : Claim7 := { stood := { row := exlineLinesUptoRow, standIns := [], harness := (true, "e6500460935fb662a78d944599bbb8040b837476831a143002fd0da424bbfa32"), looks := true }, kinds := [], alts := [], laidByText := true, laidKinds := [.data, .data, .data, .data, .pinned], laidTests := true, laidLooks := .later }
def ExlineLinesUptoCardSaid : Prop := Claim7.holds Tryz.pinned (.plain (OpenSpec.upto exlineLinesSpec)) exlineLinesUptoCard

/-- THE SECOND FORM's CARD OF 'quoinlaw24.ExlineWhole'. -/
def exlineWholeUptoCard : Claim7 := { stood := { row := exlineWholeUptoRow, standIns := [], harness := (true, "e6500460935fb662a78d944599bbb8040b837476831a143002fd0da424bbfa32"), looks := true }, kinds := [], alts := [], laidByText := true, laidKinds := [.data, .data, .data, .data, .pinned], laidTests := true, laidLooks := .later }
def ExlineWholeUptoCardSaid : Prop := Claim7.holds Tryz.pinned (.plain (OpenSpec.upto exlineWholeSpec)) exlineWholeUptoCard

/-- THE SECOND FORM's CARD OF 'quoinlaw24.ExlineKeeps'. -/
def exlineKeepsUptoCard : Claim7 := { stood := { row := exlineKeepsUptoRow, standIns := [], harness := (true, "e6500460935fb662a78d944599bbb8040b837476831a143002fd0da424bbfa32"), looks := true }, kinds := [], alts := [], laidByText := true, laidKinds := [.data, .data, .data, .data, .pinned], laidTests := true, laidLooks := .later }
def ExlineKeepsUptoCardSaid : Prop := Claim7.holds Tryz.pinned (.plain (OpenSpec.upto exlineKeepsSpec)) exlineKeepsUptoCard
end Rows
end Go.Proofs.YtogkdhgjefiipaaGreatDoor
