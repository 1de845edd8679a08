/-
  DERIVED. GIVEN WITH THE SEED: THE CARDS: each row of YteekiicblankjaaGreatDoorRows.lean that lists a variable, with what it lists TIED to the program's text (the seventh form; the later family's looks); each row that meets fmt, with fmt's text TOLD by the authors' own Lean function (tested against real Go, not proved from fmt's source: count such statements apart). THE CARD IS WHAT COUNTS. Prove the row's statement (the work); the ties are given (YteekiicblankjaaGreatDoorTie.lean); close each card by the builder's one call (the guide's Derived/Test/ToyasCard.lean, 'card_holds'). Laid BY PROGRAM, IN A SANDBOX (cutbox-door.mjs). By AI agents, Wed Nov 11 2026. No macro, syntax, notation, axiom, sorry.
-/
import Derived.Test.YteekiicblankjaaGreatDoorRows
import GoSem.ClaimSeven
namespace Go.Proofs.YteekiicblankjaaGreatDoor
namespace Rows

/-- THE TIED CARD OF 'quoinlaw28.SessionWrites'. -/
def sessionWritesCard : Claim7 := { stood := { row := sessionWritesRow, standIns := [], harness := (true, "b2a86d2d6abcd8f8082318d318aa156b105244e5ee2aeb3bedcab52329b9b23c"), looks := true }, kinds := [], alts := [], goes := true, laidByText := true, laidKinds := [.pinned, .data, .pinned, .sentinel, .data, .data, .data, .handle], laidTests := true, laidLooks := .later }
def SessionWritesCardSaid : Prop := Claim7.holds Tryz.pinned (.plain (OpenSpec.ofChange sessionWritesSpec)) sessionWritesCard

/-- THE TIED CARD OF 'quoinlaw28.SessionBack'. -/
def sessionBackCard : Claim7 := { stood := { row := sessionBackRow, standIns := [], harness := (true, "b2a86d2d6abcd8f8082318d318aa156b105244e5ee2aeb3bedcab52329b9b23c"), looks := true }, kinds := [], alts := [], goes := true, laidByText := true, laidKinds := [.pinned, .data, .pinned, .sentinel, .data, .data, .data, .handle], laidTests := true, laidLooks := .later }
def SessionBackCardSaid : Prop := Claim7.holds Tryz.pinned (.plain (OpenSpec.ofChange sessionBackSpec)) sessionBackCard

/-- THE SECOND FORM's CARD OF 'quoinlaw28.SessionWrites'. -/
def sessionWritesUptoCard : Claim7 := { stood := { row := sessionWritesUptoRow, standIns := [], harness := (true, "b2a86d2d6abcd8f8082318d318aa156b105244e5ee2aeb3bedcab52329b9b23c"), looks := true }, kinds := [], alts := [], goes := true, laidByText := true, laidKinds := [.pinned, .data, .pinned, .sentinel, .data, .data, .data, .handle], laidTests := true, laidLooks := .later }
def SessionWritesUptoCardSaid : Prop := Claim7.holds Tryz.pinned (.plain (OpenSpec.upto sessionWritesSpec)) sessionWritesUptoCard

/-- THE SECOND FORM's CARD OF 'quoinlaw28.SessionBack'. -/
def sessionBackUptoCard : Claim7 := { stood := { row := sessionBackUptoRow, standIns := [], harness := (true, "b2a86d2d6abcd8f8082318d318aa156b105244e5ee2aeb3bedcab52329b9b23c"), looks := true }, kinds := [], alts := [], goes := true, laidByText := true, laidKinds := [.pinned, .data, .pinned, .sentinel, .data, .data, .data, .handle], laidTests := true, laidLooks := .later }
def SessionBackUptoCardSaid : Prop := Claim7.holds Tryz.pinned (.plain (OpenSpec.upto sessionBackSpec)) sessionBackUptoCard
end Rows
end Go.Proofs.YteekiicblankjaaGreatDoor
