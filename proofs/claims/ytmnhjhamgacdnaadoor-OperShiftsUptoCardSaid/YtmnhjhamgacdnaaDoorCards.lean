/-
  DERIVED. GIVEN WITH THE SEED: THE CARDS: each row of YtmnhjhamgacdnaaDoorRows.lean that lists a variable, with what it lists TIED to the program's text (the seventh form; the later family's looks); each row that meets fmt, with fmt's text TOLD by the authors' own Lean function (tested against real Go, not proved from fmt's source: count such statements apart). THE CARD IS WHAT COUNTS. Prove the row's statement (the work); the ties are given (YtmnhjhamgacdnaaDoorTie.lean); close each card by the builder's one call (the guide's Derived/Test/ToyasCard.lean, 'card_holds'). Laid BY PROGRAM, IN A SANDBOX (cutbox-door.mjs). By AI agents, Wed Nov 11 2026. No macro, syntax, notation, axiom, sorry.
-/
import Derived.Test.YtmnhjhamgacdnaaDoorRows
import GoSem.ClaimSeven
namespace Go.Proofs.YtmnhjhamgacdnaaDoor
namespace Rows

/-- THE TIED CARD OF 'quoinlaw22.AgainReads'. -/
def againReadsCard : Claim7 := { stood := { row := againReadsRow, standIns := [], harness := (true, "f6b844967d394302ab4ce77e9e204de4bc1f700d372f70138b5911f117bce17b"), looks := false }, kinds := [], alts := [], laidByText := true, laidKinds := [.data, .data, .data, .data, .pinned], laidTests := true, laidLooks := .later }
def AgainReadsCardSaid : Prop := Claim7.holds Tryd.pinned (.plain (OpenSpec.ofChange againReadsSpec)) againReadsCard

/-- THE TIED CARD OF 'quoinlaw22.AgainDots'. -/
def againDotsCard : Claim7 := { stood := { row := againDotsRow, standIns := [], harness := (true, "f6b844967d394302ab4ce77e9e204de4bc1f700d372f70138b5911f117bce17b"), looks := false }, kinds := [], alts := [], laidByText := true, laidKinds := [.data, .data, .data, .data, .pinned], laidTests := true, laidLooks := .later }
def AgainDotsCardSaid : Prop := Claim7.holds Tryd.pinned (.plain (OpenSpec.ofChange againDotsSpec)) againDotsCard

/-- THE TIED CARD OF 'quoinlaw19.OperPuts'. -/
def operPutsCard : Claim7 := { stood := { row := operPutsRow, standIns := [], harness := (true, "f6b844967d394302ab4ce77e9e204de4bc1f700d372f70138b5911f117bce17b"), looks := false }, kinds := [], alts := [], laidByText := true, laidKinds := [.data, .pinned], laidTests := true, laidLooks := .later }
def OperPutsCardSaid : Prop := Claim7.holds Tryd.pinned (.plain (OpenSpec.ofChange operPutsSpec)) operPutsCard

/-- THE TIED CARD OF 'quoinlaw19.OperBack'. -/
def operBackCard : Claim7 := { stood := { row := operBackRow, standIns := [], harness := (true, "f6b844967d394302ab4ce77e9e204de4bc1f700d372f70138b5911f117bce17b"), looks := false }, kinds := [], alts := [], laidByText := true, laidKinds := [.data, .pinned], laidTests := true, laidLooks := .later }
def OperBackCardSaid : Prop := Claim7.holds Tryd.pinned (.plain (OpenSpec.ofChange operBackSpec)) operBackCard

/-- THE TIED CARD OF 'quoinlaw19.OperCases'. -/
def operCasesCard : Claim7 := { stood := { row := operCasesRow, standIns := [], harness := (true, "f6b844967d394302ab4ce77e9e204de4bc1f700d372f70138b5911f117bce17b"), looks := false }, kinds := [], alts := [], laidByText := true, laidKinds := [.data, .pinned], laidTests := true, laidLooks := .later }
def OperCasesCardSaid : Prop := Claim7.holds Tryd.pinned (.plain (OpenSpec.ofChange operCasesSpec)) operCasesCard

/-- THE TIED CARD OF 'quoinlaw19.OperShifts'. -/
def operShiftsCard : Claim7 := { stood := { row := operShiftsRow, standIns := [], harness := (true, "f6b844967d394302ab4ce77e9e204de4bc1f700d372f70138b5911f117bce17b"), looks := false }, kinds := [], alts := [], laidByText := true, laidKinds := [.data, .pinned], laidTests := true, laidLooks := .later }
def OperShiftsCardSaid : Prop := Claim7.holds Tryd.pinned (.plain (OpenSpec.ofChange operShiftsSpec)) operShiftsCard

/-- THE TIED CARD OF 'quoinlaw19.OperFits'. -/
def operFitsCard : Claim7 := { stood := { row := operFitsRow, standIns := [], harness := (true, "f6b844967d394302ab4ce77e9e204de4bc1f700d372f70138b5911f117bce17b"), looks := false }, kinds := [], alts := [], laidByText := true, laidKinds := [.data, .pinned], laidTests := true, laidLooks := .later }
def OperFitsCardSaid : Prop := Claim7.holds Tryd.pinned (.plain (OpenSpec.ofChange operFitsSpec)) operFitsCard

/-- THE SECOND FORM's CARD OF 'quoinlaw22.AgainReads'. -/
def againReadsUptoCard : Claim7 := { stood := { row := againReadsUptoRow, standIns := [], harness := (true, "f6b844967d394302ab4ce77e9e204de4bc1f700d372f70138b5911f117bce17b"), looks := false }, kinds := [], alts := [], laidByText := true, laidKinds := [.data, .data, .data, .data, .pinned], laidTests := true, laidLooks := .later }
def AgainReadsUptoCardSaid : Prop := Claim7.holds Tryd.pinned (.plain (OpenSpec.upto againReadsSpec)) againReadsUptoCard

/-- THE SECOND FORM's CARD OF 'quoinlaw22.AgainDots'. -/
def againDotsUptoCard : Claim7 := { stood := { row := againDotsUptoRow, standIns := [], harness := (true, "f6b844967d394302ab4ce77e9e204de4bc1f700d372f70138b5911f117bce17b"), looks := false }, kinds := [], alts := [], laidByText := true, laidKinds := [.data, .data, .data, .data, .pinned], laidTests := true, laidLooks := .later }
def AgainDotsUptoCardSaid : Prop := Claim7.holds Tryd.pinned (.plain (OpenSpec.upto againDotsSpec)) againDotsUptoCard

/-- THE SECOND FORM's CARD OF 'quoinlaw19.OperPuts'. -/
def operPutsUptoCard : Claim7 := { stood := { row := operPutsUptoRow, standIns := [], harness := (true, "f6b844967d394302ab4ce77e9e204de4bc1f700d372f70138b5911f117bce17b"), looks := false }, kinds := [], alts := [], laidByText := true, laidKinds := [.data, .pinned], laidTests := true, laidLooks := .later }
def OperPutsUptoCardSaid : Prop := Claim7.holds Tryd.pinned (.plain (OpenSpec.upto operPutsSpec)) operPutsUptoCard

/-- THE SECOND FORM's CARD OF 'quoinlaw19.OperBack'. -/
def operBackUptoCard : Claim7 := { stood := { row := operBackUptoRow, standIns := [], harness := (true, "f6b844967d394302ab4ce77e9e204de4bc1f700d372f70138b5911f117bce17b"), looks := false }, kinds := [], alts := [], laidByText := true, laidKinds := [.data, .pinned], laidTests := true, laidLooks := .later }
def OperBackUptoCardSaid : Prop := Claim7.holds Tryd.pinned (.plain (OpenSpec.upto operBackSpec)) operBackUptoCard

/-- THE SECOND FORM's CARD OF 'quoinlaw19.OperCases'. -/
def operCasesUptoCard : Claim7 := { stood := { row := operCasesUptoRow, standIns := [], harness := (true, "f6b844967d394302ab4ce77e9e204de4bc1f700d372f70138b5911f117bce17b"), looks := false }, kinds := [], alts := [], laidByText := true, laidKinds := [.data, .pinned], laidTests := true, laidLooks := .later }
def OperCasesUptoCardSaid : Prop := Claim7.holds Tryd.pinned (.plain (OpenSpec.upto operCasesSpec)) operCasesUptoCard

/-- THE SECOND FORM's CARD OF 'quoinlaw19.OperShifts'. -/
def operShiftsUptoCard : Claim7 := { stood := { row := operShiftsUptoRow, standIns := [], harness := (true, "f6b844967d394302ab4ce77e9e204de4bc1f700d372f70138b5911f117bce17b"), looks := false }, kinds := [], alts := [], laidByText := true, laidKinds := [.data, .pinned], laidTests := true, laidLooks := .later }
def OperShiftsUptoCardSaid : Prop := Claim7.holds Tryd.pinned (.plain (OpenSpec.upto operShiftsSpec)) operShiftsUptoCard

/-- THE SECOND FORM's CARD OF 'quoinlaw19.OperFits'. -/
def operFitsUptoCard : Claim7 := { stood := { row := operFitsUptoRow, standIns := [], harness := (true, "f6b844967d394302ab4ce77e9e204de4bc1f700d372f70138b5911f117bce17b"), looks := false }, kinds := [], alts := [], laidByText := true, laidKinds := [.data, .pinned], laidTests := true, laidLooks := .later }
def OperFitsUptoCardSaid : Prop := Claim7.holds Tryd.pinned (.plain (OpenSpec.upto operFitsSpec)) operFitsUptoCard
end Rows
end Go.Proofs.YtmnhjhamgacdnaaDoor
