/- TypingFinished: whatever the input, up to the bulk that the statement names, the law answers true, and what was handed in reads as it did. Its conditions: the bound of the given statement, no other. -/
import Derived.Test.YtdmgfabppaffkabF11
set_option linter.unusedVariables false
set_option linter.unusedSectionVars false
set_option linter.unusedSimpArgs false
namespace Go.VE
open Go Go.Proofs
/-! ### quoin/typing.Finish -/
def typing_Finish_G : List (Nat × App) := [(11, typing_fits_S), (12, bytes_Count_S), (13, typing_Finish_1_S), (16, bytes_Repeat_S), (17, bytes_Clone_S)]
theorem typing_Finish_Gok : GOk Try.prog (getG typing_Finish_G) := GOk.cons typing_fits_ok (GOk.cons bytes_Count_ok (GOk.cons typing_Finish_1_ok (GOk.cons bytes_Repeat_ok (GOk.cons bytes_Clone_ok (GOk.nil)))))
theorem typing_Finish_st : storesC (bodyOf Try.f5) = true := by kernel_rfl
def typing_Finish_d0 : List LS := [.b 2 16 [], .b 3 24 [], .f 7 13 [24, 16, 48], .v 8 (.int .i64), .o 9 77 5 (.int .u8), .v 10 (.int .i64), .c 16 (.sl (.int .u8)), .c 24 (.st (.pair (.int .u8) (.pair (.int .i64) (.pair (.sl (.int .u8)) (.pair (.int .i64) (.int .i64)))))), .c 48 (.int .i64)]
def typing_Finish_d0r : List LS := [.o 4 37 39 (.st (.pair (.int .i64) (.pair (.sl (.int .u8)) (.sl (.int .u8))))), .v 5 (.int .i64)]
def typing_Finish_dx0 : DX := ⟨none, some typing_Finish_d0r, []⟩
def typing_Finish_J0 (kr : List ((Int × List Int × List Int)) → Int → Prop) (n8 : Int) (text9 : List Int) (at10 : Int) (base2b : List Int) (y3b : (Int × Int × List Int × Int × Int)) (fresh6b : Int) : Prop :=
 bif (decide ((List.length text9 : Int) = (0 : Int))) then
 kr ([] : List ((Int × List Int × List Int))) at10
 else
 (
 (
 (
 typing_Finish_1_P n8 y3b base2b fresh6b ∧ (
 ∀ (r5 : Int), r5 = typing_Finish_1_F n8 y3b base2b fresh6b → (
 wfR (.one (.v (.int .i64) r5)) → (
 bif decide (0 ≤ y3b.2.1 ∧ y3b.2.1 ≤ (IntKind.wrap .i64 (y3b.2.1 + r5)) ∧ (IntKind.wrap .i64 (y3b.2.1 + r5)) ≤ (List.length base2b : Int)) then
 bytes_Clone_P (slc base2b y3b.2.1 (IntKind.wrap .i64 (y3b.2.1 + r5))) ∧ (
 ∀ (r6 : List Int), r6 = bytes_Clone_F (slc base2b y3b.2.1 (IntKind.wrap .i64 (y3b.2.1 + r5))) → (
 wfR (.one (.fr 5 (.int .u8) r6)) → (
 kr ([(y3b.2.1, r6, text9)] : List ((Int × List Int × List Int))) at10)))
 else False)))) ∧ (
 typing_Finish_1_P n8 y3b base2b fresh6b ∧ (
 ∀ (r7 : Int), r7 = typing_Finish_1_F n8 y3b base2b fresh6b → (
 wfR (.one (.v (.int .i64) r7)) → (
 bif decide (0 ≤ y3b.2.1 ∧ y3b.2.1 ≤ (IntKind.wrap .i64 (y3b.2.1 + r7)) ∧ (IntKind.wrap .i64 (y3b.2.1 + r7)) ≤ (List.length base2b : Int)) then
 bytes_Clone_P (slc base2b y3b.2.1 (IntKind.wrap .i64 (y3b.2.1 + r7))) ∧ (
 ∀ (r8 : List Int), r8 = bytes_Clone_F (slc base2b y3b.2.1 (IntKind.wrap .i64 (y3b.2.1 + r7))) → (
 wfR (.one (.fr 5 (.int .u8) r8)) → (
 kr ([(y3b.2.1, r8, text9)] : List ((Int × List Int × List Int))) at10)))
 else False)))) ∧ True) ∧ (
 (
 typing_Finish_1_P n8 y3b base2b fresh6b ∧ (
 ∀ (r9 : Int), r9 = typing_Finish_1_F n8 y3b base2b fresh6b → (
 wfR (.one (.v (.int .i64) r9)) → (
 bif decide (0 ≤ y3b.2.1 ∧ y3b.2.1 ≤ (IntKind.wrap .i64 (y3b.2.1 + r9)) ∧ (IntKind.wrap .i64 (y3b.2.1 + r9)) ≤ (List.length base2b : Int)) then
 bytes_Clone_P (slc base2b y3b.2.1 (IntKind.wrap .i64 (y3b.2.1 + r9))) ∧ (
 ∀ (r10 : List Int), r10 = bytes_Clone_F (slc base2b y3b.2.1 (IntKind.wrap .i64 (y3b.2.1 + r9))) → (
 wfR (.one (.fr 5 (.int .u8) r10)) → (
 kr ([(y3b.2.1, r10, text9)] : List ((Int × List Int × List Int))) at10)))
 else False)))) ∧ (
 typing_Finish_1_P n8 y3b base2b fresh6b ∧ (
 ∀ (r11 : Int), r11 = typing_Finish_1_F n8 y3b base2b fresh6b → (
 wfR (.one (.v (.int .i64) r11)) → (
 bif decide (0 ≤ y3b.2.1 ∧ y3b.2.1 ≤ (IntKind.wrap .i64 (y3b.2.1 + r11)) ∧ (IntKind.wrap .i64 (y3b.2.1 + r11)) ≤ (List.length base2b : Int)) then
 bytes_Clone_P (slc base2b y3b.2.1 (IntKind.wrap .i64 (y3b.2.1 + r11))) ∧ (
 ∀ (r12 : List Int), r12 = bytes_Clone_F (slc base2b y3b.2.1 (IntKind.wrap .i64 (y3b.2.1 + r11))) → (
 wfR (.one (.fr 5 (.int .u8) r12)) → (
 kr ([(y3b.2.1, r12, text9)] : List ((Int × List Int × List Int))) at10)))
 else False)))) ∧ True) ∧ (
 typing_Finish_1_P n8 y3b base2b fresh6b ∧ (
 ∀ (r13 : Int), r13 = typing_Finish_1_F n8 y3b base2b fresh6b → (
 wfR (.one (.v (.int .i64) r13)) → (
 (
 bif decide (0 ≤ y3b.2.1 ∧ y3b.2.1 ≤ (IntKind.wrap .i64 (y3b.2.1 + r13)) ∧ (IntKind.wrap .i64 (y3b.2.1 + r13)) ≤ (List.length base2b : Int)) then
 bytes_Clone_P (slc base2b y3b.2.1 (IntKind.wrap .i64 (y3b.2.1 + r13))) ∧ (
 ∀ (r14 : List Int), r14 = bytes_Clone_F (slc base2b y3b.2.1 (IntKind.wrap .i64 (y3b.2.1 + r13))) → (
 wfR (.one (.fr 5 (.int .u8) r14)) → (
 kr ([(y3b.2.1, r14, text9)] : List ((Int × List Int × List Int))) at10)))
 else False) ∧ (
 bif decide (0 ≤ y3b.2.1 ∧ y3b.2.1 ≤ (IntKind.wrap .i64 (y3b.2.1 + r13)) ∧ (IntKind.wrap .i64 (y3b.2.1 + r13)) ≤ (List.length base2b : Int)) then
 bytes_Clone_P (slc base2b y3b.2.1 (IntKind.wrap .i64 (y3b.2.1 + r13))) ∧ (
 ∀ (r15 : List Int), r15 = bytes_Clone_F (slc base2b y3b.2.1 (IntKind.wrap .i64 (y3b.2.1 + r13))) → (
 wfR (.one (.fr 5 (.int .u8) r15)) → (
 kr ([(y3b.2.1, r15, text9)] : List ((Int × List Int × List Int))) at10)))
 else False) ∧ True)))) ∧ True) ∧ (
 (
 (
 typing_Finish_1_P n8 y3b base2b fresh6b ∧ (
 ∀ (r16 : Int), r16 = typing_Finish_1_F n8 y3b base2b fresh6b → (
 wfR (.one (.v (.int .i64) r16)) → (
 bif decide (0 ≤ y3b.2.1 ∧ y3b.2.1 ≤ (IntKind.wrap .i64 (y3b.2.1 + r16)) ∧ (IntKind.wrap .i64 (y3b.2.1 + r16)) ≤ (List.length base2b : Int)) then
 bytes_Clone_P (slc base2b y3b.2.1 (IntKind.wrap .i64 (y3b.2.1 + r16))) ∧ (
 ∀ (r17 : List Int), r17 = bytes_Clone_F (slc base2b y3b.2.1 (IntKind.wrap .i64 (y3b.2.1 + r16))) → (
 wfR (.one (.fr 5 (.int .u8) r17)) → (
 kr ([(y3b.2.1, r17, text9)] : List ((Int × List Int × List Int))) at10)))
 else False)))) ∧ (
 typing_Finish_1_P n8 y3b base2b fresh6b ∧ (
 ∀ (r18 : Int), r18 = typing_Finish_1_F n8 y3b base2b fresh6b → (
 wfR (.one (.v (.int .i64) r18)) → (
 bif decide (0 ≤ y3b.2.1 ∧ y3b.2.1 ≤ (IntKind.wrap .i64 (y3b.2.1 + r18)) ∧ (IntKind.wrap .i64 (y3b.2.1 + r18)) ≤ (List.length base2b : Int)) then
 bytes_Clone_P (slc base2b y3b.2.1 (IntKind.wrap .i64 (y3b.2.1 + r18))) ∧ (
 ∀ (r19 : List Int), r19 = bytes_Clone_F (slc base2b y3b.2.1 (IntKind.wrap .i64 (y3b.2.1 + r18))) → (
 wfR (.one (.fr 5 (.int .u8) r19)) → (
 kr ([(y3b.2.1, r19, text9)] : List ((Int × List Int × List Int))) at10)))
 else False)))) ∧ True) ∧ (
 (
 typing_Finish_1_P n8 y3b base2b fresh6b ∧ (
 ∀ (r20 : Int), r20 = typing_Finish_1_F n8 y3b base2b fresh6b → (
 wfR (.one (.v (.int .i64) r20)) → (
 bif decide (0 ≤ y3b.2.1 ∧ y3b.2.1 ≤ (IntKind.wrap .i64 (y3b.2.1 + r20)) ∧ (IntKind.wrap .i64 (y3b.2.1 + r20)) ≤ (List.length base2b : Int)) then
 bytes_Clone_P (slc base2b y3b.2.1 (IntKind.wrap .i64 (y3b.2.1 + r20))) ∧ (
 ∀ (r21 : List Int), r21 = bytes_Clone_F (slc base2b y3b.2.1 (IntKind.wrap .i64 (y3b.2.1 + r20))) → (
 wfR (.one (.fr 5 (.int .u8) r21)) → (
 kr ([(y3b.2.1, r21, text9)] : List ((Int × List Int × List Int))) at10)))
 else False)))) ∧ (
 typing_Finish_1_P n8 y3b base2b fresh6b ∧ (
 ∀ (r22 : Int), r22 = typing_Finish_1_F n8 y3b base2b fresh6b → (
 wfR (.one (.v (.int .i64) r22)) → (
 bif decide (0 ≤ y3b.2.1 ∧ y3b.2.1 ≤ (IntKind.wrap .i64 (y3b.2.1 + r22)) ∧ (IntKind.wrap .i64 (y3b.2.1 + r22)) ≤ (List.length base2b : Int)) then
 bytes_Clone_P (slc base2b y3b.2.1 (IntKind.wrap .i64 (y3b.2.1 + r22))) ∧ (
 ∀ (r23 : List Int), r23 = bytes_Clone_F (slc base2b y3b.2.1 (IntKind.wrap .i64 (y3b.2.1 + r22))) → (
 wfR (.one (.fr 5 (.int .u8) r23)) → (
 kr ([(y3b.2.1, r23, text9)] : List ((Int × List Int × List Int))) at10)))
 else False)))) ∧ True) ∧ (
 typing_Finish_1_P n8 y3b base2b fresh6b ∧ (
 ∀ (r24 : Int), r24 = typing_Finish_1_F n8 y3b base2b fresh6b → (
 wfR (.one (.v (.int .i64) r24)) → (
 (
 bif decide (0 ≤ y3b.2.1 ∧ y3b.2.1 ≤ (IntKind.wrap .i64 (y3b.2.1 + r24)) ∧ (IntKind.wrap .i64 (y3b.2.1 + r24)) ≤ (List.length base2b : Int)) then
 bytes_Clone_P (slc base2b y3b.2.1 (IntKind.wrap .i64 (y3b.2.1 + r24))) ∧ (
 ∀ (r25 : List Int), r25 = bytes_Clone_F (slc base2b y3b.2.1 (IntKind.wrap .i64 (y3b.2.1 + r24))) → (
 wfR (.one (.fr 5 (.int .u8) r25)) → (
 kr ([(y3b.2.1, r25, text9)] : List ((Int × List Int × List Int))) at10)))
 else False) ∧ (
 bif decide (0 ≤ y3b.2.1 ∧ y3b.2.1 ≤ (IntKind.wrap .i64 (y3b.2.1 + r24)) ∧ (IntKind.wrap .i64 (y3b.2.1 + r24)) ≤ (List.length base2b : Int)) then
 bytes_Clone_P (slc base2b y3b.2.1 (IntKind.wrap .i64 (y3b.2.1 + r24))) ∧ (
 ∀ (r26 : List Int), r26 = bytes_Clone_F (slc base2b y3b.2.1 (IntKind.wrap .i64 (y3b.2.1 + r24))) → (
 wfR (.one (.fr 5 (.int .u8) r26)) → (
 kr ([(y3b.2.1, r26, text9)] : List ((Int × List Int × List Int))) at10)))
 else False) ∧ True)))) ∧ True) ∧ (
 (
 (
 typing_Finish_1_P n8 y3b base2b fresh6b ∧ (
 ∀ (r27 : Int), r27 = typing_Finish_1_F n8 y3b base2b fresh6b → (
 wfR (.one (.v (.int .i64) r27)) → (
 bif decide (0 ≤ y3b.2.1 ∧ y3b.2.1 ≤ (IntKind.wrap .i64 (y3b.2.1 + r27)) ∧ (IntKind.wrap .i64 (y3b.2.1 + r27)) ≤ (List.length base2b : Int)) then
 bytes_Clone_P (slc base2b y3b.2.1 (IntKind.wrap .i64 (y3b.2.1 + r27))) ∧ (
 ∀ (r28 : List Int), r28 = bytes_Clone_F (slc base2b y3b.2.1 (IntKind.wrap .i64 (y3b.2.1 + r27))) → (
 wfR (.one (.fr 5 (.int .u8) r28)) → (
 kr ([(y3b.2.1, r28, text9)] : List ((Int × List Int × List Int))) at10)))
 else False)))) ∧ (
 typing_Finish_1_P n8 y3b base2b fresh6b ∧ (
 ∀ (r29 : Int), r29 = typing_Finish_1_F n8 y3b base2b fresh6b → (
 wfR (.one (.v (.int .i64) r29)) → (
 bif decide (0 ≤ y3b.2.1 ∧ y3b.2.1 ≤ (IntKind.wrap .i64 (y3b.2.1 + r29)) ∧ (IntKind.wrap .i64 (y3b.2.1 + r29)) ≤ (List.length base2b : Int)) then
 bytes_Clone_P (slc base2b y3b.2.1 (IntKind.wrap .i64 (y3b.2.1 + r29))) ∧ (
 ∀ (r30 : List Int), r30 = bytes_Clone_F (slc base2b y3b.2.1 (IntKind.wrap .i64 (y3b.2.1 + r29))) → (
 wfR (.one (.fr 5 (.int .u8) r30)) → (
 kr ([(y3b.2.1, r30, text9)] : List ((Int × List Int × List Int))) at10)))
 else False)))) ∧ True) ∧ (
 (
 typing_Finish_1_P n8 y3b base2b fresh6b ∧ (
 ∀ (r31 : Int), r31 = typing_Finish_1_F n8 y3b base2b fresh6b → (
 wfR (.one (.v (.int .i64) r31)) → (
 bif decide (0 ≤ y3b.2.1 ∧ y3b.2.1 ≤ (IntKind.wrap .i64 (y3b.2.1 + r31)) ∧ (IntKind.wrap .i64 (y3b.2.1 + r31)) ≤ (List.length base2b : Int)) then
 bytes_Clone_P (slc base2b y3b.2.1 (IntKind.wrap .i64 (y3b.2.1 + r31))) ∧ (
 ∀ (r32 : List Int), r32 = bytes_Clone_F (slc base2b y3b.2.1 (IntKind.wrap .i64 (y3b.2.1 + r31))) → (
 wfR (.one (.fr 5 (.int .u8) r32)) → (
 kr ([(y3b.2.1, r32, text9)] : List ((Int × List Int × List Int))) at10)))
 else False)))) ∧ (
 typing_Finish_1_P n8 y3b base2b fresh6b ∧ (
 ∀ (r33 : Int), r33 = typing_Finish_1_F n8 y3b base2b fresh6b → (
 wfR (.one (.v (.int .i64) r33)) → (
 bif decide (0 ≤ y3b.2.1 ∧ y3b.2.1 ≤ (IntKind.wrap .i64 (y3b.2.1 + r33)) ∧ (IntKind.wrap .i64 (y3b.2.1 + r33)) ≤ (List.length base2b : Int)) then
 bytes_Clone_P (slc base2b y3b.2.1 (IntKind.wrap .i64 (y3b.2.1 + r33))) ∧ (
 ∀ (r34 : List Int), r34 = bytes_Clone_F (slc base2b y3b.2.1 (IntKind.wrap .i64 (y3b.2.1 + r33))) → (
 wfR (.one (.fr 5 (.int .u8) r34)) → (
 kr ([(y3b.2.1, r34, text9)] : List ((Int × List Int × List Int))) at10)))
 else False)))) ∧ True) ∧ (
 typing_Finish_1_P n8 y3b base2b fresh6b ∧ (
 ∀ (r35 : Int), r35 = typing_Finish_1_F n8 y3b base2b fresh6b → (
 wfR (.one (.v (.int .i64) r35)) → (
 (
 bif decide (0 ≤ y3b.2.1 ∧ y3b.2.1 ≤ (IntKind.wrap .i64 (y3b.2.1 + r35)) ∧ (IntKind.wrap .i64 (y3b.2.1 + r35)) ≤ (List.length base2b : Int)) then
 bytes_Clone_P (slc base2b y3b.2.1 (IntKind.wrap .i64 (y3b.2.1 + r35))) ∧ (
 ∀ (r36 : List Int), r36 = bytes_Clone_F (slc base2b y3b.2.1 (IntKind.wrap .i64 (y3b.2.1 + r35))) → (
 wfR (.one (.fr 5 (.int .u8) r36)) → (
 kr ([(y3b.2.1, r36, text9)] : List ((Int × List Int × List Int))) at10)))
 else False) ∧ (
 bif decide (0 ≤ y3b.2.1 ∧ y3b.2.1 ≤ (IntKind.wrap .i64 (y3b.2.1 + r35)) ∧ (IntKind.wrap .i64 (y3b.2.1 + r35)) ≤ (List.length base2b : Int)) then
 bytes_Clone_P (slc base2b y3b.2.1 (IntKind.wrap .i64 (y3b.2.1 + r35))) ∧ (
 ∀ (r37 : List Int), r37 = bytes_Clone_F (slc base2b y3b.2.1 (IntKind.wrap .i64 (y3b.2.1 + r35))) → (
 wfR (.one (.fr 5 (.int .u8) r37)) → (
 kr ([(y3b.2.1, r37, text9)] : List ((Int × List Int × List Int))) at10)))
 else False) ∧ True)))) ∧ True) ∧ (
 typing_Finish_1_P n8 y3b base2b fresh6b ∧ (
 ∀ (r38 : Int), r38 = typing_Finish_1_F n8 y3b base2b fresh6b → (
 wfR (.one (.v (.int .i64) r38)) → (
 (
 (
 bif decide (0 ≤ y3b.2.1 ∧ y3b.2.1 ≤ (IntKind.wrap .i64 (y3b.2.1 + r38)) ∧ (IntKind.wrap .i64 (y3b.2.1 + r38)) ≤ (List.length base2b : Int)) then
 bytes_Clone_P (slc base2b y3b.2.1 (IntKind.wrap .i64 (y3b.2.1 + r38))) ∧ (
 ∀ (r39 : List Int), r39 = bytes_Clone_F (slc base2b y3b.2.1 (IntKind.wrap .i64 (y3b.2.1 + r38))) → (
 wfR (.one (.fr 5 (.int .u8) r39)) → (
 kr ([(y3b.2.1, r39, text9)] : List ((Int × List Int × List Int))) at10)))
 else False) ∧ (
 bif decide (0 ≤ y3b.2.1 ∧ y3b.2.1 ≤ (IntKind.wrap .i64 (y3b.2.1 + r38)) ∧ (IntKind.wrap .i64 (y3b.2.1 + r38)) ≤ (List.length base2b : Int)) then
 bytes_Clone_P (slc base2b y3b.2.1 (IntKind.wrap .i64 (y3b.2.1 + r38))) ∧ (
 ∀ (r40 : List Int), r40 = bytes_Clone_F (slc base2b y3b.2.1 (IntKind.wrap .i64 (y3b.2.1 + r38))) → (
 wfR (.one (.fr 5 (.int .u8) r40)) → (
 kr ([(y3b.2.1, r40, text9)] : List ((Int × List Int × List Int))) at10)))
 else False) ∧ True) ∧ (
 (
 bif decide (0 ≤ y3b.2.1 ∧ y3b.2.1 ≤ (IntKind.wrap .i64 (y3b.2.1 + r38)) ∧ (IntKind.wrap .i64 (y3b.2.1 + r38)) ≤ (List.length base2b : Int)) then
 bytes_Clone_P (slc base2b y3b.2.1 (IntKind.wrap .i64 (y3b.2.1 + r38))) ∧ (
 ∀ (r41 : List Int), r41 = bytes_Clone_F (slc base2b y3b.2.1 (IntKind.wrap .i64 (y3b.2.1 + r38))) → (
 wfR (.one (.fr 5 (.int .u8) r41)) → (
 kr ([(y3b.2.1, r41, text9)] : List ((Int × List Int × List Int))) at10)))
 else False) ∧ (
 bif decide (0 ≤ y3b.2.1 ∧ y3b.2.1 ≤ (IntKind.wrap .i64 (y3b.2.1 + r38)) ∧ (IntKind.wrap .i64 (y3b.2.1 + r38)) ≤ (List.length base2b : Int)) then
 bytes_Clone_P (slc base2b y3b.2.1 (IntKind.wrap .i64 (y3b.2.1 + r38))) ∧ (
 ∀ (r42 : List Int), r42 = bytes_Clone_F (slc base2b y3b.2.1 (IntKind.wrap .i64 (y3b.2.1 + r38))) → (
 wfR (.one (.fr 5 (.int .u8) r42)) → (
 kr ([(y3b.2.1, r42, text9)] : List ((Int × List Int × List Int))) at10)))
 else False) ∧ True) ∧ (
 (
 bif decide (0 ≤ y3b.2.1 ∧ y3b.2.1 ≤ (IntKind.wrap .i64 (y3b.2.1 + r38)) ∧ (IntKind.wrap .i64 (y3b.2.1 + r38)) ≤ (List.length base2b : Int)) then
 bytes_Clone_P (slc base2b y3b.2.1 (IntKind.wrap .i64 (y3b.2.1 + r38))) ∧ (
 ∀ (r43 : List Int), r43 = bytes_Clone_F (slc base2b y3b.2.1 (IntKind.wrap .i64 (y3b.2.1 + r38))) → (
 wfR (.one (.fr 5 (.int .u8) r43)) → (
 kr ([(y3b.2.1, r43, text9)] : List ((Int × List Int × List Int))) at10)))
 else False) ∧ (
 bif decide (0 ≤ y3b.2.1 ∧ y3b.2.1 ≤ (IntKind.wrap .i64 (y3b.2.1 + r38)) ∧ (IntKind.wrap .i64 (y3b.2.1 + r38)) ≤ (List.length base2b : Int)) then
 bytes_Clone_P (slc base2b y3b.2.1 (IntKind.wrap .i64 (y3b.2.1 + r38))) ∧ (
 ∀ (r44 : List Int), r44 = bytes_Clone_F (slc base2b y3b.2.1 (IntKind.wrap .i64 (y3b.2.1 + r38))) → (
 wfR (.one (.fr 5 (.int .u8) r44)) → (
 kr ([(y3b.2.1, r44, text9)] : List ((Int × List Int × List Int))) at10)))
 else False) ∧ True) ∧ True)))) ∧ True
theorem typing_Finish_s0 (k : Ex → St → Prop) (n8 : Int) (text9 : List Int) (at10 : Int) (base2b : List Int) (y3b : (Int × Int × List Int × Int × Int)) (fresh6b : Int) :
    ex tb (getG typing_Finish_G) [] (at' (bodyOf Try.f5) [1, 1, 1, 1, 1, 1, 1, 1, 1]) [1, 1, 1, 1, 1, 1, 1, 1, 1] (mkD 102 typing_Finish_d0 (n8, text9, at10, base2b, y3b, fresh6b, ())) (wk 102 typing_Finish_dx0 k) =
    typing_Finish_J0 (fun x4 x5 => wfD typing_Finish_d0r (x4, x5, ()) → k .ret (mkD 102 typing_Finish_d0r (x4, x5, ()))) n8 text9 at10 base2b y3b fresh6b := by kernel_rfl
theorem typing_Finish_v0 (k : Ex → St → Prop) : ∀ v : vals typing_Finish_d0, ex tb (getG typing_Finish_G) [] (at' (bodyOf Try.f5) [1, 1, 1, 1, 1, 1, 1, 1, 1]) [1, 1, 1, 1, 1, 1, 1, 1, 1] (mkD 102 typing_Finish_d0 v) (wk 102 typing_Finish_dx0 k) = typing_Finish_J0 (fun x4 x5 => wfD typing_Finish_d0r (x4, x5, ()) → k .ret (mkD 102 typing_Finish_d0r (x4, x5, ()))) v.1 v.2.1 v.2.2.1 v.2.2.2.1 v.2.2.2.2.1 v.2.2.2.2.2.1
  | (n8, text9, at10, base2b, y3b, fresh6b, ()) => typing_Finish_s0 k n8 text9 at10 base2b y3b fresh6b
def typing_Finish_X0 : Pce := fun st k => ckD 102 typing_Finish_d0 st fun v => wfD typing_Finish_d0 v → typing_Finish_J0 (fun x4 x5 => wfD typing_Finish_d0r (x4, x5, ()) → k .ret (mkD 102 typing_Finish_d0r (x4, x5, ()))) v.1 v.2.1 v.2.2.1 v.2.2.2.1 v.2.2.2.2.1 v.2.2.2.2.2.1
set_option maxRecDepth 20000 in
theorem typing_Finish_x0 : SemOk Try.prog (at' (bodyOf Try.f5) [1, 1, 1, 1, 1, 1, 1, 1, 1]) typing_Finish_X0 :=
  (SemOk.wk (N := 102) (ds := typing_Finish_d0) (dx := typing_Finish_dx0) (ex_sound tb_M tb_ok typing_Finish_Gok (LabsOk.nil) (at' (bodyOf Try.f5) [1, 1, 1, 1, 1, 1, 1, 1, 1]) [1, 1, 1, 1, 1, 1, 1, 1, 1] rfl (storesC_at typing_Finish_st [1, 1, 1, 1, 1, 1, 1, 1, 1]))).mono fun st k h => ckD_mono h fun v hv hw => Eq.mpr (typing_Finish_v0 k v) (hv hw)
def typing_Finish_B0 : Labs := ([1, 1, 1, 1, 1, 1, 1, 1, 1], typing_Finish_X0) :: []
theorem typing_Finish_b0 : LabsOk Try.prog (bodyOf Try.f5) typing_Finish_B0 := LabsOk.cons typing_Finish_x0 (LabsOk.nil)
def typing_Finish_d1 : List LS := [.b 2 16 [], .b 3 24 [], .f 7 13 [24, 16, 48], .v 8 (.int .i64), .c 16 (.sl (.int .u8)), .c 24 (.st (.pair (.int .u8) (.pair (.int .i64) (.pair (.sl (.int .u8)) (.pair (.int .i64) (.int .i64)))))), .c 48 (.int .i64)]
def typing_Finish_d1r : List LS := [.o 4 37 39 (.st (.pair (.int .i64) (.pair (.sl (.int .u8)) (.sl (.int .u8))))), .v 5 (.int .i64)]
def typing_Finish_dx1 : DX := ⟨none, some typing_Finish_d1r, []⟩
def typing_Finish_J1 (kr : List ((Int × List Int × List Int)) → Int → Prop) (n8 : Int) (base2b : List Int) (y3b : (Int × Int × List Int × Int × Int)) (fresh6b : Int) : Prop :=
 bytes_Repeat_P y3b.2.2.1 n8 ∧ (
 ∀ (r4 : List Int), r4 = bytes_Repeat_F y3b.2.2.1 n8 → (
 wfR (.one (.fr 5 (.int .u8) r4)) → (
 bif (decide ((0 : Int) < (IntKind.wrap .i64 (y3b.2.1 + (List.length r4 : Int))))) then
 bif (decide ((0 : Int) < (List.length r4 : Int))) then
 bif decide (0 ≤ (IntKind.wrap .i64 ((List.length r4 : Int) - (1 : Int))) ∧ (IntKind.wrap .i64 ((List.length r4 : Int) - (1 : Int))) < (List.length r4 : Int)) then
 bif (!decide ((rd (0 : Int) r4 (IntKind.wrap .i64 ((List.length r4 : Int) - (1 : Int)))) = (10 : Int))) then
 (wfD typing_Finish_d0 (n8, r4, (IntKind.wrap .i64 ((IntKind.wrap .i64 (y3b.2.1 + (List.length r4 : Int))) - (1 : Int))), base2b, y3b, fresh6b, ()) → typing_Finish_J0 (fun (x4 : List ((Int × List Int × List Int))) (x5 : Int) => wfD typing_Finish_d0r (x4, x5, ()) → (
 kr x4 x5)) n8 r4 (IntKind.wrap .i64 ((IntKind.wrap .i64 (y3b.2.1 + (List.length r4 : Int))) - (1 : Int))) base2b y3b fresh6b)
 else
 bif (decide ((List.length r4 : Int) = (0 : Int))) then
 bif decide (0 ≤ (IntKind.wrap .i64 ((IntKind.wrap .i64 (y3b.2.1 + (List.length r4 : Int))) - (1 : Int))) ∧ (IntKind.wrap .i64 ((IntKind.wrap .i64 (y3b.2.1 + (List.length r4 : Int))) - (1 : Int))) < (List.length base2b : Int)) then
 bif (!decide ((rd (0 : Int) base2b (IntKind.wrap .i64 ((IntKind.wrap .i64 (y3b.2.1 + (List.length r4 : Int))) - (1 : Int)))) = (10 : Int))) then
 (wfD typing_Finish_d0 (n8, r4, (IntKind.wrap .i64 ((IntKind.wrap .i64 (y3b.2.1 + (List.length r4 : Int))) - (1 : Int))), base2b, y3b, fresh6b, ()) → typing_Finish_J0 (fun (x4 : List ((Int × List Int × List Int))) (x5 : Int) => wfD typing_Finish_d0r (x4, x5, ()) → (
 kr x4 x5)) n8 r4 (IntKind.wrap .i64 ((IntKind.wrap .i64 (y3b.2.1 + (List.length r4 : Int))) - (1 : Int))) base2b y3b fresh6b)
 else
 (wfD typing_Finish_d0 (n8, r4, (IntKind.wrap .i64 (y3b.2.1 + (List.length r4 : Int))), base2b, y3b, fresh6b, ()) → typing_Finish_J0 (fun (x4 : List ((Int × List Int × List Int))) (x5 : Int) => wfD typing_Finish_d0r (x4, x5, ()) → (
 kr x4 x5)) n8 r4 (IntKind.wrap .i64 (y3b.2.1 + (List.length r4 : Int))) base2b y3b fresh6b)
 else False
 else
 (wfD typing_Finish_d0 (n8, r4, (IntKind.wrap .i64 (y3b.2.1 + (List.length r4 : Int))), base2b, y3b, fresh6b, ()) → typing_Finish_J0 (fun (x4 : List ((Int × List Int × List Int))) (x5 : Int) => wfD typing_Finish_d0r (x4, x5, ()) → (
 kr x4 x5)) n8 r4 (IntKind.wrap .i64 (y3b.2.1 + (List.length r4 : Int))) base2b y3b fresh6b)
 else False
 else
 bif (decide ((List.length r4 : Int) = (0 : Int))) then
 bif decide (0 ≤ (IntKind.wrap .i64 ((IntKind.wrap .i64 (y3b.2.1 + (List.length r4 : Int))) - (1 : Int))) ∧ (IntKind.wrap .i64 ((IntKind.wrap .i64 (y3b.2.1 + (List.length r4 : Int))) - (1 : Int))) < (List.length base2b : Int)) then
 bif (!decide ((rd (0 : Int) base2b (IntKind.wrap .i64 ((IntKind.wrap .i64 (y3b.2.1 + (List.length r4 : Int))) - (1 : Int)))) = (10 : Int))) then
 (wfD typing_Finish_d0 (n8, r4, (IntKind.wrap .i64 ((IntKind.wrap .i64 (y3b.2.1 + (List.length r4 : Int))) - (1 : Int))), base2b, y3b, fresh6b, ()) → typing_Finish_J0 (fun (x4 : List ((Int × List Int × List Int))) (x5 : Int) => wfD typing_Finish_d0r (x4, x5, ()) → (
 kr x4 x5)) n8 r4 (IntKind.wrap .i64 ((IntKind.wrap .i64 (y3b.2.1 + (List.length r4 : Int))) - (1 : Int))) base2b y3b fresh6b)
 else
 (wfD typing_Finish_d0 (n8, r4, (IntKind.wrap .i64 (y3b.2.1 + (List.length r4 : Int))), base2b, y3b, fresh6b, ()) → typing_Finish_J0 (fun (x4 : List ((Int × List Int × List Int))) (x5 : Int) => wfD typing_Finish_d0r (x4, x5, ()) → (
 kr x4 x5)) n8 r4 (IntKind.wrap .i64 (y3b.2.1 + (List.length r4 : Int))) base2b y3b fresh6b)
 else False
 else
 (wfD typing_Finish_d0 (n8, r4, (IntKind.wrap .i64 (y3b.2.1 + (List.length r4 : Int))), base2b, y3b, fresh6b, ()) → typing_Finish_J0 (fun (x4 : List ((Int × List Int × List Int))) (x5 : Int) => wfD typing_Finish_d0r (x4, x5, ()) → (
 kr x4 x5)) n8 r4 (IntKind.wrap .i64 (y3b.2.1 + (List.length r4 : Int))) base2b y3b fresh6b)
 else
 (wfD typing_Finish_d0 (n8, r4, (IntKind.wrap .i64 (y3b.2.1 + (List.length r4 : Int))), base2b, y3b, fresh6b, ()) → typing_Finish_J0 (fun (x4 : List ((Int × List Int × List Int))) (x5 : Int) => wfD typing_Finish_d0r (x4, x5, ()) → (
 kr x4 x5)) n8 r4 (IntKind.wrap .i64 (y3b.2.1 + (List.length r4 : Int))) base2b y3b fresh6b))))
theorem typing_Finish_s1 (k : Ex → St → Prop) (n8 : Int) (base2b : List Int) (y3b : (Int × Int × List Int × Int × Int)) (fresh6b : Int) :
    ex tb (getG typing_Finish_G) typing_Finish_B0 (at' (bodyOf Try.f5) [1, 1, 1, 1, 1, 1]) [1, 1, 1, 1, 1, 1] (mkD 102 typing_Finish_d1 (n8, base2b, y3b, fresh6b, ())) (wk 102 typing_Finish_dx1 k) =
    typing_Finish_J1 (fun x4 x5 => wfD typing_Finish_d1r (x4, x5, ()) → k .ret (mkD 102 typing_Finish_d1r (x4, x5, ()))) n8 base2b y3b fresh6b := by kernel_rfl
theorem typing_Finish_v1 (k : Ex → St → Prop) : ∀ v : vals typing_Finish_d1, ex tb (getG typing_Finish_G) typing_Finish_B0 (at' (bodyOf Try.f5) [1, 1, 1, 1, 1, 1]) [1, 1, 1, 1, 1, 1] (mkD 102 typing_Finish_d1 v) (wk 102 typing_Finish_dx1 k) = typing_Finish_J1 (fun x4 x5 => wfD typing_Finish_d1r (x4, x5, ()) → k .ret (mkD 102 typing_Finish_d1r (x4, x5, ()))) v.1 v.2.1 v.2.2.1 v.2.2.2.1
  | (n8, base2b, y3b, fresh6b, ()) => typing_Finish_s1 k n8 base2b y3b fresh6b
def typing_Finish_X1 : Pce := fun st k => ckD 102 typing_Finish_d1 st fun v => wfD typing_Finish_d1 v → typing_Finish_J1 (fun x4 x5 => wfD typing_Finish_d1r (x4, x5, ()) → k .ret (mkD 102 typing_Finish_d1r (x4, x5, ()))) v.1 v.2.1 v.2.2.1 v.2.2.2.1
set_option maxRecDepth 20000 in
theorem typing_Finish_x1 : SemOk Try.prog (at' (bodyOf Try.f5) [1, 1, 1, 1, 1, 1]) typing_Finish_X1 :=
  (SemOk.wk (N := 102) (ds := typing_Finish_d1) (dx := typing_Finish_dx1) (ex_sound tb_M tb_ok typing_Finish_Gok (typing_Finish_b0) (at' (bodyOf Try.f5) [1, 1, 1, 1, 1, 1]) [1, 1, 1, 1, 1, 1] rfl (storesC_at typing_Finish_st [1, 1, 1, 1, 1, 1]))).mono fun st k h => ckD_mono h fun v hv hw => Eq.mpr (typing_Finish_v1 k v) (hv hw)
def typing_Finish_B1 : Labs := ([1, 1, 1, 1, 1, 1], typing_Finish_X1) :: typing_Finish_B0
theorem typing_Finish_b1 : LabsOk Try.prog (bodyOf Try.f5) typing_Finish_B1 := LabsOk.cons typing_Finish_x1 (typing_Finish_b0)
def typing_Finish_raw (base0 : List Int) (y1 : (Int × Int × List Int × Int × Int)) (K : Res → List Cell → Prop) : Prop :=
 ∀ (r1 : Bool), r1 = typing_fits_F base0 y1 → (
 wfR (.one (.v (.bool) r1)) → (
 bif (!r1) then
 K (.tup [.fr 39 (.st (.pair (.int .i64) (.pair (.sl (.int .u8)) (.sl (.int .u8))))) ([] : List ((Int × List Int × List Int))), .v (.int .i64) (0 : Int)]) []
 else
 (
 (
 bytes_Count_P y1.2.2.1 ([(10 : Int)] : List Int) ∧ (
 ∀ (r2 : Int), r2 = bytes_Count_F y1.2.2.1 ([(10 : Int)] : List Int) → (
 wfR (.one (.v (.int .i64) r2)) → (
 (
 (
 typing_Finish_1_P y1.2.2.2.2 y1 base0 (IntKind.wrap .i64 ((List.length y1.2.2.1 : Int) - r2)) ∧ (
 ∀ (r3 : Int), r3 = typing_Finish_1_F y1.2.2.2.2 y1 base0 (IntKind.wrap .i64 ((List.length y1.2.2.1 : Int) - r2)) → (
 wfR (.one (.v (.int .i64) r3)) → (
 bif (decide ((65536 : Int) < (IntKind.wrap .i64 ((IntKind.wrap .i64 ((List.length base0 : Int) - r3)) + (IntKind.wrap .i64 (y1.2.2.2.2 * (List.length y1.2.2.1 : Int))))))) then
 (wfD typing_Finish_d1 ((1 : Int), base0, y1, (IntKind.wrap .i64 ((List.length y1.2.2.1 : Int) - r2)), ()) → typing_Finish_J1 (fun (x4 : List ((Int × List Int × List Int))) (x5 : Int) => wfD typing_Finish_d1r (x4, x5, ()) → (
 K (.tup [.fr 39 (.st (.pair (.int .i64) (.pair (.sl (.int .u8)) (.sl (.int .u8))))) x4, .v (.int .i64) x5]) [])) (1 : Int) base0 y1 (IntKind.wrap .i64 ((List.length y1.2.2.1 : Int) - r2)))
 else
 (wfD typing_Finish_d1 (y1.2.2.2.2, base0, y1, (IntKind.wrap .i64 ((List.length y1.2.2.1 : Int) - r2)), ()) → typing_Finish_J1 (fun (x4 : List ((Int × List Int × List Int))) (x5 : Int) => wfD typing_Finish_d1r (x4, x5, ()) → (
 K (.tup [.fr 39 (.st (.pair (.int .i64) (.pair (.sl (.int .u8)) (.sl (.int .u8))))) x4, .v (.int .i64) x5]) [])) y1.2.2.2.2 base0 y1 (IntKind.wrap .i64 ((List.length y1.2.2.1 : Int) - r2))))))) ∧ (
 typing_Finish_1_P y1.2.2.2.2 y1 base0 (IntKind.wrap .i64 ((List.length y1.2.2.1 : Int) - r2)) ∧ (
 ∀ (r45 : Int), r45 = typing_Finish_1_F y1.2.2.2.2 y1 base0 (IntKind.wrap .i64 ((List.length y1.2.2.1 : Int) - r2)) → (
 wfR (.one (.v (.int .i64) r45)) → (
 bif (decide ((65536 : Int) < (IntKind.wrap .i64 ((IntKind.wrap .i64 ((List.length base0 : Int) - r45)) + (IntKind.wrap .i64 (y1.2.2.2.2 * (List.length y1.2.2.1 : Int))))))) then
 (wfD typing_Finish_d1 ((1 : Int), base0, y1, (IntKind.wrap .i64 ((List.length y1.2.2.1 : Int) - r2)), ()) → typing_Finish_J1 (fun (x4 : List ((Int × List Int × List Int))) (x5 : Int) => wfD typing_Finish_d1r (x4, x5, ()) → (
 K (.tup [.fr 39 (.st (.pair (.int .i64) (.pair (.sl (.int .u8)) (.sl (.int .u8))))) x4, .v (.int .i64) x5]) [])) (1 : Int) base0 y1 (IntKind.wrap .i64 ((List.length y1.2.2.1 : Int) - r2)))
 else
 (wfD typing_Finish_d1 (y1.2.2.2.2, base0, y1, (IntKind.wrap .i64 ((List.length y1.2.2.1 : Int) - r2)), ()) → typing_Finish_J1 (fun (x4 : List ((Int × List Int × List Int))) (x5 : Int) => wfD typing_Finish_d1r (x4, x5, ()) → (
 K (.tup [.fr 39 (.st (.pair (.int .i64) (.pair (.sl (.int .u8)) (.sl (.int .u8))))) x4, .v (.int .i64) x5]) [])) y1.2.2.2.2 base0 y1 (IntKind.wrap .i64 ((List.length y1.2.2.1 : Int) - r2))))))) ∧ True) ∧ (
 typing_Finish_1_P y1.2.2.2.2 y1 base0 (IntKind.wrap .i64 ((List.length y1.2.2.1 : Int) - r2)) ∧ (
 ∀ (r46 : Int), r46 = typing_Finish_1_F y1.2.2.2.2 y1 base0 (IntKind.wrap .i64 ((List.length y1.2.2.1 : Int) - r2)) → (
 wfR (.one (.v (.int .i64) r46)) → (
 (
 bif (decide ((65536 : Int) < (IntKind.wrap .i64 ((IntKind.wrap .i64 ((List.length base0 : Int) - r46)) + (IntKind.wrap .i64 (y1.2.2.2.2 * (List.length y1.2.2.1 : Int))))))) then
 (wfD typing_Finish_d1 ((1 : Int), base0, y1, (IntKind.wrap .i64 ((List.length y1.2.2.1 : Int) - r2)), ()) → typing_Finish_J1 (fun (x4 : List ((Int × List Int × List Int))) (x5 : Int) => wfD typing_Finish_d1r (x4, x5, ()) → (
 K (.tup [.fr 39 (.st (.pair (.int .i64) (.pair (.sl (.int .u8)) (.sl (.int .u8))))) x4, .v (.int .i64) x5]) [])) (1 : Int) base0 y1 (IntKind.wrap .i64 ((List.length y1.2.2.1 : Int) - r2)))
 else
 (wfD typing_Finish_d1 (y1.2.2.2.2, base0, y1, (IntKind.wrap .i64 ((List.length y1.2.2.1 : Int) - r2)), ()) → typing_Finish_J1 (fun (x4 : List ((Int × List Int × List Int))) (x5 : Int) => wfD typing_Finish_d1r (x4, x5, ()) → (
 K (.tup [.fr 39 (.st (.pair (.int .i64) (.pair (.sl (.int .u8)) (.sl (.int .u8))))) x4, .v (.int .i64) x5]) [])) y1.2.2.2.2 base0 y1 (IntKind.wrap .i64 ((List.length y1.2.2.1 : Int) - r2)))) ∧ (
 bif (decide ((65536 : Int) < (IntKind.wrap .i64 ((IntKind.wrap .i64 ((List.length base0 : Int) - r46)) + (IntKind.wrap .i64 (y1.2.2.2.2 * (List.length y1.2.2.1 : Int))))))) then
 (wfD typing_Finish_d1 ((1 : Int), base0, y1, (IntKind.wrap .i64 ((List.length y1.2.2.1 : Int) - r2)), ()) → typing_Finish_J1 (fun (x4 : List ((Int × List Int × List Int))) (x5 : Int) => wfD typing_Finish_d1r (x4, x5, ()) → (
 K (.tup [.fr 39 (.st (.pair (.int .i64) (.pair (.sl (.int .u8)) (.sl (.int .u8))))) x4, .v (.int .i64) x5]) [])) (1 : Int) base0 y1 (IntKind.wrap .i64 ((List.length y1.2.2.1 : Int) - r2)))
 else
 (wfD typing_Finish_d1 (y1.2.2.2.2, base0, y1, (IntKind.wrap .i64 ((List.length y1.2.2.1 : Int) - r2)), ()) → typing_Finish_J1 (fun (x4 : List ((Int × List Int × List Int))) (x5 : Int) => wfD typing_Finish_d1r (x4, x5, ()) → (
 K (.tup [.fr 39 (.st (.pair (.int .i64) (.pair (.sl (.int .u8)) (.sl (.int .u8))))) x4, .v (.int .i64) x5]) [])) y1.2.2.2.2 base0 y1 (IntKind.wrap .i64 ((List.length y1.2.2.1 : Int) - r2)))) ∧ True)))) ∧ (
 (
 typing_Finish_1_P y1.2.2.2.2 y1 base0 (IntKind.wrap .i64 ((List.length y1.2.2.1 : Int) - r2)) ∧ (
 ∀ (r47 : Int), r47 = typing_Finish_1_F y1.2.2.2.2 y1 base0 (IntKind.wrap .i64 ((List.length y1.2.2.1 : Int) - r2)) → (
 wfR (.one (.v (.int .i64) r47)) → (
 bif (decide ((65536 : Int) < (IntKind.wrap .i64 ((IntKind.wrap .i64 ((List.length base0 : Int) - r47)) + (IntKind.wrap .i64 (y1.2.2.2.2 * (List.length y1.2.2.1 : Int))))))) then
 (wfD typing_Finish_d1 ((1 : Int), base0, y1, (IntKind.wrap .i64 ((List.length y1.2.2.1 : Int) - r2)), ()) → typing_Finish_J1 (fun (x4 : List ((Int × List Int × List Int))) (x5 : Int) => wfD typing_Finish_d1r (x4, x5, ()) → (
 K (.tup [.fr 39 (.st (.pair (.int .i64) (.pair (.sl (.int .u8)) (.sl (.int .u8))))) x4, .v (.int .i64) x5]) [])) (1 : Int) base0 y1 (IntKind.wrap .i64 ((List.length y1.2.2.1 : Int) - r2)))
 else
 (wfD typing_Finish_d1 (y1.2.2.2.2, base0, y1, (IntKind.wrap .i64 ((List.length y1.2.2.1 : Int) - r2)), ()) → typing_Finish_J1 (fun (x4 : List ((Int × List Int × List Int))) (x5 : Int) => wfD typing_Finish_d1r (x4, x5, ()) → (
 K (.tup [.fr 39 (.st (.pair (.int .i64) (.pair (.sl (.int .u8)) (.sl (.int .u8))))) x4, .v (.int .i64) x5]) [])) y1.2.2.2.2 base0 y1 (IntKind.wrap .i64 ((List.length y1.2.2.1 : Int) - r2))))))) ∧ (
 typing_Finish_1_P y1.2.2.2.2 y1 base0 (IntKind.wrap .i64 ((List.length y1.2.2.1 : Int) - r2)) ∧ (
 ∀ (r48 : Int), r48 = typing_Finish_1_F y1.2.2.2.2 y1 base0 (IntKind.wrap .i64 ((List.length y1.2.2.1 : Int) - r2)) → (
 wfR (.one (.v (.int .i64) r48)) → (
 bif (decide ((65536 : Int) < (IntKind.wrap .i64 ((IntKind.wrap .i64 ((List.length base0 : Int) - r48)) + (IntKind.wrap .i64 (y1.2.2.2.2 * (List.length y1.2.2.1 : Int))))))) then
 (wfD typing_Finish_d1 ((1 : Int), base0, y1, (IntKind.wrap .i64 ((List.length y1.2.2.1 : Int) - r2)), ()) → typing_Finish_J1 (fun (x4 : List ((Int × List Int × List Int))) (x5 : Int) => wfD typing_Finish_d1r (x4, x5, ()) → (
 K (.tup [.fr 39 (.st (.pair (.int .i64) (.pair (.sl (.int .u8)) (.sl (.int .u8))))) x4, .v (.int .i64) x5]) [])) (1 : Int) base0 y1 (IntKind.wrap .i64 ((List.length y1.2.2.1 : Int) - r2)))
 else
 (wfD typing_Finish_d1 (y1.2.2.2.2, base0, y1, (IntKind.wrap .i64 ((List.length y1.2.2.1 : Int) - r2)), ()) → typing_Finish_J1 (fun (x4 : List ((Int × List Int × List Int))) (x5 : Int) => wfD typing_Finish_d1r (x4, x5, ()) → (
 K (.tup [.fr 39 (.st (.pair (.int .i64) (.pair (.sl (.int .u8)) (.sl (.int .u8))))) x4, .v (.int .i64) x5]) [])) y1.2.2.2.2 base0 y1 (IntKind.wrap .i64 ((List.length y1.2.2.1 : Int) - r2))))))) ∧ True) ∧ True)))) ∧ (
 bytes_Count_P y1.2.2.1 ([(10 : Int)] : List Int) ∧ (
 ∀ (r49 : Int), r49 = bytes_Count_F y1.2.2.1 ([(10 : Int)] : List Int) → (
 wfR (.one (.v (.int .i64) r49)) → (
 (
 (
 typing_Finish_1_P y1.2.2.2.2 y1 base0 (IntKind.wrap .i64 ((List.length y1.2.2.1 : Int) - r49)) ∧ (
 ∀ (r50 : Int), r50 = typing_Finish_1_F y1.2.2.2.2 y1 base0 (IntKind.wrap .i64 ((List.length y1.2.2.1 : Int) - r49)) → (
 wfR (.one (.v (.int .i64) r50)) → (
 bif (decide ((65536 : Int) < (IntKind.wrap .i64 ((IntKind.wrap .i64 ((List.length base0 : Int) - r50)) + (IntKind.wrap .i64 (y1.2.2.2.2 * (List.length y1.2.2.1 : Int))))))) then
 (wfD typing_Finish_d1 ((1 : Int), base0, y1, (IntKind.wrap .i64 ((List.length y1.2.2.1 : Int) - r49)), ()) → typing_Finish_J1 (fun (x4 : List ((Int × List Int × List Int))) (x5 : Int) => wfD typing_Finish_d1r (x4, x5, ()) → (
 K (.tup [.fr 39 (.st (.pair (.int .i64) (.pair (.sl (.int .u8)) (.sl (.int .u8))))) x4, .v (.int .i64) x5]) [])) (1 : Int) base0 y1 (IntKind.wrap .i64 ((List.length y1.2.2.1 : Int) - r49)))
 else
 (wfD typing_Finish_d1 (y1.2.2.2.2, base0, y1, (IntKind.wrap .i64 ((List.length y1.2.2.1 : Int) - r49)), ()) → typing_Finish_J1 (fun (x4 : List ((Int × List Int × List Int))) (x5 : Int) => wfD typing_Finish_d1r (x4, x5, ()) → (
 K (.tup [.fr 39 (.st (.pair (.int .i64) (.pair (.sl (.int .u8)) (.sl (.int .u8))))) x4, .v (.int .i64) x5]) [])) y1.2.2.2.2 base0 y1 (IntKind.wrap .i64 ((List.length y1.2.2.1 : Int) - r49))))))) ∧ (
 typing_Finish_1_P y1.2.2.2.2 y1 base0 (IntKind.wrap .i64 ((List.length y1.2.2.1 : Int) - r49)) ∧ (
 ∀ (r51 : Int), r51 = typing_Finish_1_F y1.2.2.2.2 y1 base0 (IntKind.wrap .i64 ((List.length y1.2.2.1 : Int) - r49)) → (
 wfR (.one (.v (.int .i64) r51)) → (
 bif (decide ((65536 : Int) < (IntKind.wrap .i64 ((IntKind.wrap .i64 ((List.length base0 : Int) - r51)) + (IntKind.wrap .i64 (y1.2.2.2.2 * (List.length y1.2.2.1 : Int))))))) then
 (wfD typing_Finish_d1 ((1 : Int), base0, y1, (IntKind.wrap .i64 ((List.length y1.2.2.1 : Int) - r49)), ()) → typing_Finish_J1 (fun (x4 : List ((Int × List Int × List Int))) (x5 : Int) => wfD typing_Finish_d1r (x4, x5, ()) → (
 K (.tup [.fr 39 (.st (.pair (.int .i64) (.pair (.sl (.int .u8)) (.sl (.int .u8))))) x4, .v (.int .i64) x5]) [])) (1 : Int) base0 y1 (IntKind.wrap .i64 ((List.length y1.2.2.1 : Int) - r49)))
 else
 (wfD typing_Finish_d1 (y1.2.2.2.2, base0, y1, (IntKind.wrap .i64 ((List.length y1.2.2.1 : Int) - r49)), ()) → typing_Finish_J1 (fun (x4 : List ((Int × List Int × List Int))) (x5 : Int) => wfD typing_Finish_d1r (x4, x5, ()) → (
 K (.tup [.fr 39 (.st (.pair (.int .i64) (.pair (.sl (.int .u8)) (.sl (.int .u8))))) x4, .v (.int .i64) x5]) [])) y1.2.2.2.2 base0 y1 (IntKind.wrap .i64 ((List.length y1.2.2.1 : Int) - r49))))))) ∧ True) ∧ (
 typing_Finish_1_P y1.2.2.2.2 y1 base0 (IntKind.wrap .i64 ((List.length y1.2.2.1 : Int) - r49)) ∧ (
 ∀ (r52 : Int), r52 = typing_Finish_1_F y1.2.2.2.2 y1 base0 (IntKind.wrap .i64 ((List.length y1.2.2.1 : Int) - r49)) → (
 wfR (.one (.v (.int .i64) r52)) → (
 (
 bif (decide ((65536 : Int) < (IntKind.wrap .i64 ((IntKind.wrap .i64 ((List.length base0 : Int) - r52)) + (IntKind.wrap .i64 (y1.2.2.2.2 * (List.length y1.2.2.1 : Int))))))) then
 (wfD typing_Finish_d1 ((1 : Int), base0, y1, (IntKind.wrap .i64 ((List.length y1.2.2.1 : Int) - r49)), ()) → typing_Finish_J1 (fun (x4 : List ((Int × List Int × List Int))) (x5 : Int) => wfD typing_Finish_d1r (x4, x5, ()) → (
 K (.tup [.fr 39 (.st (.pair (.int .i64) (.pair (.sl (.int .u8)) (.sl (.int .u8))))) x4, .v (.int .i64) x5]) [])) (1 : Int) base0 y1 (IntKind.wrap .i64 ((List.length y1.2.2.1 : Int) - r49)))
 else
 (wfD typing_Finish_d1 (y1.2.2.2.2, base0, y1, (IntKind.wrap .i64 ((List.length y1.2.2.1 : Int) - r49)), ()) → typing_Finish_J1 (fun (x4 : List ((Int × List Int × List Int))) (x5 : Int) => wfD typing_Finish_d1r (x4, x5, ()) → (
 K (.tup [.fr 39 (.st (.pair (.int .i64) (.pair (.sl (.int .u8)) (.sl (.int .u8))))) x4, .v (.int .i64) x5]) [])) y1.2.2.2.2 base0 y1 (IntKind.wrap .i64 ((List.length y1.2.2.1 : Int) - r49)))) ∧ (
 bif (decide ((65536 : Int) < (IntKind.wrap .i64 ((IntKind.wrap .i64 ((List.length base0 : Int) - r52)) + (IntKind.wrap .i64 (y1.2.2.2.2 * (List.length y1.2.2.1 : Int))))))) then
 (wfD typing_Finish_d1 ((1 : Int), base0, y1, (IntKind.wrap .i64 ((List.length y1.2.2.1 : Int) - r49)), ()) → typing_Finish_J1 (fun (x4 : List ((Int × List Int × List Int))) (x5 : Int) => wfD typing_Finish_d1r (x4, x5, ()) → (
 K (.tup [.fr 39 (.st (.pair (.int .i64) (.pair (.sl (.int .u8)) (.sl (.int .u8))))) x4, .v (.int .i64) x5]) [])) (1 : Int) base0 y1 (IntKind.wrap .i64 ((List.length y1.2.2.1 : Int) - r49)))
 else
 (wfD typing_Finish_d1 (y1.2.2.2.2, base0, y1, (IntKind.wrap .i64 ((List.length y1.2.2.1 : Int) - r49)), ()) → typing_Finish_J1 (fun (x4 : List ((Int × List Int × List Int))) (x5 : Int) => wfD typing_Finish_d1r (x4, x5, ()) → (
 K (.tup [.fr 39 (.st (.pair (.int .i64) (.pair (.sl (.int .u8)) (.sl (.int .u8))))) x4, .v (.int .i64) x5]) [])) y1.2.2.2.2 base0 y1 (IntKind.wrap .i64 ((List.length y1.2.2.1 : Int) - r49)))) ∧ True)))) ∧ (
 (
 typing_Finish_1_P y1.2.2.2.2 y1 base0 (IntKind.wrap .i64 ((List.length y1.2.2.1 : Int) - r49)) ∧ (
 ∀ (r53 : Int), r53 = typing_Finish_1_F y1.2.2.2.2 y1 base0 (IntKind.wrap .i64 ((List.length y1.2.2.1 : Int) - r49)) → (
 wfR (.one (.v (.int .i64) r53)) → (
 bif (decide ((65536 : Int) < (IntKind.wrap .i64 ((IntKind.wrap .i64 ((List.length base0 : Int) - r53)) + (IntKind.wrap .i64 (y1.2.2.2.2 * (List.length y1.2.2.1 : Int))))))) then
 (wfD typing_Finish_d1 ((1 : Int), base0, y1, (IntKind.wrap .i64 ((List.length y1.2.2.1 : Int) - r49)), ()) → typing_Finish_J1 (fun (x4 : List ((Int × List Int × List Int))) (x5 : Int) => wfD typing_Finish_d1r (x4, x5, ()) → (
 K (.tup [.fr 39 (.st (.pair (.int .i64) (.pair (.sl (.int .u8)) (.sl (.int .u8))))) x4, .v (.int .i64) x5]) [])) (1 : Int) base0 y1 (IntKind.wrap .i64 ((List.length y1.2.2.1 : Int) - r49)))
 else
 (wfD typing_Finish_d1 (y1.2.2.2.2, base0, y1, (IntKind.wrap .i64 ((List.length y1.2.2.1 : Int) - r49)), ()) → typing_Finish_J1 (fun (x4 : List ((Int × List Int × List Int))) (x5 : Int) => wfD typing_Finish_d1r (x4, x5, ()) → (
 K (.tup [.fr 39 (.st (.pair (.int .i64) (.pair (.sl (.int .u8)) (.sl (.int .u8))))) x4, .v (.int .i64) x5]) [])) y1.2.2.2.2 base0 y1 (IntKind.wrap .i64 ((List.length y1.2.2.1 : Int) - r49))))))) ∧ (
 typing_Finish_1_P y1.2.2.2.2 y1 base0 (IntKind.wrap .i64 ((List.length y1.2.2.1 : Int) - r49)) ∧ (
 ∀ (r54 : Int), r54 = typing_Finish_1_F y1.2.2.2.2 y1 base0 (IntKind.wrap .i64 ((List.length y1.2.2.1 : Int) - r49)) → (
 wfR (.one (.v (.int .i64) r54)) → (
 bif (decide ((65536 : Int) < (IntKind.wrap .i64 ((IntKind.wrap .i64 ((List.length base0 : Int) - r54)) + (IntKind.wrap .i64 (y1.2.2.2.2 * (List.length y1.2.2.1 : Int))))))) then
 (wfD typing_Finish_d1 ((1 : Int), base0, y1, (IntKind.wrap .i64 ((List.length y1.2.2.1 : Int) - r49)), ()) → typing_Finish_J1 (fun (x4 : List ((Int × List Int × List Int))) (x5 : Int) => wfD typing_Finish_d1r (x4, x5, ()) → (
 K (.tup [.fr 39 (.st (.pair (.int .i64) (.pair (.sl (.int .u8)) (.sl (.int .u8))))) x4, .v (.int .i64) x5]) [])) (1 : Int) base0 y1 (IntKind.wrap .i64 ((List.length y1.2.2.1 : Int) - r49)))
 else
 (wfD typing_Finish_d1 (y1.2.2.2.2, base0, y1, (IntKind.wrap .i64 ((List.length y1.2.2.1 : Int) - r49)), ()) → typing_Finish_J1 (fun (x4 : List ((Int × List Int × List Int))) (x5 : Int) => wfD typing_Finish_d1r (x4, x5, ()) → (
 K (.tup [.fr 39 (.st (.pair (.int .i64) (.pair (.sl (.int .u8)) (.sl (.int .u8))))) x4, .v (.int .i64) x5]) [])) y1.2.2.2.2 base0 y1 (IntKind.wrap .i64 ((List.length y1.2.2.1 : Int) - r49))))))) ∧ True) ∧ True)))) ∧ True) ∧ (
 bytes_Count_P y1.2.2.1 ([(10 : Int)] : List Int) ∧ (
 ∀ (r55 : Int), r55 = bytes_Count_F y1.2.2.1 ([(10 : Int)] : List Int) → (
 wfR (.one (.v (.int .i64) r55)) → (
 (
 (
 typing_Finish_1_P y1.2.2.2.2 y1 base0 (IntKind.wrap .i64 ((List.length y1.2.2.1 : Int) - r55)) ∧ (
 ∀ (r56 : Int), r56 = typing_Finish_1_F y1.2.2.2.2 y1 base0 (IntKind.wrap .i64 ((List.length y1.2.2.1 : Int) - r55)) → (
 wfR (.one (.v (.int .i64) r56)) → (
 bif (decide ((65536 : Int) < (IntKind.wrap .i64 ((IntKind.wrap .i64 ((List.length base0 : Int) - r56)) + (IntKind.wrap .i64 (y1.2.2.2.2 * (List.length y1.2.2.1 : Int))))))) then
 (wfD typing_Finish_d1 ((1 : Int), base0, y1, (IntKind.wrap .i64 ((List.length y1.2.2.1 : Int) - r55)), ()) → typing_Finish_J1 (fun (x4 : List ((Int × List Int × List Int))) (x5 : Int) => wfD typing_Finish_d1r (x4, x5, ()) → (
 K (.tup [.fr 39 (.st (.pair (.int .i64) (.pair (.sl (.int .u8)) (.sl (.int .u8))))) x4, .v (.int .i64) x5]) [])) (1 : Int) base0 y1 (IntKind.wrap .i64 ((List.length y1.2.2.1 : Int) - r55)))
 else
 (wfD typing_Finish_d1 (y1.2.2.2.2, base0, y1, (IntKind.wrap .i64 ((List.length y1.2.2.1 : Int) - r55)), ()) → typing_Finish_J1 (fun (x4 : List ((Int × List Int × List Int))) (x5 : Int) => wfD typing_Finish_d1r (x4, x5, ()) → (
 K (.tup [.fr 39 (.st (.pair (.int .i64) (.pair (.sl (.int .u8)) (.sl (.int .u8))))) x4, .v (.int .i64) x5]) [])) y1.2.2.2.2 base0 y1 (IntKind.wrap .i64 ((List.length y1.2.2.1 : Int) - r55))))))) ∧ (
 typing_Finish_1_P y1.2.2.2.2 y1 base0 (IntKind.wrap .i64 ((List.length y1.2.2.1 : Int) - r55)) ∧ (
 ∀ (r57 : Int), r57 = typing_Finish_1_F y1.2.2.2.2 y1 base0 (IntKind.wrap .i64 ((List.length y1.2.2.1 : Int) - r55)) → (
 wfR (.one (.v (.int .i64) r57)) → (
 bif (decide ((65536 : Int) < (IntKind.wrap .i64 ((IntKind.wrap .i64 ((List.length base0 : Int) - r57)) + (IntKind.wrap .i64 (y1.2.2.2.2 * (List.length y1.2.2.1 : Int))))))) then
 (wfD typing_Finish_d1 ((1 : Int), base0, y1, (IntKind.wrap .i64 ((List.length y1.2.2.1 : Int) - r55)), ()) → typing_Finish_J1 (fun (x4 : List ((Int × List Int × List Int))) (x5 : Int) => wfD typing_Finish_d1r (x4, x5, ()) → (
 K (.tup [.fr 39 (.st (.pair (.int .i64) (.pair (.sl (.int .u8)) (.sl (.int .u8))))) x4, .v (.int .i64) x5]) [])) (1 : Int) base0 y1 (IntKind.wrap .i64 ((List.length y1.2.2.1 : Int) - r55)))
 else
 (wfD typing_Finish_d1 (y1.2.2.2.2, base0, y1, (IntKind.wrap .i64 ((List.length y1.2.2.1 : Int) - r55)), ()) → typing_Finish_J1 (fun (x4 : List ((Int × List Int × List Int))) (x5 : Int) => wfD typing_Finish_d1r (x4, x5, ()) → (
 K (.tup [.fr 39 (.st (.pair (.int .i64) (.pair (.sl (.int .u8)) (.sl (.int .u8))))) x4, .v (.int .i64) x5]) [])) y1.2.2.2.2 base0 y1 (IntKind.wrap .i64 ((List.length y1.2.2.1 : Int) - r55))))))) ∧ True) ∧ (
 typing_Finish_1_P y1.2.2.2.2 y1 base0 (IntKind.wrap .i64 ((List.length y1.2.2.1 : Int) - r55)) ∧ (
 ∀ (r58 : Int), r58 = typing_Finish_1_F y1.2.2.2.2 y1 base0 (IntKind.wrap .i64 ((List.length y1.2.2.1 : Int) - r55)) → (
 wfR (.one (.v (.int .i64) r58)) → (
 (
 bif (decide ((65536 : Int) < (IntKind.wrap .i64 ((IntKind.wrap .i64 ((List.length base0 : Int) - r58)) + (IntKind.wrap .i64 (y1.2.2.2.2 * (List.length y1.2.2.1 : Int))))))) then
 (wfD typing_Finish_d1 ((1 : Int), base0, y1, (IntKind.wrap .i64 ((List.length y1.2.2.1 : Int) - r55)), ()) → typing_Finish_J1 (fun (x4 : List ((Int × List Int × List Int))) (x5 : Int) => wfD typing_Finish_d1r (x4, x5, ()) → (
 K (.tup [.fr 39 (.st (.pair (.int .i64) (.pair (.sl (.int .u8)) (.sl (.int .u8))))) x4, .v (.int .i64) x5]) [])) (1 : Int) base0 y1 (IntKind.wrap .i64 ((List.length y1.2.2.1 : Int) - r55)))
 else
 (wfD typing_Finish_d1 (y1.2.2.2.2, base0, y1, (IntKind.wrap .i64 ((List.length y1.2.2.1 : Int) - r55)), ()) → typing_Finish_J1 (fun (x4 : List ((Int × List Int × List Int))) (x5 : Int) => wfD typing_Finish_d1r (x4, x5, ()) → (
 K (.tup [.fr 39 (.st (.pair (.int .i64) (.pair (.sl (.int .u8)) (.sl (.int .u8))))) x4, .v (.int .i64) x5]) [])) y1.2.2.2.2 base0 y1 (IntKind.wrap .i64 ((List.length y1.2.2.1 : Int) - r55)))) ∧ (
 bif (decide ((65536 : Int) < (IntKind.wrap .i64 ((IntKind.wrap .i64 ((List.length base0 : Int) - r58)) + (IntKind.wrap .i64 (y1.2.2.2.2 * (List.length y1.2.2.1 : Int))))))) then
 (wfD typing_Finish_d1 ((1 : Int), base0, y1, (IntKind.wrap .i64 ((List.length y1.2.2.1 : Int) - r55)), ()) → typing_Finish_J1 (fun (x4 : List ((Int × List Int × List Int))) (x5 : Int) => wfD typing_Finish_d1r (x4, x5, ()) → (
 K (.tup [.fr 39 (.st (.pair (.int .i64) (.pair (.sl (.int .u8)) (.sl (.int .u8))))) x4, .v (.int .i64) x5]) [])) (1 : Int) base0 y1 (IntKind.wrap .i64 ((List.length y1.2.2.1 : Int) - r55)))
 else
 (wfD typing_Finish_d1 (y1.2.2.2.2, base0, y1, (IntKind.wrap .i64 ((List.length y1.2.2.1 : Int) - r55)), ()) → typing_Finish_J1 (fun (x4 : List ((Int × List Int × List Int))) (x5 : Int) => wfD typing_Finish_d1r (x4, x5, ()) → (
 K (.tup [.fr 39 (.st (.pair (.int .i64) (.pair (.sl (.int .u8)) (.sl (.int .u8))))) x4, .v (.int .i64) x5]) [])) y1.2.2.2.2 base0 y1 (IntKind.wrap .i64 ((List.length y1.2.2.1 : Int) - r55)))) ∧ True)))) ∧ (
 (
 typing_Finish_1_P y1.2.2.2.2 y1 base0 (IntKind.wrap .i64 ((List.length y1.2.2.1 : Int) - r55)) ∧ (
 ∀ (r59 : Int), r59 = typing_Finish_1_F y1.2.2.2.2 y1 base0 (IntKind.wrap .i64 ((List.length y1.2.2.1 : Int) - r55)) → (
 wfR (.one (.v (.int .i64) r59)) → (
 bif (decide ((65536 : Int) < (IntKind.wrap .i64 ((IntKind.wrap .i64 ((List.length base0 : Int) - r59)) + (IntKind.wrap .i64 (y1.2.2.2.2 * (List.length y1.2.2.1 : Int))))))) then
 (wfD typing_Finish_d1 ((1 : Int), base0, y1, (IntKind.wrap .i64 ((List.length y1.2.2.1 : Int) - r55)), ()) → typing_Finish_J1 (fun (x4 : List ((Int × List Int × List Int))) (x5 : Int) => wfD typing_Finish_d1r (x4, x5, ()) → (
 K (.tup [.fr 39 (.st (.pair (.int .i64) (.pair (.sl (.int .u8)) (.sl (.int .u8))))) x4, .v (.int .i64) x5]) [])) (1 : Int) base0 y1 (IntKind.wrap .i64 ((List.length y1.2.2.1 : Int) - r55)))
 else
 (wfD typing_Finish_d1 (y1.2.2.2.2, base0, y1, (IntKind.wrap .i64 ((List.length y1.2.2.1 : Int) - r55)), ()) → typing_Finish_J1 (fun (x4 : List ((Int × List Int × List Int))) (x5 : Int) => wfD typing_Finish_d1r (x4, x5, ()) → (
 K (.tup [.fr 39 (.st (.pair (.int .i64) (.pair (.sl (.int .u8)) (.sl (.int .u8))))) x4, .v (.int .i64) x5]) [])) y1.2.2.2.2 base0 y1 (IntKind.wrap .i64 ((List.length y1.2.2.1 : Int) - r55))))))) ∧ (
 typing_Finish_1_P y1.2.2.2.2 y1 base0 (IntKind.wrap .i64 ((List.length y1.2.2.1 : Int) - r55)) ∧ (
 ∀ (r60 : Int), r60 = typing_Finish_1_F y1.2.2.2.2 y1 base0 (IntKind.wrap .i64 ((List.length y1.2.2.1 : Int) - r55)) → (
 wfR (.one (.v (.int .i64) r60)) → (
 bif (decide ((65536 : Int) < (IntKind.wrap .i64 ((IntKind.wrap .i64 ((List.length base0 : Int) - r60)) + (IntKind.wrap .i64 (y1.2.2.2.2 * (List.length y1.2.2.1 : Int))))))) then
 (wfD typing_Finish_d1 ((1 : Int), base0, y1, (IntKind.wrap .i64 ((List.length y1.2.2.1 : Int) - r55)), ()) → typing_Finish_J1 (fun (x4 : List ((Int × List Int × List Int))) (x5 : Int) => wfD typing_Finish_d1r (x4, x5, ()) → (
 K (.tup [.fr 39 (.st (.pair (.int .i64) (.pair (.sl (.int .u8)) (.sl (.int .u8))))) x4, .v (.int .i64) x5]) [])) (1 : Int) base0 y1 (IntKind.wrap .i64 ((List.length y1.2.2.1 : Int) - r55)))
 else
 (wfD typing_Finish_d1 (y1.2.2.2.2, base0, y1, (IntKind.wrap .i64 ((List.length y1.2.2.1 : Int) - r55)), ()) → typing_Finish_J1 (fun (x4 : List ((Int × List Int × List Int))) (x5 : Int) => wfD typing_Finish_d1r (x4, x5, ()) → (
 K (.tup [.fr 39 (.st (.pair (.int .i64) (.pair (.sl (.int .u8)) (.sl (.int .u8))))) x4, .v (.int .i64) x5]) [])) y1.2.2.2.2 base0 y1 (IntKind.wrap .i64 ((List.length y1.2.2.1 : Int) - r55))))))) ∧ True) ∧ True)))) ∧ True))
def typing_Finish_A : List AS := [.v (.sl (.int .u8)), .v (.st (.pair (.int .u8) (.pair (.int .i64) (.pair (.sl (.int .u8)) (.pair (.int .i64) (.int .i64))))))]
theorem typing_Finish_walk (base0 : List Int) (y1 : (Int × Int × List Int × Int × Int)) (K : Res → List Cell → Prop) : runF tb (getG typing_Finish_G) typing_Finish_B1 Try.f5 [true, true] (mkA typing_Finish_A (base0, y1, ())) K = typing_Finish_raw base0 y1 K := by kernel_rfl

def typing_Finish_J0_P (n8 : Int) (text9 : List Int) (at10 : Int) (base2b : List Int) (y3b : (Int × Int × List Int × Int × Int)) (fresh6b : Int) : Prop :=
 bif (decide ((List.length text9 : Int) = (0 : Int))) then
 True
 else
 typing_Finish_1_P n8 y3b base2b fresh6b ∧ (
 let r5 : Int := typing_Finish_1_F n8 y3b base2b fresh6b
 (0 ≤ y3b.2.1 ∧ y3b.2.1 ≤ (IntKind.wrap .i64 (y3b.2.1 + r5)) ∧ (IntKind.wrap .i64 (y3b.2.1 + r5)) ≤ (List.length base2b : Int)) ∧ (
 bytes_Clone_P (slc base2b y3b.2.1 (IntKind.wrap .i64 (y3b.2.1 + r5)))))
def typing_Finish_J0_F (n8 : Int) (text9 : List Int) (at10 : Int) (base2b : List Int) (y3b : (Int × Int × List Int × Int × Int)) (fresh6b : Int) : List ((Int × List Int × List Int)) × Int :=
 bif (decide ((List.length text9 : Int) = (0 : Int))) then
 (([] : List ((Int × List Int × List Int))), at10)
 else
 let r5 : Int := typing_Finish_1_F n8 y3b base2b fresh6b
 let r6 : List Int := bytes_Clone_F (slc base2b y3b.2.1 (IntKind.wrap .i64 (y3b.2.1 + r5)))
 (([(y3b.2.1, r6, text9)] : List ((Int × List Int × List Int))), at10)
set_option maxRecDepth 20000 in
theorem typing_Finish_J0_sp (kr : List ((Int × List Int × List Int)) → Int → Prop) (n8 : Int) (text9 : List Int) (at10 : Int) (base2b : List Int) (y3b : (Int × Int × List Int × Int × Int)) (fresh6b : Int) (hp : typing_Finish_J0_P n8 text9 at10 base2b y3b fresh6b) (hr : ∀ q : List ((Int × List Int × List Int)) × Int, q = typing_Finish_J0_F n8 text9 at10 base2b y3b fresh6b → kr q.1 q.2) : typing_Finish_J0 kr n8 text9 at10 base2b y3b fresh6b := by
  unfold typing_Finish_J0
  unfold typing_Finish_J0_P at hp
  refine brb (fun c_1 => ?_) (fun c_1 => ?_)
  ·
    clear hp
    have e := hr _ ((ctrue c_1) : typing_Finish_J0_F n8 text9 at10 base2b y3b fresh6b = _).symm
    exact e
  ·
    replace hp := cF c_1 hp
    refine ⟨?_, ?_, ?_, ?_, trivial⟩
    ·
      refine ⟨?_, ?_, ?_, trivial⟩
      ·
        refine ⟨?_, ?_, trivial⟩
        ·
          refine ⟨hp.1, ?_⟩
          replace hp := hp.2
          intro r5 hr5
          subst hr5
          intro _
          refine asrt hp.1 ?_
          replace hp := hp.2
          refine ⟨hp, ?_⟩
          intro r6 hr6
          subst hr6
          intro _
          have e := hr _ ((cfalse c_1) : typing_Finish_J0_F n8 text9 at10 base2b y3b fresh6b = _).symm
          exact e
        ·
          refine ⟨hp.1, ?_⟩
          replace hp := hp.2
          intro r7 hr7
          subst hr7
          intro _
          refine asrt hp.1 ?_
          replace hp := hp.2
          refine ⟨hp, ?_⟩
          intro r8 hr8
          subst hr8
          intro _
          have e := hr _ ((cfalse c_1) : typing_Finish_J0_F n8 text9 at10 base2b y3b fresh6b = _).symm
          exact e
      ·
        refine ⟨?_, ?_, trivial⟩
        ·
          refine ⟨hp.1, ?_⟩
          replace hp := hp.2
          intro r9 hr9
          subst hr9
          intro _
          refine asrt hp.1 ?_
          replace hp := hp.2
          refine ⟨hp, ?_⟩
          intro r10 hr10
          subst hr10
          intro _
          have e := hr _ ((cfalse c_1) : typing_Finish_J0_F n8 text9 at10 base2b y3b fresh6b = _).symm
          exact e
        ·
          refine ⟨hp.1, ?_⟩
          replace hp := hp.2
          intro r11 hr11
          subst hr11
          intro _
          refine asrt hp.1 ?_
          replace hp := hp.2
          refine ⟨hp, ?_⟩
          intro r12 hr12
          subst hr12
          intro _
          have e := hr _ ((cfalse c_1) : typing_Finish_J0_F n8 text9 at10 base2b y3b fresh6b = _).symm
          exact e
      ·
        refine ⟨hp.1, ?_⟩
        replace hp := hp.2
        intro r13 hr13
        subst hr13
        intro _
        refine ⟨?_, ?_, trivial⟩
        ·
          refine asrt hp.1 ?_
          replace hp := hp.2
          refine ⟨hp, ?_⟩
          intro r14 hr14
          subst hr14
          intro _
          have e := hr _ ((cfalse c_1) : typing_Finish_J0_F n8 text9 at10 base2b y3b fresh6b = _).symm
          exact e
        ·
          refine asrt hp.1 ?_
          replace hp := hp.2
          refine ⟨hp, ?_⟩
          intro r15 hr15
          subst hr15
          intro _
          have e := hr _ ((cfalse c_1) : typing_Finish_J0_F n8 text9 at10 base2b y3b fresh6b = _).symm
          exact e
    ·
      refine ⟨?_, ?_, ?_, trivial⟩
      ·
        refine ⟨?_, ?_, trivial⟩
        ·
          refine ⟨hp.1, ?_⟩
          replace hp := hp.2
          intro r16 hr16
          subst hr16
          intro _
          refine asrt hp.1 ?_
          replace hp := hp.2
          refine ⟨hp, ?_⟩
          intro r17 hr17
          subst hr17
          intro _
          have e := hr _ ((cfalse c_1) : typing_Finish_J0_F n8 text9 at10 base2b y3b fresh6b = _).symm
          exact e
        ·
          refine ⟨hp.1, ?_⟩
          replace hp := hp.2
          intro r18 hr18
          subst hr18
          intro _
          refine asrt hp.1 ?_
          replace hp := hp.2
          refine ⟨hp, ?_⟩
          intro r19 hr19
          subst hr19
          intro _
          have e := hr _ ((cfalse c_1) : typing_Finish_J0_F n8 text9 at10 base2b y3b fresh6b = _).symm
          exact e
      ·
        refine ⟨?_, ?_, trivial⟩
        ·
          refine ⟨hp.1, ?_⟩
          replace hp := hp.2
          intro r20 hr20
          subst hr20
          intro _
          refine asrt hp.1 ?_
          replace hp := hp.2
          refine ⟨hp, ?_⟩
          intro r21 hr21
          subst hr21
          intro _
          have e := hr _ ((cfalse c_1) : typing_Finish_J0_F n8 text9 at10 base2b y3b fresh6b = _).symm
          exact e
        ·
          refine ⟨hp.1, ?_⟩
          replace hp := hp.2
          intro r22 hr22
          subst hr22
          intro _
          refine asrt hp.1 ?_
          replace hp := hp.2
          refine ⟨hp, ?_⟩
          intro r23 hr23
          subst hr23
          intro _
          have e := hr _ ((cfalse c_1) : typing_Finish_J0_F n8 text9 at10 base2b y3b fresh6b = _).symm
          exact e
      ·
        refine ⟨hp.1, ?_⟩
        replace hp := hp.2
        intro r24 hr24
        subst hr24
        intro _
        refine ⟨?_, ?_, trivial⟩
        ·
          refine asrt hp.1 ?_
          replace hp := hp.2
          refine ⟨hp, ?_⟩
          intro r25 hr25
          subst hr25
          intro _
          have e := hr _ ((cfalse c_1) : typing_Finish_J0_F n8 text9 at10 base2b y3b fresh6b = _).symm
          exact e
        ·
          refine asrt hp.1 ?_
          replace hp := hp.2
          refine ⟨hp, ?_⟩
          intro r26 hr26
          subst hr26
          intro _
          have e := hr _ ((cfalse c_1) : typing_Finish_J0_F n8 text9 at10 base2b y3b fresh6b = _).symm
          exact e
    ·
      refine ⟨?_, ?_, ?_, trivial⟩
      ·
        refine ⟨?_, ?_, trivial⟩
        ·
          refine ⟨hp.1, ?_⟩
          replace hp := hp.2
          intro r27 hr27
          subst hr27
          intro _
          refine asrt hp.1 ?_
          replace hp := hp.2
          refine ⟨hp, ?_⟩
          intro r28 hr28
          subst hr28
          intro _
          have e := hr _ ((cfalse c_1) : typing_Finish_J0_F n8 text9 at10 base2b y3b fresh6b = _).symm
          exact e
        ·
          refine ⟨hp.1, ?_⟩
          replace hp := hp.2
          intro r29 hr29
          subst hr29
          intro _
          refine asrt hp.1 ?_
          replace hp := hp.2
          refine ⟨hp, ?_⟩
          intro r30 hr30
          subst hr30
          intro _
          have e := hr _ ((cfalse c_1) : typing_Finish_J0_F n8 text9 at10 base2b y3b fresh6b = _).symm
          exact e
      ·
        refine ⟨?_, ?_, trivial⟩
        ·
          refine ⟨hp.1, ?_⟩
          replace hp := hp.2
          intro r31 hr31
          subst hr31
          intro _
          refine asrt hp.1 ?_
          replace hp := hp.2
          refine ⟨hp, ?_⟩
          intro r32 hr32
          subst hr32
          intro _
          have e := hr _ ((cfalse c_1) : typing_Finish_J0_F n8 text9 at10 base2b y3b fresh6b = _).symm
          exact e
        ·
          refine ⟨hp.1, ?_⟩
          replace hp := hp.2
          intro r33 hr33
          subst hr33
          intro _
          refine asrt hp.1 ?_
          replace hp := hp.2
          refine ⟨hp, ?_⟩
          intro r34 hr34
          subst hr34
          intro _
          have e := hr _ ((cfalse c_1) : typing_Finish_J0_F n8 text9 at10 base2b y3b fresh6b = _).symm
          exact e
      ·
        refine ⟨hp.1, ?_⟩
        replace hp := hp.2
        intro r35 hr35
        subst hr35
        intro _
        refine ⟨?_, ?_, trivial⟩
        ·
          refine asrt hp.1 ?_
          replace hp := hp.2
          refine ⟨hp, ?_⟩
          intro r36 hr36
          subst hr36
          intro _
          have e := hr _ ((cfalse c_1) : typing_Finish_J0_F n8 text9 at10 base2b y3b fresh6b = _).symm
          exact e
        ·
          refine asrt hp.1 ?_
          replace hp := hp.2
          refine ⟨hp, ?_⟩
          intro r37 hr37
          subst hr37
          intro _
          have e := hr _ ((cfalse c_1) : typing_Finish_J0_F n8 text9 at10 base2b y3b fresh6b = _).symm
          exact e
    ·
      refine ⟨hp.1, ?_⟩
      replace hp := hp.2
      intro r38 hr38
      subst hr38
      intro _
      refine ⟨?_, ?_, ?_, trivial⟩
      ·
        refine ⟨?_, ?_, trivial⟩
        ·
          refine asrt hp.1 ?_
          replace hp := hp.2
          refine ⟨hp, ?_⟩
          intro r39 hr39
          subst hr39
          intro _
          have e := hr _ ((cfalse c_1) : typing_Finish_J0_F n8 text9 at10 base2b y3b fresh6b = _).symm
          exact e
        ·
          refine asrt hp.1 ?_
          replace hp := hp.2
          refine ⟨hp, ?_⟩
          intro r40 hr40
          subst hr40
          intro _
          have e := hr _ ((cfalse c_1) : typing_Finish_J0_F n8 text9 at10 base2b y3b fresh6b = _).symm
          exact e
      ·
        refine ⟨?_, ?_, trivial⟩
        ·
          refine asrt hp.1 ?_
          replace hp := hp.2
          refine ⟨hp, ?_⟩
          intro r41 hr41
          subst hr41
          intro _
          have e := hr _ ((cfalse c_1) : typing_Finish_J0_F n8 text9 at10 base2b y3b fresh6b = _).symm
          exact e
        ·
          refine asrt hp.1 ?_
          replace hp := hp.2
          refine ⟨hp, ?_⟩
          intro r42 hr42
          subst hr42
          intro _
          have e := hr _ ((cfalse c_1) : typing_Finish_J0_F n8 text9 at10 base2b y3b fresh6b = _).symm
          exact e
      ·
        refine ⟨?_, ?_, trivial⟩
        ·
          refine asrt hp.1 ?_
          replace hp := hp.2
          refine ⟨hp, ?_⟩
          intro r43 hr43
          subst hr43
          intro _
          have e := hr _ ((cfalse c_1) : typing_Finish_J0_F n8 text9 at10 base2b y3b fresh6b = _).symm
          exact e
        ·
          refine asrt hp.1 ?_
          replace hp := hp.2
          refine ⟨hp, ?_⟩
          intro r44 hr44
          subst hr44
          intro _
          have e := hr _ ((cfalse c_1) : typing_Finish_J0_F n8 text9 at10 base2b y3b fresh6b = _).symm
          exact e
def typing_Finish_J1_P (n8 : Int) (base2b : List Int) (y3b : (Int × Int × List Int × Int × Int)) (fresh6b : Int) : Prop :=
 bytes_Repeat_P y3b.2.2.1 n8 ∧ (
 let r4 : List Int := bytes_Repeat_F y3b.2.2.1 n8
 bif (decide ((0 : Int) < (IntKind.wrap .i64 (y3b.2.1 + (List.length r4 : Int))))) then
 bif (decide ((0 : Int) < (List.length r4 : Int))) then
 (0 ≤ (IntKind.wrap .i64 ((List.length r4 : Int) - (1 : Int))) ∧ (IntKind.wrap .i64 ((List.length r4 : Int) - (1 : Int))) < (List.length r4 : Int)) ∧ (
 bif (!decide ((rd (0 : Int) r4 (IntKind.wrap .i64 ((List.length r4 : Int) - (1 : Int)))) = (10 : Int))) then
 typing_Finish_J0_P n8 r4 (IntKind.wrap .i64 ((IntKind.wrap .i64 (y3b.2.1 + (List.length r4 : Int))) - (1 : Int))) base2b y3b fresh6b
 else
 bif (decide ((List.length r4 : Int) = (0 : Int))) then
 (0 ≤ (IntKind.wrap .i64 ((IntKind.wrap .i64 (y3b.2.1 + (List.length r4 : Int))) - (1 : Int))) ∧ (IntKind.wrap .i64 ((IntKind.wrap .i64 (y3b.2.1 + (List.length r4 : Int))) - (1 : Int))) < (List.length base2b : Int)) ∧ (
 bif (!decide ((rd (0 : Int) base2b (IntKind.wrap .i64 ((IntKind.wrap .i64 (y3b.2.1 + (List.length r4 : Int))) - (1 : Int)))) = (10 : Int))) then
 typing_Finish_J0_P n8 r4 (IntKind.wrap .i64 ((IntKind.wrap .i64 (y3b.2.1 + (List.length r4 : Int))) - (1 : Int))) base2b y3b fresh6b
 else
 typing_Finish_J0_P n8 r4 (IntKind.wrap .i64 (y3b.2.1 + (List.length r4 : Int))) base2b y3b fresh6b)
 else
 typing_Finish_J0_P n8 r4 (IntKind.wrap .i64 (y3b.2.1 + (List.length r4 : Int))) base2b y3b fresh6b)
 else
 bif (decide ((List.length r4 : Int) = (0 : Int))) then
 (0 ≤ (IntKind.wrap .i64 ((IntKind.wrap .i64 (y3b.2.1 + (List.length r4 : Int))) - (1 : Int))) ∧ (IntKind.wrap .i64 ((IntKind.wrap .i64 (y3b.2.1 + (List.length r4 : Int))) - (1 : Int))) < (List.length base2b : Int)) ∧ (
 bif (!decide ((rd (0 : Int) base2b (IntKind.wrap .i64 ((IntKind.wrap .i64 (y3b.2.1 + (List.length r4 : Int))) - (1 : Int)))) = (10 : Int))) then
 typing_Finish_J0_P n8 r4 (IntKind.wrap .i64 ((IntKind.wrap .i64 (y3b.2.1 + (List.length r4 : Int))) - (1 : Int))) base2b y3b fresh6b
 else
 typing_Finish_J0_P n8 r4 (IntKind.wrap .i64 (y3b.2.1 + (List.length r4 : Int))) base2b y3b fresh6b)
 else
 typing_Finish_J0_P n8 r4 (IntKind.wrap .i64 (y3b.2.1 + (List.length r4 : Int))) base2b y3b fresh6b
 else
 typing_Finish_J0_P n8 r4 (IntKind.wrap .i64 (y3b.2.1 + (List.length r4 : Int))) base2b y3b fresh6b)
def typing_Finish_J1_F (n8 : Int) (base2b : List Int) (y3b : (Int × Int × List Int × Int × Int)) (fresh6b : Int) : List ((Int × List Int × List Int)) × Int :=
 let r4 : List Int := bytes_Repeat_F y3b.2.2.1 n8
 bif (decide ((0 : Int) < (IntKind.wrap .i64 (y3b.2.1 + (List.length r4 : Int))))) then
 bif (decide ((0 : Int) < (List.length r4 : Int))) then
 bif (!decide ((rd (0 : Int) r4 (IntKind.wrap .i64 ((List.length r4 : Int) - (1 : Int)))) = (10 : Int))) then
 let q0r : List ((Int × List Int × List Int)) × Int := typing_Finish_J0_F n8 r4 (IntKind.wrap .i64 ((IntKind.wrap .i64 (y3b.2.1 + (List.length r4 : Int))) - (1 : Int))) base2b y3b fresh6b
 let x4 : List ((Int × List Int × List Int)) := q0r.1
 let x5 : Int := q0r.2
 (x4, x5)
 else
 bif (decide ((List.length r4 : Int) = (0 : Int))) then
 bif (!decide ((rd (0 : Int) base2b (IntKind.wrap .i64 ((IntKind.wrap .i64 (y3b.2.1 + (List.length r4 : Int))) - (1 : Int)))) = (10 : Int))) then
 let q0r : List ((Int × List Int × List Int)) × Int := typing_Finish_J0_F n8 r4 (IntKind.wrap .i64 ((IntKind.wrap .i64 (y3b.2.1 + (List.length r4 : Int))) - (1 : Int))) base2b y3b fresh6b
 let x4 : List ((Int × List Int × List Int)) := q0r.1
 let x5 : Int := q0r.2
 (x4, x5)
 else
 let q0r : List ((Int × List Int × List Int)) × Int := typing_Finish_J0_F n8 r4 (IntKind.wrap .i64 (y3b.2.1 + (List.length r4 : Int))) base2b y3b fresh6b
 let x4 : List ((Int × List Int × List Int)) := q0r.1
 let x5 : Int := q0r.2
 (x4, x5)
 else
 let q0r : List ((Int × List Int × List Int)) × Int := typing_Finish_J0_F n8 r4 (IntKind.wrap .i64 (y3b.2.1 + (List.length r4 : Int))) base2b y3b fresh6b
 let x4 : List ((Int × List Int × List Int)) := q0r.1
 let x5 : Int := q0r.2
 (x4, x5)
 else
 bif (decide ((List.length r4 : Int) = (0 : Int))) then
 bif (!decide ((rd (0 : Int) base2b (IntKind.wrap .i64 ((IntKind.wrap .i64 (y3b.2.1 + (List.length r4 : Int))) - (1 : Int)))) = (10 : Int))) then
 let q0r : List ((Int × List Int × List Int)) × Int := typing_Finish_J0_F n8 r4 (IntKind.wrap .i64 ((IntKind.wrap .i64 (y3b.2.1 + (List.length r4 : Int))) - (1 : Int))) base2b y3b fresh6b
 let x4 : List ((Int × List Int × List Int)) := q0r.1
 let x5 : Int := q0r.2
 (x4, x5)
 else
 let q0r : List ((Int × List Int × List Int)) × Int := typing_Finish_J0_F n8 r4 (IntKind.wrap .i64 (y3b.2.1 + (List.length r4 : Int))) base2b y3b fresh6b
 let x4 : List ((Int × List Int × List Int)) := q0r.1
 let x5 : Int := q0r.2
 (x4, x5)
 else
 let q0r : List ((Int × List Int × List Int)) × Int := typing_Finish_J0_F n8 r4 (IntKind.wrap .i64 (y3b.2.1 + (List.length r4 : Int))) base2b y3b fresh6b
 let x4 : List ((Int × List Int × List Int)) := q0r.1
 let x5 : Int := q0r.2
 (x4, x5)
 else
 let q0r : List ((Int × List Int × List Int)) × Int := typing_Finish_J0_F n8 r4 (IntKind.wrap .i64 (y3b.2.1 + (List.length r4 : Int))) base2b y3b fresh6b
 let x4 : List ((Int × List Int × List Int)) := q0r.1
 let x5 : Int := q0r.2
 (x4, x5)
set_option maxRecDepth 20000 in
theorem typing_Finish_J1_sp (kr : List ((Int × List Int × List Int)) → Int → Prop) (n8 : Int) (base2b : List Int) (y3b : (Int × Int × List Int × Int × Int)) (fresh6b : Int) (hp : typing_Finish_J1_P n8 base2b y3b fresh6b) (hr : ∀ q : List ((Int × List Int × List Int)) × Int, q = typing_Finish_J1_F n8 base2b y3b fresh6b → kr q.1 q.2) : typing_Finish_J1 kr n8 base2b y3b fresh6b := by
  unfold typing_Finish_J1
  unfold typing_Finish_J1_P at hp
  refine ⟨hp.1, ?_⟩
  replace hp := hp.2
  intro r4 hr4
  subst hr4
  intro _
  refine brb (fun c_2 => ?_) (fun c_2 => ?_)
  ·
    replace hp := cT c_2 hp
    refine brb (fun c_3 => ?_) (fun c_3 => ?_)
    ·
      replace hp := cT c_3 hp
      refine asrt hp.1 ?_
      replace hp := hp.2
      refine brb (fun c_4 => ?_) (fun c_4 => ?_)
      ·
        replace hp := cT c_4 hp
        refine fun _ => typing_Finish_J0_sp _ _ _ _ _ _ _ hp (fun q hq => ?_)
        subst hq
        intro _
        clear hp
        have e := hr _ ((Eq.trans (ctrue c_2) (Eq.trans (ctrue c_3) (ctrue c_4))) : typing_Finish_J1_F n8 base2b y3b fresh6b = _).symm
        exact e
      ·
        replace hp := cF c_4 hp
        refine brb (fun c_5 => ?_) (fun c_5 => ?_)
        ·
          replace hp := cT c_5 hp
          refine asrt hp.1 ?_
          replace hp := hp.2
          refine brb (fun c_6 => ?_) (fun c_6 => ?_)
          ·
            replace hp := cT c_6 hp
            refine fun _ => typing_Finish_J0_sp _ _ _ _ _ _ _ hp (fun q hq => ?_)
            subst hq
            intro _
            clear hp
            have e := hr _ ((Eq.trans (ctrue c_2) (Eq.trans (ctrue c_3) (Eq.trans (cfalse c_4) (Eq.trans (ctrue c_5) (ctrue c_6))))) : typing_Finish_J1_F n8 base2b y3b fresh6b = _).symm
            exact e
          ·
            replace hp := cF c_6 hp
            refine fun _ => typing_Finish_J0_sp _ _ _ _ _ _ _ hp (fun q hq => ?_)
            subst hq
            intro _
            clear hp
            have e := hr _ ((Eq.trans (ctrue c_2) (Eq.trans (ctrue c_3) (Eq.trans (cfalse c_4) (Eq.trans (ctrue c_5) (cfalse c_6))))) : typing_Finish_J1_F n8 base2b y3b fresh6b = _).symm
            exact e
        ·
          replace hp := cF c_5 hp
          refine fun _ => typing_Finish_J0_sp _ _ _ _ _ _ _ hp (fun q hq => ?_)
          subst hq
          intro _
          clear hp
          have e := hr _ ((Eq.trans (ctrue c_2) (Eq.trans (ctrue c_3) (Eq.trans (cfalse c_4) (cfalse c_5)))) : typing_Finish_J1_F n8 base2b y3b fresh6b = _).symm
          exact e
    ·
      replace hp := cF c_3 hp
      refine brb (fun c_7 => ?_) (fun c_7 => ?_)
      ·
        replace hp := cT c_7 hp
        refine asrt hp.1 ?_
        replace hp := hp.2
        refine brb (fun c_8 => ?_) (fun c_8 => ?_)
        ·
          replace hp := cT c_8 hp
          refine fun _ => typing_Finish_J0_sp _ _ _ _ _ _ _ hp (fun q hq => ?_)
          subst hq
          intro _
          clear hp
          have e := hr _ ((Eq.trans (ctrue c_2) (Eq.trans (cfalse c_3) (Eq.trans (ctrue c_7) (ctrue c_8)))) : typing_Finish_J1_F n8 base2b y3b fresh6b = _).symm
          exact e
        ·
          replace hp := cF c_8 hp
          refine fun _ => typing_Finish_J0_sp _ _ _ _ _ _ _ hp (fun q hq => ?_)
          subst hq
          intro _
          clear hp
          have e := hr _ ((Eq.trans (ctrue c_2) (Eq.trans (cfalse c_3) (Eq.trans (ctrue c_7) (cfalse c_8)))) : typing_Finish_J1_F n8 base2b y3b fresh6b = _).symm
          exact e
      ·
        replace hp := cF c_7 hp
        refine fun _ => typing_Finish_J0_sp _ _ _ _ _ _ _ hp (fun q hq => ?_)
        subst hq
        intro _
        clear hp
        have e := hr _ ((Eq.trans (ctrue c_2) (Eq.trans (cfalse c_3) (cfalse c_7))) : typing_Finish_J1_F n8 base2b y3b fresh6b = _).symm
        exact e
  ·
    replace hp := cF c_2 hp
    refine fun _ => typing_Finish_J0_sp _ _ _ _ _ _ _ hp (fun q hq => ?_)
    subst hq
    intro _
    clear hp
    have e := hr _ ((cfalse c_2) : typing_Finish_J1_F n8 base2b y3b fresh6b = _).symm
    exact e
def typing_Finish_P (base0 : List Int) (y1 : (Int × Int × List Int × Int × Int)) : Prop :=
 let r1 : Bool := typing_fits_F base0 y1
 bif (!r1) then
 True
 else
 bytes_Count_P y1.2.2.1 ([(10 : Int)] : List Int) ∧ (
 let r2 : Int := bytes_Count_F y1.2.2.1 ([(10 : Int)] : List Int)
 typing_Finish_1_P y1.2.2.2.2 y1 base0 (IntKind.wrap .i64 ((List.length y1.2.2.1 : Int) - r2)) ∧ (
 let r3 : Int := typing_Finish_1_F y1.2.2.2.2 y1 base0 (IntKind.wrap .i64 ((List.length y1.2.2.1 : Int) - r2))
 bif (decide ((65536 : Int) < (IntKind.wrap .i64 ((IntKind.wrap .i64 ((List.length base0 : Int) - r3)) + (IntKind.wrap .i64 (y1.2.2.2.2 * (List.length y1.2.2.1 : Int))))))) then
 typing_Finish_J1_P (1 : Int) base0 y1 (IntKind.wrap .i64 ((List.length y1.2.2.1 : Int) - r2))
 else
 typing_Finish_J1_P y1.2.2.2.2 base0 y1 (IntKind.wrap .i64 ((List.length y1.2.2.1 : Int) - r2))))
def typing_Finish_F (base0 : List Int) (y1 : (Int × Int × List Int × Int × Int)) : List ((Int × List Int × List Int)) × Int :=
 let r1 : Bool := typing_fits_F base0 y1
 bif (!r1) then
 (([] : List ((Int × List Int × List Int))), (0 : Int))
 else
 let r2 : Int := bytes_Count_F y1.2.2.1 ([(10 : Int)] : List Int)
 let r3 : Int := typing_Finish_1_F y1.2.2.2.2 y1 base0 (IntKind.wrap .i64 ((List.length y1.2.2.1 : Int) - r2))
 bif (decide ((65536 : Int) < (IntKind.wrap .i64 ((IntKind.wrap .i64 ((List.length base0 : Int) - r3)) + (IntKind.wrap .i64 (y1.2.2.2.2 * (List.length y1.2.2.1 : Int))))))) then
 let q1r : List ((Int × List Int × List Int)) × Int := typing_Finish_J1_F (1 : Int) base0 y1 (IntKind.wrap .i64 ((List.length y1.2.2.1 : Int) - r2))
 let x4 : List ((Int × List Int × List Int)) := q1r.1
 let x5 : Int := q1r.2
 (x4, x5)
 else
 let q1r : List ((Int × List Int × List Int)) × Int := typing_Finish_J1_F y1.2.2.2.2 base0 y1 (IntKind.wrap .i64 ((List.length y1.2.2.1 : Int) - r2))
 let x4 : List ((Int × List Int × List Int)) := q1r.1
 let x5 : Int := q1r.2
 (x4, x5)
set_option maxRecDepth 20000 in
theorem typing_Finish_sp (base0 : List Int) (y1 : (Int × Int × List Int × Int × Int)) (K : Res → List Cell → Prop) (_ : wfA typing_Finish_A (base0, y1, ())) (hp : typing_Finish_P base0 y1) (h : ∀ r : List ((Int × List Int × List Int)) × Int, r = typing_Finish_F base0 y1 → K (.tup [.fr 39 (.st (.pair (.int .i64) (.pair (.sl (.int .u8)) (.sl (.int .u8))))) r.1, .v (.int .i64) r.2]) []) : typing_Finish_raw base0 y1 K := by
  unfold typing_Finish_raw
  unfold typing_Finish_P at hp
  intro r1 hr1
  subst hr1
  intro _
  refine brb (fun c_9 => ?_) (fun c_9 => ?_)
  ·
    clear hp
    have e := h _ ((ctrue c_9) : typing_Finish_F base0 y1 = _).symm
    exact e
  ·
    replace hp := cF c_9 hp
    refine ⟨?_, ?_, trivial⟩
    ·
      refine ⟨?_, ?_, trivial⟩
      ·
        refine ⟨hp.1, ?_⟩
        replace hp := hp.2
        intro r2 hr2
        subst hr2
        intro _
        refine ⟨?_, ?_, ?_, trivial⟩
        ·
          refine ⟨?_, ?_, trivial⟩
          ·
            refine ⟨hp.1, ?_⟩
            replace hp := hp.2
            intro r3 hr3
            subst hr3
            intro _
            refine brb (fun c_10 => ?_) (fun c_10 => ?_)
            ·
              replace hp := cT c_10 hp
              refine fun _ => typing_Finish_J1_sp _ _ _ _ _ hp (fun q hq => ?_)
              subst hq
              intro _
              clear hp
              have e := h _ ((Eq.trans (cfalse c_9) (ctrue c_10)) : typing_Finish_F base0 y1 = _).symm
              exact e
            ·
              replace hp := cF c_10 hp
              refine fun _ => typing_Finish_J1_sp _ _ _ _ _ hp (fun q hq => ?_)
              subst hq
              intro _
              clear hp
              have e := h _ ((Eq.trans (cfalse c_9) (cfalse c_10)) : typing_Finish_F base0 y1 = _).symm
              exact e
          ·
            refine ⟨hp.1, ?_⟩
            replace hp := hp.2
            intro r45 hr45
            subst hr45
            intro _
            refine brb (fun c_11 => ?_) (fun c_11 => ?_)
            ·
              replace hp := cT c_11 hp
              refine fun _ => typing_Finish_J1_sp _ _ _ _ _ hp (fun q hq => ?_)
              subst hq
              intro _
              clear hp
              have e := h _ ((Eq.trans (cfalse c_9) (ctrue c_11)) : typing_Finish_F base0 y1 = _).symm
              exact e
            ·
              replace hp := cF c_11 hp
              refine fun _ => typing_Finish_J1_sp _ _ _ _ _ hp (fun q hq => ?_)
              subst hq
              intro _
              clear hp
              have e := h _ ((Eq.trans (cfalse c_9) (cfalse c_11)) : typing_Finish_F base0 y1 = _).symm
              exact e
        ·
          refine ⟨hp.1, ?_⟩
          replace hp := hp.2
          intro r46 hr46
          subst hr46
          intro _
          refine ⟨?_, ?_, trivial⟩
          ·
            refine brb (fun c_12 => ?_) (fun c_12 => ?_)
            ·
              replace hp := cT c_12 hp
              refine fun _ => typing_Finish_J1_sp _ _ _ _ _ hp (fun q hq => ?_)
              subst hq
              intro _
              clear hp
              have e := h _ ((Eq.trans (cfalse c_9) (ctrue c_12)) : typing_Finish_F base0 y1 = _).symm
              exact e
            ·
              replace hp := cF c_12 hp
              refine fun _ => typing_Finish_J1_sp _ _ _ _ _ hp (fun q hq => ?_)
              subst hq
              intro _
              clear hp
              have e := h _ ((Eq.trans (cfalse c_9) (cfalse c_12)) : typing_Finish_F base0 y1 = _).symm
              exact e
          ·
            refine brb (fun c_13 => ?_) (fun c_13 => ?_)
            ·
              replace hp := cT c_13 hp
              refine fun _ => typing_Finish_J1_sp _ _ _ _ _ hp (fun q hq => ?_)
              subst hq
              intro _
              clear hp
              have e := h _ ((Eq.trans (cfalse c_9) (ctrue c_13)) : typing_Finish_F base0 y1 = _).symm
              exact e
            ·
              replace hp := cF c_13 hp
              refine fun _ => typing_Finish_J1_sp _ _ _ _ _ hp (fun q hq => ?_)
              subst hq
              intro _
              clear hp
              have e := h _ ((Eq.trans (cfalse c_9) (cfalse c_13)) : typing_Finish_F base0 y1 = _).symm
              exact e
        ·
          refine ⟨?_, ?_, trivial⟩
          ·
            refine ⟨hp.1, ?_⟩
            replace hp := hp.2
            intro r47 hr47
            subst hr47
            intro _
            refine brb (fun c_14 => ?_) (fun c_14 => ?_)
            ·
              replace hp := cT c_14 hp
              refine fun _ => typing_Finish_J1_sp _ _ _ _ _ hp (fun q hq => ?_)
              subst hq
              intro _
              clear hp
              have e := h _ ((Eq.trans (cfalse c_9) (ctrue c_14)) : typing_Finish_F base0 y1 = _).symm
              exact e
            ·
              replace hp := cF c_14 hp
              refine fun _ => typing_Finish_J1_sp _ _ _ _ _ hp (fun q hq => ?_)
              subst hq
              intro _
              clear hp
              have e := h _ ((Eq.trans (cfalse c_9) (cfalse c_14)) : typing_Finish_F base0 y1 = _).symm
              exact e
          ·
            refine ⟨hp.1, ?_⟩
            replace hp := hp.2
            intro r48 hr48
            subst hr48
            intro _
            refine brb (fun c_15 => ?_) (fun c_15 => ?_)
            ·
              replace hp := cT c_15 hp
              refine fun _ => typing_Finish_J1_sp _ _ _ _ _ hp (fun q hq => ?_)
              subst hq
              intro _
              clear hp
              have e := h _ ((Eq.trans (cfalse c_9) (ctrue c_15)) : typing_Finish_F base0 y1 = _).symm
              exact e
            ·
              replace hp := cF c_15 hp
              refine fun _ => typing_Finish_J1_sp _ _ _ _ _ hp (fun q hq => ?_)
              subst hq
              intro _
              clear hp
              have e := h _ ((Eq.trans (cfalse c_9) (cfalse c_15)) : typing_Finish_F base0 y1 = _).symm
              exact e
      ·
        refine ⟨hp.1, ?_⟩
        replace hp := hp.2
        intro r49 hr49
        subst hr49
        intro _
        refine ⟨?_, ?_, ?_, trivial⟩
        ·
          refine ⟨?_, ?_, trivial⟩
          ·
            refine ⟨hp.1, ?_⟩
            replace hp := hp.2
            intro r50 hr50
            subst hr50
            intro _
            refine brb (fun c_16 => ?_) (fun c_16 => ?_)
            ·
              replace hp := cT c_16 hp
              refine fun _ => typing_Finish_J1_sp _ _ _ _ _ hp (fun q hq => ?_)
              subst hq
              intro _
              clear hp
              have e := h _ ((Eq.trans (cfalse c_9) (ctrue c_16)) : typing_Finish_F base0 y1 = _).symm
              exact e
            ·
              replace hp := cF c_16 hp
              refine fun _ => typing_Finish_J1_sp _ _ _ _ _ hp (fun q hq => ?_)
              subst hq
              intro _
              clear hp
              have e := h _ ((Eq.trans (cfalse c_9) (cfalse c_16)) : typing_Finish_F base0 y1 = _).symm
              exact e
          ·
            refine ⟨hp.1, ?_⟩
            replace hp := hp.2
            intro r51 hr51
            subst hr51
            intro _
            refine brb (fun c_17 => ?_) (fun c_17 => ?_)
            ·
              replace hp := cT c_17 hp
              refine fun _ => typing_Finish_J1_sp _ _ _ _ _ hp (fun q hq => ?_)
              subst hq
              intro _
              clear hp
              have e := h _ ((Eq.trans (cfalse c_9) (ctrue c_17)) : typing_Finish_F base0 y1 = _).symm
              exact e
            ·
              replace hp := cF c_17 hp
              refine fun _ => typing_Finish_J1_sp _ _ _ _ _ hp (fun q hq => ?_)
              subst hq
              intro _
              clear hp
              have e := h _ ((Eq.trans (cfalse c_9) (cfalse c_17)) : typing_Finish_F base0 y1 = _).symm
              exact e
        ·
          refine ⟨hp.1, ?_⟩
          replace hp := hp.2
          intro r52 hr52
          subst hr52
          intro _
          refine ⟨?_, ?_, trivial⟩
          ·
            refine brb (fun c_18 => ?_) (fun c_18 => ?_)
            ·
              replace hp := cT c_18 hp
              refine fun _ => typing_Finish_J1_sp _ _ _ _ _ hp (fun q hq => ?_)
              subst hq
              intro _
              clear hp
              have e := h _ ((Eq.trans (cfalse c_9) (ctrue c_18)) : typing_Finish_F base0 y1 = _).symm
              exact e
            ·
              replace hp := cF c_18 hp
              refine fun _ => typing_Finish_J1_sp _ _ _ _ _ hp (fun q hq => ?_)
              subst hq
              intro _
              clear hp
              have e := h _ ((Eq.trans (cfalse c_9) (cfalse c_18)) : typing_Finish_F base0 y1 = _).symm
              exact e
          ·
            refine brb (fun c_19 => ?_) (fun c_19 => ?_)
            ·
              replace hp := cT c_19 hp
              refine fun _ => typing_Finish_J1_sp _ _ _ _ _ hp (fun q hq => ?_)
              subst hq
              intro _
              clear hp
              have e := h _ ((Eq.trans (cfalse c_9) (ctrue c_19)) : typing_Finish_F base0 y1 = _).symm
              exact e
            ·
              replace hp := cF c_19 hp
              refine fun _ => typing_Finish_J1_sp _ _ _ _ _ hp (fun q hq => ?_)
              subst hq
              intro _
              clear hp
              have e := h _ ((Eq.trans (cfalse c_9) (cfalse c_19)) : typing_Finish_F base0 y1 = _).symm
              exact e
        ·
          refine ⟨?_, ?_, trivial⟩
          ·
            refine ⟨hp.1, ?_⟩
            replace hp := hp.2
            intro r53 hr53
            subst hr53
            intro _
            refine brb (fun c_20 => ?_) (fun c_20 => ?_)
            ·
              replace hp := cT c_20 hp
              refine fun _ => typing_Finish_J1_sp _ _ _ _ _ hp (fun q hq => ?_)
              subst hq
              intro _
              clear hp
              have e := h _ ((Eq.trans (cfalse c_9) (ctrue c_20)) : typing_Finish_F base0 y1 = _).symm
              exact e
            ·
              replace hp := cF c_20 hp
              refine fun _ => typing_Finish_J1_sp _ _ _ _ _ hp (fun q hq => ?_)
              subst hq
              intro _
              clear hp
              have e := h _ ((Eq.trans (cfalse c_9) (cfalse c_20)) : typing_Finish_F base0 y1 = _).symm
              exact e
          ·
            refine ⟨hp.1, ?_⟩
            replace hp := hp.2
            intro r54 hr54
            subst hr54
            intro _
            refine brb (fun c_21 => ?_) (fun c_21 => ?_)
            ·
              replace hp := cT c_21 hp
              refine fun _ => typing_Finish_J1_sp _ _ _ _ _ hp (fun q hq => ?_)
              subst hq
              intro _
              clear hp
              have e := h _ ((Eq.trans (cfalse c_9) (ctrue c_21)) : typing_Finish_F base0 y1 = _).symm
              exact e
            ·
              replace hp := cF c_21 hp
              refine fun _ => typing_Finish_J1_sp _ _ _ _ _ hp (fun q hq => ?_)
              subst hq
              intro _
              clear hp
              have e := h _ ((Eq.trans (cfalse c_9) (cfalse c_21)) : typing_Finish_F base0 y1 = _).symm
              exact e
    ·
      refine ⟨hp.1, ?_⟩
      replace hp := hp.2
      intro r55 hr55
      subst hr55
      intro _
      refine ⟨?_, ?_, ?_, trivial⟩
      ·
        refine ⟨?_, ?_, trivial⟩
        ·
          refine ⟨hp.1, ?_⟩
          replace hp := hp.2
          intro r56 hr56
          subst hr56
          intro _
          refine brb (fun c_22 => ?_) (fun c_22 => ?_)
          ·
            replace hp := cT c_22 hp
            refine fun _ => typing_Finish_J1_sp _ _ _ _ _ hp (fun q hq => ?_)
            subst hq
            intro _
            clear hp
            have e := h _ ((Eq.trans (cfalse c_9) (ctrue c_22)) : typing_Finish_F base0 y1 = _).symm
            exact e
          ·
            replace hp := cF c_22 hp
            refine fun _ => typing_Finish_J1_sp _ _ _ _ _ hp (fun q hq => ?_)
            subst hq
            intro _
            clear hp
            have e := h _ ((Eq.trans (cfalse c_9) (cfalse c_22)) : typing_Finish_F base0 y1 = _).symm
            exact e
        ·
          refine ⟨hp.1, ?_⟩
          replace hp := hp.2
          intro r57 hr57
          subst hr57
          intro _
          refine brb (fun c_23 => ?_) (fun c_23 => ?_)
          ·
            replace hp := cT c_23 hp
            refine fun _ => typing_Finish_J1_sp _ _ _ _ _ hp (fun q hq => ?_)
            subst hq
            intro _
            clear hp
            have e := h _ ((Eq.trans (cfalse c_9) (ctrue c_23)) : typing_Finish_F base0 y1 = _).symm
            exact e
          ·
            replace hp := cF c_23 hp
            refine fun _ => typing_Finish_J1_sp _ _ _ _ _ hp (fun q hq => ?_)
            subst hq
            intro _
            clear hp
            have e := h _ ((Eq.trans (cfalse c_9) (cfalse c_23)) : typing_Finish_F base0 y1 = _).symm
            exact e
      ·
        refine ⟨hp.1, ?_⟩
        replace hp := hp.2
        intro r58 hr58
        subst hr58
        intro _
        refine ⟨?_, ?_, trivial⟩
        ·
          refine brb (fun c_24 => ?_) (fun c_24 => ?_)
          ·
            replace hp := cT c_24 hp
            refine fun _ => typing_Finish_J1_sp _ _ _ _ _ hp (fun q hq => ?_)
            subst hq
            intro _
            clear hp
            have e := h _ ((Eq.trans (cfalse c_9) (ctrue c_24)) : typing_Finish_F base0 y1 = _).symm
            exact e
          ·
            replace hp := cF c_24 hp
            refine fun _ => typing_Finish_J1_sp _ _ _ _ _ hp (fun q hq => ?_)
            subst hq
            intro _
            clear hp
            have e := h _ ((Eq.trans (cfalse c_9) (cfalse c_24)) : typing_Finish_F base0 y1 = _).symm
            exact e
        ·
          refine brb (fun c_25 => ?_) (fun c_25 => ?_)
          ·
            replace hp := cT c_25 hp
            refine fun _ => typing_Finish_J1_sp _ _ _ _ _ hp (fun q hq => ?_)
            subst hq
            intro _
            clear hp
            have e := h _ ((Eq.trans (cfalse c_9) (ctrue c_25)) : typing_Finish_F base0 y1 = _).symm
            exact e
          ·
            replace hp := cF c_25 hp
            refine fun _ => typing_Finish_J1_sp _ _ _ _ _ hp (fun q hq => ?_)
            subst hq
            intro _
            clear hp
            have e := h _ ((Eq.trans (cfalse c_9) (cfalse c_25)) : typing_Finish_F base0 y1 = _).symm
            exact e
      ·
        refine ⟨?_, ?_, trivial⟩
        ·
          refine ⟨hp.1, ?_⟩
          replace hp := hp.2
          intro r59 hr59
          subst hr59
          intro _
          refine brb (fun c_26 => ?_) (fun c_26 => ?_)
          ·
            replace hp := cT c_26 hp
            refine fun _ => typing_Finish_J1_sp _ _ _ _ _ hp (fun q hq => ?_)
            subst hq
            intro _
            clear hp
            have e := h _ ((Eq.trans (cfalse c_9) (ctrue c_26)) : typing_Finish_F base0 y1 = _).symm
            exact e
          ·
            replace hp := cF c_26 hp
            refine fun _ => typing_Finish_J1_sp _ _ _ _ _ hp (fun q hq => ?_)
            subst hq
            intro _
            clear hp
            have e := h _ ((Eq.trans (cfalse c_9) (cfalse c_26)) : typing_Finish_F base0 y1 = _).symm
            exact e
        ·
          refine ⟨hp.1, ?_⟩
          replace hp := hp.2
          intro r60 hr60
          subst hr60
          intro _
          refine brb (fun c_27 => ?_) (fun c_27 => ?_)
          ·
            replace hp := cT c_27 hp
            refine fun _ => typing_Finish_J1_sp _ _ _ _ _ hp (fun q hq => ?_)
            subst hq
            intro _
            clear hp
            have e := h _ ((Eq.trans (cfalse c_9) (ctrue c_27)) : typing_Finish_F base0 y1 = _).symm
            exact e
          ·
            replace hp := cF c_27 hp
            refine fun _ => typing_Finish_J1_sp _ _ _ _ _ hp (fun q hq => ?_)
            subst hq
            intro _
            clear hp
            have e := h _ ((Eq.trans (cfalse c_9) (cfalse c_27)) : typing_Finish_F base0 y1 = _).symm
            exact e
def typing_Finish_C (v : valsA typing_Finish_A) (K : Res → List Cell → Prop) : Prop := typing_Finish_P v.1 v.2.1 ∧ ∀ r : List ((Int × List Int × List Int)) × Int, r = typing_Finish_F v.1 v.2.1 → K (.tup [.fr 39 (.st (.pair (.int .i64) (.pair (.sl (.int .u8)) (.sl (.int .u8))))) r.1, .v (.int .i64) r.2]) []
def typing_Finish_S : App := specW typing_Finish_A typing_Finish_C
theorem typing_Finish_wv (K : Res → List Cell → Prop) : ∀ v : valsA typing_Finish_A, runF tb (getG typing_Finish_G) typing_Finish_B1 Try.f5 [true, true] (mkA typing_Finish_A v) K = typing_Finish_raw v.1 v.2.1 K
  | (base0, y1, ()) => typing_Finish_walk base0 y1 K
set_option maxRecDepth 20000 in
theorem typing_Finish_ok : AppOk Try.prog 5 typing_Finish_S :=
  AppOk.specW (spec_ok (runF_ok tb_M tb_ok typing_Finish_Gok (typing_Finish_b1) (f := 5) (fn := Try.f5) (by kernel_rfl) (by kernel_rfl) typing_Finish_st [true, true]) fun v K hw h => (typing_Finish_wv K v).mpr (typing_Finish_sp v.1 v.2.1 K hw h.1 h.2))

end Go.VE
namespace Go.VE
open Go Go.Proofs

abbrev Ty20 := Int × Int × List Int × Int × Int
/-! what is said of a typing -/
abbrev quoinref20_text_F := typing_isText_F
def quoinref20_others_F (p : List Int) : Int := (p.countP (fun b => !decide (b = 10)) : Int)
def quoinref20_room_F (base : List Int) (p : Int) : Int := (((base.drop p.toNat).takeWhile (fun b => !decide (b = 10))).length : Int)
def quoinref20_covers_F (base : List Int) (at1 : Int) (p : List Int) : Int := mn (quoinref20_others_F p) (quoinref20_room_F base at1)
def quoinref20_under (base : List Int) (y : Int × Int × List Int × Int × Int) : Int := if y.1 = 105 then 0 else quoinref20_covers_F base y.2.1 y.2.2.1
def quoinref20_fits_F (base : List Int) (y : Int × Int × List Int × Int × Int) : Bool :=
  decide ((y.1 = 105 ∨ y.1 = 82) ∧ 0 ≤ y.2.1 ∧ y.2.1 ≤ base.length ∧ 1 ≤ y.2.2.2.2 ∧ y.2.2.2.2 ≤ 9999 ∧ (∀ b ∈ y.2.2.1, quoinref20_text_F b = true) ∧ y.2.2.2.1 = quoinref20_under base y)

/-- what fits a machine -/
def okB (b : List Int) : Prop := b.length ≤ 4294967296 ∧ ∀ x ∈ b, 0 ≤ x ∧ x ≤ 255

/-! ### line ends -/
def run10 (t : List Int) : Nat := (t.takeWhile fun b => !decide (b = 10)).length

theorem run10_cons (x : Int) (t : List Int) : run10 (x :: t) = if x = 10 then 0 else run10 t + 1 := by
  unfold run10
  rw [List.takeWhile_cons]
  by_cases h : x = 10 <;> simp [h]

theorem idxB_run (t : List Int) : (10 ∈ t → idxB t 10 = (run10 t : Int) ∧ run10 t < t.length) ∧ (10 ∉ t → idxB t 10 = -1 ∧ run10 t = t.length) := by
  constructor
  · intro h
    have : t.idxOf 10 = run10 t ∧ run10 t < t.length := by
      induction t with
      | nil => cases h
      | cons x t ih =>
        rw [run10_cons, List.idxOf_cons]
        by_cases hx : x = 10
        · simp [hx]
        · have := ih (by rcases List.mem_cons.1 h with e | e; exact absurd e.symm hx; exact e)
          have hb : (x == 10) = false := by simpa using hx
          rw [hb, if_neg hx]; simp only [cond_false, List.length_cons]; omega
    exact ⟨by unfold idxB; rw [if_pos h, this.1], this.2⟩
  · intro h
    refine ⟨by unfold idxB; rw [if_neg h], ?_⟩
    induction t with
    | nil => rfl
    | cons x t ih =>
      rw [run10_cons, if_neg (fun e => h (by simp [e])), ih (fun e => h (List.mem_cons_of_mem _ e))]
      rfl

theorem run10_le : ∀ t : List Int, run10 t ≤ t.length
  | [] => Nat.le_refl _
  | x :: t => by rw [run10_cons]; have := run10_le t; split <;> simp only [List.length_cons] <;> omega

theorem run10_get : ∀ t : List Int, 10 ∈ t → t[run10 t]? = some 10
  | [], h => by cases h
  | x :: t, h => by
    rw [run10_cons]
    by_cases hx : x = 10
    · simp [hx]
    · rw [if_neg hx, List.getElem?_cons_succ]
      exact run10_get t (by rcases List.mem_cons.1 h with e | e; exact absurd e.symm hx; exact e)

theorem run10_none : ∀ t : List Int, 10 ∉ t.take (run10 t)
  | [] => by simp [run10]
  | x :: t => by
    rw [run10_cons]
    by_cases hx : x = 10
    · simp [hx]
    · rw [if_neg hx, List.take_succ_cons, List.mem_cons]
      rintro (h | h)
      · exact hx h.symm
      · exact run10_none t h

theorem run10_append (a b : List Int) (h : 10 ∉ a) : run10 (a ++ b) = a.length + run10 b := by
  induction a with
  | nil => simp
  | cons x a ih =>
    rw [List.cons_append, run10_cons, if_neg (fun e => h (by simp [e])), ih (fun e => h (List.mem_cons_of_mem _ e)), List.length_cons]
    omega

/-- the line's beginning is found -/
theorem goLine_at (t : List Int) : ∀ (n p q : Nat), p ≤ q → q ≤ t.length → List.count 10 ((t.take q).drop p) = n → ∃ r, goLine t n p = some r ∧ p ≤ r ∧ r ≤ q ∧ 10 ∉ (t.take q).drop r
  | 0, p, q, h1, h2, h3 => ⟨p, rfl, Nat.le_refl _, h1, List.count_eq_zero.1 h3⟩
  | n + 1, p, q, h1, h2, h3 => by
    have e : t.drop p = (t.take q).drop p ++ t.drop q := by
      conv => lhs; rw [← List.take_append_drop q t]
      rw [List.drop_append_of_le_length (by rw [List.length_take]; omega)]
    have hm : 10 ∈ (t.take q).drop p := List.count_pos_iff.1 (by omega)
    obtain ⟨hi, _⟩ := (idxB_run (t.drop p)).1 (by rw [e]; exact List.mem_append_left _ hm)
    -- the first one lies ahead of q
    generalize hk : run10 (t.drop p) = k at hi
    have hk2 : k = run10 ((t.take q).drop p) := by
      rw [← hk, e]
      clear hi hk h3
      generalize (t.take q).drop p = a at hm
      induction a with
      | nil => cases hm
      | cons x a ih =>
        rw [List.cons_append, run10_cons, run10_cons]
        by_cases hx : x = 10
        · simp [hx]
        · rw [if_neg hx, if_neg hx, ih (by rcases List.mem_cons.1 hm with e | e; exact absurd e.symm hx; exact e)]
    have hkl : k < ((t.take q).drop p).length := by rw [hk2]; exact ((idxB_run _).1 hm).2
    have hl : ((t.take q).drop p).length = q - p := by rw [List.length_drop, List.length_take]; omega
    have hd : (t.take q).drop p = ((t.take q).drop p).take k ++ 10 :: (t.take q).drop (p + k + 1) := by
      have h10 : ((t.take q).drop p)[k] = 10 := by
        have := run10_get _ hm
        rw [← hk2, List.getElem?_eq_getElem hkl] at this
        simpa using this
      conv => lhs; rw [← List.take_append_drop k ((t.take q).drop p), List.drop_eq_getElem_cons hkl, h10, List.drop_drop]
      rw [show p + (k + 1) = p + k + 1 by omega]
    have hn : 10 ∉ ((t.take q).drop p).take k := by
      rw [hk2]; exact run10_none _
    have hc : List.count 10 ((t.take q).drop (p + k + 1)) = n := by
      rw [hd, List.count_append, List.count_eq_zero.2 hn, List.count_cons_self] at h3
      omega
    obtain ⟨r, h4, h5, h6, h7⟩ := goLine_at t n (p + k + 1) q (by omega) h2 hc
    refine ⟨r, ?_, by omega, h6, h7⟩
    unfold goLine
    rw [if_neg (by omega), hi, Int.toNat_natCast]
    exact h4

theorem lines_tail_run {t : List Int} (ht : t.length ≤ 4294967296) {p : Nat} (hp : p ≤ t.length) : lines_tail_F t (p : Int) = ((p + run10 (t.drop p) : Nat) : Int) := by
  unfold lines_tail_F bytes_IndexByte_F internal_bytealg_IndexByte_F
  rw [Int.toNat_natCast]
  dsimp only
  have hl := run10_le (t.drop p)
  rw [List.length_drop] at hl
  by_cases h : 10 ∈ t.drop p
  · obtain ⟨h1, h2⟩ := (idxB_run _).1 h
    rw [h1, decide_eq_true (by omega)]
    show IntKind.wrap .i64 ((p : Int) + (run10 (t.drop p) : Int)) = _
    rw [wrap_i64 (by omega) (by omega)]; omega
  · obtain ⟨h1, h2⟩ := (idxB_run _).2 h
    rw [h1, decide_eq_false (by omega), h2, List.length_drop]
    show (t.length : Int) = _
    omega

theorem others_count (p : List Int) : quoinref20_others_F p = (p.length : Int) - (List.count 10 p : Int) := by
  unfold quoinref20_others_F
  have h1 := List.length_eq_countP_add_countP (fun b : Int => b == 10) (l := p)
  have h2 : List.count 10 p = List.countP (fun b : Int => b == 10) p := rfl
  have h3 : List.countP (fun a : Int => decide ¬(a == 10) = true) p = List.countP (fun b => !decide (b = 10)) p := by
    congr 1; funext b; by_cases h : b = 10 <;> simp [h]
  rw [h3] at h1
  omega

/-- the line of a place ends where its run ends -/
theorem line_end {base : List Int} (hb : base.length ≤ 4294967296) {a : Nat} (ha : a ≤ base.length) :
    lines_End_F base (lines_Of_F base (a : Int)).1 = (((a + run10 (base.drop a) : Nat) : Int), 0) := by
  have hof : lines_Of_F base (a : Int) = ((List.count 10 (base.take a) : Int), 0) := by
    unfold lines_Of_F lines_has_F
    have e1 : decide ((0 : Int) ≤ (a : Int)) = true := by simp
    have e2 : decide ((a : Int) ≤ (List.length base : Int)) = true := by simpa using ha
    rw [e1, e2]
    show (bytes_Count_F (List.take (Int.toNat (a : Int)) base) [10], (0 : Int)) = _
    rw [Int.toNat_natCast]
    rfl
  rw [hof]
  obtain ⟨r, h1, h2, h3, h4⟩ := goLine_at base (List.count 10 (base.take a)) 0 a (Nat.zero_le _) ha rfl
  have hst : lines_Start_F base (List.count 10 (base.take a) : Int) = ((r : Int), 0) := by
    unfold lines_Start_F
    rw [if_neg (by omega), Int.toNat_natCast, h1]
  unfold lines_End_F
  simp only [hst]
  show (lines_tail_F base (r : Int), (0 : Int)) = _
  rw [lines_tail_run hb (by omega)]
  have e : base.drop r = (base.take a).drop r ++ base.drop a := by
    conv => lhs; rw [← List.take_append_drop a base]
    rw [List.drop_append_of_le_length (by rw [List.length_take]; omega)]
  rw [e, run10_append _ _ h4, List.length_drop, List.length_take]
  congr 2; omega

theorem covers_eq {base typed : List Int} (hb : base.length ≤ 4294967296) (ht : typed.length ≤ 4294967296) {p : Int} (h0 : 0 ≤ p) (h1 : p ≤ base.length) : typing_covers_F base p typed = quoinref20_covers_F base p typed := by
  obtain ⟨a, rfl⟩ := Int.eq_ofNat_of_zero_le h0
  unfold typing_covers_F quoinref20_covers_F
  dsimp only
  rw [line_end hb (by omega), others_count]
  have hc := List.count_le_length (a := (10 : Int)) (l := typed)
  have e : bytes_Count_F typed [10] = (List.count 10 typed : Int) := rfl
  have hr := run10_le (base.drop a)
  rw [List.length_drop] at hr
  rw [e, wrap_i64 (by omega) (by omega), wrap_i64 (by dsimp only; omega) (by dsimp only; omega)]
  unfold quoinref20_room_F
  rw [Int.toNat_natCast]
  have e2 : ((a + run10 (base.drop a) : Nat) : Int) - (a : Int) = (run10 (base.drop a) : Int) := by omega
  show mn _ (((a + run10 (base.drop a) : Nat) : Int) - (a : Int)) = _
  rw [e2]
  rfl

/-! ### bytes -/
theorem of_byte {p : Int → Prop} (h : ∀ n : Fin 256, p ((n.val : Nat) : Int)) {b : Int} (h0 : 0 ≤ b) (h1 : b ≤ 255) : p b := by
  have := h ⟨b.toNat, by omega⟩
  simpa [Int.toNat_of_nonneg h0] using this

theorem under_eq {base : List Int} {y : Ty20} (hb : base.length ≤ 4294967296) (hy : y.2.2.1.length ≤ 4294967296) (h0 : 0 ≤ y.2.1) (h1 : y.2.1 ≤ base.length) : typing_under_F base y = quoinref20_under base y := by
  unfold typing_under_F quoinref20_under
  by_cases h : y.1 = 105
  · simp [h]
  · rw [decide_eq_false h, if_neg h]
    exact covers_eq hb hy h0 h1

theorem fits_eq {base : List Int} {y : Ty20} (hb : base.length ≤ 4294967296) (hy : okB y.2.2.1) : typing_fits_F base y = quoinref20_fits_F base y := by
  unfold typing_fits_F quoinref20_fits_F
  rw [decide_eq_decide]
  refine and_congr_right fun _ => and_congr_right fun h0 => and_congr_right fun h1 => and_congr_right fun _ => and_congr_right fun _ => ?_
  rw [under_eq hb hy.1 h0 h1]
end Go.VE
namespace Go.VE
open Go Go.Proofs

theorem mn_le (a b : Int) : mn a b ≤ a ∧ mn a b ≤ b ∧ (mn a b = a ∨ mn a b = b) := by
  unfold mn
  by_cases h : b < a
  · rw [decide_eq_true h]; show b ≤ a ∧ b ≤ b ∧ (b = a ∨ b = b); omega
  · rw [decide_eq_false h]; show a ≤ a ∧ a ≤ b ∧ (a = a ∨ a = b); omega
theorem mn_nat (a b : Nat) : mn (a : Int) (b : Int) = ((min a b : Nat) : Int) := by
  have := mn_le (a : Int) (b : Int)
  omega

theorem others_le (p : List Int) : 0 ≤ quoinref20_others_F p ∧ quoinref20_others_F p ≤ p.length := by
  unfold quoinref20_others_F
  have := List.countP_le_length (p := fun b : Int => !decide (b = 10)) (l := p)
  omega
theorem room_le (base : List Int) {p : Int} (h0 : 0 ≤ p) (h1 : p ≤ base.length) : 0 ≤ quoinref20_room_F base p ∧ p + quoinref20_room_F base p ≤ base.length := by
  have : quoinref20_room_F base p = (run10 (base.drop p.toNat) : Int) := rfl
  have h := run10_le (base.drop p.toNat)
  rw [List.length_drop] at h
  omega
theorem rcovers_le (base p : List Int) {a : Int} (h0 : 0 ≤ a) (h1 : a ≤ base.length) : 0 ≤ quoinref20_covers_F base a p ∧ a + quoinref20_covers_F base a p ≤ base.length ∧ quoinref20_covers_F base a p ≤ p.length := by
  have e : quoinref20_covers_F base a p = mn (quoinref20_others_F p) (quoinref20_room_F base a) := rfl
  have := mn_le (quoinref20_others_F p) (quoinref20_room_F base a)
  have := others_le p
  have := room_le base h0 h1
  omega

/-- what it says that a typing fits -/
structure TFits (base : List Int) (y : Ty20) : Prop where
  kind : y.1 = 105 ∨ y.1 = 82
  lo : 0 ≤ y.2.1
  hi : y.2.1 ≤ base.length
  one : 1 ≤ y.2.2.2.2
  many : y.2.2.2.2 ≤ 9999
  text : ∀ b ∈ y.2.2.1, quoinref20_text_F b = true
  under : y.2.2.2.1 = quoinref20_under base y

theorem fits_iff {base : List Int} {y : Ty20} : quoinref20_fits_F base y = true ↔ TFits base y := by
  unfold quoinref20_fits_F
  rw [decide_eq_true_eq]
  exact ⟨fun ⟨a, b, c, d, e, f, g⟩ => ⟨a, b, c, d, e, f, g⟩, fun h => ⟨h.kind, h.lo, h.hi, h.one, h.many, h.text, h.under⟩⟩

theorem TFits.le {base : List Int} {y : Ty20} (h : TFits base y) : 0 ≤ y.2.2.2.1 ∧ y.2.1 + y.2.2.2.1 ≤ base.length ∧ y.2.2.2.1 ≤ y.2.2.1.length := by
  have hu := h.under
  have := h.lo; have := h.hi
  unfold quoinref20_under at hu
  split at hu
  · omega
  · have := rcovers_le base y.2.2.1 h.lo h.hi
    omega

theorem show_P {base : List Int} {y : Ty20} (hb : base.length ≤ 4294967296) (hy : okB y.2.2.1) : typing_Show_P base y := by
  unfold typing_Show_P
  have hlim : lim = 1099511627776 := rfl
  refine ⟨by simp only [List.length_nil]; omega, ?_⟩
  dsimp only
  rw [fits_eq hb hy]
  cases hf : quoinref20_fits_F base y
  · trivial
  · have h := fits_iff.1 hf
    have h1 := h.le
    have := h.lo; have := h.hi; have := hy.1
    rw [wrap_i64 (by omega) (by omega)]
    show _ ∧ _ ∧ _ ∧ _
    simp only [List.nil_append, List.length_append, List.length_take, List.length_drop]
    omega

/-- what so many copies stand over -/
theorem old_F {base : List Int} {y : Ty20} (hb : base.length ≤ 4294967296) (hy : okB y.2.2.1) (h : TFits base y) {n : Int} (h0 : 0 ≤ n) (h1 : n ≤ 9999) :
    typing_Finish_1_F n y base (IntKind.wrap .i64 ((List.length y.2.2.1 : Int) - bytes_Count_F y.2.2.1 [10])) = (if y.1 = 105 then 0 else mn (n * quoinref20_others_F y.2.2.1) (quoinref20_room_F base y.2.1)) := by
  unfold typing_Finish_1_F
  by_cases hk : y.1 = 105
  · rw [decide_eq_true hk, if_pos hk]; rfl
  · rw [decide_eq_false hk, if_neg hk]
    show mn (IntKind.wrap .i64 (n * IntKind.wrap .i64 ((List.length y.2.2.1 : Int) - bytes_Count_F y.2.2.1 [10]))) (IntKind.wrap .i64 ((lines_End_F base (lines_Of_F base y.2.1).1).1 - y.2.1)) = _
    obtain ⟨a, ha⟩ := Int.eq_ofNat_of_zero_le h.lo
    have hi := h.hi
    rw [ha] at hi ⊢
    rw [line_end hb (by omega)]
    have e : bytes_Count_F y.2.2.1 [10] = (List.count 10 y.2.2.1 : Int) := rfl
    have ho := others_le y.2.2.1
    have hoc := others_count y.2.2.1
    have hr := run10_le (base.drop a)
    rw [List.length_drop] at hr
    have hm0 : 0 ≤ n * quoinref20_others_F y.2.2.1 := Int.mul_nonneg h0 ho.1
    have hm1 : n * quoinref20_others_F y.2.2.1 ≤ 9999 * 4294967296 := Int.le_trans (Int.mul_le_mul_of_nonneg_right h1 ho.1) (Int.mul_le_mul_of_nonneg_left (by have := hy.1; omega) (by omega))
    rw [e, ← hoc, wrap_i64 (n := quoinref20_others_F y.2.2.1) (by omega) (by have := hy.1; omega), wrap_i64 (by omega) (by omega)]
    congr 1
    show IntKind.wrap .i64 (((a + run10 (base.drop a) : Nat) : Int) - (a : Int)) = _
    have e2 : ((a + run10 (base.drop a) : Nat) : Int) - (a : Int) = (run10 (base.drop a) : Int) := by omega
    rw [e2, wrap_i64 (by omega) (by omega)]
    rfl

theorem old_le {base : List Int} {y : Ty20} (h : TFits base y) {n : Int} (h0 : 0 ≤ n) : 0 ≤ (if y.1 = 105 then 0 else mn (n * quoinref20_others_F y.2.2.1) (quoinref20_room_F base y.2.1)) ∧ y.2.1 + (if y.1 = 105 then 0 else mn (n * quoinref20_others_F y.2.2.1) (quoinref20_room_F base y.2.1)) ≤ base.length := by
  have := h.lo; have := h.hi
  split
  · omega
  · have hr := room_le base h.lo h.hi
    have hm := mn_le (n * quoinref20_others_F y.2.2.1) (quoinref20_room_F base y.2.1)
    have := Int.mul_nonneg h0 (others_le y.2.2.1).1
    omega

theorem repB_le (b : List Int) (n : Int) (h0 : 0 ≤ n) : ((bytes_Repeat_F b n).length : Int) = n * b.length := by
  unfold bytes_Repeat_F
  rw [repB_length]
  obtain ⟨m, rfl⟩ := Int.eq_ofNat_of_zero_le h0
  simp

theorem finish_P {base : List Int} {y : Ty20} (hb : base.length ≤ 1048576) (hy : okB y.2.2.1) (hyl : y.2.2.1.length ≤ 1048576) : typing_Finish_P base y := by
  unfold typing_Finish_P
  dsimp only
  rw [fits_eq (by omega) hy]
  cases hf : quoinref20_fits_F base y
  · trivial
  have h := fits_iff.1 hf
  have hlim : lim = 1099511627776 := rfl
  have h1 := h.one; have h2 := h.many; have h3 := h.lo; have h4 := h.hi
  have hold : ∀ n : Int, typing_Finish_1_P n y base (IntKind.wrap .i64 ((List.length y.2.2.1 : Int) - bytes_Count_F y.2.2.1 [10])) := by
    intro n
    unfold typing_Finish_1_P
    cases decide (y.1 = 105)
    · exact ⟨lines_Of_any _ _, lines_End_any _ _⟩
    · trivial
  have hj1 : ∀ n : Int, 1 ≤ n → n ≤ 9999 → typing_Finish_J1_P n base y (IntKind.wrap .i64 ((List.length y.2.2.1 : Int) - bytes_Count_F y.2.2.1 [10])) := by
    intro n hn0 hn1
    have hmul : (y.2.2.1.length : Int) * n ≤ 1048576 * 9999 := Int.le_trans (Int.mul_le_mul_of_nonneg_right (by omega) (by omega)) (Int.mul_le_mul_of_nonneg_left hn1 (by omega))
    have hlen := repB_le y.2.2.1 n (by omega)
    rw [Int.mul_comm] at hlen
    have hj0 : ∀ (at' : Int), typing_Finish_J0_P n (bytes_Repeat_F y.2.2.1 n) at' base y (IntKind.wrap .i64 ((List.length y.2.2.1 : Int) - bytes_Count_F y.2.2.1 [10])) := by
      intro at'
      unfold typing_Finish_J0_P
      cases decide ((List.length (bytes_Repeat_F y.2.2.1 n) : Int) = 0)
      · refine ⟨hold n, ?_⟩
        dsimp only
        rw [old_F (by omega) hy h (by omega) hn1]
        have ho := old_le h (n := n) (by omega)
        generalize (if y.1 = 105 then (0 : Int) else mn (n * quoinref20_others_F y.2.2.1) (quoinref20_room_F base y.2.1)) = o at ho ⊢
        rw [wrap_i64 (by omega) (by omega)]
        refine ⟨by omega, ?_⟩
        show (slc base y.2.1 (y.2.1 + o)).length ≤ lim
        unfold slc
        rw [List.length_drop, List.length_take]
        omega
      · trivial
    unfold typing_Finish_J1_P
    refine ⟨⟨by omega, by omega, by omega, by omega⟩, ?_⟩
    dsimp only
    rw [wrap_i64 (n := y.2.1 + (List.length (bytes_Repeat_F y.2.2.1 n) : Int)) (by omega) (by omega)]
    by_cases c1 : 0 < y.2.1 + (List.length (bytes_Repeat_F y.2.2.1 n) : Int)
    · rw [decide_eq_true c1]
      show bif _ then _ else _
      by_cases c2 : 0 < (List.length (bytes_Repeat_F y.2.2.1 n) : Int)
      · rw [decide_eq_true c2, wrap_i64 (n := (List.length (bytes_Repeat_F y.2.2.1 n) : Int) - 1) (by omega) (by omega)]
        refine ⟨by omega, ?_⟩
        cases !decide (rd (0 : Int) (bytes_Repeat_F y.2.2.1 n) ((List.length (bytes_Repeat_F y.2.2.1 n) : Int) - 1) = 10)
        · rw [decide_eq_false (show ¬ (List.length (bytes_Repeat_F y.2.2.1 n) : Int) = 0 by omega)]; exact hj0 0
        · exact hj0 0
      · rw [decide_eq_false c2]
        show bif _ then _ else _
        have c3 : (List.length (bytes_Repeat_F y.2.2.1 n) : Int) = 0 := by omega
        rw [decide_eq_true c3]
        refine ⟨?_, ?_⟩
        · rw [c3, wrap_i64 (by omega) (by omega)]; omega
        · cases !decide (rd (0 : Int) base (IntKind.wrap .i64 (y.2.1 + (List.length (bytes_Repeat_F y.2.2.1 n) : Int) - 1)) = 10)
          · exact hj0 0
          · exact hj0 0
    · rw [decide_eq_false c1]; exact hj0 0
  refine ⟨rfl, hold _, ?_⟩
  cases decide ((65536 : Int) < IntKind.wrap .i64 (IntKind.wrap .i64 ((List.length base : Int) - typing_Finish_1_F y.2.2.2.2 y base (IntKind.wrap .i64 ((List.length y.2.2.1 : Int) - bytes_Count_F y.2.2.1 [10]))) + IntKind.wrap .i64 (y.2.2.2.2 * (List.length y.2.2.1 : Int))))
  · exact hj1 _ h1 h2
  · exact hj1 1 (by omega) (by omega)
end Go.VE
namespace Go.VE
open Go Go.Proofs

/-! ### what a typing comes to -/
/-- what n copies stand over -/
def oldN (base : List Int) (y : Ty20) (n : Int) : Int := if y.1 = 105 then 0 else mn (n * quoinref20_others_F y.2.2.1) (quoinref20_room_F base y.2.1)

/-- where the cursor rests behind q -/
def backN (q : List Int) : Int := if 0 < q.length ∧ rd (0 : Int) q ((q.length - 1 : Nat) : Int) ≠ 10 then (q.length : Int) - 1 else q.length
theorem back_pos {q : List Int} {n : Nat} (hl : q.length = n) (h : 0 < n) (h10 : rd (0 : Int) q ((n - 1 : Nat) : Int) ≠ 10) : backN q = (n : Int) - 1 := by
  unfold backN; rw [hl, if_pos ⟨h, h10⟩]
theorem back_neg {q : List Int} {n : Nat} (hl : q.length = n) (h : 0 < n → rd (0 : Int) q ((n - 1 : Nat) : Int) = 10) : backN q = (n : Int) := by
  unfold backN; rw [hl, if_neg (fun hh => hh.2 (h hh.1))]

def finN (base : List Int) (y : Ty20) (n : Int) : List (Int × List Int × List Int) × Int :=
  let p := repB y.2.2.1 n.toNat
  let q := base.take y.2.1.toNat ++ p
  (if p.length = 0 then [] else [(y.2.1, slc base y.2.1 (y.2.1 + oldN base y n), p)],
    backN q)

theorem rd_app_right {a b : List Int} {n : Nat} (h : n < b.length) : rd (0 : Int) (a ++ b) ((a.length + n : Nat) : Int) = rd (0 : Int) b (n : Int) := by
  rw [rd_nat _ _ _ (by rw [List.length_append]; omega), rd_nat _ _ _ h, List.getElem_append_right (by omega)]
  congr 1; omega
theorem rd_app_left {a b : List Int} {n : Nat} (h : n < a.length) : rd (0 : Int) (a ++ b) (n : Int) = rd (0 : Int) a (n : Int) := by
  rw [rd_nat _ _ _ (by rw [List.length_append]; omega), rd_nat _ _ _ h, List.getElem_append_left h]
theorem rd_tk {a : List Int} {n m : Nat} (h : n < m) (hm : m ≤ a.length) : rd (0 : Int) (a.take m) (n : Int) = rd (0 : Int) a (n : Int) := by
  rw [rd_nat _ _ _ (by rw [List.length_take]; omega), rd_nat _ _ _ (by omega), List.getElem_take]

theorem bits_eq {b : Bool} {P : Prop} [Decidable P] (h : b = true ↔ P) {α : Type} (x y : α) : (bif b then x else y) = if P then x else y := by
  cases b
  · have : ¬ P := fun hp => by have := h.2 hp; cases this
    rw [if_neg this]; rfl
  · rw [if_pos (h.1 rfl)]; rfl

/-- the given program's -/
theorem fin_typing {base : List Int} {y : Ty20} (hb : base.length ≤ 1048576) (hy : okB y.2.2.1) (hyl : y.2.2.1.length ≤ 1048576) (h : TFits base y) {n : Int} (hn0 : 1 ≤ n) (hn1 : n ≤ 9999) :
    typing_Finish_J1_F n base y (IntKind.wrap .i64 ((List.length y.2.2.1 : Int) - bytes_Count_F y.2.2.1 [10])) = finN base y n := by
  have h3 := h.lo; have h4 := h.hi
  obtain ⟨s, hs⟩ := Int.eq_ofNat_of_zero_le h.lo
  obtain ⟨m, rfl⟩ := Int.eq_ofNat_of_zero_le (show (0 : Int) ≤ n by omega)
  have hlen : (bytes_Repeat_F y.2.2.1 (m : Int)).length = m * y.2.2.1.length := by unfold bytes_Repeat_F; rw [repB_length, Int.toNat_natCast]
  have hmul : m * y.2.2.1.length ≤ 9999 * 1048576 := Nat.mul_le_mul (by omega) hyl
  have hp : bytes_Repeat_F y.2.2.1 (m : Int) = repB y.2.2.1 m := rfl
  have hold := old_F (by omega) hy h (n := (m : Int)) (by omega) hn1
  have hol := old_le h (n := (m : Int)) (by omega)
  rw [show (if y.1 = 105 then (0 : Int) else mn ((m : Int) * quoinref20_others_F y.2.2.1) (quoinref20_room_F base y.2.1)) = oldN base y m from rfl] at hold hol
  rw [hs] at hol h3 h4
  have hq : (base.take s ++ repB y.2.2.1 m).length = s + m * y.2.2.1.length := by rw [List.length_append, List.length_take, repB_length]; omega
  have hj0 : ∀ at', typing_Finish_J0_F m (bytes_Repeat_F y.2.2.1 m) at' base y (IntKind.wrap .i64 ((List.length y.2.2.1 : Int) - bytes_Count_F y.2.2.1 [10])) =
      (if (repB y.2.2.1 m).length = 0 then [] else [(y.2.1, slc base y.2.1 (y.2.1 + oldN base y m), repB y.2.2.1 m)], at') := by
    intro at'
    unfold typing_Finish_J0_F
    dsimp only
    rw [hold, hs, wrap_i64 (n := (s : Int) + oldN base y m) (by omega) (by omega), hp, repB_length]
    by_cases hz : m * y.2.2.1.length = 0
    · rw [decide_eq_true (by omega), if_pos hz]; rfl
    · rw [decide_eq_false (by omega), if_neg hz]; rfl
  unfold typing_Finish_J1_F finN
  dsimp only
  simp only [hj0]
  rw [hlen, hp, hs, Int.toNat_natCast, Int.toNat_natCast, wrap_i64 (n := (s : Int) + ((m * y.2.2.1.length : Nat) : Int)) (by omega) (by omega)]
  generalize hL : m * y.2.2.1.length = L at *
  have hrl : (repB y.2.2.1 m).length = L := by rw [repB_length, hL]
  have e0 : (s : Int) + (L : Int) = ((s + L : Nat) : Int) := by omega
  rw [e0]
  by_cases c1 : 0 < s + L
  · rw [decide_eq_true (show (0 : Int) < ((s + L : Nat) : Int) by omega), wrap_i64 (n := ((s + L : Nat) : Int) - 1) (by omega) (by omega)]
    by_cases c2 : 0 < L
    · rw [decide_eq_true (show (0 : Int) < (L : Int) by omega), decide_eq_false (show ¬ (L : Int) = 0 by omega), wrap_i64 (n := (L : Int) - 1) (by omega) (by omega), show (L : Int) - 1 = ((L - 1 : Nat) : Int) by omega]
      have er : rd (0 : Int) (base.take s ++ repB y.2.2.1 m) ((s + L - 1 : Nat) : Int) = rd (0 : Int) (repB y.2.2.1 m) ((L - 1 : Nat) : Int) := by
        have := rd_app_right (a := base.take s) (b := repB y.2.2.1 m) (n := L - 1) (by omega)
        rw [List.length_take, show min s base.length + (L - 1) = s + L - 1 by omega] at this
        exact this
      by_cases c3 : rd (0 : Int) (repB y.2.2.1 m) ((L - 1 : Nat) : Int) = 10
      · rw [decide_eq_true c3, back_neg hq (fun _ => er.trans c3)]; rfl
      · rw [decide_eq_false c3, back_pos hq c1 (fun e => c3 (er.symm.trans e))]; rfl
    · obtain rfl : L = 0 := by omega
      have hrn : repB y.2.2.1 m = [] := List.eq_nil_of_length_eq_zero hrl
      rw [hrn, List.append_nil] at hq
      have er : rd (0 : Int) (base.take s) ((s + 0 - 1 : Nat) : Int) = rd (0 : Int) base ((s + 0 - 1 : Nat) : Int) := rd_tk (by omega) (by omega)
      rw [decide_eq_false (show ¬ (0 : Int) < ((0 : Nat) : Int) by omega), decide_eq_true (show ((0 : Nat) : Int) = 0 by omega), hrn, List.append_nil]
      rw [show ((s + 0 : Nat) : Int) - 1 = ((s + 0 - 1 : Nat) : Int) by omega]
      by_cases c3 : rd (0 : Int) base ((s + 0 - 1 : Nat) : Int) = 10
      · rw [decide_eq_true c3, back_neg hq (fun _ => er.trans c3)]; rfl
      · rw [decide_eq_false c3, back_pos hq c1 (fun e => c3 (er.symm.trans e)), show ((s + 0 : Nat) : Int) - 1 = ((s + 0 - 1 : Nat) : Int) by omega]; rfl
  · rw [decide_eq_false (show ¬ (0 : Int) < ((s + L : Nat) : Int) by omega), back_neg hq (fun hh => absurd hh c1)]; rfl

end Go.VE
namespace Go.VE
open Go Go.Proofs
/-! ### quoin/typing.Begin -/
def typing_Begin_G : List (Nat × App) := []
theorem typing_Begin_Gok : GOk Try.prog (getG typing_Begin_G) := GOk.nil
def typing_Begin_raw (kind0 : Int) (at1 : Int) (count2 : Int) (K : Res → List Cell → Prop) : Prop :=
 K (.one (.v (.st (.pair (.int .u8) (.pair (.int .i64) (.pair (.sl (.int .u8)) (.pair (.int .i64) (.int .i64)))))) (kind0, at1, ([] : List Int), (0 : Int), count2))) []
def typing_Begin_A : List AS := [.v (.int .u8), .v (.int .i64), .v (.int .i64)]
theorem typing_Begin_walk (kind0 : Int) (at1 : Int) (count2 : Int) (K : Res → List Cell → Prop) : runF tb (getG typing_Begin_G) [] Try.f9 [true] (mkA typing_Begin_A (kind0, at1, count2, ())) K = typing_Begin_raw kind0 at1 count2 K := by kernel_rfl

def typing_Begin_F (kind0 : Int) (at1 : Int) (count2 : Int) : (Int × Int × List Int × Int × Int) :=
 (kind0, at1, ([] : List Int), (0 : Int), count2)
set_option maxRecDepth 20000 in
theorem typing_Begin_sp (kind0 : Int) (at1 : Int) (count2 : Int) (K : Res → List Cell → Prop) (_ : wfA typing_Begin_A (kind0, at1, count2, ())) (h : ∀ r : (Int × Int × List Int × Int × Int), r = typing_Begin_F kind0 at1 count2 → K (.one (.v (.st (.pair (.int .u8) (.pair (.int .i64) (.pair (.sl (.int .u8)) (.pair (.int .i64) (.int .i64)))))) r)) []) : typing_Begin_raw kind0 at1 count2 K := by
  unfold typing_Begin_raw
  exact h _ rfl
def typing_Begin_C (v : valsA typing_Begin_A) (K : Res → List Cell → Prop) : Prop := ∀ r : (Int × Int × List Int × Int × Int), r = typing_Begin_F v.1 v.2.1 v.2.2.1 → K (.one (.v (.st (.pair (.int .u8) (.pair (.int .i64) (.pair (.sl (.int .u8)) (.pair (.int .i64) (.int .i64)))))) r)) []
def typing_Begin_S : App := specW typing_Begin_A typing_Begin_C
theorem typing_Begin_wv (K : Res → List Cell → Prop) : ∀ v : valsA typing_Begin_A, runF tb (getG typing_Begin_G) [] Try.f9 [true] (mkA typing_Begin_A v) K = typing_Begin_raw v.1 v.2.1 v.2.2.1 K
  | (kind0, at1, count2, ()) => typing_Begin_walk kind0 at1 count2 K
set_option maxRecDepth 20000 in
theorem typing_Begin_ok : AppOk Try.prog 9 typing_Begin_S :=
  AppOk.specW (spec_ok (runF_ok tb_M tb_ok typing_Begin_Gok (LabsOk.nil) (f := 9) (fn := Try.f9) (by kernel_rfl) (by kernel_rfl) (by kernel_rfl) [true]) fun v K hw h => (typing_Begin_wv K v).mpr (typing_Begin_sp v.1 v.2.1 v.2.2.1 K hw h))

end Go.VE
namespace Go.VE
open Go Go.Proofs
/-! ### quoin/quoinlaw20.alive -/
def quoinlaw20_alive_G : List (Nat × App) := [(9, typing_Begin_S), (8, typing_Press_S), (6, typing_Show_S), (5, typing_Finish_S), (10, typing_Check_S)]
theorem quoinlaw20_alive_Gok : GOk Try.prog (getG quoinlaw20_alive_G) := GOk.cons typing_Begin_ok (GOk.cons typing_Press_ok (GOk.cons typing_Show_ok (GOk.cons typing_Finish_ok (GOk.cons typing_Check_ok (GOk.nil)))))
def quoinlaw20_alive_raw  (K : Res → List Cell → Prop) : Prop :=
 ∀ (r1 : (Int × Int × List Int × Int × Int)), r1 = typing_Begin_F (105 : Int) (1 : Int) (3 : Int) → (
 wfR (.one (.v (.st (.pair (.int .u8) (.pair (.int .i64) (.pair (.sl (.int .u8)) (.pair (.int .i64) (.int .i64)))))) r1)) → (
 typing_Press_P ([(97 : Int), (98 : Int), (10 : Int), (99 : Int), (100 : Int)] : List Int) r1 (120 : Int) ∧ (
 ∀ (r2 : (Int × Int × List Int × Int × Int) × Bool × Int), r2 = typing_Press_F ([(97 : Int), (98 : Int), (10 : Int), (99 : Int), (100 : Int)] : List Int) r1 (120 : Int) → (
 wfR (.tup [.v (.st (.pair (.int .u8) (.pair (.int .i64) (.pair (.sl (.int .u8)) (.pair (.int .i64) (.int .i64)))))) r2.1, .v (.bool) r2.2.1, .v (.int .i64) r2.2.2]) → (
 typing_Show_P ([(97 : Int), (98 : Int), (10 : Int), (99 : Int), (100 : Int)] : List Int) r2.1 ∧ (
 ∀ (r3 : List Int × Int), r3 = typing_Show_F ([(97 : Int), (98 : Int), (10 : Int), (99 : Int), (100 : Int)] : List Int) r2.1 → (
 wfR (.tup [.fr 5 (.int .u8) r3.1, .v (.int .i64) r3.2]) → (
 typing_Finish_P ([(97 : Int), (98 : Int), (10 : Int), (99 : Int), (100 : Int)] : List Int) r2.1 ∧ (
 ∀ (r4 : List ((Int × List Int × List Int)) × Int), r4 = typing_Finish_F ([(97 : Int), (98 : Int), (10 : Int), (99 : Int), (100 : Int)] : List Int) r2.1 → (
 wfR (.tup [.fr 39 (.st (.pair (.int .i64) (.pair (.sl (.int .u8)) (.sl (.int .u8))))) r4.1, .v (.int .i64) r4.2]) → (
 typing_Press_P ([(97 : Int), (98 : Int), (10 : Int), (99 : Int), (100 : Int)] : List Int) r1 (8 : Int) ∧ (
 ∀ (r5 : (Int × Int × List Int × Int × Int) × Bool × Int), r5 = typing_Press_F ([(97 : Int), (98 : Int), (10 : Int), (99 : Int), (100 : Int)] : List Int) r1 (8 : Int) → (
 wfR (.tup [.v (.st (.pair (.int .u8) (.pair (.int .i64) (.pair (.sl (.int .u8)) (.pair (.int .i64) (.int .i64)))))) r5.1, .v (.bool) r5.2.1, .v (.int .i64) r5.2.2]) → (
 bif (!r2.2.1) then
 K (.one (.v (.bool) false)) []
 else
 bif (!decide (r2.2.2 = (0 : Int))) then
 K (.one (.v (.bool) false)) []
 else
 bif (!decide (r5.2.2 = (200 : Int))) then
 K (.one (.v (.bool) false)) []
 else
 bif (!decide (r3.1 = ([97, 120, 98, 10, 99, 100] : List Int))) then
 K (.one (.v (.bool) false)) []
 else
 bif (!decide (r3.2 = (2 : Int))) then
 K (.one (.v (.bool) false)) []
 else
 bif (!decide ((List.length r4.1 : Int) = (1 : Int))) then
 K (.one (.v (.bool) false)) []
 else
 bif decide (0 ≤ (0 : Int) ∧ (0 : Int) < (List.length r4.1 : Int)) then
 bif (!decide ((rd ((0 : Int), ([] : List Int), ([] : List Int)) r4.1 (0 : Int)).2.2 = ([120, 120, 120] : List Int))) then
 K (.one (.v (.bool) false)) []
 else
 bif (!decide (r4.2 = (3 : Int))) then
 K (.one (.v (.bool) false)) []
 else
 ∀ (r6 : Int), r6 = typing_Check_F ([(97 : Int), (98 : Int), (10 : Int), (99 : Int), (100 : Int)] : List Int) r1 → (
 wfR (.one (.v (.int .i64) r6)) → (
 bif (decide (r6 = (0 : Int))) then
 ∀ (r7 : (Int × Int × List Int × Int × Int)), r7 = typing_Begin_F (105 : Int) (6 : Int) (1 : Int) → (
 wfR (.one (.v (.st (.pair (.int .u8) (.pair (.int .i64) (.pair (.sl (.int .u8)) (.pair (.int .i64) (.int .i64)))))) r7)) → (
 ∀ (r8 : Int), r8 = typing_Check_F ([(97 : Int), (98 : Int), (10 : Int), (99 : Int), (100 : Int)] : List Int) r7 → (
 wfR (.one (.v (.int .i64) r8)) → (
 K (.one (.v (.bool) (decide (r8 = (2 : Int))))) []))))
 else
 K (.one (.v (.bool) false)) []))
 else False))))))))))))))
def quoinlaw20_alive_A : List AS := []
theorem quoinlaw20_alive_walk  (K : Res → List Cell → Prop) : runF tb (getG quoinlaw20_alive_G) [] Try.f4 [true] (mkA quoinlaw20_alive_A ()) K = quoinlaw20_alive_raw  K := by kernel_rfl
--! pre 0
--! import LT2
def quoinlaw20_alive_F : Bool := true
theorem quoinlaw20_alive_sp (K : Res → List Cell → Prop) (_ : wfA quoinlaw20_alive_A ()) (h : ∀ r : Bool, r = quoinlaw20_alive_F → K (.one (.v .bool r)) []) : quoinlaw20_alive_raw K := by
  have hk := h true rfl
  clear h
  unfold quoinlaw20_alive_raw
  intro r1 hr1 _
  obtain rfl : r1 = (105, 1, [], 0, 3) := hr1
  refine ⟨by show (0 : Nat) < 1099511627776; omega, fun r2 hr2 _ => ?_⟩
  obtain rfl : r2 = ((105, 1, [120], 0, 3), true, 0) := hr2.trans (by decide +kernel)
  have hok : okB ([120] : List Int) := ⟨by simp, by simp⟩
  refine ⟨show_P (by simp) hok, fun r3 hr3 _ => ?_⟩
  obtain rfl : r3 = ([97, 120, 98, 10, 99, 100], 2) := hr3.trans (by decide +kernel)
  refine ⟨finish_P (by simp) hok (by simp), fun r4 hr4 _ => ?_⟩
  obtain rfl : r4 = ([(1, [], [120, 120, 120])], 3) := hr4.trans (by decide +kernel)
  refine ⟨by show (0 : Nat) < 1099511627776; omega, fun r5 hr5 _ => ?_⟩
  obtain rfl : r5 = ((0, 0, [], 0, 0), false, 200) := hr5.trans (by decide +kernel)
  show ∀ (r6 : Int), r6 = typing_Check_F [97, 98, 10, 99, 100] (105, 1, [], 0, 3) → _
  intro r6 hr6 _
  obtain rfl : r6 = 0 := hr6.trans (by decide +kernel)
  show ∀ (r7 : Int × Int × List Int × Int × Int), _
  intro r7 hr7 _
  obtain rfl : r7 = (105, 6, [], 0, 1) := hr7
  intro r8 hr8 _
  obtain rfl : r8 = 2 := hr8.trans (by decide +kernel)
  exact hk

def quoinlaw20_alive_C (v : valsA quoinlaw20_alive_A) (K : Res → List Cell → Prop) : Prop := ∀ r : Bool, r = quoinlaw20_alive_F → K (.one (.v (.bool) r)) []
def quoinlaw20_alive_S : App := specW quoinlaw20_alive_A quoinlaw20_alive_C
theorem quoinlaw20_alive_wv (K : Res → List Cell → Prop) : ∀ v : valsA quoinlaw20_alive_A, runF tb (getG quoinlaw20_alive_G) [] Try.f4 [true] (mkA quoinlaw20_alive_A v) K = quoinlaw20_alive_raw  K
  | () => quoinlaw20_alive_walk  K
set_option maxRecDepth 20000 in
theorem quoinlaw20_alive_ok : AppOk Try.prog 4 quoinlaw20_alive_S :=
  AppOk.specW (spec_ok (runF_ok tb_M tb_ok quoinlaw20_alive_Gok (LabsOk.nil) (f := 4) (fn := Try.f4) (by kernel_rfl) (by kernel_rfl) (by kernel_rfl) [true]) fun v K hw h => (quoinlaw20_alive_wv K v).mpr (quoinlaw20_alive_sp  K hw h))

end Go.VE
namespace Go.VE
open Go Go.Proofs
/-! ### bytes.Equal -/
def bytes_Equal_G : List (Nat × App) := []
theorem bytes_Equal_Gok : GOk Try.prog (getG bytes_Equal_G) := GOk.nil
def bytes_Equal_raw (a0 : List Int) (b1 : List Int) (K : Res → List Cell → Prop) : Prop :=
 K (.one (.v (.bool) (decide (a0 = b1)))) []
def bytes_Equal_A : List AS := [.v (.sl (.int .u8)), .v (.sl (.int .u8))]
theorem bytes_Equal_walk (a0 : List Int) (b1 : List Int) (K : Res → List Cell → Prop) : runF tb (getG bytes_Equal_G) [] Try.f32 [true] (mkA bytes_Equal_A (a0, b1, ())) K = bytes_Equal_raw a0 b1 K := by kernel_rfl

def bytes_Equal_F (a0 : List Int) (b1 : List Int) : Bool :=
 (decide (a0 = b1))
set_option maxRecDepth 20000 in
theorem bytes_Equal_sp (a0 : List Int) (b1 : List Int) (K : Res → List Cell → Prop) (_ : wfA bytes_Equal_A (a0, b1, ())) (h : ∀ r : Bool, r = bytes_Equal_F a0 b1 → K (.one (.v (.bool) r)) []) : bytes_Equal_raw a0 b1 K := by
  unfold bytes_Equal_raw
  exact h _ rfl
def bytes_Equal_C (v : valsA bytes_Equal_A) (K : Res → List Cell → Prop) : Prop := ∀ r : Bool, r = bytes_Equal_F v.1 v.2.1 → K (.one (.v (.bool) r)) []
def bytes_Equal_S : App := specW bytes_Equal_A bytes_Equal_C
theorem bytes_Equal_wv (K : Res → List Cell → Prop) : ∀ v : valsA bytes_Equal_A, runF tb (getG bytes_Equal_G) [] Try.f32 [true] (mkA bytes_Equal_A v) K = bytes_Equal_raw v.1 v.2.1 K
  | (a0, b1, ()) => bytes_Equal_walk a0 b1 K
set_option maxRecDepth 20000 in
theorem bytes_Equal_ok : AppOk Try.prog 32 bytes_Equal_S :=
  AppOk.specW (spec_ok (runF_ok tb_M tb_ok bytes_Equal_Gok (LabsOk.nil) (f := 32) (fn := Try.f32) (by kernel_rfl) (by kernel_rfl) (by kernel_rfl) [true]) fun v K hw h => (bytes_Equal_wv K v).mpr (bytes_Equal_sp v.1 v.2.1 K hw h))

end Go.VE
namespace Go.VE
open Go Go.Proofs
/-! ### bytes.HasPrefix -/
def bytes_HasPrefix_G : List (Nat × App) := [(32, bytes_Equal_S)]
theorem bytes_HasPrefix_Gok : GOk Try.prog (getG bytes_HasPrefix_G) := GOk.cons bytes_Equal_ok (GOk.nil)
def bytes_HasPrefix_raw (s0 : List Int) (prefix1 : List Int) (K : Res → List Cell → Prop) : Prop :=
 bif (decide ((List.length prefix1 : Int) ≤ (List.length s0 : Int))) then
 bif decide (0 ≤ (List.length prefix1 : Int) ∧ (List.length prefix1 : Int) ≤ (List.length s0 : Int)) then
 ∀ (r1 : Bool), r1 = bytes_Equal_F (List.take (Int.toNat (List.length prefix1 : Int)) s0) prefix1 → (
 wfR (.one (.v (.bool) r1)) → (
 K (.one (.v (.bool) r1)) []))
 else False
 else
 K (.one (.v (.bool) false)) []
def bytes_HasPrefix_A : List AS := [.v (.sl (.int .u8)), .v (.sl (.int .u8))]
theorem bytes_HasPrefix_walk (s0 : List Int) (prefix1 : List Int) (K : Res → List Cell → Prop) : runF tb (getG bytes_HasPrefix_G) [] Try.f18 [true] (mkA bytes_HasPrefix_A (s0, prefix1, ())) K = bytes_HasPrefix_raw s0 prefix1 K := by kernel_rfl

def bytes_HasPrefix_P (s0 : List Int) (prefix1 : List Int) : Prop :=
 bif (decide ((List.length prefix1 : Int) ≤ (List.length s0 : Int))) then
 (0 ≤ (List.length prefix1 : Int) ∧ (List.length prefix1 : Int) ≤ (List.length s0 : Int))
 else
 True
def bytes_HasPrefix_F (s0 : List Int) (prefix1 : List Int) : Bool :=
 bif (decide ((List.length prefix1 : Int) ≤ (List.length s0 : Int))) then
 let r1 : Bool := bytes_Equal_F (List.take (Int.toNat (List.length prefix1 : Int)) s0) prefix1
 r1
 else
 false
set_option maxRecDepth 20000 in
theorem bytes_HasPrefix_sp (s0 : List Int) (prefix1 : List Int) (K : Res → List Cell → Prop) (_ : wfA bytes_HasPrefix_A (s0, prefix1, ())) (hp : bytes_HasPrefix_P s0 prefix1) (h : ∀ r : Bool, r = bytes_HasPrefix_F s0 prefix1 → K (.one (.v (.bool) r)) []) : bytes_HasPrefix_raw s0 prefix1 K := by
  unfold bytes_HasPrefix_raw
  unfold bytes_HasPrefix_P at hp
  refine brb (fun c_1 => ?_) (fun c_1 => ?_)
  ·
    replace hp := cT c_1 hp
    refine asrt hp ?_
    intro r1 hr1
    subst hr1
    intro _
    exact h _ ((ctrue c_1) : bytes_HasPrefix_F s0 prefix1 = _).symm
  ·
    clear hp
    exact h _ ((cfalse c_1) : bytes_HasPrefix_F s0 prefix1 = _).symm
def bytes_HasPrefix_C (v : valsA bytes_HasPrefix_A) (K : Res → List Cell → Prop) : Prop := bytes_HasPrefix_P v.1 v.2.1 ∧ ∀ r : Bool, r = bytes_HasPrefix_F v.1 v.2.1 → K (.one (.v (.bool) r)) []
def bytes_HasPrefix_S : App := specW bytes_HasPrefix_A bytes_HasPrefix_C
theorem bytes_HasPrefix_wv (K : Res → List Cell → Prop) : ∀ v : valsA bytes_HasPrefix_A, runF tb (getG bytes_HasPrefix_G) [] Try.f18 [true] (mkA bytes_HasPrefix_A v) K = bytes_HasPrefix_raw v.1 v.2.1 K
  | (s0, prefix1, ()) => bytes_HasPrefix_walk s0 prefix1 K
set_option maxRecDepth 20000 in
theorem bytes_HasPrefix_ok : AppOk Try.prog 18 bytes_HasPrefix_S :=
  AppOk.specW (spec_ok (runF_ok tb_M tb_ok bytes_HasPrefix_Gok (LabsOk.nil) (f := 18) (fn := Try.f18) (by kernel_rfl) (by kernel_rfl) (by kernel_rfl) [true]) fun v K hw h => (bytes_HasPrefix_wv K v).mpr (bytes_HasPrefix_sp v.1 v.2.1 K hw h.1 h.2))

end Go.VE
