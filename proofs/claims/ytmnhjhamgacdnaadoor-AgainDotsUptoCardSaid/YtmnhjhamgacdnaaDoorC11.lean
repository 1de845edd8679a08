/- AgainDots: whatever the input, up to the bulk that the statement names, the law answers true, and what was handed in reads as it did. Its conditions: the bound of the given statement and the tables that its card ties, no other. -/
import Derived.Test.YtmnhjhamgacdnaaDoorC10
set_option linter.unusedVariables false
set_option linter.unusedSectionVars false
set_option linter.unusedSimpArgs false
namespace Go.VE
open Go Go.Proofs
/-! ### (*quoin/keys.reader).named -/
def keys_reader_named_G : List (Nat × App) := [(86, keys_reader_next_S), (123, keys_reader_worked_S), (124, keys_reader_argument_S), (125, strings_IndexByte_S), (126, keys_reader_motion_S)]
theorem keys_reader_named_Gok : GOk Tryd.prog (getG keys_reader_named_G) := GOk.cons keys_reader_next_ok (GOk.cons keys_reader_worked_ok (GOk.cons keys_reader_argument_ok (GOk.cons strings_IndexByte_ok (GOk.cons keys_reader_motion_ok (GOk.nil)))))
def keys_reader_named_raw (r0 : (List Int × Int)) (c1 : CmT) (K : Res → List Cell → Prop) : Prop :=
 keys_reader_next_P r0 ∧ (
 ∀ (r1 : Int × Bool × (List Int × Int)), r1 = keys_reader_next_F r0 → (
 wfR (.tup [.v (.int .u8) r1.1, .v (.bool) r1.2.1]) → (
 bif (!r1.2.1) then
 K (.one (.v (.int .i64) (0 : Int))) [⟨.st (.pair (.sl (.int .u8)) (.int .i64)), r1.2.2⟩, ⟨.st (.pair (.int .u8) (.pair (.int .i64) (.pair (.str) (.pair (.str) (.pair (.int .u8) (.sl (.int .u8))))))), c1⟩]
 else
 bif (decide (r1.1 = (100 : Int))) then
 bif (decide (r1.1 = (100 : Int))) then
 keys_reader_worked_P r1.2.2 (c1.1, c1.2.1, ([r1.1] : List Int), c1.2.2.2.1, c1.2.2.2.2.1, c1.2.2.2.2.2) ∧ (
 ∀ (r2 : Int × (List Int × Int) × CmT), r2 = keys_reader_worked_F r1.2.2 (c1.1, c1.2.1, ([r1.1] : List Int), c1.2.2.2.1, c1.2.2.2.2.1, c1.2.2.2.2.2) → (
 wfR (.one (.v (.int .i64) r2.1)) → (
 K (.one (.v (.int .i64) r2.1)) [⟨.st (.pair (.sl (.int .u8)) (.int .i64)), r2.2.1⟩, ⟨.st (.pair (.int .u8) (.pair (.int .i64) (.pair (.str) (.pair (.str) (.pair (.int .u8) (.sl (.int .u8))))))), r2.2.2⟩])))
 else
 bif (decide (r1.1 = (58 : Int))) then
 K (.one (.v (.int .i64) (3 : Int))) [⟨.st (.pair (.sl (.int .u8)) (.int .i64)), r1.2.2⟩, ⟨.st (.pair (.int .u8) (.pair (.int .i64) (.pair (.str) (.pair (.str) (.pair (.int .u8) (.sl (.int .u8))))))), (c1.1, c1.2.1, c1.2.2.1, ([58] : List Int), c1.2.2.2.2.1, c1.2.2.2.2.2)⟩]
 else
 bif (decide (r1.1 = (114 : Int))) then
 bif (decide (r1.1 = (114 : Int))) then
 keys_reader_argument_P r1.2.2 (c1.1, c1.2.1, c1.2.2.1, ([r1.1] : List Int), c1.2.2.2.2.1, c1.2.2.2.2.2) ∧ (
 ∀ (r3 : Int × (List Int × Int) × CmT), r3 = keys_reader_argument_F r1.2.2 (c1.1, c1.2.1, c1.2.2.1, ([r1.1] : List Int), c1.2.2.2.2.1, c1.2.2.2.2.2) → (
 wfR (.one (.v (.int .i64) r3.1)) → (
 K (.one (.v (.int .i64) r3.1)) [⟨.st (.pair (.sl (.int .u8)) (.int .i64)), r3.2.1⟩, ⟨.st (.pair (.int .u8) (.pair (.int .i64) (.pair (.str) (.pair (.str) (.pair (.int .u8) (.sl (.int .u8))))))), r3.2.2⟩])))
 else
 bif (decide (r1.1 = (103 : Int))) then
 bif (decide (r1.2.2.2 = (List.length r1.2.2.1 : Int))) then
 K (.one (.v (.int .i64) (0 : Int))) [⟨.st (.pair (.sl (.int .u8)) (.int .i64)), r1.2.2⟩, ⟨.st (.pair (.int .u8) (.pair (.int .i64) (.pair (.str) (.pair (.str) (.pair (.int .u8) (.sl (.int .u8))))))), c1⟩]
 else
 bif decide (0 ≤ r1.2.2.2 ∧ r1.2.2.2 < (List.length r1.2.2.1 : Int)) then
 bif (decide ((rd (0 : Int) r1.2.2.1 r1.2.2.2) = (126 : Int))) then
 bif (decide ((rd (0 : Int) r1.2.2.1 r1.2.2.2) = (126 : Int))) then
 bif decide (List.length ([103] : List Int) + List.length ([(rd (0 : Int) r1.2.2.1 r1.2.2.2)] : List Int) ≤ lim) then
 keys_reader_worked_P (r1.2.2.1, (IntKind.wrap .i64 (r1.2.2.2 + (1 : Int)))) (c1.1, c1.2.1, (([103] : List Int) ++ ([(rd (0 : Int) r1.2.2.1 r1.2.2.2)] : List Int)), c1.2.2.2.1, c1.2.2.2.2.1, c1.2.2.2.2.2) ∧ (
 ∀ (r4 : Int × (List Int × Int) × CmT), r4 = keys_reader_worked_F (r1.2.2.1, (IntKind.wrap .i64 (r1.2.2.2 + (1 : Int)))) (c1.1, c1.2.1, (([103] : List Int) ++ ([(rd (0 : Int) r1.2.2.1 r1.2.2.2)] : List Int)), c1.2.2.2.1, c1.2.2.2.2.1, c1.2.2.2.2.2) → (
 wfR (.one (.v (.int .i64) r4.1)) → (
 K (.one (.v (.int .i64) r4.1)) [⟨.st (.pair (.sl (.int .u8)) (.int .i64)), r4.2.1⟩, ⟨.st (.pair (.int .u8) (.pair (.int .i64) (.pair (.str) (.pair (.str) (.pair (.int .u8) (.sl (.int .u8))))))), r4.2.2⟩])))
 else False
 else
 bif (decide ((rd (0 : Int) r1.2.2.1 r1.2.2.2) = (45 : Int))) then
 bif (decide ((rd (0 : Int) r1.2.2.1 r1.2.2.2) = (45 : Int))) then
 bif decide (List.length ([103] : List Int) + List.length ([(rd (0 : Int) r1.2.2.1 r1.2.2.2)] : List Int) ≤ lim) then
 K (.one (.v (.int .i64) (1 : Int))) [⟨.st (.pair (.sl (.int .u8)) (.int .i64)), (r1.2.2.1, (IntKind.wrap .i64 (r1.2.2.2 + (1 : Int))))⟩, ⟨.st (.pair (.int .u8) (.pair (.int .i64) (.pair (.str) (.pair (.str) (.pair (.int .u8) (.sl (.int .u8))))))), (c1.1, c1.2.1, c1.2.2.1, (([103] : List Int) ++ ([(rd (0 : Int) r1.2.2.1 r1.2.2.2)] : List Int)), c1.2.2.2.2.1, c1.2.2.2.2.2)⟩]
 else False
 else
 ∀ (r5 : Int), r5 = strings_IndexByte_F ([120, 88, 68, 67, 89, 83, 115, 112, 80, 126, 74, 105, 97, 73, 65, 111, 79, 82, 117, 46, 18] : List Int) r1.1 → (
 wfR (.one (.v (.int .i64) r5)) → (
 bif (decide ((0 : Int) ≤ r5)) then
 K (.one (.v (.int .i64) (1 : Int))) [⟨.st (.pair (.sl (.int .u8)) (.int .i64)), r1.2.2⟩, ⟨.st (.pair (.int .u8) (.pair (.int .i64) (.pair (.str) (.pair (.str) (.pair (.int .u8) (.sl (.int .u8))))))), (c1.1, c1.2.1, c1.2.2.1, ([r1.1] : List Int), c1.2.2.2.2.1, c1.2.2.2.2.2)⟩]
 else
 keys_reader_motion_P r1.2.2 c1 r1.1 ∧ (
 ∀ (r6 : Int × (List Int × Int) × CmT), r6 = keys_reader_motion_F r1.2.2 c1 r1.1 → (
 wfR (.one (.v (.int .i64) r6.1)) → (
 K (.one (.v (.int .i64) r6.1)) [⟨.st (.pair (.sl (.int .u8)) (.int .i64)), r6.2.1⟩, ⟨.st (.pair (.int .u8) (.pair (.int .i64) (.pair (.str) (.pair (.str) (.pair (.int .u8) (.sl (.int .u8))))))), r6.2.2⟩])))))
 else
 bif (decide ((rd (0 : Int) r1.2.2.1 r1.2.2.2) = (43 : Int))) then
 bif decide (List.length ([103] : List Int) + List.length ([(rd (0 : Int) r1.2.2.1 r1.2.2.2)] : List Int) ≤ lim) then
 K (.one (.v (.int .i64) (1 : Int))) [⟨.st (.pair (.sl (.int .u8)) (.int .i64)), (r1.2.2.1, (IntKind.wrap .i64 (r1.2.2.2 + (1 : Int))))⟩, ⟨.st (.pair (.int .u8) (.pair (.int .i64) (.pair (.str) (.pair (.str) (.pair (.int .u8) (.sl (.int .u8))))))), (c1.1, c1.2.1, c1.2.2.1, (([103] : List Int) ++ ([(rd (0 : Int) r1.2.2.1 r1.2.2.2)] : List Int)), c1.2.2.2.2.1, c1.2.2.2.2.2)⟩]
 else False
 else
 ∀ (r7 : Int), r7 = strings_IndexByte_F ([120, 88, 68, 67, 89, 83, 115, 112, 80, 126, 74, 105, 97, 73, 65, 111, 79, 82, 117, 46, 18] : List Int) r1.1 → (
 wfR (.one (.v (.int .i64) r7)) → (
 bif (decide ((0 : Int) ≤ r7)) then
 K (.one (.v (.int .i64) (1 : Int))) [⟨.st (.pair (.sl (.int .u8)) (.int .i64)), r1.2.2⟩, ⟨.st (.pair (.int .u8) (.pair (.int .i64) (.pair (.str) (.pair (.str) (.pair (.int .u8) (.sl (.int .u8))))))), (c1.1, c1.2.1, c1.2.2.1, ([r1.1] : List Int), c1.2.2.2.2.1, c1.2.2.2.2.2)⟩]
 else
 keys_reader_motion_P r1.2.2 c1 r1.1 ∧ (
 ∀ (r8 : Int × (List Int × Int) × CmT), r8 = keys_reader_motion_F r1.2.2 c1 r1.1 → (
 wfR (.one (.v (.int .i64) r8.1)) → (
 K (.one (.v (.int .i64) r8.1)) [⟨.st (.pair (.sl (.int .u8)) (.int .i64)), r8.2.1⟩, ⟨.st (.pair (.int .u8) (.pair (.int .i64) (.pair (.str) (.pair (.str) (.pair (.int .u8) (.sl (.int .u8))))))), r8.2.2⟩])))))
 else
 bif (decide ((rd (0 : Int) r1.2.2.1 r1.2.2.2) = (117 : Int))) then
 bif (decide ((rd (0 : Int) r1.2.2.1 r1.2.2.2) = (117 : Int))) then
 bif decide (List.length ([103] : List Int) + List.length ([(rd (0 : Int) r1.2.2.1 r1.2.2.2)] : List Int) ≤ lim) then
 keys_reader_worked_P (r1.2.2.1, (IntKind.wrap .i64 (r1.2.2.2 + (1 : Int)))) (c1.1, c1.2.1, (([103] : List Int) ++ ([(rd (0 : Int) r1.2.2.1 r1.2.2.2)] : List Int)), c1.2.2.2.1, c1.2.2.2.2.1, c1.2.2.2.2.2) ∧ (
 ∀ (r9 : Int × (List Int × Int) × CmT), r9 = keys_reader_worked_F (r1.2.2.1, (IntKind.wrap .i64 (r1.2.2.2 + (1 : Int)))) (c1.1, c1.2.1, (([103] : List Int) ++ ([(rd (0 : Int) r1.2.2.1 r1.2.2.2)] : List Int)), c1.2.2.2.1, c1.2.2.2.2.1, c1.2.2.2.2.2) → (
 wfR (.one (.v (.int .i64) r9.1)) → (
 K (.one (.v (.int .i64) r9.1)) [⟨.st (.pair (.sl (.int .u8)) (.int .i64)), r9.2.1⟩, ⟨.st (.pair (.int .u8) (.pair (.int .i64) (.pair (.str) (.pair (.str) (.pair (.int .u8) (.sl (.int .u8))))))), r9.2.2⟩])))
 else False
 else
 bif (decide ((rd (0 : Int) r1.2.2.1 r1.2.2.2) = (45 : Int))) then
 bif (decide ((rd (0 : Int) r1.2.2.1 r1.2.2.2) = (45 : Int))) then
 bif decide (List.length ([103] : List Int) + List.length ([(rd (0 : Int) r1.2.2.1 r1.2.2.2)] : List Int) ≤ lim) then
 K (.one (.v (.int .i64) (1 : Int))) [⟨.st (.pair (.sl (.int .u8)) (.int .i64)), (r1.2.2.1, (IntKind.wrap .i64 (r1.2.2.2 + (1 : Int))))⟩, ⟨.st (.pair (.int .u8) (.pair (.int .i64) (.pair (.str) (.pair (.str) (.pair (.int .u8) (.sl (.int .u8))))))), (c1.1, c1.2.1, c1.2.2.1, (([103] : List Int) ++ ([(rd (0 : Int) r1.2.2.1 r1.2.2.2)] : List Int)), c1.2.2.2.2.1, c1.2.2.2.2.2)⟩]
 else False
 else
 ∀ (r10 : Int), r10 = strings_IndexByte_F ([120, 88, 68, 67, 89, 83, 115, 112, 80, 126, 74, 105, 97, 73, 65, 111, 79, 82, 117, 46, 18] : List Int) r1.1 → (
 wfR (.one (.v (.int .i64) r10)) → (
 bif (decide ((0 : Int) ≤ r10)) then
 K (.one (.v (.int .i64) (1 : Int))) [⟨.st (.pair (.sl (.int .u8)) (.int .i64)), r1.2.2⟩, ⟨.st (.pair (.int .u8) (.pair (.int .i64) (.pair (.str) (.pair (.str) (.pair (.int .u8) (.sl (.int .u8))))))), (c1.1, c1.2.1, c1.2.2.1, ([r1.1] : List Int), c1.2.2.2.2.1, c1.2.2.2.2.2)⟩]
 else
 keys_reader_motion_P r1.2.2 c1 r1.1 ∧ (
 ∀ (r11 : Int × (List Int × Int) × CmT), r11 = keys_reader_motion_F r1.2.2 c1 r1.1 → (
 wfR (.one (.v (.int .i64) r11.1)) → (
 K (.one (.v (.int .i64) r11.1)) [⟨.st (.pair (.sl (.int .u8)) (.int .i64)), r11.2.1⟩, ⟨.st (.pair (.int .u8) (.pair (.int .i64) (.pair (.str) (.pair (.str) (.pair (.int .u8) (.sl (.int .u8))))))), r11.2.2⟩])))))
 else
 bif (decide ((rd (0 : Int) r1.2.2.1 r1.2.2.2) = (43 : Int))) then
 bif decide (List.length ([103] : List Int) + List.length ([(rd (0 : Int) r1.2.2.1 r1.2.2.2)] : List Int) ≤ lim) then
 K (.one (.v (.int .i64) (1 : Int))) [⟨.st (.pair (.sl (.int .u8)) (.int .i64)), (r1.2.2.1, (IntKind.wrap .i64 (r1.2.2.2 + (1 : Int))))⟩, ⟨.st (.pair (.int .u8) (.pair (.int .i64) (.pair (.str) (.pair (.str) (.pair (.int .u8) (.sl (.int .u8))))))), (c1.1, c1.2.1, c1.2.2.1, (([103] : List Int) ++ ([(rd (0 : Int) r1.2.2.1 r1.2.2.2)] : List Int)), c1.2.2.2.2.1, c1.2.2.2.2.2)⟩]
 else False
 else
 ∀ (r12 : Int), r12 = strings_IndexByte_F ([120, 88, 68, 67, 89, 83, 115, 112, 80, 126, 74, 105, 97, 73, 65, 111, 79, 82, 117, 46, 18] : List Int) r1.1 → (
 wfR (.one (.v (.int .i64) r12)) → (
 bif (decide ((0 : Int) ≤ r12)) then
 K (.one (.v (.int .i64) (1 : Int))) [⟨.st (.pair (.sl (.int .u8)) (.int .i64)), r1.2.2⟩, ⟨.st (.pair (.int .u8) (.pair (.int .i64) (.pair (.str) (.pair (.str) (.pair (.int .u8) (.sl (.int .u8))))))), (c1.1, c1.2.1, c1.2.2.1, ([r1.1] : List Int), c1.2.2.2.2.1, c1.2.2.2.2.2)⟩]
 else
 keys_reader_motion_P r1.2.2 c1 r1.1 ∧ (
 ∀ (r13 : Int × (List Int × Int) × CmT), r13 = keys_reader_motion_F r1.2.2 c1 r1.1 → (
 wfR (.one (.v (.int .i64) r13.1)) → (
 K (.one (.v (.int .i64) r13.1)) [⟨.st (.pair (.sl (.int .u8)) (.int .i64)), r13.2.1⟩, ⟨.st (.pair (.int .u8) (.pair (.int .i64) (.pair (.str) (.pair (.str) (.pair (.int .u8) (.sl (.int .u8))))))), r13.2.2⟩])))))
 else
 bif (decide ((rd (0 : Int) r1.2.2.1 r1.2.2.2) = (85 : Int))) then
 bif decide (List.length ([103] : List Int) + List.length ([(rd (0 : Int) r1.2.2.1 r1.2.2.2)] : List Int) ≤ lim) then
 keys_reader_worked_P (r1.2.2.1, (IntKind.wrap .i64 (r1.2.2.2 + (1 : Int)))) (c1.1, c1.2.1, (([103] : List Int) ++ ([(rd (0 : Int) r1.2.2.1 r1.2.2.2)] : List Int)), c1.2.2.2.1, c1.2.2.2.2.1, c1.2.2.2.2.2) ∧ (
 ∀ (r14 : Int × (List Int × Int) × CmT), r14 = keys_reader_worked_F (r1.2.2.1, (IntKind.wrap .i64 (r1.2.2.2 + (1 : Int)))) (c1.1, c1.2.1, (([103] : List Int) ++ ([(rd (0 : Int) r1.2.2.1 r1.2.2.2)] : List Int)), c1.2.2.2.1, c1.2.2.2.2.1, c1.2.2.2.2.2) → (
 wfR (.one (.v (.int .i64) r14.1)) → (
 K (.one (.v (.int .i64) r14.1)) [⟨.st (.pair (.sl (.int .u8)) (.int .i64)), r14.2.1⟩, ⟨.st (.pair (.int .u8) (.pair (.int .i64) (.pair (.str) (.pair (.str) (.pair (.int .u8) (.sl (.int .u8))))))), r14.2.2⟩])))
 else False
 else
 bif (decide ((rd (0 : Int) r1.2.2.1 r1.2.2.2) = (45 : Int))) then
 bif (decide ((rd (0 : Int) r1.2.2.1 r1.2.2.2) = (45 : Int))) then
 bif decide (List.length ([103] : List Int) + List.length ([(rd (0 : Int) r1.2.2.1 r1.2.2.2)] : List Int) ≤ lim) then
 K (.one (.v (.int .i64) (1 : Int))) [⟨.st (.pair (.sl (.int .u8)) (.int .i64)), (r1.2.2.1, (IntKind.wrap .i64 (r1.2.2.2 + (1 : Int))))⟩, ⟨.st (.pair (.int .u8) (.pair (.int .i64) (.pair (.str) (.pair (.str) (.pair (.int .u8) (.sl (.int .u8))))))), (c1.1, c1.2.1, c1.2.2.1, (([103] : List Int) ++ ([(rd (0 : Int) r1.2.2.1 r1.2.2.2)] : List Int)), c1.2.2.2.2.1, c1.2.2.2.2.2)⟩]
 else False
 else
 ∀ (r15 : Int), r15 = strings_IndexByte_F ([120, 88, 68, 67, 89, 83, 115, 112, 80, 126, 74, 105, 97, 73, 65, 111, 79, 82, 117, 46, 18] : List Int) r1.1 → (
 wfR (.one (.v (.int .i64) r15)) → (
 bif (decide ((0 : Int) ≤ r15)) then
 K (.one (.v (.int .i64) (1 : Int))) [⟨.st (.pair (.sl (.int .u8)) (.int .i64)), r1.2.2⟩, ⟨.st (.pair (.int .u8) (.pair (.int .i64) (.pair (.str) (.pair (.str) (.pair (.int .u8) (.sl (.int .u8))))))), (c1.1, c1.2.1, c1.2.2.1, ([r1.1] : List Int), c1.2.2.2.2.1, c1.2.2.2.2.2)⟩]
 else
 keys_reader_motion_P r1.2.2 c1 r1.1 ∧ (
 ∀ (r16 : Int × (List Int × Int) × CmT), r16 = keys_reader_motion_F r1.2.2 c1 r1.1 → (
 wfR (.one (.v (.int .i64) r16.1)) → (
 K (.one (.v (.int .i64) r16.1)) [⟨.st (.pair (.sl (.int .u8)) (.int .i64)), r16.2.1⟩, ⟨.st (.pair (.int .u8) (.pair (.int .i64) (.pair (.str) (.pair (.str) (.pair (.int .u8) (.sl (.int .u8))))))), r16.2.2⟩])))))
 else
 bif (decide ((rd (0 : Int) r1.2.2.1 r1.2.2.2) = (43 : Int))) then
 bif decide (List.length ([103] : List Int) + List.length ([(rd (0 : Int) r1.2.2.1 r1.2.2.2)] : List Int) ≤ lim) then
 K (.one (.v (.int .i64) (1 : Int))) [⟨.st (.pair (.sl (.int .u8)) (.int .i64)), (r1.2.2.1, (IntKind.wrap .i64 (r1.2.2.2 + (1 : Int))))⟩, ⟨.st (.pair (.int .u8) (.pair (.int .i64) (.pair (.str) (.pair (.str) (.pair (.int .u8) (.sl (.int .u8))))))), (c1.1, c1.2.1, c1.2.2.1, (([103] : List Int) ++ ([(rd (0 : Int) r1.2.2.1 r1.2.2.2)] : List Int)), c1.2.2.2.2.1, c1.2.2.2.2.2)⟩]
 else False
 else
 ∀ (r17 : Int), r17 = strings_IndexByte_F ([120, 88, 68, 67, 89, 83, 115, 112, 80, 126, 74, 105, 97, 73, 65, 111, 79, 82, 117, 46, 18] : List Int) r1.1 → (
 wfR (.one (.v (.int .i64) r17)) → (
 bif (decide ((0 : Int) ≤ r17)) then
 K (.one (.v (.int .i64) (1 : Int))) [⟨.st (.pair (.sl (.int .u8)) (.int .i64)), r1.2.2⟩, ⟨.st (.pair (.int .u8) (.pair (.int .i64) (.pair (.str) (.pair (.str) (.pair (.int .u8) (.sl (.int .u8))))))), (c1.1, c1.2.1, c1.2.2.1, ([r1.1] : List Int), c1.2.2.2.2.1, c1.2.2.2.2.2)⟩]
 else
 keys_reader_motion_P r1.2.2 c1 r1.1 ∧ (
 ∀ (r18 : Int × (List Int × Int) × CmT), r18 = keys_reader_motion_F r1.2.2 c1 r1.1 → (
 wfR (.one (.v (.int .i64) r18.1)) → (
 K (.one (.v (.int .i64) r18.1)) [⟨.st (.pair (.sl (.int .u8)) (.int .i64)), r18.2.1⟩, ⟨.st (.pair (.int .u8) (.pair (.int .i64) (.pair (.str) (.pair (.str) (.pair (.int .u8) (.sl (.int .u8))))))), r18.2.2⟩])))))
 else False
 else
 ∀ (r19 : Int), r19 = strings_IndexByte_F ([120, 88, 68, 67, 89, 83, 115, 112, 80, 126, 74, 105, 97, 73, 65, 111, 79, 82, 117, 46, 18] : List Int) r1.1 → (
 wfR (.one (.v (.int .i64) r19)) → (
 bif (decide ((0 : Int) ≤ r19)) then
 K (.one (.v (.int .i64) (1 : Int))) [⟨.st (.pair (.sl (.int .u8)) (.int .i64)), r1.2.2⟩, ⟨.st (.pair (.int .u8) (.pair (.int .i64) (.pair (.str) (.pair (.str) (.pair (.int .u8) (.sl (.int .u8))))))), (c1.1, c1.2.1, c1.2.2.1, ([r1.1] : List Int), c1.2.2.2.2.1, c1.2.2.2.2.2)⟩]
 else
 keys_reader_motion_P r1.2.2 c1 r1.1 ∧ (
 ∀ (r20 : Int × (List Int × Int) × CmT), r20 = keys_reader_motion_F r1.2.2 c1 r1.1 → (
 wfR (.one (.v (.int .i64) r20.1)) → (
 K (.one (.v (.int .i64) r20.1)) [⟨.st (.pair (.sl (.int .u8)) (.int .i64)), r20.2.1⟩, ⟨.st (.pair (.int .u8) (.pair (.int .i64) (.pair (.str) (.pair (.str) (.pair (.int .u8) (.sl (.int .u8))))))), r20.2.2⟩])))))
 else
 bif (decide (r1.1 = (109 : Int))) then
 keys_reader_argument_P r1.2.2 (c1.1, c1.2.1, c1.2.2.1, ([r1.1] : List Int), c1.2.2.2.2.1, c1.2.2.2.2.2) ∧ (
 ∀ (r21 : Int × (List Int × Int) × CmT), r21 = keys_reader_argument_F r1.2.2 (c1.1, c1.2.1, c1.2.2.1, ([r1.1] : List Int), c1.2.2.2.2.1, c1.2.2.2.2.2) → (
 wfR (.one (.v (.int .i64) r21.1)) → (
 K (.one (.v (.int .i64) r21.1)) [⟨.st (.pair (.sl (.int .u8)) (.int .i64)), r21.2.1⟩, ⟨.st (.pair (.int .u8) (.pair (.int .i64) (.pair (.str) (.pair (.str) (.pair (.int .u8) (.sl (.int .u8))))))), r21.2.2⟩])))
 else
 bif (decide (r1.1 = (103 : Int))) then
 bif (decide (r1.2.2.2 = (List.length r1.2.2.1 : Int))) then
 K (.one (.v (.int .i64) (0 : Int))) [⟨.st (.pair (.sl (.int .u8)) (.int .i64)), r1.2.2⟩, ⟨.st (.pair (.int .u8) (.pair (.int .i64) (.pair (.str) (.pair (.str) (.pair (.int .u8) (.sl (.int .u8))))))), c1⟩]
 else
 bif decide (0 ≤ r1.2.2.2 ∧ r1.2.2.2 < (List.length r1.2.2.1 : Int)) then
 bif (decide ((rd (0 : Int) r1.2.2.1 r1.2.2.2) = (126 : Int))) then
 bif (decide ((rd (0 : Int) r1.2.2.1 r1.2.2.2) = (126 : Int))) then
 bif decide (List.length ([103] : List Int) + List.length ([(rd (0 : Int) r1.2.2.1 r1.2.2.2)] : List Int) ≤ lim) then
 keys_reader_worked_P (r1.2.2.1, (IntKind.wrap .i64 (r1.2.2.2 + (1 : Int)))) (c1.1, c1.2.1, (([103] : List Int) ++ ([(rd (0 : Int) r1.2.2.1 r1.2.2.2)] : List Int)), c1.2.2.2.1, c1.2.2.2.2.1, c1.2.2.2.2.2) ∧ (
 ∀ (r22 : Int × (List Int × Int) × CmT), r22 = keys_reader_worked_F (r1.2.2.1, (IntKind.wrap .i64 (r1.2.2.2 + (1 : Int)))) (c1.1, c1.2.1, (([103] : List Int) ++ ([(rd (0 : Int) r1.2.2.1 r1.2.2.2)] : List Int)), c1.2.2.2.1, c1.2.2.2.2.1, c1.2.2.2.2.2) → (
 wfR (.one (.v (.int .i64) r22.1)) → (
 K (.one (.v (.int .i64) r22.1)) [⟨.st (.pair (.sl (.int .u8)) (.int .i64)), r22.2.1⟩, ⟨.st (.pair (.int .u8) (.pair (.int .i64) (.pair (.str) (.pair (.str) (.pair (.int .u8) (.sl (.int .u8))))))), r22.2.2⟩])))
 else False
 else
 bif (decide ((rd (0 : Int) r1.2.2.1 r1.2.2.2) = (45 : Int))) then
 bif (decide ((rd (0 : Int) r1.2.2.1 r1.2.2.2) = (45 : Int))) then
 bif decide (List.length ([103] : List Int) + List.length ([(rd (0 : Int) r1.2.2.1 r1.2.2.2)] : List Int) ≤ lim) then
 K (.one (.v (.int .i64) (1 : Int))) [⟨.st (.pair (.sl (.int .u8)) (.int .i64)), (r1.2.2.1, (IntKind.wrap .i64 (r1.2.2.2 + (1 : Int))))⟩, ⟨.st (.pair (.int .u8) (.pair (.int .i64) (.pair (.str) (.pair (.str) (.pair (.int .u8) (.sl (.int .u8))))))), (c1.1, c1.2.1, c1.2.2.1, (([103] : List Int) ++ ([(rd (0 : Int) r1.2.2.1 r1.2.2.2)] : List Int)), c1.2.2.2.2.1, c1.2.2.2.2.2)⟩]
 else False
 else
 ∀ (r23 : Int), r23 = strings_IndexByte_F ([120, 88, 68, 67, 89, 83, 115, 112, 80, 126, 74, 105, 97, 73, 65, 111, 79, 82, 117, 46, 18] : List Int) r1.1 → (
 wfR (.one (.v (.int .i64) r23)) → (
 bif (decide ((0 : Int) ≤ r23)) then
 K (.one (.v (.int .i64) (1 : Int))) [⟨.st (.pair (.sl (.int .u8)) (.int .i64)), r1.2.2⟩, ⟨.st (.pair (.int .u8) (.pair (.int .i64) (.pair (.str) (.pair (.str) (.pair (.int .u8) (.sl (.int .u8))))))), (c1.1, c1.2.1, c1.2.2.1, ([r1.1] : List Int), c1.2.2.2.2.1, c1.2.2.2.2.2)⟩]
 else
 keys_reader_motion_P r1.2.2 c1 r1.1 ∧ (
 ∀ (r24 : Int × (List Int × Int) × CmT), r24 = keys_reader_motion_F r1.2.2 c1 r1.1 → (
 wfR (.one (.v (.int .i64) r24.1)) → (
 K (.one (.v (.int .i64) r24.1)) [⟨.st (.pair (.sl (.int .u8)) (.int .i64)), r24.2.1⟩, ⟨.st (.pair (.int .u8) (.pair (.int .i64) (.pair (.str) (.pair (.str) (.pair (.int .u8) (.sl (.int .u8))))))), r24.2.2⟩])))))
 else
 bif (decide ((rd (0 : Int) r1.2.2.1 r1.2.2.2) = (43 : Int))) then
 bif decide (List.length ([103] : List Int) + List.length ([(rd (0 : Int) r1.2.2.1 r1.2.2.2)] : List Int) ≤ lim) then
 K (.one (.v (.int .i64) (1 : Int))) [⟨.st (.pair (.sl (.int .u8)) (.int .i64)), (r1.2.2.1, (IntKind.wrap .i64 (r1.2.2.2 + (1 : Int))))⟩, ⟨.st (.pair (.int .u8) (.pair (.int .i64) (.pair (.str) (.pair (.str) (.pair (.int .u8) (.sl (.int .u8))))))), (c1.1, c1.2.1, c1.2.2.1, (([103] : List Int) ++ ([(rd (0 : Int) r1.2.2.1 r1.2.2.2)] : List Int)), c1.2.2.2.2.1, c1.2.2.2.2.2)⟩]
 else False
 else
 ∀ (r25 : Int), r25 = strings_IndexByte_F ([120, 88, 68, 67, 89, 83, 115, 112, 80, 126, 74, 105, 97, 73, 65, 111, 79, 82, 117, 46, 18] : List Int) r1.1 → (
 wfR (.one (.v (.int .i64) r25)) → (
 bif (decide ((0 : Int) ≤ r25)) then
 K (.one (.v (.int .i64) (1 : Int))) [⟨.st (.pair (.sl (.int .u8)) (.int .i64)), r1.2.2⟩, ⟨.st (.pair (.int .u8) (.pair (.int .i64) (.pair (.str) (.pair (.str) (.pair (.int .u8) (.sl (.int .u8))))))), (c1.1, c1.2.1, c1.2.2.1, ([r1.1] : List Int), c1.2.2.2.2.1, c1.2.2.2.2.2)⟩]
 else
 keys_reader_motion_P r1.2.2 c1 r1.1 ∧ (
 ∀ (r26 : Int × (List Int × Int) × CmT), r26 = keys_reader_motion_F r1.2.2 c1 r1.1 → (
 wfR (.one (.v (.int .i64) r26.1)) → (
 K (.one (.v (.int .i64) r26.1)) [⟨.st (.pair (.sl (.int .u8)) (.int .i64)), r26.2.1⟩, ⟨.st (.pair (.int .u8) (.pair (.int .i64) (.pair (.str) (.pair (.str) (.pair (.int .u8) (.sl (.int .u8))))))), r26.2.2⟩])))))
 else
 bif (decide ((rd (0 : Int) r1.2.2.1 r1.2.2.2) = (117 : Int))) then
 bif (decide ((rd (0 : Int) r1.2.2.1 r1.2.2.2) = (117 : Int))) then
 bif decide (List.length ([103] : List Int) + List.length ([(rd (0 : Int) r1.2.2.1 r1.2.2.2)] : List Int) ≤ lim) then
 keys_reader_worked_P (r1.2.2.1, (IntKind.wrap .i64 (r1.2.2.2 + (1 : Int)))) (c1.1, c1.2.1, (([103] : List Int) ++ ([(rd (0 : Int) r1.2.2.1 r1.2.2.2)] : List Int)), c1.2.2.2.1, c1.2.2.2.2.1, c1.2.2.2.2.2) ∧ (
 ∀ (r27 : Int × (List Int × Int) × CmT), r27 = keys_reader_worked_F (r1.2.2.1, (IntKind.wrap .i64 (r1.2.2.2 + (1 : Int)))) (c1.1, c1.2.1, (([103] : List Int) ++ ([(rd (0 : Int) r1.2.2.1 r1.2.2.2)] : List Int)), c1.2.2.2.1, c1.2.2.2.2.1, c1.2.2.2.2.2) → (
 wfR (.one (.v (.int .i64) r27.1)) → (
 K (.one (.v (.int .i64) r27.1)) [⟨.st (.pair (.sl (.int .u8)) (.int .i64)), r27.2.1⟩, ⟨.st (.pair (.int .u8) (.pair (.int .i64) (.pair (.str) (.pair (.str) (.pair (.int .u8) (.sl (.int .u8))))))), r27.2.2⟩])))
 else False
 else
 bif (decide ((rd (0 : Int) r1.2.2.1 r1.2.2.2) = (45 : Int))) then
 bif (decide ((rd (0 : Int) r1.2.2.1 r1.2.2.2) = (45 : Int))) then
 bif decide (List.length ([103] : List Int) + List.length ([(rd (0 : Int) r1.2.2.1 r1.2.2.2)] : List Int) ≤ lim) then
 K (.one (.v (.int .i64) (1 : Int))) [⟨.st (.pair (.sl (.int .u8)) (.int .i64)), (r1.2.2.1, (IntKind.wrap .i64 (r1.2.2.2 + (1 : Int))))⟩, ⟨.st (.pair (.int .u8) (.pair (.int .i64) (.pair (.str) (.pair (.str) (.pair (.int .u8) (.sl (.int .u8))))))), (c1.1, c1.2.1, c1.2.2.1, (([103] : List Int) ++ ([(rd (0 : Int) r1.2.2.1 r1.2.2.2)] : List Int)), c1.2.2.2.2.1, c1.2.2.2.2.2)⟩]
 else False
 else
 ∀ (r28 : Int), r28 = strings_IndexByte_F ([120, 88, 68, 67, 89, 83, 115, 112, 80, 126, 74, 105, 97, 73, 65, 111, 79, 82, 117, 46, 18] : List Int) r1.1 → (
 wfR (.one (.v (.int .i64) r28)) → (
 bif (decide ((0 : Int) ≤ r28)) then
 K (.one (.v (.int .i64) (1 : Int))) [⟨.st (.pair (.sl (.int .u8)) (.int .i64)), r1.2.2⟩, ⟨.st (.pair (.int .u8) (.pair (.int .i64) (.pair (.str) (.pair (.str) (.pair (.int .u8) (.sl (.int .u8))))))), (c1.1, c1.2.1, c1.2.2.1, ([r1.1] : List Int), c1.2.2.2.2.1, c1.2.2.2.2.2)⟩]
 else
 keys_reader_motion_P r1.2.2 c1 r1.1 ∧ (
 ∀ (r29 : Int × (List Int × Int) × CmT), r29 = keys_reader_motion_F r1.2.2 c1 r1.1 → (
 wfR (.one (.v (.int .i64) r29.1)) → (
 K (.one (.v (.int .i64) r29.1)) [⟨.st (.pair (.sl (.int .u8)) (.int .i64)), r29.2.1⟩, ⟨.st (.pair (.int .u8) (.pair (.int .i64) (.pair (.str) (.pair (.str) (.pair (.int .u8) (.sl (.int .u8))))))), r29.2.2⟩])))))
 else
 bif (decide ((rd (0 : Int) r1.2.2.1 r1.2.2.2) = (43 : Int))) then
 bif decide (List.length ([103] : List Int) + List.length ([(rd (0 : Int) r1.2.2.1 r1.2.2.2)] : List Int) ≤ lim) then
 K (.one (.v (.int .i64) (1 : Int))) [⟨.st (.pair (.sl (.int .u8)) (.int .i64)), (r1.2.2.1, (IntKind.wrap .i64 (r1.2.2.2 + (1 : Int))))⟩, ⟨.st (.pair (.int .u8) (.pair (.int .i64) (.pair (.str) (.pair (.str) (.pair (.int .u8) (.sl (.int .u8))))))), (c1.1, c1.2.1, c1.2.2.1, (([103] : List Int) ++ ([(rd (0 : Int) r1.2.2.1 r1.2.2.2)] : List Int)), c1.2.2.2.2.1, c1.2.2.2.2.2)⟩]
 else False
 else
 ∀ (r30 : Int), r30 = strings_IndexByte_F ([120, 88, 68, 67, 89, 83, 115, 112, 80, 126, 74, 105, 97, 73, 65, 111, 79, 82, 117, 46, 18] : List Int) r1.1 → (
 wfR (.one (.v (.int .i64) r30)) → (
 bif (decide ((0 : Int) ≤ r30)) then
 K (.one (.v (.int .i64) (1 : Int))) [⟨.st (.pair (.sl (.int .u8)) (.int .i64)), r1.2.2⟩, ⟨.st (.pair (.int .u8) (.pair (.int .i64) (.pair (.str) (.pair (.str) (.pair (.int .u8) (.sl (.int .u8))))))), (c1.1, c1.2.1, c1.2.2.1, ([r1.1] : List Int), c1.2.2.2.2.1, c1.2.2.2.2.2)⟩]
 else
 keys_reader_motion_P r1.2.2 c1 r1.1 ∧ (
 ∀ (r31 : Int × (List Int × Int) × CmT), r31 = keys_reader_motion_F r1.2.2 c1 r1.1 → (
 wfR (.one (.v (.int .i64) r31.1)) → (
 K (.one (.v (.int .i64) r31.1)) [⟨.st (.pair (.sl (.int .u8)) (.int .i64)), r31.2.1⟩, ⟨.st (.pair (.int .u8) (.pair (.int .i64) (.pair (.str) (.pair (.str) (.pair (.int .u8) (.sl (.int .u8))))))), r31.2.2⟩])))))
 else
 bif (decide ((rd (0 : Int) r1.2.2.1 r1.2.2.2) = (85 : Int))) then
 bif decide (List.length ([103] : List Int) + List.length ([(rd (0 : Int) r1.2.2.1 r1.2.2.2)] : List Int) ≤ lim) then
 keys_reader_worked_P (r1.2.2.1, (IntKind.wrap .i64 (r1.2.2.2 + (1 : Int)))) (c1.1, c1.2.1, (([103] : List Int) ++ ([(rd (0 : Int) r1.2.2.1 r1.2.2.2)] : List Int)), c1.2.2.2.1, c1.2.2.2.2.1, c1.2.2.2.2.2) ∧ (
 ∀ (r32 : Int × (List Int × Int) × CmT), r32 = keys_reader_worked_F (r1.2.2.1, (IntKind.wrap .i64 (r1.2.2.2 + (1 : Int)))) (c1.1, c1.2.1, (([103] : List Int) ++ ([(rd (0 : Int) r1.2.2.1 r1.2.2.2)] : List Int)), c1.2.2.2.1, c1.2.2.2.2.1, c1.2.2.2.2.2) → (
 wfR (.one (.v (.int .i64) r32.1)) → (
 K (.one (.v (.int .i64) r32.1)) [⟨.st (.pair (.sl (.int .u8)) (.int .i64)), r32.2.1⟩, ⟨.st (.pair (.int .u8) (.pair (.int .i64) (.pair (.str) (.pair (.str) (.pair (.int .u8) (.sl (.int .u8))))))), r32.2.2⟩])))
 else False
 else
 bif (decide ((rd (0 : Int) r1.2.2.1 r1.2.2.2) = (45 : Int))) then
 bif (decide ((rd (0 : Int) r1.2.2.1 r1.2.2.2) = (45 : Int))) then
 bif decide (List.length ([103] : List Int) + List.length ([(rd (0 : Int) r1.2.2.1 r1.2.2.2)] : List Int) ≤ lim) then
 K (.one (.v (.int .i64) (1 : Int))) [⟨.st (.pair (.sl (.int .u8)) (.int .i64)), (r1.2.2.1, (IntKind.wrap .i64 (r1.2.2.2 + (1 : Int))))⟩, ⟨.st (.pair (.int .u8) (.pair (.int .i64) (.pair (.str) (.pair (.str) (.pair (.int .u8) (.sl (.int .u8))))))), (c1.1, c1.2.1, c1.2.2.1, (([103] : List Int) ++ ([(rd (0 : Int) r1.2.2.1 r1.2.2.2)] : List Int)), c1.2.2.2.2.1, c1.2.2.2.2.2)⟩]
 else False
 else
 ∀ (r33 : Int), r33 = strings_IndexByte_F ([120, 88, 68, 67, 89, 83, 115, 112, 80, 126, 74, 105, 97, 73, 65, 111, 79, 82, 117, 46, 18] : List Int) r1.1 → (
 wfR (.one (.v (.int .i64) r33)) → (
 bif (decide ((0 : Int) ≤ r33)) then
 K (.one (.v (.int .i64) (1 : Int))) [⟨.st (.pair (.sl (.int .u8)) (.int .i64)), r1.2.2⟩, ⟨.st (.pair (.int .u8) (.pair (.int .i64) (.pair (.str) (.pair (.str) (.pair (.int .u8) (.sl (.int .u8))))))), (c1.1, c1.2.1, c1.2.2.1, ([r1.1] : List Int), c1.2.2.2.2.1, c1.2.2.2.2.2)⟩]
 else
 keys_reader_motion_P r1.2.2 c1 r1.1 ∧ (
 ∀ (r34 : Int × (List Int × Int) × CmT), r34 = keys_reader_motion_F r1.2.2 c1 r1.1 → (
 wfR (.one (.v (.int .i64) r34.1)) → (
 K (.one (.v (.int .i64) r34.1)) [⟨.st (.pair (.sl (.int .u8)) (.int .i64)), r34.2.1⟩, ⟨.st (.pair (.int .u8) (.pair (.int .i64) (.pair (.str) (.pair (.str) (.pair (.int .u8) (.sl (.int .u8))))))), r34.2.2⟩])))))
 else
 bif (decide ((rd (0 : Int) r1.2.2.1 r1.2.2.2) = (43 : Int))) then
 bif decide (List.length ([103] : List Int) + List.length ([(rd (0 : Int) r1.2.2.1 r1.2.2.2)] : List Int) ≤ lim) then
 K (.one (.v (.int .i64) (1 : Int))) [⟨.st (.pair (.sl (.int .u8)) (.int .i64)), (r1.2.2.1, (IntKind.wrap .i64 (r1.2.2.2 + (1 : Int))))⟩, ⟨.st (.pair (.int .u8) (.pair (.int .i64) (.pair (.str) (.pair (.str) (.pair (.int .u8) (.sl (.int .u8))))))), (c1.1, c1.2.1, c1.2.2.1, (([103] : List Int) ++ ([(rd (0 : Int) r1.2.2.1 r1.2.2.2)] : List Int)), c1.2.2.2.2.1, c1.2.2.2.2.2)⟩]
 else False
 else
 ∀ (r35 : Int), r35 = strings_IndexByte_F ([120, 88, 68, 67, 89, 83, 115, 112, 80, 126, 74, 105, 97, 73, 65, 111, 79, 82, 117, 46, 18] : List Int) r1.1 → (
 wfR (.one (.v (.int .i64) r35)) → (
 bif (decide ((0 : Int) ≤ r35)) then
 K (.one (.v (.int .i64) (1 : Int))) [⟨.st (.pair (.sl (.int .u8)) (.int .i64)), r1.2.2⟩, ⟨.st (.pair (.int .u8) (.pair (.int .i64) (.pair (.str) (.pair (.str) (.pair (.int .u8) (.sl (.int .u8))))))), (c1.1, c1.2.1, c1.2.2.1, ([r1.1] : List Int), c1.2.2.2.2.1, c1.2.2.2.2.2)⟩]
 else
 keys_reader_motion_P r1.2.2 c1 r1.1 ∧ (
 ∀ (r36 : Int × (List Int × Int) × CmT), r36 = keys_reader_motion_F r1.2.2 c1 r1.1 → (
 wfR (.one (.v (.int .i64) r36.1)) → (
 K (.one (.v (.int .i64) r36.1)) [⟨.st (.pair (.sl (.int .u8)) (.int .i64)), r36.2.1⟩, ⟨.st (.pair (.int .u8) (.pair (.int .i64) (.pair (.str) (.pair (.str) (.pair (.int .u8) (.sl (.int .u8))))))), r36.2.2⟩])))))
 else False
 else
 ∀ (r37 : Int), r37 = strings_IndexByte_F ([120, 88, 68, 67, 89, 83, 115, 112, 80, 126, 74, 105, 97, 73, 65, 111, 79, 82, 117, 46, 18] : List Int) r1.1 → (
 wfR (.one (.v (.int .i64) r37)) → (
 bif (decide ((0 : Int) ≤ r37)) then
 K (.one (.v (.int .i64) (1 : Int))) [⟨.st (.pair (.sl (.int .u8)) (.int .i64)), r1.2.2⟩, ⟨.st (.pair (.int .u8) (.pair (.int .i64) (.pair (.str) (.pair (.str) (.pair (.int .u8) (.sl (.int .u8))))))), (c1.1, c1.2.1, c1.2.2.1, ([r1.1] : List Int), c1.2.2.2.2.1, c1.2.2.2.2.2)⟩]
 else
 keys_reader_motion_P r1.2.2 c1 r1.1 ∧ (
 ∀ (r38 : Int × (List Int × Int) × CmT), r38 = keys_reader_motion_F r1.2.2 c1 r1.1 → (
 wfR (.one (.v (.int .i64) r38.1)) → (
 K (.one (.v (.int .i64) r38.1)) [⟨.st (.pair (.sl (.int .u8)) (.int .i64)), r38.2.1⟩, ⟨.st (.pair (.int .u8) (.pair (.int .i64) (.pair (.str) (.pair (.str) (.pair (.int .u8) (.sl (.int .u8))))))), r38.2.2⟩])))))
 else
 bif (decide (r1.1 = (99 : Int))) then
 bif (decide (r1.1 = (99 : Int))) then
 keys_reader_worked_P r1.2.2 (c1.1, c1.2.1, ([r1.1] : List Int), c1.2.2.2.1, c1.2.2.2.2.1, c1.2.2.2.2.2) ∧ (
 ∀ (r39 : Int × (List Int × Int) × CmT), r39 = keys_reader_worked_F r1.2.2 (c1.1, c1.2.1, ([r1.1] : List Int), c1.2.2.2.1, c1.2.2.2.2.1, c1.2.2.2.2.2) → (
 wfR (.one (.v (.int .i64) r39.1)) → (
 K (.one (.v (.int .i64) r39.1)) [⟨.st (.pair (.sl (.int .u8)) (.int .i64)), r39.2.1⟩, ⟨.st (.pair (.int .u8) (.pair (.int .i64) (.pair (.str) (.pair (.str) (.pair (.int .u8) (.sl (.int .u8))))))), r39.2.2⟩])))
 else
 bif (decide (r1.1 = (58 : Int))) then
 K (.one (.v (.int .i64) (3 : Int))) [⟨.st (.pair (.sl (.int .u8)) (.int .i64)), r1.2.2⟩, ⟨.st (.pair (.int .u8) (.pair (.int .i64) (.pair (.str) (.pair (.str) (.pair (.int .u8) (.sl (.int .u8))))))), (c1.1, c1.2.1, c1.2.2.1, ([58] : List Int), c1.2.2.2.2.1, c1.2.2.2.2.2)⟩]
 else
 bif (decide (r1.1 = (114 : Int))) then
 bif (decide (r1.1 = (114 : Int))) then
 keys_reader_argument_P r1.2.2 (c1.1, c1.2.1, c1.2.2.1, ([r1.1] : List Int), c1.2.2.2.2.1, c1.2.2.2.2.2) ∧ (
 ∀ (r40 : Int × (List Int × Int) × CmT), r40 = keys_reader_argument_F r1.2.2 (c1.1, c1.2.1, c1.2.2.1, ([r1.1] : List Int), c1.2.2.2.2.1, c1.2.2.2.2.2) → (
 wfR (.one (.v (.int .i64) r40.1)) → (
 K (.one (.v (.int .i64) r40.1)) [⟨.st (.pair (.sl (.int .u8)) (.int .i64)), r40.2.1⟩, ⟨.st (.pair (.int .u8) (.pair (.int .i64) (.pair (.str) (.pair (.str) (.pair (.int .u8) (.sl (.int .u8))))))), r40.2.2⟩])))
 else
 bif (decide (r1.1 = (103 : Int))) then
 bif (decide (r1.2.2.2 = (List.length r1.2.2.1 : Int))) then
 K (.one (.v (.int .i64) (0 : Int))) [⟨.st (.pair (.sl (.int .u8)) (.int .i64)), r1.2.2⟩, ⟨.st (.pair (.int .u8) (.pair (.int .i64) (.pair (.str) (.pair (.str) (.pair (.int .u8) (.sl (.int .u8))))))), c1⟩]
 else
 bif decide (0 ≤ r1.2.2.2 ∧ r1.2.2.2 < (List.length r1.2.2.1 : Int)) then
 bif (decide ((rd (0 : Int) r1.2.2.1 r1.2.2.2) = (126 : Int))) then
 bif (decide ((rd (0 : Int) r1.2.2.1 r1.2.2.2) = (126 : Int))) then
 bif decide (List.length ([103] : List Int) + List.length ([(rd (0 : Int) r1.2.2.1 r1.2.2.2)] : List Int) ≤ lim) then
 keys_reader_worked_P (r1.2.2.1, (IntKind.wrap .i64 (r1.2.2.2 + (1 : Int)))) (c1.1, c1.2.1, (([103] : List Int) ++ ([(rd (0 : Int) r1.2.2.1 r1.2.2.2)] : List Int)), c1.2.2.2.1, c1.2.2.2.2.1, c1.2.2.2.2.2) ∧ (
 ∀ (r41 : Int × (List Int × Int) × CmT), r41 = keys_reader_worked_F (r1.2.2.1, (IntKind.wrap .i64 (r1.2.2.2 + (1 : Int)))) (c1.1, c1.2.1, (([103] : List Int) ++ ([(rd (0 : Int) r1.2.2.1 r1.2.2.2)] : List Int)), c1.2.2.2.1, c1.2.2.2.2.1, c1.2.2.2.2.2) → (
 wfR (.one (.v (.int .i64) r41.1)) → (
 K (.one (.v (.int .i64) r41.1)) [⟨.st (.pair (.sl (.int .u8)) (.int .i64)), r41.2.1⟩, ⟨.st (.pair (.int .u8) (.pair (.int .i64) (.pair (.str) (.pair (.str) (.pair (.int .u8) (.sl (.int .u8))))))), r41.2.2⟩])))
 else False
 else
 bif (decide ((rd (0 : Int) r1.2.2.1 r1.2.2.2) = (45 : Int))) then
 bif (decide ((rd (0 : Int) r1.2.2.1 r1.2.2.2) = (45 : Int))) then
 bif decide (List.length ([103] : List Int) + List.length ([(rd (0 : Int) r1.2.2.1 r1.2.2.2)] : List Int) ≤ lim) then
 K (.one (.v (.int .i64) (1 : Int))) [⟨.st (.pair (.sl (.int .u8)) (.int .i64)), (r1.2.2.1, (IntKind.wrap .i64 (r1.2.2.2 + (1 : Int))))⟩, ⟨.st (.pair (.int .u8) (.pair (.int .i64) (.pair (.str) (.pair (.str) (.pair (.int .u8) (.sl (.int .u8))))))), (c1.1, c1.2.1, c1.2.2.1, (([103] : List Int) ++ ([(rd (0 : Int) r1.2.2.1 r1.2.2.2)] : List Int)), c1.2.2.2.2.1, c1.2.2.2.2.2)⟩]
 else False
 else
 ∀ (r42 : Int), r42 = strings_IndexByte_F ([120, 88, 68, 67, 89, 83, 115, 112, 80, 126, 74, 105, 97, 73, 65, 111, 79, 82, 117, 46, 18] : List Int) r1.1 → (
 wfR (.one (.v (.int .i64) r42)) → (
 bif (decide ((0 : Int) ≤ r42)) then
 K (.one (.v (.int .i64) (1 : Int))) [⟨.st (.pair (.sl (.int .u8)) (.int .i64)), r1.2.2⟩, ⟨.st (.pair (.int .u8) (.pair (.int .i64) (.pair (.str) (.pair (.str) (.pair (.int .u8) (.sl (.int .u8))))))), (c1.1, c1.2.1, c1.2.2.1, ([r1.1] : List Int), c1.2.2.2.2.1, c1.2.2.2.2.2)⟩]
 else
 keys_reader_motion_P r1.2.2 c1 r1.1 ∧ (
 ∀ (r43 : Int × (List Int × Int) × CmT), r43 = keys_reader_motion_F r1.2.2 c1 r1.1 → (
 wfR (.one (.v (.int .i64) r43.1)) → (
 K (.one (.v (.int .i64) r43.1)) [⟨.st (.pair (.sl (.int .u8)) (.int .i64)), r43.2.1⟩, ⟨.st (.pair (.int .u8) (.pair (.int .i64) (.pair (.str) (.pair (.str) (.pair (.int .u8) (.sl (.int .u8))))))), r43.2.2⟩])))))
 else
 bif (decide ((rd (0 : Int) r1.2.2.1 r1.2.2.2) = (43 : Int))) then
 bif decide (List.length ([103] : List Int) + List.length ([(rd (0 : Int) r1.2.2.1 r1.2.2.2)] : List Int) ≤ lim) then
 K (.one (.v (.int .i64) (1 : Int))) [⟨.st (.pair (.sl (.int .u8)) (.int .i64)), (r1.2.2.1, (IntKind.wrap .i64 (r1.2.2.2 + (1 : Int))))⟩, ⟨.st (.pair (.int .u8) (.pair (.int .i64) (.pair (.str) (.pair (.str) (.pair (.int .u8) (.sl (.int .u8))))))), (c1.1, c1.2.1, c1.2.2.1, (([103] : List Int) ++ ([(rd (0 : Int) r1.2.2.1 r1.2.2.2)] : List Int)), c1.2.2.2.2.1, c1.2.2.2.2.2)⟩]
 else False
 else
 ∀ (r44 : Int), r44 = strings_IndexByte_F ([120, 88, 68, 67, 89, 83, 115, 112, 80, 126, 74, 105, 97, 73, 65, 111, 79, 82, 117, 46, 18] : List Int) r1.1 → (
 wfR (.one (.v (.int .i64) r44)) → (
 bif (decide ((0 : Int) ≤ r44)) then
 K (.one (.v (.int .i64) (1 : Int))) [⟨.st (.pair (.sl (.int .u8)) (.int .i64)), r1.2.2⟩, ⟨.st (.pair (.int .u8) (.pair (.int .i64) (.pair (.str) (.pair (.str) (.pair (.int .u8) (.sl (.int .u8))))))), (c1.1, c1.2.1, c1.2.2.1, ([r1.1] : List Int), c1.2.2.2.2.1, c1.2.2.2.2.2)⟩]
 else
 keys_reader_motion_P r1.2.2 c1 r1.1 ∧ (
 ∀ (r45 : Int × (List Int × Int) × CmT), r45 = keys_reader_motion_F r1.2.2 c1 r1.1 → (
 wfR (.one (.v (.int .i64) r45.1)) → (
 K (.one (.v (.int .i64) r45.1)) [⟨.st (.pair (.sl (.int .u8)) (.int .i64)), r45.2.1⟩, ⟨.st (.pair (.int .u8) (.pair (.int .i64) (.pair (.str) (.pair (.str) (.pair (.int .u8) (.sl (.int .u8))))))), r45.2.2⟩])))))
 else
 bif (decide ((rd (0 : Int) r1.2.2.1 r1.2.2.2) = (117 : Int))) then
 bif (decide ((rd (0 : Int) r1.2.2.1 r1.2.2.2) = (117 : Int))) then
 bif decide (List.length ([103] : List Int) + List.length ([(rd (0 : Int) r1.2.2.1 r1.2.2.2)] : List Int) ≤ lim) then
 keys_reader_worked_P (r1.2.2.1, (IntKind.wrap .i64 (r1.2.2.2 + (1 : Int)))) (c1.1, c1.2.1, (([103] : List Int) ++ ([(rd (0 : Int) r1.2.2.1 r1.2.2.2)] : List Int)), c1.2.2.2.1, c1.2.2.2.2.1, c1.2.2.2.2.2) ∧ (
 ∀ (r46 : Int × (List Int × Int) × CmT), r46 = keys_reader_worked_F (r1.2.2.1, (IntKind.wrap .i64 (r1.2.2.2 + (1 : Int)))) (c1.1, c1.2.1, (([103] : List Int) ++ ([(rd (0 : Int) r1.2.2.1 r1.2.2.2)] : List Int)), c1.2.2.2.1, c1.2.2.2.2.1, c1.2.2.2.2.2) → (
 wfR (.one (.v (.int .i64) r46.1)) → (
 K (.one (.v (.int .i64) r46.1)) [⟨.st (.pair (.sl (.int .u8)) (.int .i64)), r46.2.1⟩, ⟨.st (.pair (.int .u8) (.pair (.int .i64) (.pair (.str) (.pair (.str) (.pair (.int .u8) (.sl (.int .u8))))))), r46.2.2⟩])))
 else False
 else
 bif (decide ((rd (0 : Int) r1.2.2.1 r1.2.2.2) = (45 : Int))) then
 bif (decide ((rd (0 : Int) r1.2.2.1 r1.2.2.2) = (45 : Int))) then
 bif decide (List.length ([103] : List Int) + List.length ([(rd (0 : Int) r1.2.2.1 r1.2.2.2)] : List Int) ≤ lim) then
 K (.one (.v (.int .i64) (1 : Int))) [⟨.st (.pair (.sl (.int .u8)) (.int .i64)), (r1.2.2.1, (IntKind.wrap .i64 (r1.2.2.2 + (1 : Int))))⟩, ⟨.st (.pair (.int .u8) (.pair (.int .i64) (.pair (.str) (.pair (.str) (.pair (.int .u8) (.sl (.int .u8))))))), (c1.1, c1.2.1, c1.2.2.1, (([103] : List Int) ++ ([(rd (0 : Int) r1.2.2.1 r1.2.2.2)] : List Int)), c1.2.2.2.2.1, c1.2.2.2.2.2)⟩]
 else False
 else
 ∀ (r47 : Int), r47 = strings_IndexByte_F ([120, 88, 68, 67, 89, 83, 115, 112, 80, 126, 74, 105, 97, 73, 65, 111, 79, 82, 117, 46, 18] : List Int) r1.1 → (
 wfR (.one (.v (.int .i64) r47)) → (
 bif (decide ((0 : Int) ≤ r47)) then
 K (.one (.v (.int .i64) (1 : Int))) [⟨.st (.pair (.sl (.int .u8)) (.int .i64)), r1.2.2⟩, ⟨.st (.pair (.int .u8) (.pair (.int .i64) (.pair (.str) (.pair (.str) (.pair (.int .u8) (.sl (.int .u8))))))), (c1.1, c1.2.1, c1.2.2.1, ([r1.1] : List Int), c1.2.2.2.2.1, c1.2.2.2.2.2)⟩]
 else
 keys_reader_motion_P r1.2.2 c1 r1.1 ∧ (
 ∀ (r48 : Int × (List Int × Int) × CmT), r48 = keys_reader_motion_F r1.2.2 c1 r1.1 → (
 wfR (.one (.v (.int .i64) r48.1)) → (
 K (.one (.v (.int .i64) r48.1)) [⟨.st (.pair (.sl (.int .u8)) (.int .i64)), r48.2.1⟩, ⟨.st (.pair (.int .u8) (.pair (.int .i64) (.pair (.str) (.pair (.str) (.pair (.int .u8) (.sl (.int .u8))))))), r48.2.2⟩])))))
 else
 bif (decide ((rd (0 : Int) r1.2.2.1 r1.2.2.2) = (43 : Int))) then
 bif decide (List.length ([103] : List Int) + List.length ([(rd (0 : Int) r1.2.2.1 r1.2.2.2)] : List Int) ≤ lim) then
 K (.one (.v (.int .i64) (1 : Int))) [⟨.st (.pair (.sl (.int .u8)) (.int .i64)), (r1.2.2.1, (IntKind.wrap .i64 (r1.2.2.2 + (1 : Int))))⟩, ⟨.st (.pair (.int .u8) (.pair (.int .i64) (.pair (.str) (.pair (.str) (.pair (.int .u8) (.sl (.int .u8))))))), (c1.1, c1.2.1, c1.2.2.1, (([103] : List Int) ++ ([(rd (0 : Int) r1.2.2.1 r1.2.2.2)] : List Int)), c1.2.2.2.2.1, c1.2.2.2.2.2)⟩]
 else False
 else
 ∀ (r49 : Int), r49 = strings_IndexByte_F ([120, 88, 68, 67, 89, 83, 115, 112, 80, 126, 74, 105, 97, 73, 65, 111, 79, 82, 117, 46, 18] : List Int) r1.1 → (
 wfR (.one (.v (.int .i64) r49)) → (
 bif (decide ((0 : Int) ≤ r49)) then
 K (.one (.v (.int .i64) (1 : Int))) [⟨.st (.pair (.sl (.int .u8)) (.int .i64)), r1.2.2⟩, ⟨.st (.pair (.int .u8) (.pair (.int .i64) (.pair (.str) (.pair (.str) (.pair (.int .u8) (.sl (.int .u8))))))), (c1.1, c1.2.1, c1.2.2.1, ([r1.1] : List Int), c1.2.2.2.2.1, c1.2.2.2.2.2)⟩]
 else
 keys_reader_motion_P r1.2.2 c1 r1.1 ∧ (
 ∀ (r50 : Int × (List Int × Int) × CmT), r50 = keys_reader_motion_F r1.2.2 c1 r1.1 → (
 wfR (.one (.v (.int .i64) r50.1)) → (
 K (.one (.v (.int .i64) r50.1)) [⟨.st (.pair (.sl (.int .u8)) (.int .i64)), r50.2.1⟩, ⟨.st (.pair (.int .u8) (.pair (.int .i64) (.pair (.str) (.pair (.str) (.pair (.int .u8) (.sl (.int .u8))))))), r50.2.2⟩])))))
 else
 bif (decide ((rd (0 : Int) r1.2.2.1 r1.2.2.2) = (85 : Int))) then
 bif decide (List.length ([103] : List Int) + List.length ([(rd (0 : Int) r1.2.2.1 r1.2.2.2)] : List Int) ≤ lim) then
 keys_reader_worked_P (r1.2.2.1, (IntKind.wrap .i64 (r1.2.2.2 + (1 : Int)))) (c1.1, c1.2.1, (([103] : List Int) ++ ([(rd (0 : Int) r1.2.2.1 r1.2.2.2)] : List Int)), c1.2.2.2.1, c1.2.2.2.2.1, c1.2.2.2.2.2) ∧ (
 ∀ (r51 : Int × (List Int × Int) × CmT), r51 = keys_reader_worked_F (r1.2.2.1, (IntKind.wrap .i64 (r1.2.2.2 + (1 : Int)))) (c1.1, c1.2.1, (([103] : List Int) ++ ([(rd (0 : Int) r1.2.2.1 r1.2.2.2)] : List Int)), c1.2.2.2.1, c1.2.2.2.2.1, c1.2.2.2.2.2) → (
 wfR (.one (.v (.int .i64) r51.1)) → (
 K (.one (.v (.int .i64) r51.1)) [⟨.st (.pair (.sl (.int .u8)) (.int .i64)), r51.2.1⟩, ⟨.st (.pair (.int .u8) (.pair (.int .i64) (.pair (.str) (.pair (.str) (.pair (.int .u8) (.sl (.int .u8))))))), r51.2.2⟩])))
 else False
 else
 bif (decide ((rd (0 : Int) r1.2.2.1 r1.2.2.2) = (45 : Int))) then
 bif (decide ((rd (0 : Int) r1.2.2.1 r1.2.2.2) = (45 : Int))) then
 bif decide (List.length ([103] : List Int) + List.length ([(rd (0 : Int) r1.2.2.1 r1.2.2.2)] : List Int) ≤ lim) then
 K (.one (.v (.int .i64) (1 : Int))) [⟨.st (.pair (.sl (.int .u8)) (.int .i64)), (r1.2.2.1, (IntKind.wrap .i64 (r1.2.2.2 + (1 : Int))))⟩, ⟨.st (.pair (.int .u8) (.pair (.int .i64) (.pair (.str) (.pair (.str) (.pair (.int .u8) (.sl (.int .u8))))))), (c1.1, c1.2.1, c1.2.2.1, (([103] : List Int) ++ ([(rd (0 : Int) r1.2.2.1 r1.2.2.2)] : List Int)), c1.2.2.2.2.1, c1.2.2.2.2.2)⟩]
 else False
 else
 ∀ (r52 : Int), r52 = strings_IndexByte_F ([120, 88, 68, 67, 89, 83, 115, 112, 80, 126, 74, 105, 97, 73, 65, 111, 79, 82, 117, 46, 18] : List Int) r1.1 → (
 wfR (.one (.v (.int .i64) r52)) → (
 bif (decide ((0 : Int) ≤ r52)) then
 K (.one (.v (.int .i64) (1 : Int))) [⟨.st (.pair (.sl (.int .u8)) (.int .i64)), r1.2.2⟩, ⟨.st (.pair (.int .u8) (.pair (.int .i64) (.pair (.str) (.pair (.str) (.pair (.int .u8) (.sl (.int .u8))))))), (c1.1, c1.2.1, c1.2.2.1, ([r1.1] : List Int), c1.2.2.2.2.1, c1.2.2.2.2.2)⟩]
 else
 keys_reader_motion_P r1.2.2 c1 r1.1 ∧ (
 ∀ (r53 : Int × (List Int × Int) × CmT), r53 = keys_reader_motion_F r1.2.2 c1 r1.1 → (
 wfR (.one (.v (.int .i64) r53.1)) → (
 K (.one (.v (.int .i64) r53.1)) [⟨.st (.pair (.sl (.int .u8)) (.int .i64)), r53.2.1⟩, ⟨.st (.pair (.int .u8) (.pair (.int .i64) (.pair (.str) (.pair (.str) (.pair (.int .u8) (.sl (.int .u8))))))), r53.2.2⟩])))))
 else
 bif (decide ((rd (0 : Int) r1.2.2.1 r1.2.2.2) = (43 : Int))) then
 bif decide (List.length ([103] : List Int) + List.length ([(rd (0 : Int) r1.2.2.1 r1.2.2.2)] : List Int) ≤ lim) then
 K (.one (.v (.int .i64) (1 : Int))) [⟨.st (.pair (.sl (.int .u8)) (.int .i64)), (r1.2.2.1, (IntKind.wrap .i64 (r1.2.2.2 + (1 : Int))))⟩, ⟨.st (.pair (.int .u8) (.pair (.int .i64) (.pair (.str) (.pair (.str) (.pair (.int .u8) (.sl (.int .u8))))))), (c1.1, c1.2.1, c1.2.2.1, (([103] : List Int) ++ ([(rd (0 : Int) r1.2.2.1 r1.2.2.2)] : List Int)), c1.2.2.2.2.1, c1.2.2.2.2.2)⟩]
 else False
 else
 ∀ (r54 : Int), r54 = strings_IndexByte_F ([120, 88, 68, 67, 89, 83, 115, 112, 80, 126, 74, 105, 97, 73, 65, 111, 79, 82, 117, 46, 18] : List Int) r1.1 → (
 wfR (.one (.v (.int .i64) r54)) → (
 bif (decide ((0 : Int) ≤ r54)) then
 K (.one (.v (.int .i64) (1 : Int))) [⟨.st (.pair (.sl (.int .u8)) (.int .i64)), r1.2.2⟩, ⟨.st (.pair (.int .u8) (.pair (.int .i64) (.pair (.str) (.pair (.str) (.pair (.int .u8) (.sl (.int .u8))))))), (c1.1, c1.2.1, c1.2.2.1, ([r1.1] : List Int), c1.2.2.2.2.1, c1.2.2.2.2.2)⟩]
 else
 keys_reader_motion_P r1.2.2 c1 r1.1 ∧ (
 ∀ (r55 : Int × (List Int × Int) × CmT), r55 = keys_reader_motion_F r1.2.2 c1 r1.1 → (
 wfR (.one (.v (.int .i64) r55.1)) → (
 K (.one (.v (.int .i64) r55.1)) [⟨.st (.pair (.sl (.int .u8)) (.int .i64)), r55.2.1⟩, ⟨.st (.pair (.int .u8) (.pair (.int .i64) (.pair (.str) (.pair (.str) (.pair (.int .u8) (.sl (.int .u8))))))), r55.2.2⟩])))))
 else False
 else
 ∀ (r56 : Int), r56 = strings_IndexByte_F ([120, 88, 68, 67, 89, 83, 115, 112, 80, 126, 74, 105, 97, 73, 65, 111, 79, 82, 117, 46, 18] : List Int) r1.1 → (
 wfR (.one (.v (.int .i64) r56)) → (
 bif (decide ((0 : Int) ≤ r56)) then
 K (.one (.v (.int .i64) (1 : Int))) [⟨.st (.pair (.sl (.int .u8)) (.int .i64)), r1.2.2⟩, ⟨.st (.pair (.int .u8) (.pair (.int .i64) (.pair (.str) (.pair (.str) (.pair (.int .u8) (.sl (.int .u8))))))), (c1.1, c1.2.1, c1.2.2.1, ([r1.1] : List Int), c1.2.2.2.2.1, c1.2.2.2.2.2)⟩]
 else
 keys_reader_motion_P r1.2.2 c1 r1.1 ∧ (
 ∀ (r57 : Int × (List Int × Int) × CmT), r57 = keys_reader_motion_F r1.2.2 c1 r1.1 → (
 wfR (.one (.v (.int .i64) r57.1)) → (
 K (.one (.v (.int .i64) r57.1)) [⟨.st (.pair (.sl (.int .u8)) (.int .i64)), r57.2.1⟩, ⟨.st (.pair (.int .u8) (.pair (.int .i64) (.pair (.str) (.pair (.str) (.pair (.int .u8) (.sl (.int .u8))))))), r57.2.2⟩])))))
 else
 bif (decide (r1.1 = (109 : Int))) then
 keys_reader_argument_P r1.2.2 (c1.1, c1.2.1, c1.2.2.1, ([r1.1] : List Int), c1.2.2.2.2.1, c1.2.2.2.2.2) ∧ (
 ∀ (r58 : Int × (List Int × Int) × CmT), r58 = keys_reader_argument_F r1.2.2 (c1.1, c1.2.1, c1.2.2.1, ([r1.1] : List Int), c1.2.2.2.2.1, c1.2.2.2.2.2) → (
 wfR (.one (.v (.int .i64) r58.1)) → (
 K (.one (.v (.int .i64) r58.1)) [⟨.st (.pair (.sl (.int .u8)) (.int .i64)), r58.2.1⟩, ⟨.st (.pair (.int .u8) (.pair (.int .i64) (.pair (.str) (.pair (.str) (.pair (.int .u8) (.sl (.int .u8))))))), r58.2.2⟩])))
 else
 bif (decide (r1.1 = (103 : Int))) then
 bif (decide (r1.2.2.2 = (List.length r1.2.2.1 : Int))) then
 K (.one (.v (.int .i64) (0 : Int))) [⟨.st (.pair (.sl (.int .u8)) (.int .i64)), r1.2.2⟩, ⟨.st (.pair (.int .u8) (.pair (.int .i64) (.pair (.str) (.pair (.str) (.pair (.int .u8) (.sl (.int .u8))))))), c1⟩]
 else
 bif decide (0 ≤ r1.2.2.2 ∧ r1.2.2.2 < (List.length r1.2.2.1 : Int)) then
 bif (decide ((rd (0 : Int) r1.2.2.1 r1.2.2.2) = (126 : Int))) then
 bif (decide ((rd (0 : Int) r1.2.2.1 r1.2.2.2) = (126 : Int))) then
 bif decide (List.length ([103] : List Int) + List.length ([(rd (0 : Int) r1.2.2.1 r1.2.2.2)] : List Int) ≤ lim) then
 keys_reader_worked_P (r1.2.2.1, (IntKind.wrap .i64 (r1.2.2.2 + (1 : Int)))) (c1.1, c1.2.1, (([103] : List Int) ++ ([(rd (0 : Int) r1.2.2.1 r1.2.2.2)] : List Int)), c1.2.2.2.1, c1.2.2.2.2.1, c1.2.2.2.2.2) ∧ (
 ∀ (r59 : Int × (List Int × Int) × CmT), r59 = keys_reader_worked_F (r1.2.2.1, (IntKind.wrap .i64 (r1.2.2.2 + (1 : Int)))) (c1.1, c1.2.1, (([103] : List Int) ++ ([(rd (0 : Int) r1.2.2.1 r1.2.2.2)] : List Int)), c1.2.2.2.1, c1.2.2.2.2.1, c1.2.2.2.2.2) → (
 wfR (.one (.v (.int .i64) r59.1)) → (
 K (.one (.v (.int .i64) r59.1)) [⟨.st (.pair (.sl (.int .u8)) (.int .i64)), r59.2.1⟩, ⟨.st (.pair (.int .u8) (.pair (.int .i64) (.pair (.str) (.pair (.str) (.pair (.int .u8) (.sl (.int .u8))))))), r59.2.2⟩])))
 else False
 else
 bif (decide ((rd (0 : Int) r1.2.2.1 r1.2.2.2) = (45 : Int))) then
 bif (decide ((rd (0 : Int) r1.2.2.1 r1.2.2.2) = (45 : Int))) then
 bif decide (List.length ([103] : List Int) + List.length ([(rd (0 : Int) r1.2.2.1 r1.2.2.2)] : List Int) ≤ lim) then
 K (.one (.v (.int .i64) (1 : Int))) [⟨.st (.pair (.sl (.int .u8)) (.int .i64)), (r1.2.2.1, (IntKind.wrap .i64 (r1.2.2.2 + (1 : Int))))⟩, ⟨.st (.pair (.int .u8) (.pair (.int .i64) (.pair (.str) (.pair (.str) (.pair (.int .u8) (.sl (.int .u8))))))), (c1.1, c1.2.1, c1.2.2.1, (([103] : List Int) ++ ([(rd (0 : Int) r1.2.2.1 r1.2.2.2)] : List Int)), c1.2.2.2.2.1, c1.2.2.2.2.2)⟩]
 else False
 else
 ∀ (r60 : Int), r60 = strings_IndexByte_F ([120, 88, 68, 67, 89, 83, 115, 112, 80, 126, 74, 105, 97, 73, 65, 111, 79, 82, 117, 46, 18] : List Int) r1.1 → (
 wfR (.one (.v (.int .i64) r60)) → (
 bif (decide ((0 : Int) ≤ r60)) then
 K (.one (.v (.int .i64) (1 : Int))) [⟨.st (.pair (.sl (.int .u8)) (.int .i64)), r1.2.2⟩, ⟨.st (.pair (.int .u8) (.pair (.int .i64) (.pair (.str) (.pair (.str) (.pair (.int .u8) (.sl (.int .u8))))))), (c1.1, c1.2.1, c1.2.2.1, ([r1.1] : List Int), c1.2.2.2.2.1, c1.2.2.2.2.2)⟩]
 else
 keys_reader_motion_P r1.2.2 c1 r1.1 ∧ (
 ∀ (r61 : Int × (List Int × Int) × CmT), r61 = keys_reader_motion_F r1.2.2 c1 r1.1 → (
 wfR (.one (.v (.int .i64) r61.1)) → (
 K (.one (.v (.int .i64) r61.1)) [⟨.st (.pair (.sl (.int .u8)) (.int .i64)), r61.2.1⟩, ⟨.st (.pair (.int .u8) (.pair (.int .i64) (.pair (.str) (.pair (.str) (.pair (.int .u8) (.sl (.int .u8))))))), r61.2.2⟩])))))
 else
 bif (decide ((rd (0 : Int) r1.2.2.1 r1.2.2.2) = (43 : Int))) then
 bif decide (List.length ([103] : List Int) + List.length ([(rd (0 : Int) r1.2.2.1 r1.2.2.2)] : List Int) ≤ lim) then
 K (.one (.v (.int .i64) (1 : Int))) [⟨.st (.pair (.sl (.int .u8)) (.int .i64)), (r1.2.2.1, (IntKind.wrap .i64 (r1.2.2.2 + (1 : Int))))⟩, ⟨.st (.pair (.int .u8) (.pair (.int .i64) (.pair (.str) (.pair (.str) (.pair (.int .u8) (.sl (.int .u8))))))), (c1.1, c1.2.1, c1.2.2.1, (([103] : List Int) ++ ([(rd (0 : Int) r1.2.2.1 r1.2.2.2)] : List Int)), c1.2.2.2.2.1, c1.2.2.2.2.2)⟩]
 else False
 else
 ∀ (r62 : Int), r62 = strings_IndexByte_F ([120, 88, 68, 67, 89, 83, 115, 112, 80, 126, 74, 105, 97, 73, 65, 111, 79, 82, 117, 46, 18] : List Int) r1.1 → (
 wfR (.one (.v (.int .i64) r62)) → (
 bif (decide ((0 : Int) ≤ r62)) then
 K (.one (.v (.int .i64) (1 : Int))) [⟨.st (.pair (.sl (.int .u8)) (.int .i64)), r1.2.2⟩, ⟨.st (.pair (.int .u8) (.pair (.int .i64) (.pair (.str) (.pair (.str) (.pair (.int .u8) (.sl (.int .u8))))))), (c1.1, c1.2.1, c1.2.2.1, ([r1.1] : List Int), c1.2.2.2.2.1, c1.2.2.2.2.2)⟩]
 else
 keys_reader_motion_P r1.2.2 c1 r1.1 ∧ (
 ∀ (r63 : Int × (List Int × Int) × CmT), r63 = keys_reader_motion_F r1.2.2 c1 r1.1 → (
 wfR (.one (.v (.int .i64) r63.1)) → (
 K (.one (.v (.int .i64) r63.1)) [⟨.st (.pair (.sl (.int .u8)) (.int .i64)), r63.2.1⟩, ⟨.st (.pair (.int .u8) (.pair (.int .i64) (.pair (.str) (.pair (.str) (.pair (.int .u8) (.sl (.int .u8))))))), r63.2.2⟩])))))
 else
 bif (decide ((rd (0 : Int) r1.2.2.1 r1.2.2.2) = (117 : Int))) then
 bif (decide ((rd (0 : Int) r1.2.2.1 r1.2.2.2) = (117 : Int))) then
 bif decide (List.length ([103] : List Int) + List.length ([(rd (0 : Int) r1.2.2.1 r1.2.2.2)] : List Int) ≤ lim) then
 keys_reader_worked_P (r1.2.2.1, (IntKind.wrap .i64 (r1.2.2.2 + (1 : Int)))) (c1.1, c1.2.1, (([103] : List Int) ++ ([(rd (0 : Int) r1.2.2.1 r1.2.2.2)] : List Int)), c1.2.2.2.1, c1.2.2.2.2.1, c1.2.2.2.2.2) ∧ (
 ∀ (r64 : Int × (List Int × Int) × CmT), r64 = keys_reader_worked_F (r1.2.2.1, (IntKind.wrap .i64 (r1.2.2.2 + (1 : Int)))) (c1.1, c1.2.1, (([103] : List Int) ++ ([(rd (0 : Int) r1.2.2.1 r1.2.2.2)] : List Int)), c1.2.2.2.1, c1.2.2.2.2.1, c1.2.2.2.2.2) → (
 wfR (.one (.v (.int .i64) r64.1)) → (
 K (.one (.v (.int .i64) r64.1)) [⟨.st (.pair (.sl (.int .u8)) (.int .i64)), r64.2.1⟩, ⟨.st (.pair (.int .u8) (.pair (.int .i64) (.pair (.str) (.pair (.str) (.pair (.int .u8) (.sl (.int .u8))))))), r64.2.2⟩])))
 else False
 else
 bif (decide ((rd (0 : Int) r1.2.2.1 r1.2.2.2) = (45 : Int))) then
 bif (decide ((rd (0 : Int) r1.2.2.1 r1.2.2.2) = (45 : Int))) then
 bif decide (List.length ([103] : List Int) + List.length ([(rd (0 : Int) r1.2.2.1 r1.2.2.2)] : List Int) ≤ lim) then
 K (.one (.v (.int .i64) (1 : Int))) [⟨.st (.pair (.sl (.int .u8)) (.int .i64)), (r1.2.2.1, (IntKind.wrap .i64 (r1.2.2.2 + (1 : Int))))⟩, ⟨.st (.pair (.int .u8) (.pair (.int .i64) (.pair (.str) (.pair (.str) (.pair (.int .u8) (.sl (.int .u8))))))), (c1.1, c1.2.1, c1.2.2.1, (([103] : List Int) ++ ([(rd (0 : Int) r1.2.2.1 r1.2.2.2)] : List Int)), c1.2.2.2.2.1, c1.2.2.2.2.2)⟩]
 else False
 else
 ∀ (r65 : Int), r65 = strings_IndexByte_F ([120, 88, 68, 67, 89, 83, 115, 112, 80, 126, 74, 105, 97, 73, 65, 111, 79, 82, 117, 46, 18] : List Int) r1.1 → (
 wfR (.one (.v (.int .i64) r65)) → (
 bif (decide ((0 : Int) ≤ r65)) then
 K (.one (.v (.int .i64) (1 : Int))) [⟨.st (.pair (.sl (.int .u8)) (.int .i64)), r1.2.2⟩, ⟨.st (.pair (.int .u8) (.pair (.int .i64) (.pair (.str) (.pair (.str) (.pair (.int .u8) (.sl (.int .u8))))))), (c1.1, c1.2.1, c1.2.2.1, ([r1.1] : List Int), c1.2.2.2.2.1, c1.2.2.2.2.2)⟩]
 else
 keys_reader_motion_P r1.2.2 c1 r1.1 ∧ (
 ∀ (r66 : Int × (List Int × Int) × CmT), r66 = keys_reader_motion_F r1.2.2 c1 r1.1 → (
 wfR (.one (.v (.int .i64) r66.1)) → (
 K (.one (.v (.int .i64) r66.1)) [⟨.st (.pair (.sl (.int .u8)) (.int .i64)), r66.2.1⟩, ⟨.st (.pair (.int .u8) (.pair (.int .i64) (.pair (.str) (.pair (.str) (.pair (.int .u8) (.sl (.int .u8))))))), r66.2.2⟩])))))
 else
 bif (decide ((rd (0 : Int) r1.2.2.1 r1.2.2.2) = (43 : Int))) then
 bif decide (List.length ([103] : List Int) + List.length ([(rd (0 : Int) r1.2.2.1 r1.2.2.2)] : List Int) ≤ lim) then
 K (.one (.v (.int .i64) (1 : Int))) [⟨.st (.pair (.sl (.int .u8)) (.int .i64)), (r1.2.2.1, (IntKind.wrap .i64 (r1.2.2.2 + (1 : Int))))⟩, ⟨.st (.pair (.int .u8) (.pair (.int .i64) (.pair (.str) (.pair (.str) (.pair (.int .u8) (.sl (.int .u8))))))), (c1.1, c1.2.1, c1.2.2.1, (([103] : List Int) ++ ([(rd (0 : Int) r1.2.2.1 r1.2.2.2)] : List Int)), c1.2.2.2.2.1, c1.2.2.2.2.2)⟩]
 else False
 else
 ∀ (r67 : Int), r67 = strings_IndexByte_F ([120, 88, 68, 67, 89, 83, 115, 112, 80, 126, 74, 105, 97, 73, 65, 111, 79, 82, 117, 46, 18] : List Int) r1.1 → (
 wfR (.one (.v (.int .i64) r67)) → (
 bif (decide ((0 : Int) ≤ r67)) then
 K (.one (.v (.int .i64) (1 : Int))) [⟨.st (.pair (.sl (.int .u8)) (.int .i64)), r1.2.2⟩, ⟨.st (.pair (.int .u8) (.pair (.int .i64) (.pair (.str) (.pair (.str) (.pair (.int .u8) (.sl (.int .u8))))))), (c1.1, c1.2.1, c1.2.2.1, ([r1.1] : List Int), c1.2.2.2.2.1, c1.2.2.2.2.2)⟩]
 else
 keys_reader_motion_P r1.2.2 c1 r1.1 ∧ (
 ∀ (r68 : Int × (List Int × Int) × CmT), r68 = keys_reader_motion_F r1.2.2 c1 r1.1 → (
 wfR (.one (.v (.int .i64) r68.1)) → (
 K (.one (.v (.int .i64) r68.1)) [⟨.st (.pair (.sl (.int .u8)) (.int .i64)), r68.2.1⟩, ⟨.st (.pair (.int .u8) (.pair (.int .i64) (.pair (.str) (.pair (.str) (.pair (.int .u8) (.sl (.int .u8))))))), r68.2.2⟩])))))
 else
 bif (decide ((rd (0 : Int) r1.2.2.1 r1.2.2.2) = (85 : Int))) then
 bif decide (List.length ([103] : List Int) + List.length ([(rd (0 : Int) r1.2.2.1 r1.2.2.2)] : List Int) ≤ lim) then
 keys_reader_worked_P (r1.2.2.1, (IntKind.wrap .i64 (r1.2.2.2 + (1 : Int)))) (c1.1, c1.2.1, (([103] : List Int) ++ ([(rd (0 : Int) r1.2.2.1 r1.2.2.2)] : List Int)), c1.2.2.2.1, c1.2.2.2.2.1, c1.2.2.2.2.2) ∧ (
 ∀ (r69 : Int × (List Int × Int) × CmT), r69 = keys_reader_worked_F (r1.2.2.1, (IntKind.wrap .i64 (r1.2.2.2 + (1 : Int)))) (c1.1, c1.2.1, (([103] : List Int) ++ ([(rd (0 : Int) r1.2.2.1 r1.2.2.2)] : List Int)), c1.2.2.2.1, c1.2.2.2.2.1, c1.2.2.2.2.2) → (
 wfR (.one (.v (.int .i64) r69.1)) → (
 K (.one (.v (.int .i64) r69.1)) [⟨.st (.pair (.sl (.int .u8)) (.int .i64)), r69.2.1⟩, ⟨.st (.pair (.int .u8) (.pair (.int .i64) (.pair (.str) (.pair (.str) (.pair (.int .u8) (.sl (.int .u8))))))), r69.2.2⟩])))
 else False
 else
 bif (decide ((rd (0 : Int) r1.2.2.1 r1.2.2.2) = (45 : Int))) then
 bif (decide ((rd (0 : Int) r1.2.2.1 r1.2.2.2) = (45 : Int))) then
 bif decide (List.length ([103] : List Int) + List.length ([(rd (0 : Int) r1.2.2.1 r1.2.2.2)] : List Int) ≤ lim) then
 K (.one (.v (.int .i64) (1 : Int))) [⟨.st (.pair (.sl (.int .u8)) (.int .i64)), (r1.2.2.1, (IntKind.wrap .i64 (r1.2.2.2 + (1 : Int))))⟩, ⟨.st (.pair (.int .u8) (.pair (.int .i64) (.pair (.str) (.pair (.str) (.pair (.int .u8) (.sl (.int .u8))))))), (c1.1, c1.2.1, c1.2.2.1, (([103] : List Int) ++ ([(rd (0 : Int) r1.2.2.1 r1.2.2.2)] : List Int)), c1.2.2.2.2.1, c1.2.2.2.2.2)⟩]
 else False
 else
 ∀ (r70 : Int), r70 = strings_IndexByte_F ([120, 88, 68, 67, 89, 83, 115, 112, 80, 126, 74, 105, 97, 73, 65, 111, 79, 82, 117, 46, 18] : List Int) r1.1 → (
 wfR (.one (.v (.int .i64) r70)) → (
 bif (decide ((0 : Int) ≤ r70)) then
 K (.one (.v (.int .i64) (1 : Int))) [⟨.st (.pair (.sl (.int .u8)) (.int .i64)), r1.2.2⟩, ⟨.st (.pair (.int .u8) (.pair (.int .i64) (.pair (.str) (.pair (.str) (.pair (.int .u8) (.sl (.int .u8))))))), (c1.1, c1.2.1, c1.2.2.1, ([r1.1] : List Int), c1.2.2.2.2.1, c1.2.2.2.2.2)⟩]
 else
 keys_reader_motion_P r1.2.2 c1 r1.1 ∧ (
 ∀ (r71 : Int × (List Int × Int) × CmT), r71 = keys_reader_motion_F r1.2.2 c1 r1.1 → (
 wfR (.one (.v (.int .i64) r71.1)) → (
 K (.one (.v (.int .i64) r71.1)) [⟨.st (.pair (.sl (.int .u8)) (.int .i64)), r71.2.1⟩, ⟨.st (.pair (.int .u8) (.pair (.int .i64) (.pair (.str) (.pair (.str) (.pair (.int .u8) (.sl (.int .u8))))))), r71.2.2⟩])))))
 else
 bif (decide ((rd (0 : Int) r1.2.2.1 r1.2.2.2) = (43 : Int))) then
 bif decide (List.length ([103] : List Int) + List.length ([(rd (0 : Int) r1.2.2.1 r1.2.2.2)] : List Int) ≤ lim) then
 K (.one (.v (.int .i64) (1 : Int))) [⟨.st (.pair (.sl (.int .u8)) (.int .i64)), (r1.2.2.1, (IntKind.wrap .i64 (r1.2.2.2 + (1 : Int))))⟩, ⟨.st (.pair (.int .u8) (.pair (.int .i64) (.pair (.str) (.pair (.str) (.pair (.int .u8) (.sl (.int .u8))))))), (c1.1, c1.2.1, c1.2.2.1, (([103] : List Int) ++ ([(rd (0 : Int) r1.2.2.1 r1.2.2.2)] : List Int)), c1.2.2.2.2.1, c1.2.2.2.2.2)⟩]
 else False
 else
 ∀ (r72 : Int), r72 = strings_IndexByte_F ([120, 88, 68, 67, 89, 83, 115, 112, 80, 126, 74, 105, 97, 73, 65, 111, 79, 82, 117, 46, 18] : List Int) r1.1 → (
 wfR (.one (.v (.int .i64) r72)) → (
 bif (decide ((0 : Int) ≤ r72)) then
 K (.one (.v (.int .i64) (1 : Int))) [⟨.st (.pair (.sl (.int .u8)) (.int .i64)), r1.2.2⟩, ⟨.st (.pair (.int .u8) (.pair (.int .i64) (.pair (.str) (.pair (.str) (.pair (.int .u8) (.sl (.int .u8))))))), (c1.1, c1.2.1, c1.2.2.1, ([r1.1] : List Int), c1.2.2.2.2.1, c1.2.2.2.2.2)⟩]
 else
 keys_reader_motion_P r1.2.2 c1 r1.1 ∧ (
 ∀ (r73 : Int × (List Int × Int) × CmT), r73 = keys_reader_motion_F r1.2.2 c1 r1.1 → (
 wfR (.one (.v (.int .i64) r73.1)) → (
 K (.one (.v (.int .i64) r73.1)) [⟨.st (.pair (.sl (.int .u8)) (.int .i64)), r73.2.1⟩, ⟨.st (.pair (.int .u8) (.pair (.int .i64) (.pair (.str) (.pair (.str) (.pair (.int .u8) (.sl (.int .u8))))))), r73.2.2⟩])))))
 else False
 else
 ∀ (r74 : Int), r74 = strings_IndexByte_F ([120, 88, 68, 67, 89, 83, 115, 112, 80, 126, 74, 105, 97, 73, 65, 111, 79, 82, 117, 46, 18] : List Int) r1.1 → (
 wfR (.one (.v (.int .i64) r74)) → (
 bif (decide ((0 : Int) ≤ r74)) then
 K (.one (.v (.int .i64) (1 : Int))) [⟨.st (.pair (.sl (.int .u8)) (.int .i64)), r1.2.2⟩, ⟨.st (.pair (.int .u8) (.pair (.int .i64) (.pair (.str) (.pair (.str) (.pair (.int .u8) (.sl (.int .u8))))))), (c1.1, c1.2.1, c1.2.2.1, ([r1.1] : List Int), c1.2.2.2.2.1, c1.2.2.2.2.2)⟩]
 else
 keys_reader_motion_P r1.2.2 c1 r1.1 ∧ (
 ∀ (r75 : Int × (List Int × Int) × CmT), r75 = keys_reader_motion_F r1.2.2 c1 r1.1 → (
 wfR (.one (.v (.int .i64) r75.1)) → (
 K (.one (.v (.int .i64) r75.1)) [⟨.st (.pair (.sl (.int .u8)) (.int .i64)), r75.2.1⟩, ⟨.st (.pair (.int .u8) (.pair (.int .i64) (.pair (.str) (.pair (.str) (.pair (.int .u8) (.sl (.int .u8))))))), r75.2.2⟩])))))
 else
 bif (decide (r1.1 = (121 : Int))) then
 bif (decide (r1.1 = (121 : Int))) then
 keys_reader_worked_P r1.2.2 (c1.1, c1.2.1, ([r1.1] : List Int), c1.2.2.2.1, c1.2.2.2.2.1, c1.2.2.2.2.2) ∧ (
 ∀ (r76 : Int × (List Int × Int) × CmT), r76 = keys_reader_worked_F r1.2.2 (c1.1, c1.2.1, ([r1.1] : List Int), c1.2.2.2.1, c1.2.2.2.2.1, c1.2.2.2.2.2) → (
 wfR (.one (.v (.int .i64) r76.1)) → (
 K (.one (.v (.int .i64) r76.1)) [⟨.st (.pair (.sl (.int .u8)) (.int .i64)), r76.2.1⟩, ⟨.st (.pair (.int .u8) (.pair (.int .i64) (.pair (.str) (.pair (.str) (.pair (.int .u8) (.sl (.int .u8))))))), r76.2.2⟩])))
 else
 bif (decide (r1.1 = (58 : Int))) then
 K (.one (.v (.int .i64) (3 : Int))) [⟨.st (.pair (.sl (.int .u8)) (.int .i64)), r1.2.2⟩, ⟨.st (.pair (.int .u8) (.pair (.int .i64) (.pair (.str) (.pair (.str) (.pair (.int .u8) (.sl (.int .u8))))))), (c1.1, c1.2.1, c1.2.2.1, ([58] : List Int), c1.2.2.2.2.1, c1.2.2.2.2.2)⟩]
 else
 bif (decide (r1.1 = (114 : Int))) then
 bif (decide (r1.1 = (114 : Int))) then
 keys_reader_argument_P r1.2.2 (c1.1, c1.2.1, c1.2.2.1, ([r1.1] : List Int), c1.2.2.2.2.1, c1.2.2.2.2.2) ∧ (
 ∀ (r77 : Int × (List Int × Int) × CmT), r77 = keys_reader_argument_F r1.2.2 (c1.1, c1.2.1, c1.2.2.1, ([r1.1] : List Int), c1.2.2.2.2.1, c1.2.2.2.2.2) → (
 wfR (.one (.v (.int .i64) r77.1)) → (
 K (.one (.v (.int .i64) r77.1)) [⟨.st (.pair (.sl (.int .u8)) (.int .i64)), r77.2.1⟩, ⟨.st (.pair (.int .u8) (.pair (.int .i64) (.pair (.str) (.pair (.str) (.pair (.int .u8) (.sl (.int .u8))))))), r77.2.2⟩])))
 else
 bif (decide (r1.1 = (103 : Int))) then
 bif (decide (r1.2.2.2 = (List.length r1.2.2.1 : Int))) then
 K (.one (.v (.int .i64) (0 : Int))) [⟨.st (.pair (.sl (.int .u8)) (.int .i64)), r1.2.2⟩, ⟨.st (.pair (.int .u8) (.pair (.int .i64) (.pair (.str) (.pair (.str) (.pair (.int .u8) (.sl (.int .u8))))))), c1⟩]
 else
 bif decide (0 ≤ r1.2.2.2 ∧ r1.2.2.2 < (List.length r1.2.2.1 : Int)) then
 bif (decide ((rd (0 : Int) r1.2.2.1 r1.2.2.2) = (126 : Int))) then
 bif (decide ((rd (0 : Int) r1.2.2.1 r1.2.2.2) = (126 : Int))) then
 bif decide (List.length ([103] : List Int) + List.length ([(rd (0 : Int) r1.2.2.1 r1.2.2.2)] : List Int) ≤ lim) then
 keys_reader_worked_P (r1.2.2.1, (IntKind.wrap .i64 (r1.2.2.2 + (1 : Int)))) (c1.1, c1.2.1, (([103] : List Int) ++ ([(rd (0 : Int) r1.2.2.1 r1.2.2.2)] : List Int)), c1.2.2.2.1, c1.2.2.2.2.1, c1.2.2.2.2.2) ∧ (
 ∀ (r78 : Int × (List Int × Int) × CmT), r78 = keys_reader_worked_F (r1.2.2.1, (IntKind.wrap .i64 (r1.2.2.2 + (1 : Int)))) (c1.1, c1.2.1, (([103] : List Int) ++ ([(rd (0 : Int) r1.2.2.1 r1.2.2.2)] : List Int)), c1.2.2.2.1, c1.2.2.2.2.1, c1.2.2.2.2.2) → (
 wfR (.one (.v (.int .i64) r78.1)) → (
 K (.one (.v (.int .i64) r78.1)) [⟨.st (.pair (.sl (.int .u8)) (.int .i64)), r78.2.1⟩, ⟨.st (.pair (.int .u8) (.pair (.int .i64) (.pair (.str) (.pair (.str) (.pair (.int .u8) (.sl (.int .u8))))))), r78.2.2⟩])))
 else False
 else
 bif (decide ((rd (0 : Int) r1.2.2.1 r1.2.2.2) = (45 : Int))) then
 bif (decide ((rd (0 : Int) r1.2.2.1 r1.2.2.2) = (45 : Int))) then
 bif decide (List.length ([103] : List Int) + List.length ([(rd (0 : Int) r1.2.2.1 r1.2.2.2)] : List Int) ≤ lim) then
 K (.one (.v (.int .i64) (1 : Int))) [⟨.st (.pair (.sl (.int .u8)) (.int .i64)), (r1.2.2.1, (IntKind.wrap .i64 (r1.2.2.2 + (1 : Int))))⟩, ⟨.st (.pair (.int .u8) (.pair (.int .i64) (.pair (.str) (.pair (.str) (.pair (.int .u8) (.sl (.int .u8))))))), (c1.1, c1.2.1, c1.2.2.1, (([103] : List Int) ++ ([(rd (0 : Int) r1.2.2.1 r1.2.2.2)] : List Int)), c1.2.2.2.2.1, c1.2.2.2.2.2)⟩]
 else False
 else
 ∀ (r79 : Int), r79 = strings_IndexByte_F ([120, 88, 68, 67, 89, 83, 115, 112, 80, 126, 74, 105, 97, 73, 65, 111, 79, 82, 117, 46, 18] : List Int) r1.1 → (
 wfR (.one (.v (.int .i64) r79)) → (
 bif (decide ((0 : Int) ≤ r79)) then
 K (.one (.v (.int .i64) (1 : Int))) [⟨.st (.pair (.sl (.int .u8)) (.int .i64)), r1.2.2⟩, ⟨.st (.pair (.int .u8) (.pair (.int .i64) (.pair (.str) (.pair (.str) (.pair (.int .u8) (.sl (.int .u8))))))), (c1.1, c1.2.1, c1.2.2.1, ([r1.1] : List Int), c1.2.2.2.2.1, c1.2.2.2.2.2)⟩]
 else
 keys_reader_motion_P r1.2.2 c1 r1.1 ∧ (
 ∀ (r80 : Int × (List Int × Int) × CmT), r80 = keys_reader_motion_F r1.2.2 c1 r1.1 → (
 wfR (.one (.v (.int .i64) r80.1)) → (
 K (.one (.v (.int .i64) r80.1)) [⟨.st (.pair (.sl (.int .u8)) (.int .i64)), r80.2.1⟩, ⟨.st (.pair (.int .u8) (.pair (.int .i64) (.pair (.str) (.pair (.str) (.pair (.int .u8) (.sl (.int .u8))))))), r80.2.2⟩])))))
 else
 bif (decide ((rd (0 : Int) r1.2.2.1 r1.2.2.2) = (43 : Int))) then
 bif decide (List.length ([103] : List Int) + List.length ([(rd (0 : Int) r1.2.2.1 r1.2.2.2)] : List Int) ≤ lim) then
 K (.one (.v (.int .i64) (1 : Int))) [⟨.st (.pair (.sl (.int .u8)) (.int .i64)), (r1.2.2.1, (IntKind.wrap .i64 (r1.2.2.2 + (1 : Int))))⟩, ⟨.st (.pair (.int .u8) (.pair (.int .i64) (.pair (.str) (.pair (.str) (.pair (.int .u8) (.sl (.int .u8))))))), (c1.1, c1.2.1, c1.2.2.1, (([103] : List Int) ++ ([(rd (0 : Int) r1.2.2.1 r1.2.2.2)] : List Int)), c1.2.2.2.2.1, c1.2.2.2.2.2)⟩]
 else False
 else
 ∀ (r81 : Int), r81 = strings_IndexByte_F ([120, 88, 68, 67, 89, 83, 115, 112, 80, 126, 74, 105, 97, 73, 65, 111, 79, 82, 117, 46, 18] : List Int) r1.1 → (
 wfR (.one (.v (.int .i64) r81)) → (
 bif (decide ((0 : Int) ≤ r81)) then
 K (.one (.v (.int .i64) (1 : Int))) [⟨.st (.pair (.sl (.int .u8)) (.int .i64)), r1.2.2⟩, ⟨.st (.pair (.int .u8) (.pair (.int .i64) (.pair (.str) (.pair (.str) (.pair (.int .u8) (.sl (.int .u8))))))), (c1.1, c1.2.1, c1.2.2.1, ([r1.1] : List Int), c1.2.2.2.2.1, c1.2.2.2.2.2)⟩]
 else
 keys_reader_motion_P r1.2.2 c1 r1.1 ∧ (
 ∀ (r82 : Int × (List Int × Int) × CmT), r82 = keys_reader_motion_F r1.2.2 c1 r1.1 → (
 wfR (.one (.v (.int .i64) r82.1)) → (
 K (.one (.v (.int .i64) r82.1)) [⟨.st (.pair (.sl (.int .u8)) (.int .i64)), r82.2.1⟩, ⟨.st (.pair (.int .u8) (.pair (.int .i64) (.pair (.str) (.pair (.str) (.pair (.int .u8) (.sl (.int .u8))))))), r82.2.2⟩])))))
 else
 bif (decide ((rd (0 : Int) r1.2.2.1 r1.2.2.2) = (117 : Int))) then
 bif (decide ((rd (0 : Int) r1.2.2.1 r1.2.2.2) = (117 : Int))) then
 bif decide (List.length ([103] : List Int) + List.length ([(rd (0 : Int) r1.2.2.1 r1.2.2.2)] : List Int) ≤ lim) then
 keys_reader_worked_P (r1.2.2.1, (IntKind.wrap .i64 (r1.2.2.2 + (1 : Int)))) (c1.1, c1.2.1, (([103] : List Int) ++ ([(rd (0 : Int) r1.2.2.1 r1.2.2.2)] : List Int)), c1.2.2.2.1, c1.2.2.2.2.1, c1.2.2.2.2.2) ∧ (
 ∀ (r83 : Int × (List Int × Int) × CmT), r83 = keys_reader_worked_F (r1.2.2.1, (IntKind.wrap .i64 (r1.2.2.2 + (1 : Int)))) (c1.1, c1.2.1, (([103] : List Int) ++ ([(rd (0 : Int) r1.2.2.1 r1.2.2.2)] : List Int)), c1.2.2.2.1, c1.2.2.2.2.1, c1.2.2.2.2.2) → (
 wfR (.one (.v (.int .i64) r83.1)) → (
 K (.one (.v (.int .i64) r83.1)) [⟨.st (.pair (.sl (.int .u8)) (.int .i64)), r83.2.1⟩, ⟨.st (.pair (.int .u8) (.pair (.int .i64) (.pair (.str) (.pair (.str) (.pair (.int .u8) (.sl (.int .u8))))))), r83.2.2⟩])))
 else False
 else
 bif (decide ((rd (0 : Int) r1.2.2.1 r1.2.2.2) = (45 : Int))) then
 bif (decide ((rd (0 : Int) r1.2.2.1 r1.2.2.2) = (45 : Int))) then
 bif decide (List.length ([103] : List Int) + List.length ([(rd (0 : Int) r1.2.2.1 r1.2.2.2)] : List Int) ≤ lim) then
 K (.one (.v (.int .i64) (1 : Int))) [⟨.st (.pair (.sl (.int .u8)) (.int .i64)), (r1.2.2.1, (IntKind.wrap .i64 (r1.2.2.2 + (1 : Int))))⟩, ⟨.st (.pair (.int .u8) (.pair (.int .i64) (.pair (.str) (.pair (.str) (.pair (.int .u8) (.sl (.int .u8))))))), (c1.1, c1.2.1, c1.2.2.1, (([103] : List Int) ++ ([(rd (0 : Int) r1.2.2.1 r1.2.2.2)] : List Int)), c1.2.2.2.2.1, c1.2.2.2.2.2)⟩]
 else False
 else
 ∀ (r84 : Int), r84 = strings_IndexByte_F ([120, 88, 68, 67, 89, 83, 115, 112, 80, 126, 74, 105, 97, 73, 65, 111, 79, 82, 117, 46, 18] : List Int) r1.1 → (
 wfR (.one (.v (.int .i64) r84)) → (
 bif (decide ((0 : Int) ≤ r84)) then
 K (.one (.v (.int .i64) (1 : Int))) [⟨.st (.pair (.sl (.int .u8)) (.int .i64)), r1.2.2⟩, ⟨.st (.pair (.int .u8) (.pair (.int .i64) (.pair (.str) (.pair (.str) (.pair (.int .u8) (.sl (.int .u8))))))), (c1.1, c1.2.1, c1.2.2.1, ([r1.1] : List Int), c1.2.2.2.2.1, c1.2.2.2.2.2)⟩]
 else
 keys_reader_motion_P r1.2.2 c1 r1.1 ∧ (
 ∀ (r85 : Int × (List Int × Int) × CmT), r85 = keys_reader_motion_F r1.2.2 c1 r1.1 → (
 wfR (.one (.v (.int .i64) r85.1)) → (
 K (.one (.v (.int .i64) r85.1)) [⟨.st (.pair (.sl (.int .u8)) (.int .i64)), r85.2.1⟩, ⟨.st (.pair (.int .u8) (.pair (.int .i64) (.pair (.str) (.pair (.str) (.pair (.int .u8) (.sl (.int .u8))))))), r85.2.2⟩])))))
 else
 bif (decide ((rd (0 : Int) r1.2.2.1 r1.2.2.2) = (43 : Int))) then
 bif decide (List.length ([103] : List Int) + List.length ([(rd (0 : Int) r1.2.2.1 r1.2.2.2)] : List Int) ≤ lim) then
 K (.one (.v (.int .i64) (1 : Int))) [⟨.st (.pair (.sl (.int .u8)) (.int .i64)), (r1.2.2.1, (IntKind.wrap .i64 (r1.2.2.2 + (1 : Int))))⟩, ⟨.st (.pair (.int .u8) (.pair (.int .i64) (.pair (.str) (.pair (.str) (.pair (.int .u8) (.sl (.int .u8))))))), (c1.1, c1.2.1, c1.2.2.1, (([103] : List Int) ++ ([(rd (0 : Int) r1.2.2.1 r1.2.2.2)] : List Int)), c1.2.2.2.2.1, c1.2.2.2.2.2)⟩]
 else False
 else
 ∀ (r86 : Int), r86 = strings_IndexByte_F ([120, 88, 68, 67, 89, 83, 115, 112, 80, 126, 74, 105, 97, 73, 65, 111, 79, 82, 117, 46, 18] : List Int) r1.1 → (
 wfR (.one (.v (.int .i64) r86)) → (
 bif (decide ((0 : Int) ≤ r86)) then
 K (.one (.v (.int .i64) (1 : Int))) [⟨.st (.pair (.sl (.int .u8)) (.int .i64)), r1.2.2⟩, ⟨.st (.pair (.int .u8) (.pair (.int .i64) (.pair (.str) (.pair (.str) (.pair (.int .u8) (.sl (.int .u8))))))), (c1.1, c1.2.1, c1.2.2.1, ([r1.1] : List Int), c1.2.2.2.2.1, c1.2.2.2.2.2)⟩]
 else
 keys_reader_motion_P r1.2.2 c1 r1.1 ∧ (
 ∀ (r87 : Int × (List Int × Int) × CmT), r87 = keys_reader_motion_F r1.2.2 c1 r1.1 → (
 wfR (.one (.v (.int .i64) r87.1)) → (
 K (.one (.v (.int .i64) r87.1)) [⟨.st (.pair (.sl (.int .u8)) (.int .i64)), r87.2.1⟩, ⟨.st (.pair (.int .u8) (.pair (.int .i64) (.pair (.str) (.pair (.str) (.pair (.int .u8) (.sl (.int .u8))))))), r87.2.2⟩])))))
 else
 bif (decide ((rd (0 : Int) r1.2.2.1 r1.2.2.2) = (85 : Int))) then
 bif decide (List.length ([103] : List Int) + List.length ([(rd (0 : Int) r1.2.2.1 r1.2.2.2)] : List Int) ≤ lim) then
 keys_reader_worked_P (r1.2.2.1, (IntKind.wrap .i64 (r1.2.2.2 + (1 : Int)))) (c1.1, c1.2.1, (([103] : List Int) ++ ([(rd (0 : Int) r1.2.2.1 r1.2.2.2)] : List Int)), c1.2.2.2.1, c1.2.2.2.2.1, c1.2.2.2.2.2) ∧ (
 ∀ (r88 : Int × (List Int × Int) × CmT), r88 = keys_reader_worked_F (r1.2.2.1, (IntKind.wrap .i64 (r1.2.2.2 + (1 : Int)))) (c1.1, c1.2.1, (([103] : List Int) ++ ([(rd (0 : Int) r1.2.2.1 r1.2.2.2)] : List Int)), c1.2.2.2.1, c1.2.2.2.2.1, c1.2.2.2.2.2) → (
 wfR (.one (.v (.int .i64) r88.1)) → (
 K (.one (.v (.int .i64) r88.1)) [⟨.st (.pair (.sl (.int .u8)) (.int .i64)), r88.2.1⟩, ⟨.st (.pair (.int .u8) (.pair (.int .i64) (.pair (.str) (.pair (.str) (.pair (.int .u8) (.sl (.int .u8))))))), r88.2.2⟩])))
 else False
 else
 bif (decide ((rd (0 : Int) r1.2.2.1 r1.2.2.2) = (45 : Int))) then
 bif (decide ((rd (0 : Int) r1.2.2.1 r1.2.2.2) = (45 : Int))) then
 bif decide (List.length ([103] : List Int) + List.length ([(rd (0 : Int) r1.2.2.1 r1.2.2.2)] : List Int) ≤ lim) then
 K (.one (.v (.int .i64) (1 : Int))) [⟨.st (.pair (.sl (.int .u8)) (.int .i64)), (r1.2.2.1, (IntKind.wrap .i64 (r1.2.2.2 + (1 : Int))))⟩, ⟨.st (.pair (.int .u8) (.pair (.int .i64) (.pair (.str) (.pair (.str) (.pair (.int .u8) (.sl (.int .u8))))))), (c1.1, c1.2.1, c1.2.2.1, (([103] : List Int) ++ ([(rd (0 : Int) r1.2.2.1 r1.2.2.2)] : List Int)), c1.2.2.2.2.1, c1.2.2.2.2.2)⟩]
 else False
 else
 ∀ (r89 : Int), r89 = strings_IndexByte_F ([120, 88, 68, 67, 89, 83, 115, 112, 80, 126, 74, 105, 97, 73, 65, 111, 79, 82, 117, 46, 18] : List Int) r1.1 → (
 wfR (.one (.v (.int .i64) r89)) → (
 bif (decide ((0 : Int) ≤ r89)) then
 K (.one (.v (.int .i64) (1 : Int))) [⟨.st (.pair (.sl (.int .u8)) (.int .i64)), r1.2.2⟩, ⟨.st (.pair (.int .u8) (.pair (.int .i64) (.pair (.str) (.pair (.str) (.pair (.int .u8) (.sl (.int .u8))))))), (c1.1, c1.2.1, c1.2.2.1, ([r1.1] : List Int), c1.2.2.2.2.1, c1.2.2.2.2.2)⟩]
 else
 keys_reader_motion_P r1.2.2 c1 r1.1 ∧ (
 ∀ (r90 : Int × (List Int × Int) × CmT), r90 = keys_reader_motion_F r1.2.2 c1 r1.1 → (
 wfR (.one (.v (.int .i64) r90.1)) → (
 K (.one (.v (.int .i64) r90.1)) [⟨.st (.pair (.sl (.int .u8)) (.int .i64)), r90.2.1⟩, ⟨.st (.pair (.int .u8) (.pair (.int .i64) (.pair (.str) (.pair (.str) (.pair (.int .u8) (.sl (.int .u8))))))), r90.2.2⟩])))))
 else
 bif (decide ((rd (0 : Int) r1.2.2.1 r1.2.2.2) = (43 : Int))) then
 bif decide (List.length ([103] : List Int) + List.length ([(rd (0 : Int) r1.2.2.1 r1.2.2.2)] : List Int) ≤ lim) then
 K (.one (.v (.int .i64) (1 : Int))) [⟨.st (.pair (.sl (.int .u8)) (.int .i64)), (r1.2.2.1, (IntKind.wrap .i64 (r1.2.2.2 + (1 : Int))))⟩, ⟨.st (.pair (.int .u8) (.pair (.int .i64) (.pair (.str) (.pair (.str) (.pair (.int .u8) (.sl (.int .u8))))))), (c1.1, c1.2.1, c1.2.2.1, (([103] : List Int) ++ ([(rd (0 : Int) r1.2.2.1 r1.2.2.2)] : List Int)), c1.2.2.2.2.1, c1.2.2.2.2.2)⟩]
 else False
 else
 ∀ (r91 : Int), r91 = strings_IndexByte_F ([120, 88, 68, 67, 89, 83, 115, 112, 80, 126, 74, 105, 97, 73, 65, 111, 79, 82, 117, 46, 18] : List Int) r1.1 → (
 wfR (.one (.v (.int .i64) r91)) → (
 bif (decide ((0 : Int) ≤ r91)) then
 K (.one (.v (.int .i64) (1 : Int))) [⟨.st (.pair (.sl (.int .u8)) (.int .i64)), r1.2.2⟩, ⟨.st (.pair (.int .u8) (.pair (.int .i64) (.pair (.str) (.pair (.str) (.pair (.int .u8) (.sl (.int .u8))))))), (c1.1, c1.2.1, c1.2.2.1, ([r1.1] : List Int), c1.2.2.2.2.1, c1.2.2.2.2.2)⟩]
 else
 keys_reader_motion_P r1.2.2 c1 r1.1 ∧ (
 ∀ (r92 : Int × (List Int × Int) × CmT), r92 = keys_reader_motion_F r1.2.2 c1 r1.1 → (
 wfR (.one (.v (.int .i64) r92.1)) → (
 K (.one (.v (.int .i64) r92.1)) [⟨.st (.pair (.sl (.int .u8)) (.int .i64)), r92.2.1⟩, ⟨.st (.pair (.int .u8) (.pair (.int .i64) (.pair (.str) (.pair (.str) (.pair (.int .u8) (.sl (.int .u8))))))), r92.2.2⟩])))))
 else False
 else
 ∀ (r93 : Int), r93 = strings_IndexByte_F ([120, 88, 68, 67, 89, 83, 115, 112, 80, 126, 74, 105, 97, 73, 65, 111, 79, 82, 117, 46, 18] : List Int) r1.1 → (
 wfR (.one (.v (.int .i64) r93)) → (
 bif (decide ((0 : Int) ≤ r93)) then
 K (.one (.v (.int .i64) (1 : Int))) [⟨.st (.pair (.sl (.int .u8)) (.int .i64)), r1.2.2⟩, ⟨.st (.pair (.int .u8) (.pair (.int .i64) (.pair (.str) (.pair (.str) (.pair (.int .u8) (.sl (.int .u8))))))), (c1.1, c1.2.1, c1.2.2.1, ([r1.1] : List Int), c1.2.2.2.2.1, c1.2.2.2.2.2)⟩]
 else
 keys_reader_motion_P r1.2.2 c1 r1.1 ∧ (
 ∀ (r94 : Int × (List Int × Int) × CmT), r94 = keys_reader_motion_F r1.2.2 c1 r1.1 → (
 wfR (.one (.v (.int .i64) r94.1)) → (
 K (.one (.v (.int .i64) r94.1)) [⟨.st (.pair (.sl (.int .u8)) (.int .i64)), r94.2.1⟩, ⟨.st (.pair (.int .u8) (.pair (.int .i64) (.pair (.str) (.pair (.str) (.pair (.int .u8) (.sl (.int .u8))))))), r94.2.2⟩])))))
 else
 bif (decide (r1.1 = (109 : Int))) then
 keys_reader_argument_P r1.2.2 (c1.1, c1.2.1, c1.2.2.1, ([r1.1] : List Int), c1.2.2.2.2.1, c1.2.2.2.2.2) ∧ (
 ∀ (r95 : Int × (List Int × Int) × CmT), r95 = keys_reader_argument_F r1.2.2 (c1.1, c1.2.1, c1.2.2.1, ([r1.1] : List Int), c1.2.2.2.2.1, c1.2.2.2.2.2) → (
 wfR (.one (.v (.int .i64) r95.1)) → (
 K (.one (.v (.int .i64) r95.1)) [⟨.st (.pair (.sl (.int .u8)) (.int .i64)), r95.2.1⟩, ⟨.st (.pair (.int .u8) (.pair (.int .i64) (.pair (.str) (.pair (.str) (.pair (.int .u8) (.sl (.int .u8))))))), r95.2.2⟩])))
 else
 bif (decide (r1.1 = (103 : Int))) then
 bif (decide (r1.2.2.2 = (List.length r1.2.2.1 : Int))) then
 K (.one (.v (.int .i64) (0 : Int))) [⟨.st (.pair (.sl (.int .u8)) (.int .i64)), r1.2.2⟩, ⟨.st (.pair (.int .u8) (.pair (.int .i64) (.pair (.str) (.pair (.str) (.pair (.int .u8) (.sl (.int .u8))))))), c1⟩]
 else
 bif decide (0 ≤ r1.2.2.2 ∧ r1.2.2.2 < (List.length r1.2.2.1 : Int)) then
 bif (decide ((rd (0 : Int) r1.2.2.1 r1.2.2.2) = (126 : Int))) then
 bif (decide ((rd (0 : Int) r1.2.2.1 r1.2.2.2) = (126 : Int))) then
 bif decide (List.length ([103] : List Int) + List.length ([(rd (0 : Int) r1.2.2.1 r1.2.2.2)] : List Int) ≤ lim) then
 keys_reader_worked_P (r1.2.2.1, (IntKind.wrap .i64 (r1.2.2.2 + (1 : Int)))) (c1.1, c1.2.1, (([103] : List Int) ++ ([(rd (0 : Int) r1.2.2.1 r1.2.2.2)] : List Int)), c1.2.2.2.1, c1.2.2.2.2.1, c1.2.2.2.2.2) ∧ (
 ∀ (r96 : Int × (List Int × Int) × CmT), r96 = keys_reader_worked_F (r1.2.2.1, (IntKind.wrap .i64 (r1.2.2.2 + (1 : Int)))) (c1.1, c1.2.1, (([103] : List Int) ++ ([(rd (0 : Int) r1.2.2.1 r1.2.2.2)] : List Int)), c1.2.2.2.1, c1.2.2.2.2.1, c1.2.2.2.2.2) → (
 wfR (.one (.v (.int .i64) r96.1)) → (
 K (.one (.v (.int .i64) r96.1)) [⟨.st (.pair (.sl (.int .u8)) (.int .i64)), r96.2.1⟩, ⟨.st (.pair (.int .u8) (.pair (.int .i64) (.pair (.str) (.pair (.str) (.pair (.int .u8) (.sl (.int .u8))))))), r96.2.2⟩])))
 else False
 else
 bif (decide ((rd (0 : Int) r1.2.2.1 r1.2.2.2) = (45 : Int))) then
 bif (decide ((rd (0 : Int) r1.2.2.1 r1.2.2.2) = (45 : Int))) then
 bif decide (List.length ([103] : List Int) + List.length ([(rd (0 : Int) r1.2.2.1 r1.2.2.2)] : List Int) ≤ lim) then
 K (.one (.v (.int .i64) (1 : Int))) [⟨.st (.pair (.sl (.int .u8)) (.int .i64)), (r1.2.2.1, (IntKind.wrap .i64 (r1.2.2.2 + (1 : Int))))⟩, ⟨.st (.pair (.int .u8) (.pair (.int .i64) (.pair (.str) (.pair (.str) (.pair (.int .u8) (.sl (.int .u8))))))), (c1.1, c1.2.1, c1.2.2.1, (([103] : List Int) ++ ([(rd (0 : Int) r1.2.2.1 r1.2.2.2)] : List Int)), c1.2.2.2.2.1, c1.2.2.2.2.2)⟩]
 else False
 else
 ∀ (r97 : Int), r97 = strings_IndexByte_F ([120, 88, 68, 67, 89, 83, 115, 112, 80, 126, 74, 105, 97, 73, 65, 111, 79, 82, 117, 46, 18] : List Int) r1.1 → (
 wfR (.one (.v (.int .i64) r97)) → (
 bif (decide ((0 : Int) ≤ r97)) then
 K (.one (.v (.int .i64) (1 : Int))) [⟨.st (.pair (.sl (.int .u8)) (.int .i64)), r1.2.2⟩, ⟨.st (.pair (.int .u8) (.pair (.int .i64) (.pair (.str) (.pair (.str) (.pair (.int .u8) (.sl (.int .u8))))))), (c1.1, c1.2.1, c1.2.2.1, ([r1.1] : List Int), c1.2.2.2.2.1, c1.2.2.2.2.2)⟩]
 else
 keys_reader_motion_P r1.2.2 c1 r1.1 ∧ (
 ∀ (r98 : Int × (List Int × Int) × CmT), r98 = keys_reader_motion_F r1.2.2 c1 r1.1 → (
 wfR (.one (.v (.int .i64) r98.1)) → (
 K (.one (.v (.int .i64) r98.1)) [⟨.st (.pair (.sl (.int .u8)) (.int .i64)), r98.2.1⟩, ⟨.st (.pair (.int .u8) (.pair (.int .i64) (.pair (.str) (.pair (.str) (.pair (.int .u8) (.sl (.int .u8))))))), r98.2.2⟩])))))
 else
 bif (decide ((rd (0 : Int) r1.2.2.1 r1.2.2.2) = (43 : Int))) then
 bif decide (List.length ([103] : List Int) + List.length ([(rd (0 : Int) r1.2.2.1 r1.2.2.2)] : List Int) ≤ lim) then
 K (.one (.v (.int .i64) (1 : Int))) [⟨.st (.pair (.sl (.int .u8)) (.int .i64)), (r1.2.2.1, (IntKind.wrap .i64 (r1.2.2.2 + (1 : Int))))⟩, ⟨.st (.pair (.int .u8) (.pair (.int .i64) (.pair (.str) (.pair (.str) (.pair (.int .u8) (.sl (.int .u8))))))), (c1.1, c1.2.1, c1.2.2.1, (([103] : List Int) ++ ([(rd (0 : Int) r1.2.2.1 r1.2.2.2)] : List Int)), c1.2.2.2.2.1, c1.2.2.2.2.2)⟩]
 else False
 else
 ∀ (r99 : Int), r99 = strings_IndexByte_F ([120, 88, 68, 67, 89, 83, 115, 112, 80, 126, 74, 105, 97, 73, 65, 111, 79, 82, 117, 46, 18] : List Int) r1.1 → (
 wfR (.one (.v (.int .i64) r99)) → (
 bif (decide ((0 : Int) ≤ r99)) then
 K (.one (.v (.int .i64) (1 : Int))) [⟨.st (.pair (.sl (.int .u8)) (.int .i64)), r1.2.2⟩, ⟨.st (.pair (.int .u8) (.pair (.int .i64) (.pair (.str) (.pair (.str) (.pair (.int .u8) (.sl (.int .u8))))))), (c1.1, c1.2.1, c1.2.2.1, ([r1.1] : List Int), c1.2.2.2.2.1, c1.2.2.2.2.2)⟩]
 else
 keys_reader_motion_P r1.2.2 c1 r1.1 ∧ (
 ∀ (r100 : Int × (List Int × Int) × CmT), r100 = keys_reader_motion_F r1.2.2 c1 r1.1 → (
 wfR (.one (.v (.int .i64) r100.1)) → (
 K (.one (.v (.int .i64) r100.1)) [⟨.st (.pair (.sl (.int .u8)) (.int .i64)), r100.2.1⟩, ⟨.st (.pair (.int .u8) (.pair (.int .i64) (.pair (.str) (.pair (.str) (.pair (.int .u8) (.sl (.int .u8))))))), r100.2.2⟩])))))
 else
 bif (decide ((rd (0 : Int) r1.2.2.1 r1.2.2.2) = (117 : Int))) then
 bif (decide ((rd (0 : Int) r1.2.2.1 r1.2.2.2) = (117 : Int))) then
 bif decide (List.length ([103] : List Int) + List.length ([(rd (0 : Int) r1.2.2.1 r1.2.2.2)] : List Int) ≤ lim) then
 keys_reader_worked_P (r1.2.2.1, (IntKind.wrap .i64 (r1.2.2.2 + (1 : Int)))) (c1.1, c1.2.1, (([103] : List Int) ++ ([(rd (0 : Int) r1.2.2.1 r1.2.2.2)] : List Int)), c1.2.2.2.1, c1.2.2.2.2.1, c1.2.2.2.2.2) ∧ (
 ∀ (r101 : Int × (List Int × Int) × CmT), r101 = keys_reader_worked_F (r1.2.2.1, (IntKind.wrap .i64 (r1.2.2.2 + (1 : Int)))) (c1.1, c1.2.1, (([103] : List Int) ++ ([(rd (0 : Int) r1.2.2.1 r1.2.2.2)] : List Int)), c1.2.2.2.1, c1.2.2.2.2.1, c1.2.2.2.2.2) → (
 wfR (.one (.v (.int .i64) r101.1)) → (
 K (.one (.v (.int .i64) r101.1)) [⟨.st (.pair (.sl (.int .u8)) (.int .i64)), r101.2.1⟩, ⟨.st (.pair (.int .u8) (.pair (.int .i64) (.pair (.str) (.pair (.str) (.pair (.int .u8) (.sl (.int .u8))))))), r101.2.2⟩])))
 else False
 else
 bif (decide ((rd (0 : Int) r1.2.2.1 r1.2.2.2) = (45 : Int))) then
 bif (decide ((rd (0 : Int) r1.2.2.1 r1.2.2.2) = (45 : Int))) then
 bif decide (List.length ([103] : List Int) + List.length ([(rd (0 : Int) r1.2.2.1 r1.2.2.2)] : List Int) ≤ lim) then
 K (.one (.v (.int .i64) (1 : Int))) [⟨.st (.pair (.sl (.int .u8)) (.int .i64)), (r1.2.2.1, (IntKind.wrap .i64 (r1.2.2.2 + (1 : Int))))⟩, ⟨.st (.pair (.int .u8) (.pair (.int .i64) (.pair (.str) (.pair (.str) (.pair (.int .u8) (.sl (.int .u8))))))), (c1.1, c1.2.1, c1.2.2.1, (([103] : List Int) ++ ([(rd (0 : Int) r1.2.2.1 r1.2.2.2)] : List Int)), c1.2.2.2.2.1, c1.2.2.2.2.2)⟩]
 else False
 else
 ∀ (r102 : Int), r102 = strings_IndexByte_F ([120, 88, 68, 67, 89, 83, 115, 112, 80, 126, 74, 105, 97, 73, 65, 111, 79, 82, 117, 46, 18] : List Int) r1.1 → (
 wfR (.one (.v (.int .i64) r102)) → (
 bif (decide ((0 : Int) ≤ r102)) then
 K (.one (.v (.int .i64) (1 : Int))) [⟨.st (.pair (.sl (.int .u8)) (.int .i64)), r1.2.2⟩, ⟨.st (.pair (.int .u8) (.pair (.int .i64) (.pair (.str) (.pair (.str) (.pair (.int .u8) (.sl (.int .u8))))))), (c1.1, c1.2.1, c1.2.2.1, ([r1.1] : List Int), c1.2.2.2.2.1, c1.2.2.2.2.2)⟩]
 else
 keys_reader_motion_P r1.2.2 c1 r1.1 ∧ (
 ∀ (r103 : Int × (List Int × Int) × CmT), r103 = keys_reader_motion_F r1.2.2 c1 r1.1 → (
 wfR (.one (.v (.int .i64) r103.1)) → (
 K (.one (.v (.int .i64) r103.1)) [⟨.st (.pair (.sl (.int .u8)) (.int .i64)), r103.2.1⟩, ⟨.st (.pair (.int .u8) (.pair (.int .i64) (.pair (.str) (.pair (.str) (.pair (.int .u8) (.sl (.int .u8))))))), r103.2.2⟩])))))
 else
 bif (decide ((rd (0 : Int) r1.2.2.1 r1.2.2.2) = (43 : Int))) then
 bif decide (List.length ([103] : List Int) + List.length ([(rd (0 : Int) r1.2.2.1 r1.2.2.2)] : List Int) ≤ lim) then
 K (.one (.v (.int .i64) (1 : Int))) [⟨.st (.pair (.sl (.int .u8)) (.int .i64)), (r1.2.2.1, (IntKind.wrap .i64 (r1.2.2.2 + (1 : Int))))⟩, ⟨.st (.pair (.int .u8) (.pair (.int .i64) (.pair (.str) (.pair (.str) (.pair (.int .u8) (.sl (.int .u8))))))), (c1.1, c1.2.1, c1.2.2.1, (([103] : List Int) ++ ([(rd (0 : Int) r1.2.2.1 r1.2.2.2)] : List Int)), c1.2.2.2.2.1, c1.2.2.2.2.2)⟩]
 else False
 else
 ∀ (r104 : Int), r104 = strings_IndexByte_F ([120, 88, 68, 67, 89, 83, 115, 112, 80, 126, 74, 105, 97, 73, 65, 111, 79, 82, 117, 46, 18] : List Int) r1.1 → (
 wfR (.one (.v (.int .i64) r104)) → (
 bif (decide ((0 : Int) ≤ r104)) then
 K (.one (.v (.int .i64) (1 : Int))) [⟨.st (.pair (.sl (.int .u8)) (.int .i64)), r1.2.2⟩, ⟨.st (.pair (.int .u8) (.pair (.int .i64) (.pair (.str) (.pair (.str) (.pair (.int .u8) (.sl (.int .u8))))))), (c1.1, c1.2.1, c1.2.2.1, ([r1.1] : List Int), c1.2.2.2.2.1, c1.2.2.2.2.2)⟩]
 else
 keys_reader_motion_P r1.2.2 c1 r1.1 ∧ (
 ∀ (r105 : Int × (List Int × Int) × CmT), r105 = keys_reader_motion_F r1.2.2 c1 r1.1 → (
 wfR (.one (.v (.int .i64) r105.1)) → (
 K (.one (.v (.int .i64) r105.1)) [⟨.st (.pair (.sl (.int .u8)) (.int .i64)), r105.2.1⟩, ⟨.st (.pair (.int .u8) (.pair (.int .i64) (.pair (.str) (.pair (.str) (.pair (.int .u8) (.sl (.int .u8))))))), r105.2.2⟩])))))
 else
 bif (decide ((rd (0 : Int) r1.2.2.1 r1.2.2.2) = (85 : Int))) then
 bif decide (List.length ([103] : List Int) + List.length ([(rd (0 : Int) r1.2.2.1 r1.2.2.2)] : List Int) ≤ lim) then
 keys_reader_worked_P (r1.2.2.1, (IntKind.wrap .i64 (r1.2.2.2 + (1 : Int)))) (c1.1, c1.2.1, (([103] : List Int) ++ ([(rd (0 : Int) r1.2.2.1 r1.2.2.2)] : List Int)), c1.2.2.2.1, c1.2.2.2.2.1, c1.2.2.2.2.2) ∧ (
 ∀ (r106 : Int × (List Int × Int) × CmT), r106 = keys_reader_worked_F (r1.2.2.1, (IntKind.wrap .i64 (r1.2.2.2 + (1 : Int)))) (c1.1, c1.2.1, (([103] : List Int) ++ ([(rd (0 : Int) r1.2.2.1 r1.2.2.2)] : List Int)), c1.2.2.2.1, c1.2.2.2.2.1, c1.2.2.2.2.2) → (
 wfR (.one (.v (.int .i64) r106.1)) → (
 K (.one (.v (.int .i64) r106.1)) [⟨.st (.pair (.sl (.int .u8)) (.int .i64)), r106.2.1⟩, ⟨.st (.pair (.int .u8) (.pair (.int .i64) (.pair (.str) (.pair (.str) (.pair (.int .u8) (.sl (.int .u8))))))), r106.2.2⟩])))
 else False
 else
 bif (decide ((rd (0 : Int) r1.2.2.1 r1.2.2.2) = (45 : Int))) then
 bif (decide ((rd (0 : Int) r1.2.2.1 r1.2.2.2) = (45 : Int))) then
 bif decide (List.length ([103] : List Int) + List.length ([(rd (0 : Int) r1.2.2.1 r1.2.2.2)] : List Int) ≤ lim) then
 K (.one (.v (.int .i64) (1 : Int))) [⟨.st (.pair (.sl (.int .u8)) (.int .i64)), (r1.2.2.1, (IntKind.wrap .i64 (r1.2.2.2 + (1 : Int))))⟩, ⟨.st (.pair (.int .u8) (.pair (.int .i64) (.pair (.str) (.pair (.str) (.pair (.int .u8) (.sl (.int .u8))))))), (c1.1, c1.2.1, c1.2.2.1, (([103] : List Int) ++ ([(rd (0 : Int) r1.2.2.1 r1.2.2.2)] : List Int)), c1.2.2.2.2.1, c1.2.2.2.2.2)⟩]
 else False
 else
 ∀ (r107 : Int), r107 = strings_IndexByte_F ([120, 88, 68, 67, 89, 83, 115, 112, 80, 126, 74, 105, 97, 73, 65, 111, 79, 82, 117, 46, 18] : List Int) r1.1 → (
 wfR (.one (.v (.int .i64) r107)) → (
 bif (decide ((0 : Int) ≤ r107)) then
 K (.one (.v (.int .i64) (1 : Int))) [⟨.st (.pair (.sl (.int .u8)) (.int .i64)), r1.2.2⟩, ⟨.st (.pair (.int .u8) (.pair (.int .i64) (.pair (.str) (.pair (.str) (.pair (.int .u8) (.sl (.int .u8))))))), (c1.1, c1.2.1, c1.2.2.1, ([r1.1] : List Int), c1.2.2.2.2.1, c1.2.2.2.2.2)⟩]
 else
 keys_reader_motion_P r1.2.2 c1 r1.1 ∧ (
 ∀ (r108 : Int × (List Int × Int) × CmT), r108 = keys_reader_motion_F r1.2.2 c1 r1.1 → (
 wfR (.one (.v (.int .i64) r108.1)) → (
 K (.one (.v (.int .i64) r108.1)) [⟨.st (.pair (.sl (.int .u8)) (.int .i64)), r108.2.1⟩, ⟨.st (.pair (.int .u8) (.pair (.int .i64) (.pair (.str) (.pair (.str) (.pair (.int .u8) (.sl (.int .u8))))))), r108.2.2⟩])))))
 else
 bif (decide ((rd (0 : Int) r1.2.2.1 r1.2.2.2) = (43 : Int))) then
 bif decide (List.length ([103] : List Int) + List.length ([(rd (0 : Int) r1.2.2.1 r1.2.2.2)] : List Int) ≤ lim) then
 K (.one (.v (.int .i64) (1 : Int))) [⟨.st (.pair (.sl (.int .u8)) (.int .i64)), (r1.2.2.1, (IntKind.wrap .i64 (r1.2.2.2 + (1 : Int))))⟩, ⟨.st (.pair (.int .u8) (.pair (.int .i64) (.pair (.str) (.pair (.str) (.pair (.int .u8) (.sl (.int .u8))))))), (c1.1, c1.2.1, c1.2.2.1, (([103] : List Int) ++ ([(rd (0 : Int) r1.2.2.1 r1.2.2.2)] : List Int)), c1.2.2.2.2.1, c1.2.2.2.2.2)⟩]
 else False
 else
 ∀ (r109 : Int), r109 = strings_IndexByte_F ([120, 88, 68, 67, 89, 83, 115, 112, 80, 126, 74, 105, 97, 73, 65, 111, 79, 82, 117, 46, 18] : List Int) r1.1 → (
 wfR (.one (.v (.int .i64) r109)) → (
 bif (decide ((0 : Int) ≤ r109)) then
 K (.one (.v (.int .i64) (1 : Int))) [⟨.st (.pair (.sl (.int .u8)) (.int .i64)), r1.2.2⟩, ⟨.st (.pair (.int .u8) (.pair (.int .i64) (.pair (.str) (.pair (.str) (.pair (.int .u8) (.sl (.int .u8))))))), (c1.1, c1.2.1, c1.2.2.1, ([r1.1] : List Int), c1.2.2.2.2.1, c1.2.2.2.2.2)⟩]
 else
 keys_reader_motion_P r1.2.2 c1 r1.1 ∧ (
 ∀ (r110 : Int × (List Int × Int) × CmT), r110 = keys_reader_motion_F r1.2.2 c1 r1.1 → (
 wfR (.one (.v (.int .i64) r110.1)) → (
 K (.one (.v (.int .i64) r110.1)) [⟨.st (.pair (.sl (.int .u8)) (.int .i64)), r110.2.1⟩, ⟨.st (.pair (.int .u8) (.pair (.int .i64) (.pair (.str) (.pair (.str) (.pair (.int .u8) (.sl (.int .u8))))))), r110.2.2⟩])))))
 else False
 else
 ∀ (r111 : Int), r111 = strings_IndexByte_F ([120, 88, 68, 67, 89, 83, 115, 112, 80, 126, 74, 105, 97, 73, 65, 111, 79, 82, 117, 46, 18] : List Int) r1.1 → (
 wfR (.one (.v (.int .i64) r111)) → (
 bif (decide ((0 : Int) ≤ r111)) then
 K (.one (.v (.int .i64) (1 : Int))) [⟨.st (.pair (.sl (.int .u8)) (.int .i64)), r1.2.2⟩, ⟨.st (.pair (.int .u8) (.pair (.int .i64) (.pair (.str) (.pair (.str) (.pair (.int .u8) (.sl (.int .u8))))))), (c1.1, c1.2.1, c1.2.2.1, ([r1.1] : List Int), c1.2.2.2.2.1, c1.2.2.2.2.2)⟩]
 else
 keys_reader_motion_P r1.2.2 c1 r1.1 ∧ (
 ∀ (r112 : Int × (List Int × Int) × CmT), r112 = keys_reader_motion_F r1.2.2 c1 r1.1 → (
 wfR (.one (.v (.int .i64) r112.1)) → (
 K (.one (.v (.int .i64) r112.1)) [⟨.st (.pair (.sl (.int .u8)) (.int .i64)), r112.2.1⟩, ⟨.st (.pair (.int .u8) (.pair (.int .i64) (.pair (.str) (.pair (.str) (.pair (.int .u8) (.sl (.int .u8))))))), r112.2.2⟩])))))
 else
 bif (decide (r1.1 = (62 : Int))) then
 bif (decide (r1.1 = (62 : Int))) then
 keys_reader_worked_P r1.2.2 (c1.1, c1.2.1, ([r1.1] : List Int), c1.2.2.2.1, c1.2.2.2.2.1, c1.2.2.2.2.2) ∧ (
 ∀ (r113 : Int × (List Int × Int) × CmT), r113 = keys_reader_worked_F r1.2.2 (c1.1, c1.2.1, ([r1.1] : List Int), c1.2.2.2.1, c1.2.2.2.2.1, c1.2.2.2.2.2) → (
 wfR (.one (.v (.int .i64) r113.1)) → (
 K (.one (.v (.int .i64) r113.1)) [⟨.st (.pair (.sl (.int .u8)) (.int .i64)), r113.2.1⟩, ⟨.st (.pair (.int .u8) (.pair (.int .i64) (.pair (.str) (.pair (.str) (.pair (.int .u8) (.sl (.int .u8))))))), r113.2.2⟩])))
 else
 bif (decide (r1.1 = (58 : Int))) then
 K (.one (.v (.int .i64) (3 : Int))) [⟨.st (.pair (.sl (.int .u8)) (.int .i64)), r1.2.2⟩, ⟨.st (.pair (.int .u8) (.pair (.int .i64) (.pair (.str) (.pair (.str) (.pair (.int .u8) (.sl (.int .u8))))))), (c1.1, c1.2.1, c1.2.2.1, ([58] : List Int), c1.2.2.2.2.1, c1.2.2.2.2.2)⟩]
 else
 bif (decide (r1.1 = (114 : Int))) then
 bif (decide (r1.1 = (114 : Int))) then
 keys_reader_argument_P r1.2.2 (c1.1, c1.2.1, c1.2.2.1, ([r1.1] : List Int), c1.2.2.2.2.1, c1.2.2.2.2.2) ∧ (
 ∀ (r114 : Int × (List Int × Int) × CmT), r114 = keys_reader_argument_F r1.2.2 (c1.1, c1.2.1, c1.2.2.1, ([r1.1] : List Int), c1.2.2.2.2.1, c1.2.2.2.2.2) → (
 wfR (.one (.v (.int .i64) r114.1)) → (
 K (.one (.v (.int .i64) r114.1)) [⟨.st (.pair (.sl (.int .u8)) (.int .i64)), r114.2.1⟩, ⟨.st (.pair (.int .u8) (.pair (.int .i64) (.pair (.str) (.pair (.str) (.pair (.int .u8) (.sl (.int .u8))))))), r114.2.2⟩])))
 else
 bif (decide (r1.1 = (103 : Int))) then
 bif (decide (r1.2.2.2 = (List.length r1.2.2.1 : Int))) then
 K (.one (.v (.int .i64) (0 : Int))) [⟨.st (.pair (.sl (.int .u8)) (.int .i64)), r1.2.2⟩, ⟨.st (.pair (.int .u8) (.pair (.int .i64) (.pair (.str) (.pair (.str) (.pair (.int .u8) (.sl (.int .u8))))))), c1⟩]
 else
 bif decide (0 ≤ r1.2.2.2 ∧ r1.2.2.2 < (List.length r1.2.2.1 : Int)) then
 bif (decide ((rd (0 : Int) r1.2.2.1 r1.2.2.2) = (126 : Int))) then
 bif (decide ((rd (0 : Int) r1.2.2.1 r1.2.2.2) = (126 : Int))) then
 bif decide (List.length ([103] : List Int) + List.length ([(rd (0 : Int) r1.2.2.1 r1.2.2.2)] : List Int) ≤ lim) then
 keys_reader_worked_P (r1.2.2.1, (IntKind.wrap .i64 (r1.2.2.2 + (1 : Int)))) (c1.1, c1.2.1, (([103] : List Int) ++ ([(rd (0 : Int) r1.2.2.1 r1.2.2.2)] : List Int)), c1.2.2.2.1, c1.2.2.2.2.1, c1.2.2.2.2.2) ∧ (
 ∀ (r115 : Int × (List Int × Int) × CmT), r115 = keys_reader_worked_F (r1.2.2.1, (IntKind.wrap .i64 (r1.2.2.2 + (1 : Int)))) (c1.1, c1.2.1, (([103] : List Int) ++ ([(rd (0 : Int) r1.2.2.1 r1.2.2.2)] : List Int)), c1.2.2.2.1, c1.2.2.2.2.1, c1.2.2.2.2.2) → (
 wfR (.one (.v (.int .i64) r115.1)) → (
 K (.one (.v (.int .i64) r115.1)) [⟨.st (.pair (.sl (.int .u8)) (.int .i64)), r115.2.1⟩, ⟨.st (.pair (.int .u8) (.pair (.int .i64) (.pair (.str) (.pair (.str) (.pair (.int .u8) (.sl (.int .u8))))))), r115.2.2⟩])))
 else False
 else
 bif (decide ((rd (0 : Int) r1.2.2.1 r1.2.2.2) = (45 : Int))) then
 bif (decide ((rd (0 : Int) r1.2.2.1 r1.2.2.2) = (45 : Int))) then
 bif decide (List.length ([103] : List Int) + List.length ([(rd (0 : Int) r1.2.2.1 r1.2.2.2)] : List Int) ≤ lim) then
 K (.one (.v (.int .i64) (1 : Int))) [⟨.st (.pair (.sl (.int .u8)) (.int .i64)), (r1.2.2.1, (IntKind.wrap .i64 (r1.2.2.2 + (1 : Int))))⟩, ⟨.st (.pair (.int .u8) (.pair (.int .i64) (.pair (.str) (.pair (.str) (.pair (.int .u8) (.sl (.int .u8))))))), (c1.1, c1.2.1, c1.2.2.1, (([103] : List Int) ++ ([(rd (0 : Int) r1.2.2.1 r1.2.2.2)] : List Int)), c1.2.2.2.2.1, c1.2.2.2.2.2)⟩]
 else False
 else
 ∀ (r116 : Int), r116 = strings_IndexByte_F ([120, 88, 68, 67, 89, 83, 115, 112, 80, 126, 74, 105, 97, 73, 65, 111, 79, 82, 117, 46, 18] : List Int) r1.1 → (
 wfR (.one (.v (.int .i64) r116)) → (
 bif (decide ((0 : Int) ≤ r116)) then
 K (.one (.v (.int .i64) (1 : Int))) [⟨.st (.pair (.sl (.int .u8)) (.int .i64)), r1.2.2⟩, ⟨.st (.pair (.int .u8) (.pair (.int .i64) (.pair (.str) (.pair (.str) (.pair (.int .u8) (.sl (.int .u8))))))), (c1.1, c1.2.1, c1.2.2.1, ([r1.1] : List Int), c1.2.2.2.2.1, c1.2.2.2.2.2)⟩]
 else
 keys_reader_motion_P r1.2.2 c1 r1.1 ∧ (
 ∀ (r117 : Int × (List Int × Int) × CmT), r117 = keys_reader_motion_F r1.2.2 c1 r1.1 → (
 wfR (.one (.v (.int .i64) r117.1)) → (
 K (.one (.v (.int .i64) r117.1)) [⟨.st (.pair (.sl (.int .u8)) (.int .i64)), r117.2.1⟩, ⟨.st (.pair (.int .u8) (.pair (.int .i64) (.pair (.str) (.pair (.str) (.pair (.int .u8) (.sl (.int .u8))))))), r117.2.2⟩])))))
 else
 bif (decide ((rd (0 : Int) r1.2.2.1 r1.2.2.2) = (43 : Int))) then
 bif decide (List.length ([103] : List Int) + List.length ([(rd (0 : Int) r1.2.2.1 r1.2.2.2)] : List Int) ≤ lim) then
 K (.one (.v (.int .i64) (1 : Int))) [⟨.st (.pair (.sl (.int .u8)) (.int .i64)), (r1.2.2.1, (IntKind.wrap .i64 (r1.2.2.2 + (1 : Int))))⟩, ⟨.st (.pair (.int .u8) (.pair (.int .i64) (.pair (.str) (.pair (.str) (.pair (.int .u8) (.sl (.int .u8))))))), (c1.1, c1.2.1, c1.2.2.1, (([103] : List Int) ++ ([(rd (0 : Int) r1.2.2.1 r1.2.2.2)] : List Int)), c1.2.2.2.2.1, c1.2.2.2.2.2)⟩]
 else False
 else
 ∀ (r118 : Int), r118 = strings_IndexByte_F ([120, 88, 68, 67, 89, 83, 115, 112, 80, 126, 74, 105, 97, 73, 65, 111, 79, 82, 117, 46, 18] : List Int) r1.1 → (
 wfR (.one (.v (.int .i64) r118)) → (
 bif (decide ((0 : Int) ≤ r118)) then
 K (.one (.v (.int .i64) (1 : Int))) [⟨.st (.pair (.sl (.int .u8)) (.int .i64)), r1.2.2⟩, ⟨.st (.pair (.int .u8) (.pair (.int .i64) (.pair (.str) (.pair (.str) (.pair (.int .u8) (.sl (.int .u8))))))), (c1.1, c1.2.1, c1.2.2.1, ([r1.1] : List Int), c1.2.2.2.2.1, c1.2.2.2.2.2)⟩]
 else
 keys_reader_motion_P r1.2.2 c1 r1.1 ∧ (
 ∀ (r119 : Int × (List Int × Int) × CmT), r119 = keys_reader_motion_F r1.2.2 c1 r1.1 → (
 wfR (.one (.v (.int .i64) r119.1)) → (
 K (.one (.v (.int .i64) r119.1)) [⟨.st (.pair (.sl (.int .u8)) (.int .i64)), r119.2.1⟩, ⟨.st (.pair (.int .u8) (.pair (.int .i64) (.pair (.str) (.pair (.str) (.pair (.int .u8) (.sl (.int .u8))))))), r119.2.2⟩])))))
 else
 bif (decide ((rd (0 : Int) r1.2.2.1 r1.2.2.2) = (117 : Int))) then
 bif (decide ((rd (0 : Int) r1.2.2.1 r1.2.2.2) = (117 : Int))) then
 bif decide (List.length ([103] : List Int) + List.length ([(rd (0 : Int) r1.2.2.1 r1.2.2.2)] : List Int) ≤ lim) then
 keys_reader_worked_P (r1.2.2.1, (IntKind.wrap .i64 (r1.2.2.2 + (1 : Int)))) (c1.1, c1.2.1, (([103] : List Int) ++ ([(rd (0 : Int) r1.2.2.1 r1.2.2.2)] : List Int)), c1.2.2.2.1, c1.2.2.2.2.1, c1.2.2.2.2.2) ∧ (
 ∀ (r120 : Int × (List Int × Int) × CmT), r120 = keys_reader_worked_F (r1.2.2.1, (IntKind.wrap .i64 (r1.2.2.2 + (1 : Int)))) (c1.1, c1.2.1, (([103] : List Int) ++ ([(rd (0 : Int) r1.2.2.1 r1.2.2.2)] : List Int)), c1.2.2.2.1, c1.2.2.2.2.1, c1.2.2.2.2.2) → (
 wfR (.one (.v (.int .i64) r120.1)) → (
 K (.one (.v (.int .i64) r120.1)) [⟨.st (.pair (.sl (.int .u8)) (.int .i64)), r120.2.1⟩, ⟨.st (.pair (.int .u8) (.pair (.int .i64) (.pair (.str) (.pair (.str) (.pair (.int .u8) (.sl (.int .u8))))))), r120.2.2⟩])))
 else False
 else
 bif (decide ((rd (0 : Int) r1.2.2.1 r1.2.2.2) = (45 : Int))) then
 bif (decide ((rd (0 : Int) r1.2.2.1 r1.2.2.2) = (45 : Int))) then
 bif decide (List.length ([103] : List Int) + List.length ([(rd (0 : Int) r1.2.2.1 r1.2.2.2)] : List Int) ≤ lim) then
 K (.one (.v (.int .i64) (1 : Int))) [⟨.st (.pair (.sl (.int .u8)) (.int .i64)), (r1.2.2.1, (IntKind.wrap .i64 (r1.2.2.2 + (1 : Int))))⟩, ⟨.st (.pair (.int .u8) (.pair (.int .i64) (.pair (.str) (.pair (.str) (.pair (.int .u8) (.sl (.int .u8))))))), (c1.1, c1.2.1, c1.2.2.1, (([103] : List Int) ++ ([(rd (0 : Int) r1.2.2.1 r1.2.2.2)] : List Int)), c1.2.2.2.2.1, c1.2.2.2.2.2)⟩]
 else False
 else
 ∀ (r121 : Int), r121 = strings_IndexByte_F ([120, 88, 68, 67, 89, 83, 115, 112, 80, 126, 74, 105, 97, 73, 65, 111, 79, 82, 117, 46, 18] : List Int) r1.1 → (
 wfR (.one (.v (.int .i64) r121)) → (
 bif (decide ((0 : Int) ≤ r121)) then
 K (.one (.v (.int .i64) (1 : Int))) [⟨.st (.pair (.sl (.int .u8)) (.int .i64)), r1.2.2⟩, ⟨.st (.pair (.int .u8) (.pair (.int .i64) (.pair (.str) (.pair (.str) (.pair (.int .u8) (.sl (.int .u8))))))), (c1.1, c1.2.1, c1.2.2.1, ([r1.1] : List Int), c1.2.2.2.2.1, c1.2.2.2.2.2)⟩]
 else
 keys_reader_motion_P r1.2.2 c1 r1.1 ∧ (
 ∀ (r122 : Int × (List Int × Int) × CmT), r122 = keys_reader_motion_F r1.2.2 c1 r1.1 → (
 wfR (.one (.v (.int .i64) r122.1)) → (
 K (.one (.v (.int .i64) r122.1)) [⟨.st (.pair (.sl (.int .u8)) (.int .i64)), r122.2.1⟩, ⟨.st (.pair (.int .u8) (.pair (.int .i64) (.pair (.str) (.pair (.str) (.pair (.int .u8) (.sl (.int .u8))))))), r122.2.2⟩])))))
 else
 bif (decide ((rd (0 : Int) r1.2.2.1 r1.2.2.2) = (43 : Int))) then
 bif decide (List.length ([103] : List Int) + List.length ([(rd (0 : Int) r1.2.2.1 r1.2.2.2)] : List Int) ≤ lim) then
 K (.one (.v (.int .i64) (1 : Int))) [⟨.st (.pair (.sl (.int .u8)) (.int .i64)), (r1.2.2.1, (IntKind.wrap .i64 (r1.2.2.2 + (1 : Int))))⟩, ⟨.st (.pair (.int .u8) (.pair (.int .i64) (.pair (.str) (.pair (.str) (.pair (.int .u8) (.sl (.int .u8))))))), (c1.1, c1.2.1, c1.2.2.1, (([103] : List Int) ++ ([(rd (0 : Int) r1.2.2.1 r1.2.2.2)] : List Int)), c1.2.2.2.2.1, c1.2.2.2.2.2)⟩]
 else False
 else
 ∀ (r123 : Int), r123 = strings_IndexByte_F ([120, 88, 68, 67, 89, 83, 115, 112, 80, 126, 74, 105, 97, 73, 65, 111, 79, 82, 117, 46, 18] : List Int) r1.1 → (
 wfR (.one (.v (.int .i64) r123)) → (
 bif (decide ((0 : Int) ≤ r123)) then
 K (.one (.v (.int .i64) (1 : Int))) [⟨.st (.pair (.sl (.int .u8)) (.int .i64)), r1.2.2⟩, ⟨.st (.pair (.int .u8) (.pair (.int .i64) (.pair (.str) (.pair (.str) (.pair (.int .u8) (.sl (.int .u8))))))), (c1.1, c1.2.1, c1.2.2.1, ([r1.1] : List Int), c1.2.2.2.2.1, c1.2.2.2.2.2)⟩]
 else
 keys_reader_motion_P r1.2.2 c1 r1.1 ∧ (
 ∀ (r124 : Int × (List Int × Int) × CmT), r124 = keys_reader_motion_F r1.2.2 c1 r1.1 → (
 wfR (.one (.v (.int .i64) r124.1)) → (
 K (.one (.v (.int .i64) r124.1)) [⟨.st (.pair (.sl (.int .u8)) (.int .i64)), r124.2.1⟩, ⟨.st (.pair (.int .u8) (.pair (.int .i64) (.pair (.str) (.pair (.str) (.pair (.int .u8) (.sl (.int .u8))))))), r124.2.2⟩])))))
 else
 bif (decide ((rd (0 : Int) r1.2.2.1 r1.2.2.2) = (85 : Int))) then
 bif decide (List.length ([103] : List Int) + List.length ([(rd (0 : Int) r1.2.2.1 r1.2.2.2)] : List Int) ≤ lim) then
 keys_reader_worked_P (r1.2.2.1, (IntKind.wrap .i64 (r1.2.2.2 + (1 : Int)))) (c1.1, c1.2.1, (([103] : List Int) ++ ([(rd (0 : Int) r1.2.2.1 r1.2.2.2)] : List Int)), c1.2.2.2.1, c1.2.2.2.2.1, c1.2.2.2.2.2) ∧ (
 ∀ (r125 : Int × (List Int × Int) × CmT), r125 = keys_reader_worked_F (r1.2.2.1, (IntKind.wrap .i64 (r1.2.2.2 + (1 : Int)))) (c1.1, c1.2.1, (([103] : List Int) ++ ([(rd (0 : Int) r1.2.2.1 r1.2.2.2)] : List Int)), c1.2.2.2.1, c1.2.2.2.2.1, c1.2.2.2.2.2) → (
 wfR (.one (.v (.int .i64) r125.1)) → (
 K (.one (.v (.int .i64) r125.1)) [⟨.st (.pair (.sl (.int .u8)) (.int .i64)), r125.2.1⟩, ⟨.st (.pair (.int .u8) (.pair (.int .i64) (.pair (.str) (.pair (.str) (.pair (.int .u8) (.sl (.int .u8))))))), r125.2.2⟩])))
 else False
 else
 bif (decide ((rd (0 : Int) r1.2.2.1 r1.2.2.2) = (45 : Int))) then
 bif (decide ((rd (0 : Int) r1.2.2.1 r1.2.2.2) = (45 : Int))) then
 bif decide (List.length ([103] : List Int) + List.length ([(rd (0 : Int) r1.2.2.1 r1.2.2.2)] : List Int) ≤ lim) then
 K (.one (.v (.int .i64) (1 : Int))) [⟨.st (.pair (.sl (.int .u8)) (.int .i64)), (r1.2.2.1, (IntKind.wrap .i64 (r1.2.2.2 + (1 : Int))))⟩, ⟨.st (.pair (.int .u8) (.pair (.int .i64) (.pair (.str) (.pair (.str) (.pair (.int .u8) (.sl (.int .u8))))))), (c1.1, c1.2.1, c1.2.2.1, (([103] : List Int) ++ ([(rd (0 : Int) r1.2.2.1 r1.2.2.2)] : List Int)), c1.2.2.2.2.1, c1.2.2.2.2.2)⟩]
 else False
 else
 ∀ (r126 : Int), r126 = strings_IndexByte_F ([120, 88, 68, 67, 89, 83, 115, 112, 80, 126, 74, 105, 97, 73, 65, 111, 79, 82, 117, 46, 18] : List Int) r1.1 → (
 wfR (.one (.v (.int .i64) r126)) → (
 bif (decide ((0 : Int) ≤ r126)) then
 K (.one (.v (.int .i64) (1 : Int))) [⟨.st (.pair (.sl (.int .u8)) (.int .i64)), r1.2.2⟩, ⟨.st (.pair (.int .u8) (.pair (.int .i64) (.pair (.str) (.pair (.str) (.pair (.int .u8) (.sl (.int .u8))))))), (c1.1, c1.2.1, c1.2.2.1, ([r1.1] : List Int), c1.2.2.2.2.1, c1.2.2.2.2.2)⟩]
 else
 keys_reader_motion_P r1.2.2 c1 r1.1 ∧ (
 ∀ (r127 : Int × (List Int × Int) × CmT), r127 = keys_reader_motion_F r1.2.2 c1 r1.1 → (
 wfR (.one (.v (.int .i64) r127.1)) → (
 K (.one (.v (.int .i64) r127.1)) [⟨.st (.pair (.sl (.int .u8)) (.int .i64)), r127.2.1⟩, ⟨.st (.pair (.int .u8) (.pair (.int .i64) (.pair (.str) (.pair (.str) (.pair (.int .u8) (.sl (.int .u8))))))), r127.2.2⟩])))))
 else
 bif (decide ((rd (0 : Int) r1.2.2.1 r1.2.2.2) = (43 : Int))) then
 bif decide (List.length ([103] : List Int) + List.length ([(rd (0 : Int) r1.2.2.1 r1.2.2.2)] : List Int) ≤ lim) then
 K (.one (.v (.int .i64) (1 : Int))) [⟨.st (.pair (.sl (.int .u8)) (.int .i64)), (r1.2.2.1, (IntKind.wrap .i64 (r1.2.2.2 + (1 : Int))))⟩, ⟨.st (.pair (.int .u8) (.pair (.int .i64) (.pair (.str) (.pair (.str) (.pair (.int .u8) (.sl (.int .u8))))))), (c1.1, c1.2.1, c1.2.2.1, (([103] : List Int) ++ ([(rd (0 : Int) r1.2.2.1 r1.2.2.2)] : List Int)), c1.2.2.2.2.1, c1.2.2.2.2.2)⟩]
 else False
 else
 ∀ (r128 : Int), r128 = strings_IndexByte_F ([120, 88, 68, 67, 89, 83, 115, 112, 80, 126, 74, 105, 97, 73, 65, 111, 79, 82, 117, 46, 18] : List Int) r1.1 → (
 wfR (.one (.v (.int .i64) r128)) → (
 bif (decide ((0 : Int) ≤ r128)) then
 K (.one (.v (.int .i64) (1 : Int))) [⟨.st (.pair (.sl (.int .u8)) (.int .i64)), r1.2.2⟩, ⟨.st (.pair (.int .u8) (.pair (.int .i64) (.pair (.str) (.pair (.str) (.pair (.int .u8) (.sl (.int .u8))))))), (c1.1, c1.2.1, c1.2.2.1, ([r1.1] : List Int), c1.2.2.2.2.1, c1.2.2.2.2.2)⟩]
 else
 keys_reader_motion_P r1.2.2 c1 r1.1 ∧ (
 ∀ (r129 : Int × (List Int × Int) × CmT), r129 = keys_reader_motion_F r1.2.2 c1 r1.1 → (
 wfR (.one (.v (.int .i64) r129.1)) → (
 K (.one (.v (.int .i64) r129.1)) [⟨.st (.pair (.sl (.int .u8)) (.int .i64)), r129.2.1⟩, ⟨.st (.pair (.int .u8) (.pair (.int .i64) (.pair (.str) (.pair (.str) (.pair (.int .u8) (.sl (.int .u8))))))), r129.2.2⟩])))))
 else False
 else
 ∀ (r130 : Int), r130 = strings_IndexByte_F ([120, 88, 68, 67, 89, 83, 115, 112, 80, 126, 74, 105, 97, 73, 65, 111, 79, 82, 117, 46, 18] : List Int) r1.1 → (
 wfR (.one (.v (.int .i64) r130)) → (
 bif (decide ((0 : Int) ≤ r130)) then
 K (.one (.v (.int .i64) (1 : Int))) [⟨.st (.pair (.sl (.int .u8)) (.int .i64)), r1.2.2⟩, ⟨.st (.pair (.int .u8) (.pair (.int .i64) (.pair (.str) (.pair (.str) (.pair (.int .u8) (.sl (.int .u8))))))), (c1.1, c1.2.1, c1.2.2.1, ([r1.1] : List Int), c1.2.2.2.2.1, c1.2.2.2.2.2)⟩]
 else
 keys_reader_motion_P r1.2.2 c1 r1.1 ∧ (
 ∀ (r131 : Int × (List Int × Int) × CmT), r131 = keys_reader_motion_F r1.2.2 c1 r1.1 → (
 wfR (.one (.v (.int .i64) r131.1)) → (
 K (.one (.v (.int .i64) r131.1)) [⟨.st (.pair (.sl (.int .u8)) (.int .i64)), r131.2.1⟩, ⟨.st (.pair (.int .u8) (.pair (.int .i64) (.pair (.str) (.pair (.str) (.pair (.int .u8) (.sl (.int .u8))))))), r131.2.2⟩])))))
 else
 bif (decide (r1.1 = (109 : Int))) then
 keys_reader_argument_P r1.2.2 (c1.1, c1.2.1, c1.2.2.1, ([r1.1] : List Int), c1.2.2.2.2.1, c1.2.2.2.2.2) ∧ (
 ∀ (r132 : Int × (List Int × Int) × CmT), r132 = keys_reader_argument_F r1.2.2 (c1.1, c1.2.1, c1.2.2.1, ([r1.1] : List Int), c1.2.2.2.2.1, c1.2.2.2.2.2) → (
 wfR (.one (.v (.int .i64) r132.1)) → (
 K (.one (.v (.int .i64) r132.1)) [⟨.st (.pair (.sl (.int .u8)) (.int .i64)), r132.2.1⟩, ⟨.st (.pair (.int .u8) (.pair (.int .i64) (.pair (.str) (.pair (.str) (.pair (.int .u8) (.sl (.int .u8))))))), r132.2.2⟩])))
 else
 bif (decide (r1.1 = (103 : Int))) then
 bif (decide (r1.2.2.2 = (List.length r1.2.2.1 : Int))) then
 K (.one (.v (.int .i64) (0 : Int))) [⟨.st (.pair (.sl (.int .u8)) (.int .i64)), r1.2.2⟩, ⟨.st (.pair (.int .u8) (.pair (.int .i64) (.pair (.str) (.pair (.str) (.pair (.int .u8) (.sl (.int .u8))))))), c1⟩]
 else
 bif decide (0 ≤ r1.2.2.2 ∧ r1.2.2.2 < (List.length r1.2.2.1 : Int)) then
 bif (decide ((rd (0 : Int) r1.2.2.1 r1.2.2.2) = (126 : Int))) then
 bif (decide ((rd (0 : Int) r1.2.2.1 r1.2.2.2) = (126 : Int))) then
 bif decide (List.length ([103] : List Int) + List.length ([(rd (0 : Int) r1.2.2.1 r1.2.2.2)] : List Int) ≤ lim) then
 keys_reader_worked_P (r1.2.2.1, (IntKind.wrap .i64 (r1.2.2.2 + (1 : Int)))) (c1.1, c1.2.1, (([103] : List Int) ++ ([(rd (0 : Int) r1.2.2.1 r1.2.2.2)] : List Int)), c1.2.2.2.1, c1.2.2.2.2.1, c1.2.2.2.2.2) ∧ (
 ∀ (r133 : Int × (List Int × Int) × CmT), r133 = keys_reader_worked_F (r1.2.2.1, (IntKind.wrap .i64 (r1.2.2.2 + (1 : Int)))) (c1.1, c1.2.1, (([103] : List Int) ++ ([(rd (0 : Int) r1.2.2.1 r1.2.2.2)] : List Int)), c1.2.2.2.1, c1.2.2.2.2.1, c1.2.2.2.2.2) → (
 wfR (.one (.v (.int .i64) r133.1)) → (
 K (.one (.v (.int .i64) r133.1)) [⟨.st (.pair (.sl (.int .u8)) (.int .i64)), r133.2.1⟩, ⟨.st (.pair (.int .u8) (.pair (.int .i64) (.pair (.str) (.pair (.str) (.pair (.int .u8) (.sl (.int .u8))))))), r133.2.2⟩])))
 else False
 else
 bif (decide ((rd (0 : Int) r1.2.2.1 r1.2.2.2) = (45 : Int))) then
 bif (decide ((rd (0 : Int) r1.2.2.1 r1.2.2.2) = (45 : Int))) then
 bif decide (List.length ([103] : List Int) + List.length ([(rd (0 : Int) r1.2.2.1 r1.2.2.2)] : List Int) ≤ lim) then
 K (.one (.v (.int .i64) (1 : Int))) [⟨.st (.pair (.sl (.int .u8)) (.int .i64)), (r1.2.2.1, (IntKind.wrap .i64 (r1.2.2.2 + (1 : Int))))⟩, ⟨.st (.pair (.int .u8) (.pair (.int .i64) (.pair (.str) (.pair (.str) (.pair (.int .u8) (.sl (.int .u8))))))), (c1.1, c1.2.1, c1.2.2.1, (([103] : List Int) ++ ([(rd (0 : Int) r1.2.2.1 r1.2.2.2)] : List Int)), c1.2.2.2.2.1, c1.2.2.2.2.2)⟩]
 else False
 else
 ∀ (r134 : Int), r134 = strings_IndexByte_F ([120, 88, 68, 67, 89, 83, 115, 112, 80, 126, 74, 105, 97, 73, 65, 111, 79, 82, 117, 46, 18] : List Int) r1.1 → (
 wfR (.one (.v (.int .i64) r134)) → (
 bif (decide ((0 : Int) ≤ r134)) then
 K (.one (.v (.int .i64) (1 : Int))) [⟨.st (.pair (.sl (.int .u8)) (.int .i64)), r1.2.2⟩, ⟨.st (.pair (.int .u8) (.pair (.int .i64) (.pair (.str) (.pair (.str) (.pair (.int .u8) (.sl (.int .u8))))))), (c1.1, c1.2.1, c1.2.2.1, ([r1.1] : List Int), c1.2.2.2.2.1, c1.2.2.2.2.2)⟩]
 else
 keys_reader_motion_P r1.2.2 c1 r1.1 ∧ (
 ∀ (r135 : Int × (List Int × Int) × CmT), r135 = keys_reader_motion_F r1.2.2 c1 r1.1 → (
 wfR (.one (.v (.int .i64) r135.1)) → (
 K (.one (.v (.int .i64) r135.1)) [⟨.st (.pair (.sl (.int .u8)) (.int .i64)), r135.2.1⟩, ⟨.st (.pair (.int .u8) (.pair (.int .i64) (.pair (.str) (.pair (.str) (.pair (.int .u8) (.sl (.int .u8))))))), r135.2.2⟩])))))
 else
 bif (decide ((rd (0 : Int) r1.2.2.1 r1.2.2.2) = (43 : Int))) then
 bif decide (List.length ([103] : List Int) + List.length ([(rd (0 : Int) r1.2.2.1 r1.2.2.2)] : List Int) ≤ lim) then
 K (.one (.v (.int .i64) (1 : Int))) [⟨.st (.pair (.sl (.int .u8)) (.int .i64)), (r1.2.2.1, (IntKind.wrap .i64 (r1.2.2.2 + (1 : Int))))⟩, ⟨.st (.pair (.int .u8) (.pair (.int .i64) (.pair (.str) (.pair (.str) (.pair (.int .u8) (.sl (.int .u8))))))), (c1.1, c1.2.1, c1.2.2.1, (([103] : List Int) ++ ([(rd (0 : Int) r1.2.2.1 r1.2.2.2)] : List Int)), c1.2.2.2.2.1, c1.2.2.2.2.2)⟩]
 else False
 else
 ∀ (r136 : Int), r136 = strings_IndexByte_F ([120, 88, 68, 67, 89, 83, 115, 112, 80, 126, 74, 105, 97, 73, 65, 111, 79, 82, 117, 46, 18] : List Int) r1.1 → (
 wfR (.one (.v (.int .i64) r136)) → (
 bif (decide ((0 : Int) ≤ r136)) then
 K (.one (.v (.int .i64) (1 : Int))) [⟨.st (.pair (.sl (.int .u8)) (.int .i64)), r1.2.2⟩, ⟨.st (.pair (.int .u8) (.pair (.int .i64) (.pair (.str) (.pair (.str) (.pair (.int .u8) (.sl (.int .u8))))))), (c1.1, c1.2.1, c1.2.2.1, ([r1.1] : List Int), c1.2.2.2.2.1, c1.2.2.2.2.2)⟩]
 else
 keys_reader_motion_P r1.2.2 c1 r1.1 ∧ (
 ∀ (r137 : Int × (List Int × Int) × CmT), r137 = keys_reader_motion_F r1.2.2 c1 r1.1 → (
 wfR (.one (.v (.int .i64) r137.1)) → (
 K (.one (.v (.int .i64) r137.1)) [⟨.st (.pair (.sl (.int .u8)) (.int .i64)), r137.2.1⟩, ⟨.st (.pair (.int .u8) (.pair (.int .i64) (.pair (.str) (.pair (.str) (.pair (.int .u8) (.sl (.int .u8))))))), r137.2.2⟩])))))
 else
 bif (decide ((rd (0 : Int) r1.2.2.1 r1.2.2.2) = (117 : Int))) then
 bif (decide ((rd (0 : Int) r1.2.2.1 r1.2.2.2) = (117 : Int))) then
 bif decide (List.length ([103] : List Int) + List.length ([(rd (0 : Int) r1.2.2.1 r1.2.2.2)] : List Int) ≤ lim) then
 keys_reader_worked_P (r1.2.2.1, (IntKind.wrap .i64 (r1.2.2.2 + (1 : Int)))) (c1.1, c1.2.1, (([103] : List Int) ++ ([(rd (0 : Int) r1.2.2.1 r1.2.2.2)] : List Int)), c1.2.2.2.1, c1.2.2.2.2.1, c1.2.2.2.2.2) ∧ (
 ∀ (r138 : Int × (List Int × Int) × CmT), r138 = keys_reader_worked_F (r1.2.2.1, (IntKind.wrap .i64 (r1.2.2.2 + (1 : Int)))) (c1.1, c1.2.1, (([103] : List Int) ++ ([(rd (0 : Int) r1.2.2.1 r1.2.2.2)] : List Int)), c1.2.2.2.1, c1.2.2.2.2.1, c1.2.2.2.2.2) → (
 wfR (.one (.v (.int .i64) r138.1)) → (
 K (.one (.v (.int .i64) r138.1)) [⟨.st (.pair (.sl (.int .u8)) (.int .i64)), r138.2.1⟩, ⟨.st (.pair (.int .u8) (.pair (.int .i64) (.pair (.str) (.pair (.str) (.pair (.int .u8) (.sl (.int .u8))))))), r138.2.2⟩])))
 else False
 else
 bif (decide ((rd (0 : Int) r1.2.2.1 r1.2.2.2) = (45 : Int))) then
 bif (decide ((rd (0 : Int) r1.2.2.1 r1.2.2.2) = (45 : Int))) then
 bif decide (List.length ([103] : List Int) + List.length ([(rd (0 : Int) r1.2.2.1 r1.2.2.2)] : List Int) ≤ lim) then
 K (.one (.v (.int .i64) (1 : Int))) [⟨.st (.pair (.sl (.int .u8)) (.int .i64)), (r1.2.2.1, (IntKind.wrap .i64 (r1.2.2.2 + (1 : Int))))⟩, ⟨.st (.pair (.int .u8) (.pair (.int .i64) (.pair (.str) (.pair (.str) (.pair (.int .u8) (.sl (.int .u8))))))), (c1.1, c1.2.1, c1.2.2.1, (([103] : List Int) ++ ([(rd (0 : Int) r1.2.2.1 r1.2.2.2)] : List Int)), c1.2.2.2.2.1, c1.2.2.2.2.2)⟩]
 else False
 else
 ∀ (r139 : Int), r139 = strings_IndexByte_F ([120, 88, 68, 67, 89, 83, 115, 112, 80, 126, 74, 105, 97, 73, 65, 111, 79, 82, 117, 46, 18] : List Int) r1.1 → (
 wfR (.one (.v (.int .i64) r139)) → (
 bif (decide ((0 : Int) ≤ r139)) then
 K (.one (.v (.int .i64) (1 : Int))) [⟨.st (.pair (.sl (.int .u8)) (.int .i64)), r1.2.2⟩, ⟨.st (.pair (.int .u8) (.pair (.int .i64) (.pair (.str) (.pair (.str) (.pair (.int .u8) (.sl (.int .u8))))))), (c1.1, c1.2.1, c1.2.2.1, ([r1.1] : List Int), c1.2.2.2.2.1, c1.2.2.2.2.2)⟩]
 else
 keys_reader_motion_P r1.2.2 c1 r1.1 ∧ (
 ∀ (r140 : Int × (List Int × Int) × CmT), r140 = keys_reader_motion_F r1.2.2 c1 r1.1 → (
 wfR (.one (.v (.int .i64) r140.1)) → (
 K (.one (.v (.int .i64) r140.1)) [⟨.st (.pair (.sl (.int .u8)) (.int .i64)), r140.2.1⟩, ⟨.st (.pair (.int .u8) (.pair (.int .i64) (.pair (.str) (.pair (.str) (.pair (.int .u8) (.sl (.int .u8))))))), r140.2.2⟩])))))
 else
 bif (decide ((rd (0 : Int) r1.2.2.1 r1.2.2.2) = (43 : Int))) then
 bif decide (List.length ([103] : List Int) + List.length ([(rd (0 : Int) r1.2.2.1 r1.2.2.2)] : List Int) ≤ lim) then
 K (.one (.v (.int .i64) (1 : Int))) [⟨.st (.pair (.sl (.int .u8)) (.int .i64)), (r1.2.2.1, (IntKind.wrap .i64 (r1.2.2.2 + (1 : Int))))⟩, ⟨.st (.pair (.int .u8) (.pair (.int .i64) (.pair (.str) (.pair (.str) (.pair (.int .u8) (.sl (.int .u8))))))), (c1.1, c1.2.1, c1.2.2.1, (([103] : List Int) ++ ([(rd (0 : Int) r1.2.2.1 r1.2.2.2)] : List Int)), c1.2.2.2.2.1, c1.2.2.2.2.2)⟩]
 else False
 else
 ∀ (r141 : Int), r141 = strings_IndexByte_F ([120, 88, 68, 67, 89, 83, 115, 112, 80, 126, 74, 105, 97, 73, 65, 111, 79, 82, 117, 46, 18] : List Int) r1.1 → (
 wfR (.one (.v (.int .i64) r141)) → (
 bif (decide ((0 : Int) ≤ r141)) then
 K (.one (.v (.int .i64) (1 : Int))) [⟨.st (.pair (.sl (.int .u8)) (.int .i64)), r1.2.2⟩, ⟨.st (.pair (.int .u8) (.pair (.int .i64) (.pair (.str) (.pair (.str) (.pair (.int .u8) (.sl (.int .u8))))))), (c1.1, c1.2.1, c1.2.2.1, ([r1.1] : List Int), c1.2.2.2.2.1, c1.2.2.2.2.2)⟩]
 else
 keys_reader_motion_P r1.2.2 c1 r1.1 ∧ (
 ∀ (r142 : Int × (List Int × Int) × CmT), r142 = keys_reader_motion_F r1.2.2 c1 r1.1 → (
 wfR (.one (.v (.int .i64) r142.1)) → (
 K (.one (.v (.int .i64) r142.1)) [⟨.st (.pair (.sl (.int .u8)) (.int .i64)), r142.2.1⟩, ⟨.st (.pair (.int .u8) (.pair (.int .i64) (.pair (.str) (.pair (.str) (.pair (.int .u8) (.sl (.int .u8))))))), r142.2.2⟩])))))
 else
 bif (decide ((rd (0 : Int) r1.2.2.1 r1.2.2.2) = (85 : Int))) then
 bif decide (List.length ([103] : List Int) + List.length ([(rd (0 : Int) r1.2.2.1 r1.2.2.2)] : List Int) ≤ lim) then
 keys_reader_worked_P (r1.2.2.1, (IntKind.wrap .i64 (r1.2.2.2 + (1 : Int)))) (c1.1, c1.2.1, (([103] : List Int) ++ ([(rd (0 : Int) r1.2.2.1 r1.2.2.2)] : List Int)), c1.2.2.2.1, c1.2.2.2.2.1, c1.2.2.2.2.2) ∧ (
 ∀ (r143 : Int × (List Int × Int) × CmT), r143 = keys_reader_worked_F (r1.2.2.1, (IntKind.wrap .i64 (r1.2.2.2 + (1 : Int)))) (c1.1, c1.2.1, (([103] : List Int) ++ ([(rd (0 : Int) r1.2.2.1 r1.2.2.2)] : List Int)), c1.2.2.2.1, c1.2.2.2.2.1, c1.2.2.2.2.2) → (
 wfR (.one (.v (.int .i64) r143.1)) → (
 K (.one (.v (.int .i64) r143.1)) [⟨.st (.pair (.sl (.int .u8)) (.int .i64)), r143.2.1⟩, ⟨.st (.pair (.int .u8) (.pair (.int .i64) (.pair (.str) (.pair (.str) (.pair (.int .u8) (.sl (.int .u8))))))), r143.2.2⟩])))
 else False
 else
 bif (decide ((rd (0 : Int) r1.2.2.1 r1.2.2.2) = (45 : Int))) then
 bif (decide ((rd (0 : Int) r1.2.2.1 r1.2.2.2) = (45 : Int))) then
 bif decide (List.length ([103] : List Int) + List.length ([(rd (0 : Int) r1.2.2.1 r1.2.2.2)] : List Int) ≤ lim) then
 K (.one (.v (.int .i64) (1 : Int))) [⟨.st (.pair (.sl (.int .u8)) (.int .i64)), (r1.2.2.1, (IntKind.wrap .i64 (r1.2.2.2 + (1 : Int))))⟩, ⟨.st (.pair (.int .u8) (.pair (.int .i64) (.pair (.str) (.pair (.str) (.pair (.int .u8) (.sl (.int .u8))))))), (c1.1, c1.2.1, c1.2.2.1, (([103] : List Int) ++ ([(rd (0 : Int) r1.2.2.1 r1.2.2.2)] : List Int)), c1.2.2.2.2.1, c1.2.2.2.2.2)⟩]
 else False
 else
 ∀ (r144 : Int), r144 = strings_IndexByte_F ([120, 88, 68, 67, 89, 83, 115, 112, 80, 126, 74, 105, 97, 73, 65, 111, 79, 82, 117, 46, 18] : List Int) r1.1 → (
 wfR (.one (.v (.int .i64) r144)) → (
 bif (decide ((0 : Int) ≤ r144)) then
 K (.one (.v (.int .i64) (1 : Int))) [⟨.st (.pair (.sl (.int .u8)) (.int .i64)), r1.2.2⟩, ⟨.st (.pair (.int .u8) (.pair (.int .i64) (.pair (.str) (.pair (.str) (.pair (.int .u8) (.sl (.int .u8))))))), (c1.1, c1.2.1, c1.2.2.1, ([r1.1] : List Int), c1.2.2.2.2.1, c1.2.2.2.2.2)⟩]
 else
 keys_reader_motion_P r1.2.2 c1 r1.1 ∧ (
 ∀ (r145 : Int × (List Int × Int) × CmT), r145 = keys_reader_motion_F r1.2.2 c1 r1.1 → (
 wfR (.one (.v (.int .i64) r145.1)) → (
 K (.one (.v (.int .i64) r145.1)) [⟨.st (.pair (.sl (.int .u8)) (.int .i64)), r145.2.1⟩, ⟨.st (.pair (.int .u8) (.pair (.int .i64) (.pair (.str) (.pair (.str) (.pair (.int .u8) (.sl (.int .u8))))))), r145.2.2⟩])))))
 else
 bif (decide ((rd (0 : Int) r1.2.2.1 r1.2.2.2) = (43 : Int))) then
 bif decide (List.length ([103] : List Int) + List.length ([(rd (0 : Int) r1.2.2.1 r1.2.2.2)] : List Int) ≤ lim) then
 K (.one (.v (.int .i64) (1 : Int))) [⟨.st (.pair (.sl (.int .u8)) (.int .i64)), (r1.2.2.1, (IntKind.wrap .i64 (r1.2.2.2 + (1 : Int))))⟩, ⟨.st (.pair (.int .u8) (.pair (.int .i64) (.pair (.str) (.pair (.str) (.pair (.int .u8) (.sl (.int .u8))))))), (c1.1, c1.2.1, c1.2.2.1, (([103] : List Int) ++ ([(rd (0 : Int) r1.2.2.1 r1.2.2.2)] : List Int)), c1.2.2.2.2.1, c1.2.2.2.2.2)⟩]
 else False
 else
 ∀ (r146 : Int), r146 = strings_IndexByte_F ([120, 88, 68, 67, 89, 83, 115, 112, 80, 126, 74, 105, 97, 73, 65, 111, 79, 82, 117, 46, 18] : List Int) r1.1 → (
 wfR (.one (.v (.int .i64) r146)) → (
 bif (decide ((0 : Int) ≤ r146)) then
 K (.one (.v (.int .i64) (1 : Int))) [⟨.st (.pair (.sl (.int .u8)) (.int .i64)), r1.2.2⟩, ⟨.st (.pair (.int .u8) (.pair (.int .i64) (.pair (.str) (.pair (.str) (.pair (.int .u8) (.sl (.int .u8))))))), (c1.1, c1.2.1, c1.2.2.1, ([r1.1] : List Int), c1.2.2.2.2.1, c1.2.2.2.2.2)⟩]
 else
 keys_reader_motion_P r1.2.2 c1 r1.1 ∧ (
 ∀ (r147 : Int × (List Int × Int) × CmT), r147 = keys_reader_motion_F r1.2.2 c1 r1.1 → (
 wfR (.one (.v (.int .i64) r147.1)) → (
 K (.one (.v (.int .i64) r147.1)) [⟨.st (.pair (.sl (.int .u8)) (.int .i64)), r147.2.1⟩, ⟨.st (.pair (.int .u8) (.pair (.int .i64) (.pair (.str) (.pair (.str) (.pair (.int .u8) (.sl (.int .u8))))))), r147.2.2⟩])))))
 else False
 else
 ∀ (r148 : Int), r148 = strings_IndexByte_F ([120, 88, 68, 67, 89, 83, 115, 112, 80, 126, 74, 105, 97, 73, 65, 111, 79, 82, 117, 46, 18] : List Int) r1.1 → (
 wfR (.one (.v (.int .i64) r148)) → (
 bif (decide ((0 : Int) ≤ r148)) then
 K (.one (.v (.int .i64) (1 : Int))) [⟨.st (.pair (.sl (.int .u8)) (.int .i64)), r1.2.2⟩, ⟨.st (.pair (.int .u8) (.pair (.int .i64) (.pair (.str) (.pair (.str) (.pair (.int .u8) (.sl (.int .u8))))))), (c1.1, c1.2.1, c1.2.2.1, ([r1.1] : List Int), c1.2.2.2.2.1, c1.2.2.2.2.2)⟩]
 else
 keys_reader_motion_P r1.2.2 c1 r1.1 ∧ (
 ∀ (r149 : Int × (List Int × Int) × CmT), r149 = keys_reader_motion_F r1.2.2 c1 r1.1 → (
 wfR (.one (.v (.int .i64) r149.1)) → (
 K (.one (.v (.int .i64) r149.1)) [⟨.st (.pair (.sl (.int .u8)) (.int .i64)), r149.2.1⟩, ⟨.st (.pair (.int .u8) (.pair (.int .i64) (.pair (.str) (.pair (.str) (.pair (.int .u8) (.sl (.int .u8))))))), r149.2.2⟩])))))
 else
 bif (decide (r1.1 = (60 : Int))) then
 keys_reader_worked_P r1.2.2 (c1.1, c1.2.1, ([r1.1] : List Int), c1.2.2.2.1, c1.2.2.2.2.1, c1.2.2.2.2.2) ∧ (
 ∀ (r150 : Int × (List Int × Int) × CmT), r150 = keys_reader_worked_F r1.2.2 (c1.1, c1.2.1, ([r1.1] : List Int), c1.2.2.2.1, c1.2.2.2.2.1, c1.2.2.2.2.2) → (
 wfR (.one (.v (.int .i64) r150.1)) → (
 K (.one (.v (.int .i64) r150.1)) [⟨.st (.pair (.sl (.int .u8)) (.int .i64)), r150.2.1⟩, ⟨.st (.pair (.int .u8) (.pair (.int .i64) (.pair (.str) (.pair (.str) (.pair (.int .u8) (.sl (.int .u8))))))), r150.2.2⟩])))
 else
 bif (decide (r1.1 = (58 : Int))) then
 K (.one (.v (.int .i64) (3 : Int))) [⟨.st (.pair (.sl (.int .u8)) (.int .i64)), r1.2.2⟩, ⟨.st (.pair (.int .u8) (.pair (.int .i64) (.pair (.str) (.pair (.str) (.pair (.int .u8) (.sl (.int .u8))))))), (c1.1, c1.2.1, c1.2.2.1, ([58] : List Int), c1.2.2.2.2.1, c1.2.2.2.2.2)⟩]
 else
 bif (decide (r1.1 = (114 : Int))) then
 bif (decide (r1.1 = (114 : Int))) then
 keys_reader_argument_P r1.2.2 (c1.1, c1.2.1, c1.2.2.1, ([r1.1] : List Int), c1.2.2.2.2.1, c1.2.2.2.2.2) ∧ (
 ∀ (r151 : Int × (List Int × Int) × CmT), r151 = keys_reader_argument_F r1.2.2 (c1.1, c1.2.1, c1.2.2.1, ([r1.1] : List Int), c1.2.2.2.2.1, c1.2.2.2.2.2) → (
 wfR (.one (.v (.int .i64) r151.1)) → (
 K (.one (.v (.int .i64) r151.1)) [⟨.st (.pair (.sl (.int .u8)) (.int .i64)), r151.2.1⟩, ⟨.st (.pair (.int .u8) (.pair (.int .i64) (.pair (.str) (.pair (.str) (.pair (.int .u8) (.sl (.int .u8))))))), r151.2.2⟩])))
 else
 bif (decide (r1.1 = (103 : Int))) then
 bif (decide (r1.2.2.2 = (List.length r1.2.2.1 : Int))) then
 K (.one (.v (.int .i64) (0 : Int))) [⟨.st (.pair (.sl (.int .u8)) (.int .i64)), r1.2.2⟩, ⟨.st (.pair (.int .u8) (.pair (.int .i64) (.pair (.str) (.pair (.str) (.pair (.int .u8) (.sl (.int .u8))))))), c1⟩]
 else
 bif decide (0 ≤ r1.2.2.2 ∧ r1.2.2.2 < (List.length r1.2.2.1 : Int)) then
 bif (decide ((rd (0 : Int) r1.2.2.1 r1.2.2.2) = (126 : Int))) then
 bif (decide ((rd (0 : Int) r1.2.2.1 r1.2.2.2) = (126 : Int))) then
 bif decide (List.length ([103] : List Int) + List.length ([(rd (0 : Int) r1.2.2.1 r1.2.2.2)] : List Int) ≤ lim) then
 keys_reader_worked_P (r1.2.2.1, (IntKind.wrap .i64 (r1.2.2.2 + (1 : Int)))) (c1.1, c1.2.1, (([103] : List Int) ++ ([(rd (0 : Int) r1.2.2.1 r1.2.2.2)] : List Int)), c1.2.2.2.1, c1.2.2.2.2.1, c1.2.2.2.2.2) ∧ (
 ∀ (r152 : Int × (List Int × Int) × CmT), r152 = keys_reader_worked_F (r1.2.2.1, (IntKind.wrap .i64 (r1.2.2.2 + (1 : Int)))) (c1.1, c1.2.1, (([103] : List Int) ++ ([(rd (0 : Int) r1.2.2.1 r1.2.2.2)] : List Int)), c1.2.2.2.1, c1.2.2.2.2.1, c1.2.2.2.2.2) → (
 wfR (.one (.v (.int .i64) r152.1)) → (
 K (.one (.v (.int .i64) r152.1)) [⟨.st (.pair (.sl (.int .u8)) (.int .i64)), r152.2.1⟩, ⟨.st (.pair (.int .u8) (.pair (.int .i64) (.pair (.str) (.pair (.str) (.pair (.int .u8) (.sl (.int .u8))))))), r152.2.2⟩])))
 else False
 else
 bif (decide ((rd (0 : Int) r1.2.2.1 r1.2.2.2) = (45 : Int))) then
 bif (decide ((rd (0 : Int) r1.2.2.1 r1.2.2.2) = (45 : Int))) then
 bif decide (List.length ([103] : List Int) + List.length ([(rd (0 : Int) r1.2.2.1 r1.2.2.2)] : List Int) ≤ lim) then
 K (.one (.v (.int .i64) (1 : Int))) [⟨.st (.pair (.sl (.int .u8)) (.int .i64)), (r1.2.2.1, (IntKind.wrap .i64 (r1.2.2.2 + (1 : Int))))⟩, ⟨.st (.pair (.int .u8) (.pair (.int .i64) (.pair (.str) (.pair (.str) (.pair (.int .u8) (.sl (.int .u8))))))), (c1.1, c1.2.1, c1.2.2.1, (([103] : List Int) ++ ([(rd (0 : Int) r1.2.2.1 r1.2.2.2)] : List Int)), c1.2.2.2.2.1, c1.2.2.2.2.2)⟩]
 else False
 else
 ∀ (r153 : Int), r153 = strings_IndexByte_F ([120, 88, 68, 67, 89, 83, 115, 112, 80, 126, 74, 105, 97, 73, 65, 111, 79, 82, 117, 46, 18] : List Int) r1.1 → (
 wfR (.one (.v (.int .i64) r153)) → (
 bif (decide ((0 : Int) ≤ r153)) then
 K (.one (.v (.int .i64) (1 : Int))) [⟨.st (.pair (.sl (.int .u8)) (.int .i64)), r1.2.2⟩, ⟨.st (.pair (.int .u8) (.pair (.int .i64) (.pair (.str) (.pair (.str) (.pair (.int .u8) (.sl (.int .u8))))))), (c1.1, c1.2.1, c1.2.2.1, ([r1.1] : List Int), c1.2.2.2.2.1, c1.2.2.2.2.2)⟩]
 else
 keys_reader_motion_P r1.2.2 c1 r1.1 ∧ (
 ∀ (r154 : Int × (List Int × Int) × CmT), r154 = keys_reader_motion_F r1.2.2 c1 r1.1 → (
 wfR (.one (.v (.int .i64) r154.1)) → (
 K (.one (.v (.int .i64) r154.1)) [⟨.st (.pair (.sl (.int .u8)) (.int .i64)), r154.2.1⟩, ⟨.st (.pair (.int .u8) (.pair (.int .i64) (.pair (.str) (.pair (.str) (.pair (.int .u8) (.sl (.int .u8))))))), r154.2.2⟩])))))
 else
 bif (decide ((rd (0 : Int) r1.2.2.1 r1.2.2.2) = (43 : Int))) then
 bif decide (List.length ([103] : List Int) + List.length ([(rd (0 : Int) r1.2.2.1 r1.2.2.2)] : List Int) ≤ lim) then
 K (.one (.v (.int .i64) (1 : Int))) [⟨.st (.pair (.sl (.int .u8)) (.int .i64)), (r1.2.2.1, (IntKind.wrap .i64 (r1.2.2.2 + (1 : Int))))⟩, ⟨.st (.pair (.int .u8) (.pair (.int .i64) (.pair (.str) (.pair (.str) (.pair (.int .u8) (.sl (.int .u8))))))), (c1.1, c1.2.1, c1.2.2.1, (([103] : List Int) ++ ([(rd (0 : Int) r1.2.2.1 r1.2.2.2)] : List Int)), c1.2.2.2.2.1, c1.2.2.2.2.2)⟩]
 else False
 else
 ∀ (r155 : Int), r155 = strings_IndexByte_F ([120, 88, 68, 67, 89, 83, 115, 112, 80, 126, 74, 105, 97, 73, 65, 111, 79, 82, 117, 46, 18] : List Int) r1.1 → (
 wfR (.one (.v (.int .i64) r155)) → (
 bif (decide ((0 : Int) ≤ r155)) then
 K (.one (.v (.int .i64) (1 : Int))) [⟨.st (.pair (.sl (.int .u8)) (.int .i64)), r1.2.2⟩, ⟨.st (.pair (.int .u8) (.pair (.int .i64) (.pair (.str) (.pair (.str) (.pair (.int .u8) (.sl (.int .u8))))))), (c1.1, c1.2.1, c1.2.2.1, ([r1.1] : List Int), c1.2.2.2.2.1, c1.2.2.2.2.2)⟩]
 else
 keys_reader_motion_P r1.2.2 c1 r1.1 ∧ (
 ∀ (r156 : Int × (List Int × Int) × CmT), r156 = keys_reader_motion_F r1.2.2 c1 r1.1 → (
 wfR (.one (.v (.int .i64) r156.1)) → (
 K (.one (.v (.int .i64) r156.1)) [⟨.st (.pair (.sl (.int .u8)) (.int .i64)), r156.2.1⟩, ⟨.st (.pair (.int .u8) (.pair (.int .i64) (.pair (.str) (.pair (.str) (.pair (.int .u8) (.sl (.int .u8))))))), r156.2.2⟩])))))
 else
 bif (decide ((rd (0 : Int) r1.2.2.1 r1.2.2.2) = (117 : Int))) then
 bif (decide ((rd (0 : Int) r1.2.2.1 r1.2.2.2) = (117 : Int))) then
 bif decide (List.length ([103] : List Int) + List.length ([(rd (0 : Int) r1.2.2.1 r1.2.2.2)] : List Int) ≤ lim) then
 keys_reader_worked_P (r1.2.2.1, (IntKind.wrap .i64 (r1.2.2.2 + (1 : Int)))) (c1.1, c1.2.1, (([103] : List Int) ++ ([(rd (0 : Int) r1.2.2.1 r1.2.2.2)] : List Int)), c1.2.2.2.1, c1.2.2.2.2.1, c1.2.2.2.2.2) ∧ (
 ∀ (r157 : Int × (List Int × Int) × CmT), r157 = keys_reader_worked_F (r1.2.2.1, (IntKind.wrap .i64 (r1.2.2.2 + (1 : Int)))) (c1.1, c1.2.1, (([103] : List Int) ++ ([(rd (0 : Int) r1.2.2.1 r1.2.2.2)] : List Int)), c1.2.2.2.1, c1.2.2.2.2.1, c1.2.2.2.2.2) → (
 wfR (.one (.v (.int .i64) r157.1)) → (
 K (.one (.v (.int .i64) r157.1)) [⟨.st (.pair (.sl (.int .u8)) (.int .i64)), r157.2.1⟩, ⟨.st (.pair (.int .u8) (.pair (.int .i64) (.pair (.str) (.pair (.str) (.pair (.int .u8) (.sl (.int .u8))))))), r157.2.2⟩])))
 else False
 else
 bif (decide ((rd (0 : Int) r1.2.2.1 r1.2.2.2) = (45 : Int))) then
 bif (decide ((rd (0 : Int) r1.2.2.1 r1.2.2.2) = (45 : Int))) then
 bif decide (List.length ([103] : List Int) + List.length ([(rd (0 : Int) r1.2.2.1 r1.2.2.2)] : List Int) ≤ lim) then
 K (.one (.v (.int .i64) (1 : Int))) [⟨.st (.pair (.sl (.int .u8)) (.int .i64)), (r1.2.2.1, (IntKind.wrap .i64 (r1.2.2.2 + (1 : Int))))⟩, ⟨.st (.pair (.int .u8) (.pair (.int .i64) (.pair (.str) (.pair (.str) (.pair (.int .u8) (.sl (.int .u8))))))), (c1.1, c1.2.1, c1.2.2.1, (([103] : List Int) ++ ([(rd (0 : Int) r1.2.2.1 r1.2.2.2)] : List Int)), c1.2.2.2.2.1, c1.2.2.2.2.2)⟩]
 else False
 else
 ∀ (r158 : Int), r158 = strings_IndexByte_F ([120, 88, 68, 67, 89, 83, 115, 112, 80, 126, 74, 105, 97, 73, 65, 111, 79, 82, 117, 46, 18] : List Int) r1.1 → (
 wfR (.one (.v (.int .i64) r158)) → (
 bif (decide ((0 : Int) ≤ r158)) then
 K (.one (.v (.int .i64) (1 : Int))) [⟨.st (.pair (.sl (.int .u8)) (.int .i64)), r1.2.2⟩, ⟨.st (.pair (.int .u8) (.pair (.int .i64) (.pair (.str) (.pair (.str) (.pair (.int .u8) (.sl (.int .u8))))))), (c1.1, c1.2.1, c1.2.2.1, ([r1.1] : List Int), c1.2.2.2.2.1, c1.2.2.2.2.2)⟩]
 else
 keys_reader_motion_P r1.2.2 c1 r1.1 ∧ (
 ∀ (r159 : Int × (List Int × Int) × CmT), r159 = keys_reader_motion_F r1.2.2 c1 r1.1 → (
 wfR (.one (.v (.int .i64) r159.1)) → (
 K (.one (.v (.int .i64) r159.1)) [⟨.st (.pair (.sl (.int .u8)) (.int .i64)), r159.2.1⟩, ⟨.st (.pair (.int .u8) (.pair (.int .i64) (.pair (.str) (.pair (.str) (.pair (.int .u8) (.sl (.int .u8))))))), r159.2.2⟩])))))
 else
 bif (decide ((rd (0 : Int) r1.2.2.1 r1.2.2.2) = (43 : Int))) then
 bif decide (List.length ([103] : List Int) + List.length ([(rd (0 : Int) r1.2.2.1 r1.2.2.2)] : List Int) ≤ lim) then
 K (.one (.v (.int .i64) (1 : Int))) [⟨.st (.pair (.sl (.int .u8)) (.int .i64)), (r1.2.2.1, (IntKind.wrap .i64 (r1.2.2.2 + (1 : Int))))⟩, ⟨.st (.pair (.int .u8) (.pair (.int .i64) (.pair (.str) (.pair (.str) (.pair (.int .u8) (.sl (.int .u8))))))), (c1.1, c1.2.1, c1.2.2.1, (([103] : List Int) ++ ([(rd (0 : Int) r1.2.2.1 r1.2.2.2)] : List Int)), c1.2.2.2.2.1, c1.2.2.2.2.2)⟩]
 else False
 else
 ∀ (r160 : Int), r160 = strings_IndexByte_F ([120, 88, 68, 67, 89, 83, 115, 112, 80, 126, 74, 105, 97, 73, 65, 111, 79, 82, 117, 46, 18] : List Int) r1.1 → (
 wfR (.one (.v (.int .i64) r160)) → (
 bif (decide ((0 : Int) ≤ r160)) then
 K (.one (.v (.int .i64) (1 : Int))) [⟨.st (.pair (.sl (.int .u8)) (.int .i64)), r1.2.2⟩, ⟨.st (.pair (.int .u8) (.pair (.int .i64) (.pair (.str) (.pair (.str) (.pair (.int .u8) (.sl (.int .u8))))))), (c1.1, c1.2.1, c1.2.2.1, ([r1.1] : List Int), c1.2.2.2.2.1, c1.2.2.2.2.2)⟩]
 else
 keys_reader_motion_P r1.2.2 c1 r1.1 ∧ (
 ∀ (r161 : Int × (List Int × Int) × CmT), r161 = keys_reader_motion_F r1.2.2 c1 r1.1 → (
 wfR (.one (.v (.int .i64) r161.1)) → (
 K (.one (.v (.int .i64) r161.1)) [⟨.st (.pair (.sl (.int .u8)) (.int .i64)), r161.2.1⟩, ⟨.st (.pair (.int .u8) (.pair (.int .i64) (.pair (.str) (.pair (.str) (.pair (.int .u8) (.sl (.int .u8))))))), r161.2.2⟩])))))
 else
 bif (decide ((rd (0 : Int) r1.2.2.1 r1.2.2.2) = (85 : Int))) then
 bif decide (List.length ([103] : List Int) + List.length ([(rd (0 : Int) r1.2.2.1 r1.2.2.2)] : List Int) ≤ lim) then
 keys_reader_worked_P (r1.2.2.1, (IntKind.wrap .i64 (r1.2.2.2 + (1 : Int)))) (c1.1, c1.2.1, (([103] : List Int) ++ ([(rd (0 : Int) r1.2.2.1 r1.2.2.2)] : List Int)), c1.2.2.2.1, c1.2.2.2.2.1, c1.2.2.2.2.2) ∧ (
 ∀ (r162 : Int × (List Int × Int) × CmT), r162 = keys_reader_worked_F (r1.2.2.1, (IntKind.wrap .i64 (r1.2.2.2 + (1 : Int)))) (c1.1, c1.2.1, (([103] : List Int) ++ ([(rd (0 : Int) r1.2.2.1 r1.2.2.2)] : List Int)), c1.2.2.2.1, c1.2.2.2.2.1, c1.2.2.2.2.2) → (
 wfR (.one (.v (.int .i64) r162.1)) → (
 K (.one (.v (.int .i64) r162.1)) [⟨.st (.pair (.sl (.int .u8)) (.int .i64)), r162.2.1⟩, ⟨.st (.pair (.int .u8) (.pair (.int .i64) (.pair (.str) (.pair (.str) (.pair (.int .u8) (.sl (.int .u8))))))), r162.2.2⟩])))
 else False
 else
 bif (decide ((rd (0 : Int) r1.2.2.1 r1.2.2.2) = (45 : Int))) then
 bif (decide ((rd (0 : Int) r1.2.2.1 r1.2.2.2) = (45 : Int))) then
 bif decide (List.length ([103] : List Int) + List.length ([(rd (0 : Int) r1.2.2.1 r1.2.2.2)] : List Int) ≤ lim) then
 K (.one (.v (.int .i64) (1 : Int))) [⟨.st (.pair (.sl (.int .u8)) (.int .i64)), (r1.2.2.1, (IntKind.wrap .i64 (r1.2.2.2 + (1 : Int))))⟩, ⟨.st (.pair (.int .u8) (.pair (.int .i64) (.pair (.str) (.pair (.str) (.pair (.int .u8) (.sl (.int .u8))))))), (c1.1, c1.2.1, c1.2.2.1, (([103] : List Int) ++ ([(rd (0 : Int) r1.2.2.1 r1.2.2.2)] : List Int)), c1.2.2.2.2.1, c1.2.2.2.2.2)⟩]
 else False
 else
 ∀ (r163 : Int), r163 = strings_IndexByte_F ([120, 88, 68, 67, 89, 83, 115, 112, 80, 126, 74, 105, 97, 73, 65, 111, 79, 82, 117, 46, 18] : List Int) r1.1 → (
 wfR (.one (.v (.int .i64) r163)) → (
 bif (decide ((0 : Int) ≤ r163)) then
 K (.one (.v (.int .i64) (1 : Int))) [⟨.st (.pair (.sl (.int .u8)) (.int .i64)), r1.2.2⟩, ⟨.st (.pair (.int .u8) (.pair (.int .i64) (.pair (.str) (.pair (.str) (.pair (.int .u8) (.sl (.int .u8))))))), (c1.1, c1.2.1, c1.2.2.1, ([r1.1] : List Int), c1.2.2.2.2.1, c1.2.2.2.2.2)⟩]
 else
 keys_reader_motion_P r1.2.2 c1 r1.1 ∧ (
 ∀ (r164 : Int × (List Int × Int) × CmT), r164 = keys_reader_motion_F r1.2.2 c1 r1.1 → (
 wfR (.one (.v (.int .i64) r164.1)) → (
 K (.one (.v (.int .i64) r164.1)) [⟨.st (.pair (.sl (.int .u8)) (.int .i64)), r164.2.1⟩, ⟨.st (.pair (.int .u8) (.pair (.int .i64) (.pair (.str) (.pair (.str) (.pair (.int .u8) (.sl (.int .u8))))))), r164.2.2⟩])))))
 else
 bif (decide ((rd (0 : Int) r1.2.2.1 r1.2.2.2) = (43 : Int))) then
 bif decide (List.length ([103] : List Int) + List.length ([(rd (0 : Int) r1.2.2.1 r1.2.2.2)] : List Int) ≤ lim) then
 K (.one (.v (.int .i64) (1 : Int))) [⟨.st (.pair (.sl (.int .u8)) (.int .i64)), (r1.2.2.1, (IntKind.wrap .i64 (r1.2.2.2 + (1 : Int))))⟩, ⟨.st (.pair (.int .u8) (.pair (.int .i64) (.pair (.str) (.pair (.str) (.pair (.int .u8) (.sl (.int .u8))))))), (c1.1, c1.2.1, c1.2.2.1, (([103] : List Int) ++ ([(rd (0 : Int) r1.2.2.1 r1.2.2.2)] : List Int)), c1.2.2.2.2.1, c1.2.2.2.2.2)⟩]
 else False
 else
 ∀ (r165 : Int), r165 = strings_IndexByte_F ([120, 88, 68, 67, 89, 83, 115, 112, 80, 126, 74, 105, 97, 73, 65, 111, 79, 82, 117, 46, 18] : List Int) r1.1 → (
 wfR (.one (.v (.int .i64) r165)) → (
 bif (decide ((0 : Int) ≤ r165)) then
 K (.one (.v (.int .i64) (1 : Int))) [⟨.st (.pair (.sl (.int .u8)) (.int .i64)), r1.2.2⟩, ⟨.st (.pair (.int .u8) (.pair (.int .i64) (.pair (.str) (.pair (.str) (.pair (.int .u8) (.sl (.int .u8))))))), (c1.1, c1.2.1, c1.2.2.1, ([r1.1] : List Int), c1.2.2.2.2.1, c1.2.2.2.2.2)⟩]
 else
 keys_reader_motion_P r1.2.2 c1 r1.1 ∧ (
 ∀ (r166 : Int × (List Int × Int) × CmT), r166 = keys_reader_motion_F r1.2.2 c1 r1.1 → (
 wfR (.one (.v (.int .i64) r166.1)) → (
 K (.one (.v (.int .i64) r166.1)) [⟨.st (.pair (.sl (.int .u8)) (.int .i64)), r166.2.1⟩, ⟨.st (.pair (.int .u8) (.pair (.int .i64) (.pair (.str) (.pair (.str) (.pair (.int .u8) (.sl (.int .u8))))))), r166.2.2⟩])))))
 else False
 else
 ∀ (r167 : Int), r167 = strings_IndexByte_F ([120, 88, 68, 67, 89, 83, 115, 112, 80, 126, 74, 105, 97, 73, 65, 111, 79, 82, 117, 46, 18] : List Int) r1.1 → (
 wfR (.one (.v (.int .i64) r167)) → (
 bif (decide ((0 : Int) ≤ r167)) then
 K (.one (.v (.int .i64) (1 : Int))) [⟨.st (.pair (.sl (.int .u8)) (.int .i64)), r1.2.2⟩, ⟨.st (.pair (.int .u8) (.pair (.int .i64) (.pair (.str) (.pair (.str) (.pair (.int .u8) (.sl (.int .u8))))))), (c1.1, c1.2.1, c1.2.2.1, ([r1.1] : List Int), c1.2.2.2.2.1, c1.2.2.2.2.2)⟩]
 else
 keys_reader_motion_P r1.2.2 c1 r1.1 ∧ (
 ∀ (r168 : Int × (List Int × Int) × CmT), r168 = keys_reader_motion_F r1.2.2 c1 r1.1 → (
 wfR (.one (.v (.int .i64) r168.1)) → (
 K (.one (.v (.int .i64) r168.1)) [⟨.st (.pair (.sl (.int .u8)) (.int .i64)), r168.2.1⟩, ⟨.st (.pair (.int .u8) (.pair (.int .i64) (.pair (.str) (.pair (.str) (.pair (.int .u8) (.sl (.int .u8))))))), r168.2.2⟩])))))
 else
 bif (decide (r1.1 = (109 : Int))) then
 keys_reader_argument_P r1.2.2 (c1.1, c1.2.1, c1.2.2.1, ([r1.1] : List Int), c1.2.2.2.2.1, c1.2.2.2.2.2) ∧ (
 ∀ (r169 : Int × (List Int × Int) × CmT), r169 = keys_reader_argument_F r1.2.2 (c1.1, c1.2.1, c1.2.2.1, ([r1.1] : List Int), c1.2.2.2.2.1, c1.2.2.2.2.2) → (
 wfR (.one (.v (.int .i64) r169.1)) → (
 K (.one (.v (.int .i64) r169.1)) [⟨.st (.pair (.sl (.int .u8)) (.int .i64)), r169.2.1⟩, ⟨.st (.pair (.int .u8) (.pair (.int .i64) (.pair (.str) (.pair (.str) (.pair (.int .u8) (.sl (.int .u8))))))), r169.2.2⟩])))
 else
 bif (decide (r1.1 = (103 : Int))) then
 bif (decide (r1.2.2.2 = (List.length r1.2.2.1 : Int))) then
 K (.one (.v (.int .i64) (0 : Int))) [⟨.st (.pair (.sl (.int .u8)) (.int .i64)), r1.2.2⟩, ⟨.st (.pair (.int .u8) (.pair (.int .i64) (.pair (.str) (.pair (.str) (.pair (.int .u8) (.sl (.int .u8))))))), c1⟩]
 else
 bif decide (0 ≤ r1.2.2.2 ∧ r1.2.2.2 < (List.length r1.2.2.1 : Int)) then
 bif (decide ((rd (0 : Int) r1.2.2.1 r1.2.2.2) = (126 : Int))) then
 bif (decide ((rd (0 : Int) r1.2.2.1 r1.2.2.2) = (126 : Int))) then
 bif decide (List.length ([103] : List Int) + List.length ([(rd (0 : Int) r1.2.2.1 r1.2.2.2)] : List Int) ≤ lim) then
 keys_reader_worked_P (r1.2.2.1, (IntKind.wrap .i64 (r1.2.2.2 + (1 : Int)))) (c1.1, c1.2.1, (([103] : List Int) ++ ([(rd (0 : Int) r1.2.2.1 r1.2.2.2)] : List Int)), c1.2.2.2.1, c1.2.2.2.2.1, c1.2.2.2.2.2) ∧ (
 ∀ (r170 : Int × (List Int × Int) × CmT), r170 = keys_reader_worked_F (r1.2.2.1, (IntKind.wrap .i64 (r1.2.2.2 + (1 : Int)))) (c1.1, c1.2.1, (([103] : List Int) ++ ([(rd (0 : Int) r1.2.2.1 r1.2.2.2)] : List Int)), c1.2.2.2.1, c1.2.2.2.2.1, c1.2.2.2.2.2) → (
 wfR (.one (.v (.int .i64) r170.1)) → (
 K (.one (.v (.int .i64) r170.1)) [⟨.st (.pair (.sl (.int .u8)) (.int .i64)), r170.2.1⟩, ⟨.st (.pair (.int .u8) (.pair (.int .i64) (.pair (.str) (.pair (.str) (.pair (.int .u8) (.sl (.int .u8))))))), r170.2.2⟩])))
 else False
 else
 bif (decide ((rd (0 : Int) r1.2.2.1 r1.2.2.2) = (45 : Int))) then
 bif (decide ((rd (0 : Int) r1.2.2.1 r1.2.2.2) = (45 : Int))) then
 bif decide (List.length ([103] : List Int) + List.length ([(rd (0 : Int) r1.2.2.1 r1.2.2.2)] : List Int) ≤ lim) then
 K (.one (.v (.int .i64) (1 : Int))) [⟨.st (.pair (.sl (.int .u8)) (.int .i64)), (r1.2.2.1, (IntKind.wrap .i64 (r1.2.2.2 + (1 : Int))))⟩, ⟨.st (.pair (.int .u8) (.pair (.int .i64) (.pair (.str) (.pair (.str) (.pair (.int .u8) (.sl (.int .u8))))))), (c1.1, c1.2.1, c1.2.2.1, (([103] : List Int) ++ ([(rd (0 : Int) r1.2.2.1 r1.2.2.2)] : List Int)), c1.2.2.2.2.1, c1.2.2.2.2.2)⟩]
 else False
 else
 ∀ (r171 : Int), r171 = strings_IndexByte_F ([120, 88, 68, 67, 89, 83, 115, 112, 80, 126, 74, 105, 97, 73, 65, 111, 79, 82, 117, 46, 18] : List Int) r1.1 → (
 wfR (.one (.v (.int .i64) r171)) → (
 bif (decide ((0 : Int) ≤ r171)) then
 K (.one (.v (.int .i64) (1 : Int))) [⟨.st (.pair (.sl (.int .u8)) (.int .i64)), r1.2.2⟩, ⟨.st (.pair (.int .u8) (.pair (.int .i64) (.pair (.str) (.pair (.str) (.pair (.int .u8) (.sl (.int .u8))))))), (c1.1, c1.2.1, c1.2.2.1, ([r1.1] : List Int), c1.2.2.2.2.1, c1.2.2.2.2.2)⟩]
 else
 keys_reader_motion_P r1.2.2 c1 r1.1 ∧ (
 ∀ (r172 : Int × (List Int × Int) × CmT), r172 = keys_reader_motion_F r1.2.2 c1 r1.1 → (
 wfR (.one (.v (.int .i64) r172.1)) → (
 K (.one (.v (.int .i64) r172.1)) [⟨.st (.pair (.sl (.int .u8)) (.int .i64)), r172.2.1⟩, ⟨.st (.pair (.int .u8) (.pair (.int .i64) (.pair (.str) (.pair (.str) (.pair (.int .u8) (.sl (.int .u8))))))), r172.2.2⟩])))))
 else
 bif (decide ((rd (0 : Int) r1.2.2.1 r1.2.2.2) = (43 : Int))) then
 bif decide (List.length ([103] : List Int) + List.length ([(rd (0 : Int) r1.2.2.1 r1.2.2.2)] : List Int) ≤ lim) then
 K (.one (.v (.int .i64) (1 : Int))) [⟨.st (.pair (.sl (.int .u8)) (.int .i64)), (r1.2.2.1, (IntKind.wrap .i64 (r1.2.2.2 + (1 : Int))))⟩, ⟨.st (.pair (.int .u8) (.pair (.int .i64) (.pair (.str) (.pair (.str) (.pair (.int .u8) (.sl (.int .u8))))))), (c1.1, c1.2.1, c1.2.2.1, (([103] : List Int) ++ ([(rd (0 : Int) r1.2.2.1 r1.2.2.2)] : List Int)), c1.2.2.2.2.1, c1.2.2.2.2.2)⟩]
 else False
 else
 ∀ (r173 : Int), r173 = strings_IndexByte_F ([120, 88, 68, 67, 89, 83, 115, 112, 80, 126, 74, 105, 97, 73, 65, 111, 79, 82, 117, 46, 18] : List Int) r1.1 → (
 wfR (.one (.v (.int .i64) r173)) → (
 bif (decide ((0 : Int) ≤ r173)) then
 K (.one (.v (.int .i64) (1 : Int))) [⟨.st (.pair (.sl (.int .u8)) (.int .i64)), r1.2.2⟩, ⟨.st (.pair (.int .u8) (.pair (.int .i64) (.pair (.str) (.pair (.str) (.pair (.int .u8) (.sl (.int .u8))))))), (c1.1, c1.2.1, c1.2.2.1, ([r1.1] : List Int), c1.2.2.2.2.1, c1.2.2.2.2.2)⟩]
 else
 keys_reader_motion_P r1.2.2 c1 r1.1 ∧ (
 ∀ (r174 : Int × (List Int × Int) × CmT), r174 = keys_reader_motion_F r1.2.2 c1 r1.1 → (
 wfR (.one (.v (.int .i64) r174.1)) → (
 K (.one (.v (.int .i64) r174.1)) [⟨.st (.pair (.sl (.int .u8)) (.int .i64)), r174.2.1⟩, ⟨.st (.pair (.int .u8) (.pair (.int .i64) (.pair (.str) (.pair (.str) (.pair (.int .u8) (.sl (.int .u8))))))), r174.2.2⟩])))))
 else
 bif (decide ((rd (0 : Int) r1.2.2.1 r1.2.2.2) = (117 : Int))) then
 bif (decide ((rd (0 : Int) r1.2.2.1 r1.2.2.2) = (117 : Int))) then
 bif decide (List.length ([103] : List Int) + List.length ([(rd (0 : Int) r1.2.2.1 r1.2.2.2)] : List Int) ≤ lim) then
 keys_reader_worked_P (r1.2.2.1, (IntKind.wrap .i64 (r1.2.2.2 + (1 : Int)))) (c1.1, c1.2.1, (([103] : List Int) ++ ([(rd (0 : Int) r1.2.2.1 r1.2.2.2)] : List Int)), c1.2.2.2.1, c1.2.2.2.2.1, c1.2.2.2.2.2) ∧ (
 ∀ (r175 : Int × (List Int × Int) × CmT), r175 = keys_reader_worked_F (r1.2.2.1, (IntKind.wrap .i64 (r1.2.2.2 + (1 : Int)))) (c1.1, c1.2.1, (([103] : List Int) ++ ([(rd (0 : Int) r1.2.2.1 r1.2.2.2)] : List Int)), c1.2.2.2.1, c1.2.2.2.2.1, c1.2.2.2.2.2) → (
 wfR (.one (.v (.int .i64) r175.1)) → (
 K (.one (.v (.int .i64) r175.1)) [⟨.st (.pair (.sl (.int .u8)) (.int .i64)), r175.2.1⟩, ⟨.st (.pair (.int .u8) (.pair (.int .i64) (.pair (.str) (.pair (.str) (.pair (.int .u8) (.sl (.int .u8))))))), r175.2.2⟩])))
 else False
 else
 bif (decide ((rd (0 : Int) r1.2.2.1 r1.2.2.2) = (45 : Int))) then
 bif (decide ((rd (0 : Int) r1.2.2.1 r1.2.2.2) = (45 : Int))) then
 bif decide (List.length ([103] : List Int) + List.length ([(rd (0 : Int) r1.2.2.1 r1.2.2.2)] : List Int) ≤ lim) then
 K (.one (.v (.int .i64) (1 : Int))) [⟨.st (.pair (.sl (.int .u8)) (.int .i64)), (r1.2.2.1, (IntKind.wrap .i64 (r1.2.2.2 + (1 : Int))))⟩, ⟨.st (.pair (.int .u8) (.pair (.int .i64) (.pair (.str) (.pair (.str) (.pair (.int .u8) (.sl (.int .u8))))))), (c1.1, c1.2.1, c1.2.2.1, (([103] : List Int) ++ ([(rd (0 : Int) r1.2.2.1 r1.2.2.2)] : List Int)), c1.2.2.2.2.1, c1.2.2.2.2.2)⟩]
 else False
 else
 ∀ (r176 : Int), r176 = strings_IndexByte_F ([120, 88, 68, 67, 89, 83, 115, 112, 80, 126, 74, 105, 97, 73, 65, 111, 79, 82, 117, 46, 18] : List Int) r1.1 → (
 wfR (.one (.v (.int .i64) r176)) → (
 bif (decide ((0 : Int) ≤ r176)) then
 K (.one (.v (.int .i64) (1 : Int))) [⟨.st (.pair (.sl (.int .u8)) (.int .i64)), r1.2.2⟩, ⟨.st (.pair (.int .u8) (.pair (.int .i64) (.pair (.str) (.pair (.str) (.pair (.int .u8) (.sl (.int .u8))))))), (c1.1, c1.2.1, c1.2.2.1, ([r1.1] : List Int), c1.2.2.2.2.1, c1.2.2.2.2.2)⟩]
 else
 keys_reader_motion_P r1.2.2 c1 r1.1 ∧ (
 ∀ (r177 : Int × (List Int × Int) × CmT), r177 = keys_reader_motion_F r1.2.2 c1 r1.1 → (
 wfR (.one (.v (.int .i64) r177.1)) → (
 K (.one (.v (.int .i64) r177.1)) [⟨.st (.pair (.sl (.int .u8)) (.int .i64)), r177.2.1⟩, ⟨.st (.pair (.int .u8) (.pair (.int .i64) (.pair (.str) (.pair (.str) (.pair (.int .u8) (.sl (.int .u8))))))), r177.2.2⟩])))))
 else
 bif (decide ((rd (0 : Int) r1.2.2.1 r1.2.2.2) = (43 : Int))) then
 bif decide (List.length ([103] : List Int) + List.length ([(rd (0 : Int) r1.2.2.1 r1.2.2.2)] : List Int) ≤ lim) then
 K (.one (.v (.int .i64) (1 : Int))) [⟨.st (.pair (.sl (.int .u8)) (.int .i64)), (r1.2.2.1, (IntKind.wrap .i64 (r1.2.2.2 + (1 : Int))))⟩, ⟨.st (.pair (.int .u8) (.pair (.int .i64) (.pair (.str) (.pair (.str) (.pair (.int .u8) (.sl (.int .u8))))))), (c1.1, c1.2.1, c1.2.2.1, (([103] : List Int) ++ ([(rd (0 : Int) r1.2.2.1 r1.2.2.2)] : List Int)), c1.2.2.2.2.1, c1.2.2.2.2.2)⟩]
 else False
 else
 ∀ (r178 : Int), r178 = strings_IndexByte_F ([120, 88, 68, 67, 89, 83, 115, 112, 80, 126, 74, 105, 97, 73, 65, 111, 79, 82, 117, 46, 18] : List Int) r1.1 → (
 wfR (.one (.v (.int .i64) r178)) → (
 bif (decide ((0 : Int) ≤ r178)) then
 K (.one (.v (.int .i64) (1 : Int))) [⟨.st (.pair (.sl (.int .u8)) (.int .i64)), r1.2.2⟩, ⟨.st (.pair (.int .u8) (.pair (.int .i64) (.pair (.str) (.pair (.str) (.pair (.int .u8) (.sl (.int .u8))))))), (c1.1, c1.2.1, c1.2.2.1, ([r1.1] : List Int), c1.2.2.2.2.1, c1.2.2.2.2.2)⟩]
 else
 keys_reader_motion_P r1.2.2 c1 r1.1 ∧ (
 ∀ (r179 : Int × (List Int × Int) × CmT), r179 = keys_reader_motion_F r1.2.2 c1 r1.1 → (
 wfR (.one (.v (.int .i64) r179.1)) → (
 K (.one (.v (.int .i64) r179.1)) [⟨.st (.pair (.sl (.int .u8)) (.int .i64)), r179.2.1⟩, ⟨.st (.pair (.int .u8) (.pair (.int .i64) (.pair (.str) (.pair (.str) (.pair (.int .u8) (.sl (.int .u8))))))), r179.2.2⟩])))))
 else
 bif (decide ((rd (0 : Int) r1.2.2.1 r1.2.2.2) = (85 : Int))) then
 bif decide (List.length ([103] : List Int) + List.length ([(rd (0 : Int) r1.2.2.1 r1.2.2.2)] : List Int) ≤ lim) then
 keys_reader_worked_P (r1.2.2.1, (IntKind.wrap .i64 (r1.2.2.2 + (1 : Int)))) (c1.1, c1.2.1, (([103] : List Int) ++ ([(rd (0 : Int) r1.2.2.1 r1.2.2.2)] : List Int)), c1.2.2.2.1, c1.2.2.2.2.1, c1.2.2.2.2.2) ∧ (
 ∀ (r180 : Int × (List Int × Int) × CmT), r180 = keys_reader_worked_F (r1.2.2.1, (IntKind.wrap .i64 (r1.2.2.2 + (1 : Int)))) (c1.1, c1.2.1, (([103] : List Int) ++ ([(rd (0 : Int) r1.2.2.1 r1.2.2.2)] : List Int)), c1.2.2.2.1, c1.2.2.2.2.1, c1.2.2.2.2.2) → (
 wfR (.one (.v (.int .i64) r180.1)) → (
 K (.one (.v (.int .i64) r180.1)) [⟨.st (.pair (.sl (.int .u8)) (.int .i64)), r180.2.1⟩, ⟨.st (.pair (.int .u8) (.pair (.int .i64) (.pair (.str) (.pair (.str) (.pair (.int .u8) (.sl (.int .u8))))))), r180.2.2⟩])))
 else False
 else
 bif (decide ((rd (0 : Int) r1.2.2.1 r1.2.2.2) = (45 : Int))) then
 bif (decide ((rd (0 : Int) r1.2.2.1 r1.2.2.2) = (45 : Int))) then
 bif decide (List.length ([103] : List Int) + List.length ([(rd (0 : Int) r1.2.2.1 r1.2.2.2)] : List Int) ≤ lim) then
 K (.one (.v (.int .i64) (1 : Int))) [⟨.st (.pair (.sl (.int .u8)) (.int .i64)), (r1.2.2.1, (IntKind.wrap .i64 (r1.2.2.2 + (1 : Int))))⟩, ⟨.st (.pair (.int .u8) (.pair (.int .i64) (.pair (.str) (.pair (.str) (.pair (.int .u8) (.sl (.int .u8))))))), (c1.1, c1.2.1, c1.2.2.1, (([103] : List Int) ++ ([(rd (0 : Int) r1.2.2.1 r1.2.2.2)] : List Int)), c1.2.2.2.2.1, c1.2.2.2.2.2)⟩]
 else False
 else
 ∀ (r181 : Int), r181 = strings_IndexByte_F ([120, 88, 68, 67, 89, 83, 115, 112, 80, 126, 74, 105, 97, 73, 65, 111, 79, 82, 117, 46, 18] : List Int) r1.1 → (
 wfR (.one (.v (.int .i64) r181)) → (
 bif (decide ((0 : Int) ≤ r181)) then
 K (.one (.v (.int .i64) (1 : Int))) [⟨.st (.pair (.sl (.int .u8)) (.int .i64)), r1.2.2⟩, ⟨.st (.pair (.int .u8) (.pair (.int .i64) (.pair (.str) (.pair (.str) (.pair (.int .u8) (.sl (.int .u8))))))), (c1.1, c1.2.1, c1.2.2.1, ([r1.1] : List Int), c1.2.2.2.2.1, c1.2.2.2.2.2)⟩]
 else
 keys_reader_motion_P r1.2.2 c1 r1.1 ∧ (
 ∀ (r182 : Int × (List Int × Int) × CmT), r182 = keys_reader_motion_F r1.2.2 c1 r1.1 → (
 wfR (.one (.v (.int .i64) r182.1)) → (
 K (.one (.v (.int .i64) r182.1)) [⟨.st (.pair (.sl (.int .u8)) (.int .i64)), r182.2.1⟩, ⟨.st (.pair (.int .u8) (.pair (.int .i64) (.pair (.str) (.pair (.str) (.pair (.int .u8) (.sl (.int .u8))))))), r182.2.2⟩])))))
 else
 bif (decide ((rd (0 : Int) r1.2.2.1 r1.2.2.2) = (43 : Int))) then
 bif decide (List.length ([103] : List Int) + List.length ([(rd (0 : Int) r1.2.2.1 r1.2.2.2)] : List Int) ≤ lim) then
 K (.one (.v (.int .i64) (1 : Int))) [⟨.st (.pair (.sl (.int .u8)) (.int .i64)), (r1.2.2.1, (IntKind.wrap .i64 (r1.2.2.2 + (1 : Int))))⟩, ⟨.st (.pair (.int .u8) (.pair (.int .i64) (.pair (.str) (.pair (.str) (.pair (.int .u8) (.sl (.int .u8))))))), (c1.1, c1.2.1, c1.2.2.1, (([103] : List Int) ++ ([(rd (0 : Int) r1.2.2.1 r1.2.2.2)] : List Int)), c1.2.2.2.2.1, c1.2.2.2.2.2)⟩]
 else False
 else
 ∀ (r183 : Int), r183 = strings_IndexByte_F ([120, 88, 68, 67, 89, 83, 115, 112, 80, 126, 74, 105, 97, 73, 65, 111, 79, 82, 117, 46, 18] : List Int) r1.1 → (
 wfR (.one (.v (.int .i64) r183)) → (
 bif (decide ((0 : Int) ≤ r183)) then
 K (.one (.v (.int .i64) (1 : Int))) [⟨.st (.pair (.sl (.int .u8)) (.int .i64)), r1.2.2⟩, ⟨.st (.pair (.int .u8) (.pair (.int .i64) (.pair (.str) (.pair (.str) (.pair (.int .u8) (.sl (.int .u8))))))), (c1.1, c1.2.1, c1.2.2.1, ([r1.1] : List Int), c1.2.2.2.2.1, c1.2.2.2.2.2)⟩]
 else
 keys_reader_motion_P r1.2.2 c1 r1.1 ∧ (
 ∀ (r184 : Int × (List Int × Int) × CmT), r184 = keys_reader_motion_F r1.2.2 c1 r1.1 → (
 wfR (.one (.v (.int .i64) r184.1)) → (
 K (.one (.v (.int .i64) r184.1)) [⟨.st (.pair (.sl (.int .u8)) (.int .i64)), r184.2.1⟩, ⟨.st (.pair (.int .u8) (.pair (.int .i64) (.pair (.str) (.pair (.str) (.pair (.int .u8) (.sl (.int .u8))))))), r184.2.2⟩])))))
 else False
 else
 ∀ (r185 : Int), r185 = strings_IndexByte_F ([120, 88, 68, 67, 89, 83, 115, 112, 80, 126, 74, 105, 97, 73, 65, 111, 79, 82, 117, 46, 18] : List Int) r1.1 → (
 wfR (.one (.v (.int .i64) r185)) → (
 bif (decide ((0 : Int) ≤ r185)) then
 K (.one (.v (.int .i64) (1 : Int))) [⟨.st (.pair (.sl (.int .u8)) (.int .i64)), r1.2.2⟩, ⟨.st (.pair (.int .u8) (.pair (.int .i64) (.pair (.str) (.pair (.str) (.pair (.int .u8) (.sl (.int .u8))))))), (c1.1, c1.2.1, c1.2.2.1, ([r1.1] : List Int), c1.2.2.2.2.1, c1.2.2.2.2.2)⟩]
 else
 keys_reader_motion_P r1.2.2 c1 r1.1 ∧ (
 ∀ (r186 : Int × (List Int × Int) × CmT), r186 = keys_reader_motion_F r1.2.2 c1 r1.1 → (
 wfR (.one (.v (.int .i64) r186.1)) → (
 K (.one (.v (.int .i64) r186.1)) [⟨.st (.pair (.sl (.int .u8)) (.int .i64)), r186.2.1⟩, ⟨.st (.pair (.int .u8) (.pair (.int .i64) (.pair (.str) (.pair (.str) (.pair (.int .u8) (.sl (.int .u8))))))), r186.2.2⟩]))))))))
def keys_reader_named_A : List AS := [.r (.st (.pair (.sl (.int .u8)) (.int .i64))), .r (.st (.pair (.int .u8) (.pair (.int .i64) (.pair (.str) (.pair (.str) (.pair (.int .u8) (.sl (.int .u8))))))))]
theorem keys_reader_named_walk (r0 : (List Int × Int)) (c1 : CmT) (K : Res → List Cell → Prop) : runF tb (getG keys_reader_named_G) [] Tryd.f88 [true] (mkA keys_reader_named_A (r0, c1, ())) K = keys_reader_named_raw r0 c1 K := by kernel_rfl
--! cut 1000000

def keys_reader_named_P (r0 : (List Int × Int)) (c1 : CmT) : Prop :=
 keys_reader_next_P r0 ∧ (
 let r1 : Int × Bool × (List Int × Int) := keys_reader_next_F r0
 bif (!r1.2.1) then
 True
 else
 bif (decide (r1.1 = (100 : Int))) then
 keys_reader_worked_P r1.2.2 (c1.1, c1.2.1, ([r1.1] : List Int), c1.2.2.2.1, c1.2.2.2.2.1, c1.2.2.2.2.2)
 else
 bif (decide (r1.1 = (99 : Int))) then
 keys_reader_worked_P r1.2.2 (c1.1, c1.2.1, ([r1.1] : List Int), c1.2.2.2.1, c1.2.2.2.2.1, c1.2.2.2.2.2)
 else
 bif (decide (r1.1 = (121 : Int))) then
 keys_reader_worked_P r1.2.2 (c1.1, c1.2.1, ([r1.1] : List Int), c1.2.2.2.1, c1.2.2.2.2.1, c1.2.2.2.2.2)
 else
 bif (decide (r1.1 = (62 : Int))) then
 keys_reader_worked_P r1.2.2 (c1.1, c1.2.1, ([r1.1] : List Int), c1.2.2.2.1, c1.2.2.2.2.1, c1.2.2.2.2.2)
 else
 bif (decide (r1.1 = (60 : Int))) then
 keys_reader_worked_P r1.2.2 (c1.1, c1.2.1, ([r1.1] : List Int), c1.2.2.2.1, c1.2.2.2.2.1, c1.2.2.2.2.2)
 else
 bif (decide (r1.1 = (58 : Int))) then
 True
 else
 bif (decide (r1.1 = (114 : Int))) then
 keys_reader_argument_P r1.2.2 (c1.1, c1.2.1, c1.2.2.1, ([r1.1] : List Int), c1.2.2.2.2.1, c1.2.2.2.2.2)
 else
 bif (decide (r1.1 = (109 : Int))) then
 keys_reader_argument_P r1.2.2 (c1.1, c1.2.1, c1.2.2.1, ([r1.1] : List Int), c1.2.2.2.2.1, c1.2.2.2.2.2)
 else
 bif (decide (r1.1 = (103 : Int))) then
 bif (decide (r1.2.2.2 = (List.length r1.2.2.1 : Int))) then
 True
 else
 (0 ≤ r1.2.2.2 ∧ r1.2.2.2 < (List.length r1.2.2.1 : Int)) ∧ (
 bif (decide ((rd (0 : Int) r1.2.2.1 r1.2.2.2) = (126 : Int))) then
 (List.length ([103] : List Int) + List.length ([(rd (0 : Int) r1.2.2.1 r1.2.2.2)] : List Int) ≤ lim) ∧ (
 keys_reader_worked_P (r1.2.2.1, (IntKind.wrap .i64 (r1.2.2.2 + (1 : Int)))) (c1.1, c1.2.1, (([103] : List Int) ++ ([(rd (0 : Int) r1.2.2.1 r1.2.2.2)] : List Int)), c1.2.2.2.1, c1.2.2.2.2.1, c1.2.2.2.2.2))
 else
 bif (decide ((rd (0 : Int) r1.2.2.1 r1.2.2.2) = (117 : Int))) then
 (List.length ([103] : List Int) + List.length ([(rd (0 : Int) r1.2.2.1 r1.2.2.2)] : List Int) ≤ lim) ∧ (
 keys_reader_worked_P (r1.2.2.1, (IntKind.wrap .i64 (r1.2.2.2 + (1 : Int)))) (c1.1, c1.2.1, (([103] : List Int) ++ ([(rd (0 : Int) r1.2.2.1 r1.2.2.2)] : List Int)), c1.2.2.2.1, c1.2.2.2.2.1, c1.2.2.2.2.2))
 else
 bif (decide ((rd (0 : Int) r1.2.2.1 r1.2.2.2) = (85 : Int))) then
 (List.length ([103] : List Int) + List.length ([(rd (0 : Int) r1.2.2.1 r1.2.2.2)] : List Int) ≤ lim) ∧ (
 keys_reader_worked_P (r1.2.2.1, (IntKind.wrap .i64 (r1.2.2.2 + (1 : Int)))) (c1.1, c1.2.1, (([103] : List Int) ++ ([(rd (0 : Int) r1.2.2.1 r1.2.2.2)] : List Int)), c1.2.2.2.1, c1.2.2.2.2.1, c1.2.2.2.2.2))
 else
 bif (decide ((rd (0 : Int) r1.2.2.1 r1.2.2.2) = (45 : Int))) then
 (List.length ([103] : List Int) + List.length ([(rd (0 : Int) r1.2.2.1 r1.2.2.2)] : List Int) ≤ lim)
 else
 bif (decide ((rd (0 : Int) r1.2.2.1 r1.2.2.2) = (43 : Int))) then
 (List.length ([103] : List Int) + List.length ([(rd (0 : Int) r1.2.2.1 r1.2.2.2)] : List Int) ≤ lim)
 else
 let r183 : Int := strings_IndexByte_F ([120, 88, 68, 67, 89, 83, 115, 112, 80, 126, 74, 105, 97, 73, 65, 111, 79, 82, 117, 46, 18] : List Int) r1.1
 bif (decide ((0 : Int) ≤ r183)) then
 True
 else
 keys_reader_motion_P r1.2.2 c1 r1.1)
 else
 let r185 : Int := strings_IndexByte_F ([120, 88, 68, 67, 89, 83, 115, 112, 80, 126, 74, 105, 97, 73, 65, 111, 79, 82, 117, 46, 18] : List Int) r1.1
 bif (decide ((0 : Int) ≤ r185)) then
 True
 else
 keys_reader_motion_P r1.2.2 c1 r1.1)
def keys_reader_named_F (r0 : (List Int × Int)) (c1 : CmT) : Int × (List Int × Int) × CmT :=
 let r1 : Int × Bool × (List Int × Int) := keys_reader_next_F r0
 bif (!r1.2.1) then
 ((0 : Int), r1.2.2, c1)
 else
 bif (decide (r1.1 = (100 : Int))) then
 let r2 : Int × (List Int × Int) × CmT := keys_reader_worked_F r1.2.2 (c1.1, c1.2.1, ([r1.1] : List Int), c1.2.2.2.1, c1.2.2.2.2.1, c1.2.2.2.2.2)
 (r2.1, r2.2.1, r2.2.2)
 else
 bif (decide (r1.1 = (99 : Int))) then
 let r39 : Int × (List Int × Int) × CmT := keys_reader_worked_F r1.2.2 (c1.1, c1.2.1, ([r1.1] : List Int), c1.2.2.2.1, c1.2.2.2.2.1, c1.2.2.2.2.2)
 (r39.1, r39.2.1, r39.2.2)
 else
 bif (decide (r1.1 = (121 : Int))) then
 let r76 : Int × (List Int × Int) × CmT := keys_reader_worked_F r1.2.2 (c1.1, c1.2.1, ([r1.1] : List Int), c1.2.2.2.1, c1.2.2.2.2.1, c1.2.2.2.2.2)
 (r76.1, r76.2.1, r76.2.2)
 else
 bif (decide (r1.1 = (62 : Int))) then
 let r113 : Int × (List Int × Int) × CmT := keys_reader_worked_F r1.2.2 (c1.1, c1.2.1, ([r1.1] : List Int), c1.2.2.2.1, c1.2.2.2.2.1, c1.2.2.2.2.2)
 (r113.1, r113.2.1, r113.2.2)
 else
 bif (decide (r1.1 = (60 : Int))) then
 let r150 : Int × (List Int × Int) × CmT := keys_reader_worked_F r1.2.2 (c1.1, c1.2.1, ([r1.1] : List Int), c1.2.2.2.1, c1.2.2.2.2.1, c1.2.2.2.2.2)
 (r150.1, r150.2.1, r150.2.2)
 else
 bif (decide (r1.1 = (58 : Int))) then
 ((3 : Int), r1.2.2, (c1.1, c1.2.1, c1.2.2.1, ([58] : List Int), c1.2.2.2.2.1, c1.2.2.2.2.2))
 else
 bif (decide (r1.1 = (114 : Int))) then
 let r151 : Int × (List Int × Int) × CmT := keys_reader_argument_F r1.2.2 (c1.1, c1.2.1, c1.2.2.1, ([r1.1] : List Int), c1.2.2.2.2.1, c1.2.2.2.2.2)
 (r151.1, r151.2.1, r151.2.2)
 else
 bif (decide (r1.1 = (109 : Int))) then
 let r169 : Int × (List Int × Int) × CmT := keys_reader_argument_F r1.2.2 (c1.1, c1.2.1, c1.2.2.1, ([r1.1] : List Int), c1.2.2.2.2.1, c1.2.2.2.2.2)
 (r169.1, r169.2.1, r169.2.2)
 else
 bif (decide (r1.1 = (103 : Int))) then
 bif (decide (r1.2.2.2 = (List.length r1.2.2.1 : Int))) then
 ((0 : Int), r1.2.2, c1)
 else
 bif (decide ((rd (0 : Int) r1.2.2.1 r1.2.2.2) = (126 : Int))) then
 let r170 : Int × (List Int × Int) × CmT := keys_reader_worked_F (r1.2.2.1, (IntKind.wrap .i64 (r1.2.2.2 + (1 : Int)))) (c1.1, c1.2.1, (([103] : List Int) ++ ([(rd (0 : Int) r1.2.2.1 r1.2.2.2)] : List Int)), c1.2.2.2.1, c1.2.2.2.2.1, c1.2.2.2.2.2)
 (r170.1, r170.2.1, r170.2.2)
 else
 bif (decide ((rd (0 : Int) r1.2.2.1 r1.2.2.2) = (117 : Int))) then
 let r175 : Int × (List Int × Int) × CmT := keys_reader_worked_F (r1.2.2.1, (IntKind.wrap .i64 (r1.2.2.2 + (1 : Int)))) (c1.1, c1.2.1, (([103] : List Int) ++ ([(rd (0 : Int) r1.2.2.1 r1.2.2.2)] : List Int)), c1.2.2.2.1, c1.2.2.2.2.1, c1.2.2.2.2.2)
 (r175.1, r175.2.1, r175.2.2)
 else
 bif (decide ((rd (0 : Int) r1.2.2.1 r1.2.2.2) = (85 : Int))) then
 let r180 : Int × (List Int × Int) × CmT := keys_reader_worked_F (r1.2.2.1, (IntKind.wrap .i64 (r1.2.2.2 + (1 : Int)))) (c1.1, c1.2.1, (([103] : List Int) ++ ([(rd (0 : Int) r1.2.2.1 r1.2.2.2)] : List Int)), c1.2.2.2.1, c1.2.2.2.2.1, c1.2.2.2.2.2)
 (r180.1, r180.2.1, r180.2.2)
 else
 bif (decide ((rd (0 : Int) r1.2.2.1 r1.2.2.2) = (45 : Int))) then
 ((1 : Int), (r1.2.2.1, (IntKind.wrap .i64 (r1.2.2.2 + (1 : Int)))), (c1.1, c1.2.1, c1.2.2.1, (([103] : List Int) ++ ([(rd (0 : Int) r1.2.2.1 r1.2.2.2)] : List Int)), c1.2.2.2.2.1, c1.2.2.2.2.2))
 else
 bif (decide ((rd (0 : Int) r1.2.2.1 r1.2.2.2) = (43 : Int))) then
 ((1 : Int), (r1.2.2.1, (IntKind.wrap .i64 (r1.2.2.2 + (1 : Int)))), (c1.1, c1.2.1, c1.2.2.1, (([103] : List Int) ++ ([(rd (0 : Int) r1.2.2.1 r1.2.2.2)] : List Int)), c1.2.2.2.2.1, c1.2.2.2.2.2))
 else
 let r183 : Int := strings_IndexByte_F ([120, 88, 68, 67, 89, 83, 115, 112, 80, 126, 74, 105, 97, 73, 65, 111, 79, 82, 117, 46, 18] : List Int) r1.1
 bif (decide ((0 : Int) ≤ r183)) then
 ((1 : Int), r1.2.2, (c1.1, c1.2.1, c1.2.2.1, ([r1.1] : List Int), c1.2.2.2.2.1, c1.2.2.2.2.2))
 else
 let r184 : Int × (List Int × Int) × CmT := keys_reader_motion_F r1.2.2 c1 r1.1
 (r184.1, r184.2.1, r184.2.2)
 else
 let r185 : Int := strings_IndexByte_F ([120, 88, 68, 67, 89, 83, 115, 112, 80, 126, 74, 105, 97, 73, 65, 111, 79, 82, 117, 46, 18] : List Int) r1.1
 bif (decide ((0 : Int) ≤ r185)) then
 ((1 : Int), r1.2.2, (c1.1, c1.2.1, c1.2.2.1, ([r1.1] : List Int), c1.2.2.2.2.1, c1.2.2.2.2.2))
 else
 let r186 : Int × (List Int × Int) × CmT := keys_reader_motion_F r1.2.2 c1 r1.1
 (r186.1, r186.2.1, r186.2.2)
set_option maxRecDepth 20000 in
theorem keys_reader_named_sp (r0 : (List Int × Int)) (c1 : CmT) (K : Res → List Cell → Prop) (_ : wfA keys_reader_named_A (r0, c1, ())) (hp : keys_reader_named_P r0 c1) (h : ∀ r : Int × (List Int × Int) × CmT, r = keys_reader_named_F r0 c1 → K (.one (.v (.int .i64) r.1)) [⟨.st (.pair (.sl (.int .u8)) (.int .i64)), r.2.1⟩, ⟨.st (.pair (.int .u8) (.pair (.int .i64) (.pair (.str) (.pair (.str) (.pair (.int .u8) (.sl (.int .u8))))))), r.2.2⟩]) : keys_reader_named_raw r0 c1 K := by
  unfold keys_reader_named_raw
  unfold keys_reader_named_P at hp
  refine ⟨hp.1, ?_⟩
  replace hp := hp.2
  intro r1 hr1
  subst hr1
  intro _
  refine brb (fun c_1 => ?_) (fun c_1 => ?_)
  ·
    clear hp
    have e := h _ ((ctrue c_1) : keys_reader_named_F r0 c1 = _).symm
    exact e
  ·
    replace hp := cF c_1 hp
    refine brb (fun c_2 => ?_) (fun c_2 => ?_)
    ·
      replace hp := cT c_2 hp
      refine brb (fun c_3 => ?_) (fun c_3 => ?_)
      ·
        refine ⟨hp, ?_⟩
        intro r2 hr2
        subst hr2
        intro _
        have e := h _ ((Eq.trans (cfalse c_1) (ctrue c_2)) : keys_reader_named_F r0 c1 = _).symm
        exact e
      ·
        exact absurd c_2 (by simp only [decide_eq_true_eq, decide_eq_false_iff_not, Bool.not_eq_eq_eq_not, Bool.not_true, Bool.not_false, Bool.not_eq_true, Bool.not_eq_false] at c_3 ⊢; first | exact c_3 | omega)
    ·
      replace hp := cF c_2 hp
      refine brb (fun c_4 => ?_) (fun c_4 => ?_)
      ·
        replace hp := cT c_4 hp
        refine brb (fun c_5 => ?_) (fun c_5 => ?_)
        ·
          refine ⟨hp, ?_⟩
          intro r39 hr39
          subst hr39
          intro _
          have e := h _ ((Eq.trans (cfalse c_1) (Eq.trans (cfalse c_2) (ctrue c_4))) : keys_reader_named_F r0 c1 = _).symm
          exact e
        ·
          exact absurd c_4 (by simp only [decide_eq_true_eq, decide_eq_false_iff_not, Bool.not_eq_eq_eq_not, Bool.not_true, Bool.not_false, Bool.not_eq_true, Bool.not_eq_false] at c_5 ⊢; first | exact c_5 | omega)
      ·
        replace hp := cF c_4 hp
        refine brb (fun c_6 => ?_) (fun c_6 => ?_)
        ·
          replace hp := cT c_6 hp
          refine brb (fun c_7 => ?_) (fun c_7 => ?_)
          ·
            refine ⟨hp, ?_⟩
            intro r76 hr76
            subst hr76
            intro _
            have e := h _ ((Eq.trans (cfalse c_1) (Eq.trans (cfalse c_2) (Eq.trans (cfalse c_4) (ctrue c_6)))) : keys_reader_named_F r0 c1 = _).symm
            exact e
          ·
            exact absurd c_6 (by simp only [decide_eq_true_eq, decide_eq_false_iff_not, Bool.not_eq_eq_eq_not, Bool.not_true, Bool.not_false, Bool.not_eq_true, Bool.not_eq_false] at c_7 ⊢; first | exact c_7 | omega)
        ·
          replace hp := cF c_6 hp
          refine brb (fun c_8 => ?_) (fun c_8 => ?_)
          ·
            replace hp := cT c_8 hp
            refine brb (fun c_9 => ?_) (fun c_9 => ?_)
            ·
              refine ⟨hp, ?_⟩
              intro r113 hr113
              subst hr113
              intro _
              have e := h _ ((Eq.trans (cfalse c_1) (Eq.trans (cfalse c_2) (Eq.trans (cfalse c_4) (Eq.trans (cfalse c_6) (ctrue c_8))))) : keys_reader_named_F r0 c1 = _).symm
              exact e
            ·
              exact absurd c_8 (by simp only [decide_eq_true_eq, decide_eq_false_iff_not, Bool.not_eq_eq_eq_not, Bool.not_true, Bool.not_false, Bool.not_eq_true, Bool.not_eq_false] at c_9 ⊢; first | exact c_9 | omega)
          ·
            replace hp := cF c_8 hp
            refine brb (fun c_10 => ?_) (fun c_10 => ?_)
            ·
              replace hp := cT c_10 hp
              refine ⟨hp, ?_⟩
              intro r150 hr150
              subst hr150
              intro _
              have e := h _ ((Eq.trans (cfalse c_1) (Eq.trans (cfalse c_2) (Eq.trans (cfalse c_4) (Eq.trans (cfalse c_6) (Eq.trans (cfalse c_8) (ctrue c_10)))))) : keys_reader_named_F r0 c1 = _).symm
              exact e
            ·
              replace hp := cF c_10 hp
              refine brb (fun c_11 => ?_) (fun c_11 => ?_)
              ·
                clear hp
                have e := h _ ((Eq.trans (cfalse c_1) (Eq.trans (cfalse c_2) (Eq.trans (cfalse c_4) (Eq.trans (cfalse c_6) (Eq.trans (cfalse c_8) (Eq.trans (cfalse c_10) (ctrue c_11))))))) : keys_reader_named_F r0 c1 = _).symm
                exact e
              ·
                replace hp := cF c_11 hp
                refine brb (fun c_12 => ?_) (fun c_12 => ?_)
                ·
                  replace hp := cT c_12 hp
                  refine brb (fun c_13 => ?_) (fun c_13 => ?_)
                  ·
                    refine ⟨hp, ?_⟩
                    intro r151 hr151
                    subst hr151
                    intro _
                    have e := h _ ((Eq.trans (cfalse c_1) (Eq.trans (cfalse c_2) (Eq.trans (cfalse c_4) (Eq.trans (cfalse c_6) (Eq.trans (cfalse c_8) (Eq.trans (cfalse c_10) (Eq.trans (cfalse c_11) (ctrue c_12)))))))) : keys_reader_named_F r0 c1 = _).symm
                    exact e
                  ·
                    exact absurd c_12 (by simp only [decide_eq_true_eq, decide_eq_false_iff_not, Bool.not_eq_eq_eq_not, Bool.not_true, Bool.not_false, Bool.not_eq_true, Bool.not_eq_false] at c_13 ⊢; first | exact c_13 | omega)
                ·
                  replace hp := cF c_12 hp
                  refine brb (fun c_14 => ?_) (fun c_14 => ?_)
                  ·
                    replace hp := cT c_14 hp
                    refine ⟨hp, ?_⟩
                    intro r169 hr169
                    subst hr169
                    intro _
                    have e := h _ ((Eq.trans (cfalse c_1) (Eq.trans (cfalse c_2) (Eq.trans (cfalse c_4) (Eq.trans (cfalse c_6) (Eq.trans (cfalse c_8) (Eq.trans (cfalse c_10) (Eq.trans (cfalse c_11) (Eq.trans (cfalse c_12) (ctrue c_14))))))))) : keys_reader_named_F r0 c1 = _).symm
                    exact e
                  ·
                    replace hp := cF c_14 hp
                    refine brb (fun c_15 => ?_) (fun c_15 => ?_)
                    ·
                      replace hp := cT c_15 hp
                      refine brb (fun c_16 => ?_) (fun c_16 => ?_)
                      ·
                        clear hp
                        have e := h _ ((Eq.trans (cfalse c_1) (Eq.trans (cfalse c_2) (Eq.trans (cfalse c_4) (Eq.trans (cfalse c_6) (Eq.trans (cfalse c_8) (Eq.trans (cfalse c_10) (Eq.trans (cfalse c_11) (Eq.trans (cfalse c_12) (Eq.trans (cfalse c_14) (Eq.trans (ctrue c_15) (ctrue c_16))))))))))) : keys_reader_named_F r0 c1 = _).symm
                        exact e
                      ·
                        replace hp := cF c_16 hp
                        refine asrt hp.1 ?_
                        replace hp := hp.2
                        refine brb (fun c_17 => ?_) (fun c_17 => ?_)
                        ·
                          replace hp := cT c_17 hp
                          refine brb (fun c_18 => ?_) (fun c_18 => ?_)
                          ·
                            refine asrt hp.1 ?_
                            replace hp := hp.2
                            refine ⟨hp, ?_⟩
                            intro r170 hr170
                            subst hr170
                            intro _
                            have e := h _ ((Eq.trans (cfalse c_1) (Eq.trans (cfalse c_2) (Eq.trans (cfalse c_4) (Eq.trans (cfalse c_6) (Eq.trans (cfalse c_8) (Eq.trans (cfalse c_10) (Eq.trans (cfalse c_11) (Eq.trans (cfalse c_12) (Eq.trans (cfalse c_14) (Eq.trans (ctrue c_15) (Eq.trans (cfalse c_16) (ctrue c_17)))))))))))) : keys_reader_named_F r0 c1 = _).symm
                            exact e
                          ·
                            exact absurd c_17 (by simp only [decide_eq_true_eq, decide_eq_false_iff_not, Bool.not_eq_eq_eq_not, Bool.not_true, Bool.not_false, Bool.not_eq_true, Bool.not_eq_false] at c_18 ⊢; first | exact c_18 | omega)
                        ·
                          replace hp := cF c_17 hp
                          refine brb (fun c_19 => ?_) (fun c_19 => ?_)
                          ·
                            replace hp := cT c_19 hp
                            refine brb (fun c_20 => ?_) (fun c_20 => ?_)
                            ·
                              refine asrt hp.1 ?_
                              replace hp := hp.2
                              refine ⟨hp, ?_⟩
                              intro r175 hr175
                              subst hr175
                              intro _
                              have e := h _ ((Eq.trans (cfalse c_1) (Eq.trans (cfalse c_2) (Eq.trans (cfalse c_4) (Eq.trans (cfalse c_6) (Eq.trans (cfalse c_8) (Eq.trans (cfalse c_10) (Eq.trans (cfalse c_11) (Eq.trans (cfalse c_12) (Eq.trans (cfalse c_14) (Eq.trans (ctrue c_15) (Eq.trans (cfalse c_16) (Eq.trans (cfalse c_17) (ctrue c_19))))))))))))) : keys_reader_named_F r0 c1 = _).symm
                              exact e
                            ·
                              exact absurd c_19 (by simp only [decide_eq_true_eq, decide_eq_false_iff_not, Bool.not_eq_eq_eq_not, Bool.not_true, Bool.not_false, Bool.not_eq_true, Bool.not_eq_false] at c_20 ⊢; first | exact c_20 | omega)
                          ·
                            replace hp := cF c_19 hp
                            refine brb (fun c_21 => ?_) (fun c_21 => ?_)
                            ·
                              replace hp := cT c_21 hp
                              refine asrt hp.1 ?_
                              replace hp := hp.2
                              refine ⟨hp, ?_⟩
                              intro r180 hr180
                              subst hr180
                              intro _
                              have e := h _ ((Eq.trans (cfalse c_1) (Eq.trans (cfalse c_2) (Eq.trans (cfalse c_4) (Eq.trans (cfalse c_6) (Eq.trans (cfalse c_8) (Eq.trans (cfalse c_10) (Eq.trans (cfalse c_11) (Eq.trans (cfalse c_12) (Eq.trans (cfalse c_14) (Eq.trans (ctrue c_15) (Eq.trans (cfalse c_16) (Eq.trans (cfalse c_17) (Eq.trans (cfalse c_19) (ctrue c_21)))))))))))))) : keys_reader_named_F r0 c1 = _).symm
                              exact e
                            ·
                              replace hp := cF c_21 hp
                              refine brb (fun c_22 => ?_) (fun c_22 => ?_)
                              ·
                                replace hp := cT c_22 hp
                                refine brb (fun c_23 => ?_) (fun c_23 => ?_)
                                ·
                                  refine asrt hp ?_
                                  have e := h _ ((Eq.trans (cfalse c_1) (Eq.trans (cfalse c_2) (Eq.trans (cfalse c_4) (Eq.trans (cfalse c_6) (Eq.trans (cfalse c_8) (Eq.trans (cfalse c_10) (Eq.trans (cfalse c_11) (Eq.trans (cfalse c_12) (Eq.trans (cfalse c_14) (Eq.trans (ctrue c_15) (Eq.trans (cfalse c_16) (Eq.trans (cfalse c_17) (Eq.trans (cfalse c_19) (Eq.trans (cfalse c_21) (ctrue c_22))))))))))))))) : keys_reader_named_F r0 c1 = _).symm
                                  exact e
                                ·
                                  exact absurd c_22 (by simp only [decide_eq_true_eq, decide_eq_false_iff_not, Bool.not_eq_eq_eq_not, Bool.not_true, Bool.not_false, Bool.not_eq_true, Bool.not_eq_false] at c_23 ⊢; first | exact c_23 | omega)
                              ·
                                replace hp := cF c_22 hp
                                refine brb (fun c_24 => ?_) (fun c_24 => ?_)
                                ·
                                  replace hp := cT c_24 hp
                                  refine asrt hp ?_
                                  have e := h _ ((Eq.trans (cfalse c_1) (Eq.trans (cfalse c_2) (Eq.trans (cfalse c_4) (Eq.trans (cfalse c_6) (Eq.trans (cfalse c_8) (Eq.trans (cfalse c_10) (Eq.trans (cfalse c_11) (Eq.trans (cfalse c_12) (Eq.trans (cfalse c_14) (Eq.trans (ctrue c_15) (Eq.trans (cfalse c_16) (Eq.trans (cfalse c_17) (Eq.trans (cfalse c_19) (Eq.trans (cfalse c_21) (Eq.trans (cfalse c_22) (ctrue c_24)))))))))))))))) : keys_reader_named_F r0 c1 = _).symm
                                  exact e
                                ·
                                  replace hp := cF c_24 hp
                                  intro r183 hr183
                                  subst hr183
                                  intro _
                                  refine brb (fun c_25 => ?_) (fun c_25 => ?_)
                                  ·
                                    clear hp
                                    have e := h _ ((Eq.trans (cfalse c_1) (Eq.trans (cfalse c_2) (Eq.trans (cfalse c_4) (Eq.trans (cfalse c_6) (Eq.trans (cfalse c_8) (Eq.trans (cfalse c_10) (Eq.trans (cfalse c_11) (Eq.trans (cfalse c_12) (Eq.trans (cfalse c_14) (Eq.trans (ctrue c_15) (Eq.trans (cfalse c_16) (Eq.trans (cfalse c_17) (Eq.trans (cfalse c_19) (Eq.trans (cfalse c_21) (Eq.trans (cfalse c_22) (Eq.trans (cfalse c_24) (ctrue c_25))))))))))))))))) : keys_reader_named_F r0 c1 = _).symm
                                    exact e
                                  ·
                                    replace hp := cF c_25 hp
                                    refine ⟨hp, ?_⟩
                                    intro r184 hr184
                                    subst hr184
                                    intro _
                                    have e := h _ ((Eq.trans (cfalse c_1) (Eq.trans (cfalse c_2) (Eq.trans (cfalse c_4) (Eq.trans (cfalse c_6) (Eq.trans (cfalse c_8) (Eq.trans (cfalse c_10) (Eq.trans (cfalse c_11) (Eq.trans (cfalse c_12) (Eq.trans (cfalse c_14) (Eq.trans (ctrue c_15) (Eq.trans (cfalse c_16) (Eq.trans (cfalse c_17) (Eq.trans (cfalse c_19) (Eq.trans (cfalse c_21) (Eq.trans (cfalse c_22) (Eq.trans (cfalse c_24) (cfalse c_25))))))))))))))))) : keys_reader_named_F r0 c1 = _).symm
                                    exact e
                    ·
                      replace hp := cF c_15 hp
                      intro r185 hr185
                      subst hr185
                      intro _
                      refine brb (fun c_26 => ?_) (fun c_26 => ?_)
                      ·
                        clear hp
                        have e := h _ ((Eq.trans (cfalse c_1) (Eq.trans (cfalse c_2) (Eq.trans (cfalse c_4) (Eq.trans (cfalse c_6) (Eq.trans (cfalse c_8) (Eq.trans (cfalse c_10) (Eq.trans (cfalse c_11) (Eq.trans (cfalse c_12) (Eq.trans (cfalse c_14) (Eq.trans (cfalse c_15) (ctrue c_26))))))))))) : keys_reader_named_F r0 c1 = _).symm
                        exact e
                      ·
                        replace hp := cF c_26 hp
                        refine ⟨hp, ?_⟩
                        intro r186 hr186
                        subst hr186
                        intro _
                        have e := h _ ((Eq.trans (cfalse c_1) (Eq.trans (cfalse c_2) (Eq.trans (cfalse c_4) (Eq.trans (cfalse c_6) (Eq.trans (cfalse c_8) (Eq.trans (cfalse c_10) (Eq.trans (cfalse c_11) (Eq.trans (cfalse c_12) (Eq.trans (cfalse c_14) (Eq.trans (cfalse c_15) (cfalse c_26))))))))))) : keys_reader_named_F r0 c1 = _).symm
                        exact e
def keys_reader_named_C (v : valsA keys_reader_named_A) (K : Res → List Cell → Prop) : Prop := keys_reader_named_P v.1 v.2.1 ∧ ∀ r : Int × (List Int × Int) × CmT, r = keys_reader_named_F v.1 v.2.1 → K (.one (.v (.int .i64) r.1)) [⟨.st (.pair (.sl (.int .u8)) (.int .i64)), r.2.1⟩, ⟨.st (.pair (.int .u8) (.pair (.int .i64) (.pair (.str) (.pair (.str) (.pair (.int .u8) (.sl (.int .u8))))))), r.2.2⟩]
def keys_reader_named_S : App := specW keys_reader_named_A keys_reader_named_C
theorem keys_reader_named_wv (K : Res → List Cell → Prop) : ∀ v : valsA keys_reader_named_A, runF tb (getG keys_reader_named_G) [] Tryd.f88 [true] (mkA keys_reader_named_A v) K = keys_reader_named_raw v.1 v.2.1 K
  | (r0, c1, ()) => keys_reader_named_walk r0 c1 K
set_option maxRecDepth 20000 in
theorem keys_reader_named_ok : AppOk Tryd.prog 88 keys_reader_named_S :=
  AppOk.specW (spec_ok ((runF_ok tb_M tb_ok keys_reader_named_Gok (LabsOk.nil) (f := 88) (fn := Tryd.f88) (by kernel_rfl) (by kernel_rfl) (by kernel_rfl) [true])) fun v K hw h => (keys_reader_named_wv K v).mpr (keys_reader_named_sp v.1 v.2.1 K hw h.1 h.2))

end Go.VE
namespace Go.VE
open Go Go.Proofs
/-! ### quoin/keys.Parse -/
def keys_Parse_G : List (Nat × App) := [(86, keys_reader_next_S), (82, bank_Valid_S), (87, keys_reader_count_S), (88, keys_reader_named_S)]
theorem keys_Parse_Gok : GOk Tryd.prog (getG keys_Parse_G) := GOk.cons keys_reader_next_ok (GOk.cons bank_Valid_ok (GOk.cons keys_reader_count_ok (GOk.cons keys_reader_named_ok (GOk.nil))))
theorem keys_Parse_st : storesC (bodyOf Tryd.f47) = true := by kernel_rfl
def keys_Parse_d0 : List LS := [.v 0 (.sl (.int .u8)), .b 2 16 [], .b 4 88 [], .b 5 40 [], .c 16 (.st (.pair (.int .u8) (.pair (.int .i64) (.pair (.str) (.pair (.str) (.pair (.int .u8) (.sl (.int .u8)))))))), .c 88 (.st (.pair (.sl (.int .u8)) (.int .i64))), .c 40 (.st (.pair (.int .u8) (.pair (.int .i64) (.pair (.str) (.pair (.str) (.pair (.int .u8) (.sl (.int .u8))))))))]
def keys_Parse_d0r : List LS := [.b 2 16 [], .v 3 (.int .i64), .c 16 (.st (.pair (.int .u8) (.pair (.int .i64) (.pair (.str) (.pair (.str) (.pair (.int .u8) (.sl (.int .u8))))))))]
def keys_Parse_dx0 : DX := ⟨none, some keys_Parse_d0r, []⟩
def keys_Parse_J0 (kr : Int → CmT → Prop) (keys0 : List Int) (x2b : CmT) (x11b : (List Int × Int)) (c5b : CmT) : Prop :=
 keys_reader_count_P x11b ∧ (
 ∀ (r3 : Int × (List Int × Int)), r3 = keys_reader_count_F x11b → (
 wfR (.one (.v (.int .i64) r3.1)) → (
 keys_reader_named_P r3.2 (c5b.1, r3.1, c5b.2.2.1, c5b.2.2.2.1, c5b.2.2.2.2.1, c5b.2.2.2.2.2) ∧ (
 ∀ (r4 : Int × (List Int × Int) × CmT), r4 = keys_reader_named_F r3.2 (c5b.1, r3.1, c5b.2.2.1, c5b.2.2.2.1, c5b.2.2.2.2.1, c5b.2.2.2.2.2) → (
 wfR (.one (.v (.int .i64) r4.1)) → (
 bif (decide (r4.1 = (0 : Int))) then
 kr r4.1 ((0 : Int), (0 : Int), ([] : List Int), ([] : List Int), (0 : Int), ([] : List Int))
 else
 bif (decide (r4.1 = (2 : Int))) then
 kr r4.1 ((0 : Int), (0 : Int), ([] : List Int), ([] : List Int), (0 : Int), ([] : List Int))
 else
 bif (decide (r4.2.1.2 < (List.length keys0 : Int))) then
 kr (2 : Int) ((0 : Int), (0 : Int), ([] : List Int), ([] : List Int), (0 : Int), ([] : List Int))
 else
 kr r4.1 r4.2.2))))))
theorem keys_Parse_s0 (k : Ex → St → Prop) (keys0 : List Int) (x2b : CmT) (x11b : (List Int × Int)) (c5b : CmT) :
    ex tb (getG keys_Parse_G) [] (at' (bodyOf Tryd.f47) [1, 1, 1, 1]) [1, 1, 1, 1] (mkD 67 keys_Parse_d0 (keys0, x2b, x11b, c5b, ())) (wk 67 keys_Parse_dx0 k) =
    keys_Parse_J0 (fun x3 x2b => wfD keys_Parse_d0r (x3, x2b, ()) → k .ret (mkD 67 keys_Parse_d0r (x3, x2b, ()))) keys0 x2b x11b c5b := by kernel_rfl
theorem keys_Parse_v0 (k : Ex → St → Prop) : ∀ v : vals keys_Parse_d0, ex tb (getG keys_Parse_G) [] (at' (bodyOf Tryd.f47) [1, 1, 1, 1]) [1, 1, 1, 1] (mkD 67 keys_Parse_d0 v) (wk 67 keys_Parse_dx0 k) = keys_Parse_J0 (fun x3 x2b => wfD keys_Parse_d0r (x3, x2b, ()) → k .ret (mkD 67 keys_Parse_d0r (x3, x2b, ()))) v.1 v.2.1 v.2.2.1 v.2.2.2.1
  | (keys0, x2b, x11b, c5b, ()) => keys_Parse_s0 k keys0 x2b x11b c5b
def keys_Parse_X0 : Pce := fun st k => ckD 67 keys_Parse_d0 st fun v => wfD keys_Parse_d0 v → keys_Parse_J0 (fun x3 x2b => wfD keys_Parse_d0r (x3, x2b, ()) → k .ret (mkD 67 keys_Parse_d0r (x3, x2b, ()))) v.1 v.2.1 v.2.2.1 v.2.2.2.1
set_option maxRecDepth 20000 in
theorem keys_Parse_x0 : SemOk Tryd.prog (at' (bodyOf Tryd.f47) [1, 1, 1, 1]) keys_Parse_X0 :=
  (SemOk.wk (N := 67) (ds := keys_Parse_d0) (dx := keys_Parse_dx0) (ex_sound tb_M tb_ok keys_Parse_Gok (LabsOk.nil) (at' (bodyOf Tryd.f47) [1, 1, 1, 1]) [1, 1, 1, 1] rfl (storesC_at keys_Parse_st [1, 1, 1, 1]))).mono fun st k h => ckD_mono h fun v hv hw => Eq.mpr (keys_Parse_v0 k v) (hv hw)
def keys_Parse_B0 : Labs := ([1, 1, 1, 1], keys_Parse_X0) :: []
theorem keys_Parse_b0 : LabsOk Tryd.prog (bodyOf Tryd.f47) keys_Parse_B0 := LabsOk.cons keys_Parse_x0 (LabsOk.nil)
def keys_Parse_raw (keys0 : List Int) (K : Res → List Cell → Prop) : Prop :=
 bif (decide ((0 : Int) < (List.length keys0 : Int))) then
 bif decide (0 ≤ (0 : Int) ∧ (0 : Int) < (List.length keys0 : Int)) then
 bif (decide ((rd (0 : Int) keys0 (0 : Int)) = (34 : Int))) then
 keys_reader_next_P (keys0, (1 : Int)) ∧ (
 ∀ (r1 : Int × Bool × (List Int × Int)), r1 = keys_reader_next_F (keys0, (1 : Int)) → (
 wfR (.tup [.v (.int .u8) r1.1, .v (.bool) r1.2.1]) → (
 bif (!r1.2.1) then
 K (.tup [.v (.st (.pair (.int .u8) (.pair (.int .i64) (.pair (.str) (.pair (.str) (.pair (.int .u8) (.sl (.int .u8)))))))) ((0 : Int), (0 : Int), ([] : List Int), ([] : List Int), (0 : Int), ([] : List Int)), .v (.int .i64) (0 : Int)]) []
 else
 bif (decide (r1.1 = (0 : Int))) then
 K (.tup [.v (.st (.pair (.int .u8) (.pair (.int .i64) (.pair (.str) (.pair (.str) (.pair (.int .u8) (.sl (.int .u8)))))))) ((0 : Int), (0 : Int), ([] : List Int), ([] : List Int), (0 : Int), ([] : List Int)), .v (.int .i64) (2 : Int)]) []
 else
 ∀ (r2 : Bool), r2 = bank_Valid_F r1.1 → (
 wfR (.one (.v (.bool) r2)) → (
 bif (!r2) then
 K (.tup [.v (.st (.pair (.int .u8) (.pair (.int .i64) (.pair (.str) (.pair (.str) (.pair (.int .u8) (.sl (.int .u8)))))))) ((0 : Int), (0 : Int), ([] : List Int), ([] : List Int), (0 : Int), ([] : List Int)), .v (.int .i64) (2 : Int)]) []
 else
 (wfD keys_Parse_d0 (keys0, ((0 : Int), (0 : Int), ([] : List Int), ([] : List Int), (0 : Int), ([] : List Int)), r1.2.2, (r1.1, (0 : Int), ([] : List Int), ([] : List Int), (0 : Int), ([] : List Int)), ()) → keys_Parse_J0 (fun (x3 : Int) (x2b : CmT) => wfD keys_Parse_d0r (x3, x2b, ()) → (
 K (.tup [.v (.st (.pair (.int .u8) (.pair (.int .i64) (.pair (.str) (.pair (.str) (.pair (.int .u8) (.sl (.int .u8)))))))) x2b, .v (.int .i64) x3]) [])) keys0 ((0 : Int), (0 : Int), ([] : List Int), ([] : List Int), (0 : Int), ([] : List Int)) r1.2.2 (r1.1, (0 : Int), ([] : List Int), ([] : List Int), (0 : Int), ([] : List Int))))))))
 else
 (wfD keys_Parse_d0 (keys0, ((0 : Int), (0 : Int), ([] : List Int), ([] : List Int), (0 : Int), ([] : List Int)), (keys0, (0 : Int)), ((0 : Int), (0 : Int), ([] : List Int), ([] : List Int), (0 : Int), ([] : List Int)), ()) → keys_Parse_J0 (fun (x3 : Int) (x2b : CmT) => wfD keys_Parse_d0r (x3, x2b, ()) → (
 K (.tup [.v (.st (.pair (.int .u8) (.pair (.int .i64) (.pair (.str) (.pair (.str) (.pair (.int .u8) (.sl (.int .u8)))))))) x2b, .v (.int .i64) x3]) [])) keys0 ((0 : Int), (0 : Int), ([] : List Int), ([] : List Int), (0 : Int), ([] : List Int)) (keys0, (0 : Int)) ((0 : Int), (0 : Int), ([] : List Int), ([] : List Int), (0 : Int), ([] : List Int)))
 else False
 else
 (wfD keys_Parse_d0 (keys0, ((0 : Int), (0 : Int), ([] : List Int), ([] : List Int), (0 : Int), ([] : List Int)), (keys0, (0 : Int)), ((0 : Int), (0 : Int), ([] : List Int), ([] : List Int), (0 : Int), ([] : List Int)), ()) → keys_Parse_J0 (fun (x3 : Int) (x2b : CmT) => wfD keys_Parse_d0r (x3, x2b, ()) → (
 K (.tup [.v (.st (.pair (.int .u8) (.pair (.int .i64) (.pair (.str) (.pair (.str) (.pair (.int .u8) (.sl (.int .u8)))))))) x2b, .v (.int .i64) x3]) [])) keys0 ((0 : Int), (0 : Int), ([] : List Int), ([] : List Int), (0 : Int), ([] : List Int)) (keys0, (0 : Int)) ((0 : Int), (0 : Int), ([] : List Int), ([] : List Int), (0 : Int), ([] : List Int)))
def keys_Parse_A : List AS := [.v (.sl (.int .u8))]
theorem keys_Parse_walk (keys0 : List Int) (K : Res → List Cell → Prop) : runF tb (getG keys_Parse_G) keys_Parse_B0 Tryd.f47 [true, true] (mkA keys_Parse_A (keys0, ())) K = keys_Parse_raw keys0 K := by kernel_rfl

def keys_Parse_J0_P (keys0 : List Int) (x2b : CmT) (x11b : (List Int × Int)) (c5b : CmT) : Prop :=
 keys_reader_count_P x11b ∧ (
 let r3 : Int × (List Int × Int) := keys_reader_count_F x11b
 keys_reader_named_P r3.2 (c5b.1, r3.1, c5b.2.2.1, c5b.2.2.2.1, c5b.2.2.2.2.1, c5b.2.2.2.2.2))
def keys_Parse_J0_F (keys0 : List Int) (x2b : CmT) (x11b : (List Int × Int)) (c5b : CmT) : Int × CmT :=
 let r3 : Int × (List Int × Int) := keys_reader_count_F x11b
 let r4 : Int × (List Int × Int) × CmT := keys_reader_named_F r3.2 (c5b.1, r3.1, c5b.2.2.1, c5b.2.2.2.1, c5b.2.2.2.2.1, c5b.2.2.2.2.2)
 bif (decide (r4.1 = (0 : Int))) then
 (r4.1, ((0 : Int), (0 : Int), ([] : List Int), ([] : List Int), (0 : Int), ([] : List Int)))
 else
 bif (decide (r4.1 = (2 : Int))) then
 (r4.1, ((0 : Int), (0 : Int), ([] : List Int), ([] : List Int), (0 : Int), ([] : List Int)))
 else
 bif (decide (r4.2.1.2 < (List.length keys0 : Int))) then
 ((2 : Int), ((0 : Int), (0 : Int), ([] : List Int), ([] : List Int), (0 : Int), ([] : List Int)))
 else
 (r4.1, r4.2.2)
set_option maxRecDepth 20000 in
theorem keys_Parse_J0_sp (kr : Int → CmT → Prop) (keys0 : List Int) (x2b : CmT) (x11b : (List Int × Int)) (c5b : CmT) (hp : keys_Parse_J0_P keys0 x2b x11b c5b) (hr : ∀ q : Int × CmT, q = keys_Parse_J0_F keys0 x2b x11b c5b → kr q.1 q.2) : keys_Parse_J0 kr keys0 x2b x11b c5b := by
  unfold keys_Parse_J0
  unfold keys_Parse_J0_P at hp
  refine ⟨hp.1, ?_⟩
  replace hp := hp.2
  intro r3 hr3
  subst hr3
  intro _
  refine ⟨hp, ?_⟩
  intro r4 hr4
  subst hr4
  intro _
  refine brb (fun c_1 => ?_) (fun c_1 => ?_)
  ·
    have e := hr _ ((ctrue c_1) : keys_Parse_J0_F keys0 x2b x11b c5b = _).symm
    exact e
  ·
    refine brb (fun c_2 => ?_) (fun c_2 => ?_)
    ·
      have e := hr _ ((Eq.trans (cfalse c_1) (ctrue c_2)) : keys_Parse_J0_F keys0 x2b x11b c5b = _).symm
      exact e
    ·
      refine brb (fun c_3 => ?_) (fun c_3 => ?_)
      ·
        have e := hr _ ((Eq.trans (cfalse c_1) (Eq.trans (cfalse c_2) (ctrue c_3))) : keys_Parse_J0_F keys0 x2b x11b c5b = _).symm
        exact e
      ·
        have e := hr _ ((Eq.trans (cfalse c_1) (Eq.trans (cfalse c_2) (cfalse c_3))) : keys_Parse_J0_F keys0 x2b x11b c5b = _).symm
        exact e
def keys_Parse_P (keys0 : List Int) : Prop :=
 bif (decide ((0 : Int) < (List.length keys0 : Int))) then
 (0 ≤ (0 : Int) ∧ (0 : Int) < (List.length keys0 : Int)) ∧ (
 bif (decide ((rd (0 : Int) keys0 (0 : Int)) = (34 : Int))) then
 keys_reader_next_P (keys0, (1 : Int)) ∧ (
 let r1 : Int × Bool × (List Int × Int) := keys_reader_next_F (keys0, (1 : Int))
 bif (!r1.2.1) then
 True
 else
 bif (decide (r1.1 = (0 : Int))) then
 True
 else
 let r2 : Bool := bank_Valid_F r1.1
 bif (!r2) then
 True
 else
 keys_Parse_J0_P keys0 ((0 : Int), (0 : Int), ([] : List Int), ([] : List Int), (0 : Int), ([] : List Int)) r1.2.2 (r1.1, (0 : Int), ([] : List Int), ([] : List Int), (0 : Int), ([] : List Int)))
 else
 keys_Parse_J0_P keys0 ((0 : Int), (0 : Int), ([] : List Int), ([] : List Int), (0 : Int), ([] : List Int)) (keys0, (0 : Int)) ((0 : Int), (0 : Int), ([] : List Int), ([] : List Int), (0 : Int), ([] : List Int)))
 else
 keys_Parse_J0_P keys0 ((0 : Int), (0 : Int), ([] : List Int), ([] : List Int), (0 : Int), ([] : List Int)) (keys0, (0 : Int)) ((0 : Int), (0 : Int), ([] : List Int), ([] : List Int), (0 : Int), ([] : List Int))
def keys_Parse_F (keys0 : List Int) : CmT × Int :=
 bif (decide ((0 : Int) < (List.length keys0 : Int))) then
 bif (decide ((rd (0 : Int) keys0 (0 : Int)) = (34 : Int))) then
 let r1 : Int × Bool × (List Int × Int) := keys_reader_next_F (keys0, (1 : Int))
 bif (!r1.2.1) then
 (((0 : Int), (0 : Int), ([] : List Int), ([] : List Int), (0 : Int), ([] : List Int)), (0 : Int))
 else
 bif (decide (r1.1 = (0 : Int))) then
 (((0 : Int), (0 : Int), ([] : List Int), ([] : List Int), (0 : Int), ([] : List Int)), (2 : Int))
 else
 let r2 : Bool := bank_Valid_F r1.1
 bif (!r2) then
 (((0 : Int), (0 : Int), ([] : List Int), ([] : List Int), (0 : Int), ([] : List Int)), (2 : Int))
 else
 let q0r : Int × CmT := keys_Parse_J0_F keys0 ((0 : Int), (0 : Int), ([] : List Int), ([] : List Int), (0 : Int), ([] : List Int)) r1.2.2 (r1.1, (0 : Int), ([] : List Int), ([] : List Int), (0 : Int), ([] : List Int))
 let x3 : Int := q0r.1
 let x2b : CmT := q0r.2
 (x2b, x3)
 else
 let q0r : Int × CmT := keys_Parse_J0_F keys0 ((0 : Int), (0 : Int), ([] : List Int), ([] : List Int), (0 : Int), ([] : List Int)) (keys0, (0 : Int)) ((0 : Int), (0 : Int), ([] : List Int), ([] : List Int), (0 : Int), ([] : List Int))
 let x3 : Int := q0r.1
 let x2b : CmT := q0r.2
 (x2b, x3)
 else
 let q0r : Int × CmT := keys_Parse_J0_F keys0 ((0 : Int), (0 : Int), ([] : List Int), ([] : List Int), (0 : Int), ([] : List Int)) (keys0, (0 : Int)) ((0 : Int), (0 : Int), ([] : List Int), ([] : List Int), (0 : Int), ([] : List Int))
 let x3 : Int := q0r.1
 let x2b : CmT := q0r.2
 (x2b, x3)
set_option maxRecDepth 20000 in
theorem keys_Parse_sp (keys0 : List Int) (K : Res → List Cell → Prop) (_ : wfA keys_Parse_A (keys0, ())) (hp : keys_Parse_P keys0) (h : ∀ r : CmT × Int, r = keys_Parse_F keys0 → K (.tup [.v (.st (.pair (.int .u8) (.pair (.int .i64) (.pair (.str) (.pair (.str) (.pair (.int .u8) (.sl (.int .u8)))))))) r.1, .v (.int .i64) r.2]) []) : keys_Parse_raw keys0 K := by
  unfold keys_Parse_raw
  unfold keys_Parse_P at hp
  refine brb (fun c_4 => ?_) (fun c_4 => ?_)
  ·
    replace hp := cT c_4 hp
    refine asrt hp.1 ?_
    replace hp := hp.2
    refine brb (fun c_5 => ?_) (fun c_5 => ?_)
    ·
      replace hp := cT c_5 hp
      refine ⟨hp.1, ?_⟩
      replace hp := hp.2
      intro r1 hr1
      subst hr1
      intro _
      refine brb (fun c_6 => ?_) (fun c_6 => ?_)
      ·
        clear hp
        have e := h _ ((Eq.trans (ctrue c_4) (Eq.trans (ctrue c_5) (ctrue c_6))) : keys_Parse_F keys0 = _).symm
        exact e
      ·
        replace hp := cF c_6 hp
        refine brb (fun c_7 => ?_) (fun c_7 => ?_)
        ·
          clear hp
          have e := h _ ((Eq.trans (ctrue c_4) (Eq.trans (ctrue c_5) (Eq.trans (cfalse c_6) (ctrue c_7)))) : keys_Parse_F keys0 = _).symm
          exact e
        ·
          replace hp := cF c_7 hp
          intro r2 hr2
          subst hr2
          intro _
          refine brb (fun c_8 => ?_) (fun c_8 => ?_)
          ·
            clear hp
            have e := h _ ((Eq.trans (ctrue c_4) (Eq.trans (ctrue c_5) (Eq.trans (cfalse c_6) (Eq.trans (cfalse c_7) (ctrue c_8))))) : keys_Parse_F keys0 = _).symm
            exact e
          ·
            replace hp := cF c_8 hp
            refine fun _ => keys_Parse_J0_sp _ _ _ _ _ hp (fun q hq => ?_)
            subst hq
            intro _
            clear hp
            have e := h _ ((Eq.trans (ctrue c_4) (Eq.trans (ctrue c_5) (Eq.trans (cfalse c_6) (Eq.trans (cfalse c_7) (cfalse c_8))))) : keys_Parse_F keys0 = _).symm
            exact e
    ·
      replace hp := cF c_5 hp
      refine fun _ => keys_Parse_J0_sp _ _ _ _ _ hp (fun q hq => ?_)
      subst hq
      intro _
      clear hp
      have e := h _ ((Eq.trans (ctrue c_4) (cfalse c_5)) : keys_Parse_F keys0 = _).symm
      exact e
  ·
    replace hp := cF c_4 hp
    refine fun _ => keys_Parse_J0_sp _ _ _ _ _ hp (fun q hq => ?_)
    subst hq
    intro _
    clear hp
    have e := h _ ((cfalse c_4) : keys_Parse_F keys0 = _).symm
    exact e
def keys_Parse_C (v : valsA keys_Parse_A) (K : Res → List Cell → Prop) : Prop := keys_Parse_P v.1 ∧ ∀ r : CmT × Int, r = keys_Parse_F v.1 → K (.tup [.v (.st (.pair (.int .u8) (.pair (.int .i64) (.pair (.str) (.pair (.str) (.pair (.int .u8) (.sl (.int .u8)))))))) r.1, .v (.int .i64) r.2]) []
def keys_Parse_S : App := specW keys_Parse_A keys_Parse_C
theorem keys_Parse_wv (K : Res → List Cell → Prop) : ∀ v : valsA keys_Parse_A, runF tb (getG keys_Parse_G) keys_Parse_B0 Tryd.f47 [true, true] (mkA keys_Parse_A v) K = keys_Parse_raw v.1 K
  | (keys0, ()) => keys_Parse_walk keys0 K
set_option maxRecDepth 20000 in
theorem keys_Parse_ok : AppOk Tryd.prog 47 keys_Parse_S :=
  AppOk.specW (spec_ok ((runF_ok tb_M tb_ok keys_Parse_Gok (keys_Parse_b0) (f := 47) (fn := Tryd.f47) (by kernel_rfl) (by kernel_rfl) keys_Parse_st [true, true])) fun v K hw h => (keys_Parse_wv K v).mpr (keys_Parse_sp v.1 K hw h.1 h.2))

end Go.VE
namespace Go.VE
open Go Go.Proofs

abbrev Cmd := Int × Int × List Int × List Int × Int × List Int
def setKey (c : Cmd) (k : List Int) : Cmd := (c.1, c.2.1, c.2.2.1, k, c.2.2.2.2.1, c.2.2.2.2.2)
def setArg (c : Cmd) (a : Int) : Cmd := (c.1, c.2.1, c.2.2.1, c.2.2.2.1, a, c.2.2.2.2.2)
def setOp (c : Cmd) (o : List Int) : Cmd := (c.1, c.2.1, o, c.2.2.2.1, c.2.2.2.2.1, c.2.2.2.2.2)
def setCnt (c : Cmd) (n : Int) : Cmd := (c.1, n, c.2.2.1, c.2.2.2.1, c.2.2.2.2.1, c.2.2.2.2.2)
def zC : Cmd := ((0 : Int), (0 : Int), ([] : List Int), ([] : List Int), (0 : Int), ([] : List Int))
/-- what it comes to, what is left, the command -/
abbrev MR := Int × List Int × Cmd

def argM : List Int → Cmd → MR
  | [], c => (0, [], c)
  | b :: r, c => if b = 27 then (2, r, c) else (1, r, setArg c b)
def singlesL : List Int := [104, 108, 106, 107, 43, 45, 95, 48, 94, 36, 124, 71, 119, 98, 101, 87, 66, 69, 59, 44, 123, 125, 40, 41, 37, 110, 78, 42, 32]
def markedL : List Int := [102, 70, 116, 84, 96, 39]
def objectsL : List Int := [119, 87, 112, 40, 41, 98, 123, 125, 66, 91, 93, 34, 39, 96]
def plainsL : List Int := [120, 88, 68, 67, 89, 83, 115, 112, 80, 126, 74, 105, 97, 73, 65, 111, 79, 82, 117, 46, 18]
def gM : List Int → Cmd → MR
  | [], c => (0, [], c)
  | d :: r, c => if d = 103 ∨ d = 101 ∨ d = 69 then (1, r, setKey c [103, d]) else (2, r, c)
def motM (s : List Int) (c : Cmd) (b : Int) : MR :=
  if b = 127 then (1, s, setKey c [8])
  else if b = 10 then (1, s, setKey c [13])
  else if b = 8 ∨ b = 13 ∨ b ∈ singlesL then (1, s, setKey c [b])
  else if b = 47 ∨ b = 63 then (3, s, setKey c [b])
  else if b ∈ markedL then argM s (setKey c [b])
  else if b = 103 then gM s (setKey c [b])
  else (2, s, setKey c [b])
def objM (b : Int) : List Int → Cmd → MR
  | [], c => (0, [], c)
  | d :: r, c => if d ∈ objectsL then (1, r, setKey c [b, d]) else (2, r, c)
/-- behind the count of an operator o, whose last byte is l -/
def wrkM (l : Int) : List Int → Cmd → MR
  | [], c => (0, [], c)
  | b :: r, c =>
    if b = l then (1, r, setKey c c.2.2.1)
    else if b = 105 ∨ b = 97 then objM b r c
    else if b = 103 ∧ rd 0 c.2.2.1 0 = 103 ∧ r.head? = some l then (1, r.tail, setKey c c.2.2.1)
    else motM r c b
def cntC (n : Int) (c : Cmd) : Cmd := if 0 < n ∨ 0 < c.2.1 then setCnt c (mn (mx c.2.1 1 * mx n 1) 9999) else c
def workM (l : Int) (s : List Int) (c : Cmd) : MR := wrkM l (s.drop (cntL s 0).2) (cntC (cntL s 0).1 c)
def g2M : List Int → Cmd → MR
  | [], c => (0, [], c)
  | d :: r, c =>
    if d = 126 ∨ d = 117 ∨ d = 85 then workM d r (setOp c [103, d])
    else if d = 45 ∨ d = 43 then (1, r, setKey c [103, d])
    else motM (d :: r) c 103
def namedM : List Int → Cmd → MR
  | [], c => (0, [], c)
  | b :: r, c =>
    if b = 100 ∨ b = 99 ∨ b = 121 ∨ b = 62 ∨ b = 60 then workM b r (setOp c [b])
    else if b = 58 then (3, r, setKey c [58])
    else if b = 114 ∨ b = 109 then argM r (setKey c [b])
    else if b = 103 then g2M r c
    else if b ∈ plainsL then (1, r, setKey c [b])
    else motM r c b
def finM (s : List Int) (c : Cmd) : Cmd × Int :=
  let m := namedM (s.drop (cntL s 0).2) (setCnt c (cntL s 0).1)
  if m.1 = 0 ∨ m.1 = 2 then (zC, m.1) else if m.2.1 ≠ [] then (zC, 2) else (m.2.2, m.1)
def parseM (s : List Int) : Cmd × Int :=
  if s.head? = some 34 then
    match s.tail with
    | [] => (zC, 0)
    | n :: r => if n = 0 ∨ bank_Valid_F n = false then (zC, 2) else finM r (n, 0, [], [], 0, [])
  else finM s zC

/-! ### the reader stands ahead of what is left -/
def rdr (ks s : List Int) : List Int × Int := (ks, (ks.length : Int) - s.length)
def res (ks : List Int) (m : MR) : Int × (List Int × Int) × Cmd := (m.1, rdr ks m.2.1, m.2.2)

theorem suf_len {s ks : List Int} (h : s <:+ ks) : s.length ≤ ks.length := h.length_le
theorem suf_tail {b : Int} {r ks : List Int} (h : (b :: r) <:+ ks) : r <:+ ks := by
  obtain ⟨t, rfl⟩ := h; exact ⟨t ++ [b], by simp⟩
theorem suf_drop {s ks : List Int} (n : Nat) (h : s <:+ ks) : s.drop n <:+ ks := (List.drop_suffix n s).trans h
theorem rd_suf {b : Int} {r ks : List Int} (h : (b :: r) <:+ ks) : rd 0 ks ((ks.length : Int) - ((b :: r).length : Nat)) = b := by
  obtain ⟨t, rfl⟩ := h
  unfold rd
  have : ((((t ++ b :: r).length : Nat) : Int) - ((b :: r).length : Nat)).toNat = t.length := by simp only [List.length_append]; omega
  rw [this]
  simp

section
set_option linter.unusedSectionVars false
variable {ks : List Int} (hl : ks.length ≤ 1099511627776)
include hl

theorem next_nil : keys_reader_next_P (rdr ks []) ∧ keys_reader_next_F (rdr ks []) = (0, false, rdr ks []) := by
  unfold keys_reader_next_P keys_reader_next_F rdr
  simp

theorem next_cons {b : Int} {r : List Int} (h : (b :: r) <:+ ks) : keys_reader_next_P (rdr ks (b :: r)) ∧ keys_reader_next_F (rdr ks (b :: r)) = (b, true, rdr ks r) := by
  have h1 := suf_len h
  have h2 := rd_suf h
  simp only [List.length_cons] at h1 h2
  unfold keys_reader_next_P keys_reader_next_F rdr
  simp only [List.length_cons]
  rw [wrap_i64 (n := ((ks.length : Int) - (r.length + 1 : Nat) + 1)) (by omega) (by omega), wrap_i64 (by omega) (by omega)]
  rw [show (ks.length : Int) - (r.length + 1 : Nat) + 1 - 1 = (ks.length : Int) - (r.length + 1 : Nat) by omega]
  have h3 : decide ((ks.length : Int) - (r.length + 1 : Nat) = (ks.length : Int)) = false := by rw [decide_eq_false_iff_not]; omega
  rw [h3, h2]
  refine ⟨⟨by omega, by omega⟩, ?_⟩
  simp only [cond_false, Prod.mk.injEq, true_and]
  omega

theorem next_P {s : List Int} (h : s <:+ ks) : keys_reader_next_P (rdr ks s) := by
  cases s with
  | nil => exact (next_nil hl).1
  | cons b r => exact (next_cons hl h).1

theorem arg_eq {s : List Int} (h : s <:+ ks) (c : Cmd) : keys_reader_argument_P (rdr ks s) c ∧ keys_reader_argument_F (rdr ks s) c = res ks (argM s c) := by
  refine ⟨next_P hl h, ?_⟩
  unfold keys_reader_argument_F
  cases s with
  | nil => rw [(next_nil hl).2]; rfl
  | cons b r =>
    rw [(next_cons hl h).2]
    simp only [argM, res]
    by_cases hb : b = 27
    · simp [hb]
    · simp [hb, setArg]
omit hl in
theorem idx_mem {l : List Int} {b : Int} : (0 ≤ strings_IndexByte_F l b) ↔ b ∈ l := by
  show 0 ≤ idxB l b ↔ b ∈ l
  unfold idxB
  by_cases h : b ∈ l
  · simp [h]
  · simp [h]
omit hl in
theorem idx_lt {l : List Int} {b : Int} : (strings_IndexByte_F l b < 0) ↔ b ∉ l := by
  rw [← idx_mem]; omega

theorem mot_eq {s : List Int} (h : s <:+ ks) (c : Cmd) (b : Int) : keys_reader_motion_P (rdr ks s) c b ∧ keys_reader_motion_F (rdr ks s) c b = res ks (motM s c b) := by
  unfold keys_reader_motion_P keys_reader_motion_F motM
  simp only [Bool.cond_decide, idx_mem]
  by_cases h1 : b = 127
  · simp only [if_pos h1]; exact ⟨trivial, rfl⟩
  simp only [if_neg h1]
  by_cases h2 : b = 10
  · simp only [if_pos h2]; exact ⟨trivial, rfl⟩
  simp only [if_neg h2]
  by_cases h3 : b = 8
  · simp only [if_pos h3, if_pos (Or.inl h3 : b = 8 ∨ b = 13 ∨ b ∈ singlesL)]; exact ⟨trivial, rfl⟩
  simp only [if_neg h3]
  by_cases h4 : b = 13
  · simp only [if_pos h4, if_pos (Or.inr (Or.inl h4) : b = 8 ∨ b = 13 ∨ b ∈ singlesL)]; exact ⟨trivial, rfl⟩
  simp only [if_neg h4]
  by_cases h5 : b ∈ singlesL
  · have h5' := h5
    simp only [singlesL] at h5'
    simp only [if_pos h5', if_pos (Or.inr (Or.inr h5) : b = 8 ∨ b = 13 ∨ b ∈ singlesL)]; exact ⟨trivial, rfl⟩
  have h5' := h5
  simp only [singlesL] at h5'
  simp only [if_neg h5', if_neg (fun hh => by rcases hh with hh | hh | hh; exact h3 hh; exact h4 hh; exact h5 hh : ¬ (b = 8 ∨ b = 13 ∨ b ∈ singlesL))]
  by_cases h6 : b = 47
  · simp only [if_pos h6, if_pos (Or.inl h6 : b = 47 ∨ b = 63)]; exact ⟨trivial, rfl⟩
  simp only [if_neg h6]
  by_cases h7 : b = 63
  · simp only [if_pos h7, if_pos (Or.inr h7 : b = 47 ∨ b = 63)]; exact ⟨trivial, rfl⟩
  simp only [if_neg h7, if_neg (fun hh => by rcases hh with hh | hh; exact h6 hh; exact h7 hh : ¬ (b = 47 ∨ b = 63))]
  by_cases h8 : b ∈ markedL
  · have h8' := h8
    simp only [markedL] at h8'
    simp only [if_pos h8', if_pos h8]
    obtain ⟨q1, q2⟩ := arg_eq hl h (setKey c [b])
    simp only [setKey] at q1 q2 ⊢
    exact ⟨q1, by rw [q2]⟩
  have h8' := h8
  simp only [markedL] at h8'
  simp only [if_neg h8', if_neg h8]
  by_cases h9 : b = 103
  · subst h9
    refine ⟨⟨next_P hl h, ?_⟩, ?_⟩
    · cases s with
      | nil => rw [(next_nil hl).2]; trivial
      | cons d r =>
        rw [(next_cons hl h).2]
        simp only [Bool.not_true, cond_false, List.length_cons, List.length_nil, lim]
        have : ∀ a : Bool, (bif a then (bif !decide (d = 101) then (bif !decide (d = 69) then True else 0 + 1 + (0 + 1) ≤ 1099511627776) else 0 + 1 + (0 + 1) ≤ 1099511627776) else 0 + 1 + (0 + 1) ≤ 1099511627776) := by
          intro a
          cases a <;> cases (!decide (d = 101)) <;> cases (!decide (d = 69)) <;> simp
        exact this _
    · cases s with
      | nil => rw [(next_nil hl).2]; rfl
      | cons d r =>
        rw [(next_cons hl h).2]
        simp only [gM, res]
        by_cases e1 : d = 103
        · subst e1; rfl
        by_cases e2 : d = 101
        · subst e2; rfl
        by_cases e3 : d = 69
        · subst e3; rfl
        simp [e1, e2, e3, setKey]
  simp only [if_neg h9]
  exact ⟨trivial, rfl⟩
end
end Go.VE
namespace Go.VE
open Go Go.Proofs

theorem cntL_le : ∀ (s : List Int) (n : Int), (cntL s n).2 ≤ s.length
  | [], n => Nat.le_refl 0
  | b :: r, n => by
    unfold cntL
    split
    · exact Nat.zero_le _
    · have := cntL_le r (mn (n * 10 + (b - 48)) 9999)
      simp only [List.length_cons]; omega

theorem cntL_bound : ∀ (s : List Int) (n : Int), 0 ≤ n → n ≤ 9999 → 0 ≤ (cntL s n).1 ∧ (cntL s n).1 ≤ 9999
  | [], n, h0, h1 => ⟨h0, h1⟩
  | b :: r, n, h0, h1 => by
    unfold cntL
    split
    · exact ⟨h0, h1⟩
    · rename_i hb
      obtain ⟨q1, q2, q3⟩ := mn_le' (n * 10 + (b - 48)) 9999
      exact cntL_bound r _ (q3 (by omega) (by omega)) q1

section
set_option linter.unusedSectionVars false
variable {ks : List Int} (hl : ks.length ≤ 1099511627776)
include hl

theorem count_eq {s : List Int} (h : s <:+ ks) : keys_reader_count_P (rdr ks s) ∧ keys_reader_count_F (rdr ks s) = ((cntL s 0).1, rdr ks (s.drop (cntL s 0).2)) := by
  have h1 := suf_len h
  have hd : ks.drop ((ks.length : Int) - s.length).toNat = s := by
    obtain ⟨t, rfl⟩ := h
    have : ((((t ++ s).length : Nat) : Int) - (s.length : Nat)).toNat = t.length := by simp only [List.length_append]; omega
    rw [this]; simp
  refine ⟨?_, ?_⟩
  · unfold keys_reader_count_P keys_reader_count_L0_P rdr
    exact ⟨by dsimp only; omega, by dsimp only; omega, by omega, by omega⟩
  · unfold keys_reader_count_F keys_reader_count_L0_F rdr
    simp only [hd]
    have := cntL_le s 0
    simp only [List.length_drop, Prod.mk.injEq, true_and]
    omega

theorem rdr_step {b : Int} {r : List Int} (h : (b :: r) <:+ ks) : ((rdr ks (b :: r)).1, IntKind.wrap .i64 ((rdr ks (b :: r)).2 + 1)) = rdr ks r := by
  have h1 := suf_len h
  simp only [List.length_cons] at h1
  unfold rdr
  simp only [List.length_cons]
  rw [wrap_i64 (by omega) (by omega)]
  simp only [Prod.mk.injEq, true_and]
  omega

theorem rdr_rd {b : Int} {r : List Int} (h : (b :: r) <:+ ks) : rd (0 : Int) (rdr ks (b :: r)).1 (rdr ks (b :: r)).2 = b ∧ (0 ≤ (rdr ks (b :: r)).2 ∧ (rdr ks (b :: r)).2 < ((rdr ks (b :: r)).1.length : Int)) ∧ ¬ (rdr ks (b :: r)).2 = ((rdr ks (b :: r)).1.length : Int) := by
  have h1 := suf_len h
  have h2 := rd_suf h
  simp only [List.length_cons] at h1 h2
  unfold rdr
  simp only [List.length_cons]
  exact ⟨h2, ⟨by omega, by omega⟩, by omega⟩

theorem rdr_end : (rdr ks []).2 = ((rdr ks []).1.length : Int) := by
  unfold rdr; simp

/-- what stands behind an operator's count -/
theorem wrk_eq {s : List Int} (h : s <:+ ks) (c : Cmd) {l : Int} (hop : 1 ≤ c.2.2.1.length ∧ c.2.2.1.length ≤ 2) (hlast : rd 0 c.2.2.1 ((c.2.2.1.length : Int) - 1) = l) :
    keys_reader_worked_J0_P (rdr ks s) c ∧ keys_reader_worked_J0_F (rdr ks s) c = res ks (wrkM l s c) := by
  have hw : IntKind.wrap .i64 ((List.length c.2.2.1 : Int) - (1 : Int)) = (c.2.2.1.length : Int) - 1 := wrap_i64 (by omega) (by omega)
  unfold keys_reader_worked_J0_P keys_reader_worked_J0_F
  refine ⟨⟨next_P hl h, ?_⟩, ?_⟩
  · cases s with
    | nil => rw [(next_nil hl).2]; trivial
    | cons b r =>
      have hr := suf_tail h
      rw [(next_cons hl h).2]
      simp only [hw, hlast, Bool.cond_decide, Bool.not_true, cond_false]
      refine ⟨⟨by omega, by omega⟩, ?_⟩
      by_cases e1 : b = l
      · simp only [if_pos e1]
      simp only [if_neg e1]
      by_cases e2 : b = 105
      · simp only [if_pos e2]; exact next_P hl hr
      simp only [if_neg e2]
      by_cases e3 : b = 97
      · simp only [if_pos e3]; exact next_P hl hr
      simp only [if_neg e3]
      have hm := (mot_eq hl hr c b).1
      by_cases e4 : b = 103
      · simp only [if_pos e4]
        refine ⟨⟨by omega, by omega⟩, ?_⟩
        by_cases e5 : rd 0 c.2.2.1 0 = 103
        · simp only [if_pos e5]
          cases r with
          | nil =>
            have he := rdr_end (ks := ks) hl
            rw [if_neg (by omega)]; exact hm
          | cons d r' =>
            obtain ⟨k1, k2, k3⟩ := rdr_rd hl hr
            rw [if_pos k2.2]
            refine ⟨k2, ?_⟩
            split
            · trivial
            · exact hm
        · simp only [if_neg e5]; exact hm
      · simp only [if_neg e4]; exact hm
  · cases s with
    | nil => rw [(next_nil hl).2]; rfl
    | cons b r =>
      have hr := suf_tail h
      rw [(next_cons hl h).2]
      simp only [hw, hlast, Bool.cond_decide, Bool.not_true, cond_false, wrkM]
      by_cases e1 : b = l
      · simp only [if_pos e1]; rfl
      simp only [if_neg e1]
      have obj : ∀ {b : Int}, (match keys_reader_next_F (rdr ks r) with
          | r3 => bif (!r3.2.1) then ((0 : Int), r3.2.2, c) else if strings_IndexByte_F objectsL r3.1 < 0 then ((2 : Int), r3.2.2, c) else ((1 : Int), r3.2.2, (c.1, c.2.1, c.2.2.1, ([b, r3.1] : List Int), c.2.2.2.2.1, c.2.2.2.2.2))) = res ks (objM b r c) := by
        intro b
        cases r with
        | nil => rw [(next_nil hl).2]; rfl
        | cons d r' =>
          rw [(next_cons hl hr).2]
          simp only [objM, idx_lt, Bool.not_true, cond_false]
          by_cases hd : d ∈ objectsL
          · rw [if_neg (fun hh => hh hd), if_pos hd]; rfl
          · rw [if_pos hd, if_neg hd]; rfl
      by_cases e2 : b = 105
      · simp only [if_pos e2, if_pos (Or.inl e2 : b = 105 ∨ b = 97)]; exact obj
      simp only [if_neg e2]
      by_cases e3 : b = 97
      · simp only [if_pos e3, if_pos (Or.inr e3 : b = 105 ∨ b = 97)]; exact obj
      simp only [if_neg e3, if_neg (fun hh => by rcases hh with hh | hh; exact e2 hh; exact e3 hh : ¬ (b = 105 ∨ b = 97))]
      have hm := (mot_eq hl hr c b).2
      by_cases e4 : b = 103
      · simp only [if_pos e4]
        by_cases e5 : rd 0 c.2.2.1 0 = 103
        · simp only [if_pos e5]
          cases r with
          | nil =>
            have he := rdr_end (ks := ks) hl
            rw [if_neg (by omega), if_neg (by simp)]
            rw [hm]
          | cons d r' =>
            obtain ⟨k1, k2, k3⟩ := rdr_rd hl hr
            rw [if_pos k2.2, k1]
            by_cases e6 : d = l
            · have st := rdr_step hl hr
              rw [if_pos e6, if_pos ⟨e4, e5, by rw [e6]; rfl⟩, st]; rfl
            · rw [if_neg e6, if_neg (fun hh => e6 (by simpa using hh.2.2))]
              rw [hm]
        · simp only [if_neg e5]
          rw [if_neg (fun hh => e5 hh.2.1)]
          rw [hm]
      · simp only [if_neg e4]
        rw [if_neg (fun hh => e4 hh.1)]
        rw [hm]

theorem cnt_eq {n : Int} (c : Cmd) (hn : 0 ≤ n ∧ n ≤ 9999) (hc : 0 ≤ c.2.1 ∧ c.2.1 ≤ 9999) : mn (IntKind.wrap .i64 ((mx c.2.1 1) * (mx n 1))) 9999 = mn ((mx c.2.1 1) * (mx n 1)) 9999 := by
  have h1 : ∀ a : Int, 0 ≤ a → a ≤ 9999 → 1 ≤ mx a 1 ∧ mx a 1 ≤ 9999 := fun a h0 h1 => by
    unfold mx
    by_cases h : a < 1
    · simp [h]
    · simp [h]; omega
  obtain ⟨a1, a2⟩ := h1 _ hc.1 hc.2
  obtain ⟨b1, b2⟩ := h1 _ hn.1 hn.2
  have p1 : 0 ≤ mx c.2.1 1 * mx n 1 := Int.mul_nonneg (by omega) (by omega)
  have p2 : mx c.2.1 1 * mx n 1 ≤ 9999 * 9999 := Int.mul_le_mul a2 b2 (by omega) (by omega)
  rw [wrap_i64 (by omega) (by omega)]

theorem work_eq {s : List Int} (h : s <:+ ks) (c : Cmd) {l : Int} (hop : 1 ≤ c.2.2.1.length ∧ c.2.2.1.length ≤ 2) (hlast : rd 0 c.2.2.1 ((c.2.2.1.length : Int) - 1) = l) (hc : 0 ≤ c.2.1 ∧ c.2.1 ≤ 9999) :
    keys_reader_worked_P (rdr ks s) c ∧ keys_reader_worked_F (rdr ks s) c = res ks (workM l s c) := by
  obtain ⟨q1, q2⟩ := count_eq hl h
  have hb := cntL_bound s 0 (by omega) (by omega)
  have hs := suf_drop (cntL s 0).2 h
  have hset : (c.1, mn (IntKind.wrap .i64 ((mx c.2.1 1) * (mx (cntL s 0).1 1))) 9999, c.2.2.1, c.2.2.2.1, c.2.2.2.2.1, c.2.2.2.2.2) = setCnt c (mn (mx c.2.1 1 * mx (cntL s 0).1 1) 9999) := by
    rw [cnt_eq hl c hb hc]; rfl
  obtain ⟨a1, a2⟩ := wrk_eq hl hs (setCnt c (mn (mx c.2.1 1 * mx (cntL s 0).1 1) 9999)) (l := l) hop hlast
  obtain ⟨b1, b2⟩ := wrk_eq hl hs c (l := l) hop hlast
  unfold keys_reader_worked_P keys_reader_worked_F workM cntC
  rw [q2]
  simp only [Bool.cond_decide, hset]
  by_cases e1 : 0 < (cntL s 0).1
  · simp only [if_pos e1, if_pos (Or.inl e1 : 0 < (cntL s 0).1 ∨ 0 < c.2.1)]
    exact ⟨⟨q1, a1⟩, by rw [a2]⟩
  simp only [if_neg e1]
  by_cases e2 : 0 < c.2.1
  · simp only [if_pos e2, if_pos (Or.inr e2 : 0 < (cntL s 0).1 ∨ 0 < c.2.1)]
    exact ⟨⟨q1, a1⟩, by rw [a2]⟩
  simp only [if_neg e2, if_neg (fun hh => by rcases hh with hh | hh; exact e1 hh; exact e2 hh : ¬ (0 < (cntL s 0).1 ∨ 0 < c.2.1))]
  exact ⟨⟨q1, b1⟩, by rw [b2]⟩

theorem op1 (c : Cmd) (b : Int) : 1 ≤ (setOp c [b]).2.2.1.length ∧ (setOp c [b]).2.2.1.length ≤ 2 := by simp [setOp]
theorem op2 (c : Cmd) (b d : Int) : 1 ≤ (setOp c [b, d]).2.2.1.length ∧ (setOp c [b, d]).2.2.1.length ≤ 2 := by simp [setOp]

theorem named_eq {s : List Int} (h : s <:+ ks) (c : Cmd) (hc : 0 ≤ c.2.1 ∧ c.2.1 ≤ 9999) : keys_reader_named_P (rdr ks s) c ∧ keys_reader_named_F (rdr ks s) c = res ks (namedM s c) := by
  unfold keys_reader_named_P keys_reader_named_F
  cases s with
  | nil => 
    rw [(next_nil hl).2]
    exact ⟨⟨next_P hl h, trivial⟩, rfl⟩
  | cons b r =>
    have hr := suf_tail h
    rw [(next_cons hl h).2]
    simp only [Bool.cond_decide, Bool.not_true, cond_false, namedM, idx_mem]
    have W : ∀ x : Int, keys_reader_worked_P (rdr ks r) (c.1, c.2.1, [x], c.2.2.2.1, c.2.2.2.2.1, c.2.2.2.2.2) ∧ keys_reader_worked_F (rdr ks r) (c.1, c.2.1, [x], c.2.2.2.1, c.2.2.2.2.1, c.2.2.2.2.2) = res ks (workM x r (setOp c [x])) :=
      fun x => work_eq hl hr (setOp c [x]) (op1 hl c x) rfl hc
    have nx := next_P hl h
    by_cases e1 : b = 100
    · simp only [if_pos e1, if_pos (Or.inl e1 : b = 100 ∨ b = 99 ∨ b = 121 ∨ b = 62 ∨ b = 60)]
      obtain ⟨w1, w2⟩ := W b
      exact ⟨⟨nx, w1⟩, by rw [w2]⟩
    simp only [if_neg e1]
    by_cases e2 : b = 99
    · simp only [if_pos e2, if_pos (Or.inr (Or.inl e2) : b = 100 ∨ b = 99 ∨ b = 121 ∨ b = 62 ∨ b = 60)]
      obtain ⟨w1, w2⟩ := W b
      exact ⟨⟨nx, w1⟩, by rw [w2]⟩
    simp only [if_neg e2]
    by_cases e3 : b = 121
    · simp only [if_pos e3, if_pos (Or.inr (Or.inr (Or.inl e3)) : b = 100 ∨ b = 99 ∨ b = 121 ∨ b = 62 ∨ b = 60)]
      obtain ⟨w1, w2⟩ := W b
      exact ⟨⟨nx, w1⟩, by rw [w2]⟩
    simp only [if_neg e3]
    by_cases e4 : b = 62
    · simp only [if_pos e4, if_pos (Or.inr (Or.inr (Or.inr (Or.inl e4))) : b = 100 ∨ b = 99 ∨ b = 121 ∨ b = 62 ∨ b = 60)]
      obtain ⟨w1, w2⟩ := W b
      exact ⟨⟨nx, w1⟩, by rw [w2]⟩
    simp only [if_neg e4]
    by_cases e5 : b = 60
    · simp only [if_pos e5, if_pos (Or.inr (Or.inr (Or.inr (Or.inr e5))) : b = 100 ∨ b = 99 ∨ b = 121 ∨ b = 62 ∨ b = 60)]
      obtain ⟨w1, w2⟩ := W b
      exact ⟨⟨nx, w1⟩, by rw [w2]⟩
    have e0 : ¬ (b = 100 ∨ b = 99 ∨ b = 121 ∨ b = 62 ∨ b = 60) := by omega
    simp only [if_neg e5, if_neg e0]
    by_cases e6 : b = 58
    · simp only [if_pos e6]; exact ⟨⟨nx, trivial⟩, rfl⟩
    simp only [if_neg e6]
    obtain ⟨a1, a2⟩ := arg_eq hl hr (setKey c [b])
    simp only [setKey] at a1 a2
    by_cases e7 : b = 114
    · simp only [if_pos e7, if_pos (Or.inl e7 : b = 114 ∨ b = 109)]; exact ⟨⟨nx, a1⟩, by rw [a2]; rfl⟩
    simp only [if_neg e7]
    by_cases e8 : b = 109
    · simp only [if_pos e8, if_pos (Or.inr e8 : b = 114 ∨ b = 109)]; exact ⟨⟨nx, a1⟩, by rw [a2]; rfl⟩
    simp only [if_neg e8, if_neg (fun hh => by rcases hh with hh | hh; exact e7 hh; exact e8 hh : ¬ (b = 114 ∨ b = 109))]
    obtain ⟨m1, m2⟩ := mot_eq hl hr c b
    by_cases e9 : b = 103
    · have hp : b ∉ plainsL := by subst e9; decide
      have hp' := hp
      simp only [plainsL] at hp'
      simp only [if_pos e9, if_neg hp']
      cases r with
      | nil =>
        have he := rdr_end (ks := ks) hl
        rw [if_pos he, if_pos he]
        exact ⟨⟨nx, trivial⟩, rfl⟩
      | cons d r' =>
        have hr' := suf_tail hr
        obtain ⟨k1, k2, k3⟩ := rdr_rd hl hr
        have st := rdr_step hl hr
        have W2 : ∀ x : Int, keys_reader_worked_P (rdr ks r') (c.1, c.2.1, ([103] : List Int) ++ [x], c.2.2.2.1, c.2.2.2.2.1, c.2.2.2.2.2) ∧ keys_reader_worked_F (rdr ks r') (c.1, c.2.1, ([103] : List Int) ++ [x], c.2.2.2.1, c.2.2.2.2.1, c.2.2.2.2.2) = res ks (workM x r' (setOp c [103, x])) :=
          fun x => work_eq hl hr' (setOp c [103, x]) (op2 hl c 103 x) rfl hc
        rw [if_neg k3, if_neg k3, k1, st]
        have len : ∀ x : Int, List.length ([103] : List Int) + List.length ([x] : List Int) ≤ lim := fun x => by simp [lim]
        simp only [g2M]
        obtain ⟨w1, w2⟩ := W2 d
        by_cases f1 : d = 126
        · simp only [if_pos f1, if_pos (Or.inl f1 : d = 126 ∨ d = 117 ∨ d = 85)]
          exact ⟨⟨nx, k2, len d, w1⟩, by rw [w2]⟩
        simp only [if_neg f1]
        by_cases f2 : d = 117
        · simp only [if_pos f2, if_pos (Or.inr (Or.inl f2) : d = 126 ∨ d = 117 ∨ d = 85)]
          exact ⟨⟨nx, k2, len d, w1⟩, by rw [w2]⟩
        simp only [if_neg f2]
        by_cases f3 : d = 85
        · simp only [if_pos f3, if_pos (Or.inr (Or.inr f3) : d = 126 ∨ d = 117 ∨ d = 85)]
          exact ⟨⟨nx, k2, len d, w1⟩, by rw [w2]⟩
        simp only [if_neg f3, if_neg (by omega : ¬ (d = 126 ∨ d = 117 ∨ d = 85))]
        by_cases f4 : d = 45
        · simp only [if_pos f4, if_pos (Or.inl f4 : d = 45 ∨ d = 43)]
          exact ⟨⟨nx, k2, len d⟩, rfl⟩
        simp only [if_neg f4]
        by_cases f5 : d = 43
        · simp only [if_pos f5, if_pos (Or.inr f5 : d = 45 ∨ d = 43)]
          exact ⟨⟨nx, k2, len d⟩, rfl⟩
        simp only [if_neg f5, if_neg (by omega : ¬ (d = 45 ∨ d = 43))]
        refine ⟨⟨nx, k2, m1⟩, ?_⟩
        rw [m2, e9]
    simp only [if_neg e9]
    by_cases e10 : b ∈ plainsL
    · have e10' := e10
      simp only [plainsL] at e10'
      simp only [if_pos e10', if_pos e10]
      exact ⟨⟨nx, trivial⟩, rfl⟩
    · have e10' := e10
      simp only [plainsL] at e10'
      simp only [if_neg e10', if_neg e10]
      exact ⟨⟨nx, m1⟩, by rw [m2]⟩

theorem fin_eq {s : List Int} (h : s <:+ ks) (x : Cmd) (c : Cmd) (hx : x = zC) :
    keys_Parse_J0_P ks x (rdr ks s) c ∧ keys_Parse_J0_F ks x (rdr ks s) c = ((finM s c).2, (finM s c).1) := by
  obtain ⟨q1, q2⟩ := count_eq hl h
  have hb := cntL_bound s 0 (by omega) (by omega)
  have hs := suf_drop (cntL s 0).2 h
  obtain ⟨n1, n2⟩ := named_eq hl hs (setCnt c (cntL s 0).1) hb
  unfold keys_Parse_J0_P keys_Parse_J0_F finM
  rw [q2]
  simp only [Bool.cond_decide]
  refine ⟨⟨q1, n1⟩, ?_⟩
  have e : keys_reader_named_F (rdr ks (s.drop (cntL s 0).2)) (c.1, (cntL s 0).1, c.2.2.1, c.2.2.2.1, c.2.2.2.2.1, c.2.2.2.2.2) = res ks (namedM (s.drop (cntL s 0).2) (setCnt c (cntL s 0).1)) := n2
  rw [e]
  generalize namedM (s.drop (cntL s 0).2) (setCnt c (cntL s 0).1) = m
  show (if m.1 = 0 then (m.1, zC) else if m.1 = 2 then (m.1, zC) else if (ks.length : Int) - m.2.1.length < (ks.length : Int) then ((2:Int), zC) else (m.1, m.2.2)) = _
  by_cases e1 : m.1 = 0
  · rw [if_pos e1, if_pos (Or.inl e1)]
  rw [if_neg e1]
  by_cases e2 : m.1 = 2
  · rw [if_pos e2, if_pos (Or.inr e2)]
  rw [if_neg e2, if_neg (fun hh => by rcases hh with hh | hh; exact e1 hh; exact e2 hh : ¬ (m.1 = 0 ∨ m.1 = 2))]
  by_cases e3 : m.2.1 = []
  · rw [e3]; simp
  · have : 0 < m.2.1.length := List.length_pos_iff.2 e3
    rw [if_pos (by omega), if_pos e3]

theorem parse_eq (h255 : ∀ x ∈ ks, 0 ≤ x ∧ x ≤ 255) : keys_Parse_P ks ∧ keys_Parse_F ks = parseM ks := by
  unfold keys_Parse_P keys_Parse_F parseM
  have e0 : rdr ks ks = (ks, 0) := by unfold rdr; simp
  obtain ⟨a1, a2⟩ := fin_eq hl (List.suffix_refl ks) zC zC rfl
  rw [e0] at a1 a2
  cases hk : ks with
  | nil =>
    rw [hk] at a1 a2
    refine ⟨a1, ?_⟩
    show ((keys_Parse_J0_F [] zC ([], 0) zC).2, (keys_Parse_J0_F [] zC ([], 0) zC).1) = finM [] zC
    rw [a2]
  | cons b r =>
    have hlt : decide ((0 : Int) < ((b :: r).length : Int)) = true := by simp
    rw [hlt]
    simp only [cond_true, List.head?_cons, Option.some.injEq, List.tail_cons]
    have hrd : rd (0 : Int) (b :: r) 0 = b := rfl
    rw [hrd]
    simp only [Bool.cond_decide]
    rw [hk] at a1 a2
    by_cases e1 : b = 34
    · simp only [if_pos e1]
      have hsf : r <:+ ks := by rw [hk]; exact ⟨[b], rfl⟩
      have e2 : rdr ks r = (b :: r, 1) := by
        unfold rdr; rw [hk]; simp only [List.length_cons, Prod.mk.injEq, true_and]; omega
      cases r with
      | nil =>
        have hn := next_nil hl
        rw [e2] at hn
        rw [hn.2]
        exact ⟨⟨⟨by omega, by simp⟩, hn.1, trivial⟩, rfl⟩
      | cons n r' =>
        have hn := next_cons hl hsf
        rw [e2] at hn
        rw [hn.2]
        have hsf' := suf_tail hsf
        have P0 : (0 : Int) ≤ 0 ∧ (0 : Int) < ((b :: n :: r').length : Int) := ⟨by omega, by simp only [List.length_cons]; omega⟩
        simp only [Bool.not_true, cond_false]
        by_cases e3 : n = 0
        · simp only [if_pos e3, if_pos (Or.inl e3 : n = 0 ∨ bank_Valid_F n = false)]
          exact ⟨⟨P0, hn.1, trivial⟩, rfl⟩
        simp only [if_neg e3]
        cases hv : bank_Valid_F n with
        | false => 
          simp only [Bool.not_false, cond_true]
          refine ⟨⟨P0, hn.1, trivial⟩, ?_⟩
          rw [if_pos (Or.inr trivial)]; rfl
        | true =>
          simp only [Bool.not_true, cond_false]
          obtain ⟨b1, b2⟩ := fin_eq hl hsf' zC (n, 0, [], [], 0, []) rfl
          rw [hk] at b1 b2
          refine ⟨⟨P0, hn.1, by rw [hk]; exact b1⟩, ?_⟩
          rw [if_neg (fun hh => by rcases hh with hh | hh; exact e3 hh; cases hh)]
          show ((keys_Parse_J0_F (b :: n :: r') zC (rdr ks r') (n, 0, [], [], 0, [])).2, (keys_Parse_J0_F (b :: n :: r') zC (rdr ks r') (n, 0, [], [], 0, [])).1) = _
          rw [hk, b2]
    · simp only [if_neg e1]
      refine ⟨⟨⟨by omega, by simp only [List.length_cons]; omega⟩, a1⟩, ?_⟩
      show ((keys_Parse_J0_F (b :: r) zC (b :: r, 0) zC).2, (keys_Parse_J0_F (b :: r) zC (b :: r, 0) zC).1) = finM (b :: r) zC
      rw [a2]
end
end Go.VE
namespace Go.VE
open Go Go.Proofs
/-! ### internal/stringslite.Index -/
def internal_stringslite_Index_G : List (Nat × App) := [(155, internal_stringslite_IndexByte_S)]
theorem internal_stringslite_Index_Gok : GOk Tryd.prog (getG internal_stringslite_Index_G) := GOk.cons internal_stringslite_IndexByte_ok (GOk.nil)
def internal_stringslite_Index_raw (s0 : List Int) (substr1 : List Int) (K : Res → List Cell → Prop) : Prop :=
 bif (decide ((List.length substr1 : Int) = (0 : Int))) then
 K (.one (.v (.int .i64) (0 : Int))) []
 else
 bif (decide (substr1 = s0)) then
 K (.one (.v (.int .i64) (0 : Int))) []
 else
 bif (decide ((List.length substr1 : Int) = (1 : Int))) then
 bif decide (0 ≤ (0 : Int) ∧ (0 : Int) < (List.length substr1 : Int)) then
 ∀ (r1 : Int), r1 = internal_stringslite_IndexByte_F s0 (rd (0 : Int) substr1 (0 : Int)) → (
 wfR (.one (.v (.int .i64) r1)) → (
 K (.one (.v (.int .i64) r1)) []))
 else False
 else
 bif (decide ((List.length s0 : Int) ≤ (List.length substr1 : Int))) then
 K (.one (.v (.int .i64) (-1 : Int))) []
 else
 False
def internal_stringslite_Index_A : List AS := [.v (.str), .v (.str)]
theorem internal_stringslite_Index_walk (s0 : List Int) (substr1 : List Int) (K : Res → List Cell → Prop) : runF tb (getG internal_stringslite_Index_G) [] Tryd.f129 [true] (mkA internal_stringslite_Index_A (s0, substr1, ())) K = internal_stringslite_Index_raw s0 substr1 K := by kernel_rfl
--! soft 1

def internal_stringslite_Index_P (s0 : List Int) (substr1 : List Int) : Prop :=
 bif (decide ((List.length substr1 : Int) = (0 : Int))) then
 True
 else
 bif (decide (substr1 = s0)) then
 True
 else
 bif (decide ((List.length substr1 : Int) = (1 : Int))) then
 (0 ≤ (0 : Int) ∧ (0 : Int) < (List.length substr1 : Int))
 else
 bif (decide ((List.length s0 : Int) ≤ (List.length substr1 : Int))) then
 True
 else
 False
def internal_stringslite_Index_F (s0 : List Int) (substr1 : List Int) : Int :=
 bif (decide ((List.length substr1 : Int) = (0 : Int))) then
 (0 : Int)
 else
 bif (decide (substr1 = s0)) then
 (0 : Int)
 else
 bif (decide ((List.length substr1 : Int) = (1 : Int))) then
 let r1 : Int := internal_stringslite_IndexByte_F s0 (rd (0 : Int) substr1 (0 : Int))
 r1
 else
 bif (decide ((List.length s0 : Int) ≤ (List.length substr1 : Int))) then
 (-1 : Int)
 else
 default
set_option maxRecDepth 20000 in
theorem internal_stringslite_Index_sp (s0 : List Int) (substr1 : List Int) (K : Res → List Cell → Prop) (_ : wfA internal_stringslite_Index_A (s0, substr1, ())) (hp : internal_stringslite_Index_P s0 substr1) (h : ∀ r : Int, r = internal_stringslite_Index_F s0 substr1 → K (.one (.v (.int .i64) r)) []) : internal_stringslite_Index_raw s0 substr1 K := by
  unfold internal_stringslite_Index_raw
  unfold internal_stringslite_Index_P at hp
  refine brb (fun c_1 => ?_) (fun c_1 => ?_)
  ·
    clear hp
    exact h _ ((ctrue c_1) : internal_stringslite_Index_F s0 substr1 = _).symm
  ·
    replace hp := cF c_1 hp
    refine brb (fun c_2 => ?_) (fun c_2 => ?_)
    ·
      clear hp
      exact h _ ((Eq.trans (cfalse c_1) (ctrue c_2)) : internal_stringslite_Index_F s0 substr1 = _).symm
    ·
      replace hp := cF c_2 hp
      refine brb (fun c_3 => ?_) (fun c_3 => ?_)
      ·
        replace hp := cT c_3 hp
        refine asrt hp ?_
        intro r1 hr1
        subst hr1
        intro _
        exact h _ ((Eq.trans (cfalse c_1) (Eq.trans (cfalse c_2) (ctrue c_3))) : internal_stringslite_Index_F s0 substr1 = _).symm
      ·
        replace hp := cF c_3 hp
        refine brb (fun c_4 => ?_) (fun c_4 => ?_)
        ·
          clear hp
          exact h _ ((Eq.trans (cfalse c_1) (Eq.trans (cfalse c_2) (Eq.trans (cfalse c_3) (ctrue c_4)))) : internal_stringslite_Index_F s0 substr1 = _).symm
        ·
          replace hp := cF c_4 hp
          exact hp.elim
def internal_stringslite_Index_C (v : valsA internal_stringslite_Index_A) (K : Res → List Cell → Prop) : Prop := internal_stringslite_Index_P v.1 v.2.1 ∧ ∀ r : Int, r = internal_stringslite_Index_F v.1 v.2.1 → K (.one (.v (.int .i64) r)) []
def internal_stringslite_Index_S : App := specW internal_stringslite_Index_A internal_stringslite_Index_C
theorem internal_stringslite_Index_wv (K : Res → List Cell → Prop) : ∀ v : valsA internal_stringslite_Index_A, runF tb (getG internal_stringslite_Index_G) [] Tryd.f129 [true] (mkA internal_stringslite_Index_A v) K = internal_stringslite_Index_raw v.1 v.2.1 K
  | (s0, substr1, ()) => internal_stringslite_Index_walk s0 substr1 K
set_option maxRecDepth 20000 in
theorem internal_stringslite_Index_ok : AppOk Tryd.prog 129 internal_stringslite_Index_S :=
  AppOk.specW (spec_ok ((runF_ok tb_M tb_ok internal_stringslite_Index_Gok (LabsOk.nil) (f := 129) (fn := Tryd.f129) (by kernel_rfl) (by kernel_rfl) (by kernel_rfl) [true])) fun v K hw h => (internal_stringslite_Index_wv K v).mpr (internal_stringslite_Index_sp v.1 v.2.1 K hw h.1 h.2))

end Go.VE
namespace Go.VE
open Go Go.Proofs
/-! ### strings.Index -/
def strings_Index_G : List (Nat × App) := [(129, internal_stringslite_Index_S)]
theorem strings_Index_Gok : GOk Tryd.prog (getG strings_Index_G) := GOk.cons internal_stringslite_Index_ok (GOk.nil)
def strings_Index_raw (s0 : List Int) (substr1 : List Int) (K : Res → List Cell → Prop) : Prop :=
 internal_stringslite_Index_P s0 substr1 ∧ (
 ∀ (r1 : Int), r1 = internal_stringslite_Index_F s0 substr1 → (
 wfR (.one (.v (.int .i64) r1)) → (
 K (.one (.v (.int .i64) r1)) [])))
def strings_Index_A : List AS := [.v (.str), .v (.str)]
theorem strings_Index_walk (s0 : List Int) (substr1 : List Int) (K : Res → List Cell → Prop) : runF tb (getG strings_Index_G) [] Tryd.f91 [true] (mkA strings_Index_A (s0, substr1, ())) K = strings_Index_raw s0 substr1 K := by kernel_rfl

def strings_Index_P (s0 : List Int) (substr1 : List Int) : Prop :=
 internal_stringslite_Index_P s0 substr1
def strings_Index_F (s0 : List Int) (substr1 : List Int) : Int :=
 let r1 : Int := internal_stringslite_Index_F s0 substr1
 r1
set_option maxRecDepth 20000 in
theorem strings_Index_sp (s0 : List Int) (substr1 : List Int) (K : Res → List Cell → Prop) (_ : wfA strings_Index_A (s0, substr1, ())) (hp : strings_Index_P s0 substr1) (h : ∀ r : Int, r = strings_Index_F s0 substr1 → K (.one (.v (.int .i64) r)) []) : strings_Index_raw s0 substr1 K := by
  unfold strings_Index_raw
  unfold strings_Index_P at hp
  refine ⟨hp, ?_⟩
  intro r1 hr1
  subst hr1
  intro _
  exact h _ rfl
def strings_Index_C (v : valsA strings_Index_A) (K : Res → List Cell → Prop) : Prop := strings_Index_P v.1 v.2.1 ∧ ∀ r : Int, r = strings_Index_F v.1 v.2.1 → K (.one (.v (.int .i64) r)) []
def strings_Index_S : App := specW strings_Index_A strings_Index_C
theorem strings_Index_wv (K : Res → List Cell → Prop) : ∀ v : valsA strings_Index_A, runF tb (getG strings_Index_G) [] Tryd.f91 [true] (mkA strings_Index_A v) K = strings_Index_raw v.1 v.2.1 K
  | (s0, substr1, ()) => strings_Index_walk s0 substr1 K
set_option maxRecDepth 20000 in
theorem strings_Index_ok : AppOk Tryd.prog 91 strings_Index_S :=
  AppOk.specW (spec_ok ((runF_ok tb_M tb_ok strings_Index_Gok (LabsOk.nil) (f := 91) (fn := Tryd.f91) (by kernel_rfl) (by kernel_rfl) (by kernel_rfl) [true])) fun v K hw h => (strings_Index_wv K v).mpr (strings_Index_sp v.1 v.2.1 K hw h.1 h.2))

end Go.VE
namespace Go.VE
open Go Go.Proofs
/-! ### strings.Contains -/
def strings_Contains_G : List (Nat × App) := [(91, strings_Index_S)]
theorem strings_Contains_Gok : GOk Tryd.prog (getG strings_Contains_G) := GOk.cons strings_Index_ok (GOk.nil)
def strings_Contains_raw (s0 : List Int) (substr1 : List Int) (K : Res → List Cell → Prop) : Prop :=
 strings_Index_P s0 substr1 ∧ (
 ∀ (r1 : Int), r1 = strings_Index_F s0 substr1 → (
 wfR (.one (.v (.int .i64) r1)) → (
 K (.one (.v (.bool) (decide ((0 : Int) ≤ r1)))) [])))
def strings_Contains_A : List AS := [.v (.str), .v (.str)]
theorem strings_Contains_walk (s0 : List Int) (substr1 : List Int) (K : Res → List Cell → Prop) : runF tb (getG strings_Contains_G) [] Tryd.f49 [true] (mkA strings_Contains_A (s0, substr1, ())) K = strings_Contains_raw s0 substr1 K := by kernel_rfl

def strings_Contains_P (s0 : List Int) (substr1 : List Int) : Prop :=
 strings_Index_P s0 substr1
def strings_Contains_F (s0 : List Int) (substr1 : List Int) : Bool :=
 let r1 : Int := strings_Index_F s0 substr1
 (decide ((0 : Int) ≤ r1))
set_option maxRecDepth 20000 in
theorem strings_Contains_sp (s0 : List Int) (substr1 : List Int) (K : Res → List Cell → Prop) (_ : wfA strings_Contains_A (s0, substr1, ())) (hp : strings_Contains_P s0 substr1) (h : ∀ r : Bool, r = strings_Contains_F s0 substr1 → K (.one (.v (.bool) r)) []) : strings_Contains_raw s0 substr1 K := by
  unfold strings_Contains_raw
  unfold strings_Contains_P at hp
  refine ⟨hp, ?_⟩
  intro r1 hr1
  subst hr1
  intro _
  exact h _ rfl
def strings_Contains_C (v : valsA strings_Contains_A) (K : Res → List Cell → Prop) : Prop := strings_Contains_P v.1 v.2.1 ∧ ∀ r : Bool, r = strings_Contains_F v.1 v.2.1 → K (.one (.v (.bool) r)) []
def strings_Contains_S : App := specW strings_Contains_A strings_Contains_C
theorem strings_Contains_wv (K : Res → List Cell → Prop) : ∀ v : valsA strings_Contains_A, runF tb (getG strings_Contains_G) [] Tryd.f49 [true] (mkA strings_Contains_A v) K = strings_Contains_raw v.1 v.2.1 K
  | (s0, substr1, ()) => strings_Contains_walk s0 substr1 K
set_option maxRecDepth 20000 in
theorem strings_Contains_ok : AppOk Tryd.prog 49 strings_Contains_S :=
  AppOk.specW (spec_ok ((runF_ok tb_M tb_ok strings_Contains_Gok (LabsOk.nil) (f := 49) (fn := Tryd.f49) (by kernel_rfl) (by kernel_rfl) (by kernel_rfl) [true])) fun v K hw h => (strings_Contains_wv K v).mpr (strings_Contains_sp v.1 v.2.1 K hw h.1 h.2))

end Go.VE
namespace Go.VE
open Go Go.Proofs
/-! ### quoin/keys.one -/
def keys_one_G : List (Nat × App) := [(49, strings_Contains_S)]
theorem keys_one_Gok : GOk Tryd.prog (getG keys_one_G) := GOk.cons strings_Contains_ok (GOk.nil)
def keys_one_raw (key0 : List Int) (list1 : List Int) (K : Res → List Cell → Prop) : Prop :=
 bif (decide ((List.length key0 : Int) = (1 : Int))) then
 strings_Contains_P list1 key0 ∧ (
 ∀ (r1 : Bool), r1 = strings_Contains_F list1 key0 → (
 wfR (.one (.v (.bool) r1)) → (
 K (.one (.v (.bool) r1)) [])))
 else
 K (.one (.v (.bool) false)) []
def keys_one_A : List AS := [.v (.str), .v (.str)]
theorem keys_one_walk (key0 : List Int) (list1 : List Int) (K : Res → List Cell → Prop) : runF tb (getG keys_one_G) [] Tryd.f128 [true] (mkA keys_one_A (key0, list1, ())) K = keys_one_raw key0 list1 K := by kernel_rfl

def keys_one_P (key0 : List Int) (list1 : List Int) : Prop :=
 bif (decide ((List.length key0 : Int) = (1 : Int))) then
 strings_Contains_P list1 key0
 else
 True
def keys_one_F (key0 : List Int) (list1 : List Int) : Bool :=
 bif (decide ((List.length key0 : Int) = (1 : Int))) then
 let r1 : Bool := strings_Contains_F list1 key0
 r1
 else
 false
set_option maxRecDepth 20000 in
theorem keys_one_sp (key0 : List Int) (list1 : List Int) (K : Res → List Cell → Prop) (_ : wfA keys_one_A (key0, list1, ())) (hp : keys_one_P key0 list1) (h : ∀ r : Bool, r = keys_one_F key0 list1 → K (.one (.v (.bool) r)) []) : keys_one_raw key0 list1 K := by
  unfold keys_one_raw
  unfold keys_one_P at hp
  refine brb (fun c_1 => ?_) (fun c_1 => ?_)
  ·
    replace hp := cT c_1 hp
    refine ⟨hp, ?_⟩
    intro r1 hr1
    subst hr1
    intro _
    exact h _ ((ctrue c_1) : keys_one_F key0 list1 = _).symm
  ·
    clear hp
    exact h _ ((cfalse c_1) : keys_one_F key0 list1 = _).symm
def keys_one_C (v : valsA keys_one_A) (K : Res → List Cell → Prop) : Prop := keys_one_P v.1 v.2.1 ∧ ∀ r : Bool, r = keys_one_F v.1 v.2.1 → K (.one (.v (.bool) r)) []
def keys_one_S : App := specW keys_one_A keys_one_C
theorem keys_one_wv (K : Res → List Cell → Prop) : ∀ v : valsA keys_one_A, runF tb (getG keys_one_G) [] Tryd.f128 [true] (mkA keys_one_A v) K = keys_one_raw v.1 v.2.1 K
  | (key0, list1, ()) => keys_one_walk key0 list1 K
set_option maxRecDepth 20000 in
theorem keys_one_ok : AppOk Tryd.prog 128 keys_one_S :=
  AppOk.specW (spec_ok ((runF_ok tb_M tb_ok keys_one_Gok (LabsOk.nil) (f := 128) (fn := Tryd.f128) (by kernel_rfl) (by kernel_rfl) (by kernel_rfl) [true])) fun v K hw h => (keys_one_wv K v).mpr (keys_one_sp v.1 v.2.1 K hw h.1 h.2))

end Go.VE
