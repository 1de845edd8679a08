/- KeysParse: whatever the input, up to the bulk that the statement names, the law answers true, and what was handed in reads as it did. Its conditions: the bound of the given statement and the tables that its card ties, no other. -/
import Derived.Test.YtdmgfabppaffkaaDoorQ12
set_option linter.unusedVariables false
set_option linter.unusedSectionVars false
set_option linter.unusedSimpArgs false
namespace Go.VE
open Go Go.Proofs
/-! ### quoin/quoinlaw21.KeysMore -/
def quoinlaw21_KeysMore_G : List (Nat × App) := [(10, quoinlaw21_awake_S), (12, keys_Parse_S)]
theorem quoinlaw21_KeysMore_Gok : GOk Tryd.prog (getG quoinlaw21_KeysMore_G) := GOk.cons quoinlaw21_awake_ok (GOk.cons keys_Parse_ok (GOk.nil))
theorem quoinlaw21_KeysMore_st : storesC (bodyOf Tryd.f7) = true := by kernel_rfl
def quoinlaw21_KeysMore_d0 : List LS := [.v 0 (.sl (.int .u8)), .o 5 45 9 (.str), .v 6 (.int .i64)]
def quoinlaw21_KeysMore_d0r : List LS := [.v 2 (.bool)]
def quoinlaw21_KeysMore_d0x0 : List LS := []
def quoinlaw21_KeysMore_dx0 : DX := ⟨none, some quoinlaw21_KeysMore_d0r, [(0, quoinlaw21_KeysMore_d0x0)]⟩
def quoinlaw21_KeysMore_T0 (Y : List Int → List (List Int) → Int → Prop) (kr : Bool → Prop) (kx0 : Prop) (all0 : List Int) (tails5 : List (List Int)) (i6 : Int) : Prop :=
  bif (decide (i6 < (List.length tails5 : Int))) then
    (
      (
        bif decide (List.length ([] : List Int) + List.length all0 ≤ lim) then
        (
          bif decide (0 ≤ i6 ∧ i6 < (List.length tails5 : Int)) then
          (
            (
              bif decide (List.length (([] : List Int) ++ all0) + List.length (rd ([] : List Int) tails5 i6) ≤ lim) then
              (
                keys_Parse_P ((([] : List Int) ++ all0) ++ (rd ([] : List Int) tails5 i6)) ∧ (
                ∀ (r3 : (Int × Int × List Int × List Int × Int × List Int) × Int), r3 = keys_Parse_F ((([] : List Int) ++ all0) ++ (rd ([] : List Int) tails5 i6)) → (
                wfR (.tup [.v (.st (.pair (.int .u8) (.pair (.int .i64) (.pair (.str) (.pair (.str) (.pair (.int .u8) (.sl (.int .u8)))))))) r3.1, .v (.int .i64) r3.2]) → (
                bif (decide (r3.2 = (1 : Int))) then
                  kr true
                else
                  Y all0 tails5 (IntKind.wrap .i64 (i6 + (1 : Int))))))) ∧ (
                keys_Parse_P ((([] : List Int) ++ all0) ++ (rd ([] : List Int) tails5 i6)) ∧ (
                ∀ (r4 : (Int × Int × List Int × List Int × Int × List Int) × Int), r4 = keys_Parse_F ((([] : List Int) ++ all0) ++ (rd ([] : List Int) tails5 i6)) → (
                wfR (.tup [.v (.st (.pair (.int .u8) (.pair (.int .i64) (.pair (.str) (.pair (.str) (.pair (.int .u8) (.sl (.int .u8)))))))) r4.1, .v (.int .i64) r4.2]) → (
                bif (decide (r4.2 = (1 : Int))) then
                  kr true
                else
                  Y all0 tails5 (IntKind.wrap .i64 (i6 + (1 : Int))))))) ∧ True
              else False) ∧ (
              bif decide (List.length (([] : List Int) ++ all0) + List.length (rd ([] : List Int) tails5 i6) ≤ lim) then
              keys_Parse_P ((([] : List Int) ++ all0) ++ (rd ([] : List Int) tails5 i6)) ∧ (
              ∀ (r5 : (Int × Int × List Int × List Int × Int × List Int) × Int), r5 = keys_Parse_F ((([] : List Int) ++ all0) ++ (rd ([] : List Int) tails5 i6)) → (
              wfR (.tup [.v (.st (.pair (.int .u8) (.pair (.int .i64) (.pair (.str) (.pair (.str) (.pair (.int .u8) (.sl (.int .u8)))))))) r5.1, .v (.int .i64) r5.2]) → (
              bif (decide (r5.2 = (1 : Int))) then
                kr true
              else
                Y all0 tails5 (IntKind.wrap .i64 (i6 + (1 : Int))))))
              else False) ∧ True) ∧ (
            bif decide (List.length (([] : List Int) ++ all0) + List.length (rd ([] : List Int) tails5 i6) ≤ lim) then
            keys_Parse_P ((([] : List Int) ++ all0) ++ (rd ([] : List Int) tails5 i6)) ∧ (
            ∀ (r6 : (Int × Int × List Int × List Int × Int × List Int) × Int), r6 = keys_Parse_F ((([] : List Int) ++ all0) ++ (rd ([] : List Int) tails5 i6)) → (
            wfR (.tup [.v (.st (.pair (.int .u8) (.pair (.int .i64) (.pair (.str) (.pair (.str) (.pair (.int .u8) (.sl (.int .u8)))))))) r6.1, .v (.int .i64) r6.2]) → (
            bif (decide (r6.2 = (1 : Int))) then
              kr true
            else
              Y all0 tails5 (IntKind.wrap .i64 (i6 + (1 : Int))))))
            else False) ∧ True
          else False) ∧ (
          bif decide (0 ≤ i6 ∧ i6 < (List.length tails5 : Int)) then
          bif decide (List.length (([] : List Int) ++ all0) + List.length (rd ([] : List Int) tails5 i6) ≤ lim) then
          keys_Parse_P ((([] : List Int) ++ all0) ++ (rd ([] : List Int) tails5 i6)) ∧ (
          ∀ (r7 : (Int × Int × List Int × List Int × Int × List Int) × Int), r7 = keys_Parse_F ((([] : List Int) ++ all0) ++ (rd ([] : List Int) tails5 i6)) → (
          wfR (.tup [.v (.st (.pair (.int .u8) (.pair (.int .i64) (.pair (.str) (.pair (.str) (.pair (.int .u8) (.sl (.int .u8)))))))) r7.1, .v (.int .i64) r7.2]) → (
          bif (decide (r7.2 = (1 : Int))) then
            kr true
          else
            Y all0 tails5 (IntKind.wrap .i64 (i6 + (1 : Int))))))
          else False
          else False) ∧ True
        else False) ∧ (
        bif decide (0 ≤ i6 ∧ i6 < (List.length tails5 : Int)) then
        (
          bif decide (List.length ([] : List Int) + List.length all0 ≤ lim) then
          (
            (
              bif decide (List.length (([] : List Int) ++ all0) + List.length (rd ([] : List Int) tails5 i6) ≤ lim) then
              (
                keys_Parse_P ((([] : List Int) ++ all0) ++ (rd ([] : List Int) tails5 i6)) ∧ (
                ∀ (r8 : (Int × Int × List Int × List Int × Int × List Int) × Int), r8 = keys_Parse_F ((([] : List Int) ++ all0) ++ (rd ([] : List Int) tails5 i6)) → (
                wfR (.tup [.v (.st (.pair (.int .u8) (.pair (.int .i64) (.pair (.str) (.pair (.str) (.pair (.int .u8) (.sl (.int .u8)))))))) r8.1, .v (.int .i64) r8.2]) → (
                bif (decide (r8.2 = (1 : Int))) then
                  kr true
                else
                  Y all0 tails5 (IntKind.wrap .i64 (i6 + (1 : Int))))))) ∧ (
                keys_Parse_P ((([] : List Int) ++ all0) ++ (rd ([] : List Int) tails5 i6)) ∧ (
                ∀ (r9 : (Int × Int × List Int × List Int × Int × List Int) × Int), r9 = keys_Parse_F ((([] : List Int) ++ all0) ++ (rd ([] : List Int) tails5 i6)) → (
                wfR (.tup [.v (.st (.pair (.int .u8) (.pair (.int .i64) (.pair (.str) (.pair (.str) (.pair (.int .u8) (.sl (.int .u8)))))))) r9.1, .v (.int .i64) r9.2]) → (
                bif (decide (r9.2 = (1 : Int))) then
                  kr true
                else
                  Y all0 tails5 (IntKind.wrap .i64 (i6 + (1 : Int))))))) ∧ True
              else False) ∧ (
              bif decide (List.length (([] : List Int) ++ all0) + List.length (rd ([] : List Int) tails5 i6) ≤ lim) then
              keys_Parse_P ((([] : List Int) ++ all0) ++ (rd ([] : List Int) tails5 i6)) ∧ (
              ∀ (r10 : (Int × Int × List Int × List Int × Int × List Int) × Int), r10 = keys_Parse_F ((([] : List Int) ++ all0) ++ (rd ([] : List Int) tails5 i6)) → (
              wfR (.tup [.v (.st (.pair (.int .u8) (.pair (.int .i64) (.pair (.str) (.pair (.str) (.pair (.int .u8) (.sl (.int .u8)))))))) r10.1, .v (.int .i64) r10.2]) → (
              bif (decide (r10.2 = (1 : Int))) then
                kr true
              else
                Y all0 tails5 (IntKind.wrap .i64 (i6 + (1 : Int))))))
              else False) ∧ True) ∧ (
            bif decide (List.length (([] : List Int) ++ all0) + List.length (rd ([] : List Int) tails5 i6) ≤ lim) then
            keys_Parse_P ((([] : List Int) ++ all0) ++ (rd ([] : List Int) tails5 i6)) ∧ (
            ∀ (r11 : (Int × Int × List Int × List Int × Int × List Int) × Int), r11 = keys_Parse_F ((([] : List Int) ++ all0) ++ (rd ([] : List Int) tails5 i6)) → (
            wfR (.tup [.v (.st (.pair (.int .u8) (.pair (.int .i64) (.pair (.str) (.pair (.str) (.pair (.int .u8) (.sl (.int .u8)))))))) r11.1, .v (.int .i64) r11.2]) → (
            bif (decide (r11.2 = (1 : Int))) then
              kr true
            else
              Y all0 tails5 (IntKind.wrap .i64 (i6 + (1 : Int))))))
            else False) ∧ True
          else False) ∧ (
          (
            bif decide (List.length ([] : List Int) + List.length all0 ≤ lim) then
            (
              bif decide (List.length (([] : List Int) ++ all0) + List.length (rd ([] : List Int) tails5 i6) ≤ lim) then
              (
                keys_Parse_P ((([] : List Int) ++ all0) ++ (rd ([] : List Int) tails5 i6)) ∧ (
                ∀ (r12 : (Int × Int × List Int × List Int × Int × List Int) × Int), r12 = keys_Parse_F ((([] : List Int) ++ all0) ++ (rd ([] : List Int) tails5 i6)) → (
                wfR (.tup [.v (.st (.pair (.int .u8) (.pair (.int .i64) (.pair (.str) (.pair (.str) (.pair (.int .u8) (.sl (.int .u8)))))))) r12.1, .v (.int .i64) r12.2]) → (
                bif (decide (r12.2 = (1 : Int))) then
                  kr true
                else
                  Y all0 tails5 (IntKind.wrap .i64 (i6 + (1 : Int))))))) ∧ (
                keys_Parse_P ((([] : List Int) ++ all0) ++ (rd ([] : List Int) tails5 i6)) ∧ (
                ∀ (r13 : (Int × Int × List Int × List Int × Int × List Int) × Int), r13 = keys_Parse_F ((([] : List Int) ++ all0) ++ (rd ([] : List Int) tails5 i6)) → (
                wfR (.tup [.v (.st (.pair (.int .u8) (.pair (.int .i64) (.pair (.str) (.pair (.str) (.pair (.int .u8) (.sl (.int .u8)))))))) r13.1, .v (.int .i64) r13.2]) → (
                bif (decide (r13.2 = (1 : Int))) then
                  kr true
                else
                  Y all0 tails5 (IntKind.wrap .i64 (i6 + (1 : Int))))))) ∧ True
              else False) ∧ (
              bif decide (List.length (([] : List Int) ++ all0) + List.length (rd ([] : List Int) tails5 i6) ≤ lim) then
              keys_Parse_P ((([] : List Int) ++ all0) ++ (rd ([] : List Int) tails5 i6)) ∧ (
              ∀ (r14 : (Int × Int × List Int × List Int × Int × List Int) × Int), r14 = keys_Parse_F ((([] : List Int) ++ all0) ++ (rd ([] : List Int) tails5 i6)) → (
              wfR (.tup [.v (.st (.pair (.int .u8) (.pair (.int .i64) (.pair (.str) (.pair (.str) (.pair (.int .u8) (.sl (.int .u8)))))))) r14.1, .v (.int .i64) r14.2]) → (
              bif (decide (r14.2 = (1 : Int))) then
                kr true
              else
                Y all0 tails5 (IntKind.wrap .i64 (i6 + (1 : Int))))))
              else False) ∧ True
            else False) ∧ (
            bif decide (List.length ([] : List Int) + List.length all0 ≤ lim) then
            bif decide (List.length (([] : List Int) ++ all0) + List.length (rd ([] : List Int) tails5 i6) ≤ lim) then
            keys_Parse_P ((([] : List Int) ++ all0) ++ (rd ([] : List Int) tails5 i6)) ∧ (
            ∀ (r15 : (Int × Int × List Int × List Int × Int × List Int) × Int), r15 = keys_Parse_F ((([] : List Int) ++ all0) ++ (rd ([] : List Int) tails5 i6)) → (
            wfR (.tup [.v (.st (.pair (.int .u8) (.pair (.int .i64) (.pair (.str) (.pair (.str) (.pair (.int .u8) (.sl (.int .u8)))))))) r15.1, .v (.int .i64) r15.2]) → (
            bif (decide (r15.2 = (1 : Int))) then
              kr true
            else
              Y all0 tails5 (IntKind.wrap .i64 (i6 + (1 : Int))))))
            else False
            else False) ∧ True) ∧ (
          (
            bif decide (List.length ([] : List Int) + List.length all0 ≤ lim) then
            bif decide (List.length (([] : List Int) ++ all0) + List.length (rd ([] : List Int) tails5 i6) ≤ lim) then
            keys_Parse_P ((([] : List Int) ++ all0) ++ (rd ([] : List Int) tails5 i6)) ∧ (
            ∀ (r16 : (Int × Int × List Int × List Int × Int × List Int) × Int), r16 = keys_Parse_F ((([] : List Int) ++ all0) ++ (rd ([] : List Int) tails5 i6)) → (
            wfR (.tup [.v (.st (.pair (.int .u8) (.pair (.int .i64) (.pair (.str) (.pair (.str) (.pair (.int .u8) (.sl (.int .u8)))))))) r16.1, .v (.int .i64) r16.2]) → (
            bif (decide (r16.2 = (1 : Int))) then
              kr true
            else
              Y all0 tails5 (IntKind.wrap .i64 (i6 + (1 : Int))))))
            else False
            else False) ∧ (
            bif decide (List.length ([] : List Int) + List.length all0 ≤ lim) then
            bif decide (List.length (([] : List Int) ++ all0) + List.length (rd ([] : List Int) tails5 i6) ≤ lim) then
            keys_Parse_P ((([] : List Int) ++ all0) ++ (rd ([] : List Int) tails5 i6)) ∧ (
            ∀ (r17 : (Int × Int × List Int × List Int × Int × List Int) × Int), r17 = keys_Parse_F ((([] : List Int) ++ all0) ++ (rd ([] : List Int) tails5 i6)) → (
            wfR (.tup [.v (.st (.pair (.int .u8) (.pair (.int .i64) (.pair (.str) (.pair (.str) (.pair (.int .u8) (.sl (.int .u8)))))))) r17.1, .v (.int .i64) r17.2]) → (
            bif (decide (r17.2 = (1 : Int))) then
              kr true
            else
              Y all0 tails5 (IntKind.wrap .i64 (i6 + (1 : Int))))))
            else False
            else False) ∧ True) ∧ True
        else False) ∧ (
        (
          bif decide (List.length ([] : List Int) + List.length all0 ≤ lim) then
          bif decide (0 ≤ i6 ∧ i6 < (List.length tails5 : Int)) then
          bif decide (List.length (([] : List Int) ++ all0) + List.length (rd ([] : List Int) tails5 i6) ≤ lim) then
          keys_Parse_P ((([] : List Int) ++ all0) ++ (rd ([] : List Int) tails5 i6)) ∧ (
          ∀ (r18 : (Int × Int × List Int × List Int × Int × List Int) × Int), r18 = keys_Parse_F ((([] : List Int) ++ all0) ++ (rd ([] : List Int) tails5 i6)) → (
          wfR (.tup [.v (.st (.pair (.int .u8) (.pair (.int .i64) (.pair (.str) (.pair (.str) (.pair (.int .u8) (.sl (.int .u8)))))))) r18.1, .v (.int .i64) r18.2]) → (
          bif (decide (r18.2 = (1 : Int))) then
            kr true
          else
            Y all0 tails5 (IntKind.wrap .i64 (i6 + (1 : Int))))))
          else False
          else False
          else False) ∧ (
          bif decide (0 ≤ i6 ∧ i6 < (List.length tails5 : Int)) then
          (
            bif decide (List.length ([] : List Int) + List.length all0 ≤ lim) then
            bif decide (List.length (([] : List Int) ++ all0) + List.length (rd ([] : List Int) tails5 i6) ≤ lim) then
            keys_Parse_P ((([] : List Int) ++ all0) ++ (rd ([] : List Int) tails5 i6)) ∧ (
            ∀ (r19 : (Int × Int × List Int × List Int × Int × List Int) × Int), r19 = keys_Parse_F ((([] : List Int) ++ all0) ++ (rd ([] : List Int) tails5 i6)) → (
            wfR (.tup [.v (.st (.pair (.int .u8) (.pair (.int .i64) (.pair (.str) (.pair (.str) (.pair (.int .u8) (.sl (.int .u8)))))))) r19.1, .v (.int .i64) r19.2]) → (
            bif (decide (r19.2 = (1 : Int))) then
              kr true
            else
              Y all0 tails5 (IntKind.wrap .i64 (i6 + (1 : Int))))))
            else False
            else False) ∧ (
            bif decide (List.length ([] : List Int) + List.length all0 ≤ lim) then
            bif decide (List.length (([] : List Int) ++ all0) + List.length (rd ([] : List Int) tails5 i6) ≤ lim) then
            keys_Parse_P ((([] : List Int) ++ all0) ++ (rd ([] : List Int) tails5 i6)) ∧ (
            ∀ (r20 : (Int × Int × List Int × List Int × Int × List Int) × Int), r20 = keys_Parse_F ((([] : List Int) ++ all0) ++ (rd ([] : List Int) tails5 i6)) → (
            wfR (.tup [.v (.st (.pair (.int .u8) (.pair (.int .i64) (.pair (.str) (.pair (.str) (.pair (.int .u8) (.sl (.int .u8)))))))) r20.1, .v (.int .i64) r20.2]) → (
            bif (decide (r20.2 = (1 : Int))) then
              kr true
            else
              Y all0 tails5 (IntKind.wrap .i64 (i6 + (1 : Int))))))
            else False
            else False) ∧ True
          else False) ∧ True) ∧ True) ∧ (
      bif decide (0 ≤ i6 ∧ i6 < (List.length tails5 : Int)) then
      (
        (
          bif decide (List.length ([] : List Int) + List.length all0 ≤ lim) then
          (
            (
              bif decide (List.length (([] : List Int) ++ all0) + List.length (rd ([] : List Int) tails5 i6) ≤ lim) then
              (
                keys_Parse_P ((([] : List Int) ++ all0) ++ (rd ([] : List Int) tails5 i6)) ∧ (
                ∀ (r21 : (Int × Int × List Int × List Int × Int × List Int) × Int), r21 = keys_Parse_F ((([] : List Int) ++ all0) ++ (rd ([] : List Int) tails5 i6)) → (
                wfR (.tup [.v (.st (.pair (.int .u8) (.pair (.int .i64) (.pair (.str) (.pair (.str) (.pair (.int .u8) (.sl (.int .u8)))))))) r21.1, .v (.int .i64) r21.2]) → (
                bif (decide (r21.2 = (1 : Int))) then
                  kr true
                else
                  Y all0 tails5 (IntKind.wrap .i64 (i6 + (1 : Int))))))) ∧ (
                keys_Parse_P ((([] : List Int) ++ all0) ++ (rd ([] : List Int) tails5 i6)) ∧ (
                ∀ (r22 : (Int × Int × List Int × List Int × Int × List Int) × Int), r22 = keys_Parse_F ((([] : List Int) ++ all0) ++ (rd ([] : List Int) tails5 i6)) → (
                wfR (.tup [.v (.st (.pair (.int .u8) (.pair (.int .i64) (.pair (.str) (.pair (.str) (.pair (.int .u8) (.sl (.int .u8)))))))) r22.1, .v (.int .i64) r22.2]) → (
                bif (decide (r22.2 = (1 : Int))) then
                  kr true
                else
                  Y all0 tails5 (IntKind.wrap .i64 (i6 + (1 : Int))))))) ∧ True
              else False) ∧ (
              bif decide (List.length (([] : List Int) ++ all0) + List.length (rd ([] : List Int) tails5 i6) ≤ lim) then
              keys_Parse_P ((([] : List Int) ++ all0) ++ (rd ([] : List Int) tails5 i6)) ∧ (
              ∀ (r23 : (Int × Int × List Int × List Int × Int × List Int) × Int), r23 = keys_Parse_F ((([] : List Int) ++ all0) ++ (rd ([] : List Int) tails5 i6)) → (
              wfR (.tup [.v (.st (.pair (.int .u8) (.pair (.int .i64) (.pair (.str) (.pair (.str) (.pair (.int .u8) (.sl (.int .u8)))))))) r23.1, .v (.int .i64) r23.2]) → (
              bif (decide (r23.2 = (1 : Int))) then
                kr true
              else
                Y all0 tails5 (IntKind.wrap .i64 (i6 + (1 : Int))))))
              else False) ∧ True) ∧ (
            bif decide (List.length (([] : List Int) ++ all0) + List.length (rd ([] : List Int) tails5 i6) ≤ lim) then
            keys_Parse_P ((([] : List Int) ++ all0) ++ (rd ([] : List Int) tails5 i6)) ∧ (
            ∀ (r24 : (Int × Int × List Int × List Int × Int × List Int) × Int), r24 = keys_Parse_F ((([] : List Int) ++ all0) ++ (rd ([] : List Int) tails5 i6)) → (
            wfR (.tup [.v (.st (.pair (.int .u8) (.pair (.int .i64) (.pair (.str) (.pair (.str) (.pair (.int .u8) (.sl (.int .u8)))))))) r24.1, .v (.int .i64) r24.2]) → (
            bif (decide (r24.2 = (1 : Int))) then
              kr true
            else
              Y all0 tails5 (IntKind.wrap .i64 (i6 + (1 : Int))))))
            else False) ∧ True
          else False) ∧ (
          (
            bif decide (List.length ([] : List Int) + List.length all0 ≤ lim) then
            (
              bif decide (List.length (([] : List Int) ++ all0) + List.length (rd ([] : List Int) tails5 i6) ≤ lim) then
              (
                keys_Parse_P ((([] : List Int) ++ all0) ++ (rd ([] : List Int) tails5 i6)) ∧ (
                ∀ (r25 : (Int × Int × List Int × List Int × Int × List Int) × Int), r25 = keys_Parse_F ((([] : List Int) ++ all0) ++ (rd ([] : List Int) tails5 i6)) → (
                wfR (.tup [.v (.st (.pair (.int .u8) (.pair (.int .i64) (.pair (.str) (.pair (.str) (.pair (.int .u8) (.sl (.int .u8)))))))) r25.1, .v (.int .i64) r25.2]) → (
                bif (decide (r25.2 = (1 : Int))) then
                  kr true
                else
                  Y all0 tails5 (IntKind.wrap .i64 (i6 + (1 : Int))))))) ∧ (
                keys_Parse_P ((([] : List Int) ++ all0) ++ (rd ([] : List Int) tails5 i6)) ∧ (
                ∀ (r26 : (Int × Int × List Int × List Int × Int × List Int) × Int), r26 = keys_Parse_F ((([] : List Int) ++ all0) ++ (rd ([] : List Int) tails5 i6)) → (
                wfR (.tup [.v (.st (.pair (.int .u8) (.pair (.int .i64) (.pair (.str) (.pair (.str) (.pair (.int .u8) (.sl (.int .u8)))))))) r26.1, .v (.int .i64) r26.2]) → (
                bif (decide (r26.2 = (1 : Int))) then
                  kr true
                else
                  Y all0 tails5 (IntKind.wrap .i64 (i6 + (1 : Int))))))) ∧ True
              else False) ∧ (
              bif decide (List.length (([] : List Int) ++ all0) + List.length (rd ([] : List Int) tails5 i6) ≤ lim) then
              keys_Parse_P ((([] : List Int) ++ all0) ++ (rd ([] : List Int) tails5 i6)) ∧ (
              ∀ (r27 : (Int × Int × List Int × List Int × Int × List Int) × Int), r27 = keys_Parse_F ((([] : List Int) ++ all0) ++ (rd ([] : List Int) tails5 i6)) → (
              wfR (.tup [.v (.st (.pair (.int .u8) (.pair (.int .i64) (.pair (.str) (.pair (.str) (.pair (.int .u8) (.sl (.int .u8)))))))) r27.1, .v (.int .i64) r27.2]) → (
              bif (decide (r27.2 = (1 : Int))) then
                kr true
              else
                Y all0 tails5 (IntKind.wrap .i64 (i6 + (1 : Int))))))
              else False) ∧ True
            else False) ∧ (
            bif decide (List.length ([] : List Int) + List.length all0 ≤ lim) then
            bif decide (List.length (([] : List Int) ++ all0) + List.length (rd ([] : List Int) tails5 i6) ≤ lim) then
            keys_Parse_P ((([] : List Int) ++ all0) ++ (rd ([] : List Int) tails5 i6)) ∧ (
            ∀ (r28 : (Int × Int × List Int × List Int × Int × List Int) × Int), r28 = keys_Parse_F ((([] : List Int) ++ all0) ++ (rd ([] : List Int) tails5 i6)) → (
            wfR (.tup [.v (.st (.pair (.int .u8) (.pair (.int .i64) (.pair (.str) (.pair (.str) (.pair (.int .u8) (.sl (.int .u8)))))))) r28.1, .v (.int .i64) r28.2]) → (
            bif (decide (r28.2 = (1 : Int))) then
              kr true
            else
              Y all0 tails5 (IntKind.wrap .i64 (i6 + (1 : Int))))))
            else False
            else False) ∧ True) ∧ (
          (
            bif decide (List.length ([] : List Int) + List.length all0 ≤ lim) then
            bif decide (List.length (([] : List Int) ++ all0) + List.length (rd ([] : List Int) tails5 i6) ≤ lim) then
            keys_Parse_P ((([] : List Int) ++ all0) ++ (rd ([] : List Int) tails5 i6)) ∧ (
            ∀ (r29 : (Int × Int × List Int × List Int × Int × List Int) × Int), r29 = keys_Parse_F ((([] : List Int) ++ all0) ++ (rd ([] : List Int) tails5 i6)) → (
            wfR (.tup [.v (.st (.pair (.int .u8) (.pair (.int .i64) (.pair (.str) (.pair (.str) (.pair (.int .u8) (.sl (.int .u8)))))))) r29.1, .v (.int .i64) r29.2]) → (
            bif (decide (r29.2 = (1 : Int))) then
              kr true
            else
              Y all0 tails5 (IntKind.wrap .i64 (i6 + (1 : Int))))))
            else False
            else False) ∧ (
            bif decide (List.length ([] : List Int) + List.length all0 ≤ lim) then
            bif decide (List.length (([] : List Int) ++ all0) + List.length (rd ([] : List Int) tails5 i6) ≤ lim) then
            keys_Parse_P ((([] : List Int) ++ all0) ++ (rd ([] : List Int) tails5 i6)) ∧ (
            ∀ (r30 : (Int × Int × List Int × List Int × Int × List Int) × Int), r30 = keys_Parse_F ((([] : List Int) ++ all0) ++ (rd ([] : List Int) tails5 i6)) → (
            wfR (.tup [.v (.st (.pair (.int .u8) (.pair (.int .i64) (.pair (.str) (.pair (.str) (.pair (.int .u8) (.sl (.int .u8)))))))) r30.1, .v (.int .i64) r30.2]) → (
            bif (decide (r30.2 = (1 : Int))) then
              kr true
            else
              Y all0 tails5 (IntKind.wrap .i64 (i6 + (1 : Int))))))
            else False
            else False) ∧ True) ∧ True) ∧ (
        (
          (
            bif decide (List.length ([] : List Int) + List.length all0 ≤ lim) then
            (
              bif decide (List.length (([] : List Int) ++ all0) + List.length (rd ([] : List Int) tails5 i6) ≤ lim) then
              (
                keys_Parse_P ((([] : List Int) ++ all0) ++ (rd ([] : List Int) tails5 i6)) ∧ (
                ∀ (r31 : (Int × Int × List Int × List Int × Int × List Int) × Int), r31 = keys_Parse_F ((([] : List Int) ++ all0) ++ (rd ([] : List Int) tails5 i6)) → (
                wfR (.tup [.v (.st (.pair (.int .u8) (.pair (.int .i64) (.pair (.str) (.pair (.str) (.pair (.int .u8) (.sl (.int .u8)))))))) r31.1, .v (.int .i64) r31.2]) → (
                bif (decide (r31.2 = (1 : Int))) then
                  kr true
                else
                  Y all0 tails5 (IntKind.wrap .i64 (i6 + (1 : Int))))))) ∧ (
                keys_Parse_P ((([] : List Int) ++ all0) ++ (rd ([] : List Int) tails5 i6)) ∧ (
                ∀ (r32 : (Int × Int × List Int × List Int × Int × List Int) × Int), r32 = keys_Parse_F ((([] : List Int) ++ all0) ++ (rd ([] : List Int) tails5 i6)) → (
                wfR (.tup [.v (.st (.pair (.int .u8) (.pair (.int .i64) (.pair (.str) (.pair (.str) (.pair (.int .u8) (.sl (.int .u8)))))))) r32.1, .v (.int .i64) r32.2]) → (
                bif (decide (r32.2 = (1 : Int))) then
                  kr true
                else
                  Y all0 tails5 (IntKind.wrap .i64 (i6 + (1 : Int))))))) ∧ True
              else False) ∧ (
              bif decide (List.length (([] : List Int) ++ all0) + List.length (rd ([] : List Int) tails5 i6) ≤ lim) then
              keys_Parse_P ((([] : List Int) ++ all0) ++ (rd ([] : List Int) tails5 i6)) ∧ (
              ∀ (r33 : (Int × Int × List Int × List Int × Int × List Int) × Int), r33 = keys_Parse_F ((([] : List Int) ++ all0) ++ (rd ([] : List Int) tails5 i6)) → (
              wfR (.tup [.v (.st (.pair (.int .u8) (.pair (.int .i64) (.pair (.str) (.pair (.str) (.pair (.int .u8) (.sl (.int .u8)))))))) r33.1, .v (.int .i64) r33.2]) → (
              bif (decide (r33.2 = (1 : Int))) then
                kr true
              else
                Y all0 tails5 (IntKind.wrap .i64 (i6 + (1 : Int))))))
              else False) ∧ True
            else False) ∧ (
            bif decide (List.length ([] : List Int) + List.length all0 ≤ lim) then
            bif decide (List.length (([] : List Int) ++ all0) + List.length (rd ([] : List Int) tails5 i6) ≤ lim) then
            keys_Parse_P ((([] : List Int) ++ all0) ++ (rd ([] : List Int) tails5 i6)) ∧ (
            ∀ (r34 : (Int × Int × List Int × List Int × Int × List Int) × Int), r34 = keys_Parse_F ((([] : List Int) ++ all0) ++ (rd ([] : List Int) tails5 i6)) → (
            wfR (.tup [.v (.st (.pair (.int .u8) (.pair (.int .i64) (.pair (.str) (.pair (.str) (.pair (.int .u8) (.sl (.int .u8)))))))) r34.1, .v (.int .i64) r34.2]) → (
            bif (decide (r34.2 = (1 : Int))) then
              kr true
            else
              Y all0 tails5 (IntKind.wrap .i64 (i6 + (1 : Int))))))
            else False
            else False) ∧ True) ∧ (
          bif decide (List.length ([] : List Int) + List.length all0 ≤ lim) then
          bif decide (List.length (([] : List Int) ++ all0) + List.length (rd ([] : List Int) tails5 i6) ≤ lim) then
          keys_Parse_P ((([] : List Int) ++ all0) ++ (rd ([] : List Int) tails5 i6)) ∧ (
          ∀ (r35 : (Int × Int × List Int × List Int × Int × List Int) × Int), r35 = keys_Parse_F ((([] : List Int) ++ all0) ++ (rd ([] : List Int) tails5 i6)) → (
          wfR (.tup [.v (.st (.pair (.int .u8) (.pair (.int .i64) (.pair (.str) (.pair (.str) (.pair (.int .u8) (.sl (.int .u8)))))))) r35.1, .v (.int .i64) r35.2]) → (
          bif (decide (r35.2 = (1 : Int))) then
            kr true
          else
            Y all0 tails5 (IntKind.wrap .i64 (i6 + (1 : Int))))))
          else False
          else False) ∧ True) ∧ (
        (
          (
            bif decide (List.length ([] : List Int) + List.length all0 ≤ lim) then
            bif decide (List.length (([] : List Int) ++ all0) + List.length (rd ([] : List Int) tails5 i6) ≤ lim) then
            keys_Parse_P ((([] : List Int) ++ all0) ++ (rd ([] : List Int) tails5 i6)) ∧ (
            ∀ (r36 : (Int × Int × List Int × List Int × Int × List Int) × Int), r36 = keys_Parse_F ((([] : List Int) ++ all0) ++ (rd ([] : List Int) tails5 i6)) → (
            wfR (.tup [.v (.st (.pair (.int .u8) (.pair (.int .i64) (.pair (.str) (.pair (.str) (.pair (.int .u8) (.sl (.int .u8)))))))) r36.1, .v (.int .i64) r36.2]) → (
            bif (decide (r36.2 = (1 : Int))) then
              kr true
            else
              Y all0 tails5 (IntKind.wrap .i64 (i6 + (1 : Int))))))
            else False
            else False) ∧ (
            bif decide (List.length ([] : List Int) + List.length all0 ≤ lim) then
            bif decide (List.length (([] : List Int) ++ all0) + List.length (rd ([] : List Int) tails5 i6) ≤ lim) then
            keys_Parse_P ((([] : List Int) ++ all0) ++ (rd ([] : List Int) tails5 i6)) ∧ (
            ∀ (r37 : (Int × Int × List Int × List Int × Int × List Int) × Int), r37 = keys_Parse_F ((([] : List Int) ++ all0) ++ (rd ([] : List Int) tails5 i6)) → (
            wfR (.tup [.v (.st (.pair (.int .u8) (.pair (.int .i64) (.pair (.str) (.pair (.str) (.pair (.int .u8) (.sl (.int .u8)))))))) r37.1, .v (.int .i64) r37.2]) → (
            bif (decide (r37.2 = (1 : Int))) then
              kr true
            else
              Y all0 tails5 (IntKind.wrap .i64 (i6 + (1 : Int))))))
            else False
            else False) ∧ True) ∧ (
          bif decide (List.length ([] : List Int) + List.length all0 ≤ lim) then
          bif decide (List.length (([] : List Int) ++ all0) + List.length (rd ([] : List Int) tails5 i6) ≤ lim) then
          keys_Parse_P ((([] : List Int) ++ all0) ++ (rd ([] : List Int) tails5 i6)) ∧ (
          ∀ (r38 : (Int × Int × List Int × List Int × Int × List Int) × Int), r38 = keys_Parse_F ((([] : List Int) ++ all0) ++ (rd ([] : List Int) tails5 i6)) → (
          wfR (.tup [.v (.st (.pair (.int .u8) (.pair (.int .i64) (.pair (.str) (.pair (.str) (.pair (.int .u8) (.sl (.int .u8)))))))) r38.1, .v (.int .i64) r38.2]) → (
          bif (decide (r38.2 = (1 : Int))) then
            kr true
          else
            Y all0 tails5 (IntKind.wrap .i64 (i6 + (1 : Int))))))
          else False
          else False) ∧ True) ∧ True
      else False) ∧ (
      (
        (
          bif decide (List.length ([] : List Int) + List.length all0 ≤ lim) then
          bif decide (0 ≤ i6 ∧ i6 < (List.length tails5 : Int)) then
          bif decide (List.length (([] : List Int) ++ all0) + List.length (rd ([] : List Int) tails5 i6) ≤ lim) then
          keys_Parse_P ((([] : List Int) ++ all0) ++ (rd ([] : List Int) tails5 i6)) ∧ (
          ∀ (r39 : (Int × Int × List Int × List Int × Int × List Int) × Int), r39 = keys_Parse_F ((([] : List Int) ++ all0) ++ (rd ([] : List Int) tails5 i6)) → (
          wfR (.tup [.v (.st (.pair (.int .u8) (.pair (.int .i64) (.pair (.str) (.pair (.str) (.pair (.int .u8) (.sl (.int .u8)))))))) r39.1, .v (.int .i64) r39.2]) → (
          bif (decide (r39.2 = (1 : Int))) then
            kr true
          else
            Y all0 tails5 (IntKind.wrap .i64 (i6 + (1 : Int))))))
          else False
          else False
          else False) ∧ (
          bif decide (0 ≤ i6 ∧ i6 < (List.length tails5 : Int)) then
          (
            bif decide (List.length ([] : List Int) + List.length all0 ≤ lim) then
            bif decide (List.length (([] : List Int) ++ all0) + List.length (rd ([] : List Int) tails5 i6) ≤ lim) then
            keys_Parse_P ((([] : List Int) ++ all0) ++ (rd ([] : List Int) tails5 i6)) ∧ (
            ∀ (r40 : (Int × Int × List Int × List Int × Int × List Int) × Int), r40 = keys_Parse_F ((([] : List Int) ++ all0) ++ (rd ([] : List Int) tails5 i6)) → (
            wfR (.tup [.v (.st (.pair (.int .u8) (.pair (.int .i64) (.pair (.str) (.pair (.str) (.pair (.int .u8) (.sl (.int .u8)))))))) r40.1, .v (.int .i64) r40.2]) → (
            bif (decide (r40.2 = (1 : Int))) then
              kr true
            else
              Y all0 tails5 (IntKind.wrap .i64 (i6 + (1 : Int))))))
            else False
            else False) ∧ (
            bif decide (List.length ([] : List Int) + List.length all0 ≤ lim) then
            bif decide (List.length (([] : List Int) ++ all0) + List.length (rd ([] : List Int) tails5 i6) ≤ lim) then
            keys_Parse_P ((([] : List Int) ++ all0) ++ (rd ([] : List Int) tails5 i6)) ∧ (
            ∀ (r41 : (Int × Int × List Int × List Int × Int × List Int) × Int), r41 = keys_Parse_F ((([] : List Int) ++ all0) ++ (rd ([] : List Int) tails5 i6)) → (
            wfR (.tup [.v (.st (.pair (.int .u8) (.pair (.int .i64) (.pair (.str) (.pair (.str) (.pair (.int .u8) (.sl (.int .u8)))))))) r41.1, .v (.int .i64) r41.2]) → (
            bif (decide (r41.2 = (1 : Int))) then
              kr true
            else
              Y all0 tails5 (IntKind.wrap .i64 (i6 + (1 : Int))))))
            else False
            else False) ∧ True
          else False) ∧ True) ∧ (
        bif decide (0 ≤ i6 ∧ i6 < (List.length tails5 : Int)) then
        (
          (
            bif decide (List.length ([] : List Int) + List.length all0 ≤ lim) then
            bif decide (List.length (([] : List Int) ++ all0) + List.length (rd ([] : List Int) tails5 i6) ≤ lim) then
            keys_Parse_P ((([] : List Int) ++ all0) ++ (rd ([] : List Int) tails5 i6)) ∧ (
            ∀ (r42 : (Int × Int × List Int × List Int × Int × List Int) × Int), r42 = keys_Parse_F ((([] : List Int) ++ all0) ++ (rd ([] : List Int) tails5 i6)) → (
            wfR (.tup [.v (.st (.pair (.int .u8) (.pair (.int .i64) (.pair (.str) (.pair (.str) (.pair (.int .u8) (.sl (.int .u8)))))))) r42.1, .v (.int .i64) r42.2]) → (
            bif (decide (r42.2 = (1 : Int))) then
              kr true
            else
              Y all0 tails5 (IntKind.wrap .i64 (i6 + (1 : Int))))))
            else False
            else False) ∧ (
            bif decide (List.length ([] : List Int) + List.length all0 ≤ lim) then
            bif decide (List.length (([] : List Int) ++ all0) + List.length (rd ([] : List Int) tails5 i6) ≤ lim) then
            keys_Parse_P ((([] : List Int) ++ all0) ++ (rd ([] : List Int) tails5 i6)) ∧ (
            ∀ (r43 : (Int × Int × List Int × List Int × Int × List Int) × Int), r43 = keys_Parse_F ((([] : List Int) ++ all0) ++ (rd ([] : List Int) tails5 i6)) → (
            wfR (.tup [.v (.st (.pair (.int .u8) (.pair (.int .i64) (.pair (.str) (.pair (.str) (.pair (.int .u8) (.sl (.int .u8)))))))) r43.1, .v (.int .i64) r43.2]) → (
            bif (decide (r43.2 = (1 : Int))) then
              kr true
            else
              Y all0 tails5 (IntKind.wrap .i64 (i6 + (1 : Int))))))
            else False
            else False) ∧ True) ∧ (
          bif decide (List.length ([] : List Int) + List.length all0 ≤ lim) then
          bif decide (List.length (([] : List Int) ++ all0) + List.length (rd ([] : List Int) tails5 i6) ≤ lim) then
          keys_Parse_P ((([] : List Int) ++ all0) ++ (rd ([] : List Int) tails5 i6)) ∧ (
          ∀ (r44 : (Int × Int × List Int × List Int × Int × List Int) × Int), r44 = keys_Parse_F ((([] : List Int) ++ all0) ++ (rd ([] : List Int) tails5 i6)) → (
          wfR (.tup [.v (.st (.pair (.int .u8) (.pair (.int .i64) (.pair (.str) (.pair (.str) (.pair (.int .u8) (.sl (.int .u8)))))))) r44.1, .v (.int .i64) r44.2]) → (
          bif (decide (r44.2 = (1 : Int))) then
            kr true
          else
            Y all0 tails5 (IntKind.wrap .i64 (i6 + (1 : Int))))))
          else False
          else False) ∧ True
        else False) ∧ True) ∧ True
  else
    kx0
def quoinlaw21_KeysMore_L0 (kr : Bool → Prop) (kx0 : Prop) : Nat → List Int → List (List Int) → Int → Prop
  | 0, _, _, _ => False
  | n + 1, all0, tails5, i6 => wfD quoinlaw21_KeysMore_d0 (all0, tails5, i6, ()) → quoinlaw21_KeysMore_T0 (quoinlaw21_KeysMore_L0 kr kx0 n) kr kx0 all0 tails5 i6
theorem quoinlaw21_KeysMore_s0 (k : Ex → St → Prop) (Y : vals quoinlaw21_KeysMore_d0 → Prop) (all0 : List Int) (tails5 : List (List Int)) (i6 : Int) :
    ex tb (getG quoinlaw21_KeysMore_G) [] (at' (bodyOf Tryd.f7) [0, 0, 1, 0, 1, 1, 1, 1]) [0, 0, 1, 0, 1, 1, 1, 1] (mkD 39 quoinlaw21_KeysMore_d0 (all0, tails5, i6, ())) (lpK 39 quoinlaw21_KeysMore_d0 quoinlaw21_KeysMore_dx0 k Y) =
    quoinlaw21_KeysMore_T0 (fun all0 tails5 i6 => Y (all0, tails5, i6, ())) (fun x2 => wfD quoinlaw21_KeysMore_d0r (x2, ()) → k .ret (mkD 39 quoinlaw21_KeysMore_d0r (x2, ()))) (wfD quoinlaw21_KeysMore_d0x0 () → k (.exit 0) (mkD 39 quoinlaw21_KeysMore_d0x0 ())) all0 tails5 i6 := by kernel_rfl
theorem quoinlaw21_KeysMore_e0 (k : Ex → St → Prop) : ∀ (n : Nat) (all0 : List Int) (tails5 : List (List Int)) (i6 : Int), lpD 39 quoinlaw21_KeysMore_d0 quoinlaw21_KeysMore_dx0 (ex tb (getG quoinlaw21_KeysMore_G) [] (at' (bodyOf Tryd.f7) [0, 0, 1, 0, 1, 1, 1, 1]) [0, 0, 1, 0, 1, 1, 1, 1]) k n (all0, tails5, i6, ()) = quoinlaw21_KeysMore_L0 (fun x2 => wfD quoinlaw21_KeysMore_d0r (x2, ()) → k .ret (mkD 39 quoinlaw21_KeysMore_d0r (x2, ()))) (wfD quoinlaw21_KeysMore_d0x0 () → k (.exit 0) (mkD 39 quoinlaw21_KeysMore_d0x0 ())) n all0 tails5 i6
  | 0, _, _, _ => rfl
  | n + 1, all0, tails5, i6 => congrArg (fun Z : Prop => wfD quoinlaw21_KeysMore_d0 (all0, tails5, i6, ()) → Z) ((quoinlaw21_KeysMore_s0 k (lpD 39 quoinlaw21_KeysMore_d0 quoinlaw21_KeysMore_dx0 (ex tb (getG quoinlaw21_KeysMore_G) [] (at' (bodyOf Tryd.f7) [0, 0, 1, 0, 1, 1, 1, 1]) [0, 0, 1, 0, 1, 1, 1, 1]) k n) all0 tails5 i6).trans (congrArg (fun Y => quoinlaw21_KeysMore_T0 Y (fun x2 => wfD quoinlaw21_KeysMore_d0r (x2, ()) → k .ret (mkD 39 quoinlaw21_KeysMore_d0r (x2, ()))) (wfD quoinlaw21_KeysMore_d0x0 () → k (.exit 0) (mkD 39 quoinlaw21_KeysMore_d0x0 ())) all0 tails5 i6) (funext fun all0 => funext fun tails5 => funext fun i6 => quoinlaw21_KeysMore_e0 k n all0 tails5 i6)))
theorem quoinlaw21_KeysMore_v0 (k : Ex → St → Prop) (n : Nat) : ∀ v : vals quoinlaw21_KeysMore_d0, lpD 39 quoinlaw21_KeysMore_d0 quoinlaw21_KeysMore_dx0 (ex tb (getG quoinlaw21_KeysMore_G) [] (at' (bodyOf Tryd.f7) [0, 0, 1, 0, 1, 1, 1, 1]) [0, 0, 1, 0, 1, 1, 1, 1]) k n v = quoinlaw21_KeysMore_L0 (fun x2 => wfD quoinlaw21_KeysMore_d0r (x2, ()) → k .ret (mkD 39 quoinlaw21_KeysMore_d0r (x2, ()))) (wfD quoinlaw21_KeysMore_d0x0 () → k (.exit 0) (mkD 39 quoinlaw21_KeysMore_d0x0 ())) n v.1 v.2.1 v.2.2.1
  | (all0, tails5, i6, ()) => quoinlaw21_KeysMore_e0 k n all0 tails5 i6
def quoinlaw21_KeysMore_X0 : Pce := fun st k => ckD 39 quoinlaw21_KeysMore_d0 st fun v => wfD quoinlaw21_KeysMore_d0 v → ∃ n, quoinlaw21_KeysMore_L0 (fun x2 => wfD quoinlaw21_KeysMore_d0r (x2, ()) → k .ret (mkD 39 quoinlaw21_KeysMore_d0r (x2, ()))) (wfD quoinlaw21_KeysMore_d0x0 () → k (.exit 0) (mkD 39 quoinlaw21_KeysMore_d0x0 ())) n v.1 v.2.1 v.2.2.1
set_option maxRecDepth 20000 in
theorem quoinlaw21_KeysMore_x0 : SemOk Tryd.prog (at' (bodyOf Tryd.f7) [0, 1, 0, 1, 1, 1, 1]) quoinlaw21_KeysMore_X0 :=
  (SemOk.loop (ex_sound tb_M tb_ok quoinlaw21_KeysMore_Gok (LabsOk.nil) (at' (bodyOf Tryd.f7) [0, 0, 1, 0, 1, 1, 1, 1]) [0, 0, 1, 0, 1, 1, 1, 1] rfl (storesC_at quoinlaw21_KeysMore_st [0, 0, 1, 0, 1, 1, 1, 1])) 39 quoinlaw21_KeysMore_d0 quoinlaw21_KeysMore_dx0).mono fun st k h => ckD_mono h fun v hv hw => (hv hw).elim fun n hn => ⟨n, Eq.mpr (quoinlaw21_KeysMore_v0 k n v) hn⟩
def quoinlaw21_KeysMore_B0 : Labs := ([0, 1, 0, 1, 1, 1, 1], quoinlaw21_KeysMore_X0) :: []
theorem quoinlaw21_KeysMore_b0 : LabsOk Tryd.prog (bodyOf Tryd.f7) quoinlaw21_KeysMore_B0 := LabsOk.cons quoinlaw21_KeysMore_x0 (LabsOk.nil)
def quoinlaw21_KeysMore_raw (all0 : List Int) (K : Res → List Cell → Prop) : Prop :=
  ∀ (r1 : Bool), r1 = quoinlaw21_awake_F → (
  wfR (.one (.v (.bool) r1)) → (
  bif (!r1) then
    K (.one (.v (.bool) false)) []
  else
    keys_Parse_P all0 ∧ (
    ∀ (r2 : (Int × Int × List Int × List Int × Int × List Int) × Int), r2 = keys_Parse_F all0 → (
    wfR (.tup [.v (.st (.pair (.int .u8) (.pair (.int .i64) (.pair (.str) (.pair (.str) (.pair (.int .u8) (.sl (.int .u8)))))))) r2.1, .v (.int .i64) r2.2]) → (
    bif (!decide (r2.2 = (0 : Int))) then
      K (.one (.v (.bool) true)) []
    else
      (wfD quoinlaw21_KeysMore_d0 (all0, ([([120] : List Int), ([119] : List Int), ([103] : List Int), ([97, 120] : List Int), ([108] : List Int), ([45] : List Int), ([126] : List Int), ([117] : List Int), ([85] : List Int), ([69] : List Int)] : List (List Int)), (0 : Int), ()) → ∃ n, quoinlaw21_KeysMore_L0 (fun (x2 : Bool) => wfD quoinlaw21_KeysMore_d0r (x2, ()) → (
          K (.one (.v (.bool) x2)) [])) (wfD quoinlaw21_KeysMore_d0x0 () → (
          K (.one (.v (.bool) false)) [])) n all0 ([([120] : List Int), ([119] : List Int), ([103] : List Int), ([97, 120] : List Int), ([108] : List Int), ([45] : List Int), ([126] : List Int), ([117] : List Int), ([85] : List Int), ([69] : List Int)] : List (List Int)) (0 : Int)))))))
def quoinlaw21_KeysMore_A : List AS := [.v (.sl (.int .u8))]
theorem quoinlaw21_KeysMore_walk (all0 : List Int) (K : Res → List Cell → Prop) : runF tb (getG quoinlaw21_KeysMore_G) quoinlaw21_KeysMore_B0 Tryd.f7 [true] (mkA quoinlaw21_KeysMore_A (all0, ())) K = quoinlaw21_KeysMore_raw all0 K := by kernel_rfl
--! law 1

def quoinlaw21_KeysMore_R : App := runF tb (getG quoinlaw21_KeysMore_G) quoinlaw21_KeysMore_B0 Tryd.f7 [true]
theorem quoinlaw21_KeysMore_ok : AppOk Tryd.prog 7 quoinlaw21_KeysMore_R := runF_ok tb_M tb_ok quoinlaw21_KeysMore_Gok (quoinlaw21_KeysMore_b0) (f := 7) (fn := Tryd.f7) (by kernel_rfl) (by kernel_rfl) quoinlaw21_KeysMore_st [true]
end Go.VE
namespace Go.VE
open Go Go.Proofs

def yesK : Res → List Cell → Prop := fun r _ => r = .one (.v .bool true)

theorem bulk_bytes : ∀ xs : List Int, bulk (.sl (.int .u8)) xs = xs.length + 1 := by
  intro xs
  show (xs.map (bulk (.int .u8))).sum + 1 = _
  congr 1
  induction xs with
  | nil => rfl
  | cons x xs ih => rw [List.map_cons, List.sum_cons, ih, List.length_cons]; show 1 + xs.length = _; omega

theorem parse_F {ks : List Int} (hl : ks.length ≤ 1099511627776) (h : ∀ x ∈ ks, 0 ≤ x ∧ x ≤ 255) : keys_Parse_F ks = parseM ks := (parse_eq hl h).2
theorem parse_P {ks : List Int} (hl : ks.length ≤ 1099511627776) (h : ∀ x ∈ ks, 0 ≤ x ∧ x ≤ 255) : keys_Parse_P ks := (parse_eq hl h).1

/-! ### On -/
theorem on_l0 {kr : Bool → Prop} {kx0 : Prop} {all : List Int} (hl : all.length ≤ 2000) (h255 : ∀ x ∈ all, 0 ≤ x ∧ x ≤ 255) (h2 : (parseM all).2 ≠ 2) (hk : kx0) : ∀ (m i : Nat), i ≤ all.length → all.length - i < m → quoinlaw21_KeysOn_L0 kr kx0 m all (i : Int)
  | 0, _, _, h => absurd h (Nat.not_lt_zero _)
  | m + 1, i, hi, hm => by
    intro _
    unfold quoinlaw21_KeysOn_T0
    refine brn (fun hlt => asrt (by omega) ?_) (fun _ => hk)
    have hln : (all.take (Int.toNat (i : Int))).length ≤ 1099511627776 := by rw [List.length_take]; omega
    have hb : ∀ x ∈ all.take (Int.toNat (i : Int)), 0 ≤ x ∧ x ≤ 255 := fun x hx => h255 x (List.mem_of_mem_take hx)
    refine ⟨parse_P hln hb, fun r hr _ => ?_⟩
    rw [parse_F hln hb, Int.toNat_natCast] at hr
    subst hr
    have h0 : (parseM (all.take i)).2 = 0 := by
      apply Classical.byContradiction
      intro hne
      have hd : all.drop i ≠ [] := fun e => by
        have := congrArg List.length e
        rw [List.length_drop, List.length_nil] at this; omega
      have := parse_stab (s := all.take i) (m := all.drop i) hne hd
      rw [List.take_append_drop] at this
      exact h2 this
    rw [h0]
    refine brb (fun h => ?_) (fun _ => ?_)
    · simp at h
    · rw [wrap_i64 (by omega) (by omega), show (i : Int) + 1 = ((i + 1 : Nat) : Int) by omega]
      exact on_l0 hl h255 h2 hk m (i + 1) (by omega) (by omega)

theorem on_raw {all more : List Int} (ha : all.length ≤ 1048576) (hm : more.length ≤ 1048576) (h1 : ∀ x ∈ all, 0 ≤ x ∧ x ≤ 255) (h2 : ∀ x ∈ more, 0 ≤ x ∧ x ≤ 255) : quoinlaw21_KeysOn_raw all more yesK := by
  unfold quoinlaw21_KeysOn_raw
  intro r1 hr1 _
  subst hr1
  refine brb (fun h => by cases h) (fun _ => ?_)
  refine brn (fun _ => rfl) (fun hle => ?_)
  have e0 : ([] : List Int) ++ all = all := rfl
  have h3 : ∀ x ∈ all ++ more, 0 ≤ x ∧ x ≤ 255 := fun x hx => (List.mem_append.1 hx).elim (h1 x) (h2 x)
  have hl3 : (all ++ more).length ≤ 1099511627776 := by rw [List.length_append]; omega
  refine ⟨parse_P (by omega) h1, fun r2 hr2 _ => ?_⟩
  rw [parse_F (by omega) h1] at hr2
  subst hr2
  refine asrt (by simp only [List.length_nil, lim]; omega) ?_
  refine asrt (by simp only [e0, lim]; omega) ?_
  refine ⟨by rw [e0]; exact parse_P hl3 h3, fun r3 hr3 _ => ?_⟩
  rw [e0, parse_F hl3 h3] at hr3
  subst hr3
  have L : (parseM all).2 ≠ 2 → (wfD quoinlaw21_KeysOn_d0 (all, (0 : Int), ()) → ∃ n, quoinlaw21_KeysOn_L0 (fun (x4 : Bool) => wfD quoinlaw21_KeysOn_d0r (x4, ()) → (
        yesK (.one (.v (.bool) x4)) [])) (wfD quoinlaw21_KeysOn_d0x0 () → (yesK (.one (.v (.bool) true)) [])) n all (0 : Int)) := fun hne _ =>
    ⟨all.length + 1, on_l0 (by omega) h1 hne (fun _ => rfl) (all.length + 1) 0 (Nat.zero_le _) (by omega)⟩
  have rest : bif (decide ((parseM all).2 = (2 : Int))) then yesK (.one (.v (.bool) true)) [] else
      (wfD quoinlaw21_KeysOn_d0 (all, (0 : Int), ()) → ∃ n, quoinlaw21_KeysOn_L0 (fun (x4 : Bool) => wfD quoinlaw21_KeysOn_d0r (x4, ()) → (
        yesK (.one (.v (.bool) x4)) [])) (wfD quoinlaw21_KeysOn_d0x0 () → (yesK (.one (.v (.bool) true)) [])) n all (0 : Int)) :=
    brn (fun _ => rfl) (fun hne => L hne)
  refine brb (fun hk => ?_) (fun _ => rest)
  have hk : (parseM all).2 ≠ 0 := by simpa using hk
  refine brn (fun hpos => ?_) (fun _ => rest)
  have hne : more ≠ [] := fun e => by subst e; simp at hpos
  have := parse_stab hk hne
  refine brb (fun h => ?_) (fun _ => rest)
  rw [this] at h; simp at h

theorem on_law (v : valsA quoinlaw21_KeysOn_A) (hw : wfA quoinlaw21_KeysOn_A v) (hb : bulkA quoinlaw21_KeysOn_A v ≤ 1048576) : quoinlaw21_KeysOn_R (mkA quoinlaw21_KeysOn_A v) yesK := by
  obtain ⟨all, more, ⟨⟩⟩ := v
  refine (quoinlaw21_KeysOn_walk all more yesK).mpr ?_
  obtain ⟨h1, h2, _⟩ := hw
  change bulk (.sl (.int .u8)) all + (bulk (.sl (.int .u8)) more + 0) ≤ 1048576 at hb
  rw [bulk_bytes, bulk_bytes] at hb
  exact on_raw (by omega) (by omega) h1.2 h2.2

/-! ### More -/
abbrev tl : List (List Int) := [([120] : List Int), ([119] : List Int), ([103] : List Int), ([97, 120] : List Int), ([108] : List Int), ([45] : List Int), ([126] : List Int), ([117] : List Int), ([85] : List Int), ([69] : List Int)]

theorem tail_fact : ∀ i : Nat, i < 10 → (rd ([] : List Int) tl (i : Int)).length ≤ 2 ∧ ∀ x ∈ rd ([] : List Int) tl (i : Int), 0 ≤ x ∧ x ≤ 255 := by decide +kernel

theorem more_l0 {kr : Bool → Prop} {kx0 : Prop} {all : List Int} (hl : all.length ≤ 1048576) (h255 : ∀ x ∈ all, 0 ≤ x ∧ x ≤ 255) (hk : kr true) :
    ∀ (m i : Nat), i ≤ 10 → 10 - i < m → (∃ j : Nat, i ≤ j ∧ j < 10 ∧ (parseM (all ++ rd ([] : List Int) tl (j : Int))).2 = 1) → quoinlaw21_KeysMore_L0 kr kx0 m all tl (i : Int)
  | 0, _, _, h, _ => absurd h (Nat.not_lt_zero _)
  | m + 1, i, hi, hm, ⟨j, hj, hj2, hjp⟩ => by
    intro _
    have hi10 : i < 10 := by omega
    obtain ⟨f1, f2⟩ := tail_fact i hi10
    have e0 : ([] : List Int) ++ all = all := rfl
    have h3 : ∀ x ∈ all ++ rd ([] : List Int) tl (i : Int), 0 ≤ x ∧ x ≤ 255 := fun x hx => (List.mem_append.1 hx).elim (h255 x) (f2 x)
    have hl3 : (all ++ rd ([] : List Int) tl (i : Int)).length ≤ 1099511627776 := by rw [List.length_append]; omega
    have A1 : List.length ([] : List Int) + List.length all ≤ lim := by simp only [List.length_nil, lim]; omega
    have A2 : 0 ≤ (i : Int) ∧ (i : Int) < (List.length tl : Int) := ⟨by omega, by show (i : Int) < 10; omega⟩
    have A3 : List.length (([] : List Int) ++ all) + List.length (rd ([] : List Int) tl (i : Int)) ≤ lim := by rw [e0]; unfold lim; omega
    have leaf : keys_Parse_P ((([] : List Int) ++ all) ++ (rd ([] : List Int) tl (i : Int))) ∧ (
        ∀ (r3 : (Int × Int × List Int × List Int × Int × List Int) × Int), r3 = keys_Parse_F ((([] : List Int) ++ all) ++ (rd ([] : List Int) tl (i : Int))) → (
        wfR (.tup [.v (.st (.pair (.int .u8) (.pair (.int .i64) (.pair (.str) (.pair (.str) (.pair (.int .u8) (.sl (.int .u8)))))))) r3.1, .v (.int .i64) r3.2]) → (
        bif (decide (r3.2 = (1 : Int))) then kr true else quoinlaw21_KeysMore_L0 kr kx0 m all tl (IntKind.wrap .i64 ((i : Int) + (1 : Int)))))) := by
      refine ⟨by rw [e0]; exact parse_P hl3 h3, fun r hr _ => ?_⟩
      rw [e0, parse_F hl3 h3] at hr
      subst hr
      refine brn (fun _ => hk) (fun hne => ?_)
      rw [wrap_i64 (by omega) (by omega), show (i : Int) + 1 = ((i + 1 : Nat) : Int) by omega]
      have : i ≠ j := fun e => by subst e; exact hne hjp
      exact more_l0 hl h255 hk m (i + 1) (by omega) (by omega) ⟨j, by omega, hj2, hjp⟩
    unfold quoinlaw21_KeysMore_T0
    refine brn (fun _ => ?_) (fun h => absurd A2.2 h)
    repeat' (first | exact leaf | exact trivial | refine asrt A1 ?_ | refine asrt A2 ?_ | refine asrt A3 ?_ | refine ⟨?_, ?_⟩)

theorem more_raw {all : List Int} (ha : all.length ≤ 1048576) (h1 : ∀ x ∈ all, 0 ≤ x ∧ x ≤ 255) : quoinlaw21_KeysMore_raw all yesK := by
  unfold quoinlaw21_KeysMore_raw
  intro r1 hr1 _
  subst hr1
  refine brb (fun h => by cases h) (fun _ => ?_)
  refine ⟨parse_P (by omega) h1, fun r2 hr2 _ => ?_⟩
  rw [parse_F (by omega) h1] at hr2
  subst hr2
  refine brb (fun _ => rfl) (fun hk _ => ?_)
  have hk : (parseM all).2 = 0 := by simpa using hk
  obtain ⟨t, ht, h2⟩ := parse_grow hk
  refine ⟨11, more_l0 ha h1 (fun _ => rfl) 11 0 (by omega) (by omega) ?_⟩
  obtain ⟨j, hj, e⟩ := List.getElem_of_mem ht
  refine ⟨j, Nat.zero_le _, hj, ?_⟩
  have : rd ([] : List Int) tl (j : Int) = t := by rw [← e]; exact rd_nat [] tl j hj
  rw [this]; exact h2

theorem more_law (v : valsA quoinlaw21_KeysMore_A) (hw : wfA quoinlaw21_KeysMore_A v) (hb : bulkA quoinlaw21_KeysMore_A v ≤ 1048576) : quoinlaw21_KeysMore_R (mkA quoinlaw21_KeysMore_A v) yesK := by
  obtain ⟨all, ⟨⟩⟩ := v
  refine (quoinlaw21_KeysMore_walk all yesK).mpr ?_
  obtain ⟨h1, _⟩ := hw
  change bulk (.sl (.int .u8)) all + 0 ≤ 1048576 at hb
  rw [bulk_bytes] at hb
  exact more_raw (by omega) h1.2
end Go.VE
namespace Go.VE
open Go Go.Proofs
/-! ### quoin/quoinref21.isReg -/
def quoinref21_isReg_G : List (Nat × App) := []
theorem quoinref21_isReg_Gok : GOk Tryd.prog (getG quoinref21_isReg_G) := GOk.nil
def quoinref21_isReg_raw (b0 : Int) (K : Res → List Cell → Prop) : Prop :=
  bif (decide (b0 = (34 : Int))) then
    K (.one (.v (.bool) true)) []
  else
  bif (decide (b0 = (45 : Int))) then
    K (.one (.v (.bool) true)) []
  else
  bif (decide ((49 : Int) ≤ b0)) then
    bif (decide (b0 ≤ (57 : Int))) then
      K (.one (.v (.bool) true)) []
    else
    bif (decide ((97 : Int) ≤ b0)) then
      bif (decide (b0 ≤ (122 : Int))) then
        K (.one (.v (.bool) true)) []
      else
      bif (decide ((65 : Int) ≤ b0)) then
        K (.one (.v (.bool) (decide (b0 ≤ (90 : Int))))) []
      else
        K (.one (.v (.bool) false)) []
    else
    bif (decide ((65 : Int) ≤ b0)) then
      K (.one (.v (.bool) (decide (b0 ≤ (90 : Int))))) []
    else
      K (.one (.v (.bool) false)) []
  else
  bif (decide ((97 : Int) ≤ b0)) then
    bif (decide (b0 ≤ (122 : Int))) then
      K (.one (.v (.bool) true)) []
    else
    bif (decide ((65 : Int) ≤ b0)) then
      K (.one (.v (.bool) (decide (b0 ≤ (90 : Int))))) []
    else
      K (.one (.v (.bool) false)) []
  else
  bif (decide ((65 : Int) ≤ b0)) then
    K (.one (.v (.bool) (decide (b0 ≤ (90 : Int))))) []
  else
    K (.one (.v (.bool) false)) []
def quoinref21_isReg_A : List AS := [.v (.int .u8)]
theorem quoinref21_isReg_walk (b0 : Int) (K : Res → List Cell → Prop) : runF tb (getG quoinref21_isReg_G) [] Tryd.f19 [true] (mkA quoinref21_isReg_A (b0, ())) K = quoinref21_isReg_raw b0 K := by kernel_rfl

def quoinref21_isReg_F (b0 : Int) : Bool :=
  bif (decide (b0 = (34 : Int))) then
    true
  else
    bif (decide (b0 = (45 : Int))) then
      true
    else
      bif (decide ((49 : Int) ≤ b0)) then
        bif (decide (b0 ≤ (57 : Int))) then
          true
        else
          bif (decide ((97 : Int) ≤ b0)) then
            bif (decide (b0 ≤ (122 : Int))) then
              true
            else
              bif (decide ((65 : Int) ≤ b0)) then
                (decide (b0 ≤ (90 : Int)))
              else
                false
          else
            bif (decide ((65 : Int) ≤ b0)) then
              (decide (b0 ≤ (90 : Int)))
            else
              false
      else
        bif (decide ((97 : Int) ≤ b0)) then
          bif (decide (b0 ≤ (122 : Int))) then
            true
          else
            bif (decide ((65 : Int) ≤ b0)) then
              (decide (b0 ≤ (90 : Int)))
            else
              false
        else
          bif (decide ((65 : Int) ≤ b0)) then
            (decide (b0 ≤ (90 : Int)))
          else
            false
set_option maxRecDepth 20000 in
theorem quoinref21_isReg_sp (b0 : Int) (K : Res → List Cell → Prop) (_ : wfA quoinref21_isReg_A (b0, ())) (h : ∀ r : Bool, r = quoinref21_isReg_F b0 → K (.one (.v (.bool) r)) []) : quoinref21_isReg_raw b0 K := by
  unfold quoinref21_isReg_raw
  refine brb (fun c_1 => ?_) (fun c_1 => ?_)
  ·
    exact h _ ((ctrue c_1) : quoinref21_isReg_F b0 = _).symm
  ·
    refine brb (fun c_2 => ?_) (fun c_2 => ?_)
    ·
      exact h _ ((Eq.trans (cfalse c_1) (ctrue c_2)) : quoinref21_isReg_F b0 = _).symm
    ·
      refine brb (fun c_3 => ?_) (fun c_3 => ?_)
      ·
        refine brb (fun c_4 => ?_) (fun c_4 => ?_)
        ·
          exact h _ ((Eq.trans (cfalse c_1) (Eq.trans (cfalse c_2) (Eq.trans (ctrue c_3) (ctrue c_4)))) : quoinref21_isReg_F b0 = _).symm
        ·
          refine brb (fun c_5 => ?_) (fun c_5 => ?_)
          ·
            refine brb (fun c_6 => ?_) (fun c_6 => ?_)
            ·
              exact h _ ((Eq.trans (cfalse c_1) (Eq.trans (cfalse c_2) (Eq.trans (ctrue c_3) (Eq.trans (cfalse c_4) (Eq.trans (ctrue c_5) (ctrue c_6)))))) : quoinref21_isReg_F b0 = _).symm
            ·
              refine brb (fun c_7 => ?_) (fun c_7 => ?_)
              ·
                exact h _ ((Eq.trans (cfalse c_1) (Eq.trans (cfalse c_2) (Eq.trans (ctrue c_3) (Eq.trans (cfalse c_4) (Eq.trans (ctrue c_5) (Eq.trans (cfalse c_6) (ctrue c_7))))))) : quoinref21_isReg_F b0 = _).symm
              ·
                exact h _ ((Eq.trans (cfalse c_1) (Eq.trans (cfalse c_2) (Eq.trans (ctrue c_3) (Eq.trans (cfalse c_4) (Eq.trans (ctrue c_5) (Eq.trans (cfalse c_6) (cfalse c_7))))))) : quoinref21_isReg_F b0 = _).symm
          ·
            refine brb (fun c_8 => ?_) (fun c_8 => ?_)
            ·
              exact h _ ((Eq.trans (cfalse c_1) (Eq.trans (cfalse c_2) (Eq.trans (ctrue c_3) (Eq.trans (cfalse c_4) (Eq.trans (cfalse c_5) (ctrue c_8)))))) : quoinref21_isReg_F b0 = _).symm
            ·
              exact h _ ((Eq.trans (cfalse c_1) (Eq.trans (cfalse c_2) (Eq.trans (ctrue c_3) (Eq.trans (cfalse c_4) (Eq.trans (cfalse c_5) (cfalse c_8)))))) : quoinref21_isReg_F b0 = _).symm
      ·
        refine brb (fun c_9 => ?_) (fun c_9 => ?_)
        ·
          refine brb (fun c_10 => ?_) (fun c_10 => ?_)
          ·
            exact h _ ((Eq.trans (cfalse c_1) (Eq.trans (cfalse c_2) (Eq.trans (cfalse c_3) (Eq.trans (ctrue c_9) (ctrue c_10))))) : quoinref21_isReg_F b0 = _).symm
          ·
            refine brb (fun c_11 => ?_) (fun c_11 => ?_)
            ·
              exact h _ ((Eq.trans (cfalse c_1) (Eq.trans (cfalse c_2) (Eq.trans (cfalse c_3) (Eq.trans (ctrue c_9) (Eq.trans (cfalse c_10) (ctrue c_11)))))) : quoinref21_isReg_F b0 = _).symm
            ·
              exact h _ ((Eq.trans (cfalse c_1) (Eq.trans (cfalse c_2) (Eq.trans (cfalse c_3) (Eq.trans (ctrue c_9) (Eq.trans (cfalse c_10) (cfalse c_11)))))) : quoinref21_isReg_F b0 = _).symm
        ·
          refine brb (fun c_12 => ?_) (fun c_12 => ?_)
          ·
            exact h _ ((Eq.trans (cfalse c_1) (Eq.trans (cfalse c_2) (Eq.trans (cfalse c_3) (Eq.trans (cfalse c_9) (ctrue c_12))))) : quoinref21_isReg_F b0 = _).symm
          ·
            exact h _ ((Eq.trans (cfalse c_1) (Eq.trans (cfalse c_2) (Eq.trans (cfalse c_3) (Eq.trans (cfalse c_9) (cfalse c_12))))) : quoinref21_isReg_F b0 = _).symm
def quoinref21_isReg_C (v : valsA quoinref21_isReg_A) (K : Res → List Cell → Prop) : Prop := ∀ r : Bool, r = quoinref21_isReg_F v.1 → K (.one (.v (.bool) r)) []
def quoinref21_isReg_S : App := specW quoinref21_isReg_A quoinref21_isReg_C
theorem quoinref21_isReg_wv (K : Res → List Cell → Prop) : ∀ v : valsA quoinref21_isReg_A, runF tb (getG quoinref21_isReg_G) [] Tryd.f19 [true] (mkA quoinref21_isReg_A v) K = quoinref21_isReg_raw v.1 K
  | (b0, ()) => quoinref21_isReg_walk b0 K
set_option maxRecDepth 20000 in
theorem quoinref21_isReg_ok : AppOk Tryd.prog 19 quoinref21_isReg_S :=
  AppOk.specW (spec_ok (runF_ok tb_M tb_ok quoinref21_isReg_Gok (LabsOk.nil) (f := 19) (fn := Tryd.f19) (by kernel_rfl) (by kernel_rfl) (by kernel_rfl) [true]) fun v K hw h => (quoinref21_isReg_wv K v).mpr (quoinref21_isReg_sp v.1 K hw h))

end Go.VE
namespace Go.VE
open Go Go.Proofs
/-! ### quoin/quoinref21.number -/
def quoinref21_number_G : List (Nat × App) := []
theorem quoinref21_number_Gok : GOk Tryd.prog (getG quoinref21_number_G) := GOk.nil
theorem quoinref21_number_st : storesC (bodyOf Tryd.f20) = true := by kernel_rfl
def quoinref21_number_d0 : List LS := [.v 0 (.str), .v 4 (.int .i64), .v 5 (.int .i64)]
def quoinref21_number_d0x0 : List LS := [.v 4 (.int .i64), .v 5 (.int .i64)]
def quoinref21_number_dx0 : DX := ⟨none, none, [(0, quoinref21_number_d0x0)]⟩
def quoinref21_number_T0 (Y : List Int → Int → Int → Prop) (kx0 : Int → Int → Prop) (keys0 : List Int) (n4 : Int) (i5 : Int) : Prop :=
  bif (decide (i5 < (List.length keys0 : Int))) then
    bif decide (0 ≤ i5 ∧ i5 < (List.length keys0 : Int)) then
    bif (decide ((48 : Int) ≤ (rd (0 : Int) keys0 i5))) then
      bif decide (0 ≤ i5 ∧ i5 < (List.length keys0 : Int)) then
      bif (decide ((rd (0 : Int) keys0 i5) ≤ (57 : Int))) then
        bif (decide ((0 : Int) < i5)) then
          bif decide (0 ≤ i5 ∧ i5 < (List.length keys0 : Int)) then
          bif (decide ((9999 : Int) < (IntKind.wrap .i64 ((IntKind.wrap .i64 (n4 * (10 : Int))) + (IntKind.wrap .i64 (IntKind.wrap .u8 ((rd (0 : Int) keys0 i5) - (48 : Int)))))))) then
            Y keys0 (9999 : Int) (IntKind.wrap .i64 (i5 + (1 : Int)))
          else
            Y keys0 (IntKind.wrap .i64 ((IntKind.wrap .i64 (n4 * (10 : Int))) + (IntKind.wrap .i64 (IntKind.wrap .u8 ((rd (0 : Int) keys0 i5) - (48 : Int)))))) (IntKind.wrap .i64 (i5 + (1 : Int)))
          else False
        else
          bif decide (0 ≤ i5 ∧ i5 < (List.length keys0 : Int)) then
          bif (!decide ((rd (0 : Int) keys0 i5) = (48 : Int))) then
            bif decide (0 ≤ i5 ∧ i5 < (List.length keys0 : Int)) then
            bif (decide ((9999 : Int) < (IntKind.wrap .i64 ((IntKind.wrap .i64 (n4 * (10 : Int))) + (IntKind.wrap .i64 (IntKind.wrap .u8 ((rd (0 : Int) keys0 i5) - (48 : Int)))))))) then
              Y keys0 (9999 : Int) (IntKind.wrap .i64 (i5 + (1 : Int)))
            else
              Y keys0 (IntKind.wrap .i64 ((IntKind.wrap .i64 (n4 * (10 : Int))) + (IntKind.wrap .i64 (IntKind.wrap .u8 ((rd (0 : Int) keys0 i5) - (48 : Int)))))) (IntKind.wrap .i64 (i5 + (1 : Int)))
            else False
          else
            kx0 n4 i5
          else False
      else
        kx0 n4 i5
      else False
    else
      kx0 n4 i5
    else False
  else
    kx0 n4 i5
def quoinref21_number_L0 (kx0 : Int → Int → Prop) : Nat → List Int → Int → Int → Prop
  | 0, _, _, _ => False
  | n + 1, keys0, n4, i5 => wfD quoinref21_number_d0 (keys0, n4, i5, ()) → quoinref21_number_T0 (quoinref21_number_L0 kx0 n) kx0 keys0 n4 i5
theorem quoinref21_number_s0 (k : Ex → St → Prop) (Y : vals quoinref21_number_d0 → Prop) (keys0 : List Int) (n4 : Int) (i5 : Int) :
    ex tb (getG quoinref21_number_G) [] (at' (bodyOf Tryd.f20) [0, 0, 0, 1, 1]) [0, 0, 0, 1, 1] (mkD 46 quoinref21_number_d0 (keys0, n4, i5, ())) (lpK 46 quoinref21_number_d0 quoinref21_number_dx0 k Y) =
    quoinref21_number_T0 (fun keys0 n4 i5 => Y (keys0, n4, i5, ())) (fun n4 i5 => wfD quoinref21_number_d0x0 (n4, i5, ()) → k (.exit 0) (mkD 46 quoinref21_number_d0x0 (n4, i5, ()))) keys0 n4 i5 := by kernel_rfl
theorem quoinref21_number_e0 (k : Ex → St → Prop) : ∀ (n : Nat) (keys0 : List Int) (n4 : Int) (i5 : Int), lpD 46 quoinref21_number_d0 quoinref21_number_dx0 (ex tb (getG quoinref21_number_G) [] (at' (bodyOf Tryd.f20) [0, 0, 0, 1, 1]) [0, 0, 0, 1, 1]) k n (keys0, n4, i5, ()) = quoinref21_number_L0 (fun n4 i5 => wfD quoinref21_number_d0x0 (n4, i5, ()) → k (.exit 0) (mkD 46 quoinref21_number_d0x0 (n4, i5, ()))) n keys0 n4 i5
  | 0, _, _, _ => rfl
  | n + 1, keys0, n4, i5 => congrArg (fun Z : Prop => wfD quoinref21_number_d0 (keys0, n4, i5, ()) → Z) ((quoinref21_number_s0 k (lpD 46 quoinref21_number_d0 quoinref21_number_dx0 (ex tb (getG quoinref21_number_G) [] (at' (bodyOf Tryd.f20) [0, 0, 0, 1, 1]) [0, 0, 0, 1, 1]) k n) keys0 n4 i5).trans (congrArg (fun Y => quoinref21_number_T0 Y (fun n4 i5 => wfD quoinref21_number_d0x0 (n4, i5, ()) → k (.exit 0) (mkD 46 quoinref21_number_d0x0 (n4, i5, ()))) keys0 n4 i5) (funext fun keys0 => funext fun n4 => funext fun i5 => quoinref21_number_e0 k n keys0 n4 i5)))
theorem quoinref21_number_v0 (k : Ex → St → Prop) (n : Nat) : ∀ v : vals quoinref21_number_d0, lpD 46 quoinref21_number_d0 quoinref21_number_dx0 (ex tb (getG quoinref21_number_G) [] (at' (bodyOf Tryd.f20) [0, 0, 0, 1, 1]) [0, 0, 0, 1, 1]) k n v = quoinref21_number_L0 (fun n4 i5 => wfD quoinref21_number_d0x0 (n4, i5, ()) → k (.exit 0) (mkD 46 quoinref21_number_d0x0 (n4, i5, ()))) n v.1 v.2.1 v.2.2.1
  | (keys0, n4, i5, ()) => quoinref21_number_e0 k n keys0 n4 i5
def quoinref21_number_X0 : Pce := fun st k => ckD 46 quoinref21_number_d0 st fun v => wfD quoinref21_number_d0 v → ∃ n, quoinref21_number_L0 (fun n4 i5 => wfD quoinref21_number_d0x0 (n4, i5, ()) → k (.exit 0) (mkD 46 quoinref21_number_d0x0 (n4, i5, ()))) n v.1 v.2.1 v.2.2.1
set_option maxRecDepth 20000 in
theorem quoinref21_number_x0 : SemOk Tryd.prog (at' (bodyOf Tryd.f20) [0, 0, 1, 1]) quoinref21_number_X0 :=
  (SemOk.loop (ex_sound tb_M tb_ok quoinref21_number_Gok (LabsOk.nil) (at' (bodyOf Tryd.f20) [0, 0, 0, 1, 1]) [0, 0, 0, 1, 1] rfl (storesC_at quoinref21_number_st [0, 0, 0, 1, 1])) 46 quoinref21_number_d0 quoinref21_number_dx0).mono fun st k h => ckD_mono h fun v hv hw => (hv hw).elim fun n hn => ⟨n, Eq.mpr (quoinref21_number_v0 k n v) hn⟩
def quoinref21_number_B0 : Labs := ([0, 0, 1, 1], quoinref21_number_X0) :: []
theorem quoinref21_number_b0 : LabsOk Tryd.prog (bodyOf Tryd.f20) quoinref21_number_B0 := LabsOk.cons quoinref21_number_x0 (LabsOk.nil)
def quoinref21_number_raw (keys0 : List Int) (K : Res → List Cell → Prop) : Prop :=
  (wfD quoinref21_number_d0 (keys0, (0 : Int), (0 : Int), ()) → ∃ n, quoinref21_number_L0 (fun (n4 : Int) (i5 : Int) => wfD quoinref21_number_d0x0 (n4, i5, ()) → (
      K (.tup [.v (.int .i64) n4, .v (.int .i64) i5]) [])) n keys0 (0 : Int) (0 : Int))
def quoinref21_number_A : List AS := [.v (.str)]
theorem quoinref21_number_walk (keys0 : List Int) (K : Res → List Cell → Prop) : runF tb (getG quoinref21_number_G) quoinref21_number_B0 Tryd.f20 [true, true] (mkA quoinref21_number_A (keys0, ())) K = quoinref21_number_raw keys0 K := by kernel_rfl
--! import F_keys_reader_count
def quoinref21_number_L0_P (keys : List Int) (n i : Int) : Prop := n = 0 ∧ i = 0
def quoinref21_number_L0_F (keys : List Int) (n i : Int) : Int × Int := ((cntL keys 0).1, ((cntL keys 0).2 : Int))
theorem quoinref21_number_l0 (kx0 : Int → Int → Prop) (ks : List Int) : ∀ (m i : Nat) (n : Int), i ≤ ks.length → ks.length - i < m → 0 ≤ n → n ≤ 9999 → (i = 0 ∧ n = 0 ∨ 0 < i ∧ 1 ≤ n) →
    (∀ q : Int × Int, q = ((cntL (ks.drop i) n).1, (i : Int) + ((cntL (ks.drop i) n).2 : Int)) → kx0 q.1 q.2) → quoinref21_number_L0 kx0 m ks n (i : Int)
  | 0, _, _, _, h, _, _, _, _ => absurd h (Nat.not_lt_zero _)
  | m + 1, i, n, hi, hm, h0, h1, hin, h => by
    intro hw
    unfold quoinref21_number_T0
    have hlen : ks.length ≤ 9223372036854775807 := Nat.le_trans hw.1.1 (by decide)
    have hb : ∀ x ∈ ks, 0 ≤ x ∧ x ≤ 255 := hw.1.2
    refine brn (fun hlt => asrt (by omega) ?_) (fun hge => h (n, (i : Int)) ?_)
    · have hil : i < ks.length := by omega
      rw [rd_nat 0 ks i hil]
      have hd : ks.drop i = ks[i] :: ks.drop (i + 1) := List.drop_eq_getElem_cons hil
      have hx := hb ks[i] (List.getElem_mem hil)
      have stop : (ks[i] < 48 ∨ 57 < ks[i] ∨ (ks[i] = 48 ∧ n = 0)) → ((n, (i : Int)) : Int × Int) = ((cntL (ks.drop i) n).1, (i : Int) + ((cntL (ks.drop i) n).2 : Int)) := fun hs => by
        rw [hd, show cntL (ks[i] :: ks.drop (i + 1)) n = (n, 0) by unfold cntL; rw [if_pos hs]]
        simp
      have go : ¬ (ks[i] < 48 ∨ 57 < ks[i] ∨ (ks[i] = 48 ∧ n = 0)) → bif (decide ((9999 : Int) < (IntKind.wrap .i64 ((IntKind.wrap .i64 (n * (10 : Int))) + (IntKind.wrap .i64 (IntKind.wrap .u8 (ks[i] - (48 : Int)))))))) then
            quoinref21_number_L0 kx0 m ks (9999 : Int) (IntKind.wrap .i64 ((i : Int) + (1 : Int)))
          else
            quoinref21_number_L0 kx0 m ks (IntKind.wrap .i64 ((IntKind.wrap .i64 (n * (10 : Int))) + (IntKind.wrap .i64 (IntKind.wrap .u8 (ks[i] - (48 : Int)))))) (IntKind.wrap .i64 ((i : Int) + (1 : Int))) := fun hs => by
        rw [wrap_u8 (n := ks[i] - 48) (by omega) (by omega), wrap_i64 (n := ks[i] - 48) (by omega) (by omega), wrap_i64 (n := n * 10) (by omega) (by omega), wrap_i64 (n := n * 10 + (ks[i] - 48)) (by omega) (by omega), wrap_i64 (n := (i : Int) + 1) (by omega) (by omega)]
        rw [show (i : Int) + 1 = ((i + 1 : Nat) : Int) by omega]
        have next : ∀ w : Int, w = mn (n * 10 + (ks[i] - 48)) 9999 → quoinref21_number_L0 kx0 m ks w ((i + 1 : Nat) : Int) := fun w hw2 => by
          have e := mn_le' (n * 10 + (ks[i] - 48)) 9999
          have e2 : mn (n * 10 + (ks[i] - 48)) 9999 = if 9999 < n * 10 + (ks[i] - 48) then 9999 else n * 10 + (ks[i] - 48) := by
            unfold mn; by_cases hh : (9999 : Int) < n * 10 + (ks[i] - 48) <;> simp [hh]
          refine quoinref21_number_l0 kx0 ks m (i + 1) w (by omega) (by omega) (by omega) (by omega) (.inr ⟨by omega, by rw [hw2, e2]; split <;> omega⟩) fun q hq => h q ?_
          rw [hq, hd, show cntL (ks[i] :: ks.drop (i + 1)) n = _ by unfold cntL; rw [if_neg hs], ← hw2]
          simp only [Prod.mk.injEq, true_and]
          omega
        have e2 : mn (n * 10 + (ks[i] - 48)) 9999 = if 9999 < n * 10 + (ks[i] - 48) then 9999 else n * 10 + (ks[i] - 48) := by
          unfold mn; by_cases hh : (9999 : Int) < n * 10 + (ks[i] - 48) <;> simp [hh]
        exact brn (fun hh => next _ (by rw [e2, if_pos hh])) (fun hh => next _ (by rw [e2, if_neg hh]))
      refine brn (fun c1 => asrt (by omega) (brn (fun c2 => brn (fun c3 => asrt (by omega) (go (by omega))) (fun c3 => asrt (by omega) ?_)) (fun c2 => h _ (stop (by omega))))) (fun c1 => h _ (stop (by omega)))
      refine brb (fun c4 => asrt (by omega) (go ?_)) (fun c4 => h _ (stop ?_))
      · have c4 : ¬ ks[i] = 48 := by simpa using c4
        omega
      · have c4 : ks[i] = 48 := by simpa using c4
        omega
    · have : i = ks.length := by omega
      subst this
      simp [cntL]
theorem quoinref21_number_L0_sp (kx0 : Int → Int → Prop) (keys0 : List Int) (n4 i5 : Int) (hp : quoinref21_number_L0_P keys0 n4 i5) (h : ∀ q : Int × Int, q = quoinref21_number_L0_F keys0 n4 i5 → kx0 q.1 q.2) : ∃ n, quoinref21_number_L0 kx0 n keys0 n4 i5 := by
  obtain ⟨rfl, rfl⟩ := hp
  exact ⟨keys0.length + 1, quoinref21_number_l0 kx0 keys0 (keys0.length + 1) 0 0 (Nat.zero_le _) (by omega) (by omega) (by omega) (.inl ⟨rfl, rfl⟩) (fun q hq => h q (by rw [hq]; unfold quoinref21_number_L0_F; simp))⟩

def quoinref21_number_P (keys0 : List Int) : Prop :=
  quoinref21_number_L0_P keys0 (0 : Int) (0 : Int)
def quoinref21_number_F (keys0 : List Int) : Int × Int :=
  let q0x0 : Int × Int := quoinref21_number_L0_F keys0 (0 : Int) (0 : Int)
  let n4 : Int := q0x0.1
  let i5 : Int := q0x0.2
  (n4, i5)
set_option maxRecDepth 20000 in
theorem quoinref21_number_sp (keys0 : List Int) (K : Res → List Cell → Prop) (_ : wfA quoinref21_number_A (keys0, ())) (hp : quoinref21_number_P keys0) (h : ∀ r : Int × Int, r = quoinref21_number_F keys0 → K (.tup [.v (.int .i64) r.1, .v (.int .i64) r.2]) []) : quoinref21_number_raw keys0 K := by
  unfold quoinref21_number_raw
  unfold quoinref21_number_P at hp
  refine fun _ => quoinref21_number_L0_sp _ _ _ _ hp (fun q hq => ?_)
  subst hq
  intro _
  clear hp
  exact h _ rfl
def quoinref21_number_C (v : valsA quoinref21_number_A) (K : Res → List Cell → Prop) : Prop := quoinref21_number_P v.1 ∧ ∀ r : Int × Int, r = quoinref21_number_F v.1 → K (.tup [.v (.int .i64) r.1, .v (.int .i64) r.2]) []
def quoinref21_number_S : App := specW quoinref21_number_A quoinref21_number_C
theorem quoinref21_number_wv (K : Res → List Cell → Prop) : ∀ v : valsA quoinref21_number_A, runF tb (getG quoinref21_number_G) quoinref21_number_B0 Tryd.f20 [true, true] (mkA quoinref21_number_A v) K = quoinref21_number_raw v.1 K
  | (keys0, ()) => quoinref21_number_walk keys0 K
set_option maxRecDepth 20000 in
theorem quoinref21_number_ok : AppOk Tryd.prog 20 quoinref21_number_S :=
  AppOk.specW (spec_ok (runF_ok tb_M tb_ok quoinref21_number_Gok (quoinref21_number_b0) (f := 20) (fn := Tryd.f20) (by kernel_rfl) (by kernel_rfl) quoinref21_number_st [true, true]) fun v K hw h => (quoinref21_number_wv K v).mpr (quoinref21_number_sp v.1 K hw h.1 h.2))

end Go.VE
namespace Go.VE
open Go Go.Proofs
/-! ### quoin/quoinref21.words -/
def quoinref21_words_G : List (Nat × App) := []
theorem quoinref21_words_Gok : GOk Tryd.prog (getG quoinref21_words_G) := GOk.nil
theorem quoinref21_words_st : storesC (bodyOf Tryd.f38) = true := by kernel_rfl
def quoinref21_words_d0 : List LS := [.v 0 (.str), .o 3 29 9 (.str), .v 4 (.int .i64), .v 5 (.int .i64)]
def quoinref21_words_d0x0 : List LS := [.o 3 29 9 (.str)]
def quoinref21_words_dx0 : DX := ⟨none, none, [(0, quoinref21_words_d0x0)]⟩
def quoinref21_words_T0 (Y : List Int → List (List Int) → Int → Int → Prop) (kx0 : List (List Int) → Prop) (s0 : List Int) (out3 : List (List Int)) (from4 : Int) (i5 : Int) : Prop :=
  bif (decide (i5 ≤ (List.length s0 : Int))) then
    bif (decide (i5 = (List.length s0 : Int))) then
      bif (decide (from4 < i5)) then
        bif decide (0 ≤ from4 ∧ from4 ≤ i5 ∧ i5 ≤ (List.length s0 : Int)) then
        bif decide (List.length out3 + List.length ([(slc s0 from4 i5)] : List (List Int)) ≤ lim) then
        Y s0 (out3 ++ ([(slc s0 from4 i5)] : List (List Int))) (IntKind.wrap .i64 (i5 + (1 : Int))) (IntKind.wrap .i64 (i5 + (1 : Int)))
        else False
        else False
      else
        Y s0 out3 (IntKind.wrap .i64 (i5 + (1 : Int))) (IntKind.wrap .i64 (i5 + (1 : Int)))
    else
      bif decide (0 ≤ i5 ∧ i5 < (List.length s0 : Int)) then
      bif (decide ((rd (0 : Int) s0 i5) = (32 : Int))) then
        bif (decide (from4 < i5)) then
          bif decide (0 ≤ from4 ∧ from4 ≤ i5 ∧ i5 ≤ (List.length s0 : Int)) then
          bif decide (List.length out3 + List.length ([(slc s0 from4 i5)] : List (List Int)) ≤ lim) then
          Y s0 (out3 ++ ([(slc s0 from4 i5)] : List (List Int))) (IntKind.wrap .i64 (i5 + (1 : Int))) (IntKind.wrap .i64 (i5 + (1 : Int)))
          else False
          else False
        else
          Y s0 out3 (IntKind.wrap .i64 (i5 + (1 : Int))) (IntKind.wrap .i64 (i5 + (1 : Int)))
      else
        Y s0 out3 from4 (IntKind.wrap .i64 (i5 + (1 : Int)))
      else False
  else
    kx0 out3
def quoinref21_words_L0 (kx0 : List (List Int) → Prop) : Nat → List Int → List (List Int) → Int → Int → Prop
  | 0, _, _, _, _ => False
  | n + 1, s0, out3, from4, i5 => wfD quoinref21_words_d0 (s0, out3, from4, i5, ()) → quoinref21_words_T0 (quoinref21_words_L0 kx0 n) kx0 s0 out3 from4 i5
theorem quoinref21_words_s0 (k : Ex → St → Prop) (Y : vals quoinref21_words_d0 → Prop) (s0 : List Int) (out3 : List (List Int)) (from4 : Int) (i5 : Int) :
    ex tb (getG quoinref21_words_G) [] (at' (bodyOf Tryd.f38) [0, 0, 1, 0, 1, 1, 1]) [0, 0, 1, 0, 1, 1, 1] (mkD 35 quoinref21_words_d0 (s0, out3, from4, i5, ())) (lpK 35 quoinref21_words_d0 quoinref21_words_dx0 k Y) =
    quoinref21_words_T0 (fun s0 out3 from4 i5 => Y (s0, out3, from4, i5, ())) (fun out3 => wfD quoinref21_words_d0x0 (out3, ()) → k (.exit 0) (mkD 35 quoinref21_words_d0x0 (out3, ()))) s0 out3 from4 i5 := by kernel_rfl
theorem quoinref21_words_e0 (k : Ex → St → Prop) : ∀ (n : Nat) (s0 : List Int) (out3 : List (List Int)) (from4 : Int) (i5 : Int), lpD 35 quoinref21_words_d0 quoinref21_words_dx0 (ex tb (getG quoinref21_words_G) [] (at' (bodyOf Tryd.f38) [0, 0, 1, 0, 1, 1, 1]) [0, 0, 1, 0, 1, 1, 1]) k n (s0, out3, from4, i5, ()) = quoinref21_words_L0 (fun out3 => wfD quoinref21_words_d0x0 (out3, ()) → k (.exit 0) (mkD 35 quoinref21_words_d0x0 (out3, ()))) n s0 out3 from4 i5
  | 0, _, _, _, _ => rfl
  | n + 1, s0, out3, from4, i5 => congrArg (fun Z : Prop => wfD quoinref21_words_d0 (s0, out3, from4, i5, ()) → Z) ((quoinref21_words_s0 k (lpD 35 quoinref21_words_d0 quoinref21_words_dx0 (ex tb (getG quoinref21_words_G) [] (at' (bodyOf Tryd.f38) [0, 0, 1, 0, 1, 1, 1]) [0, 0, 1, 0, 1, 1, 1]) k n) s0 out3 from4 i5).trans (congrArg (fun Y => quoinref21_words_T0 Y (fun out3 => wfD quoinref21_words_d0x0 (out3, ()) → k (.exit 0) (mkD 35 quoinref21_words_d0x0 (out3, ()))) s0 out3 from4 i5) (funext fun s0 => funext fun out3 => funext fun from4 => funext fun i5 => quoinref21_words_e0 k n s0 out3 from4 i5)))
theorem quoinref21_words_v0 (k : Ex → St → Prop) (n : Nat) : ∀ v : vals quoinref21_words_d0, lpD 35 quoinref21_words_d0 quoinref21_words_dx0 (ex tb (getG quoinref21_words_G) [] (at' (bodyOf Tryd.f38) [0, 0, 1, 0, 1, 1, 1]) [0, 0, 1, 0, 1, 1, 1]) k n v = quoinref21_words_L0 (fun out3 => wfD quoinref21_words_d0x0 (out3, ()) → k (.exit 0) (mkD 35 quoinref21_words_d0x0 (out3, ()))) n v.1 v.2.1 v.2.2.1 v.2.2.2.1
  | (s0, out3, from4, i5, ()) => quoinref21_words_e0 k n s0 out3 from4 i5
def quoinref21_words_X0 : Pce := fun st k => ckD 35 quoinref21_words_d0 st fun v => wfD quoinref21_words_d0 v → ∃ n, quoinref21_words_L0 (fun out3 => wfD quoinref21_words_d0x0 (out3, ()) → k (.exit 0) (mkD 35 quoinref21_words_d0x0 (out3, ()))) n v.1 v.2.1 v.2.2.1 v.2.2.2.1
set_option maxRecDepth 20000 in
theorem quoinref21_words_x0 : SemOk Tryd.prog (at' (bodyOf Tryd.f38) [0, 1, 0, 1, 1, 1]) quoinref21_words_X0 :=
  (SemOk.loop (ex_sound tb_M tb_ok quoinref21_words_Gok (LabsOk.nil) (at' (bodyOf Tryd.f38) [0, 0, 1, 0, 1, 1, 1]) [0, 0, 1, 0, 1, 1, 1] rfl (storesC_at quoinref21_words_st [0, 0, 1, 0, 1, 1, 1])) 35 quoinref21_words_d0 quoinref21_words_dx0).mono fun st k h => ckD_mono h fun v hv hw => (hv hw).elim fun n hn => ⟨n, Eq.mpr (quoinref21_words_v0 k n v) hn⟩
def quoinref21_words_B0 : Labs := ([0, 1, 0, 1, 1, 1], quoinref21_words_X0) :: []
theorem quoinref21_words_b0 : LabsOk Tryd.prog (bodyOf Tryd.f38) quoinref21_words_B0 := LabsOk.cons quoinref21_words_x0 (LabsOk.nil)
def quoinref21_words_raw (s0 : List Int) (K : Res → List Cell → Prop) : Prop :=
  (wfD quoinref21_words_d0 (s0, ([] : List (List Int)), (0 : Int), (0 : Int), ()) → ∃ n, quoinref21_words_L0 (fun (out3 : List (List Int)) => wfD quoinref21_words_d0x0 (out3, ()) → (
      K (.one (.fr 9 (.str) out3)) [])) n s0 ([] : List (List Int)) (0 : Int) (0 : Int))
def quoinref21_words_A : List AS := [.v (.str)]
theorem quoinref21_words_walk (s0 : List Int) (K : Res → List Cell → Prop) : runF tb (getG quoinref21_words_G) quoinref21_words_B0 Tryd.f38 [true] (mkA quoinref21_words_A (s0, ())) K = quoinref21_words_raw s0 K := by kernel_rfl
/-- the pieces between blanks, from a place on -/
def wordsL : Nat → List Int → List (List Int) → Int → Int → List (List Int)
  | 0, _, out, _, _ => out
  | n + 1, s, out, fr, i => if i ≤ s.length then
      (if i = s.length ∨ rd 0 s i = 32 then wordsL n s (if fr < i then out ++ [slc s fr i] else out) (i + 1) (i + 1) else wordsL n s out fr (i + 1)) else out
def quoinref21_words_L0_P (s : List Int) (out : List (List Int)) (fr i : Int) : Prop := 0 ≤ fr ∧ fr ≤ i ∧ (out.length : Int) ≤ i ∧ i ≤ s.length + 1 ∧ s.length ≤ 1000000
def quoinref21_words_L0_F (s : List Int) (out : List (List Int)) (fr i : Int) : List (List Int) := wordsL (s.length + 2) s out fr i
theorem quoinref21_words_l0 (kx0 : List (List Int) → Prop) (s : List Int) (hs : s.length ≤ 1000000) : ∀ (m : Nat) (out : List (List Int)) (fr i : Int), 0 ≤ fr → fr ≤ i → (out.length : Int) ≤ i → i ≤ s.length + 1 → (s.length : Int) + 2 - i ≤ m →
    (∀ q : List (List Int), q = wordsL m s out fr i → kx0 q) → quoinref21_words_L0 kx0 m s out fr i
  | 0, out, fr, i, h0, h1, h2, h3, h4, h => absurd h4 (by omega)
  | m + 1, out, fr, i, h0, h1, h2, h3, h4, h => by
    intro _
    unfold quoinref21_words_T0
    rw [wrap_i64 (n := i + 1) (by omega) (by omega)]
    unfold wordsL at h
    refine brn (fun hle => ?_) (fun hgt => h out (by rw [if_neg hgt]))
    rw [if_pos hle] at h
    have put : (i = s.length ∨ rd 0 s i = 32) → bif (decide (fr < i)) then
          bif decide (0 ≤ fr ∧ fr ≤ i ∧ i ≤ (List.length s : Int)) then
          bif decide (List.length out + List.length ([(slc s fr i)] : List (List Int)) ≤ lim) then
          quoinref21_words_L0 kx0 m s (out ++ ([(slc s fr i)] : List (List Int))) (i + 1) (i + 1)
          else False
          else False
        else quoinref21_words_L0 kx0 m s out (i + 1) (i + 1) := fun hc => by
      rw [if_pos hc] at h
      refine brn (fun hlt => asrt ⟨h0, by omega, hle⟩ (asrt (by simp only [List.length_cons, List.length_nil, lim]; omega) ?_)) (fun hlt => ?_)
      · rw [if_pos hlt] at h
        exact quoinref21_words_l0 kx0 s hs m _ _ _ (by omega) (by omega) (by simp only [List.length_append, List.length_cons, List.length_nil]; omega) (by omega) (by omega) h
      · rw [if_neg hlt] at h
        exact quoinref21_words_l0 kx0 s hs m _ _ _ (by omega) (by omega) (by omega) (by omega) (by omega) h
    refine brn (fun he => put (.inl he)) (fun hne => asrt ⟨by omega, by omega⟩ (brn (fun h32 => put (.inr h32)) (fun h32 => ?_)))
    rw [if_neg (by rintro (hh | hh); exact hne hh; exact h32 hh)] at h
    exact quoinref21_words_l0 kx0 s hs m _ _ _ (by omega) (by omega) (by omega) (by omega) (by omega) h
theorem quoinref21_words_L0_sp (kx0 : List (List Int) → Prop) (s0 : List Int) (out3 : List (List Int)) (from4 i5 : Int) (hp : quoinref21_words_L0_P s0 out3 from4 i5) (h : ∀ q : List (List Int), q = quoinref21_words_L0_F s0 out3 from4 i5 → kx0 q) :
    ∃ n, quoinref21_words_L0 kx0 n s0 out3 from4 i5 :=
  ⟨s0.length + 2, quoinref21_words_l0 kx0 s0 hp.2.2.2.2 (s0.length + 2) out3 from4 i5 hp.1 hp.2.1 hp.2.2.1 hp.2.2.2.1 (by have := hp.1; have := hp.2.1; omega) h⟩

def quoinref21_words_P (s0 : List Int) : Prop :=
  quoinref21_words_L0_P s0 ([] : List (List Int)) (0 : Int) (0 : Int)
def quoinref21_words_F (s0 : List Int) : List (List Int) :=
  let q0x0 : List (List Int) := quoinref21_words_L0_F s0 ([] : List (List Int)) (0 : Int) (0 : Int)
  let out3 : List (List Int) := q0x0
  out3
set_option maxRecDepth 20000 in
theorem quoinref21_words_sp (s0 : List Int) (K : Res → List Cell → Prop) (_ : wfA quoinref21_words_A (s0, ())) (hp : quoinref21_words_P s0) (h : ∀ r : List (List Int), r = quoinref21_words_F s0 → K (.one (.fr 9 (.str) r)) []) : quoinref21_words_raw s0 K := by
  unfold quoinref21_words_raw
  unfold quoinref21_words_P at hp
  refine fun _ => quoinref21_words_L0_sp _ _ _ _ _ hp (fun q hq => ?_)
  subst hq
  intro _
  clear hp
  exact h _ rfl
def quoinref21_words_C (v : valsA quoinref21_words_A) (K : Res → List Cell → Prop) : Prop := quoinref21_words_P v.1 ∧ ∀ r : List (List Int), r = quoinref21_words_F v.1 → K (.one (.fr 9 (.str) r)) []
def quoinref21_words_S : App := specW quoinref21_words_A quoinref21_words_C
theorem quoinref21_words_wv (K : Res → List Cell → Prop) : ∀ v : valsA quoinref21_words_A, runF tb (getG quoinref21_words_G) quoinref21_words_B0 Tryd.f38 [true] (mkA quoinref21_words_A v) K = quoinref21_words_raw v.1 K
  | (s0, ()) => quoinref21_words_walk s0 K
set_option maxRecDepth 20000 in
theorem quoinref21_words_ok : AppOk Tryd.prog 38 quoinref21_words_S :=
  AppOk.specW (spec_ok (runF_ok tb_M tb_ok quoinref21_words_Gok (quoinref21_words_b0) (f := 38) (fn := Tryd.f38) (by kernel_rfl) (by kernel_rfl) quoinref21_words_st [true]) fun v K hw h => (quoinref21_words_wv K v).mpr (quoinref21_words_sp v.1 K hw h.1 h.2))

end Go.VE
namespace Go.VE
open Go Go.Proofs
/-! ### quoin/quoinref21.motions -/
def quoinref21_motions_G : List (Nat × App) := [(38, quoinref21_words_S)]
theorem quoinref21_motions_Gok : GOk Tryd.prog (getG quoinref21_motions_G) := GOk.cons quoinref21_words_ok (GOk.nil)
def quoinref21_motions_raw  (K : Res → List Cell → Prop) : Prop :=
  quoinref21_words_P ([104, 32, 108, 32, 106, 32, 107, 32, 43, 32, 45, 32, 95, 32, 48, 32, 94, 32, 36, 32, 124, 32, 71, 32, 119, 32, 98, 32, 101, 32, 87, 32, 66, 32, 69, 32, 59, 32, 44, 32, 123, 32, 125, 32, 40, 32, 41, 32, 37, 32, 47, 32, 63, 32, 110, 32, 78, 32, 42, 32, 103, 103, 32, 103, 101, 32, 103, 69] : List Int) ∧ (
  ∀ (r1 : List (List Int)), r1 = quoinref21_words_F ([104, 32, 108, 32, 106, 32, 107, 32, 43, 32, 45, 32, 95, 32, 48, 32, 94, 32, 36, 32, 124, 32, 71, 32, 119, 32, 98, 32, 101, 32, 87, 32, 66, 32, 69, 32, 59, 32, 44, 32, 123, 32, 125, 32, 40, 32, 41, 32, 37, 32, 47, 32, 63, 32, 110, 32, 78, 32, 42, 32, 103, 103, 32, 103, 101, 32, 103, 69] : List Int) → (
  wfR (.one (.fr 9 (.str) r1)) → (
  bif decide (List.length r1 + List.length ([([32] : List Int), ([8] : List Int), ([127] : List Int), ([10] : List Int), ([13] : List Int)] : List (List Int)) ≤ lim) then
  quoinref21_words_P ([102, 32, 70, 32, 116, 32, 84, 32, 39] : List Int) ∧ (
  ∀ (r2 : List (List Int)), r2 = quoinref21_words_F ([102, 32, 70, 32, 116, 32, 84, 32, 39] : List Int) → (
  wfR (.one (.fr 9 (.str) r2)) → (
  bif decide (List.length r2 + List.length ([([96] : List Int)] : List (List Int)) ≤ lim) then
  K (.tup [.fr 9 (.str) (r1 ++ ([([32] : List Int), ([8] : List Int), ([127] : List Int), ([10] : List Int), ([13] : List Int)] : List (List Int))), .fr 9 (.str) (r2 ++ ([([96] : List Int)] : List (List Int)))]) []
  else False)))
  else False)))
def quoinref21_motions_A : List AS := []
theorem quoinref21_motions_walk  (K : Res → List Cell → Prop) : runF tb (getG quoinref21_motions_G) [] Tryd.f21 [true, true] (mkA quoinref21_motions_A ()) K = quoinref21_motions_raw  K := by kernel_rfl

def quoinref21_motions_P  : Prop :=
  quoinref21_words_P ([104, 32, 108, 32, 106, 32, 107, 32, 43, 32, 45, 32, 95, 32, 48, 32, 94, 32, 36, 32, 124, 32, 71, 32, 119, 32, 98, 32, 101, 32, 87, 32, 66, 32, 69, 32, 59, 32, 44, 32, 123, 32, 125, 32, 40, 32, 41, 32, 37, 32, 47, 32, 63, 32, 110, 32, 78, 32, 42, 32, 103, 103, 32, 103, 101, 32, 103, 69] : List Int) ∧ (
  let r1 : List (List Int) := quoinref21_words_F ([104, 32, 108, 32, 106, 32, 107, 32, 43, 32, 45, 32, 95, 32, 48, 32, 94, 32, 36, 32, 124, 32, 71, 32, 119, 32, 98, 32, 101, 32, 87, 32, 66, 32, 69, 32, 59, 32, 44, 32, 123, 32, 125, 32, 40, 32, 41, 32, 37, 32, 47, 32, 63, 32, 110, 32, 78, 32, 42, 32, 103, 103, 32, 103, 101, 32, 103, 69] : List Int)
  (List.length r1 + List.length ([([32] : List Int), ([8] : List Int), ([127] : List Int), ([10] : List Int), ([13] : List Int)] : List (List Int)) ≤ lim) ∧ (
  quoinref21_words_P ([102, 32, 70, 32, 116, 32, 84, 32, 39] : List Int) ∧ (
  let r2 : List (List Int) := quoinref21_words_F ([102, 32, 70, 32, 116, 32, 84, 32, 39] : List Int)
  (List.length r2 + List.length ([([96] : List Int)] : List (List Int)) ≤ lim))))
def quoinref21_motions_F  : List (List Int) × List (List Int) :=
  let r1 : List (List Int) := quoinref21_words_F ([104, 32, 108, 32, 106, 32, 107, 32, 43, 32, 45, 32, 95, 32, 48, 32, 94, 32, 36, 32, 124, 32, 71, 32, 119, 32, 98, 32, 101, 32, 87, 32, 66, 32, 69, 32, 59, 32, 44, 32, 123, 32, 125, 32, 40, 32, 41, 32, 37, 32, 47, 32, 63, 32, 110, 32, 78, 32, 42, 32, 103, 103, 32, 103, 101, 32, 103, 69] : List Int)
  let r2 : List (List Int) := quoinref21_words_F ([102, 32, 70, 32, 116, 32, 84, 32, 39] : List Int)
  ((r1 ++ ([([32] : List Int), ([8] : List Int), ([127] : List Int), ([10] : List Int), ([13] : List Int)] : List (List Int))), (r2 ++ ([([96] : List Int)] : List (List Int))))
set_option maxRecDepth 20000 in
theorem quoinref21_motions_sp  (K : Res → List Cell → Prop) (_ : wfA quoinref21_motions_A ()) (hp : quoinref21_motions_P ) (h : ∀ r : List (List Int) × List (List Int), r = quoinref21_motions_F  → K (.tup [.fr 9 (.str) r.1, .fr 9 (.str) r.2]) []) : quoinref21_motions_raw  K := by
  unfold quoinref21_motions_raw
  unfold quoinref21_motions_P at hp
  refine ⟨hp.1, ?_⟩
  replace hp := hp.2
  intro r1 hr1
  subst hr1
  intro _
  refine asrt hp.1 ?_
  replace hp := hp.2
  refine ⟨hp.1, ?_⟩
  replace hp := hp.2
  intro r2 hr2
  subst hr2
  intro _
  refine asrt hp ?_
  exact h _ rfl
def quoinref21_motions_C (v : valsA quoinref21_motions_A) (K : Res → List Cell → Prop) : Prop := quoinref21_motions_P  ∧ ∀ r : List (List Int) × List (List Int), r = quoinref21_motions_F → K (.tup [.fr 9 (.str) r.1, .fr 9 (.str) r.2]) []
def quoinref21_motions_S : App := specW quoinref21_motions_A quoinref21_motions_C
theorem quoinref21_motions_wv (K : Res → List Cell → Prop) : ∀ v : valsA quoinref21_motions_A, runF tb (getG quoinref21_motions_G) [] Tryd.f21 [true, true] (mkA quoinref21_motions_A v) K = quoinref21_motions_raw  K
  | () => quoinref21_motions_walk  K
set_option maxRecDepth 20000 in
theorem quoinref21_motions_ok : AppOk Tryd.prog 21 quoinref21_motions_S :=
  AppOk.specW (spec_ok (runF_ok tb_M tb_ok quoinref21_motions_Gok (LabsOk.nil) (f := 21) (fn := Tryd.f21) (by kernel_rfl) (by kernel_rfl) (by kernel_rfl) [true, true]) fun v K hw h => (quoinref21_motions_wv K v).mpr (quoinref21_motions_sp  K hw h.1 h.2))

end Go.VE
namespace Go.VE
open Go Go.Proofs
/-! ### quoin/quoinref21.operators -/
def quoinref21_operators_G : List (Nat × App) := [(38, quoinref21_words_S)]
theorem quoinref21_operators_Gok : GOk Tryd.prog (getG quoinref21_operators_G) := GOk.cons quoinref21_words_ok (GOk.nil)
def quoinref21_operators_raw  (K : Res → List Cell → Prop) : Prop :=
  quoinref21_words_P ([100, 32, 99, 32, 121, 32, 62, 32, 60, 32, 103, 126, 32, 103, 117, 32, 103, 85] : List Int) ∧ (
  ∀ (r1 : List (List Int)), r1 = quoinref21_words_F ([100, 32, 99, 32, 121, 32, 62, 32, 60, 32, 103, 126, 32, 103, 117, 32, 103, 85] : List Int) → (
  wfR (.one (.fr 9 (.str) r1)) → (
  K (.one (.fr 9 (.str) r1)) [])))
def quoinref21_operators_A : List AS := []
theorem quoinref21_operators_walk  (K : Res → List Cell → Prop) : runF tb (getG quoinref21_operators_G) [] Tryd.f22 [true] (mkA quoinref21_operators_A ()) K = quoinref21_operators_raw  K := by kernel_rfl

def quoinref21_operators_P  : Prop :=
  quoinref21_words_P ([100, 32, 99, 32, 121, 32, 62, 32, 60, 32, 103, 126, 32, 103, 117, 32, 103, 85] : List Int)
def quoinref21_operators_F  : List (List Int) :=
  let r1 : List (List Int) := quoinref21_words_F ([100, 32, 99, 32, 121, 32, 62, 32, 60, 32, 103, 126, 32, 103, 117, 32, 103, 85] : List Int)
  r1
set_option maxRecDepth 20000 in
theorem quoinref21_operators_sp  (K : Res → List Cell → Prop) (_ : wfA quoinref21_operators_A ()) (hp : quoinref21_operators_P ) (h : ∀ r : List (List Int), r = quoinref21_operators_F  → K (.one (.fr 9 (.str) r)) []) : quoinref21_operators_raw  K := by
  unfold quoinref21_operators_raw
  unfold quoinref21_operators_P at hp
  refine ⟨hp, ?_⟩
  intro r1 hr1
  subst hr1
  intro _
  exact h _ rfl
def quoinref21_operators_C (v : valsA quoinref21_operators_A) (K : Res → List Cell → Prop) : Prop := quoinref21_operators_P  ∧ ∀ r : List (List Int), r = quoinref21_operators_F → K (.one (.fr 9 (.str) r)) []
def quoinref21_operators_S : App := specW quoinref21_operators_A quoinref21_operators_C
theorem quoinref21_operators_wv (K : Res → List Cell → Prop) : ∀ v : valsA quoinref21_operators_A, runF tb (getG quoinref21_operators_G) [] Tryd.f22 [true] (mkA quoinref21_operators_A v) K = quoinref21_operators_raw  K
  | () => quoinref21_operators_walk  K
set_option maxRecDepth 20000 in
theorem quoinref21_operators_ok : AppOk Tryd.prog 22 quoinref21_operators_S :=
  AppOk.specW (spec_ok (runF_ok tb_M tb_ok quoinref21_operators_Gok (LabsOk.nil) (f := 22) (fn := Tryd.f22) (by kernel_rfl) (by kernel_rfl) (by kernel_rfl) [true]) fun v K hw h => (quoinref21_operators_wv K v).mpr (quoinref21_operators_sp  K hw h.1 h.2))

end Go.VE
namespace Go.VE
open Go Go.Proofs
/-! ### quoin/quoinref21.times -/
def quoinref21_times_G : List (Nat × App) := []
theorem quoinref21_times_Gok : GOk Tryd.prog (getG quoinref21_times_G) := GOk.nil
def quoinref21_times_raw (a0 : Int) (b1 : Int) (K : Res → List Cell → Prop) : Prop :=
  bif (decide (a0 = (0 : Int))) then
    K (.one (.v (.int .i64) b1)) []
  else
  bif (decide (b1 = (0 : Int))) then
    K (.one (.v (.int .i64) a0)) []
  else
  bif (decide ((9999 : Int) < (IntKind.wrap .i64 (a0 * b1)))) then
    K (.one (.v (.int .i64) (9999 : Int))) []
  else
    K (.one (.v (.int .i64) (IntKind.wrap .i64 (a0 * b1)))) []
def quoinref21_times_A : List AS := [.v (.int .i64), .v (.int .i64)]
theorem quoinref21_times_walk (a0 : Int) (b1 : Int) (K : Res → List Cell → Prop) : runF tb (getG quoinref21_times_G) [] Tryd.f39 [true] (mkA quoinref21_times_A (a0, b1, ())) K = quoinref21_times_raw a0 b1 K := by kernel_rfl

def quoinref21_times_F (a0 : Int) (b1 : Int) : Int :=
  bif (decide (a0 = (0 : Int))) then
    b1
  else
    bif (decide (b1 = (0 : Int))) then
      a0
    else
      bif (decide ((9999 : Int) < (IntKind.wrap .i64 (a0 * b1)))) then
        (9999 : Int)
      else
        (IntKind.wrap .i64 (a0 * b1))
set_option maxRecDepth 20000 in
theorem quoinref21_times_sp (a0 : Int) (b1 : Int) (K : Res → List Cell → Prop) (_ : wfA quoinref21_times_A (a0, b1, ())) (h : ∀ r : Int, r = quoinref21_times_F a0 b1 → K (.one (.v (.int .i64) r)) []) : quoinref21_times_raw a0 b1 K := by
  unfold quoinref21_times_raw
  refine brb (fun c_1 => ?_) (fun c_1 => ?_)
  ·
    exact h _ ((ctrue c_1) : quoinref21_times_F a0 b1 = _).symm
  ·
    refine brb (fun c_2 => ?_) (fun c_2 => ?_)
    ·
      exact h _ ((Eq.trans (cfalse c_1) (ctrue c_2)) : quoinref21_times_F a0 b1 = _).symm
    ·
      refine brb (fun c_3 => ?_) (fun c_3 => ?_)
      ·
        exact h _ ((Eq.trans (cfalse c_1) (Eq.trans (cfalse c_2) (ctrue c_3))) : quoinref21_times_F a0 b1 = _).symm
      ·
        exact h _ ((Eq.trans (cfalse c_1) (Eq.trans (cfalse c_2) (cfalse c_3))) : quoinref21_times_F a0 b1 = _).symm
def quoinref21_times_C (v : valsA quoinref21_times_A) (K : Res → List Cell → Prop) : Prop := ∀ r : Int, r = quoinref21_times_F v.1 v.2.1 → K (.one (.v (.int .i64) r)) []
def quoinref21_times_S : App := specW quoinref21_times_A quoinref21_times_C
theorem quoinref21_times_wv (K : Res → List Cell → Prop) : ∀ v : valsA quoinref21_times_A, runF tb (getG quoinref21_times_G) [] Tryd.f39 [true] (mkA quoinref21_times_A v) K = quoinref21_times_raw v.1 v.2.1 K
  | (a0, b1, ()) => quoinref21_times_walk a0 b1 K
set_option maxRecDepth 20000 in
theorem quoinref21_times_ok : AppOk Tryd.prog 39 quoinref21_times_S :=
  AppOk.specW (spec_ok (runF_ok tb_M tb_ok quoinref21_times_Gok (LabsOk.nil) (f := 39) (fn := Tryd.f39) (by kernel_rfl) (by kernel_rfl) (by kernel_rfl) [true]) fun v K hw h => (quoinref21_times_wv K v).mpr (quoinref21_times_sp v.1 v.2.1 K hw h))

end Go.VE
namespace Go.VE
open Go Go.Proofs
/-! ### quoin/quoinref21.doubles -/
def quoinref21_doubles_G : List (Nat × App) := []
theorem quoinref21_doubles_Gok : GOk Tryd.prog (getG quoinref21_doubles_G) := GOk.nil
def quoinref21_doubles_raw (op0 : List Int) (K : Res → List Cell → Prop) : Prop :=
  bif (decide ((List.length op0 : Int) = (1 : Int))) then
    K (.one (.fr 9 (.str) ([op0] : List (List Int)))) []
  else
    bif decide (0 ≤ (1 : Int) ∧ (1 : Int) ≤ (List.length op0 : Int)) then
    K (.one (.fr 9 (.str) ([(List.drop (Int.toNat (1 : Int)) op0), op0] : List (List Int)))) []
    else False
def quoinref21_doubles_A : List AS := [.v (.str)]
theorem quoinref21_doubles_walk (op0 : List Int) (K : Res → List Cell → Prop) : runF tb (getG quoinref21_doubles_G) [] Tryd.f32 [true] (mkA quoinref21_doubles_A (op0, ())) K = quoinref21_doubles_raw op0 K := by kernel_rfl

def quoinref21_doubles_P (op0 : List Int) : Prop :=
  bif (decide ((List.length op0 : Int) = (1 : Int))) then
    True
  else
    (0 ≤ (1 : Int) ∧ (1 : Int) ≤ (List.length op0 : Int))
def quoinref21_doubles_F (op0 : List Int) : List (List Int) :=
  bif (decide ((List.length op0 : Int) = (1 : Int))) then
    ([op0] : List (List Int))
  else
    ([(List.drop (Int.toNat (1 : Int)) op0), op0] : List (List Int))
set_option maxRecDepth 20000 in
theorem quoinref21_doubles_sp (op0 : List Int) (K : Res → List Cell → Prop) (_ : wfA quoinref21_doubles_A (op0, ())) (hp : quoinref21_doubles_P op0) (h : ∀ r : List (List Int), r = quoinref21_doubles_F op0 → K (.one (.fr 9 (.str) r)) []) : quoinref21_doubles_raw op0 K := by
  unfold quoinref21_doubles_raw
  unfold quoinref21_doubles_P at hp
  refine brb (fun c_1 => ?_) (fun c_1 => ?_)
  ·
    clear hp
    exact h _ ((ctrue c_1) : quoinref21_doubles_F op0 = _).symm
  ·
    replace hp := cF c_1 hp
    refine asrt hp ?_
    exact h _ ((cfalse c_1) : quoinref21_doubles_F op0 = _).symm
def quoinref21_doubles_C (v : valsA quoinref21_doubles_A) (K : Res → List Cell → Prop) : Prop := quoinref21_doubles_P v.1 ∧ ∀ r : List (List Int), r = quoinref21_doubles_F v.1 → K (.one (.fr 9 (.str) r)) []
def quoinref21_doubles_S : App := specW quoinref21_doubles_A quoinref21_doubles_C
theorem quoinref21_doubles_wv (K : Res → List Cell → Prop) : ∀ v : valsA quoinref21_doubles_A, runF tb (getG quoinref21_doubles_G) [] Tryd.f32 [true] (mkA quoinref21_doubles_A v) K = quoinref21_doubles_raw v.1 K
  | (op0, ()) => quoinref21_doubles_walk op0 K
set_option maxRecDepth 20000 in
theorem quoinref21_doubles_ok : AppOk Tryd.prog 32 quoinref21_doubles_S :=
  AppOk.specW (spec_ok (runF_ok tb_M tb_ok quoinref21_doubles_Gok (LabsOk.nil) (f := 32) (fn := Tryd.f32) (by kernel_rfl) (by kernel_rfl) (by kernel_rfl) [true]) fun v K hw h => (quoinref21_doubles_wv K v).mpr (quoinref21_doubles_sp v.1 K hw h.1 h.2))

end Go.VE
namespace Go.VE
open Go Go.Proofs
/-! ### quoin/quoinref21.key -/
def quoinref21_key_G : List (Nat × App) := []
theorem quoinref21_key_Gok : GOk Tryd.prog (getG quoinref21_key_G) := GOk.nil
def quoinref21_key_raw (name0 : List Int) (K : Res → List Cell → Prop) : Prop :=
  bif (decide (name0 = ([127] : List Int))) then
    K (.one (.v (.str) ([8] : List Int))) []
  else
  bif (decide (name0 = ([10] : List Int))) then
    K (.one (.v (.str) ([13] : List Int))) []
  else
    K (.one (.v (.str) name0)) []
def quoinref21_key_A : List AS := [.v (.str)]
theorem quoinref21_key_walk (name0 : List Int) (K : Res → List Cell → Prop) : runF tb (getG quoinref21_key_G) [] Tryd.f41 [true] (mkA quoinref21_key_A (name0, ())) K = quoinref21_key_raw name0 K := by kernel_rfl

def quoinref21_key_F (name0 : List Int) : List Int :=
  bif (decide (name0 = ([127] : List Int))) then
    ([8] : List Int)
  else
    bif (decide (name0 = ([10] : List Int))) then
      ([13] : List Int)
    else
      name0
set_option maxRecDepth 20000 in
theorem quoinref21_key_sp (name0 : List Int) (K : Res → List Cell → Prop) (_ : wfA quoinref21_key_A (name0, ())) (h : ∀ r : List Int, r = quoinref21_key_F name0 → K (.one (.v (.str) r)) []) : quoinref21_key_raw name0 K := by
  unfold quoinref21_key_raw
  refine brb (fun c_1 => ?_) (fun c_1 => ?_)
  ·
    exact h _ ((ctrue c_1) : quoinref21_key_F name0 = _).symm
  ·
    refine brb (fun c_2 => ?_) (fun c_2 => ?_)
    ·
      exact h _ ((Eq.trans (cfalse c_1) (ctrue c_2)) : quoinref21_key_F name0 = _).symm
    ·
      exact h _ ((Eq.trans (cfalse c_1) (cfalse c_2)) : quoinref21_key_F name0 = _).symm
def quoinref21_key_C (v : valsA quoinref21_key_A) (K : Res → List Cell → Prop) : Prop := ∀ r : List Int, r = quoinref21_key_F v.1 → K (.one (.v (.str) r)) []
def quoinref21_key_S : App := specW quoinref21_key_A quoinref21_key_C
theorem quoinref21_key_wv (K : Res → List Cell → Prop) : ∀ v : valsA quoinref21_key_A, runF tb (getG quoinref21_key_G) [] Tryd.f41 [true] (mkA quoinref21_key_A v) K = quoinref21_key_raw v.1 K
  | (name0, ()) => quoinref21_key_walk name0 K
set_option maxRecDepth 20000 in
theorem quoinref21_key_ok : AppOk Tryd.prog 41 quoinref21_key_S :=
  AppOk.specW (spec_ok (runF_ok tb_M tb_ok quoinref21_key_Gok (LabsOk.nil) (f := 41) (fn := Tryd.f41) (by kernel_rfl) (by kernel_rfl) (by kernel_rfl) [true]) fun v K hw h => (quoinref21_key_wv K v).mpr (quoinref21_key_sp v.1 K hw h))

end Go.VE
namespace Go.VE
open Go Go.Proofs
/-! ### quoin/quoinref21.found -/
def quoinref21_found_G : List (Nat × App) := [(41, quoinref21_key_S)]
theorem quoinref21_found_Gok : GOk Tryd.prog (getG quoinref21_found_G) := GOk.cons quoinref21_key_ok (GOk.nil)
theorem quoinref21_found_st : storesC (bodyOf Tryd.f26) = true := by kernel_rfl
def quoinref21_found_d0 : List LS := [.v 0 (.str), .v 1 (.sl (.str)), .v 6 (.int .i64), .v 7 (.int .i64)]
def quoinref21_found_d0r : List LS := [.v 4 (.int .i64), .v 5 (.str)]
def quoinref21_found_d0x0 : List LS := [.v 6 (.int .i64)]
def quoinref21_found_dx0 : DX := ⟨none, some quoinref21_found_d0r, [(0, quoinref21_found_d0x0)]⟩
def quoinref21_found_T0 (Y : List Int → List (List Int) → Int → Int → Prop) (kr : Int → List Int → Prop) (kx0 : Int → Prop) (keys0 : List Int) (names1 : List (List Int)) (state6 : Int) (i7 : Int) : Prop :=
  bif (decide (i7 < (List.length names1 : Int))) then
    bif decide (0 ≤ i7 ∧ i7 < (List.length names1 : Int)) then
    bif (decide ((rd ([] : List Int) names1 i7) = keys0)) then
      bif decide (0 ≤ i7 ∧ i7 < (List.length names1 : Int)) then
      ∀ (r1 : List Int), r1 = quoinref21_key_F (rd ([] : List Int) names1 i7) → (
      wfR (.one (.v (.str) r1)) → (
      kr (2 : Int) r1))
      else False
    else
      bif decide (0 ≤ i7 ∧ i7 < (List.length names1 : Int)) then
      bif (decide ((List.length keys0 : Int) < (List.length (rd ([] : List Int) names1 i7) : Int))) then
        bif decide (0 ≤ i7 ∧ i7 < (List.length names1 : Int)) then
        bif decide (0 ≤ (List.length keys0 : Int) ∧ (List.length keys0 : Int) ≤ (List.length (rd ([] : List Int) names1 i7) : Int)) then
        bif (decide ((List.take (Int.toNat (List.length keys0 : Int)) (rd ([] : List Int) names1 i7)) = keys0)) then
          Y keys0 names1 (1 : Int) (IntKind.wrap .i64 (i7 + (1 : Int)))
        else
          Y keys0 names1 state6 (IntKind.wrap .i64 (i7 + (1 : Int)))
        else False
        else False
      else
        Y keys0 names1 state6 (IntKind.wrap .i64 (i7 + (1 : Int)))
      else False
    else False
  else
    kx0 state6
def quoinref21_found_L0 (kr : Int → List Int → Prop) (kx0 : Int → Prop) : Nat → List Int → List (List Int) → Int → Int → Prop
  | 0, _, _, _, _ => False
  | n + 1, keys0, names1, state6, i7 => wfD quoinref21_found_d0 (keys0, names1, state6, i7, ()) → quoinref21_found_T0 (quoinref21_found_L0 kr kx0 n) kr kx0 keys0 names1 state6 i7
theorem quoinref21_found_s0 (k : Ex → St → Prop) (Y : vals quoinref21_found_d0 → Prop) (keys0 : List Int) (names1 : List (List Int)) (state6 : Int) (i7 : Int) :
    ex tb (getG quoinref21_found_G) [] (at' (bodyOf Tryd.f26) [0, 0, 1, 0, 1, 1]) [0, 0, 1, 0, 1, 1] (mkD 45 quoinref21_found_d0 (keys0, names1, state6, i7, ())) (lpK 45 quoinref21_found_d0 quoinref21_found_dx0 k Y) =
    quoinref21_found_T0 (fun keys0 names1 state6 i7 => Y (keys0, names1, state6, i7, ())) (fun x4 x5 => wfD quoinref21_found_d0r (x4, x5, ()) → k .ret (mkD 45 quoinref21_found_d0r (x4, x5, ()))) (fun state6 => wfD quoinref21_found_d0x0 (state6, ()) → k (.exit 0) (mkD 45 quoinref21_found_d0x0 (state6, ()))) keys0 names1 state6 i7 := by kernel_rfl
theorem quoinref21_found_e0 (k : Ex → St → Prop) : ∀ (n : Nat) (keys0 : List Int) (names1 : List (List Int)) (state6 : Int) (i7 : Int), lpD 45 quoinref21_found_d0 quoinref21_found_dx0 (ex tb (getG quoinref21_found_G) [] (at' (bodyOf Tryd.f26) [0, 0, 1, 0, 1, 1]) [0, 0, 1, 0, 1, 1]) k n (keys0, names1, state6, i7, ()) = quoinref21_found_L0 (fun x4 x5 => wfD quoinref21_found_d0r (x4, x5, ()) → k .ret (mkD 45 quoinref21_found_d0r (x4, x5, ()))) (fun state6 => wfD quoinref21_found_d0x0 (state6, ()) → k (.exit 0) (mkD 45 quoinref21_found_d0x0 (state6, ()))) n keys0 names1 state6 i7
  | 0, _, _, _, _ => rfl
  | n + 1, keys0, names1, state6, i7 => congrArg (fun Z : Prop => wfD quoinref21_found_d0 (keys0, names1, state6, i7, ()) → Z) ((quoinref21_found_s0 k (lpD 45 quoinref21_found_d0 quoinref21_found_dx0 (ex tb (getG quoinref21_found_G) [] (at' (bodyOf Tryd.f26) [0, 0, 1, 0, 1, 1]) [0, 0, 1, 0, 1, 1]) k n) keys0 names1 state6 i7).trans (congrArg (fun Y => quoinref21_found_T0 Y (fun x4 x5 => wfD quoinref21_found_d0r (x4, x5, ()) → k .ret (mkD 45 quoinref21_found_d0r (x4, x5, ()))) (fun state6 => wfD quoinref21_found_d0x0 (state6, ()) → k (.exit 0) (mkD 45 quoinref21_found_d0x0 (state6, ()))) keys0 names1 state6 i7) (funext fun keys0 => funext fun names1 => funext fun state6 => funext fun i7 => quoinref21_found_e0 k n keys0 names1 state6 i7)))
theorem quoinref21_found_v0 (k : Ex → St → Prop) (n : Nat) : ∀ v : vals quoinref21_found_d0, lpD 45 quoinref21_found_d0 quoinref21_found_dx0 (ex tb (getG quoinref21_found_G) [] (at' (bodyOf Tryd.f26) [0, 0, 1, 0, 1, 1]) [0, 0, 1, 0, 1, 1]) k n v = quoinref21_found_L0 (fun x4 x5 => wfD quoinref21_found_d0r (x4, x5, ()) → k .ret (mkD 45 quoinref21_found_d0r (x4, x5, ()))) (fun state6 => wfD quoinref21_found_d0x0 (state6, ()) → k (.exit 0) (mkD 45 quoinref21_found_d0x0 (state6, ()))) n v.1 v.2.1 v.2.2.1 v.2.2.2.1
  | (keys0, names1, state6, i7, ()) => quoinref21_found_e0 k n keys0 names1 state6 i7
def quoinref21_found_X0 : Pce := fun st k => ckD 45 quoinref21_found_d0 st fun v => wfD quoinref21_found_d0 v → ∃ n, quoinref21_found_L0 (fun x4 x5 => wfD quoinref21_found_d0r (x4, x5, ()) → k .ret (mkD 45 quoinref21_found_d0r (x4, x5, ()))) (fun state6 => wfD quoinref21_found_d0x0 (state6, ()) → k (.exit 0) (mkD 45 quoinref21_found_d0x0 (state6, ()))) n v.1 v.2.1 v.2.2.1 v.2.2.2.1
set_option maxRecDepth 20000 in
theorem quoinref21_found_x0 : SemOk Tryd.prog (at' (bodyOf Tryd.f26) [0, 1, 0, 1, 1]) quoinref21_found_X0 :=
  (SemOk.loop (ex_sound tb_M tb_ok quoinref21_found_Gok (LabsOk.nil) (at' (bodyOf Tryd.f26) [0, 0, 1, 0, 1, 1]) [0, 0, 1, 0, 1, 1] rfl (storesC_at quoinref21_found_st [0, 0, 1, 0, 1, 1])) 45 quoinref21_found_d0 quoinref21_found_dx0).mono fun st k h => ckD_mono h fun v hv hw => (hv hw).elim fun n hn => ⟨n, Eq.mpr (quoinref21_found_v0 k n v) hn⟩
def quoinref21_found_B0 : Labs := ([0, 1, 0, 1, 1], quoinref21_found_X0) :: []
theorem quoinref21_found_b0 : LabsOk Tryd.prog (bodyOf Tryd.f26) quoinref21_found_B0 := LabsOk.cons quoinref21_found_x0 (LabsOk.nil)
def quoinref21_found_raw (keys0 : List Int) (names1 : List (List Int)) (K : Res → List Cell → Prop) : Prop :=
  (wfD quoinref21_found_d0 (keys0, names1, (0 : Int), (0 : Int), ()) → ∃ n, quoinref21_found_L0 (fun (x4 : Int) (x5 : List Int) => wfD quoinref21_found_d0r (x4, x5, ()) → (
      K (.tup [.v (.int .i64) x4, .v (.str) x5]) [])) (fun (state6 : Int) => wfD quoinref21_found_d0x0 (state6, ()) → (
      K (.tup [.v (.int .i64) state6, .v (.str) ([] : List Int)]) [])) n keys0 names1 (0 : Int) (0 : Int))
def quoinref21_found_A : List AS := [.v (.str), .v (.sl (.str))]
theorem quoinref21_found_walk (keys0 : List Int) (names1 : List (List Int)) (K : Res → List Cell → Prop) : runF tb (getG quoinref21_found_G) quoinref21_found_B0 Tryd.f26 [true, true] (mkA quoinref21_found_A (keys0, names1, ())) K = quoinref21_found_raw keys0 names1 K := by kernel_rfl
--! pre 0
/-- what keys are among names -/
def foundL (keys : List Int) : Int → List (List Int) → Int × List Int
  | st, [] => (st, [])
  | st, n :: r => if n = keys then (2, quoinref21_key_F n) else foundL keys (if keys.length < n.length ∧ n.take keys.length = keys then 1 else st) r
def quoinref21_found_F (keys : List Int) (names : List (List Int)) : Int × List Int := foundL keys 0 names
theorem quoinref21_found_l0 (kr : Int → List Int → Prop) (kx0 : Int → Prop) (keys : List Int) (names : List (List Int)) (hl : names.length ≤ 9223372036854775807) : ∀ (m i : Nat) (st : Int), i ≤ names.length → names.length - i < m → (st = 0 ∨ st = 1) →
    (∀ k, foundL keys st (names.drop i) = (2, k) → kr 2 k) → (∀ s : Int, s ≠ 2 → foundL keys st (names.drop i) = (s, []) → kx0 s) → quoinref21_found_L0 kr kx0 m keys names st (i : Int)
  | 0, _, _, _, h, _, _, _ => absurd h (Nat.not_lt_zero _)
  | m + 1, i, st, hi, hm, hst, h2, h0 => by
    intro _
    unfold quoinref21_found_T0
    refine brn (fun hlt => asrt (by omega) ?_) (fun hge => ?_)
    · have hil : i < names.length := by omega
      rw [rd_nat [] names i hil, wrap_i64 (n := (i : Int) + 1) (by omega) (by omega), show (i : Int) + 1 = ((i + 1 : Nat) : Int) by omega]
      have hd : names.drop i = names[i] :: names.drop (i + 1) := List.drop_eq_getElem_cons hil
      rw [hd] at h2 h0
      unfold foundL at h2 h0
      refine brn (fun he => asrt (by omega) fun r hr _ => ?_) (fun hne => asrt (by omega) ?_)
      · rw [if_pos he] at h2
        exact h2 r (by rw [hr])
      · rw [if_neg hne] at h2 h0
        have tk : Int.toNat (List.length keys : Int) = keys.length := by omega
        rw [tk]
        refine brn (fun hlt2 => asrt (by omega) (asrt (by omega) (brn (fun ht => ?_) (fun ht => ?_)))) (fun hge2 => ?_)
        · rw [if_pos ⟨by omega, ht⟩] at h2 h0
          exact quoinref21_found_l0 kr kx0 keys names hl m (i + 1) 1 (by omega) (by omega) (.inr rfl) h2 h0
        · rw [if_neg (fun hh => ht hh.2)] at h2 h0
          exact quoinref21_found_l0 kr kx0 keys names hl m (i + 1) st (by omega) (by omega) hst h2 h0
        · rw [if_neg (fun hh => hge2 (by omega))] at h2 h0
          exact quoinref21_found_l0 kr kx0 keys names hl m (i + 1) st (by omega) (by omega) hst h2 h0
    · have : i = names.length := by omega
      subst this
      refine h0 st (by omega) ?_
      simp [foundL]
theorem quoinref21_found_sp (keys0 : List Int) (names1 : List (List Int)) (K : Res → List Cell → Prop) (hw : wfA quoinref21_found_A (keys0, names1, ())) (h : ∀ r : Int × List Int, r = quoinref21_found_F keys0 names1 → K (.tup [.v (.int .i64) r.1, .v .str r.2]) []) : quoinref21_found_raw keys0 names1 K := by
  have hl : names1.length ≤ 9223372036854775807 := Nat.le_trans hw.2.1.1 (by decide)
  unfold quoinref21_found_raw
  intro _
  refine ⟨names1.length + 1, quoinref21_found_l0 _ _ keys0 names1 hl (names1.length + 1) 0 0 (Nat.zero_le _) (by omega) (.inl rfl) (fun k hk _ => h (2, k) ?_) (fun s hs hk _ => h (s, []) ?_)⟩
  · unfold quoinref21_found_F; rw [← hk]; rfl
  · unfold quoinref21_found_F; rw [← hk]; rfl

def quoinref21_found_C (v : valsA quoinref21_found_A) (K : Res → List Cell → Prop) : Prop := ∀ r : Int × List Int, r = quoinref21_found_F v.1 v.2.1 → K (.tup [.v (.int .i64) r.1, .v (.str) r.2]) []
def quoinref21_found_S : App := specW quoinref21_found_A quoinref21_found_C
theorem quoinref21_found_wv (K : Res → List Cell → Prop) : ∀ v : valsA quoinref21_found_A, runF tb (getG quoinref21_found_G) quoinref21_found_B0 Tryd.f26 [true, true] (mkA quoinref21_found_A v) K = quoinref21_found_raw v.1 v.2.1 K
  | (keys0, names1, ()) => quoinref21_found_walk keys0 names1 K
set_option maxRecDepth 20000 in
theorem quoinref21_found_ok : AppOk Tryd.prog 26 quoinref21_found_S :=
  AppOk.specW (spec_ok (runF_ok tb_M tb_ok quoinref21_found_Gok (quoinref21_found_b0) (f := 26) (fn := Tryd.f26) (by kernel_rfl) (by kernel_rfl) quoinref21_found_st [true, true]) fun v K hw h => (quoinref21_found_wv K v).mpr (quoinref21_found_sp v.1 v.2.1 K hw h))

end Go.VE
namespace Go.VE
open Go Go.Proofs
/-! ### quoin/quoinref21.objects -/
def quoinref21_objects_G : List (Nat × App) := [(38, quoinref21_words_S)]
theorem quoinref21_objects_Gok : GOk Tryd.prog (getG quoinref21_objects_G) := GOk.cons quoinref21_words_ok (GOk.nil)
theorem quoinref21_objects_st : storesC (bodyOf Tryd.f40) = true := by kernel_rfl
def quoinref21_objects_d0 : List LS := [.o 1 13 9 (.str), .o 2 21 9 (.str), .v 3 (.int .i64)]
def quoinref21_objects_d0x0 : List LS := [.o 1 13 9 (.str)]
def quoinref21_objects_dx0 : DX := ⟨none, none, [(0, quoinref21_objects_d0x0)]⟩
def quoinref21_objects_T0 (Y : List (List Int) → List (List Int) → Int → Prop) (kx0 : List (List Int) → Prop) (out1 : List (List Int)) (keys2 : List (List Int)) (i3 : Int) : Prop :=
  bif (decide (i3 < (List.length keys2 : Int))) then
    (
      bif decide (0 ≤ i3 ∧ i3 < (List.length keys2 : Int)) then
      (
        bif decide (List.length ([105] : List Int) + List.length (rd ([] : List Int) keys2 i3) ≤ lim) then
        bif decide (0 ≤ i3 ∧ i3 < (List.length keys2 : Int)) then
        bif decide (List.length ([97] : List Int) + List.length (rd ([] : List Int) keys2 i3) ≤ lim) then
        bif decide (List.length out1 + List.length ([(([105] : List Int) ++ (rd ([] : List Int) keys2 i3)), (([97] : List Int) ++ (rd ([] : List Int) keys2 i3))] : List (List Int)) ≤ lim) then
        Y (out1 ++ ([(([105] : List Int) ++ (rd ([] : List Int) keys2 i3)), (([97] : List Int) ++ (rd ([] : List Int) keys2 i3))] : List (List Int))) keys2 (IntKind.wrap .i64 (i3 + (1 : Int)))
        else False
        else False
        else False
        else False) ∧ (
        bif decide (0 ≤ i3 ∧ i3 < (List.length keys2 : Int)) then
        (
          bif decide (List.length ([105] : List Int) + List.length (rd ([] : List Int) keys2 i3) ≤ lim) then
          bif decide (List.length ([97] : List Int) + List.length (rd ([] : List Int) keys2 i3) ≤ lim) then
          bif decide (List.length out1 + List.length ([(([105] : List Int) ++ (rd ([] : List Int) keys2 i3)), (([97] : List Int) ++ (rd ([] : List Int) keys2 i3))] : List (List Int)) ≤ lim) then
          Y (out1 ++ ([(([105] : List Int) ++ (rd ([] : List Int) keys2 i3)), (([97] : List Int) ++ (rd ([] : List Int) keys2 i3))] : List (List Int))) keys2 (IntKind.wrap .i64 (i3 + (1 : Int)))
          else False
          else False
          else False) ∧ (
          bif decide (List.length ([97] : List Int) + List.length (rd ([] : List Int) keys2 i3) ≤ lim) then
          bif decide (List.length ([105] : List Int) + List.length (rd ([] : List Int) keys2 i3) ≤ lim) then
          bif decide (List.length out1 + List.length ([(([105] : List Int) ++ (rd ([] : List Int) keys2 i3)), (([97] : List Int) ++ (rd ([] : List Int) keys2 i3))] : List (List Int)) ≤ lim) then
          Y (out1 ++ ([(([105] : List Int) ++ (rd ([] : List Int) keys2 i3)), (([97] : List Int) ++ (rd ([] : List Int) keys2 i3))] : List (List Int))) keys2 (IntKind.wrap .i64 (i3 + (1 : Int)))
          else False
          else False
          else False) ∧ True
        else False) ∧ True
      else False) ∧ (
      bif decide (0 ≤ i3 ∧ i3 < (List.length keys2 : Int)) then
      (
        bif decide (0 ≤ i3 ∧ i3 < (List.length keys2 : Int)) then
        (
          bif decide (List.length ([105] : List Int) + List.length (rd ([] : List Int) keys2 i3) ≤ lim) then
          bif decide (List.length ([97] : List Int) + List.length (rd ([] : List Int) keys2 i3) ≤ lim) then
          bif decide (List.length out1 + List.length ([(([105] : List Int) ++ (rd ([] : List Int) keys2 i3)), (([97] : List Int) ++ (rd ([] : List Int) keys2 i3))] : List (List Int)) ≤ lim) then
          Y (out1 ++ ([(([105] : List Int) ++ (rd ([] : List Int) keys2 i3)), (([97] : List Int) ++ (rd ([] : List Int) keys2 i3))] : List (List Int))) keys2 (IntKind.wrap .i64 (i3 + (1 : Int)))
          else False
          else False
          else False) ∧ (
          bif decide (List.length ([97] : List Int) + List.length (rd ([] : List Int) keys2 i3) ≤ lim) then
          bif decide (List.length ([105] : List Int) + List.length (rd ([] : List Int) keys2 i3) ≤ lim) then
          bif decide (List.length out1 + List.length ([(([105] : List Int) ++ (rd ([] : List Int) keys2 i3)), (([97] : List Int) ++ (rd ([] : List Int) keys2 i3))] : List (List Int)) ≤ lim) then
          Y (out1 ++ ([(([105] : List Int) ++ (rd ([] : List Int) keys2 i3)), (([97] : List Int) ++ (rd ([] : List Int) keys2 i3))] : List (List Int))) keys2 (IntKind.wrap .i64 (i3 + (1 : Int)))
          else False
          else False
          else False) ∧ True
        else False) ∧ (
        bif decide (List.length ([97] : List Int) + List.length (rd ([] : List Int) keys2 i3) ≤ lim) then
        bif decide (0 ≤ i3 ∧ i3 < (List.length keys2 : Int)) then
        bif decide (List.length ([105] : List Int) + List.length (rd ([] : List Int) keys2 i3) ≤ lim) then
        bif decide (List.length out1 + List.length ([(([105] : List Int) ++ (rd ([] : List Int) keys2 i3)), (([97] : List Int) ++ (rd ([] : List Int) keys2 i3))] : List (List Int)) ≤ lim) then
        Y (out1 ++ ([(([105] : List Int) ++ (rd ([] : List Int) keys2 i3)), (([97] : List Int) ++ (rd ([] : List Int) keys2 i3))] : List (List Int))) keys2 (IntKind.wrap .i64 (i3 + (1 : Int)))
        else False
        else False
        else False
        else False) ∧ True
      else False) ∧ True
  else
    kx0 out1
def quoinref21_objects_L0 (kx0 : List (List Int) → Prop) : Nat → List (List Int) → List (List Int) → Int → Prop
  | 0, _, _, _ => False
  | n + 1, out1, keys2, i3 => wfD quoinref21_objects_d0 (out1, keys2, i3, ()) → quoinref21_objects_T0 (quoinref21_objects_L0 kx0 n) kx0 out1 keys2 i3
theorem quoinref21_objects_s0 (k : Ex → St → Prop) (Y : vals quoinref21_objects_d0 → Prop) (out1 : List (List Int)) (keys2 : List (List Int)) (i3 : Int) :
    ex tb (getG quoinref21_objects_G) [] (at' (bodyOf Tryd.f40) [0, 0, 1, 0, 1, 1, 1]) [0, 0, 1, 0, 1, 1, 1] (mkD 27 quoinref21_objects_d0 (out1, keys2, i3, ())) (lpK 27 quoinref21_objects_d0 quoinref21_objects_dx0 k Y) =
    quoinref21_objects_T0 (fun out1 keys2 i3 => Y (out1, keys2, i3, ())) (fun out1 => wfD quoinref21_objects_d0x0 (out1, ()) → k (.exit 0) (mkD 27 quoinref21_objects_d0x0 (out1, ()))) out1 keys2 i3 := by kernel_rfl
theorem quoinref21_objects_e0 (k : Ex → St → Prop) : ∀ (n : Nat) (out1 : List (List Int)) (keys2 : List (List Int)) (i3 : Int), lpD 27 quoinref21_objects_d0 quoinref21_objects_dx0 (ex tb (getG quoinref21_objects_G) [] (at' (bodyOf Tryd.f40) [0, 0, 1, 0, 1, 1, 1]) [0, 0, 1, 0, 1, 1, 1]) k n (out1, keys2, i3, ()) = quoinref21_objects_L0 (fun out1 => wfD quoinref21_objects_d0x0 (out1, ()) → k (.exit 0) (mkD 27 quoinref21_objects_d0x0 (out1, ()))) n out1 keys2 i3
  | 0, _, _, _ => rfl
  | n + 1, out1, keys2, i3 => congrArg (fun Z : Prop => wfD quoinref21_objects_d0 (out1, keys2, i3, ()) → Z) ((quoinref21_objects_s0 k (lpD 27 quoinref21_objects_d0 quoinref21_objects_dx0 (ex tb (getG quoinref21_objects_G) [] (at' (bodyOf Tryd.f40) [0, 0, 1, 0, 1, 1, 1]) [0, 0, 1, 0, 1, 1, 1]) k n) out1 keys2 i3).trans (congrArg (fun Y => quoinref21_objects_T0 Y (fun out1 => wfD quoinref21_objects_d0x0 (out1, ()) → k (.exit 0) (mkD 27 quoinref21_objects_d0x0 (out1, ()))) out1 keys2 i3) (funext fun out1 => funext fun keys2 => funext fun i3 => quoinref21_objects_e0 k n out1 keys2 i3)))
theorem quoinref21_objects_v0 (k : Ex → St → Prop) (n : Nat) : ∀ v : vals quoinref21_objects_d0, lpD 27 quoinref21_objects_d0 quoinref21_objects_dx0 (ex tb (getG quoinref21_objects_G) [] (at' (bodyOf Tryd.f40) [0, 0, 1, 0, 1, 1, 1]) [0, 0, 1, 0, 1, 1, 1]) k n v = quoinref21_objects_L0 (fun out1 => wfD quoinref21_objects_d0x0 (out1, ()) → k (.exit 0) (mkD 27 quoinref21_objects_d0x0 (out1, ()))) n v.1 v.2.1 v.2.2.1
  | (out1, keys2, i3, ()) => quoinref21_objects_e0 k n out1 keys2 i3
def quoinref21_objects_X0 : Pce := fun st k => ckD 27 quoinref21_objects_d0 st fun v => wfD quoinref21_objects_d0 v → ∃ n, quoinref21_objects_L0 (fun out1 => wfD quoinref21_objects_d0x0 (out1, ()) → k (.exit 0) (mkD 27 quoinref21_objects_d0x0 (out1, ()))) n v.1 v.2.1 v.2.2.1
set_option maxRecDepth 20000 in
theorem quoinref21_objects_x0 : SemOk Tryd.prog (at' (bodyOf Tryd.f40) [0, 1, 0, 1, 1, 1]) quoinref21_objects_X0 :=
  (SemOk.loop (ex_sound tb_M tb_ok quoinref21_objects_Gok (LabsOk.nil) (at' (bodyOf Tryd.f40) [0, 0, 1, 0, 1, 1, 1]) [0, 0, 1, 0, 1, 1, 1] rfl (storesC_at quoinref21_objects_st [0, 0, 1, 0, 1, 1, 1])) 27 quoinref21_objects_d0 quoinref21_objects_dx0).mono fun st k h => ckD_mono h fun v hv hw => (hv hw).elim fun n hn => ⟨n, Eq.mpr (quoinref21_objects_v0 k n v) hn⟩
def quoinref21_objects_B0 : Labs := ([0, 1, 0, 1, 1, 1], quoinref21_objects_X0) :: []
theorem quoinref21_objects_b0 : LabsOk Tryd.prog (bodyOf Tryd.f40) quoinref21_objects_B0 := LabsOk.cons quoinref21_objects_x0 (LabsOk.nil)
def quoinref21_objects_raw  (K : Res → List Cell → Prop) : Prop :=
  quoinref21_words_P ([119, 32, 87, 32, 112, 32, 40, 32, 41, 32, 98, 32, 123, 32, 125, 32, 66, 32, 91, 32, 93, 32, 34, 32, 39] : List Int) ∧ (
  ∀ (r1 : List (List Int)), r1 = quoinref21_words_F ([119, 32, 87, 32, 112, 32, 40, 32, 41, 32, 98, 32, 123, 32, 125, 32, 66, 32, 91, 32, 93, 32, 34, 32, 39] : List Int) → (
  wfR (.one (.fr 9 (.str) r1)) → (
  bif decide (List.length r1 + List.length ([([96] : List Int)] : List (List Int)) ≤ lim) then
  (wfD quoinref21_objects_d0 (([] : List (List Int)), (r1 ++ ([([96] : List Int)] : List (List Int))), (0 : Int), ()) → ∃ n, quoinref21_objects_L0 (fun (out1 : List (List Int)) => wfD quoinref21_objects_d0x0 (out1, ()) → (
      K (.one (.fr 9 (.str) out1)) [])) n ([] : List (List Int)) (r1 ++ ([([96] : List Int)] : List (List Int))) (0 : Int))
  else False)))
def quoinref21_objects_A : List AS := []
theorem quoinref21_objects_walk  (K : Res → List Cell → Prop) : runF tb (getG quoinref21_objects_G) quoinref21_objects_B0 Tryd.f40 [true] (mkA quoinref21_objects_A ()) K = quoinref21_objects_raw  K := by kernel_rfl
/-- each key behind i and behind a -/
def objL : List (List Int) → List (List Int)
  | [] => []
  | k :: r => ([105] ++ k) :: ([97] ++ k) :: objL r
def quoinref21_objects_L0_P (out keys : List (List Int)) (i : Int) : Prop := i = 0 ∧ out = [] ∧ keys.length ≤ 1000 ∧ ∀ k ∈ keys, k.length ≤ 1000
def quoinref21_objects_L0_F (_ keys : List (List Int)) (_ : Int) : List (List Int) := objL keys
theorem quoinref21_objects_l0 (kx0 : List (List Int) → Prop) (keys : List (List Int)) (hk : keys.length ≤ 1000) (hk2 : ∀ k ∈ keys, k.length ≤ 1000) : ∀ (m i : Nat) (out : List (List Int)), i ≤ keys.length → keys.length - i < m → out.length ≤ 2 * i →
    kx0 (out ++ objL (keys.drop i)) → quoinref21_objects_L0 kx0 m out keys (i : Int)
  | 0, _, _, _, h, _, _ => absurd h (Nat.not_lt_zero _)
  | m + 1, i, out, hi, hm, ho, h => by
    intro _
    unfold quoinref21_objects_T0
    refine brn (fun hlt => ?_) (fun hge => ?_)
    · have hil : i < keys.length := by omega
      have hd : keys.drop i = keys[i] :: keys.drop (i + 1) := List.drop_eq_getElem_cons hil
      rw [rd_nat [] keys i hil, wrap_i64 (n := (i : Int) + 1) (by omega) (by omega), show (i : Int) + 1 = ((i + 1 : Nat) : Int) by omega]
      have hkl := hk2 keys[i] (List.getElem_mem hil)
      have A1 : 0 ≤ (i : Int) ∧ (i : Int) < (List.length keys : Int) := ⟨by omega, by omega⟩
      have A2 : List.length ([105] : List Int) + List.length keys[i] ≤ lim := by simp only [List.length_cons, List.length_nil, lim]; omega
      have A3 : List.length ([97] : List Int) + List.length keys[i] ≤ lim := by simp only [List.length_cons, List.length_nil, lim]; omega
      have A4 : List.length out + List.length ([(([105] : List Int) ++ keys[i]), (([97] : List Int) ++ keys[i])] : List (List Int)) ≤ lim := by simp only [List.length_cons, List.length_nil, lim]; omega
      have leaf : quoinref21_objects_L0 kx0 m (out ++ ([(([105] : List Int) ++ keys[i]), (([97] : List Int) ++ keys[i])] : List (List Int))) keys ((i + 1 : Nat) : Int) := by
        refine quoinref21_objects_l0 kx0 keys hk hk2 m (i + 1) _ (by omega) (by omega) (by simp only [List.length_append, List.length_cons, List.length_nil]; omega) ?_
        rw [hd] at h
        rw [List.append_assoc]
        exact h
      repeat' (first | exact leaf | exact trivial | refine asrt A1 ?_ | refine asrt A2 ?_ | refine asrt A3 ?_ | refine asrt A4 ?_ | refine ⟨?_, ?_⟩)
    · have : i = keys.length := by omega
      subst this
      simpa [objL] using h
theorem quoinref21_objects_L0_sp (kx0 : List (List Int) → Prop) (out1 keys2 : List (List Int)) (i3 : Int) (hp : quoinref21_objects_L0_P out1 keys2 i3) (h : ∀ q : List (List Int), q = quoinref21_objects_L0_F out1 keys2 i3 → kx0 q) : ∃ n, quoinref21_objects_L0 kx0 n out1 keys2 i3 := by
  obtain ⟨rfl, rfl, h1, h2⟩ := hp
  exact ⟨keys2.length + 1, quoinref21_objects_l0 kx0 keys2 h1 h2 (keys2.length + 1) 0 [] (Nat.zero_le _) (by omega) (by simp) (h _ rfl)⟩

def quoinref21_objects_P  : Prop :=
  quoinref21_words_P ([119, 32, 87, 32, 112, 32, 40, 32, 41, 32, 98, 32, 123, 32, 125, 32, 66, 32, 91, 32, 93, 32, 34, 32, 39] : List Int) ∧ (
  let r1 : List (List Int) := quoinref21_words_F ([119, 32, 87, 32, 112, 32, 40, 32, 41, 32, 98, 32, 123, 32, 125, 32, 66, 32, 91, 32, 93, 32, 34, 32, 39] : List Int)
  (List.length r1 + List.length ([([96] : List Int)] : List (List Int)) ≤ lim) ∧ (
  quoinref21_objects_L0_P ([] : List (List Int)) (r1 ++ ([([96] : List Int)] : List (List Int))) (0 : Int)))
def quoinref21_objects_F  : List (List Int) :=
  let r1 : List (List Int) := quoinref21_words_F ([119, 32, 87, 32, 112, 32, 40, 32, 41, 32, 98, 32, 123, 32, 125, 32, 66, 32, 91, 32, 93, 32, 34, 32, 39] : List Int)
  let q0x0 : List (List Int) := quoinref21_objects_L0_F ([] : List (List Int)) (r1 ++ ([([96] : List Int)] : List (List Int))) (0 : Int)
  let out1 : List (List Int) := q0x0
  out1
set_option maxRecDepth 20000 in
theorem quoinref21_objects_sp  (K : Res → List Cell → Prop) (_ : wfA quoinref21_objects_A ()) (hp : quoinref21_objects_P ) (h : ∀ r : List (List Int), r = quoinref21_objects_F  → K (.one (.fr 9 (.str) r)) []) : quoinref21_objects_raw  K := by
  unfold quoinref21_objects_raw
  unfold quoinref21_objects_P at hp
  refine ⟨hp.1, ?_⟩
  replace hp := hp.2
  intro r1 hr1
  subst hr1
  intro _
  refine asrt hp.1 ?_
  replace hp := hp.2
  refine fun _ => quoinref21_objects_L0_sp _ _ _ _ hp (fun q hq => ?_)
  subst hq
  intro _
  clear hp
  exact h _ rfl
def quoinref21_objects_C (v : valsA quoinref21_objects_A) (K : Res → List Cell → Prop) : Prop := quoinref21_objects_P  ∧ ∀ r : List (List Int), r = quoinref21_objects_F → K (.one (.fr 9 (.str) r)) []
def quoinref21_objects_S : App := specW quoinref21_objects_A quoinref21_objects_C
theorem quoinref21_objects_wv (K : Res → List Cell → Prop) : ∀ v : valsA quoinref21_objects_A, runF tb (getG quoinref21_objects_G) quoinref21_objects_B0 Tryd.f40 [true] (mkA quoinref21_objects_A v) K = quoinref21_objects_raw  K
  | () => quoinref21_objects_walk  K
set_option maxRecDepth 20000 in
theorem quoinref21_objects_ok : AppOk Tryd.prog 40 quoinref21_objects_S :=
  AppOk.specW (spec_ok (runF_ok tb_M tb_ok quoinref21_objects_Gok (quoinref21_objects_b0) (f := 40) (fn := Tryd.f40) (by kernel_rfl) (by kernel_rfl) quoinref21_objects_st [true]) fun v K hw h => (quoinref21_objects_wv K v).mpr (quoinref21_objects_sp  K hw h.1 h.2))

end Go.VE
namespace Go.VE
open Go Go.Proofs
/-! ### quoin/quoinref21.known -/
def quoinref21_known_G : List (Nat × App) := [(26, quoinref21_found_S)]
theorem quoinref21_known_Gok : GOk Tryd.prog (getG quoinref21_known_G) := GOk.cons quoinref21_found_ok (GOk.nil)
theorem quoinref21_known_st : storesC (bodyOf Tryd.f25) = true := by kernel_rfl
def quoinref21_known_d0 : List LS := [.v 9 (.int .i64), .v 10 (.str), .v 11 (.int .i64)]
def quoinref21_known_d0r : List LS := [.v 6 (.int .i64), .v 7 (.str), .v 8 (.int .u8)]
def quoinref21_known_dx0 : DX := ⟨none, some quoinref21_known_d0r, []⟩
def quoinref21_known_J0 (kr : Int → List Int → Int → Prop) (state9 : Int) (k10 : List Int) (other11 : Int) : Prop :=
  bif (decide (state9 < other11)) then
    kr other11 k10 (0 : Int)
  else
    kr state9 k10 (0 : Int)
theorem quoinref21_known_s0 (k : Ex → St → Prop) (state9 : Int) (k10 : List Int) (other11 : Int) :
    ex tb (getG quoinref21_known_G) [] (at' (bodyOf Tryd.f25) [1, 1, 1, 1, 1, 1, 1]) [1, 1, 1, 1, 1, 1, 1] (mkD 65 quoinref21_known_d0 (state9, k10, other11, ())) (wk 65 quoinref21_known_dx0 k) =
    quoinref21_known_J0 (fun x6 x7 x8 => wfD quoinref21_known_d0r (x6, x7, x8, ()) → k .ret (mkD 65 quoinref21_known_d0r (x6, x7, x8, ()))) state9 k10 other11 := by kernel_rfl
theorem quoinref21_known_v0 (k : Ex → St → Prop) : ∀ v : vals quoinref21_known_d0, ex tb (getG quoinref21_known_G) [] (at' (bodyOf Tryd.f25) [1, 1, 1, 1, 1, 1, 1]) [1, 1, 1, 1, 1, 1, 1] (mkD 65 quoinref21_known_d0 v) (wk 65 quoinref21_known_dx0 k) = quoinref21_known_J0 (fun x6 x7 x8 => wfD quoinref21_known_d0r (x6, x7, x8, ()) → k .ret (mkD 65 quoinref21_known_d0r (x6, x7, x8, ()))) v.1 v.2.1 v.2.2.1
  | (state9, k10, other11, ()) => quoinref21_known_s0 k state9 k10 other11
def quoinref21_known_X0 : Pce := fun st k => ckD 65 quoinref21_known_d0 st fun v => wfD quoinref21_known_d0 v → quoinref21_known_J0 (fun x6 x7 x8 => wfD quoinref21_known_d0r (x6, x7, x8, ()) → k .ret (mkD 65 quoinref21_known_d0r (x6, x7, x8, ()))) v.1 v.2.1 v.2.2.1
set_option maxRecDepth 20000 in
theorem quoinref21_known_x0 : SemOk Tryd.prog (at' (bodyOf Tryd.f25) [1, 1, 1, 1, 1, 1, 1]) quoinref21_known_X0 :=
  (SemOk.wk (N := 65) (ds := quoinref21_known_d0) (dx := quoinref21_known_dx0) (ex_sound tb_M tb_ok quoinref21_known_Gok (LabsOk.nil) (at' (bodyOf Tryd.f25) [1, 1, 1, 1, 1, 1, 1]) [1, 1, 1, 1, 1, 1, 1] rfl (storesC_at quoinref21_known_st [1, 1, 1, 1, 1, 1, 1]))).mono fun st k h => ckD_mono h fun v hv hw => Eq.mpr (quoinref21_known_v0 k v) (hv hw)
def quoinref21_known_B0 : Labs := ([1, 1, 1, 1, 1, 1, 1], quoinref21_known_X0) :: []
theorem quoinref21_known_b0 : LabsOk Tryd.prog (bodyOf Tryd.f25) quoinref21_known_B0 := LabsOk.cons quoinref21_known_x0 (LabsOk.nil)
def quoinref21_known_raw (keys0 : List Int) (bare1 : List (List Int)) (with2 : List (List Int)) (K : Res → List Cell → Prop) : Prop :=
  ∀ (r1 : Int × List Int), r1 = quoinref21_found_F keys0 bare1 → (
  wfR (.tup [.v (.int .i64) r1.1, .v (.str) r1.2]) → (
  bif (decide (r1.1 = (2 : Int))) then
    K (.tup [.v (.int .i64) (2 : Int), .v (.str) r1.2, .v (.int .u8) (0 : Int)]) []
  else
    ∀ (r2 : Int × List Int), r2 = quoinref21_found_F keys0 with2 → (
    wfR (.tup [.v (.int .i64) r2.1, .v (.str) r2.2]) → (
    bif (decide (r2.1 = (2 : Int))) then
      K (.tup [.v (.int .i64) (1 : Int), .v (.str) ([] : List Int), .v (.int .u8) (0 : Int)]) []
    else
    bif (decide ((0 : Int) < (List.length keys0 : Int))) then
      bif decide (0 ≤ (IntKind.wrap .i64 ((List.length keys0 : Int) - (1 : Int))) ∧ (IntKind.wrap .i64 ((List.length keys0 : Int) - (1 : Int))) < (List.length keys0 : Int)) then
      bif (!decide ((rd (0 : Int) keys0 (IntKind.wrap .i64 ((List.length keys0 : Int) - (1 : Int)))) = (27 : Int))) then
        bif decide (0 ≤ (IntKind.wrap .i64 ((List.length keys0 : Int) - (1 : Int))) ∧ (IntKind.wrap .i64 ((List.length keys0 : Int) - (1 : Int))) ≤ (List.length keys0 : Int)) then
        ∀ (r3 : Int × List Int), r3 = quoinref21_found_F (List.take (Int.toNat (IntKind.wrap .i64 ((List.length keys0 : Int) - (1 : Int)))) keys0) with2 → (
        wfR (.tup [.v (.int .i64) r3.1, .v (.str) r3.2]) → (
        bif (decide (r3.1 = (2 : Int))) then
          bif decide (0 ≤ (IntKind.wrap .i64 ((List.length keys0 : Int) - (1 : Int))) ∧ (IntKind.wrap .i64 ((List.length keys0 : Int) - (1 : Int))) < (List.length keys0 : Int)) then
          K (.tup [.v (.int .i64) (2 : Int), .v (.str) r3.2, .v (.int .u8) (rd (0 : Int) keys0 (IntKind.wrap .i64 ((List.length keys0 : Int) - (1 : Int))))]) []
          else False
        else
          (wfD quoinref21_known_d0 (r1.1, r2.2, r2.1, ()) → quoinref21_known_J0 (fun (x6 : Int) (x7 : List Int) (x8 : Int) => wfD quoinref21_known_d0r (x6, x7, x8, ()) → (
              K (.tup [.v (.int .i64) x6, .v (.str) x7, .v (.int .u8) x8]) [])) r1.1 r2.2 r2.1)))
        else False
      else
        (wfD quoinref21_known_d0 (r1.1, r2.2, r2.1, ()) → quoinref21_known_J0 (fun (x6 : Int) (x7 : List Int) (x8 : Int) => wfD quoinref21_known_d0r (x6, x7, x8, ()) → (
            K (.tup [.v (.int .i64) x6, .v (.str) x7, .v (.int .u8) x8]) [])) r1.1 r2.2 r2.1)
      else False
    else
      (wfD quoinref21_known_d0 (r1.1, r2.2, r2.1, ()) → quoinref21_known_J0 (fun (x6 : Int) (x7 : List Int) (x8 : Int) => wfD quoinref21_known_d0r (x6, x7, x8, ()) → (
          K (.tup [.v (.int .i64) x6, .v (.str) x7, .v (.int .u8) x8]) [])) r1.1 r2.2 r2.1)))))
def quoinref21_known_A : List AS := [.v (.str), .v (.sl (.str)), .v (.sl (.str))]
theorem quoinref21_known_walk (keys0 : List Int) (bare1 : List (List Int)) (with2 : List (List Int)) (K : Res → List Cell → Prop) : runF tb (getG quoinref21_known_G) quoinref21_known_B0 Tryd.f25 [true, true, true] (mkA quoinref21_known_A (keys0, bare1, with2, ())) K = quoinref21_known_raw keys0 bare1 with2 K := by kernel_rfl

def quoinref21_known_J0_F (state9 : Int) (k10 : List Int) (other11 : Int) : Int × List Int × Int :=
  bif (decide (state9 < other11)) then
    (other11, k10, (0 : Int))
  else
    (state9, k10, (0 : Int))
set_option maxRecDepth 20000 in
theorem quoinref21_known_J0_sp (kr : Int → List Int → Int → Prop) (state9 : Int) (k10 : List Int) (other11 : Int) (hr : ∀ q : Int × List Int × Int, q = quoinref21_known_J0_F state9 k10 other11 → kr q.1 q.2.1 q.2.2) : quoinref21_known_J0 kr state9 k10 other11 := by
  unfold quoinref21_known_J0
  refine brb (fun c_1 => ?_) (fun c_1 => ?_)
  ·
    have e := hr _ ((ctrue c_1) : quoinref21_known_J0_F state9 k10 other11 = _).symm
    exact e
  ·
    have e := hr _ ((cfalse c_1) : quoinref21_known_J0_F state9 k10 other11 = _).symm
    exact e
def quoinref21_known_P (keys0 : List Int) (bare1 : List (List Int)) (with2 : List (List Int)) : Prop :=
  let r1 : Int × List Int := quoinref21_found_F keys0 bare1
  bif (decide (r1.1 = (2 : Int))) then
    True
  else
    let r2 : Int × List Int := quoinref21_found_F keys0 with2
    bif (decide (r2.1 = (2 : Int))) then
      True
    else
      bif (decide ((0 : Int) < (List.length keys0 : Int))) then
        (0 ≤ (IntKind.wrap .i64 ((List.length keys0 : Int) - (1 : Int))) ∧ (IntKind.wrap .i64 ((List.length keys0 : Int) - (1 : Int))) < (List.length keys0 : Int)) ∧ (
        bif (!decide ((rd (0 : Int) keys0 (IntKind.wrap .i64 ((List.length keys0 : Int) - (1 : Int)))) = (27 : Int))) then
          (0 ≤ (IntKind.wrap .i64 ((List.length keys0 : Int) - (1 : Int))) ∧ (IntKind.wrap .i64 ((List.length keys0 : Int) - (1 : Int))) ≤ (List.length keys0 : Int)) ∧ (
          let r3 : Int × List Int := quoinref21_found_F (List.take (Int.toNat (IntKind.wrap .i64 ((List.length keys0 : Int) - (1 : Int)))) keys0) with2
          bif (decide (r3.1 = (2 : Int))) then
            (0 ≤ (IntKind.wrap .i64 ((List.length keys0 : Int) - (1 : Int))) ∧ (IntKind.wrap .i64 ((List.length keys0 : Int) - (1 : Int))) < (List.length keys0 : Int))
          else
            True)
        else
          True)
      else
        True
def quoinref21_known_F (keys0 : List Int) (bare1 : List (List Int)) (with2 : List (List Int)) : Int × List Int × Int :=
  let r1 : Int × List Int := quoinref21_found_F keys0 bare1
  bif (decide (r1.1 = (2 : Int))) then
    ((2 : Int), r1.2, (0 : Int))
  else
    let r2 : Int × List Int := quoinref21_found_F keys0 with2
    bif (decide (r2.1 = (2 : Int))) then
      ((1 : Int), ([] : List Int), (0 : Int))
    else
      bif (decide ((0 : Int) < (List.length keys0 : Int))) then
        bif (!decide ((rd (0 : Int) keys0 (IntKind.wrap .i64 ((List.length keys0 : Int) - (1 : Int)))) = (27 : Int))) then
          let r3 : Int × List Int := quoinref21_found_F (List.take (Int.toNat (IntKind.wrap .i64 ((List.length keys0 : Int) - (1 : Int)))) keys0) with2
          bif (decide (r3.1 = (2 : Int))) then
            ((2 : Int), r3.2, (rd (0 : Int) keys0 (IntKind.wrap .i64 ((List.length keys0 : Int) - (1 : Int)))))
          else
            let q0r : Int × List Int × Int := quoinref21_known_J0_F r1.1 r2.2 r2.1
            let x6 : Int := q0r.1
            let x7 : List Int := q0r.2.1
            let x8 : Int := q0r.2.2
            (x6, x7, x8)
        else
          let q0r : Int × List Int × Int := quoinref21_known_J0_F r1.1 r2.2 r2.1
          let x6 : Int := q0r.1
          let x7 : List Int := q0r.2.1
          let x8 : Int := q0r.2.2
          (x6, x7, x8)
      else
        let q0r : Int × List Int × Int := quoinref21_known_J0_F r1.1 r2.2 r2.1
        let x6 : Int := q0r.1
        let x7 : List Int := q0r.2.1
        let x8 : Int := q0r.2.2
        (x6, x7, x8)
set_option maxRecDepth 20000 in
theorem quoinref21_known_sp (keys0 : List Int) (bare1 : List (List Int)) (with2 : List (List Int)) (K : Res → List Cell → Prop) (_ : wfA quoinref21_known_A (keys0, bare1, with2, ())) (hp : quoinref21_known_P keys0 bare1 with2) (h : ∀ r : Int × List Int × Int, r = quoinref21_known_F keys0 bare1 with2 → K (.tup [.v (.int .i64) r.1, .v (.str) r.2.1, .v (.int .u8) r.2.2]) []) : quoinref21_known_raw keys0 bare1 with2 K := by
  unfold quoinref21_known_raw
  unfold quoinref21_known_P at hp
  intro r1 hr1
  subst hr1
  intro _
  refine brb (fun c_2 => ?_) (fun c_2 => ?_)
  ·
    clear hp
    have e := h _ ((ctrue c_2) : quoinref21_known_F keys0 bare1 with2 = _).symm
    exact e
  ·
    replace hp := cF c_2 hp
    intro r2 hr2
    subst hr2
    intro _
    refine brb (fun c_3 => ?_) (fun c_3 => ?_)
    ·
      clear hp
      have e := h _ ((Eq.trans (cfalse c_2) (ctrue c_3)) : quoinref21_known_F keys0 bare1 with2 = _).symm
      exact e
    ·
      replace hp := cF c_3 hp
      refine brb (fun c_4 => ?_) (fun c_4 => ?_)
      ·
        replace hp := cT c_4 hp
        refine asrt hp.1 ?_
        replace hp := hp.2
        refine brb (fun c_5 => ?_) (fun c_5 => ?_)
        ·
          replace hp := cT c_5 hp
          refine asrt hp.1 ?_
          replace hp := hp.2
          intro r3 hr3
          subst hr3
          intro _
          refine brb (fun c_6 => ?_) (fun c_6 => ?_)
          ·
            replace hp := cT c_6 hp
            refine asrt hp ?_
            have e := h _ ((Eq.trans (cfalse c_2) (Eq.trans (cfalse c_3) (Eq.trans (ctrue c_4) (Eq.trans (ctrue c_5) (ctrue c_6))))) : quoinref21_known_F keys0 bare1 with2 = _).symm
            exact e
          ·
            clear hp
            refine fun _ => quoinref21_known_J0_sp _ _ _ _ (fun q hq => ?_)
            subst hq
            intro _
            have e := h _ ((Eq.trans (cfalse c_2) (Eq.trans (cfalse c_3) (Eq.trans (ctrue c_4) (Eq.trans (ctrue c_5) (cfalse c_6))))) : quoinref21_known_F keys0 bare1 with2 = _).symm
            exact e
        ·
          clear hp
          refine fun _ => quoinref21_known_J0_sp _ _ _ _ (fun q hq => ?_)
          subst hq
          intro _
          have e := h _ ((Eq.trans (cfalse c_2) (Eq.trans (cfalse c_3) (Eq.trans (ctrue c_4) (cfalse c_5)))) : quoinref21_known_F keys0 bare1 with2 = _).symm
          exact e
      ·
        clear hp
        refine fun _ => quoinref21_known_J0_sp _ _ _ _ (fun q hq => ?_)
        subst hq
        intro _
        have e := h _ ((Eq.trans (cfalse c_2) (Eq.trans (cfalse c_3) (cfalse c_4))) : quoinref21_known_F keys0 bare1 with2 = _).symm
        exact e
def quoinref21_known_C (v : valsA quoinref21_known_A) (K : Res → List Cell → Prop) : Prop := quoinref21_known_P v.1 v.2.1 v.2.2.1 ∧ ∀ r : Int × List Int × Int, r = quoinref21_known_F v.1 v.2.1 v.2.2.1 → K (.tup [.v (.int .i64) r.1, .v (.str) r.2.1, .v (.int .u8) r.2.2]) []
def quoinref21_known_S : App := specW quoinref21_known_A quoinref21_known_C
theorem quoinref21_known_wv (K : Res → List Cell → Prop) : ∀ v : valsA quoinref21_known_A, runF tb (getG quoinref21_known_G) quoinref21_known_B0 Tryd.f25 [true, true, true] (mkA quoinref21_known_A v) K = quoinref21_known_raw v.1 v.2.1 v.2.2.1 K
  | (keys0, bare1, with2, ()) => quoinref21_known_walk keys0 bare1 with2 K
set_option maxRecDepth 20000 in
theorem quoinref21_known_ok : AppOk Tryd.prog 25 quoinref21_known_S :=
  AppOk.specW (spec_ok (runF_ok tb_M tb_ok quoinref21_known_Gok (quoinref21_known_b0) (f := 25) (fn := Tryd.f25) (by kernel_rfl) (by kernel_rfl) quoinref21_known_st [true, true, true]) fun v K hw h => (quoinref21_known_wv K v).mpr (quoinref21_known_sp v.1 v.2.1 v.2.2.1 K hw h.1 h.2))

end Go.VE
namespace Go.VE
open Go Go.Proofs
/-! ### quoin/quoinref21.told -/
def quoinref21_told_G : List (Nat × App) := []
theorem quoinref21_told_Gok : GOk Tryd.prog (getG quoinref21_told_G) := GOk.nil
def quoinref21_told_raw (c0 : (Int × Int × List Int × List Int × Int × List Int)) (state1 : Int) (k2 : List Int) (arg3 : Int) (K : Res → List Cell → Prop) : Prop :=
  bif (decide (state1 = (0 : Int))) then
    K (.tup [.v (.st (.pair (.int .u8) (.pair (.int .i64) (.pair (.str) (.pair (.str) (.pair (.int .u8) (.sl (.int .u8)))))))) ((0 : Int), (0 : Int), ([] : List Int), ([] : List Int), (0 : Int), ([] : List Int)), .v (.int .i64) (2 : Int)]) []
  else
  bif (decide (state1 = (1 : Int))) then
    K (.tup [.v (.st (.pair (.int .u8) (.pair (.int .i64) (.pair (.str) (.pair (.str) (.pair (.int .u8) (.sl (.int .u8)))))))) ((0 : Int), (0 : Int), ([] : List Int), ([] : List Int), (0 : Int), ([] : List Int)), .v (.int .i64) (0 : Int)]) []
  else
  bif (decide (k2 = ([47] : List Int))) then
    K (.tup [.v (.st (.pair (.int .u8) (.pair (.int .i64) (.pair (.str) (.pair (.str) (.pair (.int .u8) (.sl (.int .u8)))))))) (c0.1, c0.2.1, c0.2.2.1, k2, arg3, c0.2.2.2.2.2), .v (.int .i64) (3 : Int)]) []
  else
  bif (decide (k2 = ([63] : List Int))) then
    K (.tup [.v (.st (.pair (.int .u8) (.pair (.int .i64) (.pair (.str) (.pair (.str) (.pair (.int .u8) (.sl (.int .u8)))))))) (c0.1, c0.2.1, c0.2.2.1, k2, arg3, c0.2.2.2.2.2), .v (.int .i64) (3 : Int)]) []
  else
  bif (decide (k2 = ([58] : List Int))) then
    K (.tup [.v (.st (.pair (.int .u8) (.pair (.int .i64) (.pair (.str) (.pair (.str) (.pair (.int .u8) (.sl (.int .u8)))))))) (c0.1, c0.2.1, c0.2.2.1, k2, arg3, c0.2.2.2.2.2), .v (.int .i64) (3 : Int)]) []
  else
    K (.tup [.v (.st (.pair (.int .u8) (.pair (.int .i64) (.pair (.str) (.pair (.str) (.pair (.int .u8) (.sl (.int .u8)))))))) (c0.1, c0.2.1, c0.2.2.1, k2, arg3, c0.2.2.2.2.2), .v (.int .i64) (1 : Int)]) []
def quoinref21_told_A : List AS := [.v (.st (.pair (.int .u8) (.pair (.int .i64) (.pair (.str) (.pair (.str) (.pair (.int .u8) (.sl (.int .u8)))))))), .v (.int .i64), .v (.str), .v (.int .u8)]
theorem quoinref21_told_walk (c0 : (Int × Int × List Int × List Int × Int × List Int)) (state1 : Int) (k2 : List Int) (arg3 : Int) (K : Res → List Cell → Prop) : runF tb (getG quoinref21_told_G) [] Tryd.f27 [true, true] (mkA quoinref21_told_A (c0, state1, k2, arg3, ())) K = quoinref21_told_raw c0 state1 k2 arg3 K := by kernel_rfl

def quoinref21_told_F (c0 : (Int × Int × List Int × List Int × Int × List Int)) (state1 : Int) (k2 : List Int) (arg3 : Int) : (Int × Int × List Int × List Int × Int × List Int) × Int :=
  bif (decide (state1 = (0 : Int))) then
    (((0 : Int), (0 : Int), ([] : List Int), ([] : List Int), (0 : Int), ([] : List Int)), (2 : Int))
  else
    bif (decide (state1 = (1 : Int))) then
      (((0 : Int), (0 : Int), ([] : List Int), ([] : List Int), (0 : Int), ([] : List Int)), (0 : Int))
    else
      bif (decide (k2 = ([47] : List Int))) then
        ((c0.1, c0.2.1, c0.2.2.1, k2, arg3, c0.2.2.2.2.2), (3 : Int))
      else
        bif (decide (k2 = ([63] : List Int))) then
          ((c0.1, c0.2.1, c0.2.2.1, k2, arg3, c0.2.2.2.2.2), (3 : Int))
        else
          bif (decide (k2 = ([58] : List Int))) then
            ((c0.1, c0.2.1, c0.2.2.1, k2, arg3, c0.2.2.2.2.2), (3 : Int))
          else
            ((c0.1, c0.2.1, c0.2.2.1, k2, arg3, c0.2.2.2.2.2), (1 : Int))
set_option maxRecDepth 20000 in
theorem quoinref21_told_sp (c0 : (Int × Int × List Int × List Int × Int × List Int)) (state1 : Int) (k2 : List Int) (arg3 : Int) (K : Res → List Cell → Prop) (_ : wfA quoinref21_told_A (c0, state1, k2, arg3, ())) (h : ∀ r : (Int × Int × List Int × List Int × Int × List Int) × Int, r = quoinref21_told_F c0 state1 k2 arg3 → K (.tup [.v (.st (.pair (.int .u8) (.pair (.int .i64) (.pair (.str) (.pair (.str) (.pair (.int .u8) (.sl (.int .u8)))))))) r.1, .v (.int .i64) r.2]) []) : quoinref21_told_raw c0 state1 k2 arg3 K := by
  unfold quoinref21_told_raw
  refine brb (fun c_1 => ?_) (fun c_1 => ?_)
  ·
    have e := h _ ((ctrue c_1) : quoinref21_told_F c0 state1 k2 arg3 = _).symm
    exact e
  ·
    refine brb (fun c_2 => ?_) (fun c_2 => ?_)
    ·
      have e := h _ ((Eq.trans (cfalse c_1) (ctrue c_2)) : quoinref21_told_F c0 state1 k2 arg3 = _).symm
      exact e
    ·
      refine brb (fun c_3 => ?_) (fun c_3 => ?_)
      ·
        have e := h _ ((Eq.trans (cfalse c_1) (Eq.trans (cfalse c_2) (ctrue c_3))) : quoinref21_told_F c0 state1 k2 arg3 = _).symm
        exact e
      ·
        refine brb (fun c_4 => ?_) (fun c_4 => ?_)
        ·
          have e := h _ ((Eq.trans (cfalse c_1) (Eq.trans (cfalse c_2) (Eq.trans (cfalse c_3) (ctrue c_4)))) : quoinref21_told_F c0 state1 k2 arg3 = _).symm
          exact e
        ·
          refine brb (fun c_5 => ?_) (fun c_5 => ?_)
          ·
            have e := h _ ((Eq.trans (cfalse c_1) (Eq.trans (cfalse c_2) (Eq.trans (cfalse c_3) (Eq.trans (cfalse c_4) (ctrue c_5))))) : quoinref21_told_F c0 state1 k2 arg3 = _).symm
            exact e
          ·
            have e := h _ ((Eq.trans (cfalse c_1) (Eq.trans (cfalse c_2) (Eq.trans (cfalse c_3) (Eq.trans (cfalse c_4) (cfalse c_5))))) : quoinref21_told_F c0 state1 k2 arg3 = _).symm
            exact e
def quoinref21_told_C (v : valsA quoinref21_told_A) (K : Res → List Cell → Prop) : Prop := ∀ r : (Int × Int × List Int × List Int × Int × List Int) × Int, r = quoinref21_told_F v.1 v.2.1 v.2.2.1 v.2.2.2.1 → K (.tup [.v (.st (.pair (.int .u8) (.pair (.int .i64) (.pair (.str) (.pair (.str) (.pair (.int .u8) (.sl (.int .u8)))))))) r.1, .v (.int .i64) r.2]) []
def quoinref21_told_S : App := specW quoinref21_told_A quoinref21_told_C
theorem quoinref21_told_wv (K : Res → List Cell → Prop) : ∀ v : valsA quoinref21_told_A, runF tb (getG quoinref21_told_G) [] Tryd.f27 [true, true] (mkA quoinref21_told_A v) K = quoinref21_told_raw v.1 v.2.1 v.2.2.1 v.2.2.2.1 K
  | (c0, state1, k2, arg3, ()) => quoinref21_told_walk c0 state1 k2 arg3 K
set_option maxRecDepth 20000 in
theorem quoinref21_told_ok : AppOk Tryd.prog 27 quoinref21_told_S :=
  AppOk.specW (spec_ok (runF_ok tb_M tb_ok quoinref21_told_Gok (LabsOk.nil) (f := 27) (fn := Tryd.f27) (by kernel_rfl) (by kernel_rfl) (by kernel_rfl) [true, true]) fun v K hw h => (quoinref21_told_wv K v).mpr (quoinref21_told_sp v.1 v.2.1 v.2.2.1 v.2.2.2.1 K hw h))

end Go.VE
namespace Go.VE
open Go Go.Proofs
/-! ### quoin/quoinref21.behind -/
def quoinref21_behind_G : List (Nat × App) := [(20, quoinref21_number_S), (39, quoinref21_times_S), (32, quoinref21_doubles_S), (26, quoinref21_found_S), (40, quoinref21_objects_S), (25, quoinref21_known_S), (27, quoinref21_told_S)]
theorem quoinref21_behind_Gok : GOk Tryd.prog (getG quoinref21_behind_G) := GOk.cons quoinref21_number_ok (GOk.cons quoinref21_times_ok (GOk.cons quoinref21_doubles_ok (GOk.cons quoinref21_found_ok (GOk.cons quoinref21_objects_ok (GOk.cons quoinref21_known_ok (GOk.cons quoinref21_told_ok (GOk.nil)))))))
def quoinref21_behind_raw (c0 : (Int × Int × List Int × List Int × Int × List Int)) (op1 : List Int) (keys2 : List Int) (bare3 : List (List Int)) (with4 : List (List Int)) (K : Res → List Cell → Prop) : Prop :=
  quoinref21_number_P keys2 ∧ (
  ∀ (r1 : Int × Int), r1 = quoinref21_number_F keys2 → (
  wfR (.tup [.v (.int .i64) r1.1, .v (.int .i64) r1.2]) → (
  ∀ (r2 : Int), r2 = quoinref21_times_F c0.2.1 r1.1 → (
  wfR (.one (.v (.int .i64) r2)) → (
  bif decide (0 ≤ r1.2 ∧ r1.2 ≤ (List.length keys2 : Int)) then
  bif (decide ((List.drop (Int.toNat r1.2) keys2) = ([] : List Int))) then
    K (.tup [.v (.st (.pair (.int .u8) (.pair (.int .i64) (.pair (.str) (.pair (.str) (.pair (.int .u8) (.sl (.int .u8)))))))) ((0 : Int), (0 : Int), ([] : List Int), ([] : List Int), (0 : Int), ([] : List Int)), .v (.int .i64) (0 : Int)]) []
  else
    quoinref21_doubles_P op1 ∧ (
    ∀ (r3 : List (List Int)), r3 = quoinref21_doubles_F op1 → (
    wfR (.one (.fr 9 (.str) r3)) → (
    ∀ (r4 : Int × List Int), r4 = quoinref21_found_F (List.drop (Int.toNat r1.2) keys2) r3 → (
    wfR (.tup [.v (.int .i64) r4.1, .v (.str) r4.2]) → (
    bif (decide (r4.1 = (2 : Int))) then
      K (.tup [.v (.st (.pair (.int .u8) (.pair (.int .i64) (.pair (.str) (.pair (.str) (.pair (.int .u8) (.sl (.int .u8)))))))) (c0.1, r2, op1, op1, c0.2.2.2.2.1, c0.2.2.2.2.2), .v (.int .i64) (1 : Int)]) []
    else
      quoinref21_objects_P  ∧ (
      ∀ (r5 : List (List Int)), r5 = quoinref21_objects_F → (
      wfR (.one (.fr 9 (.str) r5)) → (
      bif decide (List.length bare3 + List.length r5 ≤ lim) then
      quoinref21_known_P (List.drop (Int.toNat r1.2) keys2) (bare3 ++ r5) with4 ∧ (
      ∀ (r6 : Int × List Int × Int), r6 = quoinref21_known_F (List.drop (Int.toNat r1.2) keys2) (bare3 ++ r5) with4 → (
      wfR (.tup [.v (.int .i64) r6.1, .v (.str) r6.2.1, .v (.int .u8) r6.2.2]) → (
      bif (decide (r6.1 < r4.1)) then
        ∀ (r7 : (Int × Int × List Int × List Int × Int × List Int) × Int), r7 = quoinref21_told_F (c0.1, r2, op1, c0.2.2.2.1, c0.2.2.2.2.1, c0.2.2.2.2.2) r4.1 r6.2.1 r6.2.2 → (
        wfR (.tup [.v (.st (.pair (.int .u8) (.pair (.int .i64) (.pair (.str) (.pair (.str) (.pair (.int .u8) (.sl (.int .u8)))))))) r7.1, .v (.int .i64) r7.2]) → (
        K (.tup [.v (.st (.pair (.int .u8) (.pair (.int .i64) (.pair (.str) (.pair (.str) (.pair (.int .u8) (.sl (.int .u8)))))))) r7.1, .v (.int .i64) r7.2]) []))
      else
        ∀ (r8 : (Int × Int × List Int × List Int × Int × List Int) × Int), r8 = quoinref21_told_F (c0.1, r2, op1, c0.2.2.2.1, c0.2.2.2.2.1, c0.2.2.2.2.2) r6.1 r6.2.1 r6.2.2 → (
        wfR (.tup [.v (.st (.pair (.int .u8) (.pair (.int .i64) (.pair (.str) (.pair (.str) (.pair (.int .u8) (.sl (.int .u8)))))))) r8.1, .v (.int .i64) r8.2]) → (
        K (.tup [.v (.st (.pair (.int .u8) (.pair (.int .i64) (.pair (.str) (.pair (.str) (.pair (.int .u8) (.sl (.int .u8)))))))) r8.1, .v (.int .i64) r8.2]) [])))))
      else False))))))))
  else False)))))
def quoinref21_behind_A : List AS := [.v (.st (.pair (.int .u8) (.pair (.int .i64) (.pair (.str) (.pair (.str) (.pair (.int .u8) (.sl (.int .u8)))))))), .v (.str), .v (.str), .o 9 (.str), .v (.sl (.str))]
theorem quoinref21_behind_walk (c0 : (Int × Int × List Int × List Int × Int × List Int)) (op1 : List Int) (keys2 : List Int) (bare3 : List (List Int)) (with4 : List (List Int)) (K : Res → List Cell → Prop) : runF tb (getG quoinref21_behind_G) [] Tryd.f23 [true, true] (mkA quoinref21_behind_A (c0, op1, keys2, bare3, with4, ())) K = quoinref21_behind_raw c0 op1 keys2 bare3 with4 K := by kernel_rfl
--! own 3

def quoinref21_behind_P (c0 : (Int × Int × List Int × List Int × Int × List Int)) (op1 : List Int) (keys2 : List Int) (bare3 : List (List Int)) (with4 : List (List Int)) : Prop :=
  quoinref21_number_P keys2 ∧ (
  let r1 : Int × Int := quoinref21_number_F keys2
  let r2 : Int := quoinref21_times_F c0.2.1 r1.1
  (0 ≤ r1.2 ∧ r1.2 ≤ (List.length keys2 : Int)) ∧ (
  bif (decide ((List.drop (Int.toNat r1.2) keys2) = ([] : List Int))) then
    True
  else
    quoinref21_doubles_P op1 ∧ (
    let r3 : List (List Int) := quoinref21_doubles_F op1
    let r4 : Int × List Int := quoinref21_found_F (List.drop (Int.toNat r1.2) keys2) r3
    bif (decide (r4.1 = (2 : Int))) then
      True
    else
      quoinref21_objects_P  ∧ (
      let r5 : List (List Int) := quoinref21_objects_F
      (List.length bare3 + List.length r5 ≤ lim) ∧ (
      quoinref21_known_P (List.drop (Int.toNat r1.2) keys2) (bare3 ++ r5) with4)))))
def quoinref21_behind_F (c0 : (Int × Int × List Int × List Int × Int × List Int)) (op1 : List Int) (keys2 : List Int) (bare3 : List (List Int)) (with4 : List (List Int)) : (Int × Int × List Int × List Int × Int × List Int) × Int :=
  let r1 : Int × Int := quoinref21_number_F keys2
  let r2 : Int := quoinref21_times_F c0.2.1 r1.1
  bif (decide ((List.drop (Int.toNat r1.2) keys2) = ([] : List Int))) then
    (((0 : Int), (0 : Int), ([] : List Int), ([] : List Int), (0 : Int), ([] : List Int)), (0 : Int))
  else
    let r3 : List (List Int) := quoinref21_doubles_F op1
    let r4 : Int × List Int := quoinref21_found_F (List.drop (Int.toNat r1.2) keys2) r3
    bif (decide (r4.1 = (2 : Int))) then
      ((c0.1, r2, op1, op1, c0.2.2.2.2.1, c0.2.2.2.2.2), (1 : Int))
    else
      let r5 : List (List Int) := quoinref21_objects_F
      let r6 : Int × List Int × Int := quoinref21_known_F (List.drop (Int.toNat r1.2) keys2) (bare3 ++ r5) with4
      bif (decide (r6.1 < r4.1)) then
        let r7 : (Int × Int × List Int × List Int × Int × List Int) × Int := quoinref21_told_F (c0.1, r2, op1, c0.2.2.2.1, c0.2.2.2.2.1, c0.2.2.2.2.2) r4.1 r6.2.1 r6.2.2
        (r7.1, r7.2)
      else
        let r8 : (Int × Int × List Int × List Int × Int × List Int) × Int := quoinref21_told_F (c0.1, r2, op1, c0.2.2.2.1, c0.2.2.2.2.1, c0.2.2.2.2.2) r6.1 r6.2.1 r6.2.2
        (r8.1, r8.2)
set_option maxRecDepth 20000 in
theorem quoinref21_behind_sp (c0 : (Int × Int × List Int × List Int × Int × List Int)) (op1 : List Int) (keys2 : List Int) (bare3 : List (List Int)) (with4 : List (List Int)) (K : Res → List Cell → Prop) (_ : wfA quoinref21_behind_A (c0, op1, keys2, bare3, with4, ())) (hp : quoinref21_behind_P c0 op1 keys2 bare3 with4) (h : ∀ r : (Int × Int × List Int × List Int × Int × List Int) × Int, r = quoinref21_behind_F c0 op1 keys2 bare3 with4 → K (.tup [.v (.st (.pair (.int .u8) (.pair (.int .i64) (.pair (.str) (.pair (.str) (.pair (.int .u8) (.sl (.int .u8)))))))) r.1, .v (.int .i64) r.2]) []) : quoinref21_behind_raw c0 op1 keys2 bare3 with4 K := by
  unfold quoinref21_behind_raw
  unfold quoinref21_behind_P at hp
  refine ⟨hp.1, ?_⟩
  replace hp := hp.2
  intro r1 hr1
  subst hr1
  intro _
  intro r2 hr2
  subst hr2
  intro _
  refine asrt hp.1 ?_
  replace hp := hp.2
  refine brb (fun c_1 => ?_) (fun c_1 => ?_)
  ·
    clear hp
    have e := h _ ((ctrue c_1) : quoinref21_behind_F c0 op1 keys2 bare3 with4 = _).symm
    exact e
  ·
    replace hp := cF c_1 hp
    refine ⟨hp.1, ?_⟩
    replace hp := hp.2
    intro r3 hr3
    subst hr3
    intro _
    intro r4 hr4
    subst hr4
    intro _
    refine brb (fun c_2 => ?_) (fun c_2 => ?_)
    ·
      clear hp
      have e := h _ ((Eq.trans (cfalse c_1) (ctrue c_2)) : quoinref21_behind_F c0 op1 keys2 bare3 with4 = _).symm
      exact e
    ·
      replace hp := cF c_2 hp
      refine ⟨hp.1, ?_⟩
      replace hp := hp.2
      intro r5 hr5
      subst hr5
      intro _
      refine asrt hp.1 ?_
      replace hp := hp.2
      refine ⟨hp, ?_⟩
      intro r6 hr6
      subst hr6
      intro _
      refine brb (fun c_3 => ?_) (fun c_3 => ?_)
      ·
        intro r7 hr7
        subst hr7
        intro _
        have e := h _ ((Eq.trans (cfalse c_1) (Eq.trans (cfalse c_2) (ctrue c_3))) : quoinref21_behind_F c0 op1 keys2 bare3 with4 = _).symm
        exact e
      ·
        intro r8 hr8
        subst hr8
        intro _
        have e := h _ ((Eq.trans (cfalse c_1) (Eq.trans (cfalse c_2) (cfalse c_3))) : quoinref21_behind_F c0 op1 keys2 bare3 with4 = _).symm
        exact e
def quoinref21_behind_C (v : valsA quoinref21_behind_A) (K : Res → List Cell → Prop) : Prop := quoinref21_behind_P v.1 v.2.1 v.2.2.1 v.2.2.2.1 v.2.2.2.2.1 ∧ ∀ r : (Int × Int × List Int × List Int × Int × List Int) × Int, r = quoinref21_behind_F v.1 v.2.1 v.2.2.1 v.2.2.2.1 v.2.2.2.2.1 → K (.tup [.v (.st (.pair (.int .u8) (.pair (.int .i64) (.pair (.str) (.pair (.str) (.pair (.int .u8) (.sl (.int .u8)))))))) r.1, .v (.int .i64) r.2]) []
def quoinref21_behind_S : App := specW quoinref21_behind_A quoinref21_behind_C
theorem quoinref21_behind_wv (K : Res → List Cell → Prop) : ∀ v : valsA quoinref21_behind_A, runF tb (getG quoinref21_behind_G) [] Tryd.f23 [true, true] (mkA quoinref21_behind_A v) K = quoinref21_behind_raw v.1 v.2.1 v.2.2.1 v.2.2.2.1 v.2.2.2.2.1 K
  | (c0, op1, keys2, bare3, with4, ()) => quoinref21_behind_walk c0 op1 keys2 bare3 with4 K
set_option maxRecDepth 20000 in
theorem quoinref21_behind_ok : AppOk Tryd.prog 23 quoinref21_behind_S :=
  AppOk.specW (spec_ok (runF_ok tb_M tb_ok quoinref21_behind_Gok (LabsOk.nil) (f := 23) (fn := Tryd.f23) (by kernel_rfl) (by kernel_rfl) (by kernel_rfl) [true, true]) fun v K hw h => (quoinref21_behind_wv K v).mpr (quoinref21_behind_sp v.1 v.2.1 v.2.2.1 v.2.2.2.1 v.2.2.2.2.1 K hw h.1 h.2))

end Go.VE
namespace Go.VE
open Go Go.Proofs
/-! ### quoin/quoinref21.plains -/
def quoinref21_plains_G : List (Nat × App) := [(38, quoinref21_words_S)]
theorem quoinref21_plains_Gok : GOk Tryd.prog (getG quoinref21_plains_G) := GOk.cons quoinref21_words_ok (GOk.nil)
def quoinref21_plains_raw  (K : Res → List Cell → Prop) : Prop :=
  quoinref21_words_P ([120, 32, 88, 32, 68, 32, 67, 32, 89, 32, 83, 32, 115, 32, 112, 32, 80, 32, 126, 32, 74, 32, 105, 32, 97, 32, 73, 32, 65, 32, 111, 32, 79, 32, 82, 32, 117, 32, 46, 32, 58, 32, 18, 32, 103, 45, 32, 103, 43] : List Int) ∧ (
  ∀ (r1 : List (List Int)), r1 = quoinref21_words_F ([120, 32, 88, 32, 68, 32, 67, 32, 89, 32, 83, 32, 115, 32, 112, 32, 80, 32, 126, 32, 74, 32, 105, 32, 97, 32, 73, 32, 65, 32, 111, 32, 79, 32, 82, 32, 117, 32, 46, 32, 58, 32, 18, 32, 103, 45, 32, 103, 43] : List Int) → (
  wfR (.one (.fr 9 (.str) r1)) → (
  quoinref21_words_P ([114, 32, 109] : List Int) ∧ (
  ∀ (r2 : List (List Int)), r2 = quoinref21_words_F ([114, 32, 109] : List Int) → (
  wfR (.one (.fr 9 (.str) r2)) → (
  K (.tup [.fr 9 (.str) r1, .fr 9 (.str) r2]) []))))))
def quoinref21_plains_A : List AS := []
theorem quoinref21_plains_walk  (K : Res → List Cell → Prop) : runF tb (getG quoinref21_plains_G) [] Tryd.f24 [true, true] (mkA quoinref21_plains_A ()) K = quoinref21_plains_raw  K := by kernel_rfl

def quoinref21_plains_P  : Prop :=
  quoinref21_words_P ([120, 32, 88, 32, 68, 32, 67, 32, 89, 32, 83, 32, 115, 32, 112, 32, 80, 32, 126, 32, 74, 32, 105, 32, 97, 32, 73, 32, 65, 32, 111, 32, 79, 32, 82, 32, 117, 32, 46, 32, 58, 32, 18, 32, 103, 45, 32, 103, 43] : List Int) ∧ (
  let r1 : List (List Int) := quoinref21_words_F ([120, 32, 88, 32, 68, 32, 67, 32, 89, 32, 83, 32, 115, 32, 112, 32, 80, 32, 126, 32, 74, 32, 105, 32, 97, 32, 73, 32, 65, 32, 111, 32, 79, 32, 82, 32, 117, 32, 46, 32, 58, 32, 18, 32, 103, 45, 32, 103, 43] : List Int)
  quoinref21_words_P ([114, 32, 109] : List Int))
def quoinref21_plains_F  : List (List Int) × List (List Int) :=
  let r1 : List (List Int) := quoinref21_words_F ([120, 32, 88, 32, 68, 32, 67, 32, 89, 32, 83, 32, 115, 32, 112, 32, 80, 32, 126, 32, 74, 32, 105, 32, 97, 32, 73, 32, 65, 32, 111, 32, 79, 32, 82, 32, 117, 32, 46, 32, 58, 32, 18, 32, 103, 45, 32, 103, 43] : List Int)
  let r2 : List (List Int) := quoinref21_words_F ([114, 32, 109] : List Int)
  (r1, r2)
set_option maxRecDepth 20000 in
theorem quoinref21_plains_sp  (K : Res → List Cell → Prop) (_ : wfA quoinref21_plains_A ()) (hp : quoinref21_plains_P ) (h : ∀ r : List (List Int) × List (List Int), r = quoinref21_plains_F  → K (.tup [.fr 9 (.str) r.1, .fr 9 (.str) r.2]) []) : quoinref21_plains_raw  K := by
  unfold quoinref21_plains_raw
  unfold quoinref21_plains_P at hp
  refine ⟨hp.1, ?_⟩
  replace hp := hp.2
  intro r1 hr1
  subst hr1
  intro _
  refine ⟨hp, ?_⟩
  intro r2 hr2
  subst hr2
  intro _
  exact h _ rfl
def quoinref21_plains_C (v : valsA quoinref21_plains_A) (K : Res → List Cell → Prop) : Prop := quoinref21_plains_P  ∧ ∀ r : List (List Int) × List (List Int), r = quoinref21_plains_F → K (.tup [.fr 9 (.str) r.1, .fr 9 (.str) r.2]) []
def quoinref21_plains_S : App := specW quoinref21_plains_A quoinref21_plains_C
theorem quoinref21_plains_wv (K : Res → List Cell → Prop) : ∀ v : valsA quoinref21_plains_A, runF tb (getG quoinref21_plains_G) [] Tryd.f24 [true, true] (mkA quoinref21_plains_A v) K = quoinref21_plains_raw  K
  | () => quoinref21_plains_walk  K
set_option maxRecDepth 20000 in
theorem quoinref21_plains_ok : AppOk Tryd.prog 24 quoinref21_plains_S :=
  AppOk.specW (spec_ok (runF_ok tb_M tb_ok quoinref21_plains_Gok (LabsOk.nil) (f := 24) (fn := Tryd.f24) (by kernel_rfl) (by kernel_rfl) (by kernel_rfl) [true, true]) fun v K hw h => (quoinref21_plains_wv K v).mpr (quoinref21_plains_sp  K hw h.1 h.2))

end Go.VE
namespace Go.VE
open Go Go.Proofs
/-! ### quoin/quoinref21.Parse -/
def quoinref21_Parse_G : List (Nat × App) := [(19, quoinref21_isReg_S), (20, quoinref21_number_S), (21, quoinref21_motions_S), (22, quoinref21_operators_S), (23, quoinref21_behind_S), (24, quoinref21_plains_S), (25, quoinref21_known_S), (26, quoinref21_found_S), (27, quoinref21_told_S)]
theorem quoinref21_Parse_Gok : GOk Tryd.prog (getG quoinref21_Parse_G) := GOk.cons quoinref21_isReg_ok (GOk.cons quoinref21_number_ok (GOk.cons quoinref21_motions_ok (GOk.cons quoinref21_operators_ok (GOk.cons quoinref21_behind_ok (GOk.cons quoinref21_plains_ok (GOk.cons quoinref21_known_ok (GOk.cons quoinref21_found_ok (GOk.cons quoinref21_told_ok (GOk.nil)))))))))
theorem quoinref21_Parse_st : storesC (bodyOf Tryd.f11) = true := by kernel_rfl
def quoinref21_Parse_d0 : List LS := [.b 2 16 [], .v 4 (.str), .b 5 40 [], .o 8 69 9 (.str), .o 9 77 9 (.str), .o 10 85 9 (.str), .v 11 (.int .i64), .c 16 (.st (.pair (.int .u8) (.pair (.int .i64) (.pair (.str) (.pair (.str) (.pair (.int .u8) (.sl (.int .u8)))))))), .c 40 (.st (.pair (.int .u8) (.pair (.int .i64) (.pair (.str) (.pair (.str) (.pair (.int .u8) (.sl (.int .u8))))))))]
def quoinref21_Parse_d0r : List LS := [.b 2 16 [], .v 3 (.int .i64), .c 16 (.st (.pair (.int .u8) (.pair (.int .i64) (.pair (.str) (.pair (.str) (.pair (.int .u8) (.sl (.int .u8))))))))]
def quoinref21_Parse_d0x0 : List LS := [.b 2 16 [], .v 4 (.str), .b 5 40 [], .o 8 69 9 (.str), .o 9 77 9 (.str), .o 10 85 9 (.str), .c 16 (.st (.pair (.int .u8) (.pair (.int .i64) (.pair (.str) (.pair (.str) (.pair (.int .u8) (.sl (.int .u8)))))))), .c 40 (.st (.pair (.int .u8) (.pair (.int .i64) (.pair (.str) (.pair (.str) (.pair (.int .u8) (.sl (.int .u8))))))))]
def quoinref21_Parse_dx0 : DX := ⟨none, some quoinref21_Parse_d0r, [(0, quoinref21_Parse_d0x0)]⟩
def quoinref21_Parse_T0 (Y : List Int → List (List Int) → List (List Int) → List (List Int) → Int → (Int × Int × List Int × List Int × Int × List Int) → (Int × Int × List Int × List Int × Int × List Int) → Prop) (kr : Int → (Int × Int × List Int × List Int × Int × List Int) → Prop) (kx0 : List Int → List (List Int) → List (List Int) → List (List Int) → (Int × Int × List Int × List Int × Int × List Int) → (Int × Int × List Int × List Int × Int × List Int) → Prop) (keys4 : List Int) (bare8 : List (List Int)) (with9 : List (List Int)) (ops10 : List (List Int)) (i11 : Int) (x2b : (Int × Int × List Int × List Int × Int × List Int)) (c5b : (Int × Int × List Int × List Int × Int × List Int)) : Prop :=
  bif (decide (i11 < (List.length ops10 : Int))) then
    bif decide (0 ≤ i11 ∧ i11 < (List.length ops10 : Int)) then
    bif (decide ((List.length (rd ([] : List Int) ops10 i11) : Int) ≤ (List.length keys4 : Int))) then
      (
        bif decide (0 ≤ i11 ∧ i11 < (List.length ops10 : Int)) then
        (
          bif decide (0 ≤ (List.length (rd ([] : List Int) ops10 i11) : Int) ∧ (List.length (rd ([] : List Int) ops10 i11) : Int) ≤ (List.length keys4 : Int)) then
          bif decide (0 ≤ i11 ∧ i11 < (List.length ops10 : Int)) then
          bif (decide ((List.take (Int.toNat (List.length (rd ([] : List Int) ops10 i11) : Int)) keys4) = (rd ([] : List Int) ops10 i11))) then
            (
              bif decide (0 ≤ i11 ∧ i11 < (List.length ops10 : Int)) then
              (
                bif decide (0 ≤ i11 ∧ i11 < (List.length ops10 : Int)) then
                bif decide (0 ≤ (List.length (rd ([] : List Int) ops10 i11) : Int) ∧ (List.length (rd ([] : List Int) ops10 i11) : Int) ≤ (List.length keys4 : Int)) then
                quoinref21_behind_P c5b (rd ([] : List Int) ops10 i11) (List.drop (Int.toNat (List.length (rd ([] : List Int) ops10 i11) : Int)) keys4) bare8 with9 ∧ (
                ∀ (r5 : (Int × Int × List Int × List Int × Int × List Int) × Int), r5 = quoinref21_behind_F c5b (rd ([] : List Int) ops10 i11) (List.drop (Int.toNat (List.length (rd ([] : List Int) ops10 i11) : Int)) keys4) bare8 with9 → (
                wfR (.tup [.v (.st (.pair (.int .u8) (.pair (.int .i64) (.pair (.str) (.pair (.str) (.pair (.int .u8) (.sl (.int .u8)))))))) r5.1, .v (.int .i64) r5.2]) → (
                kr r5.2 r5.1)))
                else False
                else False) ∧ (
                bif decide (0 ≤ i11 ∧ i11 < (List.length ops10 : Int)) then
                (
                  bif decide (0 ≤ (List.length (rd ([] : List Int) ops10 i11) : Int) ∧ (List.length (rd ([] : List Int) ops10 i11) : Int) ≤ (List.length keys4 : Int)) then
                  quoinref21_behind_P c5b (rd ([] : List Int) ops10 i11) (List.drop (Int.toNat (List.length (rd ([] : List Int) ops10 i11) : Int)) keys4) bare8 with9 ∧ (
                  ∀ (r6 : (Int × Int × List Int × List Int × Int × List Int) × Int), r6 = quoinref21_behind_F c5b (rd ([] : List Int) ops10 i11) (List.drop (Int.toNat (List.length (rd ([] : List Int) ops10 i11) : Int)) keys4) bare8 with9 → (
                  wfR (.tup [.v (.st (.pair (.int .u8) (.pair (.int .i64) (.pair (.str) (.pair (.str) (.pair (.int .u8) (.sl (.int .u8)))))))) r6.1, .v (.int .i64) r6.2]) → (
                  kr r6.2 r6.1)))
                  else False) ∧ (
                  bif decide (0 ≤ (List.length (rd ([] : List Int) ops10 i11) : Int) ∧ (List.length (rd ([] : List Int) ops10 i11) : Int) ≤ (List.length keys4 : Int)) then
                  quoinref21_behind_P c5b (rd ([] : List Int) ops10 i11) (List.drop (Int.toNat (List.length (rd ([] : List Int) ops10 i11) : Int)) keys4) bare8 with9 ∧ (
                  ∀ (r7 : (Int × Int × List Int × List Int × Int × List Int) × Int), r7 = quoinref21_behind_F c5b (rd ([] : List Int) ops10 i11) (List.drop (Int.toNat (List.length (rd ([] : List Int) ops10 i11) : Int)) keys4) bare8 with9 → (
                  wfR (.tup [.v (.st (.pair (.int .u8) (.pair (.int .i64) (.pair (.str) (.pair (.str) (.pair (.int .u8) (.sl (.int .u8)))))))) r7.1, .v (.int .i64) r7.2]) → (
                  kr r7.2 r7.1)))
                  else False) ∧ True
                else False) ∧ True
              else False) ∧ (
              bif decide (0 ≤ i11 ∧ i11 < (List.length ops10 : Int)) then
              (
                bif decide (0 ≤ i11 ∧ i11 < (List.length ops10 : Int)) then
                (
                  bif decide (0 ≤ (List.length (rd ([] : List Int) ops10 i11) : Int) ∧ (List.length (rd ([] : List Int) ops10 i11) : Int) ≤ (List.length keys4 : Int)) then
                  quoinref21_behind_P c5b (rd ([] : List Int) ops10 i11) (List.drop (Int.toNat (List.length (rd ([] : List Int) ops10 i11) : Int)) keys4) bare8 with9 ∧ (
                  ∀ (r8 : (Int × Int × List Int × List Int × Int × List Int) × Int), r8 = quoinref21_behind_F c5b (rd ([] : List Int) ops10 i11) (List.drop (Int.toNat (List.length (rd ([] : List Int) ops10 i11) : Int)) keys4) bare8 with9 → (
                  wfR (.tup [.v (.st (.pair (.int .u8) (.pair (.int .i64) (.pair (.str) (.pair (.str) (.pair (.int .u8) (.sl (.int .u8)))))))) r8.1, .v (.int .i64) r8.2]) → (
                  kr r8.2 r8.1)))
                  else False) ∧ (
                  bif decide (0 ≤ (List.length (rd ([] : List Int) ops10 i11) : Int) ∧ (List.length (rd ([] : List Int) ops10 i11) : Int) ≤ (List.length keys4 : Int)) then
                  quoinref21_behind_P c5b (rd ([] : List Int) ops10 i11) (List.drop (Int.toNat (List.length (rd ([] : List Int) ops10 i11) : Int)) keys4) bare8 with9 ∧ (
                  ∀ (r9 : (Int × Int × List Int × List Int × Int × List Int) × Int), r9 = quoinref21_behind_F c5b (rd ([] : List Int) ops10 i11) (List.drop (Int.toNat (List.length (rd ([] : List Int) ops10 i11) : Int)) keys4) bare8 with9 → (
                  wfR (.tup [.v (.st (.pair (.int .u8) (.pair (.int .i64) (.pair (.str) (.pair (.str) (.pair (.int .u8) (.sl (.int .u8)))))))) r9.1, .v (.int .i64) r9.2]) → (
                  kr r9.2 r9.1)))
                  else False) ∧ True
                else False) ∧ (
                bif decide (0 ≤ (List.length (rd ([] : List Int) ops10 i11) : Int) ∧ (List.length (rd ([] : List Int) ops10 i11) : Int) ≤ (List.length keys4 : Int)) then
                bif decide (0 ≤ i11 ∧ i11 < (List.length ops10 : Int)) then
                quoinref21_behind_P c5b (rd ([] : List Int) ops10 i11) (List.drop (Int.toNat (List.length (rd ([] : List Int) ops10 i11) : Int)) keys4) bare8 with9 ∧ (
                ∀ (r10 : (Int × Int × List Int × List Int × Int × List Int) × Int), r10 = quoinref21_behind_F c5b (rd ([] : List Int) ops10 i11) (List.drop (Int.toNat (List.length (rd ([] : List Int) ops10 i11) : Int)) keys4) bare8 with9 → (
                wfR (.tup [.v (.st (.pair (.int .u8) (.pair (.int .i64) (.pair (.str) (.pair (.str) (.pair (.int .u8) (.sl (.int .u8)))))))) r10.1, .v (.int .i64) r10.2]) → (
                kr r10.2 r10.1)))
                else False
                else False) ∧ True
              else False) ∧ True
          else
            Y keys4 bare8 with9 ops10 (IntKind.wrap .i64 (i11 + (1 : Int))) x2b c5b
          else False
          else False) ∧ (
          bif decide (0 ≤ i11 ∧ i11 < (List.length ops10 : Int)) then
          (
            bif decide (0 ≤ (List.length (rd ([] : List Int) ops10 i11) : Int) ∧ (List.length (rd ([] : List Int) ops10 i11) : Int) ≤ (List.length keys4 : Int)) then
            bif (decide ((List.take (Int.toNat (List.length (rd ([] : List Int) ops10 i11) : Int)) keys4) = (rd ([] : List Int) ops10 i11))) then
              (
                bif decide (0 ≤ i11 ∧ i11 < (List.length ops10 : Int)) then
                (
                  bif decide (0 ≤ i11 ∧ i11 < (List.length ops10 : Int)) then
                  bif decide (0 ≤ (List.length (rd ([] : List Int) ops10 i11) : Int) ∧ (List.length (rd ([] : List Int) ops10 i11) : Int) ≤ (List.length keys4 : Int)) then
                  quoinref21_behind_P c5b (rd ([] : List Int) ops10 i11) (List.drop (Int.toNat (List.length (rd ([] : List Int) ops10 i11) : Int)) keys4) bare8 with9 ∧ (
                  ∀ (r11 : (Int × Int × List Int × List Int × Int × List Int) × Int), r11 = quoinref21_behind_F c5b (rd ([] : List Int) ops10 i11) (List.drop (Int.toNat (List.length (rd ([] : List Int) ops10 i11) : Int)) keys4) bare8 with9 → (
                  wfR (.tup [.v (.st (.pair (.int .u8) (.pair (.int .i64) (.pair (.str) (.pair (.str) (.pair (.int .u8) (.sl (.int .u8)))))))) r11.1, .v (.int .i64) r11.2]) → (
                  kr r11.2 r11.1)))
                  else False
                  else False) ∧ (
                  bif decide (0 ≤ i11 ∧ i11 < (List.length ops10 : Int)) then
                  (
                    bif decide (0 ≤ (List.length (rd ([] : List Int) ops10 i11) : Int) ∧ (List.length (rd ([] : List Int) ops10 i11) : Int) ≤ (List.length keys4 : Int)) then
                    quoinref21_behind_P c5b (rd ([] : List Int) ops10 i11) (List.drop (Int.toNat (List.length (rd ([] : List Int) ops10 i11) : Int)) keys4) bare8 with9 ∧ (
                    ∀ (r12 : (Int × Int × List Int × List Int × Int × List Int) × Int), r12 = quoinref21_behind_F c5b (rd ([] : List Int) ops10 i11) (List.drop (Int.toNat (List.length (rd ([] : List Int) ops10 i11) : Int)) keys4) bare8 with9 → (
                    wfR (.tup [.v (.st (.pair (.int .u8) (.pair (.int .i64) (.pair (.str) (.pair (.str) (.pair (.int .u8) (.sl (.int .u8)))))))) r12.1, .v (.int .i64) r12.2]) → (
                    kr r12.2 r12.1)))
                    else False) ∧ (
                    bif decide (0 ≤ (List.length (rd ([] : List Int) ops10 i11) : Int) ∧ (List.length (rd ([] : List Int) ops10 i11) : Int) ≤ (List.length keys4 : Int)) then
                    quoinref21_behind_P c5b (rd ([] : List Int) ops10 i11) (List.drop (Int.toNat (List.length (rd ([] : List Int) ops10 i11) : Int)) keys4) bare8 with9 ∧ (
                    ∀ (r13 : (Int × Int × List Int × List Int × Int × List Int) × Int), r13 = quoinref21_behind_F c5b (rd ([] : List Int) ops10 i11) (List.drop (Int.toNat (List.length (rd ([] : List Int) ops10 i11) : Int)) keys4) bare8 with9 → (
                    wfR (.tup [.v (.st (.pair (.int .u8) (.pair (.int .i64) (.pair (.str) (.pair (.str) (.pair (.int .u8) (.sl (.int .u8)))))))) r13.1, .v (.int .i64) r13.2]) → (
                    kr r13.2 r13.1)))
                    else False) ∧ True
                  else False) ∧ True
                else False) ∧ (
                bif decide (0 ≤ i11 ∧ i11 < (List.length ops10 : Int)) then
                (
                  bif decide (0 ≤ i11 ∧ i11 < (List.length ops10 : Int)) then
                  (
                    bif decide (0 ≤ (List.length (rd ([] : List Int) ops10 i11) : Int) ∧ (List.length (rd ([] : List Int) ops10 i11) : Int) ≤ (List.length keys4 : Int)) then
                    quoinref21_behind_P c5b (rd ([] : List Int) ops10 i11) (List.drop (Int.toNat (List.length (rd ([] : List Int) ops10 i11) : Int)) keys4) bare8 with9 ∧ (
                    ∀ (r14 : (Int × Int × List Int × List Int × Int × List Int) × Int), r14 = quoinref21_behind_F c5b (rd ([] : List Int) ops10 i11) (List.drop (Int.toNat (List.length (rd ([] : List Int) ops10 i11) : Int)) keys4) bare8 with9 → (
                    wfR (.tup [.v (.st (.pair (.int .u8) (.pair (.int .i64) (.pair (.str) (.pair (.str) (.pair (.int .u8) (.sl (.int .u8)))))))) r14.1, .v (.int .i64) r14.2]) → (
                    kr r14.2 r14.1)))
                    else False) ∧ (
                    bif decide (0 ≤ (List.length (rd ([] : List Int) ops10 i11) : Int) ∧ (List.length (rd ([] : List Int) ops10 i11) : Int) ≤ (List.length keys4 : Int)) then
                    quoinref21_behind_P c5b (rd ([] : List Int) ops10 i11) (List.drop (Int.toNat (List.length (rd ([] : List Int) ops10 i11) : Int)) keys4) bare8 with9 ∧ (
                    ∀ (r15 : (Int × Int × List Int × List Int × Int × List Int) × Int), r15 = quoinref21_behind_F c5b (rd ([] : List Int) ops10 i11) (List.drop (Int.toNat (List.length (rd ([] : List Int) ops10 i11) : Int)) keys4) bare8 with9 → (
                    wfR (.tup [.v (.st (.pair (.int .u8) (.pair (.int .i64) (.pair (.str) (.pair (.str) (.pair (.int .u8) (.sl (.int .u8)))))))) r15.1, .v (.int .i64) r15.2]) → (
                    kr r15.2 r15.1)))
                    else False) ∧ True
                  else False) ∧ (
                  bif decide (0 ≤ (List.length (rd ([] : List Int) ops10 i11) : Int) ∧ (List.length (rd ([] : List Int) ops10 i11) : Int) ≤ (List.length keys4 : Int)) then
                  bif decide (0 ≤ i11 ∧ i11 < (List.length ops10 : Int)) then
                  quoinref21_behind_P c5b (rd ([] : List Int) ops10 i11) (List.drop (Int.toNat (List.length (rd ([] : List Int) ops10 i11) : Int)) keys4) bare8 with9 ∧ (
                  ∀ (r16 : (Int × Int × List Int × List Int × Int × List Int) × Int), r16 = quoinref21_behind_F c5b (rd ([] : List Int) ops10 i11) (List.drop (Int.toNat (List.length (rd ([] : List Int) ops10 i11) : Int)) keys4) bare8 with9 → (
                  wfR (.tup [.v (.st (.pair (.int .u8) (.pair (.int .i64) (.pair (.str) (.pair (.str) (.pair (.int .u8) (.sl (.int .u8)))))))) r16.1, .v (.int .i64) r16.2]) → (
                  kr r16.2 r16.1)))
                  else False
                  else False) ∧ True
                else False) ∧ True
            else
              Y keys4 bare8 with9 ops10 (IntKind.wrap .i64 (i11 + (1 : Int))) x2b c5b
            else False) ∧ (
            bif decide (0 ≤ (List.length (rd ([] : List Int) ops10 i11) : Int) ∧ (List.length (rd ([] : List Int) ops10 i11) : Int) ≤ (List.length keys4 : Int)) then
            bif (decide ((List.take (Int.toNat (List.length (rd ([] : List Int) ops10 i11) : Int)) keys4) = (rd ([] : List Int) ops10 i11))) then
              (
                bif decide (0 ≤ i11 ∧ i11 < (List.length ops10 : Int)) then
                (
                  bif decide (0 ≤ i11 ∧ i11 < (List.length ops10 : Int)) then
                  bif decide (0 ≤ (List.length (rd ([] : List Int) ops10 i11) : Int) ∧ (List.length (rd ([] : List Int) ops10 i11) : Int) ≤ (List.length keys4 : Int)) then
                  quoinref21_behind_P c5b (rd ([] : List Int) ops10 i11) (List.drop (Int.toNat (List.length (rd ([] : List Int) ops10 i11) : Int)) keys4) bare8 with9 ∧ (
                  ∀ (r17 : (Int × Int × List Int × List Int × Int × List Int) × Int), r17 = quoinref21_behind_F c5b (rd ([] : List Int) ops10 i11) (List.drop (Int.toNat (List.length (rd ([] : List Int) ops10 i11) : Int)) keys4) bare8 with9 → (
                  wfR (.tup [.v (.st (.pair (.int .u8) (.pair (.int .i64) (.pair (.str) (.pair (.str) (.pair (.int .u8) (.sl (.int .u8)))))))) r17.1, .v (.int .i64) r17.2]) → (
                  kr r17.2 r17.1)))
                  else False
                  else False) ∧ (
                  bif decide (0 ≤ i11 ∧ i11 < (List.length ops10 : Int)) then
                  (
                    bif decide (0 ≤ (List.length (rd ([] : List Int) ops10 i11) : Int) ∧ (List.length (rd ([] : List Int) ops10 i11) : Int) ≤ (List.length keys4 : Int)) then
                    quoinref21_behind_P c5b (rd ([] : List Int) ops10 i11) (List.drop (Int.toNat (List.length (rd ([] : List Int) ops10 i11) : Int)) keys4) bare8 with9 ∧ (
                    ∀ (r18 : (Int × Int × List Int × List Int × Int × List Int) × Int), r18 = quoinref21_behind_F c5b (rd ([] : List Int) ops10 i11) (List.drop (Int.toNat (List.length (rd ([] : List Int) ops10 i11) : Int)) keys4) bare8 with9 → (
                    wfR (.tup [.v (.st (.pair (.int .u8) (.pair (.int .i64) (.pair (.str) (.pair (.str) (.pair (.int .u8) (.sl (.int .u8)))))))) r18.1, .v (.int .i64) r18.2]) → (
                    kr r18.2 r18.1)))
                    else False) ∧ (
                    bif decide (0 ≤ (List.length (rd ([] : List Int) ops10 i11) : Int) ∧ (List.length (rd ([] : List Int) ops10 i11) : Int) ≤ (List.length keys4 : Int)) then
                    quoinref21_behind_P c5b (rd ([] : List Int) ops10 i11) (List.drop (Int.toNat (List.length (rd ([] : List Int) ops10 i11) : Int)) keys4) bare8 with9 ∧ (
                    ∀ (r19 : (Int × Int × List Int × List Int × Int × List Int) × Int), r19 = quoinref21_behind_F c5b (rd ([] : List Int) ops10 i11) (List.drop (Int.toNat (List.length (rd ([] : List Int) ops10 i11) : Int)) keys4) bare8 with9 → (
                    wfR (.tup [.v (.st (.pair (.int .u8) (.pair (.int .i64) (.pair (.str) (.pair (.str) (.pair (.int .u8) (.sl (.int .u8)))))))) r19.1, .v (.int .i64) r19.2]) → (
                    kr r19.2 r19.1)))
                    else False) ∧ True
                  else False) ∧ True
                else False) ∧ (
                bif decide (0 ≤ i11 ∧ i11 < (List.length ops10 : Int)) then
                (
                  bif decide (0 ≤ i11 ∧ i11 < (List.length ops10 : Int)) then
                  (
                    bif decide (0 ≤ (List.length (rd ([] : List Int) ops10 i11) : Int) ∧ (List.length (rd ([] : List Int) ops10 i11) : Int) ≤ (List.length keys4 : Int)) then
                    quoinref21_behind_P c5b (rd ([] : List Int) ops10 i11) (List.drop (Int.toNat (List.length (rd ([] : List Int) ops10 i11) : Int)) keys4) bare8 with9 ∧ (
                    ∀ (r20 : (Int × Int × List Int × List Int × Int × List Int) × Int), r20 = quoinref21_behind_F c5b (rd ([] : List Int) ops10 i11) (List.drop (Int.toNat (List.length (rd ([] : List Int) ops10 i11) : Int)) keys4) bare8 with9 → (
                    wfR (.tup [.v (.st (.pair (.int .u8) (.pair (.int .i64) (.pair (.str) (.pair (.str) (.pair (.int .u8) (.sl (.int .u8)))))))) r20.1, .v (.int .i64) r20.2]) → (
                    kr r20.2 r20.1)))
                    else False) ∧ (
                    bif decide (0 ≤ (List.length (rd ([] : List Int) ops10 i11) : Int) ∧ (List.length (rd ([] : List Int) ops10 i11) : Int) ≤ (List.length keys4 : Int)) then
                    quoinref21_behind_P c5b (rd ([] : List Int) ops10 i11) (List.drop (Int.toNat (List.length (rd ([] : List Int) ops10 i11) : Int)) keys4) bare8 with9 ∧ (
                    ∀ (r21 : (Int × Int × List Int × List Int × Int × List Int) × Int), r21 = quoinref21_behind_F c5b (rd ([] : List Int) ops10 i11) (List.drop (Int.toNat (List.length (rd ([] : List Int) ops10 i11) : Int)) keys4) bare8 with9 → (
                    wfR (.tup [.v (.st (.pair (.int .u8) (.pair (.int .i64) (.pair (.str) (.pair (.str) (.pair (.int .u8) (.sl (.int .u8)))))))) r21.1, .v (.int .i64) r21.2]) → (
                    kr r21.2 r21.1)))
                    else False) ∧ True
                  else False) ∧ (
                  bif decide (0 ≤ (List.length (rd ([] : List Int) ops10 i11) : Int) ∧ (List.length (rd ([] : List Int) ops10 i11) : Int) ≤ (List.length keys4 : Int)) then
                  bif decide (0 ≤ i11 ∧ i11 < (List.length ops10 : Int)) then
                  quoinref21_behind_P c5b (rd ([] : List Int) ops10 i11) (List.drop (Int.toNat (List.length (rd ([] : List Int) ops10 i11) : Int)) keys4) bare8 with9 ∧ (
                  ∀ (r22 : (Int × Int × List Int × List Int × Int × List Int) × Int), r22 = quoinref21_behind_F c5b (rd ([] : List Int) ops10 i11) (List.drop (Int.toNat (List.length (rd ([] : List Int) ops10 i11) : Int)) keys4) bare8 with9 → (
                  wfR (.tup [.v (.st (.pair (.int .u8) (.pair (.int .i64) (.pair (.str) (.pair (.str) (.pair (.int .u8) (.sl (.int .u8)))))))) r22.1, .v (.int .i64) r22.2]) → (
                  kr r22.2 r22.1)))
                  else False
                  else False) ∧ True
                else False) ∧ True
            else
              Y keys4 bare8 with9 ops10 (IntKind.wrap .i64 (i11 + (1 : Int))) x2b c5b
            else False) ∧ True
          else False) ∧ True
        else False) ∧ (
        bif decide (0 ≤ i11 ∧ i11 < (List.length ops10 : Int)) then
        (
          bif decide (0 ≤ i11 ∧ i11 < (List.length ops10 : Int)) then
          (
            bif decide (0 ≤ (List.length (rd ([] : List Int) ops10 i11) : Int) ∧ (List.length (rd ([] : List Int) ops10 i11) : Int) ≤ (List.length keys4 : Int)) then
            bif (decide ((List.take (Int.toNat (List.length (rd ([] : List Int) ops10 i11) : Int)) keys4) = (rd ([] : List Int) ops10 i11))) then
              (
                bif decide (0 ≤ i11 ∧ i11 < (List.length ops10 : Int)) then
                (
                  bif decide (0 ≤ i11 ∧ i11 < (List.length ops10 : Int)) then
                  bif decide (0 ≤ (List.length (rd ([] : List Int) ops10 i11) : Int) ∧ (List.length (rd ([] : List Int) ops10 i11) : Int) ≤ (List.length keys4 : Int)) then
                  quoinref21_behind_P c5b (rd ([] : List Int) ops10 i11) (List.drop (Int.toNat (List.length (rd ([] : List Int) ops10 i11) : Int)) keys4) bare8 with9 ∧ (
                  ∀ (r23 : (Int × Int × List Int × List Int × Int × List Int) × Int), r23 = quoinref21_behind_F c5b (rd ([] : List Int) ops10 i11) (List.drop (Int.toNat (List.length (rd ([] : List Int) ops10 i11) : Int)) keys4) bare8 with9 → (
                  wfR (.tup [.v (.st (.pair (.int .u8) (.pair (.int .i64) (.pair (.str) (.pair (.str) (.pair (.int .u8) (.sl (.int .u8)))))))) r23.1, .v (.int .i64) r23.2]) → (
                  kr r23.2 r23.1)))
                  else False
                  else False) ∧ (
                  bif decide (0 ≤ i11 ∧ i11 < (List.length ops10 : Int)) then
                  (
                    bif decide (0 ≤ (List.length (rd ([] : List Int) ops10 i11) : Int) ∧ (List.length (rd ([] : List Int) ops10 i11) : Int) ≤ (List.length keys4 : Int)) then
                    quoinref21_behind_P c5b (rd ([] : List Int) ops10 i11) (List.drop (Int.toNat (List.length (rd ([] : List Int) ops10 i11) : Int)) keys4) bare8 with9 ∧ (
                    ∀ (r24 : (Int × Int × List Int × List Int × Int × List Int) × Int), r24 = quoinref21_behind_F c5b (rd ([] : List Int) ops10 i11) (List.drop (Int.toNat (List.length (rd ([] : List Int) ops10 i11) : Int)) keys4) bare8 with9 → (
                    wfR (.tup [.v (.st (.pair (.int .u8) (.pair (.int .i64) (.pair (.str) (.pair (.str) (.pair (.int .u8) (.sl (.int .u8)))))))) r24.1, .v (.int .i64) r24.2]) → (
                    kr r24.2 r24.1)))
                    else False) ∧ (
                    bif decide (0 ≤ (List.length (rd ([] : List Int) ops10 i11) : Int) ∧ (List.length (rd ([] : List Int) ops10 i11) : Int) ≤ (List.length keys4 : Int)) then
                    quoinref21_behind_P c5b (rd ([] : List Int) ops10 i11) (List.drop (Int.toNat (List.length (rd ([] : List Int) ops10 i11) : Int)) keys4) bare8 with9 ∧ (
                    ∀ (r25 : (Int × Int × List Int × List Int × Int × List Int) × Int), r25 = quoinref21_behind_F c5b (rd ([] : List Int) ops10 i11) (List.drop (Int.toNat (List.length (rd ([] : List Int) ops10 i11) : Int)) keys4) bare8 with9 → (
                    wfR (.tup [.v (.st (.pair (.int .u8) (.pair (.int .i64) (.pair (.str) (.pair (.str) (.pair (.int .u8) (.sl (.int .u8)))))))) r25.1, .v (.int .i64) r25.2]) → (
                    kr r25.2 r25.1)))
                    else False) ∧ True
                  else False) ∧ True
                else False) ∧ (
                bif decide (0 ≤ i11 ∧ i11 < (List.length ops10 : Int)) then
                (
                  bif decide (0 ≤ i11 ∧ i11 < (List.length ops10 : Int)) then
                  (
                    bif decide (0 ≤ (List.length (rd ([] : List Int) ops10 i11) : Int) ∧ (List.length (rd ([] : List Int) ops10 i11) : Int) ≤ (List.length keys4 : Int)) then
                    quoinref21_behind_P c5b (rd ([] : List Int) ops10 i11) (List.drop (Int.toNat (List.length (rd ([] : List Int) ops10 i11) : Int)) keys4) bare8 with9 ∧ (
                    ∀ (r26 : (Int × Int × List Int × List Int × Int × List Int) × Int), r26 = quoinref21_behind_F c5b (rd ([] : List Int) ops10 i11) (List.drop (Int.toNat (List.length (rd ([] : List Int) ops10 i11) : Int)) keys4) bare8 with9 → (
                    wfR (.tup [.v (.st (.pair (.int .u8) (.pair (.int .i64) (.pair (.str) (.pair (.str) (.pair (.int .u8) (.sl (.int .u8)))))))) r26.1, .v (.int .i64) r26.2]) → (
                    kr r26.2 r26.1)))
                    else False) ∧ (
                    bif decide (0 ≤ (List.length (rd ([] : List Int) ops10 i11) : Int) ∧ (List.length (rd ([] : List Int) ops10 i11) : Int) ≤ (List.length keys4 : Int)) then
                    quoinref21_behind_P c5b (rd ([] : List Int) ops10 i11) (List.drop (Int.toNat (List.length (rd ([] : List Int) ops10 i11) : Int)) keys4) bare8 with9 ∧ (
                    ∀ (r27 : (Int × Int × List Int × List Int × Int × List Int) × Int), r27 = quoinref21_behind_F c5b (rd ([] : List Int) ops10 i11) (List.drop (Int.toNat (List.length (rd ([] : List Int) ops10 i11) : Int)) keys4) bare8 with9 → (
                    wfR (.tup [.v (.st (.pair (.int .u8) (.pair (.int .i64) (.pair (.str) (.pair (.str) (.pair (.int .u8) (.sl (.int .u8)))))))) r27.1, .v (.int .i64) r27.2]) → (
                    kr r27.2 r27.1)))
                    else False) ∧ True
                  else False) ∧ (
                  bif decide (0 ≤ (List.length (rd ([] : List Int) ops10 i11) : Int) ∧ (List.length (rd ([] : List Int) ops10 i11) : Int) ≤ (List.length keys4 : Int)) then
                  bif decide (0 ≤ i11 ∧ i11 < (List.length ops10 : Int)) then
                  quoinref21_behind_P c5b (rd ([] : List Int) ops10 i11) (List.drop (Int.toNat (List.length (rd ([] : List Int) ops10 i11) : Int)) keys4) bare8 with9 ∧ (
                  ∀ (r28 : (Int × Int × List Int × List Int × Int × List Int) × Int), r28 = quoinref21_behind_F c5b (rd ([] : List Int) ops10 i11) (List.drop (Int.toNat (List.length (rd ([] : List Int) ops10 i11) : Int)) keys4) bare8 with9 → (
                  wfR (.tup [.v (.st (.pair (.int .u8) (.pair (.int .i64) (.pair (.str) (.pair (.str) (.pair (.int .u8) (.sl (.int .u8)))))))) r28.1, .v (.int .i64) r28.2]) → (
                  kr r28.2 r28.1)))
                  else False
                  else False) ∧ True
                else False) ∧ True
            else
              Y keys4 bare8 with9 ops10 (IntKind.wrap .i64 (i11 + (1 : Int))) x2b c5b
            else False) ∧ (
            bif decide (0 ≤ (List.length (rd ([] : List Int) ops10 i11) : Int) ∧ (List.length (rd ([] : List Int) ops10 i11) : Int) ≤ (List.length keys4 : Int)) then
            bif (decide ((List.take (Int.toNat (List.length (rd ([] : List Int) ops10 i11) : Int)) keys4) = (rd ([] : List Int) ops10 i11))) then
              (
                bif decide (0 ≤ i11 ∧ i11 < (List.length ops10 : Int)) then
                (
                  bif decide (0 ≤ i11 ∧ i11 < (List.length ops10 : Int)) then
                  bif decide (0 ≤ (List.length (rd ([] : List Int) ops10 i11) : Int) ∧ (List.length (rd ([] : List Int) ops10 i11) : Int) ≤ (List.length keys4 : Int)) then
                  quoinref21_behind_P c5b (rd ([] : List Int) ops10 i11) (List.drop (Int.toNat (List.length (rd ([] : List Int) ops10 i11) : Int)) keys4) bare8 with9 ∧ (
                  ∀ (r29 : (Int × Int × List Int × List Int × Int × List Int) × Int), r29 = quoinref21_behind_F c5b (rd ([] : List Int) ops10 i11) (List.drop (Int.toNat (List.length (rd ([] : List Int) ops10 i11) : Int)) keys4) bare8 with9 → (
                  wfR (.tup [.v (.st (.pair (.int .u8) (.pair (.int .i64) (.pair (.str) (.pair (.str) (.pair (.int .u8) (.sl (.int .u8)))))))) r29.1, .v (.int .i64) r29.2]) → (
                  kr r29.2 r29.1)))
                  else False
                  else False) ∧ (
                  bif decide (0 ≤ i11 ∧ i11 < (List.length ops10 : Int)) then
                  (
                    bif decide (0 ≤ (List.length (rd ([] : List Int) ops10 i11) : Int) ∧ (List.length (rd ([] : List Int) ops10 i11) : Int) ≤ (List.length keys4 : Int)) then
                    quoinref21_behind_P c5b (rd ([] : List Int) ops10 i11) (List.drop (Int.toNat (List.length (rd ([] : List Int) ops10 i11) : Int)) keys4) bare8 with9 ∧ (
                    ∀ (r30 : (Int × Int × List Int × List Int × Int × List Int) × Int), r30 = quoinref21_behind_F c5b (rd ([] : List Int) ops10 i11) (List.drop (Int.toNat (List.length (rd ([] : List Int) ops10 i11) : Int)) keys4) bare8 with9 → (
                    wfR (.tup [.v (.st (.pair (.int .u8) (.pair (.int .i64) (.pair (.str) (.pair (.str) (.pair (.int .u8) (.sl (.int .u8)))))))) r30.1, .v (.int .i64) r30.2]) → (
                    kr r30.2 r30.1)))
                    else False) ∧ (
                    bif decide (0 ≤ (List.length (rd ([] : List Int) ops10 i11) : Int) ∧ (List.length (rd ([] : List Int) ops10 i11) : Int) ≤ (List.length keys4 : Int)) then
                    quoinref21_behind_P c5b (rd ([] : List Int) ops10 i11) (List.drop (Int.toNat (List.length (rd ([] : List Int) ops10 i11) : Int)) keys4) bare8 with9 ∧ (
                    ∀ (r31 : (Int × Int × List Int × List Int × Int × List Int) × Int), r31 = quoinref21_behind_F c5b (rd ([] : List Int) ops10 i11) (List.drop (Int.toNat (List.length (rd ([] : List Int) ops10 i11) : Int)) keys4) bare8 with9 → (
                    wfR (.tup [.v (.st (.pair (.int .u8) (.pair (.int .i64) (.pair (.str) (.pair (.str) (.pair (.int .u8) (.sl (.int .u8)))))))) r31.1, .v (.int .i64) r31.2]) → (
                    kr r31.2 r31.1)))
                    else False) ∧ True
                  else False) ∧ True
                else False) ∧ (
                bif decide (0 ≤ i11 ∧ i11 < (List.length ops10 : Int)) then
                (
                  bif decide (0 ≤ i11 ∧ i11 < (List.length ops10 : Int)) then
                  (
                    bif decide (0 ≤ (List.length (rd ([] : List Int) ops10 i11) : Int) ∧ (List.length (rd ([] : List Int) ops10 i11) : Int) ≤ (List.length keys4 : Int)) then
                    quoinref21_behind_P c5b (rd ([] : List Int) ops10 i11) (List.drop (Int.toNat (List.length (rd ([] : List Int) ops10 i11) : Int)) keys4) bare8 with9 ∧ (
                    ∀ (r32 : (Int × Int × List Int × List Int × Int × List Int) × Int), r32 = quoinref21_behind_F c5b (rd ([] : List Int) ops10 i11) (List.drop (Int.toNat (List.length (rd ([] : List Int) ops10 i11) : Int)) keys4) bare8 with9 → (
                    wfR (.tup [.v (.st (.pair (.int .u8) (.pair (.int .i64) (.pair (.str) (.pair (.str) (.pair (.int .u8) (.sl (.int .u8)))))))) r32.1, .v (.int .i64) r32.2]) → (
                    kr r32.2 r32.1)))
                    else False) ∧ (
                    bif decide (0 ≤ (List.length (rd ([] : List Int) ops10 i11) : Int) ∧ (List.length (rd ([] : List Int) ops10 i11) : Int) ≤ (List.length keys4 : Int)) then
                    quoinref21_behind_P c5b (rd ([] : List Int) ops10 i11) (List.drop (Int.toNat (List.length (rd ([] : List Int) ops10 i11) : Int)) keys4) bare8 with9 ∧ (
                    ∀ (r33 : (Int × Int × List Int × List Int × Int × List Int) × Int), r33 = quoinref21_behind_F c5b (rd ([] : List Int) ops10 i11) (List.drop (Int.toNat (List.length (rd ([] : List Int) ops10 i11) : Int)) keys4) bare8 with9 → (
                    wfR (.tup [.v (.st (.pair (.int .u8) (.pair (.int .i64) (.pair (.str) (.pair (.str) (.pair (.int .u8) (.sl (.int .u8)))))))) r33.1, .v (.int .i64) r33.2]) → (
                    kr r33.2 r33.1)))
                    else False) ∧ True
                  else False) ∧ (
                  bif decide (0 ≤ (List.length (rd ([] : List Int) ops10 i11) : Int) ∧ (List.length (rd ([] : List Int) ops10 i11) : Int) ≤ (List.length keys4 : Int)) then
                  bif decide (0 ≤ i11 ∧ i11 < (List.length ops10 : Int)) then
                  quoinref21_behind_P c5b (rd ([] : List Int) ops10 i11) (List.drop (Int.toNat (List.length (rd ([] : List Int) ops10 i11) : Int)) keys4) bare8 with9 ∧ (
                  ∀ (r34 : (Int × Int × List Int × List Int × Int × List Int) × Int), r34 = quoinref21_behind_F c5b (rd ([] : List Int) ops10 i11) (List.drop (Int.toNat (List.length (rd ([] : List Int) ops10 i11) : Int)) keys4) bare8 with9 → (
                  wfR (.tup [.v (.st (.pair (.int .u8) (.pair (.int .i64) (.pair (.str) (.pair (.str) (.pair (.int .u8) (.sl (.int .u8)))))))) r34.1, .v (.int .i64) r34.2]) → (
                  kr r34.2 r34.1)))
                  else False
                  else False) ∧ True
                else False) ∧ True
            else
              Y keys4 bare8 with9 ops10 (IntKind.wrap .i64 (i11 + (1 : Int))) x2b c5b
            else False) ∧ True
          else False) ∧ (
          bif decide (0 ≤ i11 ∧ i11 < (List.length ops10 : Int)) then
          bif decide (0 ≤ (List.length (rd ([] : List Int) ops10 i11) : Int) ∧ (List.length (rd ([] : List Int) ops10 i11) : Int) ≤ (List.length keys4 : Int)) then
          bif (decide ((List.take (Int.toNat (List.length (rd ([] : List Int) ops10 i11) : Int)) keys4) = (rd ([] : List Int) ops10 i11))) then
            (
              bif decide (0 ≤ i11 ∧ i11 < (List.length ops10 : Int)) then
              (
                bif decide (0 ≤ i11 ∧ i11 < (List.length ops10 : Int)) then
                bif decide (0 ≤ (List.length (rd ([] : List Int) ops10 i11) : Int) ∧ (List.length (rd ([] : List Int) ops10 i11) : Int) ≤ (List.length keys4 : Int)) then
                quoinref21_behind_P c5b (rd ([] : List Int) ops10 i11) (List.drop (Int.toNat (List.length (rd ([] : List Int) ops10 i11) : Int)) keys4) bare8 with9 ∧ (
                ∀ (r35 : (Int × Int × List Int × List Int × Int × List Int) × Int), r35 = quoinref21_behind_F c5b (rd ([] : List Int) ops10 i11) (List.drop (Int.toNat (List.length (rd ([] : List Int) ops10 i11) : Int)) keys4) bare8 with9 → (
                wfR (.tup [.v (.st (.pair (.int .u8) (.pair (.int .i64) (.pair (.str) (.pair (.str) (.pair (.int .u8) (.sl (.int .u8)))))))) r35.1, .v (.int .i64) r35.2]) → (
                kr r35.2 r35.1)))
                else False
                else False) ∧ (
                bif decide (0 ≤ i11 ∧ i11 < (List.length ops10 : Int)) then
                (
                  bif decide (0 ≤ (List.length (rd ([] : List Int) ops10 i11) : Int) ∧ (List.length (rd ([] : List Int) ops10 i11) : Int) ≤ (List.length keys4 : Int)) then
                  quoinref21_behind_P c5b (rd ([] : List Int) ops10 i11) (List.drop (Int.toNat (List.length (rd ([] : List Int) ops10 i11) : Int)) keys4) bare8 with9 ∧ (
                  ∀ (r36 : (Int × Int × List Int × List Int × Int × List Int) × Int), r36 = quoinref21_behind_F c5b (rd ([] : List Int) ops10 i11) (List.drop (Int.toNat (List.length (rd ([] : List Int) ops10 i11) : Int)) keys4) bare8 with9 → (
                  wfR (.tup [.v (.st (.pair (.int .u8) (.pair (.int .i64) (.pair (.str) (.pair (.str) (.pair (.int .u8) (.sl (.int .u8)))))))) r36.1, .v (.int .i64) r36.2]) → (
                  kr r36.2 r36.1)))
                  else False) ∧ (
                  bif decide (0 ≤ (List.length (rd ([] : List Int) ops10 i11) : Int) ∧ (List.length (rd ([] : List Int) ops10 i11) : Int) ≤ (List.length keys4 : Int)) then
                  quoinref21_behind_P c5b (rd ([] : List Int) ops10 i11) (List.drop (Int.toNat (List.length (rd ([] : List Int) ops10 i11) : Int)) keys4) bare8 with9 ∧ (
                  ∀ (r37 : (Int × Int × List Int × List Int × Int × List Int) × Int), r37 = quoinref21_behind_F c5b (rd ([] : List Int) ops10 i11) (List.drop (Int.toNat (List.length (rd ([] : List Int) ops10 i11) : Int)) keys4) bare8 with9 → (
                  wfR (.tup [.v (.st (.pair (.int .u8) (.pair (.int .i64) (.pair (.str) (.pair (.str) (.pair (.int .u8) (.sl (.int .u8)))))))) r37.1, .v (.int .i64) r37.2]) → (
                  kr r37.2 r37.1)))
                  else False) ∧ True
                else False) ∧ True
              else False) ∧ (
              bif decide (0 ≤ i11 ∧ i11 < (List.length ops10 : Int)) then
              (
                bif decide (0 ≤ i11 ∧ i11 < (List.length ops10 : Int)) then
                (
                  bif decide (0 ≤ (List.length (rd ([] : List Int) ops10 i11) : Int) ∧ (List.length (rd ([] : List Int) ops10 i11) : Int) ≤ (List.length keys4 : Int)) then
                  quoinref21_behind_P c5b (rd ([] : List Int) ops10 i11) (List.drop (Int.toNat (List.length (rd ([] : List Int) ops10 i11) : Int)) keys4) bare8 with9 ∧ (
                  ∀ (r38 : (Int × Int × List Int × List Int × Int × List Int) × Int), r38 = quoinref21_behind_F c5b (rd ([] : List Int) ops10 i11) (List.drop (Int.toNat (List.length (rd ([] : List Int) ops10 i11) : Int)) keys4) bare8 with9 → (
                  wfR (.tup [.v (.st (.pair (.int .u8) (.pair (.int .i64) (.pair (.str) (.pair (.str) (.pair (.int .u8) (.sl (.int .u8)))))))) r38.1, .v (.int .i64) r38.2]) → (
                  kr r38.2 r38.1)))
                  else False) ∧ (
                  bif decide (0 ≤ (List.length (rd ([] : List Int) ops10 i11) : Int) ∧ (List.length (rd ([] : List Int) ops10 i11) : Int) ≤ (List.length keys4 : Int)) then
                  quoinref21_behind_P c5b (rd ([] : List Int) ops10 i11) (List.drop (Int.toNat (List.length (rd ([] : List Int) ops10 i11) : Int)) keys4) bare8 with9 ∧ (
                  ∀ (r39 : (Int × Int × List Int × List Int × Int × List Int) × Int), r39 = quoinref21_behind_F c5b (rd ([] : List Int) ops10 i11) (List.drop (Int.toNat (List.length (rd ([] : List Int) ops10 i11) : Int)) keys4) bare8 with9 → (
                  wfR (.tup [.v (.st (.pair (.int .u8) (.pair (.int .i64) (.pair (.str) (.pair (.str) (.pair (.int .u8) (.sl (.int .u8)))))))) r39.1, .v (.int .i64) r39.2]) → (
                  kr r39.2 r39.1)))
                  else False) ∧ True
                else False) ∧ (
                bif decide (0 ≤ (List.length (rd ([] : List Int) ops10 i11) : Int) ∧ (List.length (rd ([] : List Int) ops10 i11) : Int) ≤ (List.length keys4 : Int)) then
                bif decide (0 ≤ i11 ∧ i11 < (List.length ops10 : Int)) then
                quoinref21_behind_P c5b (rd ([] : List Int) ops10 i11) (List.drop (Int.toNat (List.length (rd ([] : List Int) ops10 i11) : Int)) keys4) bare8 with9 ∧ (
                ∀ (r40 : (Int × Int × List Int × List Int × Int × List Int) × Int), r40 = quoinref21_behind_F c5b (rd ([] : List Int) ops10 i11) (List.drop (Int.toNat (List.length (rd ([] : List Int) ops10 i11) : Int)) keys4) bare8 with9 → (
                wfR (.tup [.v (.st (.pair (.int .u8) (.pair (.int .i64) (.pair (.str) (.pair (.str) (.pair (.int .u8) (.sl (.int .u8)))))))) r40.1, .v (.int .i64) r40.2]) → (
                kr r40.2 r40.1)))
                else False
                else False) ∧ True
              else False) ∧ True
          else
            Y keys4 bare8 with9 ops10 (IntKind.wrap .i64 (i11 + (1 : Int))) x2b c5b
          else False
          else False) ∧ True
        else False) ∧ True
    else
      Y keys4 bare8 with9 ops10 (IntKind.wrap .i64 (i11 + (1 : Int))) x2b c5b
    else False
  else
    kx0 keys4 bare8 with9 ops10 x2b c5b
def quoinref21_Parse_L0 (kr : Int → (Int × Int × List Int × List Int × Int × List Int) → Prop) (kx0 : List Int → List (List Int) → List (List Int) → List (List Int) → (Int × Int × List Int × List Int × Int × List Int) → (Int × Int × List Int × List Int × Int × List Int) → Prop) : Nat → List Int → List (List Int) → List (List Int) → List (List Int) → Int → (Int × Int × List Int × List Int × Int × List Int) → (Int × Int × List Int × List Int × Int × List Int) → Prop
  | 0, _, _, _, _, _, _, _ => False
  | n + 1, keys4, bare8, with9, ops10, i11, x2b, c5b => wfD quoinref21_Parse_d0 (keys4, bare8, with9, ops10, i11, x2b, c5b, ()) → quoinref21_Parse_T0 (quoinref21_Parse_L0 kr kx0 n) kr kx0 keys4 bare8 with9 ops10 i11 x2b c5b
theorem quoinref21_Parse_s0 (k : Ex → St → Prop) (Y : vals quoinref21_Parse_d0 → Prop) (keys4 : List Int) (bare8 : List (List Int)) (with9 : List (List Int)) (ops10 : List (List Int)) (i11 : Int) (x2b : (Int × Int × List Int × List Int × Int × List Int)) (c5b : (Int × Int × List Int × List Int × Int × List Int)) :
    ex tb (getG quoinref21_Parse_G) [] (at' (bodyOf Tryd.f11) [0, 0, 1, 0, 1, 1, 1, 1, 1, 1, 1, 1, 1, 1]) [0, 0, 1, 0, 1, 1, 1, 1, 1, 1, 1, 1, 1, 1] (mkD 134 quoinref21_Parse_d0 (keys4, bare8, with9, ops10, i11, x2b, c5b, ())) (lpK 134 quoinref21_Parse_d0 quoinref21_Parse_dx0 k Y) =
    quoinref21_Parse_T0 (fun keys4 bare8 with9 ops10 i11 x2b c5b => Y (keys4, bare8, with9, ops10, i11, x2b, c5b, ())) (fun x3 x2b => wfD quoinref21_Parse_d0r (x3, x2b, ()) → k .ret (mkD 134 quoinref21_Parse_d0r (x3, x2b, ()))) (fun keys4 bare8 with9 ops10 x2b c5b => wfD quoinref21_Parse_d0x0 (keys4, bare8, with9, ops10, x2b, c5b, ()) → k (.exit 0) (mkD 134 quoinref21_Parse_d0x0 (keys4, bare8, with9, ops10, x2b, c5b, ()))) keys4 bare8 with9 ops10 i11 x2b c5b := by kernel_rfl
theorem quoinref21_Parse_e0 (k : Ex → St → Prop) : ∀ (n : Nat) (keys4 : List Int) (bare8 : List (List Int)) (with9 : List (List Int)) (ops10 : List (List Int)) (i11 : Int) (x2b : (Int × Int × List Int × List Int × Int × List Int)) (c5b : (Int × Int × List Int × List Int × Int × List Int)), lpD 134 quoinref21_Parse_d0 quoinref21_Parse_dx0 (ex tb (getG quoinref21_Parse_G) [] (at' (bodyOf Tryd.f11) [0, 0, 1, 0, 1, 1, 1, 1, 1, 1, 1, 1, 1, 1]) [0, 0, 1, 0, 1, 1, 1, 1, 1, 1, 1, 1, 1, 1]) k n (keys4, bare8, with9, ops10, i11, x2b, c5b, ()) = quoinref21_Parse_L0 (fun x3 x2b => wfD quoinref21_Parse_d0r (x3, x2b, ()) → k .ret (mkD 134 quoinref21_Parse_d0r (x3, x2b, ()))) (fun keys4 bare8 with9 ops10 x2b c5b => wfD quoinref21_Parse_d0x0 (keys4, bare8, with9, ops10, x2b, c5b, ()) → k (.exit 0) (mkD 134 quoinref21_Parse_d0x0 (keys4, bare8, with9, ops10, x2b, c5b, ()))) n keys4 bare8 with9 ops10 i11 x2b c5b
  | 0, _, _, _, _, _, _, _ => rfl
  | n + 1, keys4, bare8, with9, ops10, i11, x2b, c5b => congrArg (fun Z : Prop => wfD quoinref21_Parse_d0 (keys4, bare8, with9, ops10, i11, x2b, c5b, ()) → Z) ((quoinref21_Parse_s0 k (lpD 134 quoinref21_Parse_d0 quoinref21_Parse_dx0 (ex tb (getG quoinref21_Parse_G) [] (at' (bodyOf Tryd.f11) [0, 0, 1, 0, 1, 1, 1, 1, 1, 1, 1, 1, 1, 1]) [0, 0, 1, 0, 1, 1, 1, 1, 1, 1, 1, 1, 1, 1]) k n) keys4 bare8 with9 ops10 i11 x2b c5b).trans (congrArg (fun Y => quoinref21_Parse_T0 Y (fun x3 x2b => wfD quoinref21_Parse_d0r (x3, x2b, ()) → k .ret (mkD 134 quoinref21_Parse_d0r (x3, x2b, ()))) (fun keys4 bare8 with9 ops10 x2b c5b => wfD quoinref21_Parse_d0x0 (keys4, bare8, with9, ops10, x2b, c5b, ()) → k (.exit 0) (mkD 134 quoinref21_Parse_d0x0 (keys4, bare8, with9, ops10, x2b, c5b, ()))) keys4 bare8 with9 ops10 i11 x2b c5b) (funext fun keys4 => funext fun bare8 => funext fun with9 => funext fun ops10 => funext fun i11 => funext fun x2b => funext fun c5b => quoinref21_Parse_e0 k n keys4 bare8 with9 ops10 i11 x2b c5b)))
theorem quoinref21_Parse_v0 (k : Ex → St → Prop) (n : Nat) : ∀ v : vals quoinref21_Parse_d0, lpD 134 quoinref21_Parse_d0 quoinref21_Parse_dx0 (ex tb (getG quoinref21_Parse_G) [] (at' (bodyOf Tryd.f11) [0, 0, 1, 0, 1, 1, 1, 1, 1, 1, 1, 1, 1, 1]) [0, 0, 1, 0, 1, 1, 1, 1, 1, 1, 1, 1, 1, 1]) k n v = quoinref21_Parse_L0 (fun x3 x2b => wfD quoinref21_Parse_d0r (x3, x2b, ()) → k .ret (mkD 134 quoinref21_Parse_d0r (x3, x2b, ()))) (fun keys4 bare8 with9 ops10 x2b c5b => wfD quoinref21_Parse_d0x0 (keys4, bare8, with9, ops10, x2b, c5b, ()) → k (.exit 0) (mkD 134 quoinref21_Parse_d0x0 (keys4, bare8, with9, ops10, x2b, c5b, ()))) n v.1 v.2.1 v.2.2.1 v.2.2.2.1 v.2.2.2.2.1 v.2.2.2.2.2.1 v.2.2.2.2.2.2.1
  | (keys4, bare8, with9, ops10, i11, x2b, c5b, ()) => quoinref21_Parse_e0 k n keys4 bare8 with9 ops10 i11 x2b c5b
def quoinref21_Parse_X0 : Pce := fun st k => ckD 134 quoinref21_Parse_d0 st fun v => wfD quoinref21_Parse_d0 v → ∃ n, quoinref21_Parse_L0 (fun x3 x2b => wfD quoinref21_Parse_d0r (x3, x2b, ()) → k .ret (mkD 134 quoinref21_Parse_d0r (x3, x2b, ()))) (fun keys4 bare8 with9 ops10 x2b c5b => wfD quoinref21_Parse_d0x0 (keys4, bare8, with9, ops10, x2b, c5b, ()) → k (.exit 0) (mkD 134 quoinref21_Parse_d0x0 (keys4, bare8, with9, ops10, x2b, c5b, ()))) n v.1 v.2.1 v.2.2.1 v.2.2.2.1 v.2.2.2.2.1 v.2.2.2.2.2.1 v.2.2.2.2.2.2.1
set_option maxRecDepth 20000 in
theorem quoinref21_Parse_x0 : SemOk Tryd.prog (at' (bodyOf Tryd.f11) [0, 1, 0, 1, 1, 1, 1, 1, 1, 1, 1, 1, 1]) quoinref21_Parse_X0 :=
  (SemOk.loop (ex_sound tb_M tb_ok quoinref21_Parse_Gok (LabsOk.nil) (at' (bodyOf Tryd.f11) [0, 0, 1, 0, 1, 1, 1, 1, 1, 1, 1, 1, 1, 1]) [0, 0, 1, 0, 1, 1, 1, 1, 1, 1, 1, 1, 1, 1] rfl (storesC_at quoinref21_Parse_st [0, 0, 1, 0, 1, 1, 1, 1, 1, 1, 1, 1, 1, 1])) 134 quoinref21_Parse_d0 quoinref21_Parse_dx0).mono fun st k h => ckD_mono h fun v hv hw => (hv hw).elim fun n hn => ⟨n, Eq.mpr (quoinref21_Parse_v0 k n v) hn⟩
def quoinref21_Parse_B0 : Labs := ([0, 1, 0, 1, 1, 1, 1, 1, 1, 1, 1, 1, 1], quoinref21_Parse_X0) :: []
theorem quoinref21_Parse_b0 : LabsOk Tryd.prog (bodyOf Tryd.f11) quoinref21_Parse_B0 := LabsOk.cons quoinref21_Parse_x0 (LabsOk.nil)
def quoinref21_Parse_d1 : List LS := [.b 2 16 [], .v 4 (.str), .b 5 40 [], .c 16 (.st (.pair (.int .u8) (.pair (.int .i64) (.pair (.str) (.pair (.str) (.pair (.int .u8) (.sl (.int .u8)))))))), .c 40 (.st (.pair (.int .u8) (.pair (.int .i64) (.pair (.str) (.pair (.str) (.pair (.int .u8) (.sl (.int .u8))))))))]
def quoinref21_Parse_d1r : List LS := [.b 2 16 [], .v 3 (.int .i64), .c 16 (.st (.pair (.int .u8) (.pair (.int .i64) (.pair (.str) (.pair (.str) (.pair (.int .u8) (.sl (.int .u8))))))))]
def quoinref21_Parse_dx1 : DX := ⟨none, some quoinref21_Parse_d1r, []⟩
def quoinref21_Parse_J1 (kr : Int → (Int × Int × List Int × List Int × Int × List Int) → Prop) (keys4 : List Int) (x2b : (Int × Int × List Int × List Int × Int × List Int)) (c5b : (Int × Int × List Int × List Int × Int × List Int)) : Prop :=
  quoinref21_number_P keys4 ∧ (
  ∀ (r2 : Int × Int), r2 = quoinref21_number_F keys4 → (
  wfR (.tup [.v (.int .i64) r2.1, .v (.int .i64) r2.2]) → (
  bif decide (0 ≤ r2.2 ∧ r2.2 ≤ (List.length keys4 : Int)) then
  bif (decide ((List.drop (Int.toNat r2.2) keys4) = ([] : List Int))) then
    kr (0 : Int) ((0 : Int), (0 : Int), ([] : List Int), ([] : List Int), (0 : Int), ([] : List Int))
  else
    quoinref21_motions_P  ∧ (
    ∀ (r3 : List (List Int) × List (List Int)), r3 = quoinref21_motions_F → (
    wfR (.tup [.fr 9 (.str) r3.1, .fr 9 (.str) r3.2]) → (
    quoinref21_operators_P  ∧ (
    ∀ (r4 : List (List Int)), r4 = quoinref21_operators_F → (
    wfR (.one (.fr 9 (.str) r4)) → (
    (wfD quoinref21_Parse_d0 ((List.drop (Int.toNat r2.2) keys4), r3.1, r3.2, r4, (0 : Int), x2b, (c5b.1, r2.1, c5b.2.2.1, c5b.2.2.2.1, c5b.2.2.2.2.1, c5b.2.2.2.2.2), ()) → ∃ n, quoinref21_Parse_L0 (fun (x3 : Int) (x2b : (Int × Int × List Int × List Int × Int × List Int)) => wfD quoinref21_Parse_d0r (x3, x2b, ()) → (
        kr x3 x2b)) (fun (keys4 : List Int) (bare8 : List (List Int)) (with9 : List (List Int)) (ops10 : List (List Int)) (x2b : (Int × Int × List Int × List Int × Int × List Int)) (c5b : (Int × Int × List Int × List Int × Int × List Int)) => wfD quoinref21_Parse_d0x0 (keys4, bare8, with9, ops10, x2b, c5b, ()) → (
        quoinref21_plains_P  ∧ (
        ∀ (r41 : List (List Int) × List (List Int)), r41 = quoinref21_plains_F → (
        wfR (.tup [.fr 9 (.str) r41.1, .fr 9 (.str) r41.2]) → (
        bif decide (List.length bare8 + List.length r41.1 ≤ lim) then
        bif decide (List.length with9 + List.length r41.2 ≤ lim) then
        quoinref21_known_P keys4 (bare8 ++ r41.1) (with9 ++ r41.2) ∧ (
        ∀ (r42 : Int × List Int × Int), r42 = quoinref21_known_F keys4 (bare8 ++ r41.1) (with9 ++ r41.2) → (
        wfR (.tup [.v (.int .i64) r42.1, .v (.str) r42.2.1, .v (.int .u8) r42.2.2]) → (
        bif (decide (r42.1 = (0 : Int))) then
          ∀ (r43 : Int × List Int), r43 = quoinref21_found_F keys4 ops10 → (
          wfR (.tup [.v (.int .i64) r43.1, .v (.str) r43.2]) → (
          ∀ (r44 : (Int × Int × List Int × List Int × Int × List Int) × Int), r44 = quoinref21_told_F c5b r43.1 r42.2.1 r42.2.2 → (
          wfR (.tup [.v (.st (.pair (.int .u8) (.pair (.int .i64) (.pair (.str) (.pair (.str) (.pair (.int .u8) (.sl (.int .u8)))))))) r44.1, .v (.int .i64) r44.2]) → (
          kr r44.2 r44.1))))
        else
          ∀ (r45 : (Int × Int × List Int × List Int × Int × List Int) × Int), r45 = quoinref21_told_F c5b r42.1 r42.2.1 r42.2.2 → (
          wfR (.tup [.v (.st (.pair (.int .u8) (.pair (.int .i64) (.pair (.str) (.pair (.str) (.pair (.int .u8) (.sl (.int .u8)))))))) r45.1, .v (.int .i64) r45.2]) → (
          kr r45.2 r45.1)))))
        else False
        else False))))) n (List.drop (Int.toNat r2.2) keys4) r3.1 r3.2 r4 (0 : Int) x2b (c5b.1, r2.1, c5b.2.2.1, c5b.2.2.2.1, c5b.2.2.2.2.1, c5b.2.2.2.2.2))))))))
  else False)))
theorem quoinref21_Parse_s1 (k : Ex → St → Prop) (keys4 : List Int) (x2b : (Int × Int × List Int × List Int × Int × List Int)) (c5b : (Int × Int × List Int × List Int × Int × List Int)) :
    ex tb (getG quoinref21_Parse_G) quoinref21_Parse_B0 (at' (bodyOf Tryd.f11) [1, 1, 1, 1]) [1, 1, 1, 1] (mkD 134 quoinref21_Parse_d1 (keys4, x2b, c5b, ())) (wk 134 quoinref21_Parse_dx1 k) =
    quoinref21_Parse_J1 (fun x3 x2b => wfD quoinref21_Parse_d1r (x3, x2b, ()) → k .ret (mkD 134 quoinref21_Parse_d1r (x3, x2b, ()))) keys4 x2b c5b := by kernel_rfl
theorem quoinref21_Parse_v1 (k : Ex → St → Prop) : ∀ v : vals quoinref21_Parse_d1, ex tb (getG quoinref21_Parse_G) quoinref21_Parse_B0 (at' (bodyOf Tryd.f11) [1, 1, 1, 1]) [1, 1, 1, 1] (mkD 134 quoinref21_Parse_d1 v) (wk 134 quoinref21_Parse_dx1 k) = quoinref21_Parse_J1 (fun x3 x2b => wfD quoinref21_Parse_d1r (x3, x2b, ()) → k .ret (mkD 134 quoinref21_Parse_d1r (x3, x2b, ()))) v.1 v.2.1 v.2.2.1
  | (keys4, x2b, c5b, ()) => quoinref21_Parse_s1 k keys4 x2b c5b
def quoinref21_Parse_X1 : Pce := fun st k => ckD 134 quoinref21_Parse_d1 st fun v => wfD quoinref21_Parse_d1 v → quoinref21_Parse_J1 (fun x3 x2b => wfD quoinref21_Parse_d1r (x3, x2b, ()) → k .ret (mkD 134 quoinref21_Parse_d1r (x3, x2b, ()))) v.1 v.2.1 v.2.2.1
set_option maxRecDepth 20000 in
theorem quoinref21_Parse_x1 : SemOk Tryd.prog (at' (bodyOf Tryd.f11) [1, 1, 1, 1]) quoinref21_Parse_X1 :=
  (SemOk.wk (N := 134) (ds := quoinref21_Parse_d1) (dx := quoinref21_Parse_dx1) (ex_sound tb_M tb_ok quoinref21_Parse_Gok (quoinref21_Parse_b0) (at' (bodyOf Tryd.f11) [1, 1, 1, 1]) [1, 1, 1, 1] rfl (storesC_at quoinref21_Parse_st [1, 1, 1, 1]))).mono fun st k h => ckD_mono h fun v hv hw => Eq.mpr (quoinref21_Parse_v1 k v) (hv hw)
def quoinref21_Parse_B1 : Labs := ([1, 1, 1, 1], quoinref21_Parse_X1) :: quoinref21_Parse_B0
theorem quoinref21_Parse_b1 : LabsOk Tryd.prog (bodyOf Tryd.f11) quoinref21_Parse_B1 := LabsOk.cons quoinref21_Parse_x1 (quoinref21_Parse_b0)
def quoinref21_Parse_raw (all0 : List Int) (K : Res → List Cell → Prop) : Prop :=
  bif (!decide (all0 = ([] : List Int))) then
    bif decide (0 ≤ (0 : Int) ∧ (0 : Int) < (List.length all0 : Int)) then
    bif (decide ((rd (0 : Int) all0 (0 : Int)) = (34 : Int))) then
      bif (decide ((List.length all0 : Int) = (1 : Int))) then
        K (.tup [.v (.st (.pair (.int .u8) (.pair (.int .i64) (.pair (.str) (.pair (.str) (.pair (.int .u8) (.sl (.int .u8)))))))) ((0 : Int), (0 : Int), ([] : List Int), ([] : List Int), (0 : Int), ([] : List Int)), .v (.int .i64) (0 : Int)]) []
      else
        bif decide (0 ≤ (1 : Int) ∧ (1 : Int) < (List.length all0 : Int)) then
        ∀ (r1 : Bool), r1 = quoinref21_isReg_F (rd (0 : Int) all0 (1 : Int)) → (
        wfR (.one (.v (.bool) r1)) → (
        bif (!r1) then
          K (.tup [.v (.st (.pair (.int .u8) (.pair (.int .i64) (.pair (.str) (.pair (.str) (.pair (.int .u8) (.sl (.int .u8)))))))) ((0 : Int), (0 : Int), ([] : List Int), ([] : List Int), (0 : Int), ([] : List Int)), .v (.int .i64) (2 : Int)]) []
        else
          bif decide (0 ≤ (1 : Int) ∧ (1 : Int) < (List.length all0 : Int)) then
          bif decide (0 ≤ (2 : Int) ∧ (2 : Int) ≤ (List.length all0 : Int)) then
          (wfD quoinref21_Parse_d1 ((List.drop (Int.toNat (2 : Int)) all0), ((0 : Int), (0 : Int), ([] : List Int), ([] : List Int), (0 : Int), ([] : List Int)), ((rd (0 : Int) all0 (1 : Int)), (0 : Int), ([] : List Int), ([] : List Int), (0 : Int), ([] : List Int)), ()) → quoinref21_Parse_J1 (fun (x3 : Int) (x2b : (Int × Int × List Int × List Int × Int × List Int)) => wfD quoinref21_Parse_d1r (x3, x2b, ()) → (
              K (.tup [.v (.st (.pair (.int .u8) (.pair (.int .i64) (.pair (.str) (.pair (.str) (.pair (.int .u8) (.sl (.int .u8)))))))) x2b, .v (.int .i64) x3]) [])) (List.drop (Int.toNat (2 : Int)) all0) ((0 : Int), (0 : Int), ([] : List Int), ([] : List Int), (0 : Int), ([] : List Int)) ((rd (0 : Int) all0 (1 : Int)), (0 : Int), ([] : List Int), ([] : List Int), (0 : Int), ([] : List Int)))
          else False
          else False))
        else False
    else
      (wfD quoinref21_Parse_d1 (all0, ((0 : Int), (0 : Int), ([] : List Int), ([] : List Int), (0 : Int), ([] : List Int)), ((0 : Int), (0 : Int), ([] : List Int), ([] : List Int), (0 : Int), ([] : List Int)), ()) → quoinref21_Parse_J1 (fun (x3 : Int) (x2b : (Int × Int × List Int × List Int × Int × List Int)) => wfD quoinref21_Parse_d1r (x3, x2b, ()) → (
          K (.tup [.v (.st (.pair (.int .u8) (.pair (.int .i64) (.pair (.str) (.pair (.str) (.pair (.int .u8) (.sl (.int .u8)))))))) x2b, .v (.int .i64) x3]) [])) all0 ((0 : Int), (0 : Int), ([] : List Int), ([] : List Int), (0 : Int), ([] : List Int)) ((0 : Int), (0 : Int), ([] : List Int), ([] : List Int), (0 : Int), ([] : List Int)))
    else False
  else
    (wfD quoinref21_Parse_d1 (all0, ((0 : Int), (0 : Int), ([] : List Int), ([] : List Int), (0 : Int), ([] : List Int)), ((0 : Int), (0 : Int), ([] : List Int), ([] : List Int), (0 : Int), ([] : List Int)), ()) → quoinref21_Parse_J1 (fun (x3 : Int) (x2b : (Int × Int × List Int × List Int × Int × List Int)) => wfD quoinref21_Parse_d1r (x3, x2b, ()) → (
        K (.tup [.v (.st (.pair (.int .u8) (.pair (.int .i64) (.pair (.str) (.pair (.str) (.pair (.int .u8) (.sl (.int .u8)))))))) x2b, .v (.int .i64) x3]) [])) all0 ((0 : Int), (0 : Int), ([] : List Int), ([] : List Int), (0 : Int), ([] : List Int)) ((0 : Int), (0 : Int), ([] : List Int), ([] : List Int), (0 : Int), ([] : List Int)))
def quoinref21_Parse_A : List AS := [.v (.sl (.int .u8))]
theorem quoinref21_Parse_walk (all0 : List Int) (K : Res → List Cell → Prop) : runF tb (getG quoinref21_Parse_G) quoinref21_Parse_B1 Tryd.f11 [true, true] (mkA quoinref21_Parse_A (all0, ())) K = quoinref21_Parse_raw all0 K := by kernel_rfl
/-- the operator that stands at the head -/
def opOf (keys : List Int) : List (List Int) → Option (List Int)
  | [] => none
  | o :: r => if o.length ≤ keys.length ∧ keys.take o.length = o then some o else opOf keys r
abbrev Cmd' := Int × Int × List Int × List Int × Int × List Int
def quoinref21_Parse_L0_P (keys : List Int) (bare wth ops : List (List Int)) (i : Int) (_ c : Cmd') : Prop :=
  i = 0 ∧ ops.length ≤ 100 ∧ ∀ o, opOf keys ops = some o → quoinref21_behind_P c o (keys.drop o.length) bare wth
def quoinref21_Parse_L0_F (keys : List Int) (bare wth ops : List (List Int)) (_ : Int) (x c : Cmd') : (Int × Cmd') ⊕ (List Int × List (List Int) × List (List Int) × List (List Int) × Cmd' × Cmd') :=
  match opOf keys ops with
  | some o => .inl ((quoinref21_behind_F c o (keys.drop o.length) bare wth).2, (quoinref21_behind_F c o (keys.drop o.length) bare wth).1)
  | none => .inr (keys, bare, wth, ops, x, c)
theorem quoinref21_Parse_l0 (kr : Int → Cmd' → Prop) (kx0 : List Int → List (List Int) → List (List Int) → List (List Int) → Cmd' → Cmd' → Prop) (keys : List Int) (bare wth ops : List (List Int)) (x c : Cmd') (ho : ops.length ≤ 100) :
    ∀ (m i : Nat), i ≤ ops.length → ops.length - i < m → (∀ o, opOf keys (ops.drop i) = some o → quoinref21_behind_P c o (keys.drop o.length) bare wth) →
      (∀ o, opOf keys (ops.drop i) = some o → kr (quoinref21_behind_F c o (keys.drop o.length) bare wth).2 (quoinref21_behind_F c o (keys.drop o.length) bare wth).1) →
      (opOf keys (ops.drop i) = none → kx0 keys bare wth ops x c) → quoinref21_Parse_L0 kr kx0 m keys bare wth ops (i : Int) x c
  | 0, _, _, h, _, _, _ => absurd h (Nat.not_lt_zero _)
  | m + 1, i, hi, hm, hP, hr, hn => by
    intro _
    unfold quoinref21_Parse_T0
    refine brn (fun hlt => ?_) (fun hge => ?_)
    · have hil : i < ops.length := by omega
      have hd : ops.drop i = ops[i] :: ops.drop (i + 1) := List.drop_eq_getElem_cons hil
      rw [rd_nat [] ops i hil, wrap_i64 (n := (i : Int) + 1) (by omega) (by omega), show (i : Int) + 1 = ((i + 1 : Nat) : Int) by omega]
      rw [hd] at hP hr hn
      generalize ops[i] = o at hP hr hn
      unfold opOf at hP hr hn
      have A1 : 0 ≤ (i : Int) ∧ (i : Int) < (List.length ops : Int) := ⟨by omega, by omega⟩
      have tk : Int.toNat (List.length o : Int) = o.length := by omega
      rw [tk]
      refine asrt A1 (brn (fun hle => ?_) (fun hgt => ?_))
      · have A2 : 0 ≤ (List.length o : Int) ∧ (List.length o : Int) ≤ (List.length keys : Int) := ⟨by omega, hle⟩
        by_cases ht : keys.take o.length = o
        · have hc : o.length ≤ keys.length ∧ keys.take o.length = o := ⟨by omega, ht⟩
          rw [if_pos hc] at hP hr
          have hP := hP o rfl
          have hr := hr o rfl
          have hdt : decide (keys.take o.length = o) = true := by simpa using ht
          rw [hdt]
          simp only [cond_true]
          repeat' (first | exact trivial | refine asrt A1 ?_ | refine asrt A2 ?_ | exact ⟨hP, fun r hrr _ => by rw [hrr]; exact hr⟩ | refine ⟨?_, ?_⟩)
        · have hc : ¬ (o.length ≤ keys.length ∧ keys.take o.length = o) := fun hh => ht hh.2
          rw [if_neg hc] at hP hr hn
          have hdt : decide (keys.take o.length = o) = false := by simpa using ht
          rw [hdt]
          simp only [cond_false]
          have leaf : quoinref21_Parse_L0 kr kx0 m keys bare wth ops ((i + 1 : Nat) : Int) x c := quoinref21_Parse_l0 kr kx0 keys bare wth ops x c ho m (i + 1) (by omega) (by omega) hP hr hn
          repeat' (first | exact trivial | exact leaf | refine asrt A1 ?_ | refine asrt A2 ?_ | refine ⟨?_, ?_⟩)
      · have hc : ¬ (o.length ≤ keys.length ∧ keys.take o.length = o) := fun hh => hgt (by omega)
        rw [if_neg hc] at hP hr hn
        exact quoinref21_Parse_l0 kr kx0 keys bare wth ops x c ho m (i + 1) (by omega) (by omega) hP hr hn
    · have : i = ops.length := by omega
      subst this
      exact hn (by simp [opOf])
theorem quoinref21_Parse_L0_sp (kr : Int → Cmd' → Prop) (kx0 : List Int → List (List Int) → List (List Int) → List (List Int) → Cmd' → Cmd' → Prop) (keys4 : List Int) (bare8 with9 ops10 : List (List Int)) (i11 : Int) (x2b c5b : Cmd')
    (hp : quoinref21_Parse_L0_P keys4 bare8 with9 ops10 i11 x2b c5b)
    (hr : ∀ q : Int × Cmd', quoinref21_Parse_L0_F keys4 bare8 with9 ops10 i11 x2b c5b = .inl q → kr q.1 q.2)
    (hx : ∀ q : List Int × List (List Int) × List (List Int) × List (List Int) × Cmd' × Cmd', quoinref21_Parse_L0_F keys4 bare8 with9 ops10 i11 x2b c5b = .inr q → kx0 q.1 q.2.1 q.2.2.1 q.2.2.2.1 q.2.2.2.2.1 q.2.2.2.2.2) :
    ∃ n, quoinref21_Parse_L0 kr kx0 n keys4 bare8 with9 ops10 i11 x2b c5b := by
  obtain ⟨rfl, ho, hP⟩ := hp
  refine ⟨ops10.length + 1, quoinref21_Parse_l0 kr kx0 keys4 bare8 with9 ops10 x2b c5b ho (ops10.length + 1) 0 (Nat.zero_le _) (by omega) hP (fun o h => hr (_, _) ?_) (fun h => hx (_, _, _, _, _, _) ?_)⟩
  · unfold quoinref21_Parse_L0_F
    rw [List.drop_zero] at h
    rw [h]
  · unfold quoinref21_Parse_L0_F
    rw [List.drop_zero] at h
    rw [h]

def quoinref21_Parse_J1_P (keys4 : List Int) (x2b : (Int × Int × List Int × List Int × Int × List Int)) (c5b : (Int × Int × List Int × List Int × Int × List Int)) : Prop :=
  quoinref21_number_P keys4 ∧ (
  let r2 : Int × Int := quoinref21_number_F keys4
  (0 ≤ r2.2 ∧ r2.2 ≤ (List.length keys4 : Int)) ∧ (
  bif (decide ((List.drop (Int.toNat r2.2) keys4) = ([] : List Int))) then
    True
  else
    quoinref21_motions_P  ∧ (
    let r3 : List (List Int) × List (List Int) := quoinref21_motions_F
    quoinref21_operators_P  ∧ (
    let r4 : List (List Int) := quoinref21_operators_F
    quoinref21_Parse_L0_P (List.drop (Int.toNat r2.2) keys4) r3.1 r3.2 r4 (0 : Int) x2b (c5b.1, r2.1, c5b.2.2.1, c5b.2.2.2.1, c5b.2.2.2.2.1, c5b.2.2.2.2.2) ∧ (
    Sum.elim (fun q0r =>
      True) (fun q0x0 =>
      let keys4 : List Int := q0x0.1
      let bare8 : List (List Int) := q0x0.2.1
      let with9 : List (List Int) := q0x0.2.2.1
      let ops10 : List (List Int) := q0x0.2.2.2.1
      let x2b : (Int × Int × List Int × List Int × Int × List Int) := q0x0.2.2.2.2.1
      let c5b : (Int × Int × List Int × List Int × Int × List Int) := q0x0.2.2.2.2.2
      quoinref21_plains_P  ∧ (
      let r41 : List (List Int) × List (List Int) := quoinref21_plains_F
      (List.length bare8 + List.length r41.1 ≤ lim) ∧ (
      (List.length with9 + List.length r41.2 ≤ lim) ∧ (
      quoinref21_known_P keys4 (bare8 ++ r41.1) (with9 ++ r41.2))))) (quoinref21_Parse_L0_F (List.drop (Int.toNat r2.2) keys4) r3.1 r3.2 r4 (0 : Int) x2b (c5b.1, r2.1, c5b.2.2.1, c5b.2.2.2.1, c5b.2.2.2.2.1, c5b.2.2.2.2.2)))))))
def quoinref21_Parse_J1_F (keys4 : List Int) (x2b : (Int × Int × List Int × List Int × Int × List Int)) (c5b : (Int × Int × List Int × List Int × Int × List Int)) : Int × (Int × Int × List Int × List Int × Int × List Int) :=
  let r2 : Int × Int := quoinref21_number_F keys4
  bif (decide ((List.drop (Int.toNat r2.2) keys4) = ([] : List Int))) then
    ((0 : Int), ((0 : Int), (0 : Int), ([] : List Int), ([] : List Int), (0 : Int), ([] : List Int)))
  else
    let r3 : List (List Int) × List (List Int) := quoinref21_motions_F
    let r4 : List (List Int) := quoinref21_operators_F
    Sum.elim (fun q0r =>
      let x3 : Int := q0r.1
      let x2b : (Int × Int × List Int × List Int × Int × List Int) := q0r.2
      (x3, x2b)) (fun q0x0 =>
      let keys4 : List Int := q0x0.1
      let bare8 : List (List Int) := q0x0.2.1
      let with9 : List (List Int) := q0x0.2.2.1
      let ops10 : List (List Int) := q0x0.2.2.2.1
      let x2b : (Int × Int × List Int × List Int × Int × List Int) := q0x0.2.2.2.2.1
      let c5b : (Int × Int × List Int × List Int × Int × List Int) := q0x0.2.2.2.2.2
      let r41 : List (List Int) × List (List Int) := quoinref21_plains_F
      let r42 : Int × List Int × Int := quoinref21_known_F keys4 (bare8 ++ r41.1) (with9 ++ r41.2)
      bif (decide (r42.1 = (0 : Int))) then
        let r43 : Int × List Int := quoinref21_found_F keys4 ops10
        let r44 : (Int × Int × List Int × List Int × Int × List Int) × Int := quoinref21_told_F c5b r43.1 r42.2.1 r42.2.2
        (r44.2, r44.1)
      else
        let r45 : (Int × Int × List Int × List Int × Int × List Int) × Int := quoinref21_told_F c5b r42.1 r42.2.1 r42.2.2
        (r45.2, r45.1)) (quoinref21_Parse_L0_F (List.drop (Int.toNat r2.2) keys4) r3.1 r3.2 r4 (0 : Int) x2b (c5b.1, r2.1, c5b.2.2.1, c5b.2.2.2.1, c5b.2.2.2.2.1, c5b.2.2.2.2.2))
set_option maxRecDepth 20000 in
theorem quoinref21_Parse_J1_sp (kr : Int → (Int × Int × List Int × List Int × Int × List Int) → Prop) (keys4 : List Int) (x2b : (Int × Int × List Int × List Int × Int × List Int)) (c5b : (Int × Int × List Int × List Int × Int × List Int)) (hp : quoinref21_Parse_J1_P keys4 x2b c5b) (hr : ∀ q : Int × (Int × Int × List Int × List Int × Int × List Int), q = quoinref21_Parse_J1_F keys4 x2b c5b → kr q.1 q.2) : quoinref21_Parse_J1 kr keys4 x2b c5b := by
  unfold quoinref21_Parse_J1
  unfold quoinref21_Parse_J1_P at hp
  refine ⟨hp.1, ?_⟩
  replace hp := hp.2
  intro r2 hr2
  subst hr2
  intro _
  refine asrt hp.1 ?_
  replace hp := hp.2
  refine brb (fun c_1 => ?_) (fun c_1 => ?_)
  ·
    clear hp
    have e := hr _ ((ctrue c_1) : quoinref21_Parse_J1_F keys4 x2b c5b = _).symm
    exact e
  ·
    replace hp := cF c_1 hp
    refine ⟨hp.1, ?_⟩
    replace hp := hp.2
    intro r3 hr3
    subst hr3
    intro _
    refine ⟨hp.1, ?_⟩
    replace hp := hp.2
    intro r4 hr4
    subst hr4
    intro _
    refine fun _ => quoinref21_Parse_L0_sp _ _ _ _ _ _ _ _ _ hp.1 (fun q hq => ?_) (fun q hq => ?_)
    ·
      have e_2 := hq
      intro _
      clear hp
      have e := hr _ ((Eq.trans (cfalse c_1) (selL e_2)) : quoinref21_Parse_J1_F keys4 x2b c5b = _).symm
      exact e
    ·
      have e_3 := hq
      intro _
      replace hp := hp.2
      replace hp := cR e_3 hp
      refine ⟨hp.1, ?_⟩
      replace hp := hp.2
      intro r41 hr41
      subst hr41
      intro _
      refine asrt hp.1 ?_
      replace hp := hp.2
      refine asrt hp.1 ?_
      replace hp := hp.2
      refine ⟨hp, ?_⟩
      intro r42 hr42
      subst hr42
      intro _
      refine brb (fun c_4 => ?_) (fun c_4 => ?_)
      ·
        intro r43 hr43
        subst hr43
        intro _
        intro r44 hr44
        subst hr44
        intro _
        have e := hr _ ((Eq.trans (cfalse c_1) (Eq.trans (selR e_3) (ctrue c_4))) : quoinref21_Parse_J1_F keys4 x2b c5b = _).symm
        exact e
      ·
        intro r45 hr45
        subst hr45
        intro _
        have e := hr _ ((Eq.trans (cfalse c_1) (Eq.trans (selR e_3) (cfalse c_4))) : quoinref21_Parse_J1_F keys4 x2b c5b = _).symm
        exact e
def quoinref21_Parse_P (all0 : List Int) : Prop :=
  bif (!decide (all0 = ([] : List Int))) then
    (0 ≤ (0 : Int) ∧ (0 : Int) < (List.length all0 : Int)) ∧ (
    bif (decide ((rd (0 : Int) all0 (0 : Int)) = (34 : Int))) then
      bif (decide ((List.length all0 : Int) = (1 : Int))) then
        True
      else
        (0 ≤ (1 : Int) ∧ (1 : Int) < (List.length all0 : Int)) ∧ (
        let r1 : Bool := quoinref21_isReg_F (rd (0 : Int) all0 (1 : Int))
        bif (!r1) then
          True
        else
          (0 ≤ (1 : Int) ∧ (1 : Int) < (List.length all0 : Int)) ∧ (
          (0 ≤ (2 : Int) ∧ (2 : Int) ≤ (List.length all0 : Int)) ∧ (
          quoinref21_Parse_J1_P (List.drop (Int.toNat (2 : Int)) all0) ((0 : Int), (0 : Int), ([] : List Int), ([] : List Int), (0 : Int), ([] : List Int)) ((rd (0 : Int) all0 (1 : Int)), (0 : Int), ([] : List Int), ([] : List Int), (0 : Int), ([] : List Int)))))
    else
      quoinref21_Parse_J1_P all0 ((0 : Int), (0 : Int), ([] : List Int), ([] : List Int), (0 : Int), ([] : List Int)) ((0 : Int), (0 : Int), ([] : List Int), ([] : List Int), (0 : Int), ([] : List Int)))
  else
    quoinref21_Parse_J1_P all0 ((0 : Int), (0 : Int), ([] : List Int), ([] : List Int), (0 : Int), ([] : List Int)) ((0 : Int), (0 : Int), ([] : List Int), ([] : List Int), (0 : Int), ([] : List Int))
def quoinref21_Parse_F (all0 : List Int) : (Int × Int × List Int × List Int × Int × List Int) × Int :=
  bif (!decide (all0 = ([] : List Int))) then
    bif (decide ((rd (0 : Int) all0 (0 : Int)) = (34 : Int))) then
      bif (decide ((List.length all0 : Int) = (1 : Int))) then
        (((0 : Int), (0 : Int), ([] : List Int), ([] : List Int), (0 : Int), ([] : List Int)), (0 : Int))
      else
        let r1 : Bool := quoinref21_isReg_F (rd (0 : Int) all0 (1 : Int))
        bif (!r1) then
          (((0 : Int), (0 : Int), ([] : List Int), ([] : List Int), (0 : Int), ([] : List Int)), (2 : Int))
        else
          let q1r : Int × (Int × Int × List Int × List Int × Int × List Int) := quoinref21_Parse_J1_F (List.drop (Int.toNat (2 : Int)) all0) ((0 : Int), (0 : Int), ([] : List Int), ([] : List Int), (0 : Int), ([] : List Int)) ((rd (0 : Int) all0 (1 : Int)), (0 : Int), ([] : List Int), ([] : List Int), (0 : Int), ([] : List Int))
          let x3 : Int := q1r.1
          let x2b : (Int × Int × List Int × List Int × Int × List Int) := q1r.2
          (x2b, x3)
    else
      let q1r : Int × (Int × Int × List Int × List Int × Int × List Int) := quoinref21_Parse_J1_F all0 ((0 : Int), (0 : Int), ([] : List Int), ([] : List Int), (0 : Int), ([] : List Int)) ((0 : Int), (0 : Int), ([] : List Int), ([] : List Int), (0 : Int), ([] : List Int))
      let x3 : Int := q1r.1
      let x2b : (Int × Int × List Int × List Int × Int × List Int) := q1r.2
      (x2b, x3)
  else
    let q1r : Int × (Int × Int × List Int × List Int × Int × List Int) := quoinref21_Parse_J1_F all0 ((0 : Int), (0 : Int), ([] : List Int), ([] : List Int), (0 : Int), ([] : List Int)) ((0 : Int), (0 : Int), ([] : List Int), ([] : List Int), (0 : Int), ([] : List Int))
    let x3 : Int := q1r.1
    let x2b : (Int × Int × List Int × List Int × Int × List Int) := q1r.2
    (x2b, x3)
set_option maxRecDepth 20000 in
theorem quoinref21_Parse_sp (all0 : List Int) (K : Res → List Cell → Prop) (_ : wfA quoinref21_Parse_A (all0, ())) (hp : quoinref21_Parse_P all0) (h : ∀ r : (Int × Int × List Int × List Int × Int × List Int) × Int, r = quoinref21_Parse_F all0 → K (.tup [.v (.st (.pair (.int .u8) (.pair (.int .i64) (.pair (.str) (.pair (.str) (.pair (.int .u8) (.sl (.int .u8)))))))) r.1, .v (.int .i64) r.2]) []) : quoinref21_Parse_raw all0 K := by
  unfold quoinref21_Parse_raw
  unfold quoinref21_Parse_P at hp
  refine brb (fun c_5 => ?_) (fun c_5 => ?_)
  ·
    replace hp := cT c_5 hp
    refine asrt hp.1 ?_
    replace hp := hp.2
    refine brb (fun c_6 => ?_) (fun c_6 => ?_)
    ·
      replace hp := cT c_6 hp
      refine brb (fun c_7 => ?_) (fun c_7 => ?_)
      ·
        clear hp
        have e := h _ ((Eq.trans (ctrue c_5) (Eq.trans (ctrue c_6) (ctrue c_7))) : quoinref21_Parse_F all0 = _).symm
        exact e
      ·
        replace hp := cF c_7 hp
        refine asrt hp.1 ?_
        replace hp := hp.2
        intro r1 hr1
        subst hr1
        intro _
        refine brb (fun c_8 => ?_) (fun c_8 => ?_)
        ·
          clear hp
          have e := h _ ((Eq.trans (ctrue c_5) (Eq.trans (ctrue c_6) (Eq.trans (cfalse c_7) (ctrue c_8)))) : quoinref21_Parse_F all0 = _).symm
          exact e
        ·
          replace hp := cF c_8 hp
          refine asrt hp.1 ?_
          replace hp := hp.2
          refine asrt hp.1 ?_
          replace hp := hp.2
          refine fun _ => quoinref21_Parse_J1_sp _ _ _ _ hp (fun q hq => ?_)
          subst hq
          intro _
          clear hp
          have e := h _ ((Eq.trans (ctrue c_5) (Eq.trans (ctrue c_6) (Eq.trans (cfalse c_7) (cfalse c_8)))) : quoinref21_Parse_F all0 = _).symm
          exact e
    ·
      replace hp := cF c_6 hp
      refine fun _ => quoinref21_Parse_J1_sp _ _ _ _ hp (fun q hq => ?_)
      subst hq
      intro _
      clear hp
      have e := h _ ((Eq.trans (ctrue c_5) (cfalse c_6)) : quoinref21_Parse_F all0 = _).symm
      exact e
  ·
    replace hp := cF c_5 hp
    refine fun _ => quoinref21_Parse_J1_sp _ _ _ _ hp (fun q hq => ?_)
    subst hq
    intro _
    clear hp
    have e := h _ ((cfalse c_5) : quoinref21_Parse_F all0 = _).symm
    exact e
def quoinref21_Parse_C (v : valsA quoinref21_Parse_A) (K : Res → List Cell → Prop) : Prop := quoinref21_Parse_P v.1 ∧ ∀ r : (Int × Int × List Int × List Int × Int × List Int) × Int, r = quoinref21_Parse_F v.1 → K (.tup [.v (.st (.pair (.int .u8) (.pair (.int .i64) (.pair (.str) (.pair (.str) (.pair (.int .u8) (.sl (.int .u8)))))))) r.1, .v (.int .i64) r.2]) []
def quoinref21_Parse_S : App := specW quoinref21_Parse_A quoinref21_Parse_C
theorem quoinref21_Parse_wv (K : Res → List Cell → Prop) : ∀ v : valsA quoinref21_Parse_A, runF tb (getG quoinref21_Parse_G) quoinref21_Parse_B1 Tryd.f11 [true, true] (mkA quoinref21_Parse_A v) K = quoinref21_Parse_raw v.1 K
  | (all0, ()) => quoinref21_Parse_walk all0 K
set_option maxRecDepth 20000 in
theorem quoinref21_Parse_ok : AppOk Tryd.prog 11 quoinref21_Parse_S :=
  AppOk.specW (spec_ok (runF_ok tb_M tb_ok quoinref21_Parse_Gok (quoinref21_Parse_b1) (f := 11) (fn := Tryd.f11) (by kernel_rfl) (by kernel_rfl) quoinref21_Parse_st [true, true]) fun v K hw h => (quoinref21_Parse_wv K v).mpr (quoinref21_Parse_sp v.1 K hw h.1 h.2))

end Go.VE
namespace Go.VE
open Go Go.Proofs

def bareL : List (List Int) := quoinref21_motions_F.1
def withL : List (List Int) := quoinref21_motions_F.2
def plainB : List (List Int) := quoinref21_plains_F.1
def plainW : List (List Int) := quoinref21_plains_F.2
def opsL : List (List Int) := quoinref21_operators_F
def objsL : List (List Int) := quoinref21_objects_F

theorem ops_eq : opsL = [[100], [99], [121], [62], [60], [103, 126], [103, 117], [103, 85]] := by kernel_rfl
theorem with_eq : withL = [[102], [70], [116], [84], [39], [96]] := by kernel_rfl
theorem plainW_eq : plainW = [[114], [109]] := by kernel_rfl

/-- names are short -/
theorem bare_short : ∀ n ∈ bareL ++ plainB, 1 ≤ n.length ∧ n.length ≤ 2 := by decide +kernel
theorem bare1_short : ∀ n ∈ bareL ++ objsL, 1 ≤ n.length ∧ n.length ≤ 2 := by decide +kernel
theorem with_one : ∀ n ∈ withL ++ plainW, n.length = 1 := by decide +kernel

/-- keys that are as long as any name: they are one, or nothing -/
theorem found_long (keys : List Int) : ∀ (N : List (List Int)) (st : Int), (∀ n ∈ N, n.length ≤ keys.length) → foundL keys st N = if keys ∈ N then (2, quoinref21_key_F keys) else (st, [])
  | [], st, _ => by simp [foundL]
  | n :: r, st, h => by
    unfold foundL
    by_cases he : n = keys
    · rw [if_pos he, if_pos (by simp [he]), he]
    · rw [if_neg he, if_neg (fun hh => by have := h n List.mem_cons_self; omega), found_long keys r st (fun x hx => h x (List.mem_cons_of_mem _ hx))]
      have : keys ∈ n :: r ↔ keys ∈ r := by simp [Ne.symm he]
      simp only [this]

theorem key_two (b d : Int) : quoinref21_key_F [b, d] = [b, d] := by
  unfold quoinref21_key_F
  simp
theorem key_one {b : Int} (h1 : b ≠ 127) (h2 : b ≠ 10) : quoinref21_key_F [b] = [b] := by
  unfold quoinref21_key_F
  simp [h1, h2]

/-! ### known, by the keys' length -/
theorem lastI (s : List Int) (h : 0 < s.length) (hl : s.length ≤ 1099511627776) : IntKind.wrap .i64 ((List.length s : Int) - (1 : Int)) = ((s.length - 1 : Nat) : Int) := by
  rw [wrap_i64 (by omega) (by omega)]; omega

theorem known3 {s : List Int} (hs : 3 ≤ s.length) (hl : s.length ≤ 1099511627776) {N W : List (List Int)} (hN : ∀ n ∈ N, n.length ≤ 2) (hW : ∀ n ∈ W, n.length = 1) : quoinref21_known_F s N W = (0, [], 0) := by
  have f1 : quoinref21_found_F s N = (0, []) := by
    unfold quoinref21_found_F
    rw [found_long s N 0 (fun n hn => by have := hN n hn; omega), if_neg (fun hm => by have := hN _ hm; omega)]
  have f2 : quoinref21_found_F s W = (0, []) := by
    unfold quoinref21_found_F
    rw [found_long s W 0 (fun n hn => by have := hW n hn; omega), if_neg (fun hm => by have := hW _ hm; omega)]
  have f3 : quoinref21_found_F (s.take (s.length - 1)) W = (0, []) := by
    have hlen : (s.take (s.length - 1)).length = s.length - 1 := by rw [List.length_take]; omega
    unfold quoinref21_found_F
    rw [found_long _ W 0 (fun n hn => by have := hW n hn; omega), if_neg (fun hm => by have := hW _ hm; omega)]
  unfold quoinref21_known_F
  rw [f1, f2, lastI s (by omega) hl, Int.toNat_natCast, f3]
  have hp : decide ((0 : Int) < (s.length : Int)) = true := by simp; omega
  rw [hp]
  simp only [cond_true]
  cases (!decide (rd 0 s ((s.length - 1 : Nat) : Int) = 27)) <;> rfl

theorem known2 {b d : Int} {N W : List (List Int)} (hN : ∀ n ∈ N, n.length ≤ 2) (hW : ∀ n ∈ W, n.length = 1) (hk : [b] ∈ W → b ≠ 127 ∧ b ≠ 10) :
    quoinref21_known_F [b, d] N W = if [b, d] ∈ N then (2, [b, d], 0) else if [b] ∈ W ∧ d ≠ 27 then (2, [b], d) else (0, [], 0) := by
  have f1 : quoinref21_found_F [b, d] N = if [b, d] ∈ N then (2, [b, d]) else (0, []) := by
    unfold quoinref21_found_F
    rw [found_long [b, d] N 0 (fun n hn => hN n hn), key_two]
  have f2 : quoinref21_found_F [b, d] W = (0, []) := by
    unfold quoinref21_found_F
    rw [found_long [b, d] W 0 (fun n hn => by have := hW n hn; simp; omega), if_neg (fun hm => by have := hW _ hm; simp at this)]
  have f3 : quoinref21_found_F [b] W = if [b] ∈ W then (2, [b]) else (0, []) := by
    unfold quoinref21_found_F
    rw [found_long [b] W 0 (fun n hn => by have := hW n hn; simp; omega)]
    by_cases hm : [b] ∈ W
    · rw [if_pos hm, if_pos hm, key_one (hk hm).1 (hk hm).2]
    · rw [if_neg hm, if_neg hm]
  unfold quoinref21_known_F
  rw [f1, f2]
  by_cases h1 : [b, d] ∈ N
  · rw [if_pos h1, if_pos h1]; rfl
  · rw [if_neg h1, if_neg h1]
    have e1 : IntKind.wrap .i64 ((List.length [b, d] : Int) - (1 : Int)) = 1 := by
      show IntKind.wrap .i64 ((2 : Int) - 1) = 1
      decide
    rw [e1]
    show (bif (!decide (d = 27)) then (bif decide ((quoinref21_found_F [b] W).1 = 2) then ((2 : Int), (quoinref21_found_F [b] W).2, d) else (0, [], 0)) else (0, [], 0)) = _
    rw [f3]
    by_cases h2 : [b] ∈ W
    · by_cases h3 : d = 27
      · simp [h2, h3]
      · simp [h2, h3]
    · simp [h2]
end Go.VE
