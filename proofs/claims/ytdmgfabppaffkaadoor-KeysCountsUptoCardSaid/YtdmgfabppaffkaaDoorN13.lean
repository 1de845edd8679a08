/- KeysCounts: whatever the input, up to the bulk that the statement names, the law answers true, and what was handed in reads as it did. Its conditions: the bound of the given statement and the tables that its card ties, no other. -/
import Derived.Test.YtdmgfabppaffkaaDoorN12
set_option linter.unusedVariables false
set_option linter.unusedSectionVars false
set_option linter.unusedSimpArgs false
namespace Go.VE
open Go Go.Proofs
/-! ### quoin/quoinlaw21.KeysMore -/
def quoinlaw21_KeysMore_G : List (Nat × App) := [(10, quoinlaw21_awake_S), (12, keys_Parse_S)]
theorem quoinlaw21_KeysMore_Gok : GOk Tryd.prog (getG quoinlaw21_KeysMore_G) := GOk.cons quoinlaw21_awake_ok (GOk.cons keys_Parse_ok (GOk.nil))
theorem quoinlaw21_KeysMore_st : storesC (bodyOf Tryd.f7) = true := by kernel_rfl
def quoinlaw21_KeysMore_d0 : List LS := [.v 0 (.sl (.int .u8)), .o 5 45 9 (.str), .v 6 (.int .i64)]
def quoinlaw21_KeysMore_d0r : List LS := [.v 2 (.bool)]
def quoinlaw21_KeysMore_d0x0 : List LS := []
def quoinlaw21_KeysMore_dx0 : DX := ⟨none, some quoinlaw21_KeysMore_d0r, [(0, quoinlaw21_KeysMore_d0x0)]⟩
def quoinlaw21_KeysMore_T0 (Y : List Int → List (List Int) → Int → Prop) (kr : Bool → Prop) (kx0 : Prop) (all0 : List Int) (tails5 : List (List Int)) (i6 : Int) : Prop :=
  bif (decide (i6 < (List.length tails5 : Int))) then
    (
      (
        bif decide (List.length ([] : List Int) + List.length all0 ≤ lim) then
        (
          bif decide (0 ≤ i6 ∧ i6 < (List.length tails5 : Int)) then
          (
            (
              bif decide (List.length (([] : List Int) ++ all0) + List.length (rd ([] : List Int) tails5 i6) ≤ lim) then
              (
                keys_Parse_P ((([] : List Int) ++ all0) ++ (rd ([] : List Int) tails5 i6)) ∧ (
                ∀ (r3 : (Int × Int × List Int × List Int × Int × List Int) × Int), r3 = keys_Parse_F ((([] : List Int) ++ all0) ++ (rd ([] : List Int) tails5 i6)) → (
                wfR (.tup [.v (.st (.pair (.int .u8) (.pair (.int .i64) (.pair (.str) (.pair (.str) (.pair (.int .u8) (.sl (.int .u8)))))))) r3.1, .v (.int .i64) r3.2]) → (
                bif (decide (r3.2 = (1 : Int))) then
                  kr true
                else
                  Y all0 tails5 (IntKind.wrap .i64 (i6 + (1 : Int))))))) ∧ (
                keys_Parse_P ((([] : List Int) ++ all0) ++ (rd ([] : List Int) tails5 i6)) ∧ (
                ∀ (r4 : (Int × Int × List Int × List Int × Int × List Int) × Int), r4 = keys_Parse_F ((([] : List Int) ++ all0) ++ (rd ([] : List Int) tails5 i6)) → (
                wfR (.tup [.v (.st (.pair (.int .u8) (.pair (.int .i64) (.pair (.str) (.pair (.str) (.pair (.int .u8) (.sl (.int .u8)))))))) r4.1, .v (.int .i64) r4.2]) → (
                bif (decide (r4.2 = (1 : Int))) then
                  kr true
                else
                  Y all0 tails5 (IntKind.wrap .i64 (i6 + (1 : Int))))))) ∧ True
              else False) ∧ (
              bif decide (List.length (([] : List Int) ++ all0) + List.length (rd ([] : List Int) tails5 i6) ≤ lim) then
              keys_Parse_P ((([] : List Int) ++ all0) ++ (rd ([] : List Int) tails5 i6)) ∧ (
              ∀ (r5 : (Int × Int × List Int × List Int × Int × List Int) × Int), r5 = keys_Parse_F ((([] : List Int) ++ all0) ++ (rd ([] : List Int) tails5 i6)) → (
              wfR (.tup [.v (.st (.pair (.int .u8) (.pair (.int .i64) (.pair (.str) (.pair (.str) (.pair (.int .u8) (.sl (.int .u8)))))))) r5.1, .v (.int .i64) r5.2]) → (
              bif (decide (r5.2 = (1 : Int))) then
                kr true
              else
                Y all0 tails5 (IntKind.wrap .i64 (i6 + (1 : Int))))))
              else False) ∧ True) ∧ (
            bif decide (List.length (([] : List Int) ++ all0) + List.length (rd ([] : List Int) tails5 i6) ≤ lim) then
            keys_Parse_P ((([] : List Int) ++ all0) ++ (rd ([] : List Int) tails5 i6)) ∧ (
            ∀ (r6 : (Int × Int × List Int × List Int × Int × List Int) × Int), r6 = keys_Parse_F ((([] : List Int) ++ all0) ++ (rd ([] : List Int) tails5 i6)) → (
            wfR (.tup [.v (.st (.pair (.int .u8) (.pair (.int .i64) (.pair (.str) (.pair (.str) (.pair (.int .u8) (.sl (.int .u8)))))))) r6.1, .v (.int .i64) r6.2]) → (
            bif (decide (r6.2 = (1 : Int))) then
              kr true
            else
              Y all0 tails5 (IntKind.wrap .i64 (i6 + (1 : Int))))))
            else False) ∧ True
          else False) ∧ (
          bif decide (0 ≤ i6 ∧ i6 < (List.length tails5 : Int)) then
          bif decide (List.length (([] : List Int) ++ all0) + List.length (rd ([] : List Int) tails5 i6) ≤ lim) then
          keys_Parse_P ((([] : List Int) ++ all0) ++ (rd ([] : List Int) tails5 i6)) ∧ (
          ∀ (r7 : (Int × Int × List Int × List Int × Int × List Int) × Int), r7 = keys_Parse_F ((([] : List Int) ++ all0) ++ (rd ([] : List Int) tails5 i6)) → (
          wfR (.tup [.v (.st (.pair (.int .u8) (.pair (.int .i64) (.pair (.str) (.pair (.str) (.pair (.int .u8) (.sl (.int .u8)))))))) r7.1, .v (.int .i64) r7.2]) → (
          bif (decide (r7.2 = (1 : Int))) then
            kr true
          else
            Y all0 tails5 (IntKind.wrap .i64 (i6 + (1 : Int))))))
          else False
          else False) ∧ True
        else False) ∧ (
        bif decide (0 ≤ i6 ∧ i6 < (List.length tails5 : Int)) then
        (
          bif decide (List.length ([] : List Int) + List.length all0 ≤ lim) then
          (
            (
              bif decide (List.length (([] : List Int) ++ all0) + List.length (rd ([] : List Int) tails5 i6) ≤ lim) then
              (
                keys_Parse_P ((([] : List Int) ++ all0) ++ (rd ([] : List Int) tails5 i6)) ∧ (
                ∀ (r8 : (Int × Int × List Int × List Int × Int × List Int) × Int), r8 = keys_Parse_F ((([] : List Int) ++ all0) ++ (rd ([] : List Int) tails5 i6)) → (
                wfR (.tup [.v (.st (.pair (.int .u8) (.pair (.int .i64) (.pair (.str) (.pair (.str) (.pair (.int .u8) (.sl (.int .u8)))))))) r8.1, .v (.int .i64) r8.2]) → (
                bif (decide (r8.2 = (1 : Int))) then
                  kr true
                else
                  Y all0 tails5 (IntKind.wrap .i64 (i6 + (1 : Int))))))) ∧ (
                keys_Parse_P ((([] : List Int) ++ all0) ++ (rd ([] : List Int) tails5 i6)) ∧ (
                ∀ (r9 : (Int × Int × List Int × List Int × Int × List Int) × Int), r9 = keys_Parse_F ((([] : List Int) ++ all0) ++ (rd ([] : List Int) tails5 i6)) → (
                wfR (.tup [.v (.st (.pair (.int .u8) (.pair (.int .i64) (.pair (.str) (.pair (.str) (.pair (.int .u8) (.sl (.int .u8)))))))) r9.1, .v (.int .i64) r9.2]) → (
                bif (decide (r9.2 = (1 : Int))) then
                  kr true
                else
                  Y all0 tails5 (IntKind.wrap .i64 (i6 + (1 : Int))))))) ∧ True
              else False) ∧ (
              bif decide (List.length (([] : List Int) ++ all0) + List.length (rd ([] : List Int) tails5 i6) ≤ lim) then
              keys_Parse_P ((([] : List Int) ++ all0) ++ (rd ([] : List Int) tails5 i6)) ∧ (
              ∀ (r10 : (Int × Int × List Int × List Int × Int × List Int) × Int), r10 = keys_Parse_F ((([] : List Int) ++ all0) ++ (rd ([] : List Int) tails5 i6)) → (
              wfR (.tup [.v (.st (.pair (.int .u8) (.pair (.int .i64) (.pair (.str) (.pair (.str) (.pair (.int .u8) (.sl (.int .u8)))))))) r10.1, .v (.int .i64) r10.2]) → (
              bif (decide (r10.2 = (1 : Int))) then
                kr true
              else
                Y all0 tails5 (IntKind.wrap .i64 (i6 + (1 : Int))))))
              else False) ∧ True) ∧ (
            bif decide (List.length (([] : List Int) ++ all0) + List.length (rd ([] : List Int) tails5 i6) ≤ lim) then
            keys_Parse_P ((([] : List Int) ++ all0) ++ (rd ([] : List Int) tails5 i6)) ∧ (
            ∀ (r11 : (Int × Int × List Int × List Int × Int × List Int) × Int), r11 = keys_Parse_F ((([] : List Int) ++ all0) ++ (rd ([] : List Int) tails5 i6)) → (
            wfR (.tup [.v (.st (.pair (.int .u8) (.pair (.int .i64) (.pair (.str) (.pair (.str) (.pair (.int .u8) (.sl (.int .u8)))))))) r11.1, .v (.int .i64) r11.2]) → (
            bif (decide (r11.2 = (1 : Int))) then
              kr true
            else
              Y all0 tails5 (IntKind.wrap .i64 (i6 + (1 : Int))))))
            else False) ∧ True
          else False) ∧ (
          (
            bif decide (List.length ([] : List Int) + List.length all0 ≤ lim) then
            (
              bif decide (List.length (([] : List Int) ++ all0) + List.length (rd ([] : List Int) tails5 i6) ≤ lim) then
              (
                keys_Parse_P ((([] : List Int) ++ all0) ++ (rd ([] : List Int) tails5 i6)) ∧ (
                ∀ (r12 : (Int × Int × List Int × List Int × Int × List Int) × Int), r12 = keys_Parse_F ((([] : List Int) ++ all0) ++ (rd ([] : List Int) tails5 i6)) → (
                wfR (.tup [.v (.st (.pair (.int .u8) (.pair (.int .i64) (.pair (.str) (.pair (.str) (.pair (.int .u8) (.sl (.int .u8)))))))) r12.1, .v (.int .i64) r12.2]) → (
                bif (decide (r12.2 = (1 : Int))) then
                  kr true
                else
                  Y all0 tails5 (IntKind.wrap .i64 (i6 + (1 : Int))))))) ∧ (
                keys_Parse_P ((([] : List Int) ++ all0) ++ (rd ([] : List Int) tails5 i6)) ∧ (
                ∀ (r13 : (Int × Int × List Int × List Int × Int × List Int) × Int), r13 = keys_Parse_F ((([] : List Int) ++ all0) ++ (rd ([] : List Int) tails5 i6)) → (
                wfR (.tup [.v (.st (.pair (.int .u8) (.pair (.int .i64) (.pair (.str) (.pair (.str) (.pair (.int .u8) (.sl (.int .u8)))))))) r13.1, .v (.int .i64) r13.2]) → (
                bif (decide (r13.2 = (1 : Int))) then
                  kr true
                else
                  Y all0 tails5 (IntKind.wrap .i64 (i6 + (1 : Int))))))) ∧ True
              else False) ∧ (
              bif decide (List.length (([] : List Int) ++ all0) + List.length (rd ([] : List Int) tails5 i6) ≤ lim) then
              keys_Parse_P ((([] : List Int) ++ all0) ++ (rd ([] : List Int) tails5 i6)) ∧ (
              ∀ (r14 : (Int × Int × List Int × List Int × Int × List Int) × Int), r14 = keys_Parse_F ((([] : List Int) ++ all0) ++ (rd ([] : List Int) tails5 i6)) → (
              wfR (.tup [.v (.st (.pair (.int .u8) (.pair (.int .i64) (.pair (.str) (.pair (.str) (.pair (.int .u8) (.sl (.int .u8)))))))) r14.1, .v (.int .i64) r14.2]) → (
              bif (decide (r14.2 = (1 : Int))) then
                kr true
              else
                Y all0 tails5 (IntKind.wrap .i64 (i6 + (1 : Int))))))
              else False) ∧ True
            else False) ∧ (
            bif decide (List.length ([] : List Int) + List.length all0 ≤ lim) then
            bif decide (List.length (([] : List Int) ++ all0) + List.length (rd ([] : List Int) tails5 i6) ≤ lim) then
            keys_Parse_P ((([] : List Int) ++ all0) ++ (rd ([] : List Int) tails5 i6)) ∧ (
            ∀ (r15 : (Int × Int × List Int × List Int × Int × List Int) × Int), r15 = keys_Parse_F ((([] : List Int) ++ all0) ++ (rd ([] : List Int) tails5 i6)) → (
            wfR (.tup [.v (.st (.pair (.int .u8) (.pair (.int .i64) (.pair (.str) (.pair (.str) (.pair (.int .u8) (.sl (.int .u8)))))))) r15.1, .v (.int .i64) r15.2]) → (
            bif (decide (r15.2 = (1 : Int))) then
              kr true
            else
              Y all0 tails5 (IntKind.wrap .i64 (i6 + (1 : Int))))))
            else False
            else False) ∧ True) ∧ (
          (
            bif decide (List.length ([] : List Int) + List.length all0 ≤ lim) then
            bif decide (List.length (([] : List Int) ++ all0) + List.length (rd ([] : List Int) tails5 i6) ≤ lim) then
            keys_Parse_P ((([] : List Int) ++ all0) ++ (rd ([] : List Int) tails5 i6)) ∧ (
            ∀ (r16 : (Int × Int × List Int × List Int × Int × List Int) × Int), r16 = keys_Parse_F ((([] : List Int) ++ all0) ++ (rd ([] : List Int) tails5 i6)) → (
            wfR (.tup [.v (.st (.pair (.int .u8) (.pair (.int .i64) (.pair (.str) (.pair (.str) (.pair (.int .u8) (.sl (.int .u8)))))))) r16.1, .v (.int .i64) r16.2]) → (
            bif (decide (r16.2 = (1 : Int))) then
              kr true
            else
              Y all0 tails5 (IntKind.wrap .i64 (i6 + (1 : Int))))))
            else False
            else False) ∧ (
            bif decide (List.length ([] : List Int) + List.length all0 ≤ lim) then
            bif decide (List.length (([] : List Int) ++ all0) + List.length (rd ([] : List Int) tails5 i6) ≤ lim) then
            keys_Parse_P ((([] : List Int) ++ all0) ++ (rd ([] : List Int) tails5 i6)) ∧ (
            ∀ (r17 : (Int × Int × List Int × List Int × Int × List Int) × Int), r17 = keys_Parse_F ((([] : List Int) ++ all0) ++ (rd ([] : List Int) tails5 i6)) → (
            wfR (.tup [.v (.st (.pair (.int .u8) (.pair (.int .i64) (.pair (.str) (.pair (.str) (.pair (.int .u8) (.sl (.int .u8)))))))) r17.1, .v (.int .i64) r17.2]) → (
            bif (decide (r17.2 = (1 : Int))) then
              kr true
            else
              Y all0 tails5 (IntKind.wrap .i64 (i6 + (1 : Int))))))
            else False
            else False) ∧ True) ∧ True
        else False) ∧ (
        (
          bif decide (List.length ([] : List Int) + List.length all0 ≤ lim) then
          bif decide (0 ≤ i6 ∧ i6 < (List.length tails5 : Int)) then
          bif decide (List.length (([] : List Int) ++ all0) + List.length (rd ([] : List Int) tails5 i6) ≤ lim) then
          keys_Parse_P ((([] : List Int) ++ all0) ++ (rd ([] : List Int) tails5 i6)) ∧ (
          ∀ (r18 : (Int × Int × List Int × List Int × Int × List Int) × Int), r18 = keys_Parse_F ((([] : List Int) ++ all0) ++ (rd ([] : List Int) tails5 i6)) → (
          wfR (.tup [.v (.st (.pair (.int .u8) (.pair (.int .i64) (.pair (.str) (.pair (.str) (.pair (.int .u8) (.sl (.int .u8)))))))) r18.1, .v (.int .i64) r18.2]) → (
          bif (decide (r18.2 = (1 : Int))) then
            kr true
          else
            Y all0 tails5 (IntKind.wrap .i64 (i6 + (1 : Int))))))
          else False
          else False
          else False) ∧ (
          bif decide (0 ≤ i6 ∧ i6 < (List.length tails5 : Int)) then
          (
            bif decide (List.length ([] : List Int) + List.length all0 ≤ lim) then
            bif decide (List.length (([] : List Int) ++ all0) + List.length (rd ([] : List Int) tails5 i6) ≤ lim) then
            keys_Parse_P ((([] : List Int) ++ all0) ++ (rd ([] : List Int) tails5 i6)) ∧ (
            ∀ (r19 : (Int × Int × List Int × List Int × Int × List Int) × Int), r19 = keys_Parse_F ((([] : List Int) ++ all0) ++ (rd ([] : List Int) tails5 i6)) → (
            wfR (.tup [.v (.st (.pair (.int .u8) (.pair (.int .i64) (.pair (.str) (.pair (.str) (.pair (.int .u8) (.sl (.int .u8)))))))) r19.1, .v (.int .i64) r19.2]) → (
            bif (decide (r19.2 = (1 : Int))) then
              kr true
            else
              Y all0 tails5 (IntKind.wrap .i64 (i6 + (1 : Int))))))
            else False
            else False) ∧ (
            bif decide (List.length ([] : List Int) + List.length all0 ≤ lim) then
            bif decide (List.length (([] : List Int) ++ all0) + List.length (rd ([] : List Int) tails5 i6) ≤ lim) then
            keys_Parse_P ((([] : List Int) ++ all0) ++ (rd ([] : List Int) tails5 i6)) ∧ (
            ∀ (r20 : (Int × Int × List Int × List Int × Int × List Int) × Int), r20 = keys_Parse_F ((([] : List Int) ++ all0) ++ (rd ([] : List Int) tails5 i6)) → (
            wfR (.tup [.v (.st (.pair (.int .u8) (.pair (.int .i64) (.pair (.str) (.pair (.str) (.pair (.int .u8) (.sl (.int .u8)))))))) r20.1, .v (.int .i64) r20.2]) → (
            bif (decide (r20.2 = (1 : Int))) then
              kr true
            else
              Y all0 tails5 (IntKind.wrap .i64 (i6 + (1 : Int))))))
            else False
            else False) ∧ True
          else False) ∧ True) ∧ True) ∧ (
      bif decide (0 ≤ i6 ∧ i6 < (List.length tails5 : Int)) then
      (
        (
          bif decide (List.length ([] : List Int) + List.length all0 ≤ lim) then
          (
            (
              bif decide (List.length (([] : List Int) ++ all0) + List.length (rd ([] : List Int) tails5 i6) ≤ lim) then
              (
                keys_Parse_P ((([] : List Int) ++ all0) ++ (rd ([] : List Int) tails5 i6)) ∧ (
                ∀ (r21 : (Int × Int × List Int × List Int × Int × List Int) × Int), r21 = keys_Parse_F ((([] : List Int) ++ all0) ++ (rd ([] : List Int) tails5 i6)) → (
                wfR (.tup [.v (.st (.pair (.int .u8) (.pair (.int .i64) (.pair (.str) (.pair (.str) (.pair (.int .u8) (.sl (.int .u8)))))))) r21.1, .v (.int .i64) r21.2]) → (
                bif (decide (r21.2 = (1 : Int))) then
                  kr true
                else
                  Y all0 tails5 (IntKind.wrap .i64 (i6 + (1 : Int))))))) ∧ (
                keys_Parse_P ((([] : List Int) ++ all0) ++ (rd ([] : List Int) tails5 i6)) ∧ (
                ∀ (r22 : (Int × Int × List Int × List Int × Int × List Int) × Int), r22 = keys_Parse_F ((([] : List Int) ++ all0) ++ (rd ([] : List Int) tails5 i6)) → (
                wfR (.tup [.v (.st (.pair (.int .u8) (.pair (.int .i64) (.pair (.str) (.pair (.str) (.pair (.int .u8) (.sl (.int .u8)))))))) r22.1, .v (.int .i64) r22.2]) → (
                bif (decide (r22.2 = (1 : Int))) then
                  kr true
                else
                  Y all0 tails5 (IntKind.wrap .i64 (i6 + (1 : Int))))))) ∧ True
              else False) ∧ (
              bif decide (List.length (([] : List Int) ++ all0) + List.length (rd ([] : List Int) tails5 i6) ≤ lim) then
              keys_Parse_P ((([] : List Int) ++ all0) ++ (rd ([] : List Int) tails5 i6)) ∧ (
              ∀ (r23 : (Int × Int × List Int × List Int × Int × List Int) × Int), r23 = keys_Parse_F ((([] : List Int) ++ all0) ++ (rd ([] : List Int) tails5 i6)) → (
              wfR (.tup [.v (.st (.pair (.int .u8) (.pair (.int .i64) (.pair (.str) (.pair (.str) (.pair (.int .u8) (.sl (.int .u8)))))))) r23.1, .v (.int .i64) r23.2]) → (
              bif (decide (r23.2 = (1 : Int))) then
                kr true
              else
                Y all0 tails5 (IntKind.wrap .i64 (i6 + (1 : Int))))))
              else False) ∧ True) ∧ (
            bif decide (List.length (([] : List Int) ++ all0) + List.length (rd ([] : List Int) tails5 i6) ≤ lim) then
            keys_Parse_P ((([] : List Int) ++ all0) ++ (rd ([] : List Int) tails5 i6)) ∧ (
            ∀ (r24 : (Int × Int × List Int × List Int × Int × List Int) × Int), r24 = keys_Parse_F ((([] : List Int) ++ all0) ++ (rd ([] : List Int) tails5 i6)) → (
            wfR (.tup [.v (.st (.pair (.int .u8) (.pair (.int .i64) (.pair (.str) (.pair (.str) (.pair (.int .u8) (.sl (.int .u8)))))))) r24.1, .v (.int .i64) r24.2]) → (
            bif (decide (r24.2 = (1 : Int))) then
              kr true
            else
              Y all0 tails5 (IntKind.wrap .i64 (i6 + (1 : Int))))))
            else False) ∧ True
          else False) ∧ (
          (
            bif decide (List.length ([] : List Int) + List.length all0 ≤ lim) then
            (
              bif decide (List.length (([] : List Int) ++ all0) + List.length (rd ([] : List Int) tails5 i6) ≤ lim) then
              (
                keys_Parse_P ((([] : List Int) ++ all0) ++ (rd ([] : List Int) tails5 i6)) ∧ (
                ∀ (r25 : (Int × Int × List Int × List Int × Int × List Int) × Int), r25 = keys_Parse_F ((([] : List Int) ++ all0) ++ (rd ([] : List Int) tails5 i6)) → (
                wfR (.tup [.v (.st (.pair (.int .u8) (.pair (.int .i64) (.pair (.str) (.pair (.str) (.pair (.int .u8) (.sl (.int .u8)))))))) r25.1, .v (.int .i64) r25.2]) → (
                bif (decide (r25.2 = (1 : Int))) then
                  kr true
                else
                  Y all0 tails5 (IntKind.wrap .i64 (i6 + (1 : Int))))))) ∧ (
                keys_Parse_P ((([] : List Int) ++ all0) ++ (rd ([] : List Int) tails5 i6)) ∧ (
                ∀ (r26 : (Int × Int × List Int × List Int × Int × List Int) × Int), r26 = keys_Parse_F ((([] : List Int) ++ all0) ++ (rd ([] : List Int) tails5 i6)) → (
                wfR (.tup [.v (.st (.pair (.int .u8) (.pair (.int .i64) (.pair (.str) (.pair (.str) (.pair (.int .u8) (.sl (.int .u8)))))))) r26.1, .v (.int .i64) r26.2]) → (
                bif (decide (r26.2 = (1 : Int))) then
                  kr true
                else
                  Y all0 tails5 (IntKind.wrap .i64 (i6 + (1 : Int))))))) ∧ True
              else False) ∧ (
              bif decide (List.length (([] : List Int) ++ all0) + List.length (rd ([] : List Int) tails5 i6) ≤ lim) then
              keys_Parse_P ((([] : List Int) ++ all0) ++ (rd ([] : List Int) tails5 i6)) ∧ (
              ∀ (r27 : (Int × Int × List Int × List Int × Int × List Int) × Int), r27 = keys_Parse_F ((([] : List Int) ++ all0) ++ (rd ([] : List Int) tails5 i6)) → (
              wfR (.tup [.v (.st (.pair (.int .u8) (.pair (.int .i64) (.pair (.str) (.pair (.str) (.pair (.int .u8) (.sl (.int .u8)))))))) r27.1, .v (.int .i64) r27.2]) → (
              bif (decide (r27.2 = (1 : Int))) then
                kr true
              else
                Y all0 tails5 (IntKind.wrap .i64 (i6 + (1 : Int))))))
              else False) ∧ True
            else False) ∧ (
            bif decide (List.length ([] : List Int) + List.length all0 ≤ lim) then
            bif decide (List.length (([] : List Int) ++ all0) + List.length (rd ([] : List Int) tails5 i6) ≤ lim) then
            keys_Parse_P ((([] : List Int) ++ all0) ++ (rd ([] : List Int) tails5 i6)) ∧ (
            ∀ (r28 : (Int × Int × List Int × List Int × Int × List Int) × Int), r28 = keys_Parse_F ((([] : List Int) ++ all0) ++ (rd ([] : List Int) tails5 i6)) → (
            wfR (.tup [.v (.st (.pair (.int .u8) (.pair (.int .i64) (.pair (.str) (.pair (.str) (.pair (.int .u8) (.sl (.int .u8)))))))) r28.1, .v (.int .i64) r28.2]) → (
            bif (decide (r28.2 = (1 : Int))) then
              kr true
            else
              Y all0 tails5 (IntKind.wrap .i64 (i6 + (1 : Int))))))
            else False
            else False) ∧ True) ∧ (
          (
            bif decide (List.length ([] : List Int) + List.length all0 ≤ lim) then
            bif decide (List.length (([] : List Int) ++ all0) + List.length (rd ([] : List Int) tails5 i6) ≤ lim) then
            keys_Parse_P ((([] : List Int) ++ all0) ++ (rd ([] : List Int) tails5 i6)) ∧ (
            ∀ (r29 : (Int × Int × List Int × List Int × Int × List Int) × Int), r29 = keys_Parse_F ((([] : List Int) ++ all0) ++ (rd ([] : List Int) tails5 i6)) → (
            wfR (.tup [.v (.st (.pair (.int .u8) (.pair (.int .i64) (.pair (.str) (.pair (.str) (.pair (.int .u8) (.sl (.int .u8)))))))) r29.1, .v (.int .i64) r29.2]) → (
            bif (decide (r29.2 = (1 : Int))) then
              kr true
            else
              Y all0 tails5 (IntKind.wrap .i64 (i6 + (1 : Int))))))
            else False
            else False) ∧ (
            bif decide (List.length ([] : List Int) + List.length all0 ≤ lim) then
            bif decide (List.length (([] : List Int) ++ all0) + List.length (rd ([] : List Int) tails5 i6) ≤ lim) then
            keys_Parse_P ((([] : List Int) ++ all0) ++ (rd ([] : List Int) tails5 i6)) ∧ (
            ∀ (r30 : (Int × Int × List Int × List Int × Int × List Int) × Int), r30 = keys_Parse_F ((([] : List Int) ++ all0) ++ (rd ([] : List Int) tails5 i6)) → (
            wfR (.tup [.v (.st (.pair (.int .u8) (.pair (.int .i64) (.pair (.str) (.pair (.str) (.pair (.int .u8) (.sl (.int .u8)))))))) r30.1, .v (.int .i64) r30.2]) → (
            bif (decide (r30.2 = (1 : Int))) then
              kr true
            else
              Y all0 tails5 (IntKind.wrap .i64 (i6 + (1 : Int))))))
            else False
            else False) ∧ True) ∧ True) ∧ (
        (
          (
            bif decide (List.length ([] : List Int) + List.length all0 ≤ lim) then
            (
              bif decide (List.length (([] : List Int) ++ all0) + List.length (rd ([] : List Int) tails5 i6) ≤ lim) then
              (
                keys_Parse_P ((([] : List Int) ++ all0) ++ (rd ([] : List Int) tails5 i6)) ∧ (
                ∀ (r31 : (Int × Int × List Int × List Int × Int × List Int) × Int), r31 = keys_Parse_F ((([] : List Int) ++ all0) ++ (rd ([] : List Int) tails5 i6)) → (
                wfR (.tup [.v (.st (.pair (.int .u8) (.pair (.int .i64) (.pair (.str) (.pair (.str) (.pair (.int .u8) (.sl (.int .u8)))))))) r31.1, .v (.int .i64) r31.2]) → (
                bif (decide (r31.2 = (1 : Int))) then
                  kr true
                else
                  Y all0 tails5 (IntKind.wrap .i64 (i6 + (1 : Int))))))) ∧ (
                keys_Parse_P ((([] : List Int) ++ all0) ++ (rd ([] : List Int) tails5 i6)) ∧ (
                ∀ (r32 : (Int × Int × List Int × List Int × Int × List Int) × Int), r32 = keys_Parse_F ((([] : List Int) ++ all0) ++ (rd ([] : List Int) tails5 i6)) → (
                wfR (.tup [.v (.st (.pair (.int .u8) (.pair (.int .i64) (.pair (.str) (.pair (.str) (.pair (.int .u8) (.sl (.int .u8)))))))) r32.1, .v (.int .i64) r32.2]) → (
                bif (decide (r32.2 = (1 : Int))) then
                  kr true
                else
                  Y all0 tails5 (IntKind.wrap .i64 (i6 + (1 : Int))))))) ∧ True
              else False) ∧ (
              bif decide (List.length (([] : List Int) ++ all0) + List.length (rd ([] : List Int) tails5 i6) ≤ lim) then
              keys_Parse_P ((([] : List Int) ++ all0) ++ (rd ([] : List Int) tails5 i6)) ∧ (
              ∀ (r33 : (Int × Int × List Int × List Int × Int × List Int) × Int), r33 = keys_Parse_F ((([] : List Int) ++ all0) ++ (rd ([] : List Int) tails5 i6)) → (
              wfR (.tup [.v (.st (.pair (.int .u8) (.pair (.int .i64) (.pair (.str) (.pair (.str) (.pair (.int .u8) (.sl (.int .u8)))))))) r33.1, .v (.int .i64) r33.2]) → (
              bif (decide (r33.2 = (1 : Int))) then
                kr true
              else
                Y all0 tails5 (IntKind.wrap .i64 (i6 + (1 : Int))))))
              else False) ∧ True
            else False) ∧ (
            bif decide (List.length ([] : List Int) + List.length all0 ≤ lim) then
            bif decide (List.length (([] : List Int) ++ all0) + List.length (rd ([] : List Int) tails5 i6) ≤ lim) then
            keys_Parse_P ((([] : List Int) ++ all0) ++ (rd ([] : List Int) tails5 i6)) ∧ (
            ∀ (r34 : (Int × Int × List Int × List Int × Int × List Int) × Int), r34 = keys_Parse_F ((([] : List Int) ++ all0) ++ (rd ([] : List Int) tails5 i6)) → (
            wfR (.tup [.v (.st (.pair (.int .u8) (.pair (.int .i64) (.pair (.str) (.pair (.str) (.pair (.int .u8) (.sl (.int .u8)))))))) r34.1, .v (.int .i64) r34.2]) → (
            bif (decide (r34.2 = (1 : Int))) then
              kr true
            else
              Y all0 tails5 (IntKind.wrap .i64 (i6 + (1 : Int))))))
            else False
            else False) ∧ True) ∧ (
          bif decide (List.length ([] : List Int) + List.length all0 ≤ lim) then
          bif decide (List.length (([] : List Int) ++ all0) + List.length (rd ([] : List Int) tails5 i6) ≤ lim) then
          keys_Parse_P ((([] : List Int) ++ all0) ++ (rd ([] : List Int) tails5 i6)) ∧ (
          ∀ (r35 : (Int × Int × List Int × List Int × Int × List Int) × Int), r35 = keys_Parse_F ((([] : List Int) ++ all0) ++ (rd ([] : List Int) tails5 i6)) → (
          wfR (.tup [.v (.st (.pair (.int .u8) (.pair (.int .i64) (.pair (.str) (.pair (.str) (.pair (.int .u8) (.sl (.int .u8)))))))) r35.1, .v (.int .i64) r35.2]) → (
          bif (decide (r35.2 = (1 : Int))) then
            kr true
          else
            Y all0 tails5 (IntKind.wrap .i64 (i6 + (1 : Int))))))
          else False
          else False) ∧ True) ∧ (
        (
          (
            bif decide (List.length ([] : List Int) + List.length all0 ≤ lim) then
            bif decide (List.length (([] : List Int) ++ all0) + List.length (rd ([] : List Int) tails5 i6) ≤ lim) then
            keys_Parse_P ((([] : List Int) ++ all0) ++ (rd ([] : List Int) tails5 i6)) ∧ (
            ∀ (r36 : (Int × Int × List Int × List Int × Int × List Int) × Int), r36 = keys_Parse_F ((([] : List Int) ++ all0) ++ (rd ([] : List Int) tails5 i6)) → (
            wfR (.tup [.v (.st (.pair (.int .u8) (.pair (.int .i64) (.pair (.str) (.pair (.str) (.pair (.int .u8) (.sl (.int .u8)))))))) r36.1, .v (.int .i64) r36.2]) → (
            bif (decide (r36.2 = (1 : Int))) then
              kr true
            else
              Y all0 tails5 (IntKind.wrap .i64 (i6 + (1 : Int))))))
            else False
            else False) ∧ (
            bif decide (List.length ([] : List Int) + List.length all0 ≤ lim) then
            bif decide (List.length (([] : List Int) ++ all0) + List.length (rd ([] : List Int) tails5 i6) ≤ lim) then
            keys_Parse_P ((([] : List Int) ++ all0) ++ (rd ([] : List Int) tails5 i6)) ∧ (
            ∀ (r37 : (Int × Int × List Int × List Int × Int × List Int) × Int), r37 = keys_Parse_F ((([] : List Int) ++ all0) ++ (rd ([] : List Int) tails5 i6)) → (
            wfR (.tup [.v (.st (.pair (.int .u8) (.pair (.int .i64) (.pair (.str) (.pair (.str) (.pair (.int .u8) (.sl (.int .u8)))))))) r37.1, .v (.int .i64) r37.2]) → (
            bif (decide (r37.2 = (1 : Int))) then
              kr true
            else
              Y all0 tails5 (IntKind.wrap .i64 (i6 + (1 : Int))))))
            else False
            else False) ∧ True) ∧ (
          bif decide (List.length ([] : List Int) + List.length all0 ≤ lim) then
          bif decide (List.length (([] : List Int) ++ all0) + List.length (rd ([] : List Int) tails5 i6) ≤ lim) then
          keys_Parse_P ((([] : List Int) ++ all0) ++ (rd ([] : List Int) tails5 i6)) ∧ (
          ∀ (r38 : (Int × Int × List Int × List Int × Int × List Int) × Int), r38 = keys_Parse_F ((([] : List Int) ++ all0) ++ (rd ([] : List Int) tails5 i6)) → (
          wfR (.tup [.v (.st (.pair (.int .u8) (.pair (.int .i64) (.pair (.str) (.pair (.str) (.pair (.int .u8) (.sl (.int .u8)))))))) r38.1, .v (.int .i64) r38.2]) → (
          bif (decide (r38.2 = (1 : Int))) then
            kr true
          else
            Y all0 tails5 (IntKind.wrap .i64 (i6 + (1 : Int))))))
          else False
          else False) ∧ True) ∧ True
      else False) ∧ (
      (
        (
          bif decide (List.length ([] : List Int) + List.length all0 ≤ lim) then
          bif decide (0 ≤ i6 ∧ i6 < (List.length tails5 : Int)) then
          bif decide (List.length (([] : List Int) ++ all0) + List.length (rd ([] : List Int) tails5 i6) ≤ lim) then
          keys_Parse_P ((([] : List Int) ++ all0) ++ (rd ([] : List Int) tails5 i6)) ∧ (
          ∀ (r39 : (Int × Int × List Int × List Int × Int × List Int) × Int), r39 = keys_Parse_F ((([] : List Int) ++ all0) ++ (rd ([] : List Int) tails5 i6)) → (
          wfR (.tup [.v (.st (.pair (.int .u8) (.pair (.int .i64) (.pair (.str) (.pair (.str) (.pair (.int .u8) (.sl (.int .u8)))))))) r39.1, .v (.int .i64) r39.2]) → (
          bif (decide (r39.2 = (1 : Int))) then
            kr true
          else
            Y all0 tails5 (IntKind.wrap .i64 (i6 + (1 : Int))))))
          else False
          else False
          else False) ∧ (
          bif decide (0 ≤ i6 ∧ i6 < (List.length tails5 : Int)) then
          (
            bif decide (List.length ([] : List Int) + List.length all0 ≤ lim) then
            bif decide (List.length (([] : List Int) ++ all0) + List.length (rd ([] : List Int) tails5 i6) ≤ lim) then
            keys_Parse_P ((([] : List Int) ++ all0) ++ (rd ([] : List Int) tails5 i6)) ∧ (
            ∀ (r40 : (Int × Int × List Int × List Int × Int × List Int) × Int), r40 = keys_Parse_F ((([] : List Int) ++ all0) ++ (rd ([] : List Int) tails5 i6)) → (
            wfR (.tup [.v (.st (.pair (.int .u8) (.pair (.int .i64) (.pair (.str) (.pair (.str) (.pair (.int .u8) (.sl (.int .u8)))))))) r40.1, .v (.int .i64) r40.2]) → (
            bif (decide (r40.2 = (1 : Int))) then
              kr true
            else
              Y all0 tails5 (IntKind.wrap .i64 (i6 + (1 : Int))))))
            else False
            else False) ∧ (
            bif decide (List.length ([] : List Int) + List.length all0 ≤ lim) then
            bif decide (List.length (([] : List Int) ++ all0) + List.length (rd ([] : List Int) tails5 i6) ≤ lim) then
            keys_Parse_P ((([] : List Int) ++ all0) ++ (rd ([] : List Int) tails5 i6)) ∧ (
            ∀ (r41 : (Int × Int × List Int × List Int × Int × List Int) × Int), r41 = keys_Parse_F ((([] : List Int) ++ all0) ++ (rd ([] : List Int) tails5 i6)) → (
            wfR (.tup [.v (.st (.pair (.int .u8) (.pair (.int .i64) (.pair (.str) (.pair (.str) (.pair (.int .u8) (.sl (.int .u8)))))))) r41.1, .v (.int .i64) r41.2]) → (
            bif (decide (r41.2 = (1 : Int))) then
              kr true
            else
              Y all0 tails5 (IntKind.wrap .i64 (i6 + (1 : Int))))))
            else False
            else False) ∧ True
          else False) ∧ True) ∧ (
        bif decide (0 ≤ i6 ∧ i6 < (List.length tails5 : Int)) then
        (
          (
            bif decide (List.length ([] : List Int) + List.length all0 ≤ lim) then
            bif decide (List.length (([] : List Int) ++ all0) + List.length (rd ([] : List Int) tails5 i6) ≤ lim) then
            keys_Parse_P ((([] : List Int) ++ all0) ++ (rd ([] : List Int) tails5 i6)) ∧ (
            ∀ (r42 : (Int × Int × List Int × List Int × Int × List Int) × Int), r42 = keys_Parse_F ((([] : List Int) ++ all0) ++ (rd ([] : List Int) tails5 i6)) → (
            wfR (.tup [.v (.st (.pair (.int .u8) (.pair (.int .i64) (.pair (.str) (.pair (.str) (.pair (.int .u8) (.sl (.int .u8)))))))) r42.1, .v (.int .i64) r42.2]) → (
            bif (decide (r42.2 = (1 : Int))) then
              kr true
            else
              Y all0 tails5 (IntKind.wrap .i64 (i6 + (1 : Int))))))
            else False
            else False) ∧ (
            bif decide (List.length ([] : List Int) + List.length all0 ≤ lim) then
            bif decide (List.length (([] : List Int) ++ all0) + List.length (rd ([] : List Int) tails5 i6) ≤ lim) then
            keys_Parse_P ((([] : List Int) ++ all0) ++ (rd ([] : List Int) tails5 i6)) ∧ (
            ∀ (r43 : (Int × Int × List Int × List Int × Int × List Int) × Int), r43 = keys_Parse_F ((([] : List Int) ++ all0) ++ (rd ([] : List Int) tails5 i6)) → (
            wfR (.tup [.v (.st (.pair (.int .u8) (.pair (.int .i64) (.pair (.str) (.pair (.str) (.pair (.int .u8) (.sl (.int .u8)))))))) r43.1, .v (.int .i64) r43.2]) → (
            bif (decide (r43.2 = (1 : Int))) then
              kr true
            else
              Y all0 tails5 (IntKind.wrap .i64 (i6 + (1 : Int))))))
            else False
            else False) ∧ True) ∧ (
          bif decide (List.length ([] : List Int) + List.length all0 ≤ lim) then
          bif decide (List.length (([] : List Int) ++ all0) + List.length (rd ([] : List Int) tails5 i6) ≤ lim) then
          keys_Parse_P ((([] : List Int) ++ all0) ++ (rd ([] : List Int) tails5 i6)) ∧ (
          ∀ (r44 : (Int × Int × List Int × List Int × Int × List Int) × Int), r44 = keys_Parse_F ((([] : List Int) ++ all0) ++ (rd ([] : List Int) tails5 i6)) → (
          wfR (.tup [.v (.st (.pair (.int .u8) (.pair (.int .i64) (.pair (.str) (.pair (.str) (.pair (.int .u8) (.sl (.int .u8)))))))) r44.1, .v (.int .i64) r44.2]) → (
          bif (decide (r44.2 = (1 : Int))) then
            kr true
          else
            Y all0 tails5 (IntKind.wrap .i64 (i6 + (1 : Int))))))
          else False
          else False) ∧ True
        else False) ∧ True) ∧ True
  else
    kx0
def quoinlaw21_KeysMore_L0 (kr : Bool → Prop) (kx0 : Prop) : Nat → List Int → List (List Int) → Int → Prop
  | 0, _, _, _ => False
  | n + 1, all0, tails5, i6 => wfD quoinlaw21_KeysMore_d0 (all0, tails5, i6, ()) → quoinlaw21_KeysMore_T0 (quoinlaw21_KeysMore_L0 kr kx0 n) kr kx0 all0 tails5 i6
theorem quoinlaw21_KeysMore_s0 (k : Ex → St → Prop) (Y : vals quoinlaw21_KeysMore_d0 → Prop) (all0 : List Int) (tails5 : List (List Int)) (i6 : Int) :
    ex tb (getG quoinlaw21_KeysMore_G) [] (at' (bodyOf Tryd.f7) [0, 0, 1, 0, 1, 1, 1, 1]) [0, 0, 1, 0, 1, 1, 1, 1] (mkD 39 quoinlaw21_KeysMore_d0 (all0, tails5, i6, ())) (lpK 39 quoinlaw21_KeysMore_d0 quoinlaw21_KeysMore_dx0 k Y) =
    quoinlaw21_KeysMore_T0 (fun all0 tails5 i6 => Y (all0, tails5, i6, ())) (fun x2 => wfD quoinlaw21_KeysMore_d0r (x2, ()) → k .ret (mkD 39 quoinlaw21_KeysMore_d0r (x2, ()))) (wfD quoinlaw21_KeysMore_d0x0 () → k (.exit 0) (mkD 39 quoinlaw21_KeysMore_d0x0 ())) all0 tails5 i6 := by kernel_rfl
theorem quoinlaw21_KeysMore_e0 (k : Ex → St → Prop) : ∀ (n : Nat) (all0 : List Int) (tails5 : List (List Int)) (i6 : Int), lpD 39 quoinlaw21_KeysMore_d0 quoinlaw21_KeysMore_dx0 (ex tb (getG quoinlaw21_KeysMore_G) [] (at' (bodyOf Tryd.f7) [0, 0, 1, 0, 1, 1, 1, 1]) [0, 0, 1, 0, 1, 1, 1, 1]) k n (all0, tails5, i6, ()) = quoinlaw21_KeysMore_L0 (fun x2 => wfD quoinlaw21_KeysMore_d0r (x2, ()) → k .ret (mkD 39 quoinlaw21_KeysMore_d0r (x2, ()))) (wfD quoinlaw21_KeysMore_d0x0 () → k (.exit 0) (mkD 39 quoinlaw21_KeysMore_d0x0 ())) n all0 tails5 i6
  | 0, _, _, _ => rfl
  | n + 1, all0, tails5, i6 => congrArg (fun Z : Prop => wfD quoinlaw21_KeysMore_d0 (all0, tails5, i6, ()) → Z) ((quoinlaw21_KeysMore_s0 k (lpD 39 quoinlaw21_KeysMore_d0 quoinlaw21_KeysMore_dx0 (ex tb (getG quoinlaw21_KeysMore_G) [] (at' (bodyOf Tryd.f7) [0, 0, 1, 0, 1, 1, 1, 1]) [0, 0, 1, 0, 1, 1, 1, 1]) k n) all0 tails5 i6).trans (congrArg (fun Y => quoinlaw21_KeysMore_T0 Y (fun x2 => wfD quoinlaw21_KeysMore_d0r (x2, ()) → k .ret (mkD 39 quoinlaw21_KeysMore_d0r (x2, ()))) (wfD quoinlaw21_KeysMore_d0x0 () → k (.exit 0) (mkD 39 quoinlaw21_KeysMore_d0x0 ())) all0 tails5 i6) (funext fun all0 => funext fun tails5 => funext fun i6 => quoinlaw21_KeysMore_e0 k n all0 tails5 i6)))
theorem quoinlaw21_KeysMore_v0 (k : Ex → St → Prop) (n : Nat) : ∀ v : vals quoinlaw21_KeysMore_d0, lpD 39 quoinlaw21_KeysMore_d0 quoinlaw21_KeysMore_dx0 (ex tb (getG quoinlaw21_KeysMore_G) [] (at' (bodyOf Tryd.f7) [0, 0, 1, 0, 1, 1, 1, 1]) [0, 0, 1, 0, 1, 1, 1, 1]) k n v = quoinlaw21_KeysMore_L0 (fun x2 => wfD quoinlaw21_KeysMore_d0r (x2, ()) → k .ret (mkD 39 quoinlaw21_KeysMore_d0r (x2, ()))) (wfD quoinlaw21_KeysMore_d0x0 () → k (.exit 0) (mkD 39 quoinlaw21_KeysMore_d0x0 ())) n v.1 v.2.1 v.2.2.1
  | (all0, tails5, i6, ()) => quoinlaw21_KeysMore_e0 k n all0 tails5 i6
def quoinlaw21_KeysMore_X0 : Pce := fun st k => ckD 39 quoinlaw21_KeysMore_d0 st fun v => wfD quoinlaw21_KeysMore_d0 v → ∃ n, quoinlaw21_KeysMore_L0 (fun x2 => wfD quoinlaw21_KeysMore_d0r (x2, ()) → k .ret (mkD 39 quoinlaw21_KeysMore_d0r (x2, ()))) (wfD quoinlaw21_KeysMore_d0x0 () → k (.exit 0) (mkD 39 quoinlaw21_KeysMore_d0x0 ())) n v.1 v.2.1 v.2.2.1
set_option maxRecDepth 20000 in
theorem quoinlaw21_KeysMore_x0 : SemOk Tryd.prog (at' (bodyOf Tryd.f7) [0, 1, 0, 1, 1, 1, 1]) quoinlaw21_KeysMore_X0 :=
  (SemOk.loop (ex_sound tb_M tb_ok quoinlaw21_KeysMore_Gok (LabsOk.nil) (at' (bodyOf Tryd.f7) [0, 0, 1, 0, 1, 1, 1, 1]) [0, 0, 1, 0, 1, 1, 1, 1] rfl (storesC_at quoinlaw21_KeysMore_st [0, 0, 1, 0, 1, 1, 1, 1])) 39 quoinlaw21_KeysMore_d0 quoinlaw21_KeysMore_dx0).mono fun st k h => ckD_mono h fun v hv hw => (hv hw).elim fun n hn => ⟨n, Eq.mpr (quoinlaw21_KeysMore_v0 k n v) hn⟩
def quoinlaw21_KeysMore_B0 : Labs := ([0, 1, 0, 1, 1, 1, 1], quoinlaw21_KeysMore_X0) :: []
theorem quoinlaw21_KeysMore_b0 : LabsOk Tryd.prog (bodyOf Tryd.f7) quoinlaw21_KeysMore_B0 := LabsOk.cons quoinlaw21_KeysMore_x0 (LabsOk.nil)
def quoinlaw21_KeysMore_raw (all0 : List Int) (K : Res → List Cell → Prop) : Prop :=
  ∀ (r1 : Bool), r1 = quoinlaw21_awake_F → (
  wfR (.one (.v (.bool) r1)) → (
  bif (!r1) then
    K (.one (.v (.bool) false)) []
  else
    keys_Parse_P all0 ∧ (
    ∀ (r2 : (Int × Int × List Int × List Int × Int × List Int) × Int), r2 = keys_Parse_F all0 → (
    wfR (.tup [.v (.st (.pair (.int .u8) (.pair (.int .i64) (.pair (.str) (.pair (.str) (.pair (.int .u8) (.sl (.int .u8)))))))) r2.1, .v (.int .i64) r2.2]) → (
    bif (!decide (r2.2 = (0 : Int))) then
      K (.one (.v (.bool) true)) []
    else
      (wfD quoinlaw21_KeysMore_d0 (all0, ([([120] : List Int), ([119] : List Int), ([103] : List Int), ([97, 120] : List Int), ([108] : List Int), ([45] : List Int), ([126] : List Int), ([117] : List Int), ([85] : List Int), ([69] : List Int)] : List (List Int)), (0 : Int), ()) → ∃ n, quoinlaw21_KeysMore_L0 (fun (x2 : Bool) => wfD quoinlaw21_KeysMore_d0r (x2, ()) → (
          K (.one (.v (.bool) x2)) [])) (wfD quoinlaw21_KeysMore_d0x0 () → (
          K (.one (.v (.bool) false)) [])) n all0 ([([120] : List Int), ([119] : List Int), ([103] : List Int), ([97, 120] : List Int), ([108] : List Int), ([45] : List Int), ([126] : List Int), ([117] : List Int), ([85] : List Int), ([69] : List Int)] : List (List Int)) (0 : Int)))))))
def quoinlaw21_KeysMore_A : List AS := [.v (.sl (.int .u8))]
theorem quoinlaw21_KeysMore_walk (all0 : List Int) (K : Res → List Cell → Prop) : runF tb (getG quoinlaw21_KeysMore_G) quoinlaw21_KeysMore_B0 Tryd.f7 [true] (mkA quoinlaw21_KeysMore_A (all0, ())) K = quoinlaw21_KeysMore_raw all0 K := by kernel_rfl
--! law 1

def quoinlaw21_KeysMore_R : App := runF tb (getG quoinlaw21_KeysMore_G) quoinlaw21_KeysMore_B0 Tryd.f7 [true]
theorem quoinlaw21_KeysMore_ok : AppOk Tryd.prog 7 quoinlaw21_KeysMore_R := runF_ok tb_M tb_ok quoinlaw21_KeysMore_Gok (quoinlaw21_KeysMore_b0) (f := 7) (fn := Tryd.f7) (by kernel_rfl) (by kernel_rfl) quoinlaw21_KeysMore_st [true]
end Go.VE
namespace Go.VE
open Go Go.Proofs

def yesK : Res → List Cell → Prop := fun r _ => r = .one (.v .bool true)

theorem bulk_bytes : ∀ xs : List Int, bulk (.sl (.int .u8)) xs = xs.length + 1 := by
  intro xs
  show (xs.map (bulk (.int .u8))).sum + 1 = _
  congr 1
  induction xs with
  | nil => rfl
  | cons x xs ih => rw [List.map_cons, List.sum_cons, ih, List.length_cons]; show 1 + xs.length = _; omega

theorem parse_F {ks : List Int} (hl : ks.length ≤ 1099511627776) (h : ∀ x ∈ ks, 0 ≤ x ∧ x ≤ 255) : keys_Parse_F ks = parseM ks := (parse_eq hl h).2
theorem parse_P {ks : List Int} (hl : ks.length ≤ 1099511627776) (h : ∀ x ∈ ks, 0 ≤ x ∧ x ≤ 255) : keys_Parse_P ks := (parse_eq hl h).1

/-! ### On -/
theorem on_l0 {kr : Bool → Prop} {kx0 : Prop} {all : List Int} (hl : all.length ≤ 2000) (h255 : ∀ x ∈ all, 0 ≤ x ∧ x ≤ 255) (h2 : (parseM all).2 ≠ 2) (hk : kx0) : ∀ (m i : Nat), i ≤ all.length → all.length - i < m → quoinlaw21_KeysOn_L0 kr kx0 m all (i : Int)
  | 0, _, _, h => absurd h (Nat.not_lt_zero _)
  | m + 1, i, hi, hm => by
    intro _
    unfold quoinlaw21_KeysOn_T0
    refine brn (fun hlt => asrt (by omega) ?_) (fun _ => hk)
    have hln : (all.take (Int.toNat (i : Int))).length ≤ 1099511627776 := by rw [List.length_take]; omega
    have hb : ∀ x ∈ all.take (Int.toNat (i : Int)), 0 ≤ x ∧ x ≤ 255 := fun x hx => h255 x (List.mem_of_mem_take hx)
    refine ⟨parse_P hln hb, fun r hr _ => ?_⟩
    rw [parse_F hln hb, Int.toNat_natCast] at hr
    subst hr
    have h0 : (parseM (all.take i)).2 = 0 := by
      apply Classical.byContradiction
      intro hne
      have hd : all.drop i ≠ [] := fun e => by
        have := congrArg List.length e
        rw [List.length_drop, List.length_nil] at this; omega
      have := parse_stab (s := all.take i) (m := all.drop i) hne hd
      rw [List.take_append_drop] at this
      exact h2 this
    rw [h0]
    refine brb (fun h => ?_) (fun _ => ?_)
    · simp at h
    · rw [wrap_i64 (by omega) (by omega), show (i : Int) + 1 = ((i + 1 : Nat) : Int) by omega]
      exact on_l0 hl h255 h2 hk m (i + 1) (by omega) (by omega)

theorem on_raw {all more : List Int} (ha : all.length ≤ 1048576) (hm : more.length ≤ 1048576) (h1 : ∀ x ∈ all, 0 ≤ x ∧ x ≤ 255) (h2 : ∀ x ∈ more, 0 ≤ x ∧ x ≤ 255) : quoinlaw21_KeysOn_raw all more yesK := by
  unfold quoinlaw21_KeysOn_raw
  intro r1 hr1 _
  subst hr1
  refine brb (fun h => by cases h) (fun _ => ?_)
  refine brn (fun _ => rfl) (fun hle => ?_)
  have e0 : ([] : List Int) ++ all = all := rfl
  have h3 : ∀ x ∈ all ++ more, 0 ≤ x ∧ x ≤ 255 := fun x hx => (List.mem_append.1 hx).elim (h1 x) (h2 x)
  have hl3 : (all ++ more).length ≤ 1099511627776 := by rw [List.length_append]; omega
  refine ⟨parse_P (by omega) h1, fun r2 hr2 _ => ?_⟩
  rw [parse_F (by omega) h1] at hr2
  subst hr2
  refine asrt (by simp only [List.length_nil, lim]; omega) ?_
  refine asrt (by simp only [e0, lim]; omega) ?_
  refine ⟨by rw [e0]; exact parse_P hl3 h3, fun r3 hr3 _ => ?_⟩
  rw [e0, parse_F hl3 h3] at hr3
  subst hr3
  have L : (parseM all).2 ≠ 2 → (wfD quoinlaw21_KeysOn_d0 (all, (0 : Int), ()) → ∃ n, quoinlaw21_KeysOn_L0 (fun (x4 : Bool) => wfD quoinlaw21_KeysOn_d0r (x4, ()) → (
        yesK (.one (.v (.bool) x4)) [])) (wfD quoinlaw21_KeysOn_d0x0 () → (yesK (.one (.v (.bool) true)) [])) n all (0 : Int)) := fun hne _ =>
    ⟨all.length + 1, on_l0 (by omega) h1 hne (fun _ => rfl) (all.length + 1) 0 (Nat.zero_le _) (by omega)⟩
  have rest : bif (decide ((parseM all).2 = (2 : Int))) then yesK (.one (.v (.bool) true)) [] else
      (wfD quoinlaw21_KeysOn_d0 (all, (0 : Int), ()) → ∃ n, quoinlaw21_KeysOn_L0 (fun (x4 : Bool) => wfD quoinlaw21_KeysOn_d0r (x4, ()) → (
        yesK (.one (.v (.bool) x4)) [])) (wfD quoinlaw21_KeysOn_d0x0 () → (yesK (.one (.v (.bool) true)) [])) n all (0 : Int)) :=
    brn (fun _ => rfl) (fun hne => L hne)
  refine brb (fun hk => ?_) (fun _ => rest)
  have hk : (parseM all).2 ≠ 0 := by simpa using hk
  refine brn (fun hpos => ?_) (fun _ => rest)
  have hne : more ≠ [] := fun e => by subst e; simp at hpos
  have := parse_stab hk hne
  refine brb (fun h => ?_) (fun _ => rest)
  rw [this] at h; simp at h

theorem on_law (v : valsA quoinlaw21_KeysOn_A) (hw : wfA quoinlaw21_KeysOn_A v) (hb : bulkA quoinlaw21_KeysOn_A v ≤ 1048576) : quoinlaw21_KeysOn_R (mkA quoinlaw21_KeysOn_A v) yesK := by
  obtain ⟨all, more, ⟨⟩⟩ := v
  refine (quoinlaw21_KeysOn_walk all more yesK).mpr ?_
  obtain ⟨h1, h2, _⟩ := hw
  change bulk (.sl (.int .u8)) all + (bulk (.sl (.int .u8)) more + 0) ≤ 1048576 at hb
  rw [bulk_bytes, bulk_bytes] at hb
  exact on_raw (by omega) (by omega) h1.2 h2.2

/-! ### More -/
abbrev tl : List (List Int) := [([120] : List Int), ([119] : List Int), ([103] : List Int), ([97, 120] : List Int), ([108] : List Int), ([45] : List Int), ([126] : List Int), ([117] : List Int), ([85] : List Int), ([69] : List Int)]

theorem tail_fact : ∀ i : Nat, i < 10 → (rd ([] : List Int) tl (i : Int)).length ≤ 2 ∧ ∀ x ∈ rd ([] : List Int) tl (i : Int), 0 ≤ x ∧ x ≤ 255 := by decide +kernel

theorem more_l0 {kr : Bool → Prop} {kx0 : Prop} {all : List Int} (hl : all.length ≤ 1048576) (h255 : ∀ x ∈ all, 0 ≤ x ∧ x ≤ 255) (hk : kr true) :
    ∀ (m i : Nat), i ≤ 10 → 10 - i < m → (∃ j : Nat, i ≤ j ∧ j < 10 ∧ (parseM (all ++ rd ([] : List Int) tl (j : Int))).2 = 1) → quoinlaw21_KeysMore_L0 kr kx0 m all tl (i : Int)
  | 0, _, _, h, _ => absurd h (Nat.not_lt_zero _)
  | m + 1, i, hi, hm, ⟨j, hj, hj2, hjp⟩ => by
    intro _
    have hi10 : i < 10 := by omega
    obtain ⟨f1, f2⟩ := tail_fact i hi10
    have e0 : ([] : List Int) ++ all = all := rfl
    have h3 : ∀ x ∈ all ++ rd ([] : List Int) tl (i : Int), 0 ≤ x ∧ x ≤ 255 := fun x hx => (List.mem_append.1 hx).elim (h255 x) (f2 x)
    have hl3 : (all ++ rd ([] : List Int) tl (i : Int)).length ≤ 1099511627776 := by rw [List.length_append]; omega
    have A1 : List.length ([] : List Int) + List.length all ≤ lim := by simp only [List.length_nil, lim]; omega
    have A2 : 0 ≤ (i : Int) ∧ (i : Int) < (List.length tl : Int) := ⟨by omega, by show (i : Int) < 10; omega⟩
    have A3 : List.length (([] : List Int) ++ all) + List.length (rd ([] : List Int) tl (i : Int)) ≤ lim := by rw [e0]; unfold lim; omega
    have leaf : keys_Parse_P ((([] : List Int) ++ all) ++ (rd ([] : List Int) tl (i : Int))) ∧ (
        ∀ (r3 : (Int × Int × List Int × List Int × Int × List Int) × Int), r3 = keys_Parse_F ((([] : List Int) ++ all) ++ (rd ([] : List Int) tl (i : Int))) → (
        wfR (.tup [.v (.st (.pair (.int .u8) (.pair (.int .i64) (.pair (.str) (.pair (.str) (.pair (.int .u8) (.sl (.int .u8)))))))) r3.1, .v (.int .i64) r3.2]) → (
        bif (decide (r3.2 = (1 : Int))) then kr true else quoinlaw21_KeysMore_L0 kr kx0 m all tl (IntKind.wrap .i64 ((i : Int) + (1 : Int)))))) := by
      refine ⟨by rw [e0]; exact parse_P hl3 h3, fun r hr _ => ?_⟩
      rw [e0, parse_F hl3 h3] at hr
      subst hr
      refine brn (fun _ => hk) (fun hne => ?_)
      rw [wrap_i64 (by omega) (by omega), show (i : Int) + 1 = ((i + 1 : Nat) : Int) by omega]
      have : i ≠ j := fun e => by subst e; exact hne hjp
      exact more_l0 hl h255 hk m (i + 1) (by omega) (by omega) ⟨j, by omega, hj2, hjp⟩
    unfold quoinlaw21_KeysMore_T0
    refine brn (fun _ => ?_) (fun h => absurd A2.2 h)
    repeat' (first | exact leaf | exact trivial | refine asrt A1 ?_ | refine asrt A2 ?_ | refine asrt A3 ?_ | refine ⟨?_, ?_⟩)

theorem more_raw {all : List Int} (ha : all.length ≤ 1048576) (h1 : ∀ x ∈ all, 0 ≤ x ∧ x ≤ 255) : quoinlaw21_KeysMore_raw all yesK := by
  unfold quoinlaw21_KeysMore_raw
  intro r1 hr1 _
  subst hr1
  refine brb (fun h => by cases h) (fun _ => ?_)
  refine ⟨parse_P (by omega) h1, fun r2 hr2 _ => ?_⟩
  rw [parse_F (by omega) h1] at hr2
  subst hr2
  refine brb (fun _ => rfl) (fun hk _ => ?_)
  have hk : (parseM all).2 = 0 := by simpa using hk
  obtain ⟨t, ht, h2⟩ := parse_grow hk
  refine ⟨11, more_l0 ha h1 (fun _ => rfl) 11 0 (by omega) (by omega) ?_⟩
  obtain ⟨j, hj, e⟩ := List.getElem_of_mem ht
  refine ⟨j, Nat.zero_le _, hj, ?_⟩
  have : rd ([] : List Int) tl (j : Int) = t := by rw [← e]; exact rd_nat [] tl j hj
  rw [this]; exact h2

theorem more_law (v : valsA quoinlaw21_KeysMore_A) (hw : wfA quoinlaw21_KeysMore_A v) (hb : bulkA quoinlaw21_KeysMore_A v ≤ 1048576) : quoinlaw21_KeysMore_R (mkA quoinlaw21_KeysMore_A v) yesK := by
  obtain ⟨all, ⟨⟩⟩ := v
  refine (quoinlaw21_KeysMore_walk all yesK).mpr ?_
  obtain ⟨h1, _⟩ := hw
  change bulk (.sl (.int .u8)) all + 0 ≤ 1048576 at hb
  rw [bulk_bytes] at hb
  exact more_raw (by omega) h1.2
end Go.VE
namespace Go.VE
open Go Go.Proofs
/-! ### quoin/quoinlaw21.digits -/
def quoinlaw21_digits_A : List AS := [.v (.int .i64)]
--! rec 1
--! res S
/-- the decimal digits of n (k digits at most are looked at) -/
def decL : Nat → Nat → List Int
  | 0, _ => []
  | k + 1, n => if n < 10 then [48 + (n : Int)] else decL k (n / 10) ++ [48 + ((n % 10 : Nat) : Int)]
def quoinlaw21_digits_Pk (k : Nat) (n : Int) : Prop := 0 ≤ n ∧ n < 1000000 ∧ n.toNat < 10 ^ k ∧ 0 < k
def quoinlaw21_digits_F (n : Int) : List Int := decL 7 n.toNat
theorem quoinlaw21_digits_0 (n : Int) : ¬ quoinlaw21_digits_Pk 0 n := fun h => absurd h.2.2.2 (Nat.lt_irrefl 0)

def quoinlaw21_digits_Ck (k : Nat) (v : valsA quoinlaw21_digits_A) (K : Res → List Cell → Prop) : Prop := quoinlaw21_digits_Pk k v.1 ∧ ∀ r : List Int, r = quoinlaw21_digits_F v.1 → K (.one (.v (.str) r)) []
def quoinlaw21_digits_Sk (k : Nat) : App := specW quoinlaw21_digits_A (quoinlaw21_digits_Ck k)
def quoinlaw21_digits_G (k : Nat) : List (Nat × App) := [(18, quoinlaw21_digits_Sk k)]
theorem quoinlaw21_digits_Gok (k : Nat) (h : AppOk Tryd.prog 18 (quoinlaw21_digits_Sk k)) : GOk Tryd.prog (getG (quoinlaw21_digits_G k)) := GOk.cons h (GOk.nil)
def quoinlaw21_digits_raw (k : Nat) (n0 : Int) (K : Res → List Cell → Prop) : Prop :=
  bif (decide (n0 < (10 : Int))) then
    K (.one (.v (.str) ([(IntKind.wrap .u8 (IntKind.wrap .i64 ((48 : Int) + n0)))] : List Int))) []
  else
    quoinlaw21_digits_Pk k (IntKind.wrap .i64 (Int.tdiv n0 (10 : Int))) ∧ (
    ∀ (r1 : List Int), r1 = quoinlaw21_digits_F (IntKind.wrap .i64 (Int.tdiv n0 (10 : Int))) → (
    wfR (.one (.v (.str) r1)) → (
    quoinlaw21_digits_Pk k (Int.tmod n0 (10 : Int)) ∧ (
    ∀ (r2 : List Int), r2 = quoinlaw21_digits_F (Int.tmod n0 (10 : Int)) → (
    wfR (.one (.v (.str) r2)) → (
    bif decide (List.length r1 + List.length r2 ≤ lim) then
    K (.one (.v (.str) (r1 ++ r2))) []
    else False))))))
theorem quoinlaw21_digits_walk (k : Nat) (n0 : Int) (K : Res → List Cell → Prop) : runF tb (getG (quoinlaw21_digits_G k)) [] Tryd.f18 [true] (mkA quoinlaw21_digits_A (n0, ())) K = quoinlaw21_digits_raw k n0 K := by kernel_rfl
theorem quoinlaw21_digits_wv (k : Nat) (K : Res → List Cell → Prop) : ∀ v : valsA quoinlaw21_digits_A, runF tb (getG (quoinlaw21_digits_G k)) [] Tryd.f18 [true] (mkA quoinlaw21_digits_A v) K = quoinlaw21_digits_raw k v.1 K
  | (n0, ()) => quoinlaw21_digits_walk k n0 K

theorem decL_len : ∀ (k n : Nat), (decL k n).length ≤ k
  | 0, _ => Nat.le_refl 0
  | k + 1, n => by
    unfold decL
    split
    · simp
    · have := decL_len k (n / 10); rw [List.length_append]; simp only [List.length_cons, List.length_nil]; omega
theorem decL_more : ∀ (k n : Nat), n < 10 ^ k → 0 < k → decL (k + 1) n = decL k n
  | 0, n, h, h0 => absurd h0 (Nat.lt_irrefl 0)
  | 1, n, h, _ => by
    unfold decL
    rw [if_pos (by omega), if_pos (by omega)]
  | k + 2, n, h, _ => by
    rw [show decL (k + 2 + 1) n = if n < 10 then [48 + (n : Int)] else decL (k + 2) (n / 10) ++ [48 + ((n % 10 : Nat) : Int)] from rfl,
      show decL (k + 2) n = if n < 10 then [48 + (n : Int)] else decL (k + 1) (n / 10) ++ [48 + ((n % 10 : Nat) : Int)] from rfl]
    split
    · rfl
    · rw [decL_more (k + 1) (n / 10) (by rw [Nat.pow_succ] at h; omega) (by omega)]
theorem quoinlaw21_digits_sp (k : Nat) (n0 : Int) (K : Res → List Cell → Prop) (hw : wfA quoinlaw21_digits_A (n0, ())) (hp : quoinlaw21_digits_Pk (k + 1) n0) (h : ∀ r : List Int, r = quoinlaw21_digits_F n0 → K (.one (.v .str r)) []) : quoinlaw21_digits_raw k n0 K := by
  obtain ⟨h0, h1, h2, _⟩ := hp
  unfold quoinlaw21_digits_raw
  have e : n0 = (n0.toNat : Int) := by omega
  generalize n0.toNat = m at *
  subst e
  refine brn (fun hlt => ?_) (fun hge => ?_)
  · rw [wrap_i64 (n := 48 + (m : Int)) (by omega) (by omega), wrap_u8 (n := 48 + (m : Int)) (by omega) (by omega)]
    refine h _ ?_
    unfold quoinlaw21_digits_F
    rw [Int.toNat_natCast]
    unfold decL
    rw [if_pos (by omega)]
  · have q1 : Int.tdiv (m : Int) 10 = ((m / 10 : Nat) : Int) := rfl
    have q2 : Int.tmod (m : Int) 10 = ((m % 10 : Nat) : Int) := rfl
    have hk : 0 < k := by
      cases k with
      | zero => simp at h2; omega
      | succ k => omega
    rw [q1, q2, wrap_i64 (by omega) (by omega)]
    have e1 : quoinlaw21_digits_F ((m / 10 : Nat) : Int) ++ quoinlaw21_digits_F ((m % 10 : Nat) : Int) = quoinlaw21_digits_F (m : Int) := by
      unfold quoinlaw21_digits_F
      simp only [Int.toNat_natCast]
      rw [decL_more 6 (m / 10) (by omega) (by omega)]
      rw [show decL 7 m = if m < 10 then [48 + (m : Int)] else decL 6 (m / 10) ++ [48 + ((m % 10 : Nat) : Int)] from rfl]
      rw [if_neg (by omega)]
      congr 1
      rw [show decL 7 (m % 10) = if m % 10 < 10 then [48 + ((m % 10 : Nat) : Int)] else decL 6 (m % 10 / 10) ++ [48 + ((m % 10 % 10 : Nat) : Int)] from rfl]
      rw [if_pos (by omega)]
    have len : ∀ n : Int, (quoinlaw21_digits_F n).length ≤ 7 := fun n => decL_len 7 _
    have p1 : quoinlaw21_digits_Pk k ((m / 10 : Nat) : Int) := ⟨by omega, by omega, by rw [Int.toNat_natCast]; rw [Nat.pow_succ] at h2; omega, hk⟩
    have p2 : quoinlaw21_digits_Pk k ((m % 10 : Nat) : Int) := ⟨by omega, by omega, by
      rw [Int.toNat_natCast]
      have : 10 ^ 1 ≤ 10 ^ k := Nat.pow_le_pow_right (by omega) hk
      omega, hk⟩
    refine ⟨p1, fun r1 hr1 _ => ⟨p2, fun r2 hr2 _ => ?_⟩⟩
    subst hr1; subst hr2
    have l1 := len ((m / 10 : Nat) : Int)
    have l2 := len ((m % 10 : Nat) : Int)
    exact asrt (by unfold lim; omega) (h _ e1)

theorem quoinlaw21_digits_okk : ∀ k, AppOk Tryd.prog 18 (quoinlaw21_digits_Sk k)
  | 0 => AppOk.none fun v K h => quoinlaw21_digits_0 v.1 h.1
  | k + 1 => AppOk.specW (spec_ok (runF_ok tb_M tb_ok (quoinlaw21_digits_Gok k (quoinlaw21_digits_okk k)) LabsOk.nil (f := 18) (fn := Tryd.f18) (by kernel_rfl) (by kernel_rfl) (by kernel_rfl) [true]) fun v K hw h => (quoinlaw21_digits_wv k K v).mpr (quoinlaw21_digits_sp k v.1 K hw h.1 h.2))
def quoinlaw21_digits_P (n0 : Int) : Prop := ∃ k, quoinlaw21_digits_Pk k n0
def quoinlaw21_digits_C (v : valsA quoinlaw21_digits_A) (K : Res → List Cell → Prop) : Prop := quoinlaw21_digits_P v.1 ∧ ∀ r : List Int, r = quoinlaw21_digits_F v.1 → K (.one (.v (.str) r)) []
def quoinlaw21_digits_S : App := specW quoinlaw21_digits_A quoinlaw21_digits_C
theorem quoinlaw21_digits_ok : AppOk Tryd.prog 18 quoinlaw21_digits_S := fun ags K hs => (AppOk.any (b := quoinlaw21_digits_Ck) quoinlaw21_digits_okk) ags K (by
  obtain ⟨v, rfl, hb⟩ := rdA_of _ ags _ hs
  exact rdA_mk quoinlaw21_digits_A v (fun v => ∃ k, quoinlaw21_digits_Ck k v fun r o => wfR r → K r o) (hb.1.elim fun k hk => ⟨k, hk, hb.2⟩))
end Go.VE
namespace Go.VE
open Go Go.Proofs
/-! ### quoin/quoinlaw21.KeysCounts -/
def quoinlaw21_KeysCounts_G : List (Nat × App) := [(10, quoinlaw21_awake_S), (18, quoinlaw21_digits_S), (12, keys_Parse_S)]
theorem quoinlaw21_KeysCounts_Gok : GOk Tryd.prog (getG quoinlaw21_KeysCounts_G) := GOk.cons quoinlaw21_awake_ok (GOk.cons quoinlaw21_digits_ok (GOk.cons keys_Parse_ok (GOk.nil)))
theorem quoinlaw21_KeysCounts_st : storesC (bodyOf Tryd.f8) = true := by kernel_rfl
def quoinlaw21_KeysCounts_d0 : List LS := [.v 2 (.int .u8), .v 7 (.int .i64), .v 13 (.str), .v 14 (.int .i64)]
def quoinlaw21_KeysCounts_d0x0 : List LS := [.v 2 (.int .u8), .v 7 (.int .i64), .v 13 (.str)]
def quoinlaw21_KeysCounts_dx0 : DX := ⟨none, none, [(0, quoinlaw21_KeysCounts_d0x0)]⟩
def quoinlaw21_KeysCounts_T0 (Y : Int → Int → List Int → Int → Prop) (kx0 : Int → Int → List Int → Prop) (noughts2 : Int) (m7 : Int) (long13 : List Int) (i14 : Int) : Prop :=
  bif (decide (i14 < (IntKind.wrap .i64 noughts2))) then
    bif decide (List.length long13 + List.length ([48] : List Int) ≤ lim) then
    Y noughts2 m7 (long13 ++ ([48] : List Int)) (IntKind.wrap .i64 (i14 + (1 : Int)))
    else False
  else
    kx0 noughts2 m7 long13
def quoinlaw21_KeysCounts_L0 (kx0 : Int → Int → List Int → Prop) : Nat → Int → Int → List Int → Int → Prop
  | 0, _, _, _, _ => False
  | n + 1, noughts2, m7, long13, i14 => wfD quoinlaw21_KeysCounts_d0 (noughts2, m7, long13, i14, ()) → quoinlaw21_KeysCounts_T0 (quoinlaw21_KeysCounts_L0 kx0 n) kx0 noughts2 m7 long13 i14
theorem quoinlaw21_KeysCounts_s0 (k : Ex → St → Prop) (Y : vals quoinlaw21_KeysCounts_d0 → Prop) (noughts2 : Int) (m7 : Int) (long13 : List Int) (i14 : Int) :
    ex tb (getG quoinlaw21_KeysCounts_G) [] (at' (bodyOf Tryd.f8) [0, 0, 1, 0, 1, 1, 1, 1, 1, 1, 1, 1, 1, 1, 1, 1]) [0, 0, 1, 0, 1, 1, 1, 1, 1, 1, 1, 1, 1, 1, 1, 1] (mkD 132 quoinlaw21_KeysCounts_d0 (noughts2, m7, long13, i14, ())) (lpK 132 quoinlaw21_KeysCounts_d0 quoinlaw21_KeysCounts_dx0 k Y) =
    quoinlaw21_KeysCounts_T0 (fun noughts2 m7 long13 i14 => Y (noughts2, m7, long13, i14, ())) (fun noughts2 m7 long13 => wfD quoinlaw21_KeysCounts_d0x0 (noughts2, m7, long13, ()) → k (.exit 0) (mkD 132 quoinlaw21_KeysCounts_d0x0 (noughts2, m7, long13, ()))) noughts2 m7 long13 i14 := by kernel_rfl
theorem quoinlaw21_KeysCounts_e0 (k : Ex → St → Prop) : ∀ (n : Nat) (noughts2 : Int) (m7 : Int) (long13 : List Int) (i14 : Int), lpD 132 quoinlaw21_KeysCounts_d0 quoinlaw21_KeysCounts_dx0 (ex tb (getG quoinlaw21_KeysCounts_G) [] (at' (bodyOf Tryd.f8) [0, 0, 1, 0, 1, 1, 1, 1, 1, 1, 1, 1, 1, 1, 1, 1]) [0, 0, 1, 0, 1, 1, 1, 1, 1, 1, 1, 1, 1, 1, 1, 1]) k n (noughts2, m7, long13, i14, ()) = quoinlaw21_KeysCounts_L0 (fun noughts2 m7 long13 => wfD quoinlaw21_KeysCounts_d0x0 (noughts2, m7, long13, ()) → k (.exit 0) (mkD 132 quoinlaw21_KeysCounts_d0x0 (noughts2, m7, long13, ()))) n noughts2 m7 long13 i14
  | 0, _, _, _, _ => rfl
  | n + 1, noughts2, m7, long13, i14 => congrArg (fun Z : Prop => wfD quoinlaw21_KeysCounts_d0 (noughts2, m7, long13, i14, ()) → Z) ((quoinlaw21_KeysCounts_s0 k (lpD 132 quoinlaw21_KeysCounts_d0 quoinlaw21_KeysCounts_dx0 (ex tb (getG quoinlaw21_KeysCounts_G) [] (at' (bodyOf Tryd.f8) [0, 0, 1, 0, 1, 1, 1, 1, 1, 1, 1, 1, 1, 1, 1, 1]) [0, 0, 1, 0, 1, 1, 1, 1, 1, 1, 1, 1, 1, 1, 1, 1]) k n) noughts2 m7 long13 i14).trans (congrArg (fun Y => quoinlaw21_KeysCounts_T0 Y (fun noughts2 m7 long13 => wfD quoinlaw21_KeysCounts_d0x0 (noughts2, m7, long13, ()) → k (.exit 0) (mkD 132 quoinlaw21_KeysCounts_d0x0 (noughts2, m7, long13, ()))) noughts2 m7 long13 i14) (funext fun noughts2 => funext fun m7 => funext fun long13 => funext fun i14 => quoinlaw21_KeysCounts_e0 k n noughts2 m7 long13 i14)))
theorem quoinlaw21_KeysCounts_v0 (k : Ex → St → Prop) (n : Nat) : ∀ v : vals quoinlaw21_KeysCounts_d0, lpD 132 quoinlaw21_KeysCounts_d0 quoinlaw21_KeysCounts_dx0 (ex tb (getG quoinlaw21_KeysCounts_G) [] (at' (bodyOf Tryd.f8) [0, 0, 1, 0, 1, 1, 1, 1, 1, 1, 1, 1, 1, 1, 1, 1]) [0, 0, 1, 0, 1, 1, 1, 1, 1, 1, 1, 1, 1, 1, 1, 1]) k n v = quoinlaw21_KeysCounts_L0 (fun noughts2 m7 long13 => wfD quoinlaw21_KeysCounts_d0x0 (noughts2, m7, long13, ()) → k (.exit 0) (mkD 132 quoinlaw21_KeysCounts_d0x0 (noughts2, m7, long13, ()))) n v.1 v.2.1 v.2.2.1 v.2.2.2.1
  | (noughts2, m7, long13, i14, ()) => quoinlaw21_KeysCounts_e0 k n noughts2 m7 long13 i14
def quoinlaw21_KeysCounts_X0 : Pce := fun st k => ckD 132 quoinlaw21_KeysCounts_d0 st fun v => wfD quoinlaw21_KeysCounts_d0 v → ∃ n, quoinlaw21_KeysCounts_L0 (fun noughts2 m7 long13 => wfD quoinlaw21_KeysCounts_d0x0 (noughts2, m7, long13, ()) → k (.exit 0) (mkD 132 quoinlaw21_KeysCounts_d0x0 (noughts2, m7, long13, ()))) n v.1 v.2.1 v.2.2.1 v.2.2.2.1
set_option maxRecDepth 20000 in
theorem quoinlaw21_KeysCounts_x0 : SemOk Tryd.prog (at' (bodyOf Tryd.f8) [0, 1, 0, 1, 1, 1, 1, 1, 1, 1, 1, 1, 1, 1, 1]) quoinlaw21_KeysCounts_X0 :=
  (SemOk.loop (ex_sound tb_M tb_ok quoinlaw21_KeysCounts_Gok (LabsOk.nil) (at' (bodyOf Tryd.f8) [0, 0, 1, 0, 1, 1, 1, 1, 1, 1, 1, 1, 1, 1, 1, 1]) [0, 0, 1, 0, 1, 1, 1, 1, 1, 1, 1, 1, 1, 1, 1, 1] rfl (storesC_at quoinlaw21_KeysCounts_st [0, 0, 1, 0, 1, 1, 1, 1, 1, 1, 1, 1, 1, 1, 1, 1])) 132 quoinlaw21_KeysCounts_d0 quoinlaw21_KeysCounts_dx0).mono fun st k h => ckD_mono h fun v hv hw => (hv hw).elim fun n hn => ⟨n, Eq.mpr (quoinlaw21_KeysCounts_v0 k n v) hn⟩
def quoinlaw21_KeysCounts_B0 : Labs := ([0, 1, 0, 1, 1, 1, 1, 1, 1, 1, 1, 1, 1, 1, 1], quoinlaw21_KeysCounts_X0) :: []
theorem quoinlaw21_KeysCounts_b0 : LabsOk Tryd.prog (bodyOf Tryd.f8) quoinlaw21_KeysCounts_B0 := LabsOk.cons quoinlaw21_KeysCounts_x0 (LabsOk.nil)
def quoinlaw21_KeysCounts_d1 : List LS := [.v 2 (.int .u8), .v 7 (.int .i64), .v 9 (.str), .v 10 (.int .i64)]
def quoinlaw21_KeysCounts_d1r : List LS := [.v 6 (.bool)]
def quoinlaw21_KeysCounts_dx1 : DX := ⟨none, some quoinlaw21_KeysCounts_d1r, []⟩
def quoinlaw21_KeysCounts_J1 (kr : Bool → Prop) (noughts2 : Int) (m7 : Int) (s9 : List Int) (want10 : Int) : Prop :=
  keys_Parse_P s9 ∧ (
  ∀ (r6 : (Int × Int × List Int × List Int × Int × List Int) × Int), r6 = keys_Parse_F s9 → (
  wfR (.tup [.v (.st (.pair (.int .u8) (.pair (.int .i64) (.pair (.str) (.pair (.str) (.pair (.int .u8) (.sl (.int .u8)))))))) r6.1, .v (.int .i64) r6.2]) → (
  bif (!decide (r6.2 = (1 : Int))) then
    kr false
  else
  bif (!decide (r6.1.2.1 = (mn want10 (9999 : Int)))) then
    kr false
  else
  bif (!decide (r6.1.2.2.1 = ([100] : List Int))) then
    kr false
  else
  bif (!decide (r6.1.2.2.2.1 = ([119] : List Int))) then
    kr false
  else
    quoinlaw21_digits_P (mx m7 (1 : Int)) ∧ (
    ∀ (r7 : List Int), r7 = quoinlaw21_digits_F (mx m7 (1 : Int)) → (
    wfR (.one (.v (.str) r7)) → (
    (wfD quoinlaw21_KeysCounts_d0 (noughts2, m7, r7, (0 : Int), ()) → ∃ n, quoinlaw21_KeysCounts_L0 (fun (noughts2 : Int) (m7 : Int) (long13 : List Int) => wfD quoinlaw21_KeysCounts_d0x0 (noughts2, m7, long13, ()) → (
        bif decide (List.length long13 + List.length ([71] : List Int) ≤ lim) then
        keys_Parse_P (long13 ++ ([71] : List Int)) ∧ (
        ∀ (r8 : (Int × Int × List Int × List Int × Int × List Int) × Int), r8 = keys_Parse_F (long13 ++ ([71] : List Int)) → (
        wfR (.tup [.v (.st (.pair (.int .u8) (.pair (.int .i64) (.pair (.str) (.pair (.str) (.pair (.int .u8) (.sl (.int .u8)))))))) r8.1, .v (.int .i64) r8.2]) → (
        bif (decide ((3 : Int) < noughts2)) then
          bif (decide (r8.2 = (1 : Int))) then
            kr (decide (r8.1.2.1 = (9999 : Int)))
          else
            kr false
        else
        bif (decide (r8.2 = (1 : Int))) then
          bif (decide ((mn (mx m7 (1 : Int)) (9999 : Int)) ≤ r8.1.2.1)) then
            bif (decide (r8.1.2.1 ≤ (9999 : Int))) then
              kr (decide (r8.1.2.2.2.1 = ([71] : List Int)))
            else
              kr false
          else
            kr false
        else
          kr false)))
        else False)) n noughts2 m7 r7 (0 : Int))))))))
theorem quoinlaw21_KeysCounts_s1 (k : Ex → St → Prop) (noughts2 : Int) (m7 : Int) (s9 : List Int) (want10 : Int) :
    ex tb (getG quoinlaw21_KeysCounts_G) quoinlaw21_KeysCounts_B0 (at' (bodyOf Tryd.f8) [1, 1, 1, 1, 1, 1, 1, 1, 1]) [1, 1, 1, 1, 1, 1, 1, 1, 1] (mkD 132 quoinlaw21_KeysCounts_d1 (noughts2, m7, s9, want10, ())) (wk 132 quoinlaw21_KeysCounts_dx1 k) =
    quoinlaw21_KeysCounts_J1 (fun x6 => wfD quoinlaw21_KeysCounts_d1r (x6, ()) → k .ret (mkD 132 quoinlaw21_KeysCounts_d1r (x6, ()))) noughts2 m7 s9 want10 := by kernel_rfl
theorem quoinlaw21_KeysCounts_v1 (k : Ex → St → Prop) : ∀ v : vals quoinlaw21_KeysCounts_d1, ex tb (getG quoinlaw21_KeysCounts_G) quoinlaw21_KeysCounts_B0 (at' (bodyOf Tryd.f8) [1, 1, 1, 1, 1, 1, 1, 1, 1]) [1, 1, 1, 1, 1, 1, 1, 1, 1] (mkD 132 quoinlaw21_KeysCounts_d1 v) (wk 132 quoinlaw21_KeysCounts_dx1 k) = quoinlaw21_KeysCounts_J1 (fun x6 => wfD quoinlaw21_KeysCounts_d1r (x6, ()) → k .ret (mkD 132 quoinlaw21_KeysCounts_d1r (x6, ()))) v.1 v.2.1 v.2.2.1 v.2.2.2.1
  | (noughts2, m7, s9, want10, ()) => quoinlaw21_KeysCounts_s1 k noughts2 m7 s9 want10
def quoinlaw21_KeysCounts_X1 : Pce := fun st k => ckD 132 quoinlaw21_KeysCounts_d1 st fun v => wfD quoinlaw21_KeysCounts_d1 v → quoinlaw21_KeysCounts_J1 (fun x6 => wfD quoinlaw21_KeysCounts_d1r (x6, ()) → k .ret (mkD 132 quoinlaw21_KeysCounts_d1r (x6, ()))) v.1 v.2.1 v.2.2.1 v.2.2.2.1
set_option maxRecDepth 20000 in
theorem quoinlaw21_KeysCounts_x1 : SemOk Tryd.prog (at' (bodyOf Tryd.f8) [1, 1, 1, 1, 1, 1, 1, 1, 1]) quoinlaw21_KeysCounts_X1 :=
  (SemOk.wk (N := 132) (ds := quoinlaw21_KeysCounts_d1) (dx := quoinlaw21_KeysCounts_dx1) (ex_sound tb_M tb_ok quoinlaw21_KeysCounts_Gok (quoinlaw21_KeysCounts_b0) (at' (bodyOf Tryd.f8) [1, 1, 1, 1, 1, 1, 1, 1, 1]) [1, 1, 1, 1, 1, 1, 1, 1, 1] rfl (storesC_at quoinlaw21_KeysCounts_st [1, 1, 1, 1, 1, 1, 1, 1, 1]))).mono fun st k h => ckD_mono h fun v hv hw => Eq.mpr (quoinlaw21_KeysCounts_v1 k v) (hv hw)
def quoinlaw21_KeysCounts_B1 : Labs := ([1, 1, 1, 1, 1, 1, 1, 1, 1], quoinlaw21_KeysCounts_X1) :: quoinlaw21_KeysCounts_B0
theorem quoinlaw21_KeysCounts_b1 : LabsOk Tryd.prog (bodyOf Tryd.f8) quoinlaw21_KeysCounts_B1 := LabsOk.cons quoinlaw21_KeysCounts_x1 (quoinlaw21_KeysCounts_b0)
def quoinlaw21_KeysCounts_d2 : List LS := [.v 2 (.int .u8), .v 7 (.int .i64), .v 8 (.int .i64), .v 9 (.str)]
def quoinlaw21_KeysCounts_d2r : List LS := [.v 6 (.bool)]
def quoinlaw21_KeysCounts_dx2 : DX := ⟨none, some quoinlaw21_KeysCounts_d2r, []⟩
def quoinlaw21_KeysCounts_J2 (kr : Bool → Prop) (noughts2 : Int) (m7 : Int) (n8 : Int) (s9 : List Int) : Prop :=
  bif (decide (m7 = (0 : Int))) then
    bif (decide (n8 = (0 : Int))) then
      (wfD quoinlaw21_KeysCounts_d1 (noughts2, m7, s9, (0 : Int), ()) → quoinlaw21_KeysCounts_J1 (fun (x6 : Bool) => wfD quoinlaw21_KeysCounts_d1r (x6, ()) → (
          kr x6)) noughts2 m7 s9 (0 : Int))
    else
      (wfD quoinlaw21_KeysCounts_d1 (noughts2, m7, s9, (IntKind.wrap .i64 ((mn (mx m7 (1 : Int)) (9999 : Int)) * (mn (mx n8 (1 : Int)) (9999 : Int)))), ()) → quoinlaw21_KeysCounts_J1 (fun (x6 : Bool) => wfD quoinlaw21_KeysCounts_d1r (x6, ()) → (
          kr x6)) noughts2 m7 s9 (IntKind.wrap .i64 ((mn (mx m7 (1 : Int)) (9999 : Int)) * (mn (mx n8 (1 : Int)) (9999 : Int)))))
  else
    (wfD quoinlaw21_KeysCounts_d1 (noughts2, m7, s9, (IntKind.wrap .i64 ((mn (mx m7 (1 : Int)) (9999 : Int)) * (mn (mx n8 (1 : Int)) (9999 : Int)))), ()) → quoinlaw21_KeysCounts_J1 (fun (x6 : Bool) => wfD quoinlaw21_KeysCounts_d1r (x6, ()) → (
        kr x6)) noughts2 m7 s9 (IntKind.wrap .i64 ((mn (mx m7 (1 : Int)) (9999 : Int)) * (mn (mx n8 (1 : Int)) (9999 : Int)))))
theorem quoinlaw21_KeysCounts_s2 (k : Ex → St → Prop) (noughts2 : Int) (m7 : Int) (n8 : Int) (s9 : List Int) :
    ex tb (getG quoinlaw21_KeysCounts_G) quoinlaw21_KeysCounts_B1 (at' (bodyOf Tryd.f8) [1, 1, 1, 1, 1, 1, 1]) [1, 1, 1, 1, 1, 1, 1] (mkD 132 quoinlaw21_KeysCounts_d2 (noughts2, m7, n8, s9, ())) (wk 132 quoinlaw21_KeysCounts_dx2 k) =
    quoinlaw21_KeysCounts_J2 (fun x6 => wfD quoinlaw21_KeysCounts_d2r (x6, ()) → k .ret (mkD 132 quoinlaw21_KeysCounts_d2r (x6, ()))) noughts2 m7 n8 s9 := by kernel_rfl
theorem quoinlaw21_KeysCounts_v2 (k : Ex → St → Prop) : ∀ v : vals quoinlaw21_KeysCounts_d2, ex tb (getG quoinlaw21_KeysCounts_G) quoinlaw21_KeysCounts_B1 (at' (bodyOf Tryd.f8) [1, 1, 1, 1, 1, 1, 1]) [1, 1, 1, 1, 1, 1, 1] (mkD 132 quoinlaw21_KeysCounts_d2 v) (wk 132 quoinlaw21_KeysCounts_dx2 k) = quoinlaw21_KeysCounts_J2 (fun x6 => wfD quoinlaw21_KeysCounts_d2r (x6, ()) → k .ret (mkD 132 quoinlaw21_KeysCounts_d2r (x6, ()))) v.1 v.2.1 v.2.2.1 v.2.2.2.1
  | (noughts2, m7, n8, s9, ()) => quoinlaw21_KeysCounts_s2 k noughts2 m7 n8 s9
def quoinlaw21_KeysCounts_X2 : Pce := fun st k => ckD 132 quoinlaw21_KeysCounts_d2 st fun v => wfD quoinlaw21_KeysCounts_d2 v → quoinlaw21_KeysCounts_J2 (fun x6 => wfD quoinlaw21_KeysCounts_d2r (x6, ()) → k .ret (mkD 132 quoinlaw21_KeysCounts_d2r (x6, ()))) v.1 v.2.1 v.2.2.1 v.2.2.2.1
set_option maxRecDepth 20000 in
theorem quoinlaw21_KeysCounts_x2 : SemOk Tryd.prog (at' (bodyOf Tryd.f8) [1, 1, 1, 1, 1, 1, 1]) quoinlaw21_KeysCounts_X2 :=
  (SemOk.wk (N := 132) (ds := quoinlaw21_KeysCounts_d2) (dx := quoinlaw21_KeysCounts_dx2) (ex_sound tb_M tb_ok quoinlaw21_KeysCounts_Gok (quoinlaw21_KeysCounts_b1) (at' (bodyOf Tryd.f8) [1, 1, 1, 1, 1, 1, 1]) [1, 1, 1, 1, 1, 1, 1] rfl (storesC_at quoinlaw21_KeysCounts_st [1, 1, 1, 1, 1, 1, 1]))).mono fun st k h => ckD_mono h fun v hv hw => Eq.mpr (quoinlaw21_KeysCounts_v2 k v) (hv hw)
def quoinlaw21_KeysCounts_B2 : Labs := ([1, 1, 1, 1, 1, 1, 1], quoinlaw21_KeysCounts_X2) :: quoinlaw21_KeysCounts_B1
theorem quoinlaw21_KeysCounts_b2 : LabsOk Tryd.prog (bodyOf Tryd.f8) quoinlaw21_KeysCounts_B2 := LabsOk.cons quoinlaw21_KeysCounts_x2 (quoinlaw21_KeysCounts_b1)
def quoinlaw21_KeysCounts_d3 : List LS := [.v 2 (.int .u8), .v 7 (.int .i64), .v 8 (.int .i64), .v 9 (.str)]
def quoinlaw21_KeysCounts_d3r : List LS := [.v 6 (.bool)]
def quoinlaw21_KeysCounts_dx3 : DX := ⟨none, some quoinlaw21_KeysCounts_d3r, []⟩
def quoinlaw21_KeysCounts_J3 (kr : Bool → Prop) (noughts2 : Int) (m7 : Int) (n8 : Int) (s9 : List Int) : Prop :=
  bif (decide (m7 = (0 : Int))) then
    bif (decide (n8 = (0 : Int))) then
      (wfD quoinlaw21_KeysCounts_d2 (noughts2, m7, n8, ([100, 119] : List Int), ()) → quoinlaw21_KeysCounts_J2 (fun (x6 : Bool) => wfD quoinlaw21_KeysCounts_d2r (x6, ()) → (
          kr x6)) noughts2 m7 n8 ([100, 119] : List Int))
    else
      (wfD quoinlaw21_KeysCounts_d2 (noughts2, m7, n8, s9, ()) → quoinlaw21_KeysCounts_J2 (fun (x6 : Bool) => wfD quoinlaw21_KeysCounts_d2r (x6, ()) → (
          kr x6)) noughts2 m7 n8 s9)
  else
    (wfD quoinlaw21_KeysCounts_d2 (noughts2, m7, n8, s9, ()) → quoinlaw21_KeysCounts_J2 (fun (x6 : Bool) => wfD quoinlaw21_KeysCounts_d2r (x6, ()) → (
        kr x6)) noughts2 m7 n8 s9)
theorem quoinlaw21_KeysCounts_s3 (k : Ex → St → Prop) (noughts2 : Int) (m7 : Int) (n8 : Int) (s9 : List Int) :
    ex tb (getG quoinlaw21_KeysCounts_G) quoinlaw21_KeysCounts_B2 (at' (bodyOf Tryd.f8) [1, 1, 1, 1, 1, 1]) [1, 1, 1, 1, 1, 1] (mkD 132 quoinlaw21_KeysCounts_d3 (noughts2, m7, n8, s9, ())) (wk 132 quoinlaw21_KeysCounts_dx3 k) =
    quoinlaw21_KeysCounts_J3 (fun x6 => wfD quoinlaw21_KeysCounts_d3r (x6, ()) → k .ret (mkD 132 quoinlaw21_KeysCounts_d3r (x6, ()))) noughts2 m7 n8 s9 := by kernel_rfl
theorem quoinlaw21_KeysCounts_v3 (k : Ex → St → Prop) : ∀ v : vals quoinlaw21_KeysCounts_d3, ex tb (getG quoinlaw21_KeysCounts_G) quoinlaw21_KeysCounts_B2 (at' (bodyOf Tryd.f8) [1, 1, 1, 1, 1, 1]) [1, 1, 1, 1, 1, 1] (mkD 132 quoinlaw21_KeysCounts_d3 v) (wk 132 quoinlaw21_KeysCounts_dx3 k) = quoinlaw21_KeysCounts_J3 (fun x6 => wfD quoinlaw21_KeysCounts_d3r (x6, ()) → k .ret (mkD 132 quoinlaw21_KeysCounts_d3r (x6, ()))) v.1 v.2.1 v.2.2.1 v.2.2.2.1
  | (noughts2, m7, n8, s9, ()) => quoinlaw21_KeysCounts_s3 k noughts2 m7 n8 s9
def quoinlaw21_KeysCounts_X3 : Pce := fun st k => ckD 132 quoinlaw21_KeysCounts_d3 st fun v => wfD quoinlaw21_KeysCounts_d3 v → quoinlaw21_KeysCounts_J3 (fun x6 => wfD quoinlaw21_KeysCounts_d3r (x6, ()) → k .ret (mkD 132 quoinlaw21_KeysCounts_d3r (x6, ()))) v.1 v.2.1 v.2.2.1 v.2.2.2.1
set_option maxRecDepth 20000 in
theorem quoinlaw21_KeysCounts_x3 : SemOk Tryd.prog (at' (bodyOf Tryd.f8) [1, 1, 1, 1, 1, 1]) quoinlaw21_KeysCounts_X3 :=
  (SemOk.wk (N := 132) (ds := quoinlaw21_KeysCounts_d3) (dx := quoinlaw21_KeysCounts_dx3) (ex_sound tb_M tb_ok quoinlaw21_KeysCounts_Gok (quoinlaw21_KeysCounts_b2) (at' (bodyOf Tryd.f8) [1, 1, 1, 1, 1, 1]) [1, 1, 1, 1, 1, 1] rfl (storesC_at quoinlaw21_KeysCounts_st [1, 1, 1, 1, 1, 1]))).mono fun st k h => ckD_mono h fun v hv hw => Eq.mpr (quoinlaw21_KeysCounts_v3 k v) (hv hw)
def quoinlaw21_KeysCounts_B3 : Labs := ([1, 1, 1, 1, 1, 1], quoinlaw21_KeysCounts_X3) :: quoinlaw21_KeysCounts_B2
theorem quoinlaw21_KeysCounts_b3 : LabsOk Tryd.prog (bodyOf Tryd.f8) quoinlaw21_KeysCounts_B3 := LabsOk.cons quoinlaw21_KeysCounts_x3 (quoinlaw21_KeysCounts_b2)
def quoinlaw21_KeysCounts_d4 : List LS := [.v 2 (.int .u8), .v 7 (.int .i64), .v 8 (.int .i64), .v 9 (.str)]
def quoinlaw21_KeysCounts_d4r : List LS := [.v 6 (.bool)]
def quoinlaw21_KeysCounts_dx4 : DX := ⟨none, some quoinlaw21_KeysCounts_d4r, []⟩
def quoinlaw21_KeysCounts_J4 (kr : Bool → Prop) (noughts2 : Int) (m7 : Int) (n8 : Int) (s9 : List Int) : Prop :=
  bif (decide (n8 = (0 : Int))) then
    quoinlaw21_digits_P m7 ∧ (
    ∀ (r5 : List Int), r5 = quoinlaw21_digits_F m7 → (
    wfR (.one (.v (.str) r5)) → (
    bif decide (List.length r5 + List.length ([100, 119] : List Int) ≤ lim) then
    (wfD quoinlaw21_KeysCounts_d3 (noughts2, m7, n8, (r5 ++ ([100, 119] : List Int)), ()) → quoinlaw21_KeysCounts_J3 (fun (x6 : Bool) => wfD quoinlaw21_KeysCounts_d3r (x6, ()) → (
        kr x6)) noughts2 m7 n8 (r5 ++ ([100, 119] : List Int)))
    else False)))
  else
    (wfD quoinlaw21_KeysCounts_d3 (noughts2, m7, n8, s9, ()) → quoinlaw21_KeysCounts_J3 (fun (x6 : Bool) => wfD quoinlaw21_KeysCounts_d3r (x6, ()) → (
        kr x6)) noughts2 m7 n8 s9)
theorem quoinlaw21_KeysCounts_s4 (k : Ex → St → Prop) (noughts2 : Int) (m7 : Int) (n8 : Int) (s9 : List Int) :
    ex tb (getG quoinlaw21_KeysCounts_G) quoinlaw21_KeysCounts_B3 (at' (bodyOf Tryd.f8) [1, 1, 1, 1, 1]) [1, 1, 1, 1, 1] (mkD 132 quoinlaw21_KeysCounts_d4 (noughts2, m7, n8, s9, ())) (wk 132 quoinlaw21_KeysCounts_dx4 k) =
    quoinlaw21_KeysCounts_J4 (fun x6 => wfD quoinlaw21_KeysCounts_d4r (x6, ()) → k .ret (mkD 132 quoinlaw21_KeysCounts_d4r (x6, ()))) noughts2 m7 n8 s9 := by kernel_rfl
theorem quoinlaw21_KeysCounts_v4 (k : Ex → St → Prop) : ∀ v : vals quoinlaw21_KeysCounts_d4, ex tb (getG quoinlaw21_KeysCounts_G) quoinlaw21_KeysCounts_B3 (at' (bodyOf Tryd.f8) [1, 1, 1, 1, 1]) [1, 1, 1, 1, 1] (mkD 132 quoinlaw21_KeysCounts_d4 v) (wk 132 quoinlaw21_KeysCounts_dx4 k) = quoinlaw21_KeysCounts_J4 (fun x6 => wfD quoinlaw21_KeysCounts_d4r (x6, ()) → k .ret (mkD 132 quoinlaw21_KeysCounts_d4r (x6, ()))) v.1 v.2.1 v.2.2.1 v.2.2.2.1
  | (noughts2, m7, n8, s9, ()) => quoinlaw21_KeysCounts_s4 k noughts2 m7 n8 s9
def quoinlaw21_KeysCounts_X4 : Pce := fun st k => ckD 132 quoinlaw21_KeysCounts_d4 st fun v => wfD quoinlaw21_KeysCounts_d4 v → quoinlaw21_KeysCounts_J4 (fun x6 => wfD quoinlaw21_KeysCounts_d4r (x6, ()) → k .ret (mkD 132 quoinlaw21_KeysCounts_d4r (x6, ()))) v.1 v.2.1 v.2.2.1 v.2.2.2.1
set_option maxRecDepth 20000 in
theorem quoinlaw21_KeysCounts_x4 : SemOk Tryd.prog (at' (bodyOf Tryd.f8) [1, 1, 1, 1, 1]) quoinlaw21_KeysCounts_X4 :=
  (SemOk.wk (N := 132) (ds := quoinlaw21_KeysCounts_d4) (dx := quoinlaw21_KeysCounts_dx4) (ex_sound tb_M tb_ok quoinlaw21_KeysCounts_Gok (quoinlaw21_KeysCounts_b3) (at' (bodyOf Tryd.f8) [1, 1, 1, 1, 1]) [1, 1, 1, 1, 1] rfl (storesC_at quoinlaw21_KeysCounts_st [1, 1, 1, 1, 1]))).mono fun st k h => ckD_mono h fun v hv hw => Eq.mpr (quoinlaw21_KeysCounts_v4 k v) (hv hw)
def quoinlaw21_KeysCounts_B4 : Labs := ([1, 1, 1, 1, 1], quoinlaw21_KeysCounts_X4) :: quoinlaw21_KeysCounts_B3
theorem quoinlaw21_KeysCounts_b4 : LabsOk Tryd.prog (bodyOf Tryd.f8) quoinlaw21_KeysCounts_B4 := LabsOk.cons quoinlaw21_KeysCounts_x4 (quoinlaw21_KeysCounts_b3)
def quoinlaw21_KeysCounts_raw (a0 : Int) (b1 : Int) (noughts2 : Int) (K : Res → List Cell → Prop) : Prop :=
  ∀ (r1 : Bool), r1 = quoinlaw21_awake_F → (
  wfR (.one (.v (.bool) r1)) → (
  bif (!r1) then
    K (.one (.v (.bool) false)) []
  else
    quoinlaw21_digits_P (IntKind.wrap .i64 a0) ∧ (
    ∀ (r2 : List Int), r2 = quoinlaw21_digits_F (IntKind.wrap .i64 a0) → (
    wfR (.one (.v (.str) r2)) → (
    bif decide (List.length r2 + List.length ([100] : List Int) ≤ lim) then
    quoinlaw21_digits_P (IntKind.wrap .i64 b1) ∧ (
    ∀ (r3 : List Int), r3 = quoinlaw21_digits_F (IntKind.wrap .i64 b1) → (
    wfR (.one (.v (.str) r3)) → (
    bif decide (List.length (r2 ++ ([100] : List Int)) + List.length r3 ≤ lim) then
    bif decide (List.length ((r2 ++ ([100] : List Int)) ++ r3) + List.length ([119] : List Int) ≤ lim) then
    bif (decide ((IntKind.wrap .i64 a0) = (0 : Int))) then
      quoinlaw21_digits_P (IntKind.wrap .i64 b1) ∧ (
      ∀ (r4 : List Int), r4 = quoinlaw21_digits_F (IntKind.wrap .i64 b1) → (
      wfR (.one (.v (.str) r4)) → (
      bif decide (List.length ([100] : List Int) + List.length r4 ≤ lim) then
      bif decide (List.length (([100] : List Int) ++ r4) + List.length ([119] : List Int) ≤ lim) then
      (wfD quoinlaw21_KeysCounts_d4 (noughts2, (IntKind.wrap .i64 a0), (IntKind.wrap .i64 b1), ((([100] : List Int) ++ r4) ++ ([119] : List Int)), ()) → quoinlaw21_KeysCounts_J4 (fun (x6 : Bool) => wfD quoinlaw21_KeysCounts_d4r (x6, ()) → (
          K (.one (.v (.bool) x6)) [])) noughts2 (IntKind.wrap .i64 a0) (IntKind.wrap .i64 b1) ((([100] : List Int) ++ r4) ++ ([119] : List Int)))
      else False
      else False)))
    else
      (wfD quoinlaw21_KeysCounts_d4 (noughts2, (IntKind.wrap .i64 a0), (IntKind.wrap .i64 b1), (((r2 ++ ([100] : List Int)) ++ r3) ++ ([119] : List Int)), ()) → quoinlaw21_KeysCounts_J4 (fun (x6 : Bool) => wfD quoinlaw21_KeysCounts_d4r (x6, ()) → (
          K (.one (.v (.bool) x6)) [])) noughts2 (IntKind.wrap .i64 a0) (IntKind.wrap .i64 b1) (((r2 ++ ([100] : List Int)) ++ r3) ++ ([119] : List Int)))
    else False
    else False)))
    else False)))))
def quoinlaw21_KeysCounts_A : List AS := [.v (.int .u16), .v (.int .u16), .v (.int .u8)]
theorem quoinlaw21_KeysCounts_walk (a0 : Int) (b1 : Int) (noughts2 : Int) (K : Res → List Cell → Prop) : runF tb (getG quoinlaw21_KeysCounts_G) quoinlaw21_KeysCounts_B4 Tryd.f8 [true] (mkA quoinlaw21_KeysCounts_A (a0, b1, noughts2, ())) K = quoinlaw21_KeysCounts_raw a0 b1 noughts2 K := by kernel_rfl
--! law 1

def quoinlaw21_KeysCounts_R : App := runF tb (getG quoinlaw21_KeysCounts_G) quoinlaw21_KeysCounts_B4 Tryd.f8 [true]
theorem quoinlaw21_KeysCounts_ok : AppOk Tryd.prog 8 quoinlaw21_KeysCounts_R := runF_ok tb_M tb_ok quoinlaw21_KeysCounts_Gok (quoinlaw21_KeysCounts_b4) (f := 8) (fn := Tryd.f8) (by kernel_rfl) (by kernel_rfl) quoinlaw21_KeysCounts_st [true]
end Go.VE
namespace Go.VE
open Go Go.Proofs

theorem mn_eq (a b : Int) : mn a b = if b < a then b else a := by
  unfold mn; by_cases h : b < a <;> simp [h]
theorem mx_eq (a b : Int) : mx a b = if a < b then b else a := by
  unfold mx; by_cases h : a < b <;> simp [h]

theorem cntL_cat : ∀ (xs ys : List Int) (n : Int), (cntL xs n).2 = xs.length → cntL (xs ++ ys) n = ((cntL ys (cntL xs n).1).1, xs.length + (cntL ys (cntL xs n).1).2)
  | [], ys, n, _ => by simp [cntL]
  | b :: r, ys, n, h => by
    unfold cntL at h
    split at h
    · simp at h
    · rename_i hb
      have hr : (cntL r (mn (n * 10 + (b - 48)) 9999)).2 = r.length := by simpa using h
      have ih := cntL_cat r ys (mn (n * 10 + (b - 48)) 9999) hr
      simp only [List.cons_append]
      rw [show cntL (b :: (r ++ ys)) n = _ by unfold cntL; rw [if_neg hb]]
      rw [show cntL (b :: r) n = _ by unfold cntL; rw [if_neg hb]]
      rw [ih]
      simp only [List.length_cons, Prod.mk.injEq, true_and]
      omega

theorem cntL_dec : ∀ (k m : Nat), 1 ≤ m → m < 10 ^ k → cntL (decL k m) 0 = (mn m 9999, (decL k m).length)
  | 0, m, h1, h2 => by simp at h2; omega
  | k + 1, m, h1, h2 => by
    rw [show decL (k + 1) m = if m < 10 then [48 + (m : Int)] else decL k (m / 10) ++ [48 + ((m % 10 : Nat) : Int)] from rfl]
    split
    · rename_i hm
      unfold cntL
      rw [if_neg (by omega)]
      simp only [cntL, mn_eq, List.length_cons, List.length_nil, Prod.mk.injEq]
      constructor
      · split <;> split <;> omega
      · trivial
    · rename_i hm
      have ih := cntL_dec k (m / 10) (by omega) (by rw [Nat.pow_succ] at h2; omega)
      rw [cntL_cat _ _ _ (by rw [ih]), ih]
      have hv : 1 ≤ mn ((m / 10 : Nat) : Int) 9999 := by rw [mn_eq]; split <;> omega
      have hc : cntL [48 + ((m % 10 : Nat) : Int)] (mn ((m / 10 : Nat) : Int) 9999) = (mn (mn ((m / 10 : Nat) : Int) 9999 * 10 + ((m % 10 : Nat) : Int)) 9999, 1) := by
        unfold cntL
        rw [if_neg (by omega)]
        simp only [cntL, Prod.mk.injEq, Nat.zero_add, and_true]
        congr 1; omega
      rw [hc]
      simp only [List.length_append, List.length_cons, List.length_nil, Prod.mk.injEq]
      constructor
      · simp only [mn_eq]
        repeat' split
        all_goals omega
      · first | omega | trivial | simp

theorem dec_digit : ∀ (k m : Nat), ∀ x ∈ decL k m, 48 ≤ x ∧ x ≤ 57
  | 0, m, x, h => by simp [decL] at h
  | k + 1, m, x, h => by
    rw [show decL (k + 1) m = if m < 10 then [48 + (m : Int)] else decL k (m / 10) ++ [48 + ((m % 10 : Nat) : Int)] from rfl] at h
    split at h
    · simp at h; omega
    · rcases List.mem_append.1 h with h | h
      · exact dec_digit k _ x h
      · simp at h; omega

theorem dec_ne (k m : Nat) (hk : 0 < k) : decL k m ≠ [] := by
  cases k with
  | zero => omega
  | succ k =>
    rw [show decL (k + 1) m = if m < 10 then [48 + (m : Int)] else decL k (m / 10) ++ [48 + ((m % 10 : Nat) : Int)] from rfl]
    split <;> simp

/-- zeros behind a count -/
theorem zeros : ∀ (k : Nat) (v : Int), 1 ≤ v → v ≤ 9999 → (cntL (List.replicate k 48) v).2 = k ∧ v ≤ (cntL (List.replicate k 48) v).1 ∧ (cntL (List.replicate k 48) v).1 ≤ 9999 ∧
    ((v = 9999 ∨ 1000 ≤ v ∧ 1 ≤ k ∨ 100 ≤ v ∧ 2 ≤ k ∨ 10 ≤ v ∧ 3 ≤ k ∨ 4 ≤ k) → (cntL (List.replicate k 48) v).1 = 9999)
  | 0, v, h1, h2 => by simp [cntL]; omega
  | k + 1, v, h1, h2 => by
    have e : mn (v * 10 + (48 - 48)) 9999 = if 9999 < v * 10 then 9999 else v * 10 := by rw [mn_eq]; split <;> split <;> omega
    rw [show cntL (List.replicate (k + 1) 48) v = ((cntL (List.replicate k 48) (mn (v * 10 + (48 - 48)) 9999)).1, (cntL (List.replicate k 48) (mn (v * 10 + (48 - 48)) 9999)).2 + 1) by
      rw [List.replicate_succ]; rw [cntL]; rw [if_neg (by omega)]]
    generalize mn (v * 10 + (48 - 48)) 9999 = w at e
    have hw : 1 ≤ w ∧ w ≤ 9999 ∧ v ≤ w := by rw [e]; split <;> omega
    obtain ⟨a, b, c, d⟩ := zeros k w hw.1 hw.2.1
    refine ⟨by dsimp only; omega, by dsimp only; omega, c, fun h => d ?_⟩
    rw [e]; split <;> omega

/-! ### what the keys come to -/
theorem fin_of {s t : List Int} {n : Int} (h : cntL (s ++ t) 0 = (n, s.length)) (c : Cmd) :
    finM (s ++ t) c = (let m := namedM t (setCnt c n); if m.1 = 0 ∨ m.1 = 2 then (zC, m.1) else if m.2.1 ≠ [] then (zC, 2) else (m.2.2, m.1)) := by
  unfold finM
  rw [h]
  simp

theorem cnt_head {t : List Int} {b : Int} (hb : b < 48 ∨ 57 < b) : cntL (b :: t) 0 = (0, 0) := by
  unfold cntL; rw [if_pos (by omega)]

/-- behind d: a count (or none) and w -/
theorem work_dw {s : List Int} {n : Int} (h : cntL (s ++ [119]) 0 = (n, s.length)) (c : Cmd) : workM 100 (s ++ [119]) c = (1, [], setKey (cntC n c) [119]) := by
  unfold workM
  rw [h]
  simp only [List.drop_left]
  rfl

theorem fin_dw {s u : List Int} {m n : Int} (h1 : cntL (s ++ (100 :: (u ++ [119]))) 0 = (m, s.length)) (h2 : cntL (u ++ [119]) 0 = (n, u.length)) :
    finM (s ++ (100 :: (u ++ [119]))) zC = (setKey (cntC n (setOp (setCnt zC m) [100])) [119], 1) := by
  rw [fin_of h1]
  have e : namedM (100 :: (u ++ [119])) (setCnt zC m) = (1, [], setKey (cntC n (setOp (setCnt zC m) [100])) [119]) := by
    rw [show namedM (100 :: (u ++ [119])) (setCnt zC m) = workM 100 (u ++ [119]) (setOp (setCnt zC m) [100]) from rfl]
    exact work_dw h2 _
  rw [e]
  rfl

theorem fin_G {s : List Int} {n : Int} (h : cntL (s ++ [71]) 0 = (n, s.length)) : finM (s ++ [71]) zC = (setKey (setCnt zC n) [71], 1) := by
  rw [fin_of h]
  rfl

theorem parse_fin {s : List Int} (h : s.head? ≠ some 34) : parseM s = finM s zC := by
  unfold parseM; rw [if_neg h]

theorem head_dec {s t : List Int} (hs : s ≠ []) (hd : ∀ x ∈ s, 48 ≤ x ∧ x ≤ 57) : (s ++ t).head? ≠ some 34 := by
  cases s with
  | nil => exact absurd rfl hs
  | cons b r =>
    have := hd b List.mem_cons_self
    simp; omega

/-- a count's digits, or none -/
def numL (m : Nat) : List Int := if m = 0 then [] else decL 7 m
theorem num_cnt {m : Nat} (hm : m < 65536) {b : Int} (hb : b < 48 ∨ 57 < b) (t : List Int) : cntL (numL m ++ b :: t) 0 = (mn m 9999, (numL m).length) := by
  unfold numL
  by_cases h : m = 0
  · rw [if_pos h]; subst h
    simp only [List.nil_append, cnt_head hb]; decide
  · rw [if_neg h]
    have e := cntL_dec 7 m (by omega) (by omega)
    rw [cntL_tail hb, e]

theorem parse_dw {m n : Nat} (hm : m < 65536) (hn : n < 65536) : parseM (numL m ++ (100 :: (numL n ++ [119]))) = (setKey (cntC (mn n 9999) (setOp (setCnt zC (mn m 9999)) [100])) [119], 1) := by
  rw [parse_fin, fin_dw (num_cnt hm (by omega) _) (num_cnt hn (by omega) _)]
  unfold numL
  by_cases h : m = 0
  · rw [if_pos h]; simp
  · rw [if_neg h]; exact head_dec (dec_ne 7 m (by omega)) (dec_digit 7 m)

theorem parse_G {m k : Nat} (hm : 1 ≤ m) (hm2 : m < 65536) : ∃ w : Int, parseM ((decL 7 m ++ List.replicate k 48) ++ [71]) = (setKey (setCnt zC w) [71], 1) ∧ mn m 9999 ≤ w ∧ w ≤ 9999 ∧ (4 ≤ k → w = 9999) := by
  have e := cntL_dec 7 m hm (by omega)
  have hv : 1 ≤ mn (m : Int) 9999 ∧ mn (m : Int) 9999 ≤ 9999 := by rw [mn_eq]; split <;> omega
  obtain ⟨z1, z2, z3, z4⟩ := zeros k _ hv.1 hv.2
  refine ⟨_, ?_, z2, z3, fun h => z4 (by omega)⟩
  have e2 : cntL (decL 7 m ++ List.replicate k 48) 0 = ((cntL (List.replicate k 48) (mn (m : Int) 9999)).1, (decL 7 m ++ List.replicate k 48).length) := by
    rw [cntL_cat _ _ _ (by rw [e]), e, z1]; simp
  rw [parse_fin, fin_G]
  · rw [cntL_tail (by omega), e2]
  · rw [List.append_assoc]
    exact head_dec (dec_ne 7 m (by omega)) (dec_digit 7 m)

/-! ### the law -/
theorem byte_dec (k m : Nat) : ∀ x ∈ decL k m, 0 ≤ x ∧ x ≤ 255 := fun x hx => by have := dec_digit k m x hx; omega

theorem digP {m : Nat} (hm : m < 65536) : quoinlaw21_digits_P (m : Int) := ⟨7, by omega, by omega, by rw [Int.toNat_natCast]; omega, by omega⟩
theorem digF (m : Nat) : quoinlaw21_digits_F (m : Int) = decL 7 m := rfl

theorem loop0 {kx0 : Int → Int → List Int → Prop} {N : Nat} {m7 : Int} (hN : N ≤ 255) : ∀ (f i : Nat) (long : List Int), i ≤ N → N - i < f → long.length + (N - i) ≤ 1000 →
    kx0 N m7 (long ++ List.replicate (N - i) 48) → quoinlaw21_KeysCounts_L0 kx0 f (N : Int) m7 long (i : Int)
  | 0, _, _, _, h, _, _ => absurd h (Nat.not_lt_zero _)
  | f + 1, i, long, hi, hf, hl, hk => by
    intro _
    unfold quoinlaw21_KeysCounts_T0
    rw [wrap_i64 (n := (N : Int)) (by omega) (by omega)]
    refine brn (fun hlt => asrt (by simp only [List.length_cons, List.length_nil, lim]; omega) ?_) (fun hge => ?_)
    · rw [wrap_i64 (by omega) (by omega), show (i : Int) + 1 = ((i + 1 : Nat) : Int) by omega]
      refine loop0 hN f (i + 1) _ (by omega) (by omega) (by simp only [List.length_append, List.length_cons, List.length_nil]; omega) ?_
      rw [List.append_assoc, show ([48] : List Int) ++ List.replicate (N - (i + 1)) 48 = List.replicate (N - i) 48 by
        rw [show N - i = (N - (i + 1)) + 1 by omega, List.replicate_succ]; rfl]
      exact hk
    · rw [show N - i = 0 by omega] at hk
      simpa using hk

theorem J1_ok {kr : Bool → Prop} (hk : kr true) {N m n : Nat} (hN : N ≤ 255) (hm : m < 65536) (hn : n < 65536) {s : List Int} (hs : s = numL m ++ (100 :: (numL n ++ [119]))) {want : Int}
    (hw : mn want 9999 = if m = 0 ∧ n = 0 then 0 else mn (mn (mx m 1) 9999 * mn (mx n 1) 9999) 9999) : quoinlaw21_KeysCounts_J1 kr (N : Int) (m : Int) s want := by
  have nlen : ∀ a : Nat, (numL a).length ≤ 7 := fun a => by unfold numL; split; exact Nat.zero_le _; exact decL_len 7 a
  have nbyte : ∀ a : Nat, ∀ x ∈ numL a, 0 ≤ x ∧ x ≤ 255 := fun a x hx => by
    unfold numL at hx; split at hx
    · simp at hx
    · exact byte_dec 7 a x hx
  have hsl : s.length ≤ 1099511627776 := by
    rw [hs]; have := nlen m; have := nlen n
    simp only [List.length_append, List.length_cons, List.length_nil]; omega
  have hsb : ∀ x ∈ s, 0 ≤ x ∧ x ≤ 255 := fun x hx => by
    rw [hs] at hx
    simp only [List.mem_append, List.mem_cons, List.not_mem_nil, or_false] at hx
    rcases hx with hx | hx | hx | hx
    · exact nbyte m x hx
    · omega
    · exact nbyte n x hx
    · omega
  unfold quoinlaw21_KeysCounts_J1
  refine ⟨parse_P hsl hsb, fun r6 h6 _ => ?_⟩
  rw [parse_F hsl hsb, hs, parse_dw hm hn] at h6
  subst h6
  have hcnt : (setKey (cntC (mn n 9999) (setOp (setCnt zC (mn m 9999)) [100])) [119]).2.1 = mn want 9999 := by
    rw [hw]
    show (cntC (mn n 9999) (setOp (setCnt zC (mn m 9999)) [100])).2.1 = _
    unfold cntC
    show (if 0 < mn (n : Int) 9999 ∨ 0 < mn (m : Int) 9999 then setCnt _ _ else _ : Cmd).2.1 = _
    have p : ∀ a : Nat, (0 < mn (a : Int) 9999 ↔ a ≠ 0) := fun a => by rw [mn_eq]; split <;> omega
    simp only [p]
    by_cases h0 : m = 0 ∧ n = 0
    · rw [if_neg (by omega), if_pos h0]
      show mn (m : Int) 9999 = 0
      rw [h0.1]; decide
    · rw [if_pos (by omega), if_neg h0]
      show mn (mx (mn (m : Int) 9999) 1 * mx (mn (n : Int) 9999) 1) 9999 = _
      have q : ∀ a : Nat, mx (mn (a : Int) 9999) 1 = mn (mx a 1) 9999 := fun a => by
        simp only [mn_eq, mx_eq]; repeat' split
        all_goals omega
      rw [q, q]
  refine brb (fun h => by simp at h) (fun _ => ?_)
  refine brb (fun h => by rw [hcnt] at h; simp at h) (fun _ => ?_)
  refine brb (fun h => ?_) (fun _ => ?_)
  · have e : (setKey (cntC (mn n 9999) (setOp (setCnt zC (mn m 9999)) [100])) [119]).2.2.1 = [100] := by
      show (cntC (mn n 9999) (setOp (setCnt zC (mn m 9999)) [100])).2.2.1 = [100]
      unfold cntC; split <;> rfl
    rw [e] at h; simp at h
  refine brb (fun h => ?_) (fun _ => ?_)
  · have e : (setKey (cntC (mn n 9999) (setOp (setCnt zC (mn m 9999)) [100])) [119]).2.2.2.1 = [119] := rfl
    rw [e] at h; simp at h
  have hM : ∃ M : Nat, mx (m : Int) 1 = (M : Int) ∧ 1 ≤ M ∧ M < 65536 := ⟨if m < 1 then 1 else m, by rw [mx_eq]; split <;> split <;> omega, by split <;> omega, by split <;> omega⟩
  obtain ⟨M, hMe, hM1, hM2⟩ := hM
  rw [hMe]
  refine ⟨digP hM2, fun r7 h7 _ => ?_⟩
  rw [digF] at h7
  subst h7
  intro _
  have l7 := decL_len 7 M
  refine ⟨N + 1, loop0 (i := 0) hN (N + 1) _ (Nat.zero_le _) (by omega) (by omega) ?_⟩
  intro _
  have hll : ((decL 7 M ++ List.replicate (N - 0) 48) ++ [71]).length ≤ 1099511627776 := by
    simp only [List.length_append, List.length_replicate, List.length_cons, List.length_nil]; omega
  have hlb : ∀ x ∈ (decL 7 M ++ List.replicate (N - 0) 48) ++ [71], 0 ≤ x ∧ x ≤ 255 := fun x hx => by
    simp only [List.mem_append, List.mem_replicate, List.mem_cons, List.not_mem_nil, or_false] at hx
    rcases hx with (hx | hx) | hx
    · exact byte_dec 7 M x hx
    · omega
    · omega
  refine asrt (by simp only [List.length_append, List.length_replicate, List.length_cons, List.length_nil, lim]; omega) ⟨parse_P hll hlb, fun r8 h8 _ => ?_⟩
  obtain ⟨w, hw1, hw2, hw3, hw4⟩ := parse_G (k := N - 0) hM1 hM2
  rw [parse_F hll hlb, hw1] at h8
  subst h8
  have c1 : decide ((1 : Int) = 1) = true := rfl
  refine brn (fun h3 => ?_) (fun h3 => ?_)
  · refine brn (fun _ => ?_) (fun h => absurd rfl h)
    have : w = 9999 := hw4 (by omega)
    show kr (decide (w = 9999))
    rw [this]; exact hk
  · refine brn (fun _ => ?_) (fun h => absurd rfl h)
    refine brn (fun _ => ?_) (fun h => absurd hw2 (by rw [hMe] at h; exact h))
    refine brn (fun _ => ?_) (fun h => absurd hw3 h)
    exact hk

theorem counts_raw (a b c : Int) (ha0 : 0 ≤ a) (ha1 : a ≤ 65535) (hb0 : 0 ≤ b) (hb1 : b ≤ 65535) (hc0 : 0 ≤ c) (hc1 : c ≤ 255) : quoinlaw21_KeysCounts_raw a b c yesK := by
  obtain ⟨m, rfl⟩ : ∃ m : Nat, a = m := ⟨a.toNat, by omega⟩
  obtain ⟨n, rfl⟩ : ∃ n : Nat, b = n := ⟨b.toNat, by omega⟩
  obtain ⟨N, rfl⟩ : ∃ N : Nat, c = N := ⟨c.toNat, by omega⟩
  have hm : m < 65536 := by omega
  have hn : n < 65536 := by omega
  have hN : N ≤ 255 := by omega
  unfold quoinlaw21_KeysCounts_raw
  rw [wrap_i64 (n := (m : Int)) (by omega) (by omega), wrap_i64 (n := (n : Int)) (by omega) (by omega)]
  intro r1 hr1 _
  subst hr1
  refine brb (fun h => by cases h) (fun _ => ?_)
  have lm := decL_len 7 m
  have ln := decL_len 7 n
  refine ⟨digP hm, fun r2 h2 _ => ?_⟩
  rw [digF] at h2; subst h2
  refine asrt (by simp only [List.length_cons, List.length_nil, lim]; omega) ⟨digP hn, fun r3 h3 _ => ?_⟩
  rw [digF] at h3; subst h3
  refine asrt (by simp only [List.length_append, List.length_cons, List.length_nil, lim]; omega) (asrt (by simp only [List.length_append, List.length_cons, List.length_nil, lim]; omega) ?_)
  -- the count that is looked for
  have W : ∀ {kr : Bool → Prop}, kr true → ∀ {s : List Int}, s = numL m ++ (100 :: (numL n ++ [119])) → quoinlaw21_KeysCounts_J2 kr (N : Int) (m : Int) (n : Int) s := by
    intro kr hk s hs
    have hp : IntKind.wrap .i64 (mn (mx (m : Int) 1) 9999 * mn (mx (n : Int) 1) 9999) = mn (mx (m : Int) 1) 9999 * mn (mx (n : Int) 1) 9999 := by
      have q : ∀ a : Nat, 0 ≤ mn (mx (a : Int) 1) 9999 ∧ mn (mx (a : Int) 1) 9999 ≤ 9999 := fun a => by simp only [mn_eq, mx_eq]; repeat' split <;> omega
      have p1 : 0 ≤ mn (mx (m : Int) 1) 9999 * mn (mx (n : Int) 1) 9999 := Int.mul_nonneg (q m).1 (q n).1
      have p2 : mn (mx (m : Int) 1) 9999 * mn (mx (n : Int) 1) 9999 ≤ 9999 * 9999 := Int.mul_le_mul (q m).2 (q n).2 (q n).1 (by omega)
      exact wrap_i64 (by omega) (by omega)
    unfold quoinlaw21_KeysCounts_J2
    rw [hp]
    have big : ¬ (m = 0 ∧ n = 0) → quoinlaw21_KeysCounts_J1 (fun (x6 : Bool) => wfD quoinlaw21_KeysCounts_d1r (x6, ()) → kr x6) (N : Int) (m : Int) s (mn (mx (m : Int) 1) 9999 * mn (mx (n : Int) 1) 9999) := fun h0 =>
      J1_ok (fun _ => hk) hN hm hn hs (by rw [if_neg h0])
    refine brn (fun h1 => brn (fun h2 _ => ?_) (fun h2 _ => big (by omega))) (fun h1 _ => big (by omega))
    exact J1_ok (fun _ => hk) hN hm hn hs (by rw [if_pos (by omega)]; decide)
  have W3 : ∀ {kr : Bool → Prop}, kr true → ∀ {s : List Int}, (¬ (m = 0 ∧ n = 0) → s = numL m ++ (100 :: (numL n ++ [119]))) → quoinlaw21_KeysCounts_J3 kr (N : Int) (m : Int) (n : Int) s := by
    intro kr hk s hs
    unfold quoinlaw21_KeysCounts_J3
    refine brn (fun h1 => brn (fun h2 _ => ?_) (fun h2 _ => W (fun _ => hk) (hs (by omega)))) (fun h1 _ => W (fun _ => hk) (hs (by omega)))
    refine W (fun _ => hk) ?_
    have e1 : m = 0 := by omega
    have e2 : n = 0 := by omega
    subst e1; subst e2; rfl
  have W4 : ∀ {kr : Bool → Prop}, kr true → ∀ {s : List Int}, (n ≠ 0 → s = numL m ++ (100 :: (numL n ++ [119]))) → quoinlaw21_KeysCounts_J4 kr (N : Int) (m : Int) (n : Int) s := by
    intro kr hk s hs
    unfold quoinlaw21_KeysCounts_J4
    refine brn (fun h1 => ⟨digP hm, fun r5 h5 _ => ?_⟩) (fun h1 _ => W3 (fun _ => hk) (fun _ => hs (by omega)))
    rw [digF] at h5; subst h5
    refine asrt (by simp only [List.length_cons, List.length_nil, lim]; omega) fun _ => W3 (fun _ => hk) (fun h0 => ?_)
    have e2 : n = 0 := by omega
    subst e2
    have : m ≠ 0 := fun e => h0 ⟨e, rfl⟩
    unfold numL
    rw [if_neg this, if_pos rfl]
    rfl
  refine brn (fun h1 => ⟨digP hn, fun r4 h4 _ => ?_⟩) (fun h1 _ => W4 (fun _ => rfl) (fun h0 => ?_))
  · rw [digF] at h4; subst h4
    refine asrt (by simp only [List.length_cons, List.length_nil, lim]; omega) (asrt (by simp only [List.length_append, List.length_cons, List.length_nil, lim]; omega) fun _ => W4 (fun _ => rfl) (fun h0 => ?_))
    have e1 : m = 0 := by omega
    subst e1
    unfold numL
    rw [if_pos rfl, if_neg h0]
    rfl
  · have : m ≠ 0 := by omega
    unfold numL
    rw [if_neg this, if_neg h0]
    simp [List.append_assoc]

theorem counts_law (v : valsA quoinlaw21_KeysCounts_A) (hw : wfA quoinlaw21_KeysCounts_A v) (_ : bulkA quoinlaw21_KeysCounts_A v ≤ 1048576) : quoinlaw21_KeysCounts_R (mkA quoinlaw21_KeysCounts_A v) yesK := by
  obtain ⟨a, b, c, ⟨⟩⟩ := v
  refine (quoinlaw21_KeysCounts_walk a b c yesK).mpr ?_
  obtain ⟨⟨ha0, ha1⟩, ⟨hb0, hb1⟩, ⟨hc0, hc1⟩, _⟩ := hw
  exact counts_raw a b c ha0 ha1 hb0 hb1 hc0 hc1
end Go.VE
