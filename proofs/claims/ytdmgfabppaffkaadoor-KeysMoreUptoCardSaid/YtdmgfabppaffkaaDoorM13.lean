/- KeysMore: whatever the input, up to the bulk that the statement names, the law answers true, and what was handed in reads as it did. Its conditions: the bound of the given statement and the tables that its card ties, no other. -/
import Derived.Test.YtdmgfabppaffkaaDoorM12
set_option linter.unusedVariables false
set_option linter.unusedSectionVars false
set_option linter.unusedSimpArgs false
namespace Go.VE
open Go Go.Proofs
/-! ### quoin/quoinlaw21.KeysMore -/
def quoinlaw21_KeysMore_G : List (Nat × App) := [(10, quoinlaw21_awake_S), (12, keys_Parse_S)]
theorem quoinlaw21_KeysMore_Gok : GOk Tryd.prog (getG quoinlaw21_KeysMore_G) := GOk.cons quoinlaw21_awake_ok (GOk.cons keys_Parse_ok (GOk.nil))
theorem quoinlaw21_KeysMore_st : storesC (bodyOf Tryd.f7) = true := by kernel_rfl
def quoinlaw21_KeysMore_d0 : List LS := [.v 0 (.sl (.int .u8)), .o 5 45 9 (.str), .v 6 (.int .i64)]
def quoinlaw21_KeysMore_d0r : List LS := [.v 2 (.bool)]
def quoinlaw21_KeysMore_d0x0 : List LS := []
def quoinlaw21_KeysMore_dx0 : DX := ⟨none, some quoinlaw21_KeysMore_d0r, [(0, quoinlaw21_KeysMore_d0x0)]⟩
def quoinlaw21_KeysMore_T0 (Y : List Int → List (List Int) → Int → Prop) (kr : Bool → Prop) (kx0 : Prop) (all0 : List Int) (tails5 : List (List Int)) (i6 : Int) : Prop :=
  bif (decide (i6 < (List.length tails5 : Int))) then
    (
      (
        bif decide (List.length ([] : List Int) + List.length all0 ≤ lim) then
        (
          bif decide (0 ≤ i6 ∧ i6 < (List.length tails5 : Int)) then
          (
            (
              bif decide (List.length (([] : List Int) ++ all0) + List.length (rd ([] : List Int) tails5 i6) ≤ lim) then
              (
                keys_Parse_P ((([] : List Int) ++ all0) ++ (rd ([] : List Int) tails5 i6)) ∧ (
                ∀ (r3 : (Int × Int × List Int × List Int × Int × List Int) × Int), r3 = keys_Parse_F ((([] : List Int) ++ all0) ++ (rd ([] : List Int) tails5 i6)) → (
                wfR (.tup [.v (.st (.pair (.int .u8) (.pair (.int .i64) (.pair (.str) (.pair (.str) (.pair (.int .u8) (.sl (.int .u8)))))))) r3.1, .v (.int .i64) r3.2]) → (
                bif (decide (r3.2 = (1 : Int))) then
                  kr true
                else
                  Y all0 tails5 (IntKind.wrap .i64 (i6 + (1 : Int))))))) ∧ (
                keys_Parse_P ((([] : List Int) ++ all0) ++ (rd ([] : List Int) tails5 i6)) ∧ (
                ∀ (r4 : (Int × Int × List Int × List Int × Int × List Int) × Int), r4 = keys_Parse_F ((([] : List Int) ++ all0) ++ (rd ([] : List Int) tails5 i6)) → (
                wfR (.tup [.v (.st (.pair (.int .u8) (.pair (.int .i64) (.pair (.str) (.pair (.str) (.pair (.int .u8) (.sl (.int .u8)))))))) r4.1, .v (.int .i64) r4.2]) → (
                bif (decide (r4.2 = (1 : Int))) then
                  kr true
                else
                  Y all0 tails5 (IntKind.wrap .i64 (i6 + (1 : Int))))))) ∧ True
              else False) ∧ (
              bif decide (List.length (([] : List Int) ++ all0) + List.length (rd ([] : List Int) tails5 i6) ≤ lim) then
              keys_Parse_P ((([] : List Int) ++ all0) ++ (rd ([] : List Int) tails5 i6)) ∧ (
              ∀ (r5 : (Int × Int × List Int × List Int × Int × List Int) × Int), r5 = keys_Parse_F ((([] : List Int) ++ all0) ++ (rd ([] : List Int) tails5 i6)) → (
              wfR (.tup [.v (.st (.pair (.int .u8) (.pair (.int .i64) (.pair (.str) (.pair (.str) (.pair (.int .u8) (.sl (.int .u8)))))))) r5.1, .v (.int .i64) r5.2]) → (
              bif (decide (r5.2 = (1 : Int))) then
                kr true
              else
                Y all0 tails5 (IntKind.wrap .i64 (i6 + (1 : Int))))))
              else False) ∧ True) ∧ (
            bif decide (List.length (([] : List Int) ++ all0) + List.length (rd ([] : List Int) tails5 i6) ≤ lim) then
            keys_Parse_P ((([] : List Int) ++ all0) ++ (rd ([] : List Int) tails5 i6)) ∧ (
            ∀ (r6 : (Int × Int × List Int × List Int × Int × List Int) × Int), r6 = keys_Parse_F ((([] : List Int) ++ all0) ++ (rd ([] : List Int) tails5 i6)) → (
            wfR (.tup [.v (.st (.pair (.int .u8) (.pair (.int .i64) (.pair (.str) (.pair (.str) (.pair (.int .u8) (.sl (.int .u8)))))))) r6.1, .v (.int .i64) r6.2]) → (
            bif (decide (r6.2 = (1 : Int))) then
              kr true
            else
              Y all0 tails5 (IntKind.wrap .i64 (i6 + (1 : Int))))))
            else False) ∧ True
          else False) ∧ (
          bif decide (0 ≤ i6 ∧ i6 < (List.length tails5 : Int)) then
          bif decide (List.length (([] : List Int) ++ all0) + List.length (rd ([] : List Int) tails5 i6) ≤ lim) then
          keys_Parse_P ((([] : List Int) ++ all0) ++ (rd ([] : List Int) tails5 i6)) ∧ (
          ∀ (r7 : (Int × Int × List Int × List Int × Int × List Int) × Int), r7 = keys_Parse_F ((([] : List Int) ++ all0) ++ (rd ([] : List Int) tails5 i6)) → (
          wfR (.tup [.v (.st (.pair (.int .u8) (.pair (.int .i64) (.pair (.str) (.pair (.str) (.pair (.int .u8) (.sl (.int .u8)))))))) r7.1, .v (.int .i64) r7.2]) → (
          bif (decide (r7.2 = (1 : Int))) then
            kr true
          else
            Y all0 tails5 (IntKind.wrap .i64 (i6 + (1 : Int))))))
          else False
          else False) ∧ True
        else False) ∧ (
        bif decide (0 ≤ i6 ∧ i6 < (List.length tails5 : Int)) then
        (
          bif decide (List.length ([] : List Int) + List.length all0 ≤ lim) then
          (
            (
              bif decide (List.length (([] : List Int) ++ all0) + List.length (rd ([] : List Int) tails5 i6) ≤ lim) then
              (
                keys_Parse_P ((([] : List Int) ++ all0) ++ (rd ([] : List Int) tails5 i6)) ∧ (
                ∀ (r8 : (Int × Int × List Int × List Int × Int × List Int) × Int), r8 = keys_Parse_F ((([] : List Int) ++ all0) ++ (rd ([] : List Int) tails5 i6)) → (
                wfR (.tup [.v (.st (.pair (.int .u8) (.pair (.int .i64) (.pair (.str) (.pair (.str) (.pair (.int .u8) (.sl (.int .u8)))))))) r8.1, .v (.int .i64) r8.2]) → (
                bif (decide (r8.2 = (1 : Int))) then
                  kr true
                else
                  Y all0 tails5 (IntKind.wrap .i64 (i6 + (1 : Int))))))) ∧ (
                keys_Parse_P ((([] : List Int) ++ all0) ++ (rd ([] : List Int) tails5 i6)) ∧ (
                ∀ (r9 : (Int × Int × List Int × List Int × Int × List Int) × Int), r9 = keys_Parse_F ((([] : List Int) ++ all0) ++ (rd ([] : List Int) tails5 i6)) → (
                wfR (.tup [.v (.st (.pair (.int .u8) (.pair (.int .i64) (.pair (.str) (.pair (.str) (.pair (.int .u8) (.sl (.int .u8)))))))) r9.1, .v (.int .i64) r9.2]) → (
                bif (decide (r9.2 = (1 : Int))) then
                  kr true
                else
                  Y all0 tails5 (IntKind.wrap .i64 (i6 + (1 : Int))))))) ∧ True
              else False) ∧ (
              bif decide (List.length (([] : List Int) ++ all0) + List.length (rd ([] : List Int) tails5 i6) ≤ lim) then
              keys_Parse_P ((([] : List Int) ++ all0) ++ (rd ([] : List Int) tails5 i6)) ∧ (
              ∀ (r10 : (Int × Int × List Int × List Int × Int × List Int) × Int), r10 = keys_Parse_F ((([] : List Int) ++ all0) ++ (rd ([] : List Int) tails5 i6)) → (
              wfR (.tup [.v (.st (.pair (.int .u8) (.pair (.int .i64) (.pair (.str) (.pair (.str) (.pair (.int .u8) (.sl (.int .u8)))))))) r10.1, .v (.int .i64) r10.2]) → (
              bif (decide (r10.2 = (1 : Int))) then
                kr true
              else
                Y all0 tails5 (IntKind.wrap .i64 (i6 + (1 : Int))))))
              else False) ∧ True) ∧ (
            bif decide (List.length (([] : List Int) ++ all0) + List.length (rd ([] : List Int) tails5 i6) ≤ lim) then
            keys_Parse_P ((([] : List Int) ++ all0) ++ (rd ([] : List Int) tails5 i6)) ∧ (
            ∀ (r11 : (Int × Int × List Int × List Int × Int × List Int) × Int), r11 = keys_Parse_F ((([] : List Int) ++ all0) ++ (rd ([] : List Int) tails5 i6)) → (
            wfR (.tup [.v (.st (.pair (.int .u8) (.pair (.int .i64) (.pair (.str) (.pair (.str) (.pair (.int .u8) (.sl (.int .u8)))))))) r11.1, .v (.int .i64) r11.2]) → (
            bif (decide (r11.2 = (1 : Int))) then
              kr true
            else
              Y all0 tails5 (IntKind.wrap .i64 (i6 + (1 : Int))))))
            else False) ∧ True
          else False) ∧ (
          (
            bif decide (List.length ([] : List Int) + List.length all0 ≤ lim) then
            (
              bif decide (List.length (([] : List Int) ++ all0) + List.length (rd ([] : List Int) tails5 i6) ≤ lim) then
              (
                keys_Parse_P ((([] : List Int) ++ all0) ++ (rd ([] : List Int) tails5 i6)) ∧ (
                ∀ (r12 : (Int × Int × List Int × List Int × Int × List Int) × Int), r12 = keys_Parse_F ((([] : List Int) ++ all0) ++ (rd ([] : List Int) tails5 i6)) → (
                wfR (.tup [.v (.st (.pair (.int .u8) (.pair (.int .i64) (.pair (.str) (.pair (.str) (.pair (.int .u8) (.sl (.int .u8)))))))) r12.1, .v (.int .i64) r12.2]) → (
                bif (decide (r12.2 = (1 : Int))) then
                  kr true
                else
                  Y all0 tails5 (IntKind.wrap .i64 (i6 + (1 : Int))))))) ∧ (
                keys_Parse_P ((([] : List Int) ++ all0) ++ (rd ([] : List Int) tails5 i6)) ∧ (
                ∀ (r13 : (Int × Int × List Int × List Int × Int × List Int) × Int), r13 = keys_Parse_F ((([] : List Int) ++ all0) ++ (rd ([] : List Int) tails5 i6)) → (
                wfR (.tup [.v (.st (.pair (.int .u8) (.pair (.int .i64) (.pair (.str) (.pair (.str) (.pair (.int .u8) (.sl (.int .u8)))))))) r13.1, .v (.int .i64) r13.2]) → (
                bif (decide (r13.2 = (1 : Int))) then
                  kr true
                else
                  Y all0 tails5 (IntKind.wrap .i64 (i6 + (1 : Int))))))) ∧ True
              else False) ∧ (
              bif decide (List.length (([] : List Int) ++ all0) + List.length (rd ([] : List Int) tails5 i6) ≤ lim) then
              keys_Parse_P ((([] : List Int) ++ all0) ++ (rd ([] : List Int) tails5 i6)) ∧ (
              ∀ (r14 : (Int × Int × List Int × List Int × Int × List Int) × Int), r14 = keys_Parse_F ((([] : List Int) ++ all0) ++ (rd ([] : List Int) tails5 i6)) → (
              wfR (.tup [.v (.st (.pair (.int .u8) (.pair (.int .i64) (.pair (.str) (.pair (.str) (.pair (.int .u8) (.sl (.int .u8)))))))) r14.1, .v (.int .i64) r14.2]) → (
              bif (decide (r14.2 = (1 : Int))) then
                kr true
              else
                Y all0 tails5 (IntKind.wrap .i64 (i6 + (1 : Int))))))
              else False) ∧ True
            else False) ∧ (
            bif decide (List.length ([] : List Int) + List.length all0 ≤ lim) then
            bif decide (List.length (([] : List Int) ++ all0) + List.length (rd ([] : List Int) tails5 i6) ≤ lim) then
            keys_Parse_P ((([] : List Int) ++ all0) ++ (rd ([] : List Int) tails5 i6)) ∧ (
            ∀ (r15 : (Int × Int × List Int × List Int × Int × List Int) × Int), r15 = keys_Parse_F ((([] : List Int) ++ all0) ++ (rd ([] : List Int) tails5 i6)) → (
            wfR (.tup [.v (.st (.pair (.int .u8) (.pair (.int .i64) (.pair (.str) (.pair (.str) (.pair (.int .u8) (.sl (.int .u8)))))))) r15.1, .v (.int .i64) r15.2]) → (
            bif (decide (r15.2 = (1 : Int))) then
              kr true
            else
              Y all0 tails5 (IntKind.wrap .i64 (i6 + (1 : Int))))))
            else False
            else False) ∧ True) ∧ (
          (
            bif decide (List.length ([] : List Int) + List.length all0 ≤ lim) then
            bif decide (List.length (([] : List Int) ++ all0) + List.length (rd ([] : List Int) tails5 i6) ≤ lim) then
            keys_Parse_P ((([] : List Int) ++ all0) ++ (rd ([] : List Int) tails5 i6)) ∧ (
            ∀ (r16 : (Int × Int × List Int × List Int × Int × List Int) × Int), r16 = keys_Parse_F ((([] : List Int) ++ all0) ++ (rd ([] : List Int) tails5 i6)) → (
            wfR (.tup [.v (.st (.pair (.int .u8) (.pair (.int .i64) (.pair (.str) (.pair (.str) (.pair (.int .u8) (.sl (.int .u8)))))))) r16.1, .v (.int .i64) r16.2]) → (
            bif (decide (r16.2 = (1 : Int))) then
              kr true
            else
              Y all0 tails5 (IntKind.wrap .i64 (i6 + (1 : Int))))))
            else False
            else False) ∧ (
            bif decide (List.length ([] : List Int) + List.length all0 ≤ lim) then
            bif decide (List.length (([] : List Int) ++ all0) + List.length (rd ([] : List Int) tails5 i6) ≤ lim) then
            keys_Parse_P ((([] : List Int) ++ all0) ++ (rd ([] : List Int) tails5 i6)) ∧ (
            ∀ (r17 : (Int × Int × List Int × List Int × Int × List Int) × Int), r17 = keys_Parse_F ((([] : List Int) ++ all0) ++ (rd ([] : List Int) tails5 i6)) → (
            wfR (.tup [.v (.st (.pair (.int .u8) (.pair (.int .i64) (.pair (.str) (.pair (.str) (.pair (.int .u8) (.sl (.int .u8)))))))) r17.1, .v (.int .i64) r17.2]) → (
            bif (decide (r17.2 = (1 : Int))) then
              kr true
            else
              Y all0 tails5 (IntKind.wrap .i64 (i6 + (1 : Int))))))
            else False
            else False) ∧ True) ∧ True
        else False) ∧ (
        (
          bif decide (List.length ([] : List Int) + List.length all0 ≤ lim) then
          bif decide (0 ≤ i6 ∧ i6 < (List.length tails5 : Int)) then
          bif decide (List.length (([] : List Int) ++ all0) + List.length (rd ([] : List Int) tails5 i6) ≤ lim) then
          keys_Parse_P ((([] : List Int) ++ all0) ++ (rd ([] : List Int) tails5 i6)) ∧ (
          ∀ (r18 : (Int × Int × List Int × List Int × Int × List Int) × Int), r18 = keys_Parse_F ((([] : List Int) ++ all0) ++ (rd ([] : List Int) tails5 i6)) → (
          wfR (.tup [.v (.st (.pair (.int .u8) (.pair (.int .i64) (.pair (.str) (.pair (.str) (.pair (.int .u8) (.sl (.int .u8)))))))) r18.1, .v (.int .i64) r18.2]) → (
          bif (decide (r18.2 = (1 : Int))) then
            kr true
          else
            Y all0 tails5 (IntKind.wrap .i64 (i6 + (1 : Int))))))
          else False
          else False
          else False) ∧ (
          bif decide (0 ≤ i6 ∧ i6 < (List.length tails5 : Int)) then
          (
            bif decide (List.length ([] : List Int) + List.length all0 ≤ lim) then
            bif decide (List.length (([] : List Int) ++ all0) + List.length (rd ([] : List Int) tails5 i6) ≤ lim) then
            keys_Parse_P ((([] : List Int) ++ all0) ++ (rd ([] : List Int) tails5 i6)) ∧ (
            ∀ (r19 : (Int × Int × List Int × List Int × Int × List Int) × Int), r19 = keys_Parse_F ((([] : List Int) ++ all0) ++ (rd ([] : List Int) tails5 i6)) → (
            wfR (.tup [.v (.st (.pair (.int .u8) (.pair (.int .i64) (.pair (.str) (.pair (.str) (.pair (.int .u8) (.sl (.int .u8)))))))) r19.1, .v (.int .i64) r19.2]) → (
            bif (decide (r19.2 = (1 : Int))) then
              kr true
            else
              Y all0 tails5 (IntKind.wrap .i64 (i6 + (1 : Int))))))
            else False
            else False) ∧ (
            bif decide (List.length ([] : List Int) + List.length all0 ≤ lim) then
            bif decide (List.length (([] : List Int) ++ all0) + List.length (rd ([] : List Int) tails5 i6) ≤ lim) then
            keys_Parse_P ((([] : List Int) ++ all0) ++ (rd ([] : List Int) tails5 i6)) ∧ (
            ∀ (r20 : (Int × Int × List Int × List Int × Int × List Int) × Int), r20 = keys_Parse_F ((([] : List Int) ++ all0) ++ (rd ([] : List Int) tails5 i6)) → (
            wfR (.tup [.v (.st (.pair (.int .u8) (.pair (.int .i64) (.pair (.str) (.pair (.str) (.pair (.int .u8) (.sl (.int .u8)))))))) r20.1, .v (.int .i64) r20.2]) → (
            bif (decide (r20.2 = (1 : Int))) then
              kr true
            else
              Y all0 tails5 (IntKind.wrap .i64 (i6 + (1 : Int))))))
            else False
            else False) ∧ True
          else False) ∧ True) ∧ True) ∧ (
      bif decide (0 ≤ i6 ∧ i6 < (List.length tails5 : Int)) then
      (
        (
          bif decide (List.length ([] : List Int) + List.length all0 ≤ lim) then
          (
            (
              bif decide (List.length (([] : List Int) ++ all0) + List.length (rd ([] : List Int) tails5 i6) ≤ lim) then
              (
                keys_Parse_P ((([] : List Int) ++ all0) ++ (rd ([] : List Int) tails5 i6)) ∧ (
                ∀ (r21 : (Int × Int × List Int × List Int × Int × List Int) × Int), r21 = keys_Parse_F ((([] : List Int) ++ all0) ++ (rd ([] : List Int) tails5 i6)) → (
                wfR (.tup [.v (.st (.pair (.int .u8) (.pair (.int .i64) (.pair (.str) (.pair (.str) (.pair (.int .u8) (.sl (.int .u8)))))))) r21.1, .v (.int .i64) r21.2]) → (
                bif (decide (r21.2 = (1 : Int))) then
                  kr true
                else
                  Y all0 tails5 (IntKind.wrap .i64 (i6 + (1 : Int))))))) ∧ (
                keys_Parse_P ((([] : List Int) ++ all0) ++ (rd ([] : List Int) tails5 i6)) ∧ (
                ∀ (r22 : (Int × Int × List Int × List Int × Int × List Int) × Int), r22 = keys_Parse_F ((([] : List Int) ++ all0) ++ (rd ([] : List Int) tails5 i6)) → (
                wfR (.tup [.v (.st (.pair (.int .u8) (.pair (.int .i64) (.pair (.str) (.pair (.str) (.pair (.int .u8) (.sl (.int .u8)))))))) r22.1, .v (.int .i64) r22.2]) → (
                bif (decide (r22.2 = (1 : Int))) then
                  kr true
                else
                  Y all0 tails5 (IntKind.wrap .i64 (i6 + (1 : Int))))))) ∧ True
              else False) ∧ (
              bif decide (List.length (([] : List Int) ++ all0) + List.length (rd ([] : List Int) tails5 i6) ≤ lim) then
              keys_Parse_P ((([] : List Int) ++ all0) ++ (rd ([] : List Int) tails5 i6)) ∧ (
              ∀ (r23 : (Int × Int × List Int × List Int × Int × List Int) × Int), r23 = keys_Parse_F ((([] : List Int) ++ all0) ++ (rd ([] : List Int) tails5 i6)) → (
              wfR (.tup [.v (.st (.pair (.int .u8) (.pair (.int .i64) (.pair (.str) (.pair (.str) (.pair (.int .u8) (.sl (.int .u8)))))))) r23.1, .v (.int .i64) r23.2]) → (
              bif (decide (r23.2 = (1 : Int))) then
                kr true
              else
                Y all0 tails5 (IntKind.wrap .i64 (i6 + (1 : Int))))))
              else False) ∧ True) ∧ (
            bif decide (List.length (([] : List Int) ++ all0) + List.length (rd ([] : List Int) tails5 i6) ≤ lim) then
            keys_Parse_P ((([] : List Int) ++ all0) ++ (rd ([] : List Int) tails5 i6)) ∧ (
            ∀ (r24 : (Int × Int × List Int × List Int × Int × List Int) × Int), r24 = keys_Parse_F ((([] : List Int) ++ all0) ++ (rd ([] : List Int) tails5 i6)) → (
            wfR (.tup [.v (.st (.pair (.int .u8) (.pair (.int .i64) (.pair (.str) (.pair (.str) (.pair (.int .u8) (.sl (.int .u8)))))))) r24.1, .v (.int .i64) r24.2]) → (
            bif (decide (r24.2 = (1 : Int))) then
              kr true
            else
              Y all0 tails5 (IntKind.wrap .i64 (i6 + (1 : Int))))))
            else False) ∧ True
          else False) ∧ (
          (
            bif decide (List.length ([] : List Int) + List.length all0 ≤ lim) then
            (
              bif decide (List.length (([] : List Int) ++ all0) + List.length (rd ([] : List Int) tails5 i6) ≤ lim) then
              (
                keys_Parse_P ((([] : List Int) ++ all0) ++ (rd ([] : List Int) tails5 i6)) ∧ (
                ∀ (r25 : (Int × Int × List Int × List Int × Int × List Int) × Int), r25 = keys_Parse_F ((([] : List Int) ++ all0) ++ (rd ([] : List Int) tails5 i6)) → (
                wfR (.tup [.v (.st (.pair (.int .u8) (.pair (.int .i64) (.pair (.str) (.pair (.str) (.pair (.int .u8) (.sl (.int .u8)))))))) r25.1, .v (.int .i64) r25.2]) → (
                bif (decide (r25.2 = (1 : Int))) then
                  kr true
                else
                  Y all0 tails5 (IntKind.wrap .i64 (i6 + (1 : Int))))))) ∧ (
                keys_Parse_P ((([] : List Int) ++ all0) ++ (rd ([] : List Int) tails5 i6)) ∧ (
                ∀ (r26 : (Int × Int × List Int × List Int × Int × List Int) × Int), r26 = keys_Parse_F ((([] : List Int) ++ all0) ++ (rd ([] : List Int) tails5 i6)) → (
                wfR (.tup [.v (.st (.pair (.int .u8) (.pair (.int .i64) (.pair (.str) (.pair (.str) (.pair (.int .u8) (.sl (.int .u8)))))))) r26.1, .v (.int .i64) r26.2]) → (
                bif (decide (r26.2 = (1 : Int))) then
                  kr true
                else
                  Y all0 tails5 (IntKind.wrap .i64 (i6 + (1 : Int))))))) ∧ True
              else False) ∧ (
              bif decide (List.length (([] : List Int) ++ all0) + List.length (rd ([] : List Int) tails5 i6) ≤ lim) then
              keys_Parse_P ((([] : List Int) ++ all0) ++ (rd ([] : List Int) tails5 i6)) ∧ (
              ∀ (r27 : (Int × Int × List Int × List Int × Int × List Int) × Int), r27 = keys_Parse_F ((([] : List Int) ++ all0) ++ (rd ([] : List Int) tails5 i6)) → (
              wfR (.tup [.v (.st (.pair (.int .u8) (.pair (.int .i64) (.pair (.str) (.pair (.str) (.pair (.int .u8) (.sl (.int .u8)))))))) r27.1, .v (.int .i64) r27.2]) → (
              bif (decide (r27.2 = (1 : Int))) then
                kr true
              else
                Y all0 tails5 (IntKind.wrap .i64 (i6 + (1 : Int))))))
              else False) ∧ True
            else False) ∧ (
            bif decide (List.length ([] : List Int) + List.length all0 ≤ lim) then
            bif decide (List.length (([] : List Int) ++ all0) + List.length (rd ([] : List Int) tails5 i6) ≤ lim) then
            keys_Parse_P ((([] : List Int) ++ all0) ++ (rd ([] : List Int) tails5 i6)) ∧ (
            ∀ (r28 : (Int × Int × List Int × List Int × Int × List Int) × Int), r28 = keys_Parse_F ((([] : List Int) ++ all0) ++ (rd ([] : List Int) tails5 i6)) → (
            wfR (.tup [.v (.st (.pair (.int .u8) (.pair (.int .i64) (.pair (.str) (.pair (.str) (.pair (.int .u8) (.sl (.int .u8)))))))) r28.1, .v (.int .i64) r28.2]) → (
            bif (decide (r28.2 = (1 : Int))) then
              kr true
            else
              Y all0 tails5 (IntKind.wrap .i64 (i6 + (1 : Int))))))
            else False
            else False) ∧ True) ∧ (
          (
            bif decide (List.length ([] : List Int) + List.length all0 ≤ lim) then
            bif decide (List.length (([] : List Int) ++ all0) + List.length (rd ([] : List Int) tails5 i6) ≤ lim) then
            keys_Parse_P ((([] : List Int) ++ all0) ++ (rd ([] : List Int) tails5 i6)) ∧ (
            ∀ (r29 : (Int × Int × List Int × List Int × Int × List Int) × Int), r29 = keys_Parse_F ((([] : List Int) ++ all0) ++ (rd ([] : List Int) tails5 i6)) → (
            wfR (.tup [.v (.st (.pair (.int .u8) (.pair (.int .i64) (.pair (.str) (.pair (.str) (.pair (.int .u8) (.sl (.int .u8)))))))) r29.1, .v (.int .i64) r29.2]) → (
            bif (decide (r29.2 = (1 : Int))) then
              kr true
            else
              Y all0 tails5 (IntKind.wrap .i64 (i6 + (1 : Int))))))
            else False
            else False) ∧ (
            bif decide (List.length ([] : List Int) + List.length all0 ≤ lim) then
            bif decide (List.length (([] : List Int) ++ all0) + List.length (rd ([] : List Int) tails5 i6) ≤ lim) then
            keys_Parse_P ((([] : List Int) ++ all0) ++ (rd ([] : List Int) tails5 i6)) ∧ (
            ∀ (r30 : (Int × Int × List Int × List Int × Int × List Int) × Int), r30 = keys_Parse_F ((([] : List Int) ++ all0) ++ (rd ([] : List Int) tails5 i6)) → (
            wfR (.tup [.v (.st (.pair (.int .u8) (.pair (.int .i64) (.pair (.str) (.pair (.str) (.pair (.int .u8) (.sl (.int .u8)))))))) r30.1, .v (.int .i64) r30.2]) → (
            bif (decide (r30.2 = (1 : Int))) then
              kr true
            else
              Y all0 tails5 (IntKind.wrap .i64 (i6 + (1 : Int))))))
            else False
            else False) ∧ True) ∧ True) ∧ (
        (
          (
            bif decide (List.length ([] : List Int) + List.length all0 ≤ lim) then
            (
              bif decide (List.length (([] : List Int) ++ all0) + List.length (rd ([] : List Int) tails5 i6) ≤ lim) then
              (
                keys_Parse_P ((([] : List Int) ++ all0) ++ (rd ([] : List Int) tails5 i6)) ∧ (
                ∀ (r31 : (Int × Int × List Int × List Int × Int × List Int) × Int), r31 = keys_Parse_F ((([] : List Int) ++ all0) ++ (rd ([] : List Int) tails5 i6)) → (
                wfR (.tup [.v (.st (.pair (.int .u8) (.pair (.int .i64) (.pair (.str) (.pair (.str) (.pair (.int .u8) (.sl (.int .u8)))))))) r31.1, .v (.int .i64) r31.2]) → (
                bif (decide (r31.2 = (1 : Int))) then
                  kr true
                else
                  Y all0 tails5 (IntKind.wrap .i64 (i6 + (1 : Int))))))) ∧ (
                keys_Parse_P ((([] : List Int) ++ all0) ++ (rd ([] : List Int) tails5 i6)) ∧ (
                ∀ (r32 : (Int × Int × List Int × List Int × Int × List Int) × Int), r32 = keys_Parse_F ((([] : List Int) ++ all0) ++ (rd ([] : List Int) tails5 i6)) → (
                wfR (.tup [.v (.st (.pair (.int .u8) (.pair (.int .i64) (.pair (.str) (.pair (.str) (.pair (.int .u8) (.sl (.int .u8)))))))) r32.1, .v (.int .i64) r32.2]) → (
                bif (decide (r32.2 = (1 : Int))) then
                  kr true
                else
                  Y all0 tails5 (IntKind.wrap .i64 (i6 + (1 : Int))))))) ∧ True
              else False) ∧ (
              bif decide (List.length (([] : List Int) ++ all0) + List.length (rd ([] : List Int) tails5 i6) ≤ lim) then
              keys_Parse_P ((([] : List Int) ++ all0) ++ (rd ([] : List Int) tails5 i6)) ∧ (
              ∀ (r33 : (Int × Int × List Int × List Int × Int × List Int) × Int), r33 = keys_Parse_F ((([] : List Int) ++ all0) ++ (rd ([] : List Int) tails5 i6)) → (
              wfR (.tup [.v (.st (.pair (.int .u8) (.pair (.int .i64) (.pair (.str) (.pair (.str) (.pair (.int .u8) (.sl (.int .u8)))))))) r33.1, .v (.int .i64) r33.2]) → (
              bif (decide (r33.2 = (1 : Int))) then
                kr true
              else
                Y all0 tails5 (IntKind.wrap .i64 (i6 + (1 : Int))))))
              else False) ∧ True
            else False) ∧ (
            bif decide (List.length ([] : List Int) + List.length all0 ≤ lim) then
            bif decide (List.length (([] : List Int) ++ all0) + List.length (rd ([] : List Int) tails5 i6) ≤ lim) then
            keys_Parse_P ((([] : List Int) ++ all0) ++ (rd ([] : List Int) tails5 i6)) ∧ (
            ∀ (r34 : (Int × Int × List Int × List Int × Int × List Int) × Int), r34 = keys_Parse_F ((([] : List Int) ++ all0) ++ (rd ([] : List Int) tails5 i6)) → (
            wfR (.tup [.v (.st (.pair (.int .u8) (.pair (.int .i64) (.pair (.str) (.pair (.str) (.pair (.int .u8) (.sl (.int .u8)))))))) r34.1, .v (.int .i64) r34.2]) → (
            bif (decide (r34.2 = (1 : Int))) then
              kr true
            else
              Y all0 tails5 (IntKind.wrap .i64 (i6 + (1 : Int))))))
            else False
            else False) ∧ True) ∧ (
          bif decide (List.length ([] : List Int) + List.length all0 ≤ lim) then
          bif decide (List.length (([] : List Int) ++ all0) + List.length (rd ([] : List Int) tails5 i6) ≤ lim) then
          keys_Parse_P ((([] : List Int) ++ all0) ++ (rd ([] : List Int) tails5 i6)) ∧ (
          ∀ (r35 : (Int × Int × List Int × List Int × Int × List Int) × Int), r35 = keys_Parse_F ((([] : List Int) ++ all0) ++ (rd ([] : List Int) tails5 i6)) → (
          wfR (.tup [.v (.st (.pair (.int .u8) (.pair (.int .i64) (.pair (.str) (.pair (.str) (.pair (.int .u8) (.sl (.int .u8)))))))) r35.1, .v (.int .i64) r35.2]) → (
          bif (decide (r35.2 = (1 : Int))) then
            kr true
          else
            Y all0 tails5 (IntKind.wrap .i64 (i6 + (1 : Int))))))
          else False
          else False) ∧ True) ∧ (
        (
          (
            bif decide (List.length ([] : List Int) + List.length all0 ≤ lim) then
            bif decide (List.length (([] : List Int) ++ all0) + List.length (rd ([] : List Int) tails5 i6) ≤ lim) then
            keys_Parse_P ((([] : List Int) ++ all0) ++ (rd ([] : List Int) tails5 i6)) ∧ (
            ∀ (r36 : (Int × Int × List Int × List Int × Int × List Int) × Int), r36 = keys_Parse_F ((([] : List Int) ++ all0) ++ (rd ([] : List Int) tails5 i6)) → (
            wfR (.tup [.v (.st (.pair (.int .u8) (.pair (.int .i64) (.pair (.str) (.pair (.str) (.pair (.int .u8) (.sl (.int .u8)))))))) r36.1, .v (.int .i64) r36.2]) → (
            bif (decide (r36.2 = (1 : Int))) then
              kr true
            else
              Y all0 tails5 (IntKind.wrap .i64 (i6 + (1 : Int))))))
            else False
            else False) ∧ (
            bif decide (List.length ([] : List Int) + List.length all0 ≤ lim) then
            bif decide (List.length (([] : List Int) ++ all0) + List.length (rd ([] : List Int) tails5 i6) ≤ lim) then
            keys_Parse_P ((([] : List Int) ++ all0) ++ (rd ([] : List Int) tails5 i6)) ∧ (
            ∀ (r37 : (Int × Int × List Int × List Int × Int × List Int) × Int), r37 = keys_Parse_F ((([] : List Int) ++ all0) ++ (rd ([] : List Int) tails5 i6)) → (
            wfR (.tup [.v (.st (.pair (.int .u8) (.pair (.int .i64) (.pair (.str) (.pair (.str) (.pair (.int .u8) (.sl (.int .u8)))))))) r37.1, .v (.int .i64) r37.2]) → (
            bif (decide (r37.2 = (1 : Int))) then
              kr true
            else
              Y all0 tails5 (IntKind.wrap .i64 (i6 + (1 : Int))))))
            else False
            else False) ∧ True) ∧ (
          bif decide (List.length ([] : List Int) + List.length all0 ≤ lim) then
          bif decide (List.length (([] : List Int) ++ all0) + List.length (rd ([] : List Int) tails5 i6) ≤ lim) then
          keys_Parse_P ((([] : List Int) ++ all0) ++ (rd ([] : List Int) tails5 i6)) ∧ (
          ∀ (r38 : (Int × Int × List Int × List Int × Int × List Int) × Int), r38 = keys_Parse_F ((([] : List Int) ++ all0) ++ (rd ([] : List Int) tails5 i6)) → (
          wfR (.tup [.v (.st (.pair (.int .u8) (.pair (.int .i64) (.pair (.str) (.pair (.str) (.pair (.int .u8) (.sl (.int .u8)))))))) r38.1, .v (.int .i64) r38.2]) → (
          bif (decide (r38.2 = (1 : Int))) then
            kr true
          else
            Y all0 tails5 (IntKind.wrap .i64 (i6 + (1 : Int))))))
          else False
          else False) ∧ True) ∧ True
      else False) ∧ (
      (
        (
          bif decide (List.length ([] : List Int) + List.length all0 ≤ lim) then
          bif decide (0 ≤ i6 ∧ i6 < (List.length tails5 : Int)) then
          bif decide (List.length (([] : List Int) ++ all0) + List.length (rd ([] : List Int) tails5 i6) ≤ lim) then
          keys_Parse_P ((([] : List Int) ++ all0) ++ (rd ([] : List Int) tails5 i6)) ∧ (
          ∀ (r39 : (Int × Int × List Int × List Int × Int × List Int) × Int), r39 = keys_Parse_F ((([] : List Int) ++ all0) ++ (rd ([] : List Int) tails5 i6)) → (
          wfR (.tup [.v (.st (.pair (.int .u8) (.pair (.int .i64) (.pair (.str) (.pair (.str) (.pair (.int .u8) (.sl (.int .u8)))))))) r39.1, .v (.int .i64) r39.2]) → (
          bif (decide (r39.2 = (1 : Int))) then
            kr true
          else
            Y all0 tails5 (IntKind.wrap .i64 (i6 + (1 : Int))))))
          else False
          else False
          else False) ∧ (
          bif decide (0 ≤ i6 ∧ i6 < (List.length tails5 : Int)) then
          (
            bif decide (List.length ([] : List Int) + List.length all0 ≤ lim) then
            bif decide (List.length (([] : List Int) ++ all0) + List.length (rd ([] : List Int) tails5 i6) ≤ lim) then
            keys_Parse_P ((([] : List Int) ++ all0) ++ (rd ([] : List Int) tails5 i6)) ∧ (
            ∀ (r40 : (Int × Int × List Int × List Int × Int × List Int) × Int), r40 = keys_Parse_F ((([] : List Int) ++ all0) ++ (rd ([] : List Int) tails5 i6)) → (
            wfR (.tup [.v (.st (.pair (.int .u8) (.pair (.int .i64) (.pair (.str) (.pair (.str) (.pair (.int .u8) (.sl (.int .u8)))))))) r40.1, .v (.int .i64) r40.2]) → (
            bif (decide (r40.2 = (1 : Int))) then
              kr true
            else
              Y all0 tails5 (IntKind.wrap .i64 (i6 + (1 : Int))))))
            else False
            else False) ∧ (
            bif decide (List.length ([] : List Int) + List.length all0 ≤ lim) then
            bif decide (List.length (([] : List Int) ++ all0) + List.length (rd ([] : List Int) tails5 i6) ≤ lim) then
            keys_Parse_P ((([] : List Int) ++ all0) ++ (rd ([] : List Int) tails5 i6)) ∧ (
            ∀ (r41 : (Int × Int × List Int × List Int × Int × List Int) × Int), r41 = keys_Parse_F ((([] : List Int) ++ all0) ++ (rd ([] : List Int) tails5 i6)) → (
            wfR (.tup [.v (.st (.pair (.int .u8) (.pair (.int .i64) (.pair (.str) (.pair (.str) (.pair (.int .u8) (.sl (.int .u8)))))))) r41.1, .v (.int .i64) r41.2]) → (
            bif (decide (r41.2 = (1 : Int))) then
              kr true
            else
              Y all0 tails5 (IntKind.wrap .i64 (i6 + (1 : Int))))))
            else False
            else False) ∧ True
          else False) ∧ True) ∧ (
        bif decide (0 ≤ i6 ∧ i6 < (List.length tails5 : Int)) then
        (
          (
            bif decide (List.length ([] : List Int) + List.length all0 ≤ lim) then
            bif decide (List.length (([] : List Int) ++ all0) + List.length (rd ([] : List Int) tails5 i6) ≤ lim) then
            keys_Parse_P ((([] : List Int) ++ all0) ++ (rd ([] : List Int) tails5 i6)) ∧ (
            ∀ (r42 : (Int × Int × List Int × List Int × Int × List Int) × Int), r42 = keys_Parse_F ((([] : List Int) ++ all0) ++ (rd ([] : List Int) tails5 i6)) → (
            wfR (.tup [.v (.st (.pair (.int .u8) (.pair (.int .i64) (.pair (.str) (.pair (.str) (.pair (.int .u8) (.sl (.int .u8)))))))) r42.1, .v (.int .i64) r42.2]) → (
            bif (decide (r42.2 = (1 : Int))) then
              kr true
            else
              Y all0 tails5 (IntKind.wrap .i64 (i6 + (1 : Int))))))
            else False
            else False) ∧ (
            bif decide (List.length ([] : List Int) + List.length all0 ≤ lim) then
            bif decide (List.length (([] : List Int) ++ all0) + List.length (rd ([] : List Int) tails5 i6) ≤ lim) then
            keys_Parse_P ((([] : List Int) ++ all0) ++ (rd ([] : List Int) tails5 i6)) ∧ (
            ∀ (r43 : (Int × Int × List Int × List Int × Int × List Int) × Int), r43 = keys_Parse_F ((([] : List Int) ++ all0) ++ (rd ([] : List Int) tails5 i6)) → (
            wfR (.tup [.v (.st (.pair (.int .u8) (.pair (.int .i64) (.pair (.str) (.pair (.str) (.pair (.int .u8) (.sl (.int .u8)))))))) r43.1, .v (.int .i64) r43.2]) → (
            bif (decide (r43.2 = (1 : Int))) then
              kr true
            else
              Y all0 tails5 (IntKind.wrap .i64 (i6 + (1 : Int))))))
            else False
            else False) ∧ True) ∧ (
          bif decide (List.length ([] : List Int) + List.length all0 ≤ lim) then
          bif decide (List.length (([] : List Int) ++ all0) + List.length (rd ([] : List Int) tails5 i6) ≤ lim) then
          keys_Parse_P ((([] : List Int) ++ all0) ++ (rd ([] : List Int) tails5 i6)) ∧ (
          ∀ (r44 : (Int × Int × List Int × List Int × Int × List Int) × Int), r44 = keys_Parse_F ((([] : List Int) ++ all0) ++ (rd ([] : List Int) tails5 i6)) → (
          wfR (.tup [.v (.st (.pair (.int .u8) (.pair (.int .i64) (.pair (.str) (.pair (.str) (.pair (.int .u8) (.sl (.int .u8)))))))) r44.1, .v (.int .i64) r44.2]) → (
          bif (decide (r44.2 = (1 : Int))) then
            kr true
          else
            Y all0 tails5 (IntKind.wrap .i64 (i6 + (1 : Int))))))
          else False
          else False) ∧ True
        else False) ∧ True) ∧ True
  else
    kx0
def quoinlaw21_KeysMore_L0 (kr : Bool → Prop) (kx0 : Prop) : Nat → List Int → List (List Int) → Int → Prop
  | 0, _, _, _ => False
  | n + 1, all0, tails5, i6 => wfD quoinlaw21_KeysMore_d0 (all0, tails5, i6, ()) → quoinlaw21_KeysMore_T0 (quoinlaw21_KeysMore_L0 kr kx0 n) kr kx0 all0 tails5 i6
theorem quoinlaw21_KeysMore_s0 (k : Ex → St → Prop) (Y : vals quoinlaw21_KeysMore_d0 → Prop) (all0 : List Int) (tails5 : List (List Int)) (i6 : Int) :
    ex tb (getG quoinlaw21_KeysMore_G) [] (at' (bodyOf Tryd.f7) [0, 0, 1, 0, 1, 1, 1, 1]) [0, 0, 1, 0, 1, 1, 1, 1] (mkD 39 quoinlaw21_KeysMore_d0 (all0, tails5, i6, ())) (lpK 39 quoinlaw21_KeysMore_d0 quoinlaw21_KeysMore_dx0 k Y) =
    quoinlaw21_KeysMore_T0 (fun all0 tails5 i6 => Y (all0, tails5, i6, ())) (fun x2 => wfD quoinlaw21_KeysMore_d0r (x2, ()) → k .ret (mkD 39 quoinlaw21_KeysMore_d0r (x2, ()))) (wfD quoinlaw21_KeysMore_d0x0 () → k (.exit 0) (mkD 39 quoinlaw21_KeysMore_d0x0 ())) all0 tails5 i6 := by kernel_rfl
theorem quoinlaw21_KeysMore_e0 (k : Ex → St → Prop) : ∀ (n : Nat) (all0 : List Int) (tails5 : List (List Int)) (i6 : Int), lpD 39 quoinlaw21_KeysMore_d0 quoinlaw21_KeysMore_dx0 (ex tb (getG quoinlaw21_KeysMore_G) [] (at' (bodyOf Tryd.f7) [0, 0, 1, 0, 1, 1, 1, 1]) [0, 0, 1, 0, 1, 1, 1, 1]) k n (all0, tails5, i6, ()) = quoinlaw21_KeysMore_L0 (fun x2 => wfD quoinlaw21_KeysMore_d0r (x2, ()) → k .ret (mkD 39 quoinlaw21_KeysMore_d0r (x2, ()))) (wfD quoinlaw21_KeysMore_d0x0 () → k (.exit 0) (mkD 39 quoinlaw21_KeysMore_d0x0 ())) n all0 tails5 i6
  | 0, _, _, _ => rfl
  | n + 1, all0, tails5, i6 => congrArg (fun Z : Prop => wfD quoinlaw21_KeysMore_d0 (all0, tails5, i6, ()) → Z) ((quoinlaw21_KeysMore_s0 k (lpD 39 quoinlaw21_KeysMore_d0 quoinlaw21_KeysMore_dx0 (ex tb (getG quoinlaw21_KeysMore_G) [] (at' (bodyOf Tryd.f7) [0, 0, 1, 0, 1, 1, 1, 1]) [0, 0, 1, 0, 1, 1, 1, 1]) k n) all0 tails5 i6).trans (congrArg (fun Y => quoinlaw21_KeysMore_T0 Y (fun x2 => wfD quoinlaw21_KeysMore_d0r (x2, ()) → k .ret (mkD 39 quoinlaw21_KeysMore_d0r (x2, ()))) (wfD quoinlaw21_KeysMore_d0x0 () → k (.exit 0) (mkD 39 quoinlaw21_KeysMore_d0x0 ())) all0 tails5 i6) (funext fun all0 => funext fun tails5 => funext fun i6 => quoinlaw21_KeysMore_e0 k n all0 tails5 i6)))
theorem quoinlaw21_KeysMore_v0 (k : Ex → St → Prop) (n : Nat) : ∀ v : vals quoinlaw21_KeysMore_d0, lpD 39 quoinlaw21_KeysMore_d0 quoinlaw21_KeysMore_dx0 (ex tb (getG quoinlaw21_KeysMore_G) [] (at' (bodyOf Tryd.f7) [0, 0, 1, 0, 1, 1, 1, 1]) [0, 0, 1, 0, 1, 1, 1, 1]) k n v = quoinlaw21_KeysMore_L0 (fun x2 => wfD quoinlaw21_KeysMore_d0r (x2, ()) → k .ret (mkD 39 quoinlaw21_KeysMore_d0r (x2, ()))) (wfD quoinlaw21_KeysMore_d0x0 () → k (.exit 0) (mkD 39 quoinlaw21_KeysMore_d0x0 ())) n v.1 v.2.1 v.2.2.1
  | (all0, tails5, i6, ()) => quoinlaw21_KeysMore_e0 k n all0 tails5 i6
def quoinlaw21_KeysMore_X0 : Pce := fun st k => ckD 39 quoinlaw21_KeysMore_d0 st fun v => wfD quoinlaw21_KeysMore_d0 v → ∃ n, quoinlaw21_KeysMore_L0 (fun x2 => wfD quoinlaw21_KeysMore_d0r (x2, ()) → k .ret (mkD 39 quoinlaw21_KeysMore_d0r (x2, ()))) (wfD quoinlaw21_KeysMore_d0x0 () → k (.exit 0) (mkD 39 quoinlaw21_KeysMore_d0x0 ())) n v.1 v.2.1 v.2.2.1
set_option maxRecDepth 20000 in
theorem quoinlaw21_KeysMore_x0 : SemOk Tryd.prog (at' (bodyOf Tryd.f7) [0, 1, 0, 1, 1, 1, 1]) quoinlaw21_KeysMore_X0 :=
  (SemOk.loop (ex_sound tb_M tb_ok quoinlaw21_KeysMore_Gok (LabsOk.nil) (at' (bodyOf Tryd.f7) [0, 0, 1, 0, 1, 1, 1, 1]) [0, 0, 1, 0, 1, 1, 1, 1] rfl (storesC_at quoinlaw21_KeysMore_st [0, 0, 1, 0, 1, 1, 1, 1])) 39 quoinlaw21_KeysMore_d0 quoinlaw21_KeysMore_dx0).mono fun st k h => ckD_mono h fun v hv hw => (hv hw).elim fun n hn => ⟨n, Eq.mpr (quoinlaw21_KeysMore_v0 k n v) hn⟩
def quoinlaw21_KeysMore_B0 : Labs := ([0, 1, 0, 1, 1, 1, 1], quoinlaw21_KeysMore_X0) :: []
theorem quoinlaw21_KeysMore_b0 : LabsOk Tryd.prog (bodyOf Tryd.f7) quoinlaw21_KeysMore_B0 := LabsOk.cons quoinlaw21_KeysMore_x0 (LabsOk.nil)
def quoinlaw21_KeysMore_raw (all0 : List Int) (K : Res → List Cell → Prop) : Prop :=
  ∀ (r1 : Bool), r1 = quoinlaw21_awake_F → (
  wfR (.one (.v (.bool) r1)) → (
  bif (!r1) then
    K (.one (.v (.bool) false)) []
  else
    keys_Parse_P all0 ∧ (
    ∀ (r2 : (Int × Int × List Int × List Int × Int × List Int) × Int), r2 = keys_Parse_F all0 → (
    wfR (.tup [.v (.st (.pair (.int .u8) (.pair (.int .i64) (.pair (.str) (.pair (.str) (.pair (.int .u8) (.sl (.int .u8)))))))) r2.1, .v (.int .i64) r2.2]) → (
    bif (!decide (r2.2 = (0 : Int))) then
      K (.one (.v (.bool) true)) []
    else
      (wfD quoinlaw21_KeysMore_d0 (all0, ([([120] : List Int), ([119] : List Int), ([103] : List Int), ([97, 120] : List Int), ([108] : List Int), ([45] : List Int), ([126] : List Int), ([117] : List Int), ([85] : List Int), ([69] : List Int)] : List (List Int)), (0 : Int), ()) → ∃ n, quoinlaw21_KeysMore_L0 (fun (x2 : Bool) => wfD quoinlaw21_KeysMore_d0r (x2, ()) → (
          K (.one (.v (.bool) x2)) [])) (wfD quoinlaw21_KeysMore_d0x0 () → (
          K (.one (.v (.bool) false)) [])) n all0 ([([120] : List Int), ([119] : List Int), ([103] : List Int), ([97, 120] : List Int), ([108] : List Int), ([45] : List Int), ([126] : List Int), ([117] : List Int), ([85] : List Int), ([69] : List Int)] : List (List Int)) (0 : Int)))))))
def quoinlaw21_KeysMore_A : List AS := [.v (.sl (.int .u8))]
theorem quoinlaw21_KeysMore_walk (all0 : List Int) (K : Res → List Cell → Prop) : runF tb (getG quoinlaw21_KeysMore_G) quoinlaw21_KeysMore_B0 Tryd.f7 [true] (mkA quoinlaw21_KeysMore_A (all0, ())) K = quoinlaw21_KeysMore_raw all0 K := by kernel_rfl
--! law 1

def quoinlaw21_KeysMore_R : App := runF tb (getG quoinlaw21_KeysMore_G) quoinlaw21_KeysMore_B0 Tryd.f7 [true]
theorem quoinlaw21_KeysMore_ok : AppOk Tryd.prog 7 quoinlaw21_KeysMore_R := runF_ok tb_M tb_ok quoinlaw21_KeysMore_Gok (quoinlaw21_KeysMore_b0) (f := 7) (fn := Tryd.f7) (by kernel_rfl) (by kernel_rfl) quoinlaw21_KeysMore_st [true]
end Go.VE
namespace Go.VE
open Go Go.Proofs

def yesK : Res → List Cell → Prop := fun r _ => r = .one (.v .bool true)

theorem bulk_bytes : ∀ xs : List Int, bulk (.sl (.int .u8)) xs = xs.length + 1 := by
  intro xs
  show (xs.map (bulk (.int .u8))).sum + 1 = _
  congr 1
  induction xs with
  | nil => rfl
  | cons x xs ih => rw [List.map_cons, List.sum_cons, ih, List.length_cons]; show 1 + xs.length = _; omega

theorem parse_F {ks : List Int} (hl : ks.length ≤ 1099511627776) (h : ∀ x ∈ ks, 0 ≤ x ∧ x ≤ 255) : keys_Parse_F ks = parseM ks := (parse_eq hl h).2
theorem parse_P {ks : List Int} (hl : ks.length ≤ 1099511627776) (h : ∀ x ∈ ks, 0 ≤ x ∧ x ≤ 255) : keys_Parse_P ks := (parse_eq hl h).1

/-! ### On -/
theorem on_l0 {kr : Bool → Prop} {kx0 : Prop} {all : List Int} (hl : all.length ≤ 2000) (h255 : ∀ x ∈ all, 0 ≤ x ∧ x ≤ 255) (h2 : (parseM all).2 ≠ 2) (hk : kx0) : ∀ (m i : Nat), i ≤ all.length → all.length - i < m → quoinlaw21_KeysOn_L0 kr kx0 m all (i : Int)
  | 0, _, _, h => absurd h (Nat.not_lt_zero _)
  | m + 1, i, hi, hm => by
    intro _
    unfold quoinlaw21_KeysOn_T0
    refine brn (fun hlt => asrt (by omega) ?_) (fun _ => hk)
    have hln : (all.take (Int.toNat (i : Int))).length ≤ 1099511627776 := by rw [List.length_take]; omega
    have hb : ∀ x ∈ all.take (Int.toNat (i : Int)), 0 ≤ x ∧ x ≤ 255 := fun x hx => h255 x (List.mem_of_mem_take hx)
    refine ⟨parse_P hln hb, fun r hr _ => ?_⟩
    rw [parse_F hln hb, Int.toNat_natCast] at hr
    subst hr
    have h0 : (parseM (all.take i)).2 = 0 := by
      apply Classical.byContradiction
      intro hne
      have hd : all.drop i ≠ [] := fun e => by
        have := congrArg List.length e
        rw [List.length_drop, List.length_nil] at this; omega
      have := parse_stab (s := all.take i) (m := all.drop i) hne hd
      rw [List.take_append_drop] at this
      exact h2 this
    rw [h0]
    refine brb (fun h => ?_) (fun _ => ?_)
    · simp at h
    · rw [wrap_i64 (by omega) (by omega), show (i : Int) + 1 = ((i + 1 : Nat) : Int) by omega]
      exact on_l0 hl h255 h2 hk m (i + 1) (by omega) (by omega)

theorem on_raw {all more : List Int} (ha : all.length ≤ 1048576) (hm : more.length ≤ 1048576) (h1 : ∀ x ∈ all, 0 ≤ x ∧ x ≤ 255) (h2 : ∀ x ∈ more, 0 ≤ x ∧ x ≤ 255) : quoinlaw21_KeysOn_raw all more yesK := by
  unfold quoinlaw21_KeysOn_raw
  intro r1 hr1 _
  subst hr1
  refine brb (fun h => by cases h) (fun _ => ?_)
  refine brn (fun _ => rfl) (fun hle => ?_)
  have e0 : ([] : List Int) ++ all = all := rfl
  have h3 : ∀ x ∈ all ++ more, 0 ≤ x ∧ x ≤ 255 := fun x hx => (List.mem_append.1 hx).elim (h1 x) (h2 x)
  have hl3 : (all ++ more).length ≤ 1099511627776 := by rw [List.length_append]; omega
  refine ⟨parse_P (by omega) h1, fun r2 hr2 _ => ?_⟩
  rw [parse_F (by omega) h1] at hr2
  subst hr2
  refine asrt (by simp only [List.length_nil, lim]; omega) ?_
  refine asrt (by simp only [e0, lim]; omega) ?_
  refine ⟨by rw [e0]; exact parse_P hl3 h3, fun r3 hr3 _ => ?_⟩
  rw [e0, parse_F hl3 h3] at hr3
  subst hr3
  have L : (parseM all).2 ≠ 2 → (wfD quoinlaw21_KeysOn_d0 (all, (0 : Int), ()) → ∃ n, quoinlaw21_KeysOn_L0 (fun (x4 : Bool) => wfD quoinlaw21_KeysOn_d0r (x4, ()) → (
        yesK (.one (.v (.bool) x4)) [])) (wfD quoinlaw21_KeysOn_d0x0 () → (yesK (.one (.v (.bool) true)) [])) n all (0 : Int)) := fun hne _ =>
    ⟨all.length + 1, on_l0 (by omega) h1 hne (fun _ => rfl) (all.length + 1) 0 (Nat.zero_le _) (by omega)⟩
  have rest : bif (decide ((parseM all).2 = (2 : Int))) then yesK (.one (.v (.bool) true)) [] else
      (wfD quoinlaw21_KeysOn_d0 (all, (0 : Int), ()) → ∃ n, quoinlaw21_KeysOn_L0 (fun (x4 : Bool) => wfD quoinlaw21_KeysOn_d0r (x4, ()) → (
        yesK (.one (.v (.bool) x4)) [])) (wfD quoinlaw21_KeysOn_d0x0 () → (yesK (.one (.v (.bool) true)) [])) n all (0 : Int)) :=
    brn (fun _ => rfl) (fun hne => L hne)
  refine brb (fun hk => ?_) (fun _ => rest)
  have hk : (parseM all).2 ≠ 0 := by simpa using hk
  refine brn (fun hpos => ?_) (fun _ => rest)
  have hne : more ≠ [] := fun e => by subst e; simp at hpos
  have := parse_stab hk hne
  refine brb (fun h => ?_) (fun _ => rest)
  rw [this] at h; simp at h

theorem on_law (v : valsA quoinlaw21_KeysOn_A) (hw : wfA quoinlaw21_KeysOn_A v) (hb : bulkA quoinlaw21_KeysOn_A v ≤ 1048576) : quoinlaw21_KeysOn_R (mkA quoinlaw21_KeysOn_A v) yesK := by
  obtain ⟨all, more, ⟨⟩⟩ := v
  refine (quoinlaw21_KeysOn_walk all more yesK).mpr ?_
  obtain ⟨h1, h2, _⟩ := hw
  change bulk (.sl (.int .u8)) all + (bulk (.sl (.int .u8)) more + 0) ≤ 1048576 at hb
  rw [bulk_bytes, bulk_bytes] at hb
  exact on_raw (by omega) (by omega) h1.2 h2.2

/-! ### More -/
abbrev tl : List (List Int) := [([120] : List Int), ([119] : List Int), ([103] : List Int), ([97, 120] : List Int), ([108] : List Int), ([45] : List Int), ([126] : List Int), ([117] : List Int), ([85] : List Int), ([69] : List Int)]

theorem tail_fact : ∀ i : Nat, i < 10 → (rd ([] : List Int) tl (i : Int)).length ≤ 2 ∧ ∀ x ∈ rd ([] : List Int) tl (i : Int), 0 ≤ x ∧ x ≤ 255 := by decide +kernel

theorem more_l0 {kr : Bool → Prop} {kx0 : Prop} {all : List Int} (hl : all.length ≤ 1048576) (h255 : ∀ x ∈ all, 0 ≤ x ∧ x ≤ 255) (hk : kr true) :
    ∀ (m i : Nat), i ≤ 10 → 10 - i < m → (∃ j : Nat, i ≤ j ∧ j < 10 ∧ (parseM (all ++ rd ([] : List Int) tl (j : Int))).2 = 1) → quoinlaw21_KeysMore_L0 kr kx0 m all tl (i : Int)
  | 0, _, _, h, _ => absurd h (Nat.not_lt_zero _)
  | m + 1, i, hi, hm, ⟨j, hj, hj2, hjp⟩ => by
    intro _
    have hi10 : i < 10 := by omega
    obtain ⟨f1, f2⟩ := tail_fact i hi10
    have e0 : ([] : List Int) ++ all = all := rfl
    have h3 : ∀ x ∈ all ++ rd ([] : List Int) tl (i : Int), 0 ≤ x ∧ x ≤ 255 := fun x hx => (List.mem_append.1 hx).elim (h255 x) (f2 x)
    have hl3 : (all ++ rd ([] : List Int) tl (i : Int)).length ≤ 1099511627776 := by rw [List.length_append]; omega
    have A1 : List.length ([] : List Int) + List.length all ≤ lim := by simp only [List.length_nil, lim]; omega
    have A2 : 0 ≤ (i : Int) ∧ (i : Int) < (List.length tl : Int) := ⟨by omega, by show (i : Int) < 10; omega⟩
    have A3 : List.length (([] : List Int) ++ all) + List.length (rd ([] : List Int) tl (i : Int)) ≤ lim := by rw [e0]; unfold lim; omega
    have leaf : keys_Parse_P ((([] : List Int) ++ all) ++ (rd ([] : List Int) tl (i : Int))) ∧ (
        ∀ (r3 : (Int × Int × List Int × List Int × Int × List Int) × Int), r3 = keys_Parse_F ((([] : List Int) ++ all) ++ (rd ([] : List Int) tl (i : Int))) → (
        wfR (.tup [.v (.st (.pair (.int .u8) (.pair (.int .i64) (.pair (.str) (.pair (.str) (.pair (.int .u8) (.sl (.int .u8)))))))) r3.1, .v (.int .i64) r3.2]) → (
        bif (decide (r3.2 = (1 : Int))) then kr true else quoinlaw21_KeysMore_L0 kr kx0 m all tl (IntKind.wrap .i64 ((i : Int) + (1 : Int)))))) := by
      refine ⟨by rw [e0]; exact parse_P hl3 h3, fun r hr _ => ?_⟩
      rw [e0, parse_F hl3 h3] at hr
      subst hr
      refine brn (fun _ => hk) (fun hne => ?_)
      rw [wrap_i64 (by omega) (by omega), show (i : Int) + 1 = ((i + 1 : Nat) : Int) by omega]
      have : i ≠ j := fun e => by subst e; exact hne hjp
      exact more_l0 hl h255 hk m (i + 1) (by omega) (by omega) ⟨j, by omega, hj2, hjp⟩
    unfold quoinlaw21_KeysMore_T0
    refine brn (fun _ => ?_) (fun h => absurd A2.2 h)
    repeat' (first | exact leaf | exact trivial | refine asrt A1 ?_ | refine asrt A2 ?_ | refine asrt A3 ?_ | refine ⟨?_, ?_⟩)

theorem more_raw {all : List Int} (ha : all.length ≤ 1048576) (h1 : ∀ x ∈ all, 0 ≤ x ∧ x ≤ 255) : quoinlaw21_KeysMore_raw all yesK := by
  unfold quoinlaw21_KeysMore_raw
  intro r1 hr1 _
  subst hr1
  refine brb (fun h => by cases h) (fun _ => ?_)
  refine ⟨parse_P (by omega) h1, fun r2 hr2 _ => ?_⟩
  rw [parse_F (by omega) h1] at hr2
  subst hr2
  refine brb (fun _ => rfl) (fun hk _ => ?_)
  have hk : (parseM all).2 = 0 := by simpa using hk
  obtain ⟨t, ht, h2⟩ := parse_grow hk
  refine ⟨11, more_l0 ha h1 (fun _ => rfl) 11 0 (by omega) (by omega) ?_⟩
  obtain ⟨j, hj, e⟩ := List.getElem_of_mem ht
  refine ⟨j, Nat.zero_le _, hj, ?_⟩
  have : rd ([] : List Int) tl (j : Int) = t := by rw [← e]; exact rd_nat [] tl j hj
  rw [this]; exact h2

theorem more_law (v : valsA quoinlaw21_KeysMore_A) (hw : wfA quoinlaw21_KeysMore_A v) (hb : bulkA quoinlaw21_KeysMore_A v ≤ 1048576) : quoinlaw21_KeysMore_R (mkA quoinlaw21_KeysMore_A v) yesK := by
  obtain ⟨all, ⟨⟩⟩ := v
  refine (quoinlaw21_KeysMore_walk all yesK).mpr ?_
  obtain ⟨h1, _⟩ := hw
  change bulk (.sl (.int .u8)) all + 0 ≤ 1048576 at hb
  rw [bulk_bytes] at hb
  exact more_raw (by omega) h1.2
end Go.VE
