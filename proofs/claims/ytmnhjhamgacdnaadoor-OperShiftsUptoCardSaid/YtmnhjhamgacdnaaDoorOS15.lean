/- OperShifts: whatever the input, up to the bulk that the statement names, the law answers true, and what was handed in reads as it did. Its conditions: the bound of the given statement and the tables that its card ties, no other. -/
import Derived.Test.YtmnhjhamgacdnaaDoorOS14
set_option linter.unusedVariables false
set_option linter.unusedSectionVars false
set_option linter.unusedSimpArgs false
namespace Go.VE
open Go Go.Proofs
/-! ### (quoin/oper.job).heads -/
def hdO_G : List (Nat × App) := [(35, lines_Split_S), (31, lines_Start_S), (141, oj_outdented_1_S), (60, bytes_Clone_S), (67, oper_with_S), (66, lines_First_S)]
theorem hdO_Gok : GOk Tryd.prog (getG hdO_G) := GOk.cons lines_Split_ok (GOk.cons lines_Start_ok (GOk.cons oj_outdented_1_ok (GOk.cons bytes_Clone_ok (GOk.cons oper_with_ok (GOk.cons lines_First_ok (GOk.nil))))))
theorem hdO_st : storesC (bodyOf Tryd.f139) = true := by kernel_rfl
def hdO_d0 : List LS := [.f 1 141 [15], .b 2 16 [], .b 4 32 [], .b 5 40 [], .v 6 (.int .i64), .v 8 (.int .i64), .v 31 (.sl (.sl (.int .u8))), .v 32 (.int .i64), .v 33 (.int .i64), .c 15 JbT, .c 16 JbT, .c 32 EoT, .c 40 EoT]
def hdO_d0x0 : List LS := [.b 2 16 [], .b 4 32 [], .b 5 40 [], .c 15 JbT, .c 16 JbT, .c 32 EoT, .c 40 EoT]
def hdO_dx0 : DX := ⟨none, none, [(0, hdO_d0x0)]⟩
def hdO_T0 (Y : Int → Int → List (List Int) → Int → Int → JbD → JbD → EfD → EfD → Prop) (kx0 : JbD → JbD → EfD → EfD → Prop) (grown6 : Int) (at8 : Int) (x31 : List (List Int)) (x32 : Int) (x33 : Int) (f1b : JbD) (j2b : JbD) (x4b : EfD) (x5b : EfD) : Prop :=
 bif (decide (x33 < x32)) then
 bif decide (0 ≤ x33 ∧ x33 < (List.length x31 : Int)) then
 oj_outdented_1_P (rd ([] : List Int) x31 x33) f1b ∧ (
 ∀ (r3 : Int × List Int × JbD), r3 = oj_outdented_1_F (rd ([] : List Int) x31 x33) f1b → (
 wfR (.tup [.v (.int .i64) r3.1, .fr 5 (.int .u8) r3.2.1]) → (
 bif (decide ((0 : Int) < r3.1)) then
 bif decide (0 ≤ r3.1 ∧ r3.1 ≤ (List.length (rd ([] : List Int) x31 x33) : Int)) then
 (
 bytes_Clone_P (List.take (Int.toNat r3.1) (rd ([] : List Int) x31 x33)) ∧ (
 ∀ (r4 : List Int), r4 = bytes_Clone_F (List.take (Int.toNat r3.1) (rd ([] : List Int) x31 x33)) → (
 wfR (.one (.fr 5 (.int .u8) r4)) → (
 bytes_Clone_P r3.2.1 ∧ (
 ∀ (r5 : List Int), r5 = bytes_Clone_F r3.2.1 → (
 wfR (.one (.fr 5 (.int .u8) r5)) → (
 bif decide (List.length x5b.1 + List.length ([((IntKind.wrap .i64 (at8 + grown6)), r4, r5)] : List ((Int × List Int × List Int))) ≤ lim) then
 Y (IntKind.wrap .i64 (grown6 + (IntKind.wrap .i64 ((List.length r3.2.1 : Int) - r3.1)))) (IntKind.wrap .i64 (at8 + (IntKind.wrap .i64 ((List.length (rd ([] : List Int) x31 x33) : Int) + (1 : Int))))) x31 x32 (IntKind.wrap .i64 (x33 + (1 : Int))) r3.2.2 j2b x4b ((x5b.1 ++ ([((IntKind.wrap .i64 (at8 + grown6)), r4, r5)] : List ((Int × List Int × List Int)))), x5b.2.1, x5b.2.2.1, x5b.2.2.2.1, x5b.2.2.2.2)
 else False))))))) ∧ (
 bytes_Clone_P (List.take (Int.toNat r3.1) (rd ([] : List Int) x31 x33)) ∧ (
 ∀ (r6 : List Int), r6 = bytes_Clone_F (List.take (Int.toNat r3.1) (rd ([] : List Int) x31 x33)) → (
 wfR (.one (.fr 5 (.int .u8) r6)) → (
 (
 bytes_Clone_P r3.2.1 ∧ (
 ∀ (r7 : List Int), r7 = bytes_Clone_F r3.2.1 → (
 wfR (.one (.fr 5 (.int .u8) r7)) → (
 bif decide (List.length x5b.1 + List.length ([((IntKind.wrap .i64 (at8 + grown6)), r6, r7)] : List ((Int × List Int × List Int))) ≤ lim) then
 Y (IntKind.wrap .i64 (grown6 + (IntKind.wrap .i64 ((List.length r3.2.1 : Int) - r3.1)))) (IntKind.wrap .i64 (at8 + (IntKind.wrap .i64 ((List.length (rd ([] : List Int) x31 x33) : Int) + (1 : Int))))) x31 x32 (IntKind.wrap .i64 (x33 + (1 : Int))) r3.2.2 j2b x4b ((x5b.1 ++ ([((IntKind.wrap .i64 (at8 + grown6)), r6, r7)] : List ((Int × List Int × List Int)))), x5b.2.1, x5b.2.2.1, x5b.2.2.2.1, x5b.2.2.2.2)
 else False)))) ∧ (
 bytes_Clone_P r3.2.1 ∧ (
 ∀ (r8 : List Int), r8 = bytes_Clone_F r3.2.1 → (
 wfR (.one (.fr 5 (.int .u8) r8)) → (
 (
 bif decide (List.length x5b.1 + List.length ([((IntKind.wrap .i64 (at8 + grown6)), r6, r8)] : List ((Int × List Int × List Int))) ≤ lim) then
 Y (IntKind.wrap .i64 (grown6 + (IntKind.wrap .i64 ((List.length r3.2.1 : Int) - r3.1)))) (IntKind.wrap .i64 (at8 + (IntKind.wrap .i64 ((List.length (rd ([] : List Int) x31 x33) : Int) + (1 : Int))))) x31 x32 (IntKind.wrap .i64 (x33 + (1 : Int))) r3.2.2 j2b x4b ((x5b.1 ++ ([((IntKind.wrap .i64 (at8 + grown6)), r6, r8)] : List ((Int × List Int × List Int)))), x5b.2.1, x5b.2.2.1, x5b.2.2.2.1, x5b.2.2.2.2)
 else False) ∧ (
 (
 bif decide (List.length x5b.1 + List.length ([((IntKind.wrap .i64 (at8 + grown6)), r6, r8)] : List ((Int × List Int × List Int))) ≤ lim) then
 Y (IntKind.wrap .i64 (grown6 + (IntKind.wrap .i64 ((List.length r3.2.1 : Int) - r3.1)))) (IntKind.wrap .i64 (at8 + (IntKind.wrap .i64 ((List.length (rd ([] : List Int) x31 x33) : Int) + (1 : Int))))) x31 x32 (IntKind.wrap .i64 (x33 + (1 : Int))) r3.2.2 j2b x4b ((x5b.1 ++ ([((IntKind.wrap .i64 (at8 + grown6)), r6, r8)] : List ((Int × List Int × List Int)))), x5b.2.1, x5b.2.2.1, x5b.2.2.2.1, x5b.2.2.2.2)
 else False) ∧ (
 bif decide (List.length x5b.1 + List.length ([((IntKind.wrap .i64 (at8 + grown6)), r6, r8)] : List ((Int × List Int × List Int))) ≤ lim) then
 Y (IntKind.wrap .i64 (grown6 + (IntKind.wrap .i64 ((List.length r3.2.1 : Int) - r3.1)))) (IntKind.wrap .i64 (at8 + (IntKind.wrap .i64 ((List.length (rd ([] : List Int) x31 x33) : Int) + (1 : Int))))) x31 x32 (IntKind.wrap .i64 (x33 + (1 : Int))) r3.2.2 j2b x4b ((x5b.1 ++ ([((IntKind.wrap .i64 (at8 + grown6)), r6, r8)] : List ((Int × List Int × List Int)))), x5b.2.1, x5b.2.2.1, x5b.2.2.2.1, x5b.2.2.2.2)
 else False) ∧ True) ∧ True)))) ∧ True)))) ∧ True
 else False
 else
 bif (decide ((0 : Int) < (List.length r3.2.1 : Int))) then
 bif decide (0 ≤ r3.1 ∧ r3.1 ≤ (List.length (rd ([] : List Int) x31 x33) : Int)) then
 (
 bytes_Clone_P (List.take (Int.toNat r3.1) (rd ([] : List Int) x31 x33)) ∧ (
 ∀ (r9 : List Int), r9 = bytes_Clone_F (List.take (Int.toNat r3.1) (rd ([] : List Int) x31 x33)) → (
 wfR (.one (.fr 5 (.int .u8) r9)) → (
 bytes_Clone_P r3.2.1 ∧ (
 ∀ (r10 : List Int), r10 = bytes_Clone_F r3.2.1 → (
 wfR (.one (.fr 5 (.int .u8) r10)) → (
 bif decide (List.length x5b.1 + List.length ([((IntKind.wrap .i64 (at8 + grown6)), r9, r10)] : List ((Int × List Int × List Int))) ≤ lim) then
 Y (IntKind.wrap .i64 (grown6 + (IntKind.wrap .i64 ((List.length r3.2.1 : Int) - r3.1)))) (IntKind.wrap .i64 (at8 + (IntKind.wrap .i64 ((List.length (rd ([] : List Int) x31 x33) : Int) + (1 : Int))))) x31 x32 (IntKind.wrap .i64 (x33 + (1 : Int))) r3.2.2 j2b x4b ((x5b.1 ++ ([((IntKind.wrap .i64 (at8 + grown6)), r9, r10)] : List ((Int × List Int × List Int)))), x5b.2.1, x5b.2.2.1, x5b.2.2.2.1, x5b.2.2.2.2)
 else False))))))) ∧ (
 bytes_Clone_P (List.take (Int.toNat r3.1) (rd ([] : List Int) x31 x33)) ∧ (
 ∀ (r11 : List Int), r11 = bytes_Clone_F (List.take (Int.toNat r3.1) (rd ([] : List Int) x31 x33)) → (
 wfR (.one (.fr 5 (.int .u8) r11)) → (
 (
 bytes_Clone_P r3.2.1 ∧ (
 ∀ (r12 : List Int), r12 = bytes_Clone_F r3.2.1 → (
 wfR (.one (.fr 5 (.int .u8) r12)) → (
 bif decide (List.length x5b.1 + List.length ([((IntKind.wrap .i64 (at8 + grown6)), r11, r12)] : List ((Int × List Int × List Int))) ≤ lim) then
 Y (IntKind.wrap .i64 (grown6 + (IntKind.wrap .i64 ((List.length r3.2.1 : Int) - r3.1)))) (IntKind.wrap .i64 (at8 + (IntKind.wrap .i64 ((List.length (rd ([] : List Int) x31 x33) : Int) + (1 : Int))))) x31 x32 (IntKind.wrap .i64 (x33 + (1 : Int))) r3.2.2 j2b x4b ((x5b.1 ++ ([((IntKind.wrap .i64 (at8 + grown6)), r11, r12)] : List ((Int × List Int × List Int)))), x5b.2.1, x5b.2.2.1, x5b.2.2.2.1, x5b.2.2.2.2)
 else False)))) ∧ (
 bytes_Clone_P r3.2.1 ∧ (
 ∀ (r13 : List Int), r13 = bytes_Clone_F r3.2.1 → (
 wfR (.one (.fr 5 (.int .u8) r13)) → (
 (
 bif decide (List.length x5b.1 + List.length ([((IntKind.wrap .i64 (at8 + grown6)), r11, r13)] : List ((Int × List Int × List Int))) ≤ lim) then
 Y (IntKind.wrap .i64 (grown6 + (IntKind.wrap .i64 ((List.length r3.2.1 : Int) - r3.1)))) (IntKind.wrap .i64 (at8 + (IntKind.wrap .i64 ((List.length (rd ([] : List Int) x31 x33) : Int) + (1 : Int))))) x31 x32 (IntKind.wrap .i64 (x33 + (1 : Int))) r3.2.2 j2b x4b ((x5b.1 ++ ([((IntKind.wrap .i64 (at8 + grown6)), r11, r13)] : List ((Int × List Int × List Int)))), x5b.2.1, x5b.2.2.1, x5b.2.2.2.1, x5b.2.2.2.2)
 else False) ∧ (
 (
 bif decide (List.length x5b.1 + List.length ([((IntKind.wrap .i64 (at8 + grown6)), r11, r13)] : List ((Int × List Int × List Int))) ≤ lim) then
 Y (IntKind.wrap .i64 (grown6 + (IntKind.wrap .i64 ((List.length r3.2.1 : Int) - r3.1)))) (IntKind.wrap .i64 (at8 + (IntKind.wrap .i64 ((List.length (rd ([] : List Int) x31 x33) : Int) + (1 : Int))))) x31 x32 (IntKind.wrap .i64 (x33 + (1 : Int))) r3.2.2 j2b x4b ((x5b.1 ++ ([((IntKind.wrap .i64 (at8 + grown6)), r11, r13)] : List ((Int × List Int × List Int)))), x5b.2.1, x5b.2.2.1, x5b.2.2.2.1, x5b.2.2.2.2)
 else False) ∧ (
 bif decide (List.length x5b.1 + List.length ([((IntKind.wrap .i64 (at8 + grown6)), r11, r13)] : List ((Int × List Int × List Int))) ≤ lim) then
 Y (IntKind.wrap .i64 (grown6 + (IntKind.wrap .i64 ((List.length r3.2.1 : Int) - r3.1)))) (IntKind.wrap .i64 (at8 + (IntKind.wrap .i64 ((List.length (rd ([] : List Int) x31 x33) : Int) + (1 : Int))))) x31 x32 (IntKind.wrap .i64 (x33 + (1 : Int))) r3.2.2 j2b x4b ((x5b.1 ++ ([((IntKind.wrap .i64 (at8 + grown6)), r11, r13)] : List ((Int × List Int × List Int)))), x5b.2.1, x5b.2.2.1, x5b.2.2.2.1, x5b.2.2.2.2)
 else False) ∧ True) ∧ True)))) ∧ True)))) ∧ True
 else False
 else
 Y grown6 (IntKind.wrap .i64 (at8 + (IntKind.wrap .i64 ((List.length (rd ([] : List Int) x31 x33) : Int) + (1 : Int))))) x31 x32 (IntKind.wrap .i64 (x33 + (1 : Int))) r3.2.2 j2b x4b x5b)))
 else False
 else
 kx0 f1b j2b x4b x5b
def hdO_L0 (kx0 : JbD → JbD → EfD → EfD → Prop) : Nat → Int → Int → List (List Int) → Int → Int → JbD → JbD → EfD → EfD → Prop
  | 0, _, _, _, _, _, _, _, _, _ => False
  | n + 1, grown6, at8, x31, x32, x33, f1b, j2b, x4b, x5b => wfD hdO_d0 (grown6, at8, x31, x32, x33, f1b, j2b, x4b, x5b, ()) → hdO_T0 (hdO_L0 kx0 n) kx0 grown6 at8 x31 x32 x33 f1b j2b x4b x5b
theorem hdO_s0 (k : Ex → St → Prop) (Y : vals hdO_d0 → Prop) (grown6 : Int) (at8 : Int) (x31 : List (List Int)) (x32 : Int) (x33 : Int) (f1b : JbD) (j2b : JbD) (x4b : EfD) (x5b : EfD) :
    ex tb1 (getG hdO_G) [] (at' (bodyOf Tryd.f139) [0, 0, 1, 0, 1, 1, 1, 1, 1]) [0, 0, 1, 0, 1, 1, 1, 1, 1] (mkD 90 hdO_d0 (grown6, at8, x31, x32, x33, f1b, j2b, x4b, x5b, ())) (lpK 90 hdO_d0 hdO_dx0 k Y) =
    hdO_T0 (fun grown6 at8 x31 x32 x33 f1b j2b x4b x5b => Y (grown6, at8, x31, x32, x33, f1b, j2b, x4b, x5b, ())) (fun f1b j2b x4b x5b => wfD hdO_d0x0 (f1b, j2b, x4b, x5b, ()) → k (.exit 0) (mkD 90 hdO_d0x0 (f1b, j2b, x4b, x5b, ()))) grown6 at8 x31 x32 x33 f1b j2b x4b x5b := by kernel_rfl
theorem hdO_e0 (k : Ex → St → Prop) : ∀ (n : Nat) (grown6 : Int) (at8 : Int) (x31 : List (List Int)) (x32 : Int) (x33 : Int) (f1b : JbD) (j2b : JbD) (x4b : EfD) (x5b : EfD), lpD 90 hdO_d0 hdO_dx0 (ex tb1 (getG hdO_G) [] (at' (bodyOf Tryd.f139) [0, 0, 1, 0, 1, 1, 1, 1, 1]) [0, 0, 1, 0, 1, 1, 1, 1, 1]) k n (grown6, at8, x31, x32, x33, f1b, j2b, x4b, x5b, ()) = hdO_L0 (fun f1b j2b x4b x5b => wfD hdO_d0x0 (f1b, j2b, x4b, x5b, ()) → k (.exit 0) (mkD 90 hdO_d0x0 (f1b, j2b, x4b, x5b, ()))) n grown6 at8 x31 x32 x33 f1b j2b x4b x5b
  | 0, _, _, _, _, _, _, _, _, _ => rfl
  | n + 1, grown6, at8, x31, x32, x33, f1b, j2b, x4b, x5b => congrArg (fun Z : Prop => wfD hdO_d0 (grown6, at8, x31, x32, x33, f1b, j2b, x4b, x5b, ()) → Z) ((hdO_s0 k (lpD 90 hdO_d0 hdO_dx0 (ex tb1 (getG hdO_G) [] (at' (bodyOf Tryd.f139) [0, 0, 1, 0, 1, 1, 1, 1, 1]) [0, 0, 1, 0, 1, 1, 1, 1, 1]) k n) grown6 at8 x31 x32 x33 f1b j2b x4b x5b).trans (congrArg (fun Y => hdO_T0 Y (fun f1b j2b x4b x5b => wfD hdO_d0x0 (f1b, j2b, x4b, x5b, ()) → k (.exit 0) (mkD 90 hdO_d0x0 (f1b, j2b, x4b, x5b, ()))) grown6 at8 x31 x32 x33 f1b j2b x4b x5b) (funext fun grown6 => funext fun at8 => funext fun x31 => funext fun x32 => funext fun x33 => funext fun f1b => funext fun j2b => funext fun x4b => funext fun x5b => hdO_e0 k n grown6 at8 x31 x32 x33 f1b j2b x4b x5b)))
theorem hdO_v0 (k : Ex → St → Prop) (n : Nat) : ∀ v : vals hdO_d0, lpD 90 hdO_d0 hdO_dx0 (ex tb1 (getG hdO_G) [] (at' (bodyOf Tryd.f139) [0, 0, 1, 0, 1, 1, 1, 1, 1]) [0, 0, 1, 0, 1, 1, 1, 1, 1]) k n v = hdO_L0 (fun f1b j2b x4b x5b => wfD hdO_d0x0 (f1b, j2b, x4b, x5b, ()) → k (.exit 0) (mkD 90 hdO_d0x0 (f1b, j2b, x4b, x5b, ()))) n v.1 v.2.1 v.2.2.1 v.2.2.2.1 v.2.2.2.2.1 v.2.2.2.2.2.1 v.2.2.2.2.2.2.1 v.2.2.2.2.2.2.2.1 v.2.2.2.2.2.2.2.2.1
  | (grown6, at8, x31, x32, x33, f1b, j2b, x4b, x5b, ()) => hdO_e0 k n grown6 at8 x31 x32 x33 f1b j2b x4b x5b
def hdO_X0 : Pce := fun st k => ckD 90 hdO_d0 st fun v => wfD hdO_d0 v → ∃ n, hdO_L0 (fun f1b j2b x4b x5b => wfD hdO_d0x0 (f1b, j2b, x4b, x5b, ()) → k (.exit 0) (mkD 90 hdO_d0x0 (f1b, j2b, x4b, x5b, ()))) n v.1 v.2.1 v.2.2.1 v.2.2.2.1 v.2.2.2.2.1 v.2.2.2.2.2.1 v.2.2.2.2.2.2.1 v.2.2.2.2.2.2.2.1 v.2.2.2.2.2.2.2.2.1
set_option maxRecDepth 20000 in
theorem hdO_x0 : SemOk Tryd.prog (at' (bodyOf Tryd.f139) [0, 1, 0, 1, 1, 1, 1, 1]) hdO_X0 :=
  (SemOk.loop (ex_sound tb_M tb1_ok hdO_Gok (LabsOk.nil) (at' (bodyOf Tryd.f139) [0, 0, 1, 0, 1, 1, 1, 1, 1]) [0, 0, 1, 0, 1, 1, 1, 1, 1] rfl (storesC_at hdO_st [0, 0, 1, 0, 1, 1, 1, 1, 1])) 90 hdO_d0 hdO_dx0).mono fun st k h => ckD_mono h fun v hv hw => (hv hw).elim fun n hn => ⟨n, Eq.mpr (hdO_v0 k n v) hn⟩
def hdO_B0 : Labs := ([0, 1, 0, 1, 1, 1, 1, 1], hdO_X0) :: []
theorem hdO_b0 : LabsOk Tryd.prog (bodyOf Tryd.f139) hdO_B0 := LabsOk.cons hdO_x0 (LabsOk.nil)
def hdO_raw (j0 : JbD) (f1 : JbD) (K : Res → List Cell → Prop) : Prop :=
 lines_Split_P j0.1 ∧ (
 ∀ (r1 : List (List Int)), r1 = lines_Split_F j0.1 → (
 wfR (.one (.fr 22 (.sl (.int .u8)) r1)) → (
 ∀ (r2 : Int × Int), r2 = lines_Start_F j0.1 j0.2.2.2.1 → (
 wfR (.tup [.v (.int .i64) r2.1, .v (.int .i64) r2.2]) → (
 bif decide (0 ≤ j0.2.2.2.1 ∧ j0.2.2.2.1 ≤ (IntKind.wrap .i64 (j0.2.2.2.2.1 + (1 : Int))) ∧ (IntKind.wrap .i64 (j0.2.2.2.2.1 + (1 : Int))) ≤ (List.length r1 : Int)) then
 (wfD hdO_d0 ((0 : Int), r2.1, (slc r1 j0.2.2.2.1 (IntKind.wrap .i64 (j0.2.2.2.2.1 + (1 : Int)))), (List.length (slc r1 j0.2.2.2.1 (IntKind.wrap .i64 (j0.2.2.2.2.1 + (1 : Int)))) : Int), (0 : Int), f1, j0, (([] : List ((Int × List Int × List Int))), (0 : Int), (false, false, ([] : List Int)), (0 : Int), false), (([] : List ((Int × List Int × List Int))), (0 : Int), (false, false, ([] : List Int)), (0 : Int), false), ()) → ∃ n, hdO_L0 (fun (f1b : JbD) (j2b : JbD) (x4b : EfD) (x5b : EfD) => wfD hdO_d0x0 (f1b, j2b, x4b, x5b, ()) → (
 oper_with_P j2b.1 x5b.1 ∧ (
 ∀ (r14 : List Int), r14 = oper_with_F j2b.1 x5b.1 → (
 wfR (.one (.fr 5 (.int .u8) r14)) → (
 ∀ (r15 : Int × Int), r15 = lines_First_F r14 j2b.2.2.2.1 → (
 wfR (.tup [.v (.int .i64) r15.1, .v (.int .i64) r15.2]) → (
 K (.one (.v EfT (x5b.1, r15.1, x5b.2.2.1, x5b.2.2.2.1, x5b.2.2.2.2))) [⟨.st (.pair (.sl (.int .u8)) (.pair (.int .i64) (.pair (.st (.pair (.int .i64) (.pair (.int .i64) (.pair (.bool) (.bool))))) (.pair (.int .i64) (.pair (.int .i64) (.int .i64)))))), f1b⟩]))))))) n (0 : Int) r2.1 (slc r1 j0.2.2.2.1 (IntKind.wrap .i64 (j0.2.2.2.2.1 + (1 : Int)))) (List.length (slc r1 j0.2.2.2.1 (IntKind.wrap .i64 (j0.2.2.2.2.1 + (1 : Int)))) : Int) (0 : Int) f1 j0 (([] : List ((Int × List Int × List Int))), (0 : Int), (false, false, ([] : List Int)), (0 : Int), false) (([] : List ((Int × List Int × List Int))), (0 : Int), (false, false, ([] : List Int)), (0 : Int), false))
 else False)))))
def hdO_A : List AS := [.v JbT, .r (some 141) JbT]
theorem hdO_walk (j0 : JbD) (f1 : JbD) (K : Res → List Cell → Prop) : runF tb1 (getG hdO_G) hdO_B0 Tryd.f139 [true] (mkA hdO_A (j0, f1, ())) K = hdO_raw j0 f1 K := by kernel_rfl
--! held api.Effect 0
--! fns 1 oj_indented_1 oj_outdented_1
--! pre 1
--! sub_oj_indented_1 CT=List Int|G0=oj_indented_1_F l c|INTRO=fun r3 hr3 _ => ?_|R2=r3.2|E3=e1|OT=.sl (.int .u8)
--! sub_oj_outdented_1 CT=List Int × Int × (Int × Int × Bool × Bool) × Int × Int × Int|G0=((oj_outdented_1_F l c).1, (oj_outdented_1_F l c).2.1)|INTRO=⟨show _ ≤ lim by omega, fun r3 hr3 _ => ?_⟩|R2=r3.2.1|E3=e1, show r3.2.2 = c by rw [hr3]; rfl|OT=.st (.pair (.sl (.int .u8)) (.pair (.int .i64) (.pair (.st (.pair (.int .i64) (.pair (.int .i64) (.pair (.bool) (.bool))))) (.pair (.int .i64) (.pair (.int .i64) (.int .i64))))))
def hdO_g (c : List Int × Int × (Int × Int × Bool × Bool) × Int × Int × Int) (l : List Int) : Int × List Int := ((oj_outdented_1_F l c).1, (oj_outdented_1_F l c).2.1)
def hdO_P (j : List Int × Int × (Int × Int × Bool × Bool) × Int × Int × Int) (c : List Int × Int × (Int × Int × Bool × Bool) × Int × Int × Int) : Prop :=
 HeadsP (hdO_g c) j.1 j.2.2.2.1 j.2.2.2.2.1 ∧ oper_with_P j.1 (headsL (hdO_g c) (slc (lines_Split_F j.1) j.2.2.2.1 (j.2.2.2.2.1 + 1)) (lines_Start_F j.1 j.2.2.2.1).1 0)
def hdO_F (j : List Int × Int × (Int × Int × Bool × Bool) × Int × Int × Int) (c : List Int × Int × (Int × Int × Bool × Bool) × Int × Int × Int) : EffT × JbD :=
 ((headsL (hdO_g c) (slc (lines_Split_F j.1) j.2.2.2.1 (j.2.2.2.2.1 + 1)) (lines_Start_F j.1 j.2.2.2.1).1 0, (lines_First_F (oper_with_F j.1 (headsL (hdO_g c) (slc (lines_Split_F j.1) j.2.2.2.1 (j.2.2.2.2.1 + 1)) (lines_Start_F j.1 j.2.2.2.1).1 0)) j.2.2.2.1).1, (false, false, []), 0, false), c)
theorem hdO_l0 (kx0 : List Int × Int × (Int × Int × Bool × Bool) × Int × Int × Int → JbD → EffT → EffT → Prop) (L : List (List Int)) (hL : L.length ≤ 1099511627776) (c : List Int × Int × (Int × Int × Bool × Bool) × Int × Int × Int) (hg : ∀ l ∈ L, 0 ≤ (hdO_g c l).1 ∧ (hdO_g c l).1 ≤ (l.length : Int)) (j : List Int × Int × (Int × Int × Bool × Bool) × Int × Int × Int) (x4 : EffT) (z : Int) (rg : Bool × Bool × List Int) (ho : Int) (ty : Bool) :
    ∀ (n i : Nat) (p grown : Int) (xs : List (Int × List Int × List Int)), L.length < n + i → i ≤ L.length → 0 ≤ p → p + (massH (hdO_g c) (L.drop i) : Int) ≤ 1099511627776 → -1099511627776 ≤ grown - (massH (hdO_g c) (L.drop i) : Int) → grown + (massH (hdO_g c) (L.drop i) : Int) ≤ 1099511627776 → xs.length + massH (hdO_g c) (L.drop i) ≤ 1099511627776 →
      kx0 c j x4 (xs ++ headsL (hdO_g c) (L.drop i) p grown, z, rg, ho, ty) → hdO_L0 kx0 n grown p L (L.length : Int) (i : Int) c j x4 (xs, z, rg, ho, ty)
  | 0, i, p, grown, xs, h, h2, _, _, _, _, _, _ => by omega
  | n + 1, i, p, grown, xs, h, h2, h0, m1, m2, m3, m4, hk => by
    intro _
    unfold hdO_T0
    have hlim : lim = 1099511627776 := rfl
    refine brn (fun hlt => asrt ⟨by omega, hlt⟩ ?_) (fun hge => ?_)
    · have hi : i < L.length := by omega
      rw [rd_nat _ _ _ hi]
      have hgl := hg L[i] (List.getElem_mem hi)
      rw [List.drop_eq_getElem_cons hi] at m1 m2 m3 m4 hk
      generalize L[i] = l at *
      simp only [massH, headsL] at m1 m2 m3 m4 hk
      refine ⟨show _ ≤ lim by omega, fun r3 hr3 _ => ?_⟩
      have e1 : r3.1 = (hdO_g c l).1 := by rw [hr3]; rfl
      have e2 : r3.2.1 = (hdO_g c l).2 := by rw [hr3]; rfl
      rw [e2, e1, show r3.2.2 = c by rw [hr3]; rfl]
      clear e1 e2 hr3
      generalize (hdO_g c l) = q at *
      have hc1 : (l.take q.1.toNat).length ≤ lim := by rw [List.length_take]; omega
      have hc2 : q.2.length ≤ lim := by omega
      refine brn (fun c1 => asrt hgl ?_) (fun c1 => brn (fun c2 => asrt hgl ?_) (fun c2 => ?_))
      · rw [if_pos (.inl c1)] at hk
        refine ⟨⟨hc1, fun r4 h4 _ => ⟨hc2, fun r5 h5 _ => ?_⟩⟩, ⟨hc1, fun r4 h4 _ => ⟨⟨hc2, fun r5 h5 _ => ?_⟩, ⟨hc2, fun r5 h5 _ => ⟨?_, ⟨?_, ?_, trivial⟩, trivial⟩⟩, trivial⟩⟩, trivial⟩
        all_goals
          replace h4 : r4 = l.take q.1.toNat := h4
          replace h5 : r5 = q.2 := h5
          subst r4 r5
          dsimp only
          refine asrt (by show xs.length + 1 ≤ lim; omega) ?_
          rw [wrap_i64 (n := p + grown) (by omega) (by omega), wrap_i64 (n := (List.length q.2 : Int) - q.1) (by omega) (by omega), wrap_i64 (n := grown + ((List.length q.2 : Int) - q.1)) (by omega) (by omega), wrap_i64 (n := (List.length l : Int) + 1) (by omega) (by omega), wrap_i64 (n := p + ((List.length l : Int) + 1)) (by omega) (by omega), wrap_i64 (n := (i : Int) + 1) (by omega) (by omega), show (i : Int) + 1 = ((i + 1 : Nat) : Int) by omega]
          refine hdO_l0 kx0 L hL c hg j x4 z rg ho ty n (i + 1) _ _ _ (by omega) (by omega) (by omega) (by omega) (by omega) (by omega) (by rw [List.length_append, List.length_singleton]; omega) ?_
          rw [List.append_assoc]
          exact hk
      · rw [if_pos (.inr (by omega))] at hk
        refine ⟨⟨hc1, fun r4 h4 _ => ⟨hc2, fun r5 h5 _ => ?_⟩⟩, ⟨hc1, fun r4 h4 _ => ⟨⟨hc2, fun r5 h5 _ => ?_⟩, ⟨hc2, fun r5 h5 _ => ⟨?_, ⟨?_, ?_, trivial⟩, trivial⟩⟩, trivial⟩⟩, trivial⟩
        all_goals
          replace h4 : r4 = l.take q.1.toNat := h4
          replace h5 : r5 = q.2 := h5
          subst r4 r5
          dsimp only
          refine asrt (by show xs.length + 1 ≤ lim; omega) ?_
          rw [wrap_i64 (n := p + grown) (by omega) (by omega), wrap_i64 (n := (List.length q.2 : Int) - q.1) (by omega) (by omega), wrap_i64 (n := grown + ((List.length q.2 : Int) - q.1)) (by omega) (by omega), wrap_i64 (n := (List.length l : Int) + 1) (by omega) (by omega), wrap_i64 (n := p + ((List.length l : Int) + 1)) (by omega) (by omega), wrap_i64 (n := (i : Int) + 1) (by omega) (by omega), show (i : Int) + 1 = ((i + 1 : Nat) : Int) by omega]
          refine hdO_l0 kx0 L hL c hg j x4 z rg ho ty n (i + 1) _ _ _ (by omega) (by omega) (by omega) (by omega) (by omega) (by omega) (by rw [List.length_append, List.length_singleton]; omega) ?_
          rw [List.append_assoc]
          exact hk
      · rw [if_neg (by omega)] at hk
        rw [wrap_i64 (n := (List.length l : Int) + 1) (by omega) (by omega), wrap_i64 (n := p + ((List.length l : Int) + 1)) (by omega) (by omega), wrap_i64 (n := (i : Int) + 1) (by omega) (by omega), show (i : Int) + 1 = ((i + 1 : Nat) : Int) by omega]
        exact hdO_l0 kx0 L hL c hg j x4 z rg ho ty n (i + 1) _ _ _ (by omega) (by omega) (by omega) (by omega) (by omega) (by omega) (by omega) hk
    · rw [List.drop_eq_nil_of_le (by omega), headsL, List.append_nil] at hk
      exact hk
theorem hdO_sp (j : List Int × Int × (Int × Int × Bool × Bool) × Int × Int × Int) (c : List Int × Int × (Int × Int × Bool × Bool) × Int × Int × Int) (K : Res → List Cell → Prop) (_ : wfA hdO_A (j, c, ())) (hp : hdO_P j c)
    (h : ∀ r : EffT × JbD, r = hdO_F j c → K (.one (.v EfT r.1)) [⟨.st (.pair (.sl (.int .u8)) (.pair (.int .i64) (.pair (.st (.pair (.int .i64) (.pair (.int .i64) (.pair (.bool) (.bool))))) (.pair (.int .i64) (.pair (.int .i64) (.int .i64)))))), r.2⟩]) : hdO_raw j c K := by
  obtain ⟨⟨h1, h2, h3, h4, h5, h6⟩, h7⟩ := hp
  have hlim : lim = 1099511627776 := rfl
  have hs := lines_Start_F_le j.1 j.2.2.2.1
  unfold hdO_raw
  refine ⟨h1, fun r1 hr1 _ r2 hr2 _ => ?_⟩
  subst r1 r2
  have hc := List.count_le_length (a := (10 : Int)) (l := j.1)
  have hsl : (lines_Split_F j.1).length ≤ j.1.length + 1 := by
    have := (splN_len (j.1.count 10) j.1).2
    unfold lines_Split_F; omega
  rw [wrap_i64 (n := j.2.2.2.2.1 + 1) (by omega) (by omega)]
  refine asrt ⟨h2, h3, h4⟩ fun _ => ?_
  have hL : (slc (lines_Split_F j.1) j.2.2.2.1 (j.2.2.2.2.1 + 1)).length ≤ 1099511627776 := by
    unfold slc; rw [List.length_drop, List.length_take]; omega
  refine ⟨_, hdO_l0 _ _ hL c h5 j _ 0 (false, false, []) 0 false ((slc (lines_Split_F j.1) j.2.2.2.1 (j.2.2.2.2.1 + 1)).length + 1) 0 _ 0 [] (by omega) (Nat.zero_le _) hs.1 (by rw [List.drop_zero]; omega) (by rw [List.drop_zero]; omega) (by rw [List.drop_zero]; omega) (by rw [List.drop_zero, List.length_nil]; omega) (fun _ => ?_)⟩
  rw [List.drop_zero, List.nil_append]
  refine ⟨h7, fun r14 e14 _ r15 e15 _ => ?_⟩
  subst r14 r15
  exact h (_, c) rfl

def hdO_C (v : valsA hdO_A) (K : Res → List Cell → Prop) : Prop := hdO_P v.1 v.2.1 ∧ ∀ r : EfD × JbD, r = hdO_F v.1 v.2.1 → K (.one (.v EfT r.1)) [⟨.st (.pair (.sl (.int .u8)) (.pair (.int .i64) (.pair (.st (.pair (.int .i64) (.pair (.int .i64) (.pair (.bool) (.bool))))) (.pair (.int .i64) (.pair (.int .i64) (.int .i64)))))), r.2⟩]
def hdO_S : App := specW hdO_A hdO_C
theorem hdO_wv (K : Res → List Cell → Prop) : ∀ v : valsA hdO_A, runF tb1 (getG hdO_G) hdO_B0 Tryd.f139 [true] (mkA hdO_A v) K = hdO_raw v.1 v.2.1 K
  | (j0, f1, ()) => hdO_walk j0 f1 K
set_option maxRecDepth 20000 in
theorem hdO_ok : AppOk Tryd.prog 139 hdO_S :=
  AppOk.specW (spec_ok ((runF_ok tb_M tb1_ok hdO_Gok (hdO_b0) (f := 139) (fn := Tryd.f139) (by kernel_rfl) (by kernel_rfl) hdO_st [true])) fun v K hw h => (hdO_wv K v).mpr (hdO_sp v.1 v.2.1 K hw h.1 h.2))
end Go.VE
namespace Go.VE
open Go Go.Proofs
/-! ### (quoin/oper.job).outdented -/
def oj_outdented_G : List (Nat × App) := [(139, hdO_S)]
theorem oj_outdented_Gok : GOk Tryd.prog (getG oj_outdented_G) := GOk.cons hdO_ok (GOk.nil)
def oj_outdented_raw (j0 : JbD) (K : Res → List Cell → Prop) : Prop :=
 hdO_P j0 j0 ∧ (
 ∀ (r1 : EfD × JbD), r1 = hdO_F j0 j0 → (
 wfR (.one (.v EfT r1.1)) → (
 K (.tup [.v EfT r1.1, .v (.int .i64) (0 : Int)]) [])))
def oj_outdented_A : List AS := [.v JbT]
theorem oj_outdented_walk (j0 : JbD) (K : Res → List Cell → Prop) : runF tb (getG oj_outdented_G) [] Tryd.f107 [true, true] (mkA oj_outdented_A (j0, ())) K = oj_outdented_raw j0 K := by kernel_rfl

def oj_outdented_P (j0 : JbD) : Prop :=
 hdO_P j0 j0
def oj_outdented_F (j0 : JbD) : EfD × Int :=
 let r1 : EfD × JbD := hdO_F j0 j0
 (r1.1, (0 : Int))
set_option maxRecDepth 20000 in
theorem oj_outdented_sp (j0 : JbD) (K : Res → List Cell → Prop) (_ : wfA oj_outdented_A (j0, ())) (hp : oj_outdented_P j0) (h : ∀ r : EfD × Int, r = oj_outdented_F j0 → K (.tup [.v EfT r.1, .v (.int .i64) r.2]) []) : oj_outdented_raw j0 K := by
  unfold oj_outdented_raw
  unfold oj_outdented_P at hp
  refine ⟨hp, ?_⟩
  intro r1 hr1
  subst r1
  intro _
  exact h _ rfl
def oj_outdented_C (v : valsA oj_outdented_A) (K : Res → List Cell → Prop) : Prop := oj_outdented_P v.1 ∧ ∀ r : EfD × Int, r = oj_outdented_F v.1 → K (.tup [.v EfT r.1, .v (.int .i64) r.2]) []
def oj_outdented_S : App := specW oj_outdented_A oj_outdented_C
theorem oj_outdented_wv (K : Res → List Cell → Prop) : ∀ v : valsA oj_outdented_A, runF tb (getG oj_outdented_G) [] Tryd.f107 [true, true] (mkA oj_outdented_A v) K = oj_outdented_raw v.1 K
  | (j0, ()) => oj_outdented_walk j0 K
set_option maxRecDepth 20000 in
theorem oj_outdented_ok : AppOk Tryd.prog 107 oj_outdented_S :=
  AppOk.specW (spec_ok ((runF_ok tb_M tb_ok oj_outdented_Gok (LabsOk.nil) (f := 107) (fn := Tryd.f107) (by kernel_rfl) (by kernel_rfl) (by kernel_rfl) [true, true])) fun v K hw h => (oj_outdented_wv K v).mpr (oj_outdented_sp v.1 K hw h.1 h.2))

end Go.VE
namespace Go.VE
open Go Go.Proofs
/-! ### quoin/class.small -/
def class_small_G : List (Nat × App) := []
theorem class_small_Gok : GOk Tryd.prog (getG class_small_G) := GOk.nil
def class_small_raw (b0 : Int) (K : Res → List Cell → Prop) : Prop :=
 bif (decide ((97 : Int) ≤ b0)) then
 K (.one (.v (.bool) (decide (b0 ≤ (122 : Int))))) []
 else
 K (.one (.v (.bool) false)) []
def class_small_A : List AS := [.v (.int .u8)]
theorem class_small_walk (b0 : Int) (K : Res → List Cell → Prop) : runF tb (getG class_small_G) [] Tryd.f74 [true] (mkA class_small_A (b0, ())) K = class_small_raw b0 K := by kernel_rfl

def class_small_F (b0 : Int) : Bool :=
 bif (decide ((97 : Int) ≤ b0)) then
 (decide (b0 ≤ (122 : Int)))
 else
 false
set_option maxRecDepth 20000 in
theorem class_small_sp (b0 : Int) (K : Res → List Cell → Prop) (_ : wfA class_small_A (b0, ())) (h : ∀ r : Bool, r = class_small_F b0 → K (.one (.v (.bool) r)) []) : class_small_raw b0 K := by
  unfold class_small_raw
  refine brb (fun c_1 => ?_) (fun c_1 => ?_)
  ·
    exact h _ ((ctrue c_1) : class_small_F b0 = _).symm
  ·
    exact h _ ((cfalse c_1) : class_small_F b0 = _).symm
def class_small_C (v : valsA class_small_A) (K : Res → List Cell → Prop) : Prop := ∀ r : Bool, r = class_small_F v.1 → K (.one (.v (.bool) r)) []
def class_small_S : App := specW class_small_A class_small_C
theorem class_small_wv (K : Res → List Cell → Prop) : ∀ v : valsA class_small_A, runF tb (getG class_small_G) [] Tryd.f74 [true] (mkA class_small_A v) K = class_small_raw v.1 K
  | (b0, ()) => class_small_walk b0 K
set_option maxRecDepth 20000 in
theorem class_small_ok : AppOk Tryd.prog 74 class_small_S :=
  AppOk.specW (spec_ok ((runF_ok tb_M tb_ok class_small_Gok (LabsOk.nil) (f := 74) (fn := Tryd.f74) (by kernel_rfl) (by kernel_rfl) (by kernel_rfl) [true])) fun v K hw h => (class_small_wv K v).mpr (class_small_sp v.1 K hw h))

end Go.VE
namespace Go.VE
open Go Go.Proofs
/-! ### quoin/class.Upper -/
def class_Upper_G : List (Nat × App) := [(74, class_small_S)]
theorem class_Upper_Gok : GOk Tryd.prog (getG class_Upper_G) := GOk.cons class_small_ok (GOk.nil)
def class_Upper_raw (b0 : Int) (K : Res → List Cell → Prop) : Prop :=
 ∀ (r1 : Bool), r1 = class_small_F b0 → (
 wfR (.one (.v (.bool) r1)) → (
 bif r1 then
 K (.one (.v (.int .u8) (IntKind.wrap .u8 (b0 - (32 : Int))))) []
 else
 K (.one (.v (.int .u8) b0)) []))
def class_Upper_A : List AS := [.v (.int .u8)]
theorem class_Upper_walk (b0 : Int) (K : Res → List Cell → Prop) : runF tb (getG class_Upper_G) [] Tryd.f33 [true] (mkA class_Upper_A (b0, ())) K = class_Upper_raw b0 K := by kernel_rfl

def class_Upper_F (b0 : Int) : Int :=
 let r1 : Bool := class_small_F b0
 bif r1 then
 (IntKind.wrap .u8 (b0 - (32 : Int)))
 else
 b0
set_option maxRecDepth 20000 in
theorem class_Upper_sp (b0 : Int) (K : Res → List Cell → Prop) (_ : wfA class_Upper_A (b0, ())) (h : ∀ r : Int, r = class_Upper_F b0 → K (.one (.v (.int .u8) r)) []) : class_Upper_raw b0 K := by
  unfold class_Upper_raw
  intro r1 hr1
  subst r1
  intro _
  refine brb (fun c_1 => ?_) (fun c_1 => ?_)
  ·
    exact h _ ((ctrue c_1) : class_Upper_F b0 = _).symm
  ·
    exact h _ ((cfalse c_1) : class_Upper_F b0 = _).symm
def class_Upper_C (v : valsA class_Upper_A) (K : Res → List Cell → Prop) : Prop := ∀ r : Int, r = class_Upper_F v.1 → K (.one (.v (.int .u8) r)) []
def class_Upper_S : App := specW class_Upper_A class_Upper_C
theorem class_Upper_wv (K : Res → List Cell → Prop) : ∀ v : valsA class_Upper_A, runF tb (getG class_Upper_G) [] Tryd.f33 [true] (mkA class_Upper_A v) K = class_Upper_raw v.1 K
  | (b0, ()) => class_Upper_walk b0 K
set_option maxRecDepth 20000 in
theorem class_Upper_ok : AppOk Tryd.prog 33 class_Upper_S :=
  AppOk.specW (spec_ok ((runF_ok tb_M tb_ok class_Upper_Gok (LabsOk.nil) (f := 33) (fn := Tryd.f33) (by kernel_rfl) (by kernel_rfl) (by kernel_rfl) [true])) fun v K hw h => (class_Upper_wv K v).mpr (class_Upper_sp v.1 K hw h))

end Go.VE
namespace Go.VE
open Go Go.Proofs
/-! ### quoin/class.great -/
def class_great_G : List (Nat × App) := []
theorem class_great_Gok : GOk Tryd.prog (getG class_great_G) := GOk.nil
def class_great_raw (b0 : Int) (K : Res → List Cell → Prop) : Prop :=
 bif (decide ((65 : Int) ≤ b0)) then
 K (.one (.v (.bool) (decide (b0 ≤ (90 : Int))))) []
 else
 K (.one (.v (.bool) false)) []
def class_great_A : List AS := [.v (.int .u8)]
theorem class_great_walk (b0 : Int) (K : Res → List Cell → Prop) : runF tb (getG class_great_G) [] Tryd.f73 [true] (mkA class_great_A (b0, ())) K = class_great_raw b0 K := by kernel_rfl

def class_great_F (b0 : Int) : Bool :=
 bif (decide ((65 : Int) ≤ b0)) then
 (decide (b0 ≤ (90 : Int)))
 else
 false
set_option maxRecDepth 20000 in
theorem class_great_sp (b0 : Int) (K : Res → List Cell → Prop) (_ : wfA class_great_A (b0, ())) (h : ∀ r : Bool, r = class_great_F b0 → K (.one (.v (.bool) r)) []) : class_great_raw b0 K := by
  unfold class_great_raw
  refine brb (fun c_1 => ?_) (fun c_1 => ?_)
  ·
    exact h _ ((ctrue c_1) : class_great_F b0 = _).symm
  ·
    exact h _ ((cfalse c_1) : class_great_F b0 = _).symm
def class_great_C (v : valsA class_great_A) (K : Res → List Cell → Prop) : Prop := ∀ r : Bool, r = class_great_F v.1 → K (.one (.v (.bool) r)) []
def class_great_S : App := specW class_great_A class_great_C
theorem class_great_wv (K : Res → List Cell → Prop) : ∀ v : valsA class_great_A, runF tb (getG class_great_G) [] Tryd.f73 [true] (mkA class_great_A v) K = class_great_raw v.1 K
  | (b0, ()) => class_great_walk b0 K
set_option maxRecDepth 20000 in
theorem class_great_ok : AppOk Tryd.prog 73 class_great_S :=
  AppOk.specW (spec_ok ((runF_ok tb_M tb_ok class_great_Gok (LabsOk.nil) (f := 73) (fn := Tryd.f73) (by kernel_rfl) (by kernel_rfl) (by kernel_rfl) [true])) fun v K hw h => (class_great_wv K v).mpr (class_great_sp v.1 K hw h))

end Go.VE
namespace Go.VE
open Go Go.Proofs
/-! ### quoin/class.Lower -/
def class_Lower_G : List (Nat × App) := [(73, class_great_S)]
theorem class_Lower_Gok : GOk Tryd.prog (getG class_Lower_G) := GOk.cons class_great_ok (GOk.nil)
def class_Lower_raw (b0 : Int) (K : Res → List Cell → Prop) : Prop :=
 ∀ (r1 : Bool), r1 = class_great_F b0 → (
 wfR (.one (.v (.bool) r1)) → (
 bif r1 then
 K (.one (.v (.int .u8) (IntKind.wrap .u8 (b0 + (32 : Int))))) []
 else
 K (.one (.v (.int .u8) b0)) []))
def class_Lower_A : List AS := [.v (.int .u8)]
theorem class_Lower_walk (b0 : Int) (K : Res → List Cell → Prop) : runF tb (getG class_Lower_G) [] Tryd.f32 [true] (mkA class_Lower_A (b0, ())) K = class_Lower_raw b0 K := by kernel_rfl

def class_Lower_F (b0 : Int) : Int :=
 let r1 : Bool := class_great_F b0
 bif r1 then
 (IntKind.wrap .u8 (b0 + (32 : Int)))
 else
 b0
set_option maxRecDepth 20000 in
theorem class_Lower_sp (b0 : Int) (K : Res → List Cell → Prop) (_ : wfA class_Lower_A (b0, ())) (h : ∀ r : Int, r = class_Lower_F b0 → K (.one (.v (.int .u8) r)) []) : class_Lower_raw b0 K := by
  unfold class_Lower_raw
  intro r1 hr1
  subst r1
  intro _
  refine brb (fun c_1 => ?_) (fun c_1 => ?_)
  ·
    exact h _ ((ctrue c_1) : class_Lower_F b0 = _).symm
  ·
    exact h _ ((cfalse c_1) : class_Lower_F b0 = _).symm
def class_Lower_C (v : valsA class_Lower_A) (K : Res → List Cell → Prop) : Prop := ∀ r : Int, r = class_Lower_F v.1 → K (.one (.v (.int .u8) r)) []
def class_Lower_S : App := specW class_Lower_A class_Lower_C
theorem class_Lower_wv (K : Res → List Cell → Prop) : ∀ v : valsA class_Lower_A, runF tb (getG class_Lower_G) [] Tryd.f32 [true] (mkA class_Lower_A v) K = class_Lower_raw v.1 K
  | (b0, ()) => class_Lower_walk b0 K
set_option maxRecDepth 20000 in
theorem class_Lower_ok : AppOk Tryd.prog 32 class_Lower_S :=
  AppOk.specW (spec_ok ((runF_ok tb_M tb_ok class_Lower_Gok (LabsOk.nil) (f := 32) (fn := Tryd.f32) (by kernel_rfl) (by kernel_rfl) (by kernel_rfl) [true])) fun v K hw h => (class_Lower_wv K v).mpr (class_Lower_sp v.1 K hw h))

end Go.VE
namespace Go.VE
open Go Go.Proofs
/-! ### quoin/class.Toggle -/
def class_Toggle_G : List (Nat × App) := [(74, class_small_S), (33, class_Upper_S), (32, class_Lower_S)]
theorem class_Toggle_Gok : GOk Tryd.prog (getG class_Toggle_G) := GOk.cons class_small_ok (GOk.cons class_Upper_ok (GOk.cons class_Lower_ok (GOk.nil)))
def class_Toggle_raw (b0 : Int) (K : Res → List Cell → Prop) : Prop :=
 ∀ (r1 : Bool), r1 = class_small_F b0 → (
 wfR (.one (.v (.bool) r1)) → (
 bif r1 then
 ∀ (r2 : Int), r2 = class_Upper_F b0 → (
 wfR (.one (.v (.int .u8) r2)) → (
 K (.one (.v (.int .u8) r2)) []))
 else
 ∀ (r3 : Int), r3 = class_Lower_F b0 → (
 wfR (.one (.v (.int .u8) r3)) → (
 K (.one (.v (.int .u8) r3)) []))))
def class_Toggle_A : List AS := [.v (.int .u8)]
theorem class_Toggle_walk (b0 : Int) (K : Res → List Cell → Prop) : runF tb (getG class_Toggle_G) [] Tryd.f34 [true] (mkA class_Toggle_A (b0, ())) K = class_Toggle_raw b0 K := by kernel_rfl

def class_Toggle_F (b0 : Int) : Int :=
 let r1 : Bool := class_small_F b0
 bif r1 then
 let r2 : Int := class_Upper_F b0
 r2
 else
 let r3 : Int := class_Lower_F b0
 r3
set_option maxRecDepth 20000 in
theorem class_Toggle_sp (b0 : Int) (K : Res → List Cell → Prop) (_ : wfA class_Toggle_A (b0, ())) (h : ∀ r : Int, r = class_Toggle_F b0 → K (.one (.v (.int .u8) r)) []) : class_Toggle_raw b0 K := by
  unfold class_Toggle_raw
  intro r1 hr1
  subst r1
  intro _
  refine brb (fun c_1 => ?_) (fun c_1 => ?_)
  ·
    intro r2 hr2
    subst r2
    intro _
    exact h _ ((ctrue c_1) : class_Toggle_F b0 = _).symm
  ·
    intro r3 hr3
    subst r3
    intro _
    exact h _ ((cfalse c_1) : class_Toggle_F b0 = _).symm
def class_Toggle_C (v : valsA class_Toggle_A) (K : Res → List Cell → Prop) : Prop := ∀ r : Int, r = class_Toggle_F v.1 → K (.one (.v (.int .u8) r)) []
def class_Toggle_S : App := specW class_Toggle_A class_Toggle_C
theorem class_Toggle_wv (K : Res → List Cell → Prop) : ∀ v : valsA class_Toggle_A, runF tb (getG class_Toggle_G) [] Tryd.f34 [true] (mkA class_Toggle_A v) K = class_Toggle_raw v.1 K
  | (b0, ()) => class_Toggle_walk b0 K
set_option maxRecDepth 20000 in
theorem class_Toggle_ok : AppOk Tryd.prog 34 class_Toggle_S :=
  AppOk.specW (spec_ok ((runF_ok tb_M tb_ok class_Toggle_Gok (LabsOk.nil) (f := 34) (fn := Tryd.f34) (by kernel_rfl) (by kernel_rfl) (by kernel_rfl) [true])) fun v K hw h => (class_Toggle_wv K v).mpr (class_Toggle_sp v.1 K hw h))

end Go.VE
namespace Go.VE
open Go Go.Proofs
/-! ### (quoin/oper.job).turned -/
def tn_Toggle_G : List (Nat × App) := [(60, bytes_Clone_S), (34, class_Toggle_S), (64, oper_edited_S), (138, oj_stay_S)]
theorem tn_Toggle_Gok : GOk Tryd.prog (getG tn_Toggle_G) := GOk.cons bytes_Clone_ok (GOk.cons class_Toggle_ok (GOk.cons oper_edited_ok (GOk.cons oj_stay_ok (GOk.nil))))
theorem tn_Toggle_st : storesC (bodyOf Tryd.f109) = true := by kernel_rfl
def tn_Toggle_d0 : List LS := [.f 1 34 [], .b 2 16 [], .b 4 32 [], .o 6 53 5 (.int .u8), .o 19 53 5 (.int .u8), .v 20 (.int .i64), .v 21 (.int .i64), .c 16 JbT, .c 32 EfT]
def tn_Toggle_d0x0 : List LS := [.b 2 16 [], .b 4 32 [], .o 6 53 5 (.int .u8), .c 16 JbT, .c 32 EfT]
def tn_Toggle_dx0 : DX := ⟨none, none, [(0, tn_Toggle_d0x0)]⟩
def tn_Toggle_T0 (Y : List Int → List Int → Int → Int → JbD → EfD → Prop) (kx0 : List Int → JbD → EfD → Prop) (p6 : List Int) (x19 : List Int) (x20 : Int) (x21 : Int) (j2b : JbD) (x4b : EfD) : Prop :=
 bif (decide (x21 < x20)) then
 bif decide (0 ≤ x21 ∧ x21 < (List.length x19 : Int)) then
 ∀ (r2 : Int), r2 = class_Toggle_F (rd (0 : Int) x19 x21) → (
 wfR (.one (.v (.int .u8) r2)) → (
 bif decide (0 ≤ x21 ∧ x21 < (List.length p6 : Int)) then
 Y (List.set p6 (Int.toNat x21) r2) (List.set x19 (Int.toNat x21) r2) x20 (IntKind.wrap .i64 (x21 + (1 : Int))) j2b x4b
 else False))
 else False
 else
 kx0 p6 j2b x4b
def tn_Toggle_L0 (kx0 : List Int → JbD → EfD → Prop) : Nat → List Int → List Int → Int → Int → JbD → EfD → Prop
  | 0, _, _, _, _, _, _ => False
  | n + 1, p6, x19, x20, x21, j2b, x4b => wfD tn_Toggle_d0 (p6, x19, x20, x21, j2b, x4b, ()) → tn_Toggle_T0 (tn_Toggle_L0 kx0 n) kx0 p6 x19 x20 x21 j2b x4b
theorem tn_Toggle_s0 (k : Ex → St → Prop) (Y : vals tn_Toggle_d0 → Prop) (p6 : List Int) (x19 : List Int) (x20 : Int) (x21 : Int) (j2b : JbD) (x4b : EfD) :
    ex tb (getG tn_Toggle_G) [] (at' (bodyOf Tryd.f109) [0, 0, 1, 0, 1, 1]) [0, 0, 1, 0, 1, 1] (mkD 46 tn_Toggle_d0 (p6, x19, x20, x21, j2b, x4b, ())) (lpK 46 tn_Toggle_d0 tn_Toggle_dx0 k Y) =
    tn_Toggle_T0 (fun p6 x19 x20 x21 j2b x4b => Y (p6, x19, x20, x21, j2b, x4b, ())) (fun p6 j2b x4b => wfD tn_Toggle_d0x0 (p6, j2b, x4b, ()) → k (.exit 0) (mkD 46 tn_Toggle_d0x0 (p6, j2b, x4b, ()))) p6 x19 x20 x21 j2b x4b := by kernel_rfl
theorem tn_Toggle_e0 (k : Ex → St → Prop) : ∀ (n : Nat) (p6 : List Int) (x19 : List Int) (x20 : Int) (x21 : Int) (j2b : JbD) (x4b : EfD), lpD 46 tn_Toggle_d0 tn_Toggle_dx0 (ex tb (getG tn_Toggle_G) [] (at' (bodyOf Tryd.f109) [0, 0, 1, 0, 1, 1]) [0, 0, 1, 0, 1, 1]) k n (p6, x19, x20, x21, j2b, x4b, ()) = tn_Toggle_L0 (fun p6 j2b x4b => wfD tn_Toggle_d0x0 (p6, j2b, x4b, ()) → k (.exit 0) (mkD 46 tn_Toggle_d0x0 (p6, j2b, x4b, ()))) n p6 x19 x20 x21 j2b x4b
  | 0, _, _, _, _, _, _ => rfl
  | n + 1, p6, x19, x20, x21, j2b, x4b => congrArg (fun Z : Prop => wfD tn_Toggle_d0 (p6, x19, x20, x21, j2b, x4b, ()) → Z) ((tn_Toggle_s0 k (lpD 46 tn_Toggle_d0 tn_Toggle_dx0 (ex tb (getG tn_Toggle_G) [] (at' (bodyOf Tryd.f109) [0, 0, 1, 0, 1, 1]) [0, 0, 1, 0, 1, 1]) k n) p6 x19 x20 x21 j2b x4b).trans (congrArg (fun Y => tn_Toggle_T0 Y (fun p6 j2b x4b => wfD tn_Toggle_d0x0 (p6, j2b, x4b, ()) → k (.exit 0) (mkD 46 tn_Toggle_d0x0 (p6, j2b, x4b, ()))) p6 x19 x20 x21 j2b x4b) (funext fun p6 => funext fun x19 => funext fun x20 => funext fun x21 => funext fun j2b => funext fun x4b => tn_Toggle_e0 k n p6 x19 x20 x21 j2b x4b)))
theorem tn_Toggle_v0 (k : Ex → St → Prop) (n : Nat) : ∀ v : vals tn_Toggle_d0, lpD 46 tn_Toggle_d0 tn_Toggle_dx0 (ex tb (getG tn_Toggle_G) [] (at' (bodyOf Tryd.f109) [0, 0, 1, 0, 1, 1]) [0, 0, 1, 0, 1, 1]) k n v = tn_Toggle_L0 (fun p6 j2b x4b => wfD tn_Toggle_d0x0 (p6, j2b, x4b, ()) → k (.exit 0) (mkD 46 tn_Toggle_d0x0 (p6, j2b, x4b, ()))) n v.1 v.2.1 v.2.2.1 v.2.2.2.1 v.2.2.2.2.1 v.2.2.2.2.2.1
  | (p6, x19, x20, x21, j2b, x4b, ()) => tn_Toggle_e0 k n p6 x19 x20 x21 j2b x4b
def tn_Toggle_X0 : Pce := fun st k => ckD 46 tn_Toggle_d0 st fun v => wfD tn_Toggle_d0 v → ∃ n, tn_Toggle_L0 (fun p6 j2b x4b => wfD tn_Toggle_d0x0 (p6, j2b, x4b, ()) → k (.exit 0) (mkD 46 tn_Toggle_d0x0 (p6, j2b, x4b, ()))) n v.1 v.2.1 v.2.2.1 v.2.2.2.1 v.2.2.2.2.1 v.2.2.2.2.2.1
set_option maxRecDepth 20000 in
theorem tn_Toggle_x0 : SemOk Tryd.prog (at' (bodyOf Tryd.f109) [0, 1, 0, 1, 1]) tn_Toggle_X0 :=
  (SemOk.loop (ex_sound tb_M tb_ok tn_Toggle_Gok (LabsOk.nil) (at' (bodyOf Tryd.f109) [0, 0, 1, 0, 1, 1]) [0, 0, 1, 0, 1, 1] rfl (storesC_at tn_Toggle_st [0, 0, 1, 0, 1, 1])) 46 tn_Toggle_d0 tn_Toggle_dx0).mono fun st k h => ckD_mono h fun v hv hw => (hv hw).elim fun n hn => ⟨n, Eq.mpr (tn_Toggle_v0 k n v) hn⟩
def tn_Toggle_B0 : Labs := ([0, 1, 0, 1, 1], tn_Toggle_X0) :: []
theorem tn_Toggle_b0 : LabsOk Tryd.prog (bodyOf Tryd.f109) tn_Toggle_B0 := LabsOk.cons tn_Toggle_x0 (LabsOk.nil)
def tn_Toggle_raw (j0 : JbD) (f1 : Unit) (K : Res → List Cell → Prop) : Prop :=
 bif decide (0 ≤ j0.2.2.1.1 ∧ j0.2.2.1.1 ≤ j0.2.2.1.2.1 ∧ j0.2.2.1.2.1 ≤ (List.length j0.1 : Int)) then
 bytes_Clone_P (slc j0.1 j0.2.2.1.1 j0.2.2.1.2.1) ∧ (
 ∀ (r1 : List Int), r1 = bytes_Clone_F (slc j0.1 j0.2.2.1.1 j0.2.2.1.2.1) → (
 wfR (.one (.fr 5 (.int .u8) r1)) → (
 (wfD tn_Toggle_d0 (r1, r1, (List.length r1 : Int), (0 : Int), j0, (([] : List ((Int × List Int × List Int))), (0 : Int), (false, false, ([] : List Int)), (0 : Int), false), ()) → ∃ n, tn_Toggle_L0 (fun (p6 : List Int) (j2b : JbD) (x4b : EfD) => wfD tn_Toggle_d0x0 (p6, j2b, x4b, ()) → (
 oper_edited_P j2b.1 j2b.2.2.1.1 j2b.2.2.1.2.1 p6 ∧ (
 ∀ (r3 : List ((Int × List Int × List Int))), r3 = oper_edited_F j2b.1 j2b.2.2.1.1 j2b.2.2.1.2.1 p6 → (
 wfR (.one (.fr 95 (.st (.pair (.int .i64) (.pair (.sl (.int .u8)) (.sl (.int .u8))))) r3)) → (
 oj_stay_P j2b ∧ (
 ∀ (r4 : Int), r4 = oj_stay_F j2b → (
 wfR (.one (.v (.int .i64) r4)) → (
 K (.tup [.v EfT (r3, r4, (false, false, ([] : List Int)), (0 : Int), false), .v (.int .i64) (0 : Int)]) [])))))))) n r1 r1 (List.length r1 : Int) (0 : Int) j0 (([] : List ((Int × List Int × List Int))), (0 : Int), (false, false, ([] : List Int)), (0 : Int), false)))))
 else False
def tn_Toggle_A : List AS := [.v JbT, .f 34]
theorem tn_Toggle_walk (j0 : JbD) (f1 : Unit) (K : Res → List Cell → Prop) : runF tb (getG tn_Toggle_G) tn_Toggle_B0 Tryd.f109 [true, true] (mkA tn_Toggle_A (j0, f1, ())) K = tn_Toggle_raw j0 f1 K := by kernel_rfl
--! fns 1 class_Toggle class_Lower class_Upper
--! pre 1
def tn_Toggle_P (j : List Int × Int × (Int × Int × Bool × Bool) × Int × Int × Int) (_ : Unit) : Prop :=
 (0 ≤ j.2.2.1.1 ∧ j.2.2.1.1 ≤ j.2.2.1.2.1 ∧ j.2.2.1.2.1 ≤ (j.1.length : Int)) ∧ j.1.length ≤ 1099511627776 ∧ oper_edited_P j.1 j.2.2.1.1 j.2.2.1.2.1 ((slc j.1 j.2.2.1.1 j.2.2.1.2.1).map class_Toggle_F) ∧ oj_stay_P j
def tn_Toggle_F (j : List Int × Int × (Int × Int × Bool × Bool) × Int × Int × Int) (_ : Unit) : (List (Int × List Int × List Int) × Int × (Bool × Bool × List Int) × Int × Bool) × Int :=
 ((oper_edited_F j.1 j.2.2.1.1 j.2.2.1.2.1 ((slc j.1 j.2.2.1.1 j.2.2.1.2.1).map class_Toggle_F), oj_stay_F j, (false, false, []), 0, false), 0)
theorem tn_Toggle_l0 (kx : List Int → JbD → (List (Int × List Int × List Int) × Int × (Bool × Bool × List Int) × Int × Bool) → Prop) (s : List Int) (hl : s.length ≤ 1099511627776) (j x) (hx : kx (s.map class_Toggle_F) j x) :
    ∀ (m i : Nat), s.length < m + i → i ≤ s.length → tn_Toggle_L0 kx m ((s.take i).map class_Toggle_F ++ s.drop i) ((s.take i).map class_Toggle_F ++ s.drop i) (s.length : Int) (i : Int) j x
  | 0, i, h, h2 => by omega
  | m + 1, i, h, h2 => by
    intro _
    have hlen : ((s.take i).map class_Toggle_F ++ s.drop i).length = s.length := by
      rw [List.length_append, List.length_map, List.length_take, List.length_drop]; omega
    unfold tn_Toggle_T0
    refine brn (fun hlt => asrt ⟨by omega, by rw [hlen]; exact hlt⟩ fun r hr _ => asrt ⟨by omega, by rw [hlen]; exact hlt⟩ ?_) (fun hge => ?_)
    · have hi : i < s.length := by omega
      have hil : ((s.take i).map class_Toggle_F).length = i := by rw [List.length_map, List.length_take]; omega
      have e : rd (0 : Int) ((s.take i).map class_Toggle_F ++ s.drop i) (i : Int) = s[i] := by
        rw [rd_nat _ _ _ (by omega), List.getElem_append_right (by omega), List.getElem_drop]
        congr 1; omega
      rw [e] at hr
      subst hr
      have es : ((s.take i).map class_Toggle_F ++ s.drop i).set i (class_Toggle_F s[i]) = (s.take (i + 1)).map class_Toggle_F ++ s.drop (i + 1) := by
        have e2 : s.take (i + 1) = s.take i ++ [s[i]] := by rw [List.take_add_one, List.getElem?_eq_getElem hi]; rfl
        rw [List.set_append_right _ _ (by omega), hil, Nat.sub_self, List.drop_eq_getElem_cons hi, List.set_cons_zero, e2, List.map_append, List.append_assoc]
        rfl
      rw [Int.toNat_natCast, es, wrap_i64 (by omega) (by omega), show (i : Int) + 1 = ((i + 1 : Nat) : Int) by omega]
      exact tn_Toggle_l0 kx s hl j x hx m (i + 1) (by omega) (by omega)
    · obtain rfl : i = s.length := by omega
      rw [List.take_length, List.drop_length, List.append_nil]
      exact hx
theorem tn_Toggle_sp (j : List Int × Int × (Int × Int × Bool × Bool) × Int × Int × Int) (f : Unit) (K : Res → List Cell → Prop) (_ : wfA tn_Toggle_A (j, f, ())) (hp : tn_Toggle_P j f)
    (h : ∀ r : (List (Int × List Int × List Int) × Int × (Bool × Bool × List Int) × Int × Bool) × Int, r = tn_Toggle_F j f → K (.tup [.v EfT r.1, .v (.int .i64) r.2]) []) : tn_Toggle_raw j f K := by
  obtain ⟨h1, h2, h3, h4⟩ := hp
  have hs : (slc j.1 j.2.2.1.1 j.2.2.1.2.1).length ≤ j.1.length := by
    unfold slc; rw [List.length_drop, List.length_take]; omega
  unfold tn_Toggle_raw
  refine asrt h1 ⟨show _ ≤ lim by unfold lim; omega, fun r1 e1 _ => ?_⟩
  have e1 : r1 = slc j.1 j.2.2.1.1 j.2.2.1.2.1 := e1
  subst e1
  intro _
  refine ⟨_, tn_Toggle_l0 _ (slc j.1 j.2.2.1.1 j.2.2.1.2.1) (by omega) j _ ?_ ((slc j.1 j.2.2.1.1 j.2.2.1.2.1).length + 1) 0 (by omega) (Nat.zero_le _)⟩
  intro _
  refine ⟨h3, fun r3 e3 _ => ⟨h4, fun r4 e4 _ => ?_⟩⟩
  subst e3; subst e4
  exact h _ rfl

def tn_Toggle_C (v : valsA tn_Toggle_A) (K : Res → List Cell → Prop) : Prop := tn_Toggle_P v.1 v.2.1 ∧ ∀ r : EfD × Int, r = tn_Toggle_F v.1 v.2.1 → K (.tup [.v EfT r.1, .v (.int .i64) r.2]) []
def tn_Toggle_S : App := specW tn_Toggle_A tn_Toggle_C
theorem tn_Toggle_wv (K : Res → List Cell → Prop) : ∀ v : valsA tn_Toggle_A, runF tb (getG tn_Toggle_G) tn_Toggle_B0 Tryd.f109 [true, true] (mkA tn_Toggle_A v) K = tn_Toggle_raw v.1 v.2.1 K
  | (j0, f1, ()) => tn_Toggle_walk j0 f1 K
set_option maxRecDepth 20000 in
theorem tn_Toggle_ok : AppOk Tryd.prog 109 tn_Toggle_S :=
  AppOk.specW (spec_ok ((runF_ok tb_M tb_ok tn_Toggle_Gok (tn_Toggle_b0) (f := 109) (fn := Tryd.f109) (by kernel_rfl) (by kernel_rfl) tn_Toggle_st [true, true])) fun v K hw h => (tn_Toggle_wv K v).mpr (tn_Toggle_sp v.1 v.2.1 K hw h.1 h.2))
end Go.VE
namespace Go.VE
open Go Go.Proofs
/-! ### quoin/oper.operators$1 -/
def oo_1_G : List (Nat × App) := [(109, tn_Toggle_S)]
theorem oo_1_Gok : GOk Tryd.prog (getG oo_1_G) := GOk.cons tn_Toggle_ok (GOk.nil)
def oo_1_raw (j0 : JbD) (K : Res → List Cell → Prop) : Prop :=
 tn_Toggle_P j0 () ∧ (
 ∀ (r1 : EfD × Int), r1 = tn_Toggle_F j0 () → (
 wfR (.tup [.v EfT r1.1, .v (.int .i64) r1.2]) → (
 K (.tup [.v EfT r1.1, .v (.int .i64) r1.2]) [])))
def oo_1_A : List AS := [.v JbT]
theorem oo_1_walk (j0 : JbD) (K : Res → List Cell → Prop) : runF tb (getG oo_1_G) [] Tryd.f108 [true, true] (mkA oo_1_A (j0, ())) K = oo_1_raw j0 K := by kernel_rfl

def oo_1_P (j0 : JbD) : Prop :=
 tn_Toggle_P j0 ()
def oo_1_F (j0 : JbD) : EfD × Int :=
 let r1 : EfD × Int := tn_Toggle_F j0 ()
 (r1.1, r1.2)
set_option maxRecDepth 20000 in
theorem oo_1_sp (j0 : JbD) (K : Res → List Cell → Prop) (_ : wfA oo_1_A (j0, ())) (hp : oo_1_P j0) (h : ∀ r : EfD × Int, r = oo_1_F j0 → K (.tup [.v EfT r.1, .v (.int .i64) r.2]) []) : oo_1_raw j0 K := by
  unfold oo_1_raw
  unfold oo_1_P at hp
  refine ⟨hp, ?_⟩
  intro r1 hr1
  subst r1
  intro _
  exact h _ rfl
def oo_1_C (v : valsA oo_1_A) (K : Res → List Cell → Prop) : Prop := oo_1_P v.1 ∧ ∀ r : EfD × Int, r = oo_1_F v.1 → K (.tup [.v EfT r.1, .v (.int .i64) r.2]) []
def oo_1_S : App := specW oo_1_A oo_1_C
theorem oo_1_wv (K : Res → List Cell → Prop) : ∀ v : valsA oo_1_A, runF tb (getG oo_1_G) [] Tryd.f108 [true, true] (mkA oo_1_A v) K = oo_1_raw v.1 K
  | (j0, ()) => oo_1_walk j0 K
set_option maxRecDepth 20000 in
theorem oo_1_ok : AppOk Tryd.prog 108 oo_1_S :=
  AppOk.specW (spec_ok ((runF_ok tb_M tb_ok oo_1_Gok (LabsOk.nil) (f := 108) (fn := Tryd.f108) (by kernel_rfl) (by kernel_rfl) (by kernel_rfl) [true, true])) fun v K hw h => (oo_1_wv K v).mpr (oo_1_sp v.1 K hw h.1 h.2))

end Go.VE
namespace Go.VE
open Go Go.Proofs
/-! ### (quoin/oper.job).turned -/
def tn_Lower_G : List (Nat × App) := [(60, bytes_Clone_S), (32, class_Lower_S), (64, oper_edited_S), (138, oj_stay_S)]
theorem tn_Lower_Gok : GOk Tryd.prog (getG tn_Lower_G) := GOk.cons bytes_Clone_ok (GOk.cons class_Lower_ok (GOk.cons oper_edited_ok (GOk.cons oj_stay_ok (GOk.nil))))
theorem tn_Lower_st : storesC (bodyOf Tryd.f109) = true := by kernel_rfl
def tn_Lower_d0 : List LS := [.f 1 32 [], .b 2 16 [], .b 4 32 [], .o 6 53 5 (.int .u8), .o 19 53 5 (.int .u8), .v 20 (.int .i64), .v 21 (.int .i64), .c 16 JbT, .c 32 EfT]
def tn_Lower_d0x0 : List LS := [.b 2 16 [], .b 4 32 [], .o 6 53 5 (.int .u8), .c 16 JbT, .c 32 EfT]
def tn_Lower_dx0 : DX := ⟨none, none, [(0, tn_Lower_d0x0)]⟩
def tn_Lower_T0 (Y : List Int → List Int → Int → Int → JbD → EfD → Prop) (kx0 : List Int → JbD → EfD → Prop) (p6 : List Int) (x19 : List Int) (x20 : Int) (x21 : Int) (j2b : JbD) (x4b : EfD) : Prop :=
 bif (decide (x21 < x20)) then
 bif decide (0 ≤ x21 ∧ x21 < (List.length x19 : Int)) then
 ∀ (r2 : Int), r2 = class_Lower_F (rd (0 : Int) x19 x21) → (
 wfR (.one (.v (.int .u8) r2)) → (
 bif decide (0 ≤ x21 ∧ x21 < (List.length p6 : Int)) then
 Y (List.set p6 (Int.toNat x21) r2) (List.set x19 (Int.toNat x21) r2) x20 (IntKind.wrap .i64 (x21 + (1 : Int))) j2b x4b
 else False))
 else False
 else
 kx0 p6 j2b x4b
def tn_Lower_L0 (kx0 : List Int → JbD → EfD → Prop) : Nat → List Int → List Int → Int → Int → JbD → EfD → Prop
  | 0, _, _, _, _, _, _ => False
  | n + 1, p6, x19, x20, x21, j2b, x4b => wfD tn_Lower_d0 (p6, x19, x20, x21, j2b, x4b, ()) → tn_Lower_T0 (tn_Lower_L0 kx0 n) kx0 p6 x19 x20 x21 j2b x4b
theorem tn_Lower_s0 (k : Ex → St → Prop) (Y : vals tn_Lower_d0 → Prop) (p6 : List Int) (x19 : List Int) (x20 : Int) (x21 : Int) (j2b : JbD) (x4b : EfD) :
    ex tb (getG tn_Lower_G) [] (at' (bodyOf Tryd.f109) [0, 0, 1, 0, 1, 1]) [0, 0, 1, 0, 1, 1] (mkD 46 tn_Lower_d0 (p6, x19, x20, x21, j2b, x4b, ())) (lpK 46 tn_Lower_d0 tn_Lower_dx0 k Y) =
    tn_Lower_T0 (fun p6 x19 x20 x21 j2b x4b => Y (p6, x19, x20, x21, j2b, x4b, ())) (fun p6 j2b x4b => wfD tn_Lower_d0x0 (p6, j2b, x4b, ()) → k (.exit 0) (mkD 46 tn_Lower_d0x0 (p6, j2b, x4b, ()))) p6 x19 x20 x21 j2b x4b := by kernel_rfl
theorem tn_Lower_e0 (k : Ex → St → Prop) : ∀ (n : Nat) (p6 : List Int) (x19 : List Int) (x20 : Int) (x21 : Int) (j2b : JbD) (x4b : EfD), lpD 46 tn_Lower_d0 tn_Lower_dx0 (ex tb (getG tn_Lower_G) [] (at' (bodyOf Tryd.f109) [0, 0, 1, 0, 1, 1]) [0, 0, 1, 0, 1, 1]) k n (p6, x19, x20, x21, j2b, x4b, ()) = tn_Lower_L0 (fun p6 j2b x4b => wfD tn_Lower_d0x0 (p6, j2b, x4b, ()) → k (.exit 0) (mkD 46 tn_Lower_d0x0 (p6, j2b, x4b, ()))) n p6 x19 x20 x21 j2b x4b
  | 0, _, _, _, _, _, _ => rfl
  | n + 1, p6, x19, x20, x21, j2b, x4b => congrArg (fun Z : Prop => wfD tn_Lower_d0 (p6, x19, x20, x21, j2b, x4b, ()) → Z) ((tn_Lower_s0 k (lpD 46 tn_Lower_d0 tn_Lower_dx0 (ex tb (getG tn_Lower_G) [] (at' (bodyOf Tryd.f109) [0, 0, 1, 0, 1, 1]) [0, 0, 1, 0, 1, 1]) k n) p6 x19 x20 x21 j2b x4b).trans (congrArg (fun Y => tn_Lower_T0 Y (fun p6 j2b x4b => wfD tn_Lower_d0x0 (p6, j2b, x4b, ()) → k (.exit 0) (mkD 46 tn_Lower_d0x0 (p6, j2b, x4b, ()))) p6 x19 x20 x21 j2b x4b) (funext fun p6 => funext fun x19 => funext fun x20 => funext fun x21 => funext fun j2b => funext fun x4b => tn_Lower_e0 k n p6 x19 x20 x21 j2b x4b)))
theorem tn_Lower_v0 (k : Ex → St → Prop) (n : Nat) : ∀ v : vals tn_Lower_d0, lpD 46 tn_Lower_d0 tn_Lower_dx0 (ex tb (getG tn_Lower_G) [] (at' (bodyOf Tryd.f109) [0, 0, 1, 0, 1, 1]) [0, 0, 1, 0, 1, 1]) k n v = tn_Lower_L0 (fun p6 j2b x4b => wfD tn_Lower_d0x0 (p6, j2b, x4b, ()) → k (.exit 0) (mkD 46 tn_Lower_d0x0 (p6, j2b, x4b, ()))) n v.1 v.2.1 v.2.2.1 v.2.2.2.1 v.2.2.2.2.1 v.2.2.2.2.2.1
  | (p6, x19, x20, x21, j2b, x4b, ()) => tn_Lower_e0 k n p6 x19 x20 x21 j2b x4b
def tn_Lower_X0 : Pce := fun st k => ckD 46 tn_Lower_d0 st fun v => wfD tn_Lower_d0 v → ∃ n, tn_Lower_L0 (fun p6 j2b x4b => wfD tn_Lower_d0x0 (p6, j2b, x4b, ()) → k (.exit 0) (mkD 46 tn_Lower_d0x0 (p6, j2b, x4b, ()))) n v.1 v.2.1 v.2.2.1 v.2.2.2.1 v.2.2.2.2.1 v.2.2.2.2.2.1
set_option maxRecDepth 20000 in
theorem tn_Lower_x0 : SemOk Tryd.prog (at' (bodyOf Tryd.f109) [0, 1, 0, 1, 1]) tn_Lower_X0 :=
  (SemOk.loop (ex_sound tb_M tb_ok tn_Lower_Gok (LabsOk.nil) (at' (bodyOf Tryd.f109) [0, 0, 1, 0, 1, 1]) [0, 0, 1, 0, 1, 1] rfl (storesC_at tn_Lower_st [0, 0, 1, 0, 1, 1])) 46 tn_Lower_d0 tn_Lower_dx0).mono fun st k h => ckD_mono h fun v hv hw => (hv hw).elim fun n hn => ⟨n, Eq.mpr (tn_Lower_v0 k n v) hn⟩
def tn_Lower_B0 : Labs := ([0, 1, 0, 1, 1], tn_Lower_X0) :: []
theorem tn_Lower_b0 : LabsOk Tryd.prog (bodyOf Tryd.f109) tn_Lower_B0 := LabsOk.cons tn_Lower_x0 (LabsOk.nil)
def tn_Lower_raw (j0 : JbD) (f1 : Unit) (K : Res → List Cell → Prop) : Prop :=
 bif decide (0 ≤ j0.2.2.1.1 ∧ j0.2.2.1.1 ≤ j0.2.2.1.2.1 ∧ j0.2.2.1.2.1 ≤ (List.length j0.1 : Int)) then
 bytes_Clone_P (slc j0.1 j0.2.2.1.1 j0.2.2.1.2.1) ∧ (
 ∀ (r1 : List Int), r1 = bytes_Clone_F (slc j0.1 j0.2.2.1.1 j0.2.2.1.2.1) → (
 wfR (.one (.fr 5 (.int .u8) r1)) → (
 (wfD tn_Lower_d0 (r1, r1, (List.length r1 : Int), (0 : Int), j0, (([] : List ((Int × List Int × List Int))), (0 : Int), (false, false, ([] : List Int)), (0 : Int), false), ()) → ∃ n, tn_Lower_L0 (fun (p6 : List Int) (j2b : JbD) (x4b : EfD) => wfD tn_Lower_d0x0 (p6, j2b, x4b, ()) → (
 oper_edited_P j2b.1 j2b.2.2.1.1 j2b.2.2.1.2.1 p6 ∧ (
 ∀ (r3 : List ((Int × List Int × List Int))), r3 = oper_edited_F j2b.1 j2b.2.2.1.1 j2b.2.2.1.2.1 p6 → (
 wfR (.one (.fr 95 (.st (.pair (.int .i64) (.pair (.sl (.int .u8)) (.sl (.int .u8))))) r3)) → (
 oj_stay_P j2b ∧ (
 ∀ (r4 : Int), r4 = oj_stay_F j2b → (
 wfR (.one (.v (.int .i64) r4)) → (
 K (.tup [.v EfT (r3, r4, (false, false, ([] : List Int)), (0 : Int), false), .v (.int .i64) (0 : Int)]) [])))))))) n r1 r1 (List.length r1 : Int) (0 : Int) j0 (([] : List ((Int × List Int × List Int))), (0 : Int), (false, false, ([] : List Int)), (0 : Int), false)))))
 else False
def tn_Lower_A : List AS := [.v JbT, .f 32]
theorem tn_Lower_walk (j0 : JbD) (f1 : Unit) (K : Res → List Cell → Prop) : runF tb (getG tn_Lower_G) tn_Lower_B0 Tryd.f109 [true, true] (mkA tn_Lower_A (j0, f1, ())) K = tn_Lower_raw j0 f1 K := by kernel_rfl
--! fns 1 class_Toggle class_Lower class_Upper
--! pre 1
def tn_Lower_P (j : List Int × Int × (Int × Int × Bool × Bool) × Int × Int × Int) (_ : Unit) : Prop :=
 (0 ≤ j.2.2.1.1 ∧ j.2.2.1.1 ≤ j.2.2.1.2.1 ∧ j.2.2.1.2.1 ≤ (j.1.length : Int)) ∧ j.1.length ≤ 1099511627776 ∧ oper_edited_P j.1 j.2.2.1.1 j.2.2.1.2.1 ((slc j.1 j.2.2.1.1 j.2.2.1.2.1).map class_Lower_F) ∧ oj_stay_P j
def tn_Lower_F (j : List Int × Int × (Int × Int × Bool × Bool) × Int × Int × Int) (_ : Unit) : (List (Int × List Int × List Int) × Int × (Bool × Bool × List Int) × Int × Bool) × Int :=
 ((oper_edited_F j.1 j.2.2.1.1 j.2.2.1.2.1 ((slc j.1 j.2.2.1.1 j.2.2.1.2.1).map class_Lower_F), oj_stay_F j, (false, false, []), 0, false), 0)
theorem tn_Lower_l0 (kx : List Int → JbD → (List (Int × List Int × List Int) × Int × (Bool × Bool × List Int) × Int × Bool) → Prop) (s : List Int) (hl : s.length ≤ 1099511627776) (j x) (hx : kx (s.map class_Lower_F) j x) :
    ∀ (m i : Nat), s.length < m + i → i ≤ s.length → tn_Lower_L0 kx m ((s.take i).map class_Lower_F ++ s.drop i) ((s.take i).map class_Lower_F ++ s.drop i) (s.length : Int) (i : Int) j x
  | 0, i, h, h2 => by omega
  | m + 1, i, h, h2 => by
    intro _
    have hlen : ((s.take i).map class_Lower_F ++ s.drop i).length = s.length := by
      rw [List.length_append, List.length_map, List.length_take, List.length_drop]; omega
    unfold tn_Lower_T0
    refine brn (fun hlt => asrt ⟨by omega, by rw [hlen]; exact hlt⟩ fun r hr _ => asrt ⟨by omega, by rw [hlen]; exact hlt⟩ ?_) (fun hge => ?_)
    · have hi : i < s.length := by omega
      have hil : ((s.take i).map class_Lower_F).length = i := by rw [List.length_map, List.length_take]; omega
      have e : rd (0 : Int) ((s.take i).map class_Lower_F ++ s.drop i) (i : Int) = s[i] := by
        rw [rd_nat _ _ _ (by omega), List.getElem_append_right (by omega), List.getElem_drop]
        congr 1; omega
      rw [e] at hr
      subst hr
      have es : ((s.take i).map class_Lower_F ++ s.drop i).set i (class_Lower_F s[i]) = (s.take (i + 1)).map class_Lower_F ++ s.drop (i + 1) := by
        have e2 : s.take (i + 1) = s.take i ++ [s[i]] := by rw [List.take_add_one, List.getElem?_eq_getElem hi]; rfl
        rw [List.set_append_right _ _ (by omega), hil, Nat.sub_self, List.drop_eq_getElem_cons hi, List.set_cons_zero, e2, List.map_append, List.append_assoc]
        rfl
      rw [Int.toNat_natCast, es, wrap_i64 (by omega) (by omega), show (i : Int) + 1 = ((i + 1 : Nat) : Int) by omega]
      exact tn_Lower_l0 kx s hl j x hx m (i + 1) (by omega) (by omega)
    · obtain rfl : i = s.length := by omega
      rw [List.take_length, List.drop_length, List.append_nil]
      exact hx
theorem tn_Lower_sp (j : List Int × Int × (Int × Int × Bool × Bool) × Int × Int × Int) (f : Unit) (K : Res → List Cell → Prop) (_ : wfA tn_Lower_A (j, f, ())) (hp : tn_Lower_P j f)
    (h : ∀ r : (List (Int × List Int × List Int) × Int × (Bool × Bool × List Int) × Int × Bool) × Int, r = tn_Lower_F j f → K (.tup [.v EfT r.1, .v (.int .i64) r.2]) []) : tn_Lower_raw j f K := by
  obtain ⟨h1, h2, h3, h4⟩ := hp
  have hs : (slc j.1 j.2.2.1.1 j.2.2.1.2.1).length ≤ j.1.length := by
    unfold slc; rw [List.length_drop, List.length_take]; omega
  unfold tn_Lower_raw
  refine asrt h1 ⟨show _ ≤ lim by unfold lim; omega, fun r1 e1 _ => ?_⟩
  have e1 : r1 = slc j.1 j.2.2.1.1 j.2.2.1.2.1 := e1
  subst e1
  intro _
  refine ⟨_, tn_Lower_l0 _ (slc j.1 j.2.2.1.1 j.2.2.1.2.1) (by omega) j _ ?_ ((slc j.1 j.2.2.1.1 j.2.2.1.2.1).length + 1) 0 (by omega) (Nat.zero_le _)⟩
  intro _
  refine ⟨h3, fun r3 e3 _ => ⟨h4, fun r4 e4 _ => ?_⟩⟩
  subst e3; subst e4
  exact h _ rfl

def tn_Lower_C (v : valsA tn_Lower_A) (K : Res → List Cell → Prop) : Prop := tn_Lower_P v.1 v.2.1 ∧ ∀ r : EfD × Int, r = tn_Lower_F v.1 v.2.1 → K (.tup [.v EfT r.1, .v (.int .i64) r.2]) []
def tn_Lower_S : App := specW tn_Lower_A tn_Lower_C
theorem tn_Lower_wv (K : Res → List Cell → Prop) : ∀ v : valsA tn_Lower_A, runF tb (getG tn_Lower_G) tn_Lower_B0 Tryd.f109 [true, true] (mkA tn_Lower_A v) K = tn_Lower_raw v.1 v.2.1 K
  | (j0, f1, ()) => tn_Lower_walk j0 f1 K
set_option maxRecDepth 20000 in
theorem tn_Lower_ok : AppOk Tryd.prog 109 tn_Lower_S :=
  AppOk.specW (spec_ok ((runF_ok tb_M tb_ok tn_Lower_Gok (tn_Lower_b0) (f := 109) (fn := Tryd.f109) (by kernel_rfl) (by kernel_rfl) tn_Lower_st [true, true])) fun v K hw h => (tn_Lower_wv K v).mpr (tn_Lower_sp v.1 v.2.1 K hw h.1 h.2))
end Go.VE
namespace Go.VE
open Go Go.Proofs
/-! ### quoin/oper.operators$2 -/
def oo_2_G : List (Nat × App) := [(109, tn_Lower_S)]
theorem oo_2_Gok : GOk Tryd.prog (getG oo_2_G) := GOk.cons tn_Lower_ok (GOk.nil)
def oo_2_raw (j0 : JbD) (K : Res → List Cell → Prop) : Prop :=
 tn_Lower_P j0 () ∧ (
 ∀ (r1 : EfD × Int), r1 = tn_Lower_F j0 () → (
 wfR (.tup [.v EfT r1.1, .v (.int .i64) r1.2]) → (
 K (.tup [.v EfT r1.1, .v (.int .i64) r1.2]) [])))
def oo_2_A : List AS := [.v JbT]
theorem oo_2_walk (j0 : JbD) (K : Res → List Cell → Prop) : runF tb (getG oo_2_G) [] Tryd.f110 [true, true] (mkA oo_2_A (j0, ())) K = oo_2_raw j0 K := by kernel_rfl

def oo_2_P (j0 : JbD) : Prop :=
 tn_Lower_P j0 ()
def oo_2_F (j0 : JbD) : EfD × Int :=
 let r1 : EfD × Int := tn_Lower_F j0 ()
 (r1.1, r1.2)
set_option maxRecDepth 20000 in
theorem oo_2_sp (j0 : JbD) (K : Res → List Cell → Prop) (_ : wfA oo_2_A (j0, ())) (hp : oo_2_P j0) (h : ∀ r : EfD × Int, r = oo_2_F j0 → K (.tup [.v EfT r.1, .v (.int .i64) r.2]) []) : oo_2_raw j0 K := by
  unfold oo_2_raw
  unfold oo_2_P at hp
  refine ⟨hp, ?_⟩
  intro r1 hr1
  subst r1
  intro _
  exact h _ rfl
def oo_2_C (v : valsA oo_2_A) (K : Res → List Cell → Prop) : Prop := oo_2_P v.1 ∧ ∀ r : EfD × Int, r = oo_2_F v.1 → K (.tup [.v EfT r.1, .v (.int .i64) r.2]) []
def oo_2_S : App := specW oo_2_A oo_2_C
theorem oo_2_wv (K : Res → List Cell → Prop) : ∀ v : valsA oo_2_A, runF tb (getG oo_2_G) [] Tryd.f110 [true, true] (mkA oo_2_A v) K = oo_2_raw v.1 K
  | (j0, ()) => oo_2_walk j0 K
set_option maxRecDepth 20000 in
theorem oo_2_ok : AppOk Tryd.prog 110 oo_2_S :=
  AppOk.specW (spec_ok ((runF_ok tb_M tb_ok oo_2_Gok (LabsOk.nil) (f := 110) (fn := Tryd.f110) (by kernel_rfl) (by kernel_rfl) (by kernel_rfl) [true, true])) fun v K hw h => (oo_2_wv K v).mpr (oo_2_sp v.1 K hw h.1 h.2))

end Go.VE
namespace Go.VE
open Go Go.Proofs
/-! ### (quoin/oper.job).turned -/
def tn_Upper_G : List (Nat × App) := [(60, bytes_Clone_S), (33, class_Upper_S), (64, oper_edited_S), (138, oj_stay_S)]
theorem tn_Upper_Gok : GOk Tryd.prog (getG tn_Upper_G) := GOk.cons bytes_Clone_ok (GOk.cons class_Upper_ok (GOk.cons oper_edited_ok (GOk.cons oj_stay_ok (GOk.nil))))
theorem tn_Upper_st : storesC (bodyOf Tryd.f109) = true := by kernel_rfl
def tn_Upper_d0 : List LS := [.f 1 33 [], .b 2 16 [], .b 4 32 [], .o 6 53 5 (.int .u8), .o 19 53 5 (.int .u8), .v 20 (.int .i64), .v 21 (.int .i64), .c 16 JbT, .c 32 EfT]
def tn_Upper_d0x0 : List LS := [.b 2 16 [], .b 4 32 [], .o 6 53 5 (.int .u8), .c 16 JbT, .c 32 EfT]
def tn_Upper_dx0 : DX := ⟨none, none, [(0, tn_Upper_d0x0)]⟩
def tn_Upper_T0 (Y : List Int → List Int → Int → Int → JbD → EfD → Prop) (kx0 : List Int → JbD → EfD → Prop) (p6 : List Int) (x19 : List Int) (x20 : Int) (x21 : Int) (j2b : JbD) (x4b : EfD) : Prop :=
 bif (decide (x21 < x20)) then
 bif decide (0 ≤ x21 ∧ x21 < (List.length x19 : Int)) then
 ∀ (r2 : Int), r2 = class_Upper_F (rd (0 : Int) x19 x21) → (
 wfR (.one (.v (.int .u8) r2)) → (
 bif decide (0 ≤ x21 ∧ x21 < (List.length p6 : Int)) then
 Y (List.set p6 (Int.toNat x21) r2) (List.set x19 (Int.toNat x21) r2) x20 (IntKind.wrap .i64 (x21 + (1 : Int))) j2b x4b
 else False))
 else False
 else
 kx0 p6 j2b x4b
def tn_Upper_L0 (kx0 : List Int → JbD → EfD → Prop) : Nat → List Int → List Int → Int → Int → JbD → EfD → Prop
  | 0, _, _, _, _, _, _ => False
  | n + 1, p6, x19, x20, x21, j2b, x4b => wfD tn_Upper_d0 (p6, x19, x20, x21, j2b, x4b, ()) → tn_Upper_T0 (tn_Upper_L0 kx0 n) kx0 p6 x19 x20 x21 j2b x4b
theorem tn_Upper_s0 (k : Ex → St → Prop) (Y : vals tn_Upper_d0 → Prop) (p6 : List Int) (x19 : List Int) (x20 : Int) (x21 : Int) (j2b : JbD) (x4b : EfD) :
    ex tb (getG tn_Upper_G) [] (at' (bodyOf Tryd.f109) [0, 0, 1, 0, 1, 1]) [0, 0, 1, 0, 1, 1] (mkD 46 tn_Upper_d0 (p6, x19, x20, x21, j2b, x4b, ())) (lpK 46 tn_Upper_d0 tn_Upper_dx0 k Y) =
    tn_Upper_T0 (fun p6 x19 x20 x21 j2b x4b => Y (p6, x19, x20, x21, j2b, x4b, ())) (fun p6 j2b x4b => wfD tn_Upper_d0x0 (p6, j2b, x4b, ()) → k (.exit 0) (mkD 46 tn_Upper_d0x0 (p6, j2b, x4b, ()))) p6 x19 x20 x21 j2b x4b := by kernel_rfl
theorem tn_Upper_e0 (k : Ex → St → Prop) : ∀ (n : Nat) (p6 : List Int) (x19 : List Int) (x20 : Int) (x21 : Int) (j2b : JbD) (x4b : EfD), lpD 46 tn_Upper_d0 tn_Upper_dx0 (ex tb (getG tn_Upper_G) [] (at' (bodyOf Tryd.f109) [0, 0, 1, 0, 1, 1]) [0, 0, 1, 0, 1, 1]) k n (p6, x19, x20, x21, j2b, x4b, ()) = tn_Upper_L0 (fun p6 j2b x4b => wfD tn_Upper_d0x0 (p6, j2b, x4b, ()) → k (.exit 0) (mkD 46 tn_Upper_d0x0 (p6, j2b, x4b, ()))) n p6 x19 x20 x21 j2b x4b
  | 0, _, _, _, _, _, _ => rfl
  | n + 1, p6, x19, x20, x21, j2b, x4b => congrArg (fun Z : Prop => wfD tn_Upper_d0 (p6, x19, x20, x21, j2b, x4b, ()) → Z) ((tn_Upper_s0 k (lpD 46 tn_Upper_d0 tn_Upper_dx0 (ex tb (getG tn_Upper_G) [] (at' (bodyOf Tryd.f109) [0, 0, 1, 0, 1, 1]) [0, 0, 1, 0, 1, 1]) k n) p6 x19 x20 x21 j2b x4b).trans (congrArg (fun Y => tn_Upper_T0 Y (fun p6 j2b x4b => wfD tn_Upper_d0x0 (p6, j2b, x4b, ()) → k (.exit 0) (mkD 46 tn_Upper_d0x0 (p6, j2b, x4b, ()))) p6 x19 x20 x21 j2b x4b) (funext fun p6 => funext fun x19 => funext fun x20 => funext fun x21 => funext fun j2b => funext fun x4b => tn_Upper_e0 k n p6 x19 x20 x21 j2b x4b)))
theorem tn_Upper_v0 (k : Ex → St → Prop) (n : Nat) : ∀ v : vals tn_Upper_d0, lpD 46 tn_Upper_d0 tn_Upper_dx0 (ex tb (getG tn_Upper_G) [] (at' (bodyOf Tryd.f109) [0, 0, 1, 0, 1, 1]) [0, 0, 1, 0, 1, 1]) k n v = tn_Upper_L0 (fun p6 j2b x4b => wfD tn_Upper_d0x0 (p6, j2b, x4b, ()) → k (.exit 0) (mkD 46 tn_Upper_d0x0 (p6, j2b, x4b, ()))) n v.1 v.2.1 v.2.2.1 v.2.2.2.1 v.2.2.2.2.1 v.2.2.2.2.2.1
  | (p6, x19, x20, x21, j2b, x4b, ()) => tn_Upper_e0 k n p6 x19 x20 x21 j2b x4b
def tn_Upper_X0 : Pce := fun st k => ckD 46 tn_Upper_d0 st fun v => wfD tn_Upper_d0 v → ∃ n, tn_Upper_L0 (fun p6 j2b x4b => wfD tn_Upper_d0x0 (p6, j2b, x4b, ()) → k (.exit 0) (mkD 46 tn_Upper_d0x0 (p6, j2b, x4b, ()))) n v.1 v.2.1 v.2.2.1 v.2.2.2.1 v.2.2.2.2.1 v.2.2.2.2.2.1
set_option maxRecDepth 20000 in
theorem tn_Upper_x0 : SemOk Tryd.prog (at' (bodyOf Tryd.f109) [0, 1, 0, 1, 1]) tn_Upper_X0 :=
  (SemOk.loop (ex_sound tb_M tb_ok tn_Upper_Gok (LabsOk.nil) (at' (bodyOf Tryd.f109) [0, 0, 1, 0, 1, 1]) [0, 0, 1, 0, 1, 1] rfl (storesC_at tn_Upper_st [0, 0, 1, 0, 1, 1])) 46 tn_Upper_d0 tn_Upper_dx0).mono fun st k h => ckD_mono h fun v hv hw => (hv hw).elim fun n hn => ⟨n, Eq.mpr (tn_Upper_v0 k n v) hn⟩
def tn_Upper_B0 : Labs := ([0, 1, 0, 1, 1], tn_Upper_X0) :: []
theorem tn_Upper_b0 : LabsOk Tryd.prog (bodyOf Tryd.f109) tn_Upper_B0 := LabsOk.cons tn_Upper_x0 (LabsOk.nil)
def tn_Upper_raw (j0 : JbD) (f1 : Unit) (K : Res → List Cell → Prop) : Prop :=
 bif decide (0 ≤ j0.2.2.1.1 ∧ j0.2.2.1.1 ≤ j0.2.2.1.2.1 ∧ j0.2.2.1.2.1 ≤ (List.length j0.1 : Int)) then
 bytes_Clone_P (slc j0.1 j0.2.2.1.1 j0.2.2.1.2.1) ∧ (
 ∀ (r1 : List Int), r1 = bytes_Clone_F (slc j0.1 j0.2.2.1.1 j0.2.2.1.2.1) → (
 wfR (.one (.fr 5 (.int .u8) r1)) → (
 (wfD tn_Upper_d0 (r1, r1, (List.length r1 : Int), (0 : Int), j0, (([] : List ((Int × List Int × List Int))), (0 : Int), (false, false, ([] : List Int)), (0 : Int), false), ()) → ∃ n, tn_Upper_L0 (fun (p6 : List Int) (j2b : JbD) (x4b : EfD) => wfD tn_Upper_d0x0 (p6, j2b, x4b, ()) → (
 oper_edited_P j2b.1 j2b.2.2.1.1 j2b.2.2.1.2.1 p6 ∧ (
 ∀ (r3 : List ((Int × List Int × List Int))), r3 = oper_edited_F j2b.1 j2b.2.2.1.1 j2b.2.2.1.2.1 p6 → (
 wfR (.one (.fr 95 (.st (.pair (.int .i64) (.pair (.sl (.int .u8)) (.sl (.int .u8))))) r3)) → (
 oj_stay_P j2b ∧ (
 ∀ (r4 : Int), r4 = oj_stay_F j2b → (
 wfR (.one (.v (.int .i64) r4)) → (
 K (.tup [.v EfT (r3, r4, (false, false, ([] : List Int)), (0 : Int), false), .v (.int .i64) (0 : Int)]) [])))))))) n r1 r1 (List.length r1 : Int) (0 : Int) j0 (([] : List ((Int × List Int × List Int))), (0 : Int), (false, false, ([] : List Int)), (0 : Int), false)))))
 else False
def tn_Upper_A : List AS := [.v JbT, .f 33]
theorem tn_Upper_walk (j0 : JbD) (f1 : Unit) (K : Res → List Cell → Prop) : runF tb (getG tn_Upper_G) tn_Upper_B0 Tryd.f109 [true, true] (mkA tn_Upper_A (j0, f1, ())) K = tn_Upper_raw j0 f1 K := by kernel_rfl
--! fns 1 class_Toggle class_Lower class_Upper
--! pre 1
def tn_Upper_P (j : List Int × Int × (Int × Int × Bool × Bool) × Int × Int × Int) (_ : Unit) : Prop :=
 (0 ≤ j.2.2.1.1 ∧ j.2.2.1.1 ≤ j.2.2.1.2.1 ∧ j.2.2.1.2.1 ≤ (j.1.length : Int)) ∧ j.1.length ≤ 1099511627776 ∧ oper_edited_P j.1 j.2.2.1.1 j.2.2.1.2.1 ((slc j.1 j.2.2.1.1 j.2.2.1.2.1).map class_Upper_F) ∧ oj_stay_P j
def tn_Upper_F (j : List Int × Int × (Int × Int × Bool × Bool) × Int × Int × Int) (_ : Unit) : (List (Int × List Int × List Int) × Int × (Bool × Bool × List Int) × Int × Bool) × Int :=
 ((oper_edited_F j.1 j.2.2.1.1 j.2.2.1.2.1 ((slc j.1 j.2.2.1.1 j.2.2.1.2.1).map class_Upper_F), oj_stay_F j, (false, false, []), 0, false), 0)
theorem tn_Upper_l0 (kx : List Int → JbD → (List (Int × List Int × List Int) × Int × (Bool × Bool × List Int) × Int × Bool) → Prop) (s : List Int) (hl : s.length ≤ 1099511627776) (j x) (hx : kx (s.map class_Upper_F) j x) :
    ∀ (m i : Nat), s.length < m + i → i ≤ s.length → tn_Upper_L0 kx m ((s.take i).map class_Upper_F ++ s.drop i) ((s.take i).map class_Upper_F ++ s.drop i) (s.length : Int) (i : Int) j x
  | 0, i, h, h2 => by omega
  | m + 1, i, h, h2 => by
    intro _
    have hlen : ((s.take i).map class_Upper_F ++ s.drop i).length = s.length := by
      rw [List.length_append, List.length_map, List.length_take, List.length_drop]; omega
    unfold tn_Upper_T0
    refine brn (fun hlt => asrt ⟨by omega, by rw [hlen]; exact hlt⟩ fun r hr _ => asrt ⟨by omega, by rw [hlen]; exact hlt⟩ ?_) (fun hge => ?_)
    · have hi : i < s.length := by omega
      have hil : ((s.take i).map class_Upper_F).length = i := by rw [List.length_map, List.length_take]; omega
      have e : rd (0 : Int) ((s.take i).map class_Upper_F ++ s.drop i) (i : Int) = s[i] := by
        rw [rd_nat _ _ _ (by omega), List.getElem_append_right (by omega), List.getElem_drop]
        congr 1; omega
      rw [e] at hr
      subst hr
      have es : ((s.take i).map class_Upper_F ++ s.drop i).set i (class_Upper_F s[i]) = (s.take (i + 1)).map class_Upper_F ++ s.drop (i + 1) := by
        have e2 : s.take (i + 1) = s.take i ++ [s[i]] := by rw [List.take_add_one, List.getElem?_eq_getElem hi]; rfl
        rw [List.set_append_right _ _ (by omega), hil, Nat.sub_self, List.drop_eq_getElem_cons hi, List.set_cons_zero, e2, List.map_append, List.append_assoc]
        rfl
      rw [Int.toNat_natCast, es, wrap_i64 (by omega) (by omega), show (i : Int) + 1 = ((i + 1 : Nat) : Int) by omega]
      exact tn_Upper_l0 kx s hl j x hx m (i + 1) (by omega) (by omega)
    · obtain rfl : i = s.length := by omega
      rw [List.take_length, List.drop_length, List.append_nil]
      exact hx
theorem tn_Upper_sp (j : List Int × Int × (Int × Int × Bool × Bool) × Int × Int × Int) (f : Unit) (K : Res → List Cell → Prop) (_ : wfA tn_Upper_A (j, f, ())) (hp : tn_Upper_P j f)
    (h : ∀ r : (List (Int × List Int × List Int) × Int × (Bool × Bool × List Int) × Int × Bool) × Int, r = tn_Upper_F j f → K (.tup [.v EfT r.1, .v (.int .i64) r.2]) []) : tn_Upper_raw j f K := by
  obtain ⟨h1, h2, h3, h4⟩ := hp
  have hs : (slc j.1 j.2.2.1.1 j.2.2.1.2.1).length ≤ j.1.length := by
    unfold slc; rw [List.length_drop, List.length_take]; omega
  unfold tn_Upper_raw
  refine asrt h1 ⟨show _ ≤ lim by unfold lim; omega, fun r1 e1 _ => ?_⟩
  have e1 : r1 = slc j.1 j.2.2.1.1 j.2.2.1.2.1 := e1
  subst e1
  intro _
  refine ⟨_, tn_Upper_l0 _ (slc j.1 j.2.2.1.1 j.2.2.1.2.1) (by omega) j _ ?_ ((slc j.1 j.2.2.1.1 j.2.2.1.2.1).length + 1) 0 (by omega) (Nat.zero_le _)⟩
  intro _
  refine ⟨h3, fun r3 e3 _ => ⟨h4, fun r4 e4 _ => ?_⟩⟩
  subst e3; subst e4
  exact h _ rfl

def tn_Upper_C (v : valsA tn_Upper_A) (K : Res → List Cell → Prop) : Prop := tn_Upper_P v.1 v.2.1 ∧ ∀ r : EfD × Int, r = tn_Upper_F v.1 v.2.1 → K (.tup [.v EfT r.1, .v (.int .i64) r.2]) []
def tn_Upper_S : App := specW tn_Upper_A tn_Upper_C
theorem tn_Upper_wv (K : Res → List Cell → Prop) : ∀ v : valsA tn_Upper_A, runF tb (getG tn_Upper_G) tn_Upper_B0 Tryd.f109 [true, true] (mkA tn_Upper_A v) K = tn_Upper_raw v.1 v.2.1 K
  | (j0, f1, ()) => tn_Upper_walk j0 f1 K
set_option maxRecDepth 20000 in
theorem tn_Upper_ok : AppOk Tryd.prog 109 tn_Upper_S :=
  AppOk.specW (spec_ok ((runF_ok tb_M tb_ok tn_Upper_Gok (tn_Upper_b0) (f := 109) (fn := Tryd.f109) (by kernel_rfl) (by kernel_rfl) tn_Upper_st [true, true])) fun v K hw h => (tn_Upper_wv K v).mpr (tn_Upper_sp v.1 v.2.1 K hw h.1 h.2))
end Go.VE
namespace Go.VE
open Go Go.Proofs
/-! ### quoin/oper.operators$3 -/
def oo_3_G : List (Nat × App) := [(109, tn_Upper_S)]
theorem oo_3_Gok : GOk Tryd.prog (getG oo_3_G) := GOk.cons tn_Upper_ok (GOk.nil)
def oo_3_raw (j0 : JbD) (K : Res → List Cell → Prop) : Prop :=
 tn_Upper_P j0 () ∧ (
 ∀ (r1 : EfD × Int), r1 = tn_Upper_F j0 () → (
 wfR (.tup [.v EfT r1.1, .v (.int .i64) r1.2]) → (
 K (.tup [.v EfT r1.1, .v (.int .i64) r1.2]) [])))
def oo_3_A : List AS := [.v JbT]
theorem oo_3_walk (j0 : JbD) (K : Res → List Cell → Prop) : runF tb (getG oo_3_G) [] Tryd.f111 [true, true] (mkA oo_3_A (j0, ())) K = oo_3_raw j0 K := by kernel_rfl

def oo_3_P (j0 : JbD) : Prop :=
 tn_Upper_P j0 ()
def oo_3_F (j0 : JbD) : EfD × Int :=
 let r1 : EfD × Int := tn_Upper_F j0 ()
 (r1.1, r1.2)
set_option maxRecDepth 20000 in
theorem oo_3_sp (j0 : JbD) (K : Res → List Cell → Prop) (_ : wfA oo_3_A (j0, ())) (hp : oo_3_P j0) (h : ∀ r : EfD × Int, r = oo_3_F j0 → K (.tup [.v EfT r.1, .v (.int .i64) r.2]) []) : oo_3_raw j0 K := by
  unfold oo_3_raw
  unfold oo_3_P at hp
  refine ⟨hp, ?_⟩
  intro r1 hr1
  subst r1
  intro _
  exact h _ rfl
def oo_3_C (v : valsA oo_3_A) (K : Res → List Cell → Prop) : Prop := oo_3_P v.1 ∧ ∀ r : EfD × Int, r = oo_3_F v.1 → K (.tup [.v EfT r.1, .v (.int .i64) r.2]) []
def oo_3_S : App := specW oo_3_A oo_3_C
theorem oo_3_wv (K : Res → List Cell → Prop) : ∀ v : valsA oo_3_A, runF tb (getG oo_3_G) [] Tryd.f111 [true, true] (mkA oo_3_A v) K = oo_3_raw v.1 K
  | (j0, ()) => oo_3_walk j0 K
set_option maxRecDepth 20000 in
theorem oo_3_ok : AppOk Tryd.prog 111 oo_3_S :=
  AppOk.specW (spec_ok ((runF_ok tb_M tb_ok oo_3_Gok (LabsOk.nil) (f := 111) (fn := Tryd.f111) (by kernel_rfl) (by kernel_rfl) (by kernel_rfl) [true, true])) fun v K hw h => (oo_3_wv K v).mpr (oo_3_sp v.1 K hw h.1 h.2))

end Go.VE
