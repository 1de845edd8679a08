/- OperFits: whatever the input, up to the bulk that the statement names, the law answers true, and what was handed in reads as it did. Its conditions: the bound of the given statement and the tables that its card ties, no other. -/
import Derived.Test.YtmnhjhamgacdnaaDoorOF16
set_option linter.unusedVariables false
set_option linter.unusedSectionVars false
set_option linter.unusedSimpArgs false
namespace Go.VE
open Go Go.Proofs
/-! ### quoin/oper.Join -/
def oper_Join_G : List (Nat × App) := [(59, oper_outside_S), (65, lines_Of_S), (26, lines_Count_S), (31, lines_Start_S), (118, lines_End_S), (119, class_Of_S), (63, oper_within_S), (60, bytes_Clone_S)]
theorem oper_Join_Gok : GOk Tryd.prog (getG oper_Join_G) := GOk.cons oper_outside_ok (GOk.cons lines_Of_ok (GOk.cons lines_Count_ok (GOk.cons lines_Start_ok (GOk.cons lines_End_ok (GOk.cons class_Of_ok (GOk.cons oper_within_ok (GOk.cons bytes_Clone_ok (GOk.nil))))))))
theorem oper_Join_st : storesC (bodyOf Tryd.f78) = true := by kernel_rfl
def oper_Join_d0 : List LS := [.v 0 (.sl (.int .u8)), .b 6 48 [], .b 11 88 [], .v 14 (.int .i64), .v 16 (.int .i64), .v 17 (.bool), .v 18 (.bool), .v 19 (.int .i64), .v 70 (.int .i64), .v 71 (.int .i64), .c 48 EoT, .c 88 EoT]
def oper_Join_d0x2 : List LS := [.v 0 (.sl (.int .u8)), .b 6 48 [], .b 11 88 [], .v 14 (.int .i64), .v 16 (.int .i64), .v 17 (.bool), .v 18 (.bool), .v 19 (.int .i64), .v 70 (.int .i64), .v 71 (.int .i64), .c 48 EoT, .c 88 EoT]
def oper_Join_dx0 : DX := ⟨none, none, [(2, oper_Join_d0x2)]⟩
def oper_Join_T0 (Y : List Int → Int → Int → Bool → Bool → Int → Int → Int → EfD → EfD → Prop) (kx2 : List Int → Int → Int → Bool → Bool → Int → Int → Int → EfD → EfD → Prop) (t0 : List Int) (e14 : Int) (from16 : Int) (bare17 : Bool) (blank18 : Bool) (q19 : Int) (x70 : Int) (x71 : Int) (x6b : EfD) (x11b : EfD) : Prop :=
 bif (decide (q19 < (List.length t0 : Int))) then
 bif decide (0 ≤ q19 ∧ q19 < (List.length t0 : Int)) then
 ∀ (r7 : Int), r7 = class_Of_F (rd (0 : Int) t0 q19) false → (
 wfR (.one (.v (.int .i64) r7)) → (
 bif (decide (r7 = (0 : Int))) then
 Y t0 e14 from16 bare17 blank18 (IntKind.wrap .i64 (q19 + (1 : Int))) x70 x71 x6b x11b
 else
 kx2 t0 e14 from16 bare17 blank18 q19 x70 x71 x6b x11b))
 else False
 else
 kx2 t0 e14 from16 bare17 blank18 q19 x70 x71 x6b x11b
def oper_Join_L0 (kx2 : List Int → Int → Int → Bool → Bool → Int → Int → Int → EfD → EfD → Prop) : Nat → List Int → Int → Int → Bool → Bool → Int → Int → Int → EfD → EfD → Prop
  | 0, _, _, _, _, _, _, _, _, _, _ => False
  | n + 1, t0, e14, from16, bare17, blank18, q19, x70, x71, x6b, x11b => wfD oper_Join_d0 (t0, e14, from16, bare17, blank18, q19, x70, x71, x6b, x11b, ()) → oper_Join_T0 (oper_Join_L0 kx2 n) kx2 t0 e14 from16 bare17 blank18 q19 x70 x71 x6b x11b
theorem oper_Join_s0 (k : Ex → St → Prop) (Y : vals oper_Join_d0 → Prop) (t0 : List Int) (e14 : Int) (from16 : Int) (bare17 : Bool) (blank18 : Bool) (q19 : Int) (x70 : Int) (x71 : Int) (x6b : EfD) (x11b : EfD) :
    ex tb1 (getG oper_Join_G) [] (at' (bodyOf Tryd.f78) [0, 0, 0, 1, 0, 0, 1, 1, 0, 0, 1, 0, 1, 1, 1, 1, 1, 1, 1, 1, 1, 1, 1]) [0, 0, 0, 1, 0, 0, 1, 1, 0, 0, 1, 0, 1, 1, 1, 1, 1, 1, 1, 1, 1, 1, 1] (mkD 158 oper_Join_d0 (t0, e14, from16, bare17, blank18, q19, x70, x71, x6b, x11b, ())) (lpK 158 oper_Join_d0 oper_Join_dx0 k Y) =
    oper_Join_T0 (fun t0 e14 from16 bare17 blank18 q19 x70 x71 x6b x11b => Y (t0, e14, from16, bare17, blank18, q19, x70, x71, x6b, x11b, ())) (fun t0 e14 from16 bare17 blank18 q19 x70 x71 x6b x11b => wfD oper_Join_d0x2 (t0, e14, from16, bare17, blank18, q19, x70, x71, x6b, x11b, ()) → k (.exit 2) (mkD 158 oper_Join_d0x2 (t0, e14, from16, bare17, blank18, q19, x70, x71, x6b, x11b, ()))) t0 e14 from16 bare17 blank18 q19 x70 x71 x6b x11b := by kernel_rfl
theorem oper_Join_e0 (k : Ex → St → Prop) : ∀ (n : Nat) (t0 : List Int) (e14 : Int) (from16 : Int) (bare17 : Bool) (blank18 : Bool) (q19 : Int) (x70 : Int) (x71 : Int) (x6b : EfD) (x11b : EfD), lpD 158 oper_Join_d0 oper_Join_dx0 (ex tb1 (getG oper_Join_G) [] (at' (bodyOf Tryd.f78) [0, 0, 0, 1, 0, 0, 1, 1, 0, 0, 1, 0, 1, 1, 1, 1, 1, 1, 1, 1, 1, 1, 1]) [0, 0, 0, 1, 0, 0, 1, 1, 0, 0, 1, 0, 1, 1, 1, 1, 1, 1, 1, 1, 1, 1, 1]) k n (t0, e14, from16, bare17, blank18, q19, x70, x71, x6b, x11b, ()) = oper_Join_L0 (fun t0 e14 from16 bare17 blank18 q19 x70 x71 x6b x11b => wfD oper_Join_d0x2 (t0, e14, from16, bare17, blank18, q19, x70, x71, x6b, x11b, ()) → k (.exit 2) (mkD 158 oper_Join_d0x2 (t0, e14, from16, bare17, blank18, q19, x70, x71, x6b, x11b, ()))) n t0 e14 from16 bare17 blank18 q19 x70 x71 x6b x11b
  | 0, _, _, _, _, _, _, _, _, _, _ => rfl
  | n + 1, t0, e14, from16, bare17, blank18, q19, x70, x71, x6b, x11b => congrArg (fun Z : Prop => wfD oper_Join_d0 (t0, e14, from16, bare17, blank18, q19, x70, x71, x6b, x11b, ()) → Z) ((oper_Join_s0 k (lpD 158 oper_Join_d0 oper_Join_dx0 (ex tb1 (getG oper_Join_G) [] (at' (bodyOf Tryd.f78) [0, 0, 0, 1, 0, 0, 1, 1, 0, 0, 1, 0, 1, 1, 1, 1, 1, 1, 1, 1, 1, 1, 1]) [0, 0, 0, 1, 0, 0, 1, 1, 0, 0, 1, 0, 1, 1, 1, 1, 1, 1, 1, 1, 1, 1, 1]) k n) t0 e14 from16 bare17 blank18 q19 x70 x71 x6b x11b).trans (congrArg (fun Y => oper_Join_T0 Y (fun t0 e14 from16 bare17 blank18 q19 x70 x71 x6b x11b => wfD oper_Join_d0x2 (t0, e14, from16, bare17, blank18, q19, x70, x71, x6b, x11b, ()) → k (.exit 2) (mkD 158 oper_Join_d0x2 (t0, e14, from16, bare17, blank18, q19, x70, x71, x6b, x11b, ()))) t0 e14 from16 bare17 blank18 q19 x70 x71 x6b x11b) (funext fun t0 => funext fun e14 => funext fun from16 => funext fun bare17 => funext fun blank18 => funext fun q19 => funext fun x70 => funext fun x71 => funext fun x6b => funext fun x11b => oper_Join_e0 k n t0 e14 from16 bare17 blank18 q19 x70 x71 x6b x11b)))
theorem oper_Join_v0 (k : Ex → St → Prop) (n : Nat) : ∀ v : vals oper_Join_d0, lpD 158 oper_Join_d0 oper_Join_dx0 (ex tb1 (getG oper_Join_G) [] (at' (bodyOf Tryd.f78) [0, 0, 0, 1, 0, 0, 1, 1, 0, 0, 1, 0, 1, 1, 1, 1, 1, 1, 1, 1, 1, 1, 1]) [0, 0, 0, 1, 0, 0, 1, 1, 0, 0, 1, 0, 1, 1, 1, 1, 1, 1, 1, 1, 1, 1, 1]) k n v = oper_Join_L0 (fun t0 e14 from16 bare17 blank18 q19 x70 x71 x6b x11b => wfD oper_Join_d0x2 (t0, e14, from16, bare17, blank18, q19, x70, x71, x6b, x11b, ()) → k (.exit 2) (mkD 158 oper_Join_d0x2 (t0, e14, from16, bare17, blank18, q19, x70, x71, x6b, x11b, ()))) n v.1 v.2.1 v.2.2.1 v.2.2.2.1 v.2.2.2.2.1 v.2.2.2.2.2.1 v.2.2.2.2.2.2.1 v.2.2.2.2.2.2.2.1 v.2.2.2.2.2.2.2.2.1 v.2.2.2.2.2.2.2.2.2.1
  | (t0, e14, from16, bare17, blank18, q19, x70, x71, x6b, x11b, ()) => oper_Join_e0 k n t0 e14 from16 bare17 blank18 q19 x70 x71 x6b x11b
def oper_Join_X0 : Pce := fun st k => ckD 158 oper_Join_d0 st fun v => wfD oper_Join_d0 v → ∃ n, oper_Join_L0 (fun t0 e14 from16 bare17 blank18 q19 x70 x71 x6b x11b => wfD oper_Join_d0x2 (t0, e14, from16, bare17, blank18, q19, x70, x71, x6b, x11b, ()) → k (.exit 2) (mkD 158 oper_Join_d0x2 (t0, e14, from16, bare17, blank18, q19, x70, x71, x6b, x11b, ()))) n v.1 v.2.1 v.2.2.1 v.2.2.2.1 v.2.2.2.2.1 v.2.2.2.2.2.1 v.2.2.2.2.2.2.1 v.2.2.2.2.2.2.2.1 v.2.2.2.2.2.2.2.2.1 v.2.2.2.2.2.2.2.2.2.1
set_option maxRecDepth 20000 in
theorem oper_Join_x0 : SemOk Tryd.prog (at' (bodyOf Tryd.f78) [0, 0, 1, 0, 0, 1, 1, 0, 0, 1, 0, 1, 1, 1, 1, 1, 1, 1, 1, 1, 1, 1]) oper_Join_X0 :=
  (SemOk.loop (ex_sound tb_M tb1_ok oper_Join_Gok (LabsOk.nil) (at' (bodyOf Tryd.f78) [0, 0, 0, 1, 0, 0, 1, 1, 0, 0, 1, 0, 1, 1, 1, 1, 1, 1, 1, 1, 1, 1, 1]) [0, 0, 0, 1, 0, 0, 1, 1, 0, 0, 1, 0, 1, 1, 1, 1, 1, 1, 1, 1, 1, 1, 1] rfl (storesC_at oper_Join_st [0, 0, 0, 1, 0, 0, 1, 1, 0, 0, 1, 0, 1, 1, 1, 1, 1, 1, 1, 1, 1, 1, 1])) 158 oper_Join_d0 oper_Join_dx0).mono fun st k h => ckD_mono h fun v hv hw => (hv hw).elim fun n hn => ⟨n, Eq.mpr (oper_Join_v0 k n v) hn⟩
def oper_Join_B0 : Labs := ([0, 0, 1, 0, 0, 1, 1, 0, 0, 1, 0, 1, 1, 1, 1, 1, 1, 1, 1, 1, 1, 1], oper_Join_X0) :: []
theorem oper_Join_b0 : LabsOk Tryd.prog (bodyOf Tryd.f78) oper_Join_B0 := LabsOk.cons oper_Join_x0 (LabsOk.nil)
def oper_Join_d1 : List LS := [.v 0 (.sl (.int .u8)), .b 6 48 [], .b 11 88 [], .v 14 (.int .i64), .v 16 (.int .i64), .v 17 (.bool), .v 18 (.bool), .v 19 (.int .i64), .v 20 (.int .i64), .v 70 (.int .i64), .v 71 (.int .i64), .c 48 EoT, .c 88 EoT]
def oper_Join_d1x4 : List LS := [.v 0 (.sl (.int .u8)), .b 6 48 [], .b 11 88 [], .v 14 (.int .i64), .v 16 (.int .i64), .v 17 (.bool), .v 18 (.bool), .v 19 (.int .i64), .v 20 (.int .i64), .v 70 (.int .i64), .v 71 (.int .i64), .c 48 EoT, .c 88 EoT]
def oper_Join_dx1 : DX := ⟨none, none, [(4, oper_Join_d1x4)]⟩
def oper_Join_T1 (Y : List Int → Int → Int → Bool → Bool → Int → Int → Int → Int → EfD → EfD → Prop) (kx4 : List Int → Int → Int → Bool → Bool → Int → Int → Int → Int → EfD → EfD → Prop) (t0 : List Int) (e14 : Int) (from16 : Int) (bare17 : Bool) (blank18 : Bool) (q19 : Int) (end20 : Int) (x70 : Int) (x71 : Int) (x6b : EfD) (x11b : EfD) : Prop :=
 oper_within_P t0 end20 ∧ (
 ∀ (r8 : Bool), r8 = oper_within_F t0 end20 → (
 wfR (.one (.v (.bool) r8)) → (
 bif r8 then
 Y t0 e14 from16 bare17 blank18 q19 (IntKind.wrap .i64 (end20 + (1 : Int))) x70 x71 x6b x11b
 else
 kx4 t0 e14 from16 bare17 blank18 q19 end20 x70 x71 x6b x11b)))
def oper_Join_L1 (kx4 : List Int → Int → Int → Bool → Bool → Int → Int → Int → Int → EfD → EfD → Prop) : Nat → List Int → Int → Int → Bool → Bool → Int → Int → Int → Int → EfD → EfD → Prop
  | 0, _, _, _, _, _, _, _, _, _, _, _ => False
  | n + 1, t0, e14, from16, bare17, blank18, q19, end20, x70, x71, x6b, x11b => wfD oper_Join_d1 (t0, e14, from16, bare17, blank18, q19, end20, x70, x71, x6b, x11b, ()) → oper_Join_T1 (oper_Join_L1 kx4 n) kx4 t0 e14 from16 bare17 blank18 q19 end20 x70 x71 x6b x11b
theorem oper_Join_s1 (k : Ex → St → Prop) (Y : vals oper_Join_d1 → Prop) (t0 : List Int) (e14 : Int) (from16 : Int) (bare17 : Bool) (blank18 : Bool) (q19 : Int) (end20 : Int) (x70 : Int) (x71 : Int) (x6b : EfD) (x11b : EfD) :
    ex tb1 (getG oper_Join_G) oper_Join_B0 (at' (bodyOf Tryd.f78) [0, 0, 0, 1, 1, 1, 0, 0, 1, 1, 0, 0, 1, 0, 1, 1, 1, 1, 1, 1, 1, 1, 1, 1, 1]) [0, 0, 0, 1, 1, 1, 0, 0, 1, 1, 0, 0, 1, 0, 1, 1, 1, 1, 1, 1, 1, 1, 1, 1, 1] (mkD 158 oper_Join_d1 (t0, e14, from16, bare17, blank18, q19, end20, x70, x71, x6b, x11b, ())) (lpK 158 oper_Join_d1 oper_Join_dx1 k Y) =
    oper_Join_T1 (fun t0 e14 from16 bare17 blank18 q19 end20 x70 x71 x6b x11b => Y (t0, e14, from16, bare17, blank18, q19, end20, x70, x71, x6b, x11b, ())) (fun t0 e14 from16 bare17 blank18 q19 end20 x70 x71 x6b x11b => wfD oper_Join_d1x4 (t0, e14, from16, bare17, blank18, q19, end20, x70, x71, x6b, x11b, ()) → k (.exit 4) (mkD 158 oper_Join_d1x4 (t0, e14, from16, bare17, blank18, q19, end20, x70, x71, x6b, x11b, ()))) t0 e14 from16 bare17 blank18 q19 end20 x70 x71 x6b x11b := by kernel_rfl
theorem oper_Join_e1 (k : Ex → St → Prop) : ∀ (n : Nat) (t0 : List Int) (e14 : Int) (from16 : Int) (bare17 : Bool) (blank18 : Bool) (q19 : Int) (end20 : Int) (x70 : Int) (x71 : Int) (x6b : EfD) (x11b : EfD), lpD 158 oper_Join_d1 oper_Join_dx1 (ex tb1 (getG oper_Join_G) oper_Join_B0 (at' (bodyOf Tryd.f78) [0, 0, 0, 1, 1, 1, 0, 0, 1, 1, 0, 0, 1, 0, 1, 1, 1, 1, 1, 1, 1, 1, 1, 1, 1]) [0, 0, 0, 1, 1, 1, 0, 0, 1, 1, 0, 0, 1, 0, 1, 1, 1, 1, 1, 1, 1, 1, 1, 1, 1]) k n (t0, e14, from16, bare17, blank18, q19, end20, x70, x71, x6b, x11b, ()) = oper_Join_L1 (fun t0 e14 from16 bare17 blank18 q19 end20 x70 x71 x6b x11b => wfD oper_Join_d1x4 (t0, e14, from16, bare17, blank18, q19, end20, x70, x71, x6b, x11b, ()) → k (.exit 4) (mkD 158 oper_Join_d1x4 (t0, e14, from16, bare17, blank18, q19, end20, x70, x71, x6b, x11b, ()))) n t0 e14 from16 bare17 blank18 q19 end20 x70 x71 x6b x11b
  | 0, _, _, _, _, _, _, _, _, _, _, _ => rfl
  | n + 1, t0, e14, from16, bare17, blank18, q19, end20, x70, x71, x6b, x11b => congrArg (fun Z : Prop => wfD oper_Join_d1 (t0, e14, from16, bare17, blank18, q19, end20, x70, x71, x6b, x11b, ()) → Z) ((oper_Join_s1 k (lpD 158 oper_Join_d1 oper_Join_dx1 (ex tb1 (getG oper_Join_G) oper_Join_B0 (at' (bodyOf Tryd.f78) [0, 0, 0, 1, 1, 1, 0, 0, 1, 1, 0, 0, 1, 0, 1, 1, 1, 1, 1, 1, 1, 1, 1, 1, 1]) [0, 0, 0, 1, 1, 1, 0, 0, 1, 1, 0, 0, 1, 0, 1, 1, 1, 1, 1, 1, 1, 1, 1, 1, 1]) k n) t0 e14 from16 bare17 blank18 q19 end20 x70 x71 x6b x11b).trans (congrArg (fun Y => oper_Join_T1 Y (fun t0 e14 from16 bare17 blank18 q19 end20 x70 x71 x6b x11b => wfD oper_Join_d1x4 (t0, e14, from16, bare17, blank18, q19, end20, x70, x71, x6b, x11b, ()) → k (.exit 4) (mkD 158 oper_Join_d1x4 (t0, e14, from16, bare17, blank18, q19, end20, x70, x71, x6b, x11b, ()))) t0 e14 from16 bare17 blank18 q19 end20 x70 x71 x6b x11b) (funext fun t0 => funext fun e14 => funext fun from16 => funext fun bare17 => funext fun blank18 => funext fun q19 => funext fun end20 => funext fun x70 => funext fun x71 => funext fun x6b => funext fun x11b => oper_Join_e1 k n t0 e14 from16 bare17 blank18 q19 end20 x70 x71 x6b x11b)))
theorem oper_Join_v1 (k : Ex → St → Prop) (n : Nat) : ∀ v : vals oper_Join_d1, lpD 158 oper_Join_d1 oper_Join_dx1 (ex tb1 (getG oper_Join_G) oper_Join_B0 (at' (bodyOf Tryd.f78) [0, 0, 0, 1, 1, 1, 0, 0, 1, 1, 0, 0, 1, 0, 1, 1, 1, 1, 1, 1, 1, 1, 1, 1, 1]) [0, 0, 0, 1, 1, 1, 0, 0, 1, 1, 0, 0, 1, 0, 1, 1, 1, 1, 1, 1, 1, 1, 1, 1, 1]) k n v = oper_Join_L1 (fun t0 e14 from16 bare17 blank18 q19 end20 x70 x71 x6b x11b => wfD oper_Join_d1x4 (t0, e14, from16, bare17, blank18, q19, end20, x70, x71, x6b, x11b, ()) → k (.exit 4) (mkD 158 oper_Join_d1x4 (t0, e14, from16, bare17, blank18, q19, end20, x70, x71, x6b, x11b, ()))) n v.1 v.2.1 v.2.2.1 v.2.2.2.1 v.2.2.2.2.1 v.2.2.2.2.2.1 v.2.2.2.2.2.2.1 v.2.2.2.2.2.2.2.1 v.2.2.2.2.2.2.2.2.1 v.2.2.2.2.2.2.2.2.2.1 v.2.2.2.2.2.2.2.2.2.2.1
  | (t0, e14, from16, bare17, blank18, q19, end20, x70, x71, x6b, x11b, ()) => oper_Join_e1 k n t0 e14 from16 bare17 blank18 q19 end20 x70 x71 x6b x11b
def oper_Join_X1 : Pce := fun st k => ckD 158 oper_Join_d1 st fun v => wfD oper_Join_d1 v → ∃ n, oper_Join_L1 (fun t0 e14 from16 bare17 blank18 q19 end20 x70 x71 x6b x11b => wfD oper_Join_d1x4 (t0, e14, from16, bare17, blank18, q19, end20, x70, x71, x6b, x11b, ()) → k (.exit 4) (mkD 158 oper_Join_d1x4 (t0, e14, from16, bare17, blank18, q19, end20, x70, x71, x6b, x11b, ()))) n v.1 v.2.1 v.2.2.1 v.2.2.2.1 v.2.2.2.2.1 v.2.2.2.2.2.1 v.2.2.2.2.2.2.1 v.2.2.2.2.2.2.2.1 v.2.2.2.2.2.2.2.2.1 v.2.2.2.2.2.2.2.2.2.1 v.2.2.2.2.2.2.2.2.2.2.1
set_option maxRecDepth 20000 in
theorem oper_Join_x1 : SemOk Tryd.prog (at' (bodyOf Tryd.f78) [0, 0, 1, 1, 1, 0, 0, 1, 1, 0, 0, 1, 0, 1, 1, 1, 1, 1, 1, 1, 1, 1, 1, 1]) oper_Join_X1 :=
  (SemOk.loop (ex_sound tb_M tb1_ok oper_Join_Gok (oper_Join_b0) (at' (bodyOf Tryd.f78) [0, 0, 0, 1, 1, 1, 0, 0, 1, 1, 0, 0, 1, 0, 1, 1, 1, 1, 1, 1, 1, 1, 1, 1, 1]) [0, 0, 0, 1, 1, 1, 0, 0, 1, 1, 0, 0, 1, 0, 1, 1, 1, 1, 1, 1, 1, 1, 1, 1, 1] rfl (storesC_at oper_Join_st [0, 0, 0, 1, 1, 1, 0, 0, 1, 1, 0, 0, 1, 0, 1, 1, 1, 1, 1, 1, 1, 1, 1, 1, 1])) 158 oper_Join_d1 oper_Join_dx1).mono fun st k h => ckD_mono h fun v hv hw => (hv hw).elim fun n hn => ⟨n, Eq.mpr (oper_Join_v1 k n v) hn⟩
def oper_Join_B1 : Labs := ([0, 0, 1, 1, 1, 0, 0, 1, 1, 0, 0, 1, 0, 1, 1, 1, 1, 1, 1, 1, 1, 1, 1, 1], oper_Join_X1) :: oper_Join_B0
theorem oper_Join_b1 : LabsOk Tryd.prog (bodyOf Tryd.f78) oper_Join_B1 := LabsOk.cons oper_Join_x1 (oper_Join_b0)
def oper_Join_d2 : List LS := [.v 0 (.sl (.int .u8)), .b 6 48 [], .b 11 88 [], .v 14 (.int .i64), .v 17 (.bool), .v 18 (.bool), .v 19 (.int .i64), .v 20 (.int .i64), .b 21 168 [], .v 70 (.int .i64), .v 71 (.int .i64), .c 48 EoT, .c 88 EoT, .c 168 (.st (.pair (.int .i64) (.pair (.sl (.int .u8)) (.sl (.int .u8)))))]
def oper_Join_d2n : List LS := [.v 0 (.sl (.int .u8)), .b 6 48 [], .b 11 88 [], .v 14 (.int .i64), .v 16 (.int .i64), .v 17 (.bool), .v 18 (.bool), .v 70 (.int .i64), .v 71 (.int .i64), .c 48 EoT, .c 88 EoT]
def oper_Join_dx2 : DX := ⟨some oper_Join_d2n, none, []⟩
def oper_Join_J2 (kn : List Int → Int → Int → Bool → Bool → Int → Int → EfD → EfD → Prop) (t0 : List Int) (e14 : Int) (bare17 : Bool) (blank18 : Bool) (q19 : Int) (end20 : Int) (x70 : Int) (x71 : Int) (x6b : EfD) (x11b : EfD) (edit21b : (Int × List Int × List Int)) : Prop :=
 bif decide (List.length x11b.1 + List.length ([edit21b] : List ((Int × List Int × List Int))) ≤ lim) then
 bif (decide (q19 < end20)) then
 bif decide (0 ≤ (IntKind.wrap .i64 (end20 - (1 : Int))) ∧ (IntKind.wrap .i64 (end20 - (1 : Int))) < (List.length t0 : Int)) then
 ∀ (r10 : Int), r10 = class_Of_F (rd (0 : Int) t0 (IntKind.wrap .i64 (end20 - (1 : Int)))) false → (
 wfR (.one (.v (.int .i64) r10)) → (
 kn t0 (IntKind.wrap .i64 (e14 + (IntKind.wrap .i64 ((IntKind.wrap .i64 ((List.length edit21b.2.2 : Int) + end20)) - q19)))) end20 false (decide (r10 = (0 : Int))) x70 x71 x6b ((x11b.1 ++ ([edit21b] : List ((Int × List Int × List Int)))), e14, x11b.2.2.1, x11b.2.2.2.1, x11b.2.2.2.2)))
 else False
 else
 bif (decide ((0 : Int) < (List.length edit21b.2.2 : Int))) then
 kn t0 (IntKind.wrap .i64 (e14 + (IntKind.wrap .i64 ((IntKind.wrap .i64 ((List.length edit21b.2.2 : Int) + end20)) - q19)))) end20 false true x70 x71 x6b ((x11b.1 ++ ([edit21b] : List ((Int × List Int × List Int)))), e14, x11b.2.2.1, x11b.2.2.2.1, x11b.2.2.2.2)
 else
 kn t0 (IntKind.wrap .i64 (e14 + (IntKind.wrap .i64 ((IntKind.wrap .i64 ((List.length edit21b.2.2 : Int) + end20)) - q19)))) end20 bare17 blank18 x70 x71 x6b ((x11b.1 ++ ([edit21b] : List ((Int × List Int × List Int)))), e14, x11b.2.2.1, x11b.2.2.2.1, x11b.2.2.2.2)
 else False
theorem oper_Join_s2 (k : Ex → St → Prop) (t0 : List Int) (e14 : Int) (bare17 : Bool) (blank18 : Bool) (q19 : Int) (end20 : Int) (x70 : Int) (x71 : Int) (x6b : EfD) (x11b : EfD) (edit21b : (Int × List Int × List Int)) :
    ex tb1 (getG oper_Join_G) oper_Join_B1 (at' (bodyOf Tryd.f78) [1, 1, 1, 1, 1, 1, 0, 0, 1, 1, 0, 0, 1, 0, 1, 1, 1, 1, 1, 1, 1, 1, 1, 1, 1]) [1, 1, 1, 1, 1, 1, 0, 0, 1, 1, 0, 0, 1, 0, 1, 1, 1, 1, 1, 1, 1, 1, 1, 1, 1] (mkD 158 oper_Join_d2 (t0, e14, bare17, blank18, q19, end20, x70, x71, x6b, x11b, edit21b, ())) (wk 158 oper_Join_dx2 k) =
    oper_Join_J2 (fun t0 e14 from16 bare17 blank18 x70 x71 x6b x11b => wfD oper_Join_d2n (t0, e14, from16, bare17, blank18, x70, x71, x6b, x11b, ()) → k .nrm (mkD 158 oper_Join_d2n (t0, e14, from16, bare17, blank18, x70, x71, x6b, x11b, ()))) t0 e14 bare17 blank18 q19 end20 x70 x71 x6b x11b edit21b := by kernel_rfl
theorem oper_Join_v2 (k : Ex → St → Prop) : ∀ v : vals oper_Join_d2, ex tb1 (getG oper_Join_G) oper_Join_B1 (at' (bodyOf Tryd.f78) [1, 1, 1, 1, 1, 1, 0, 0, 1, 1, 0, 0, 1, 0, 1, 1, 1, 1, 1, 1, 1, 1, 1, 1, 1]) [1, 1, 1, 1, 1, 1, 0, 0, 1, 1, 0, 0, 1, 0, 1, 1, 1, 1, 1, 1, 1, 1, 1, 1, 1] (mkD 158 oper_Join_d2 v) (wk 158 oper_Join_dx2 k) = oper_Join_J2 (fun t0 e14 from16 bare17 blank18 x70 x71 x6b x11b => wfD oper_Join_d2n (t0, e14, from16, bare17, blank18, x70, x71, x6b, x11b, ()) → k .nrm (mkD 158 oper_Join_d2n (t0, e14, from16, bare17, blank18, x70, x71, x6b, x11b, ()))) v.1 v.2.1 v.2.2.1 v.2.2.2.1 v.2.2.2.2.1 v.2.2.2.2.2.1 v.2.2.2.2.2.2.1 v.2.2.2.2.2.2.2.1 v.2.2.2.2.2.2.2.2.1 v.2.2.2.2.2.2.2.2.2.1 v.2.2.2.2.2.2.2.2.2.2.1
  | (t0, e14, bare17, blank18, q19, end20, x70, x71, x6b, x11b, edit21b, ()) => oper_Join_s2 k t0 e14 bare17 blank18 q19 end20 x70 x71 x6b x11b edit21b
def oper_Join_X2 : Pce := fun st k => ckD 158 oper_Join_d2 st fun v => wfD oper_Join_d2 v → oper_Join_J2 (fun t0 e14 from16 bare17 blank18 x70 x71 x6b x11b => wfD oper_Join_d2n (t0, e14, from16, bare17, blank18, x70, x71, x6b, x11b, ()) → k .nrm (mkD 158 oper_Join_d2n (t0, e14, from16, bare17, blank18, x70, x71, x6b, x11b, ()))) v.1 v.2.1 v.2.2.1 v.2.2.2.1 v.2.2.2.2.1 v.2.2.2.2.2.1 v.2.2.2.2.2.2.1 v.2.2.2.2.2.2.2.1 v.2.2.2.2.2.2.2.2.1 v.2.2.2.2.2.2.2.2.2.1 v.2.2.2.2.2.2.2.2.2.2.1
set_option maxRecDepth 20000 in
theorem oper_Join_x2 : SemOk Tryd.prog (at' (bodyOf Tryd.f78) [1, 1, 1, 1, 1, 1, 0, 0, 1, 1, 0, 0, 1, 0, 1, 1, 1, 1, 1, 1, 1, 1, 1, 1, 1]) oper_Join_X2 :=
  (SemOk.wk (N := 158) (ds := oper_Join_d2) (dx := oper_Join_dx2) (ex_sound tb_M tb1_ok oper_Join_Gok (oper_Join_b1) (at' (bodyOf Tryd.f78) [1, 1, 1, 1, 1, 1, 0, 0, 1, 1, 0, 0, 1, 0, 1, 1, 1, 1, 1, 1, 1, 1, 1, 1, 1]) [1, 1, 1, 1, 1, 1, 0, 0, 1, 1, 0, 0, 1, 0, 1, 1, 1, 1, 1, 1, 1, 1, 1, 1, 1] rfl (storesC_at oper_Join_st [1, 1, 1, 1, 1, 1, 0, 0, 1, 1, 0, 0, 1, 0, 1, 1, 1, 1, 1, 1, 1, 1, 1, 1, 1]))).mono fun st k h => ckD_mono h fun v hv hw => Eq.mpr (oper_Join_v2 k v) (hv hw)
def oper_Join_B2 : Labs := ([1, 1, 1, 1, 1, 1, 0, 0, 1, 1, 0, 0, 1, 0, 1, 1, 1, 1, 1, 1, 1, 1, 1, 1, 1], oper_Join_X2) :: oper_Join_B1
theorem oper_Join_b2 : LabsOk Tryd.prog (bodyOf Tryd.f78) oper_Join_B2 := LabsOk.cons oper_Join_x2 (oper_Join_b1)
def oper_Join_d3 : List LS := [.v 0 (.sl (.int .u8)), .b 6 48 [], .b 11 88 [], .v 14 (.int .i64), .v 16 (.int .i64), .v 17 (.bool), .v 18 (.bool), .v 70 (.int .i64), .v 71 (.int .i64), .c 48 EoT, .c 88 EoT]
def oper_Join_d3x0 : List LS := [.b 6 48 [], .b 11 88 [], .c 48 EoT, .c 88 EoT]
def oper_Join_dx3 : DX := ⟨none, none, [(0, oper_Join_d3x0)]⟩
def oper_Join_T3 (Y : List Int → Int → Int → Bool → Bool → Int → Int → EfD → EfD → Prop) (kx0 : EfD → EfD → Prop) (t0 : List Int) (e14 : Int) (from16 : Int) (bare17 : Bool) (blank18 : Bool) (x70 : Int) (x71 : Int) (x6b : EfD) (x11b : EfD) : Prop :=
 bif (decide (x71 < x70)) then
 (wfD oper_Join_d0 (t0, e14, from16, bare17, blank18, (IntKind.wrap .i64 (from16 + (1 : Int))), x70, x71, x6b, x11b, ()) → ∃ n, oper_Join_L0 (fun (t0 : List Int) (e14 : Int) (from16 : Int) (bare17 : Bool) (blank18 : Bool) (q19 : Int) (x70 : Int) (x71 : Int) (x6b : EfD) (x11b : EfD) => wfD oper_Join_d0x2 (t0, e14, from16, bare17, blank18, q19, x70, x71, x6b, x11b, ()) → (
 (wfD oper_Join_d1 (t0, e14, from16, bare17, blank18, q19, q19, x70, x71, x6b, x11b, ()) → ∃ n, oper_Join_L1 (fun (t0 : List Int) (e14 : Int) (from16 : Int) (bare17 : Bool) (blank18 : Bool) (q19 : Int) (end20 : Int) (x70 : Int) (x71 : Int) (x6b : EfD) (x11b : EfD) => wfD oper_Join_d1x4 (t0, e14, from16, bare17, blank18, q19, end20, x70, x71, x6b, x11b, ()) → (
 bif decide (0 ≤ from16 ∧ from16 ≤ q19 ∧ q19 ≤ (List.length t0 : Int)) then
 bytes_Clone_P (slc t0 from16 q19) ∧ (
 ∀ (r9 : List Int), r9 = bytes_Clone_F (slc t0 from16 q19) → (
 wfR (.one (.fr 5 (.int .u8) r9)) → (
 bif (!bare17) then
 bif (!blank18) then
 bif (decide (q19 < end20)) then
 bif decide (0 ≤ q19 ∧ q19 < (List.length t0 : Int)) then
 bif (!decide ((rd (0 : Int) t0 q19) = (41 : Int))) then
 (wfD oper_Join_d2 (t0, e14, bare17, blank18, q19, end20, x70, x71, x6b, x11b, (e14, r9, ([(32 : Int)] : List Int)), ()) → oper_Join_J2 (fun (t0 : List Int) (e14 : Int) (from16 : Int) (bare17 : Bool) (blank18 : Bool) (x70 : Int) (x71 : Int) (x6b : EfD) (x11b : EfD) => wfD oper_Join_d2n (t0, e14, from16, bare17, blank18, x70, x71, x6b, x11b, ()) → (
 Y t0 e14 from16 bare17 blank18 x70 (IntKind.wrap .i64 (x71 + (1 : Int))) x6b x11b)) t0 e14 bare17 blank18 q19 end20 x70 x71 x6b x11b (e14, r9, ([(32 : Int)] : List Int)))
 else
 (wfD oper_Join_d2 (t0, e14, bare17, blank18, q19, end20, x70, x71, x6b, x11b, (e14, r9, ([] : List Int)), ()) → oper_Join_J2 (fun (t0 : List Int) (e14 : Int) (from16 : Int) (bare17 : Bool) (blank18 : Bool) (x70 : Int) (x71 : Int) (x6b : EfD) (x11b : EfD) => wfD oper_Join_d2n (t0, e14, from16, bare17, blank18, x70, x71, x6b, x11b, ()) → (
 Y t0 e14 from16 bare17 blank18 x70 (IntKind.wrap .i64 (x71 + (1 : Int))) x6b x11b)) t0 e14 bare17 blank18 q19 end20 x70 x71 x6b x11b (e14, r9, ([] : List Int)))
 else False
 else
 (wfD oper_Join_d2 (t0, e14, bare17, blank18, q19, end20, x70, x71, x6b, x11b, (e14, r9, ([] : List Int)), ()) → oper_Join_J2 (fun (t0 : List Int) (e14 : Int) (from16 : Int) (bare17 : Bool) (blank18 : Bool) (x70 : Int) (x71 : Int) (x6b : EfD) (x11b : EfD) => wfD oper_Join_d2n (t0, e14, from16, bare17, blank18, x70, x71, x6b, x11b, ()) → (
 Y t0 e14 from16 bare17 blank18 x70 (IntKind.wrap .i64 (x71 + (1 : Int))) x6b x11b)) t0 e14 bare17 blank18 q19 end20 x70 x71 x6b x11b (e14, r9, ([] : List Int)))
 else
 (wfD oper_Join_d2 (t0, e14, bare17, blank18, q19, end20, x70, x71, x6b, x11b, (e14, r9, ([] : List Int)), ()) → oper_Join_J2 (fun (t0 : List Int) (e14 : Int) (from16 : Int) (bare17 : Bool) (blank18 : Bool) (x70 : Int) (x71 : Int) (x6b : EfD) (x11b : EfD) => wfD oper_Join_d2n (t0, e14, from16, bare17, blank18, x70, x71, x6b, x11b, ()) → (
 Y t0 e14 from16 bare17 blank18 x70 (IntKind.wrap .i64 (x71 + (1 : Int))) x6b x11b)) t0 e14 bare17 blank18 q19 end20 x70 x71 x6b x11b (e14, r9, ([] : List Int)))
 else
 (wfD oper_Join_d2 (t0, e14, bare17, blank18, q19, end20, x70, x71, x6b, x11b, (e14, r9, ([] : List Int)), ()) → oper_Join_J2 (fun (t0 : List Int) (e14 : Int) (from16 : Int) (bare17 : Bool) (blank18 : Bool) (x70 : Int) (x71 : Int) (x6b : EfD) (x11b : EfD) => wfD oper_Join_d2n (t0, e14, from16, bare17, blank18, x70, x71, x6b, x11b, ()) → (
 Y t0 e14 from16 bare17 blank18 x70 (IntKind.wrap .i64 (x71 + (1 : Int))) x6b x11b)) t0 e14 bare17 blank18 q19 end20 x70 x71 x6b x11b (e14, r9, ([] : List Int))))))
 else False)) n t0 e14 from16 bare17 blank18 q19 q19 x70 x71 x6b x11b))) n t0 e14 from16 bare17 blank18 (IntKind.wrap .i64 (from16 + (1 : Int))) x70 x71 x6b x11b)
 else
 kx0 x6b x11b
def oper_Join_L3 (kx0 : EfD → EfD → Prop) : Nat → List Int → Int → Int → Bool → Bool → Int → Int → EfD → EfD → Prop
  | 0, _, _, _, _, _, _, _, _, _ => False
  | n + 1, t0, e14, from16, bare17, blank18, x70, x71, x6b, x11b => wfD oper_Join_d3 (t0, e14, from16, bare17, blank18, x70, x71, x6b, x11b, ()) → oper_Join_T3 (oper_Join_L3 kx0 n) kx0 t0 e14 from16 bare17 blank18 x70 x71 x6b x11b
theorem oper_Join_s3 (k : Ex → St → Prop) (Y : vals oper_Join_d3 → Prop) (t0 : List Int) (e14 : Int) (from16 : Int) (bare17 : Bool) (blank18 : Bool) (x70 : Int) (x71 : Int) (x6b : EfD) (x11b : EfD) :
    ex tb1 (getG oper_Join_G) oper_Join_B2 (at' (bodyOf Tryd.f78) [0, 0, 1, 0, 1, 1, 1, 1, 1, 1, 1, 1, 1, 1, 1]) [0, 0, 1, 0, 1, 1, 1, 1, 1, 1, 1, 1, 1, 1, 1] (mkD 158 oper_Join_d3 (t0, e14, from16, bare17, blank18, x70, x71, x6b, x11b, ())) (lpK 158 oper_Join_d3 oper_Join_dx3 k Y) =
    oper_Join_T3 (fun t0 e14 from16 bare17 blank18 x70 x71 x6b x11b => Y (t0, e14, from16, bare17, blank18, x70, x71, x6b, x11b, ())) (fun x6b x11b => wfD oper_Join_d3x0 (x6b, x11b, ()) → k (.exit 0) (mkD 158 oper_Join_d3x0 (x6b, x11b, ()))) t0 e14 from16 bare17 blank18 x70 x71 x6b x11b := by kernel_rfl
theorem oper_Join_e3 (k : Ex → St → Prop) : ∀ (n : Nat) (t0 : List Int) (e14 : Int) (from16 : Int) (bare17 : Bool) (blank18 : Bool) (x70 : Int) (x71 : Int) (x6b : EfD) (x11b : EfD), lpD 158 oper_Join_d3 oper_Join_dx3 (ex tb1 (getG oper_Join_G) oper_Join_B2 (at' (bodyOf Tryd.f78) [0, 0, 1, 0, 1, 1, 1, 1, 1, 1, 1, 1, 1, 1, 1]) [0, 0, 1, 0, 1, 1, 1, 1, 1, 1, 1, 1, 1, 1, 1]) k n (t0, e14, from16, bare17, blank18, x70, x71, x6b, x11b, ()) = oper_Join_L3 (fun x6b x11b => wfD oper_Join_d3x0 (x6b, x11b, ()) → k (.exit 0) (mkD 158 oper_Join_d3x0 (x6b, x11b, ()))) n t0 e14 from16 bare17 blank18 x70 x71 x6b x11b
  | 0, _, _, _, _, _, _, _, _, _ => rfl
  | n + 1, t0, e14, from16, bare17, blank18, x70, x71, x6b, x11b => congrArg (fun Z : Prop => wfD oper_Join_d3 (t0, e14, from16, bare17, blank18, x70, x71, x6b, x11b, ()) → Z) ((oper_Join_s3 k (lpD 158 oper_Join_d3 oper_Join_dx3 (ex tb1 (getG oper_Join_G) oper_Join_B2 (at' (bodyOf Tryd.f78) [0, 0, 1, 0, 1, 1, 1, 1, 1, 1, 1, 1, 1, 1, 1]) [0, 0, 1, 0, 1, 1, 1, 1, 1, 1, 1, 1, 1, 1, 1]) k n) t0 e14 from16 bare17 blank18 x70 x71 x6b x11b).trans (congrArg (fun Y => oper_Join_T3 Y (fun x6b x11b => wfD oper_Join_d3x0 (x6b, x11b, ()) → k (.exit 0) (mkD 158 oper_Join_d3x0 (x6b, x11b, ()))) t0 e14 from16 bare17 blank18 x70 x71 x6b x11b) (funext fun t0 => funext fun e14 => funext fun from16 => funext fun bare17 => funext fun blank18 => funext fun x70 => funext fun x71 => funext fun x6b => funext fun x11b => oper_Join_e3 k n t0 e14 from16 bare17 blank18 x70 x71 x6b x11b)))
theorem oper_Join_v3 (k : Ex → St → Prop) (n : Nat) : ∀ v : vals oper_Join_d3, lpD 158 oper_Join_d3 oper_Join_dx3 (ex tb1 (getG oper_Join_G) oper_Join_B2 (at' (bodyOf Tryd.f78) [0, 0, 1, 0, 1, 1, 1, 1, 1, 1, 1, 1, 1, 1, 1]) [0, 0, 1, 0, 1, 1, 1, 1, 1, 1, 1, 1, 1, 1, 1]) k n v = oper_Join_L3 (fun x6b x11b => wfD oper_Join_d3x0 (x6b, x11b, ()) → k (.exit 0) (mkD 158 oper_Join_d3x0 (x6b, x11b, ()))) n v.1 v.2.1 v.2.2.1 v.2.2.2.1 v.2.2.2.2.1 v.2.2.2.2.2.1 v.2.2.2.2.2.2.1 v.2.2.2.2.2.2.2.1 v.2.2.2.2.2.2.2.2.1
  | (t0, e14, from16, bare17, blank18, x70, x71, x6b, x11b, ()) => oper_Join_e3 k n t0 e14 from16 bare17 blank18 x70 x71 x6b x11b
def oper_Join_X3 : Pce := fun st k => ckD 158 oper_Join_d3 st fun v => wfD oper_Join_d3 v → ∃ n, oper_Join_L3 (fun x6b x11b => wfD oper_Join_d3x0 (x6b, x11b, ()) → k (.exit 0) (mkD 158 oper_Join_d3x0 (x6b, x11b, ()))) n v.1 v.2.1 v.2.2.1 v.2.2.2.1 v.2.2.2.2.1 v.2.2.2.2.2.1 v.2.2.2.2.2.2.1 v.2.2.2.2.2.2.2.1 v.2.2.2.2.2.2.2.2.1
set_option maxRecDepth 20000 in
theorem oper_Join_x3 : SemOk Tryd.prog (at' (bodyOf Tryd.f78) [0, 1, 0, 1, 1, 1, 1, 1, 1, 1, 1, 1, 1, 1]) oper_Join_X3 :=
  (SemOk.loop (ex_sound tb_M tb1_ok oper_Join_Gok (oper_Join_b2) (at' (bodyOf Tryd.f78) [0, 0, 1, 0, 1, 1, 1, 1, 1, 1, 1, 1, 1, 1, 1]) [0, 0, 1, 0, 1, 1, 1, 1, 1, 1, 1, 1, 1, 1, 1] rfl (storesC_at oper_Join_st [0, 0, 1, 0, 1, 1, 1, 1, 1, 1, 1, 1, 1, 1, 1])) 158 oper_Join_d3 oper_Join_dx3).mono fun st k h => ckD_mono h fun v hv hw => (hv hw).elim fun n hn => ⟨n, Eq.mpr (oper_Join_v3 k n v) hn⟩
def oper_Join_B3 : Labs := ([0, 1, 0, 1, 1, 1, 1, 1, 1, 1, 1, 1, 1, 1], oper_Join_X3) :: oper_Join_B2
theorem oper_Join_b3 : LabsOk Tryd.prog (bodyOf Tryd.f78) oper_Join_B3 := LabsOk.cons oper_Join_x3 (oper_Join_b2)
def oper_Join_raw (t0 : List Int) (at1 : Int) (count2 : Int) (K : Res → List Cell → Prop) : Prop :=
 ∀ (r1 : Bool), r1 = oper_outside_F t0 at1 count2 (0 : Int) → (
 wfR (.one (.v (.bool) r1)) → (
 bif r1 then
 K (.tup [.v EfT (([] : List ((Int × List Int × List Int))), (0 : Int), (false, false, ([] : List Int)), (0 : Int), false), .v (.int .i64) (2 : Int)]) []
 else
 lines_Of_P t0 at1 ∧ (
 ∀ (r2 : Int × Int), r2 = lines_Of_F t0 at1 → (
 wfR (.tup [.v (.int .i64) r2.1, .v (.int .i64) r2.2]) → (
 lines_Count_P t0 ∧ (
 ∀ (r3 : Int), r3 = lines_Count_F t0 → (
 wfR (.one (.v (.int .i64) r3)) → (
 bif (decide (r3 < (IntKind.wrap .i64 (r2.1 + (mx count2 (2 : Int)))))) then
 K (.tup [.v EfT (([] : List ((Int × List Int × List Int))), (0 : Int), (false, false, ([] : List Int)), (0 : Int), false), .v (.int .i64) (190 : Int)]) []
 else
 ∀ (r4 : Int × Int), r4 = lines_Start_F t0 r2.1 → (
 wfR (.tup [.v (.int .i64) r4.1, .v (.int .i64) r4.2]) → (
 lines_End_P t0 r2.1 ∧ (
 ∀ (r5 : Int × Int), r5 = lines_End_F t0 r2.1 → (
 wfR (.tup [.v (.int .i64) r5.1, .v (.int .i64) r5.2]) → (
 bif (!(decide (r5.1 = r4.1))) then
 bif decide (0 ≤ (IntKind.wrap .i64 (r5.1 - (1 : Int))) ∧ (IntKind.wrap .i64 (r5.1 - (1 : Int))) < (List.length t0 : Int)) then
 ∀ (r6 : Int), r6 = class_Of_F (rd (0 : Int) t0 (IntKind.wrap .i64 (r5.1 - (1 : Int)))) false → (
 wfR (.one (.v (.int .i64) r6)) → (
 (wfD oper_Join_d3 (t0, r5.1, r5.1, (decide (r5.1 = r4.1)), (decide (r6 = (0 : Int))), (IntKind.wrap .i64 ((mx count2 (2 : Int)) - (1 : Int))), (0 : Int), (([] : List ((Int × List Int × List Int))), (0 : Int), (false, false, ([] : List Int)), (0 : Int), false), (([] : List ((Int × List Int × List Int))), (0 : Int), (false, false, ([] : List Int)), (0 : Int), false), ()) → ∃ n, oper_Join_L3 (fun (x6b : EfD) (x11b : EfD) => wfD oper_Join_d3x0 (x6b, x11b, ()) → (
 K (.tup [.v EfT (x11b.1, x11b.2.1, x11b.2.2.1, x11b.2.2.2.1, x11b.2.2.2.2), .v (.int .i64) (0 : Int)]) [])) n t0 r5.1 r5.1 (decide (r5.1 = r4.1)) (decide (r6 = (0 : Int))) (IntKind.wrap .i64 ((mx count2 (2 : Int)) - (1 : Int))) (0 : Int) (([] : List ((Int × List Int × List Int))), (0 : Int), (false, false, ([] : List Int)), (0 : Int), false) (([] : List ((Int × List Int × List Int))), (0 : Int), (false, false, ([] : List Int)), (0 : Int), false))))
 else False
 else
 (wfD oper_Join_d3 (t0, r5.1, r5.1, (decide (r5.1 = r4.1)), false, (IntKind.wrap .i64 ((mx count2 (2 : Int)) - (1 : Int))), (0 : Int), (([] : List ((Int × List Int × List Int))), (0 : Int), (false, false, ([] : List Int)), (0 : Int), false), (([] : List ((Int × List Int × List Int))), (0 : Int), (false, false, ([] : List Int)), (0 : Int), false), ()) → ∃ n, oper_Join_L3 (fun (x6b : EfD) (x11b : EfD) => wfD oper_Join_d3x0 (x6b, x11b, ()) → (
 K (.tup [.v EfT (x11b.1, x11b.2.1, x11b.2.2.1, x11b.2.2.2.1, x11b.2.2.2.2), .v (.int .i64) (0 : Int)]) [])) n t0 r5.1 r5.1 (decide (r5.1 = r4.1)) false (IntKind.wrap .i64 ((mx count2 (2 : Int)) - (1 : Int))) (0 : Int) (([] : List ((Int × List Int × List Int))), (0 : Int), (false, false, ([] : List Int)), (0 : Int), false) (([] : List ((Int × List Int × List Int))), (0 : Int), (false, false, ([] : List Int)), (0 : Int), false)))))))))))))))
def oper_Join_A : List AS := [.v (.sl (.int .u8)), .v (.int .i64), .v (.int .i64)]
theorem oper_Join_walk (t0 : List Int) (at1 : Int) (count2 : Int) (K : Res → List Cell → Prop) : runF tb1 (getG oper_Join_G) oper_Join_B3 Tryd.f78 [true, true] (mkA oper_Join_A (t0, at1, count2, ())) K = oper_Join_raw t0 at1 count2 K := by kernel_rfl
--! held api.Effect 0
--! pre 1
def isB (c : Int) : Bool := decide (class_Of_F c false = 0)
def blanksL (s : List Int) : Nat := (s.takeWhile isB).length
def wordL (s : List Int) : Nat := (s.takeWhile fun c => !decide (c = 10)).length
def newJ (bare blank : Bool) (r : List Int) : List Int := if bare = false ∧ blank = false ∧ 0 < wordL r ∧ rd (0 : Int) r 0 ≠ 41 then [32] else []
def joinL : Nat → List Int → Int → Bool → Bool → Int → List (Int × List Int × List Int) × Int
  | 0, _, _, _, _, cur => ([], cur)
  | k + 1, s, e, bare, blank, _ =>
    ((e, s.take (blanksL s.tail + 1), newJ bare blank (s.tail.drop (blanksL s.tail))) :: (joinL k ((s.tail.drop (blanksL s.tail)).drop (wordL (s.tail.drop (blanksL s.tail)))) (e + ((newJ bare blank (s.tail.drop (blanksL s.tail))).length + wordL (s.tail.drop (blanksL s.tail)) : Nat))
      (if 0 < wordL (s.tail.drop (blanksL s.tail)) then false else if 0 < (newJ bare blank (s.tail.drop (blanksL s.tail))).length then false else bare)
      (if 0 < wordL (s.tail.drop (blanksL s.tail)) then isB (rd (0 : Int) (s.tail.drop (blanksL s.tail)) ((wordL (s.tail.drop (blanksL s.tail)) : Int) - 1)) else if 0 < (newJ bare blank (s.tail.drop (blanksL s.tail))).length then true else blank) e).1,
     (joinL k ((s.tail.drop (blanksL s.tail)).drop (wordL (s.tail.drop (blanksL s.tail)))) (e + ((newJ bare blank (s.tail.drop (blanksL s.tail))).length + wordL (s.tail.drop (blanksL s.tail)) : Nat))
      (if 0 < wordL (s.tail.drop (blanksL s.tail)) then false else if 0 < (newJ bare blank (s.tail.drop (blanksL s.tail))).length then false else bare)
      (if 0 < wordL (s.tail.drop (blanksL s.tail)) then isB (rd (0 : Int) (s.tail.drop (blanksL s.tail)) ((wordL (s.tail.drop (blanksL s.tail)) : Int) - 1)) else if 0 < (newJ bare blank (s.tail.drop (blanksL s.tail))).length then true else blank) e).2)
def JoinOk (k : Nat) (s : List Int) : Prop := k ≤ s.count 10 ∧ (s = [] ∨ s.head? = some 10)
theorem takeWhile_le (f : Int → Bool) : ∀ s : List Int, (s.takeWhile f).length ≤ s.length
  | [] => Nat.le_refl _
  | c :: r => by
    have := takeWhile_le f r
    rw [List.takeWhile_cons]
    split
    · rw [List.length_cons, List.length_cons]; omega
    · simp
theorem takeWhile_count (f : Int → Bool) (hf : f 10 = false) : ∀ s : List Int, (s.drop (s.takeWhile f).length).count 10 = s.count 10
  | [] => rfl
  | c :: r => by
    rw [List.takeWhile_cons]
    split
    · rename_i h
      rw [List.length_cons, List.drop_succ_cons, takeWhile_count f hf r, List.count_cons_of_ne]
      intro e; subst e; rw [hf] at h; cases h
    · rfl
theorem wordL_head : ∀ s : List Int, s.drop (wordL s) = [] ∨ (s.drop (wordL s)).head? = some 10
  | [] => .inl rfl
  | c :: r => by
    unfold wordL
    rw [List.takeWhile_cons]
    split
    · rw [List.length_cons, List.drop_succ_cons]; exact wordL_head r
    · rename_i h
      right
      have : c = 10 := by simpa using h
      rw [this]; rfl
theorem isB_ten : isB 10 = false := by decide
theorem JoinOk.cons {k : Nat} {s : List Int} (h : JoinOk (k + 1) s) : s = 10 :: s.tail ∧ JoinOk k ((s.tail.drop (blanksL s.tail)).drop (wordL (s.tail.drop (blanksL s.tail)))) := by
  obtain ⟨h1, h2⟩ := h
  have hs : s = 10 :: s.tail := by
    rcases h2 with h2 | h2
    · subst h2; simp at h1
    · cases s with
      | nil => cases h2
      | cons a r => injection h2 with e; rw [e]; rfl
  refine ⟨hs, ?_, wordL_head _⟩
  have e1 : s.count 10 = s.tail.count 10 + 1 := by
    conv => lhs; rw [hs]
    rw [List.count_cons_self]
  rw [wordL, takeWhile_count _ (by decide), blanksL, takeWhile_count _ isB_ten]
  omega
def oper_Join_P (t : List Int) (p count : Int) : Prop :=
 t.length ≤ 1099511627776 ∧ (oper_outside_F t p count 0 = false → count ≤ 9999 ∧ lines_Of_P t p ∧ lines_Count_P t ∧ 0 ≤ (lines_Of_F t p).1 ∧ (lines_Of_F t p).1 ≤ (t.length : Int) ∧
 (¬ lines_Count_F t < (lines_Of_F t p).1 + mx count 2 → lines_End_P t (lines_Of_F t p).1 ∧ 0 ≤ (lines_End_F t (lines_Of_F t p).1).1 ∧ (lines_End_F t (lines_Of_F t p).1).1 ≤ (t.length : Int) ∧
 ((lines_End_F t (lines_Of_F t p).1).1 ≠ (lines_Start_F t (lines_Of_F t p).1).1 → 1 ≤ (lines_End_F t (lines_Of_F t p).1).1) ∧ JoinOk (mx count 2 - 1).toNat (t.drop (lines_End_F t (lines_Of_F t p).1).1.toNat)))
def oper_Join_F (t : List Int) (p count : Int) : (List (Int × List Int × List Int) × Int × (Bool × Bool × List Int) × Int × Bool) × Int :=
 if oper_outside_F t p count 0 = true then (([], 0, (false, false, []), 0, false), 2)
 else if lines_Count_F t < (lines_Of_F t p).1 + mx count 2 then (([], 0, (false, false, []), 0, false), 190)
 else (((joinL (mx count 2 - 1).toNat (t.drop (lines_End_F t (lines_Of_F t p).1).1.toNat) (lines_End_F t (lines_Of_F t p).1).1 (decide ((lines_End_F t (lines_Of_F t p).1).1 = (lines_Start_F t (lines_Of_F t p).1).1))
 (if (lines_End_F t (lines_Of_F t p).1).1 = (lines_Start_F t (lines_Of_F t p).1).1 then false else isB (rd (0 : Int) t ((lines_End_F t (lines_Of_F t p).1).1 - 1))) 0).1,
 (joinL (mx count 2 - 1).toNat (t.drop (lines_End_F t (lines_Of_F t p).1).1.toNat) (lines_End_F t (lines_Of_F t p).1).1 (decide ((lines_End_F t (lines_Of_F t p).1).1 = (lines_Start_F t (lines_Of_F t p).1).1))
 (if (lines_End_F t (lines_Of_F t p).1).1 = (lines_Start_F t (lines_Of_F t p).1).1 then false else isB (rd (0 : Int) t ((lines_End_F t (lines_Of_F t p).1).1 - 1))) 0).2, (false, false, []), 0, false), 0)
theorem oper_Join_l0 (kx2 : List Int → Int → Int → Bool → Bool → Int → Int → Int → (List (Int × List Int × List Int) × Int × (Bool × Bool × List Int) × Int × Bool) → (List (Int × List Int × List Int) × Int × (Bool × Bool × List Int) × Int × Bool) → Prop)
    (t : List Int) (hl : t.length ≤ 1099511627776) (e fr : Int) (ba bl : Bool) (k i : Int) (x6 x11) : ∀ (n q : Nat), t.length < n + q → q ≤ t.length → kx2 t e fr ba bl ((q + blanksL (t.drop q) : Nat) : Int) k i x6 x11 → oper_Join_L0 kx2 n t e fr ba bl (q : Int) k i x6 x11
  | 0, q, h, h2, _ => by omega
  | n + 1, q, h, h2, hx => by
    intro _
    unfold oper_Join_T0
    refine brn (fun hlt => asrt ⟨by omega, hlt⟩ ?_) (fun hge => ?_)
    · have hi : q < t.length := by omega
      rw [rd_nat _ _ _ hi]
      intro r7 e7 _
      subst r7
      rw [List.drop_eq_getElem_cons hi, blanksL, List.takeWhile_cons] at hx
      refine brn (fun c => ?_) (fun c => ?_)
      · rw [if_pos (show isB t[q] = true from decide_eq_true c), List.length_cons] at hx
        rw [wrap_i64 (by omega) (by omega), show (q : Int) + 1 = ((q + 1 : Nat) : Int) by omega]
        refine oper_Join_l0 kx2 t hl e fr ba bl k i x6 x11 n (q + 1) (by omega) (by omega) ?_
        rw [show q + 1 + blanksL (t.drop (q + 1)) = q + ((List.takeWhile isB (t.drop (q + 1))).length + 1) by unfold blanksL; omega]
        exact hx
      · rw [if_neg (show ¬ isB t[q] = true by unfold isB; rw [decide_eq_false c]; decide)] at hx
        exact hx
    · rw [List.drop_eq_nil_of_le (by omega)] at hx
      exact hx
theorem oper_Join_l1 (kx4 : List Int → Int → Int → Bool → Bool → Int → Int → Int → Int → (List (Int × List Int × List Int) × Int × (Bool × Bool × List Int) × Int × Bool) → (List (Int × List Int × List Int) × Int × (Bool × Bool × List Int) × Int × Bool) → Prop)
    (t : List Int) (hl : t.length ≤ 1099511627776) (e fr : Int) (ba bl : Bool) (q k i : Int) (x6 x11) : ∀ (n f : Nat), t.length < n + f → f ≤ t.length → kx4 t e fr ba bl q ((f + wordL (t.drop f) : Nat) : Int) k i x6 x11 → oper_Join_L1 kx4 n t e fr ba bl q (f : Int) k i x6 x11
  | 0, f, h, h2, _ => by omega
  | n + 1, f, h, h2, hx => by
    intro _
    unfold oper_Join_T1
    refine ⟨?_, fun r8 e8 _ => ?_⟩
    · unfold oper_within_P
      by_cases c : (f : Int) < (t.length : Int)
      · rw [decide_eq_true c]; exact ⟨by omega, c⟩
      · rw [decide_eq_false c]; exact trivial
    · subst r8
      unfold oper_within_F
      by_cases c : (f : Int) < (t.length : Int)
      · have hi : f < t.length := by omega
        rw [decide_eq_true c, cond_true, rd_nat _ _ _ hi]
        rw [List.drop_eq_getElem_cons hi, wordL, List.takeWhile_cons] at hx
        refine brb (fun c2 => ?_) (fun c2 => ?_)
        · rw [if_pos c2, List.length_cons] at hx
          rw [wrap_i64 (by omega) (by omega), show (f : Int) + 1 = ((f + 1 : Nat) : Int) by omega]
          refine oper_Join_l1 kx4 t hl e fr ba bl q k i x6 x11 n (f + 1) (by omega) (by omega) ?_
          rw [show f + 1 + wordL (t.drop (f + 1)) = f + ((List.takeWhile (fun c => !decide (c = 10)) (t.drop (f + 1))).length + 1) by unfold wordL; omega]
          exact hx
        · rw [if_neg (by rw [c2]; decide)] at hx
          exact hx
      · rw [decide_eq_false c, cond_false]
        rw [List.drop_eq_nil_of_le (by omega)] at hx
        exact hx
theorem rd_drop0 (t : List Int) (q : Nat) (j : Int) (h0 : 0 ≤ j) : rd (0 : Int) t ((q : Int) + j) = rd (0 : Int) (t.drop q) j := by
  obtain ⟨i, rfl⟩ := Int.eq_ofNat_of_zero_le h0
  unfold rd
  rw [Int.toNat_natCast, show ((q : Int) + (i : Int)).toNat = q + i by omega]
  simp
theorem oper_Join_l3 (kx0 : (List (Int × List Int × List Int) × Int × (Bool × Bool × List Int) × Int × Bool) → (List (Int × List Int × List Int) × Int × (Bool × Bool × List Int) × Int × Bool) → Prop)
    (t : List Int) (hl : t.length ≤ 1099511627776) (k : Int) (hk9 : k ≤ 9999) (x6 : List (Int × List Int × List Int) × Int × (Bool × Bool × List Int) × Int × Bool) (rg : Bool × Bool × List Int) (ho : Int) (ty : Bool) :
    ∀ (n m fr : Nat) (e : Int) (ba bl : Bool) (i : Int) (xs : List (Int × List Int × List Int)) (cur : Int), m < n → (k - i).toNat = m → 0 ≤ i → fr ≤ t.length → 0 ≤ e → e ≤ (fr : Int) → JoinOk m (t.drop fr) → xs.length + m ≤ 1099511627776 →
      kx0 x6 (xs ++ (joinL m (t.drop fr) e ba bl cur).1, (joinL m (t.drop fr) e ba bl cur).2, rg, ho, ty) → oper_Join_L3 kx0 n t e (fr : Int) ba bl k i x6 (xs, cur, rg, ho, ty)
  | 0, m, _, _, _, _, _, _, _, h, _, _, _, _, _, _, _, _ => absurd h (Nat.not_lt_zero _)
  | n + 1, m, fr, e, ba, bl, i, xs, cur, h, hm, h0, hf, he, hef, hj, hx, hk => by
    intro _
    unfold oper_Join_T3
    have hlim : lim = 1099511627776 := rfl
    refine brn (fun hlt => ?_) (fun hge => ?_)
    · obtain ⟨m, rfl⟩ : ∃ m', m = m' + 1 := ⟨m - 1, by omega⟩
      obtain ⟨hs, hj'⟩ := hj.cons
      have hfl : fr < t.length := by
        by_cases c : fr < t.length
        · exact c
        · rw [List.drop_eq_nil_of_le (by omega)] at hs; cases hs
      have htail : (t.drop fr).tail = t.drop (fr + 1) := List.tail_drop
      have hB : blanksL (t.drop (fr + 1)) ≤ t.length - (fr + 1) := by have := takeWhile_le isB (t.drop (fr + 1)); rw [List.length_drop] at this; exact this
      generalize hb : blanksL (t.drop (fr + 1)) = b at *
      have hr : (t.drop (fr + 1)).drop b = t.drop (fr + 1 + b) := List.drop_drop
      have hW : wordL (t.drop (fr + 1 + b)) ≤ t.length - (fr + 1 + b) := by have := takeWhile_le (fun c => !decide (c = 10)) (t.drop (fr + 1 + b)); rw [List.length_drop] at this; exact this
      rw [joinL, htail, hb, hr] at hk
      rw [htail, hb, hr] at hj'
      dsimp only at hk
      rw [wrap_i64 (n := (fr : Int) + 1) (by omega) (by omega), show (fr : Int) + 1 = ((fr + 1 : Nat) : Int) by omega]
      intro _
      refine ⟨t.length + 1, oper_Join_l0 _ t hl e fr ba bl k i x6 _ (t.length + 1) (fr + 1) (by omega) (by omega) fun _ _ => ?_⟩
      rw [hb]
      refine ⟨t.length + 1, oper_Join_l1 _ t hl e fr ba bl _ k i x6 _ (t.length + 1) (fr + 1 + b) (by omega) (by omega) fun _ => ?_⟩
      generalize hw : wordL (t.drop (fr + 1 + b)) = w at *
      refine asrt ⟨by omega, by omega, by omega⟩ ⟨?_, fun r9 e9 _ => ?_⟩
      · show _ ≤ lim
        unfold slc; rw [List.length_drop, List.length_take]; omega
      replace e9 : r9 = (t.drop fr).take (b + 1) := by
        rw [e9]
        show slc t fr ((fr + 1 + b : Nat) : Int) = _
        unfold slc
        rw [Int.toNat_natCast, Int.toNat_natCast, List.drop_take]
        congr 1; omega
      subst r9
      have fin : ∀ new : List Int, new = newJ ba bl (t.drop (fr + 1 + b)) → (wfD oper_Join_d2 (t, e, ba, bl, ((fr + 1 + b : Nat) : Int), ((fr + 1 + b + w : Nat) : Int), k, i, x6, (xs, cur, rg, ho, ty), (e, (t.drop fr).take (b + 1), new), ()) →
          oper_Join_J2 (fun t0 e14 from16 bare17 blank18 x70 x71 x6b x11b => wfD oper_Join_d2n (t0, e14, from16, bare17, blank18, x70, x71, x6b, x11b, ()) → oper_Join_L3 kx0 n t0 e14 from16 bare17 blank18 x70 (IntKind.wrap .i64 (x71 + (1 : Int))) x6b x11b) t e ba bl ((fr + 1 + b : Nat) : Int) ((fr + 1 + b + w : Nat) : Int) k i x6 (xs, cur, rg, ho, ty) (e, (t.drop fr).take (b + 1), new)) := by
        intro new hnew _
        have hn1 : new.length ≤ 1 := by rw [hnew]; unfold newJ; split <;> simp
        rw [← hnew] at hk
        have go : ∀ (e' f' : Int) (ba' bl' : Bool), e' = e + ((new.length + w : Nat) : Int) → f' = ((fr + 1 + b + w : Nat) : Int) → ba' = (if 0 < w then false else if 0 < new.length then false else ba) →
            bl' = (if 0 < w then isB (rd (0 : Int) (t.drop (fr + 1 + b)) ((w : Int) - 1)) else if 0 < new.length then true else bl) →
            (wfD oper_Join_d2n (t, e', f', ba', bl', k, i, x6, (xs ++ [(e, (t.drop fr).take (b + 1), new)], e, rg, ho, ty), ()) → oper_Join_L3 kx0 n t e' f' ba' bl' k (IntKind.wrap .i64 (i + (1 : Int))) x6 (xs ++ [(e, (t.drop fr).take (b + 1), new)], e, rg, ho, ty)) := by
          intro e' f' ba' bl' h1 h2 h3 h4 _
          subst h2
          rw [wrap_i64 (n := i + 1) (by omega) (by omega)]
          refine oper_Join_l3 kx0 t hl k hk9 x6 rg ho ty n m (fr + 1 + b + w) e' ba' bl' (i + 1) _ e (by omega) (by omega) (by omega) (by omega) (by omega) (by omega) (by rw [← List.drop_drop]; exact hj') (by rw [List.length_append, List.length_singleton]; omega) ?_
          rw [List.append_assoc, h1, h3, h4, ← List.drop_drop (i := w) (j := fr + 1 + b)]
          exact hk
        unfold oper_Join_J2
        dsimp only
        have e14 : IntKind.wrap .i64 (e + IntKind.wrap .i64 (IntKind.wrap .i64 ((List.length new : Int) + ((fr + 1 + b + w : Nat) : Int)) - ((fr + 1 + b : Nat) : Int))) = e + ((new.length + w : Nat) : Int) := by
          rw [wrap_i64 (n := (List.length new : Int) + ((fr + 1 + b + w : Nat) : Int)) (by omega) (by omega), wrap_i64 (n := (List.length new : Int) + ((fr + 1 + b + w : Nat) : Int) - ((fr + 1 + b : Nat) : Int)) (by omega) (by omega), wrap_i64 (by omega) (by omega)]
          omega
        rw [e14]
        refine asrt (by rw [List.length_singleton]; omega) (brn (fun c1 => ?_) (fun c1 => brn (fun c2 => ?_) (fun c2 => ?_)))
        · rw [wrap_i64 (n := ((fr + 1 + b + w : Nat) : Int) - 1) (by omega) (by omega)]
          refine asrt ⟨by omega, by omega⟩ fun r10 e10 _ => ?_
          subst r10
          refine go _ _ _ _ rfl rfl (by rw [if_pos (by omega)]) ?_
          rw [if_pos (by omega), show ((fr + 1 + b + w : Nat) : Int) - 1 = ((fr + 1 + b : Nat) : Int) + ((w : Int) - 1) by omega, rd_drop0 t _ _ (by omega)]
          rfl
        · exact go _ _ _ _ rfl rfl (by rw [if_neg (by omega), if_pos (by omega)]) (by rw [if_neg (by omega), if_pos (by omega)])
        · exact go _ _ _ _ rfl rfl (by rw [if_neg (by omega), if_neg (by omega)]) (by rw [if_neg (by omega), if_neg (by omega)])
      have hrd : rd (0 : Int) t ((fr + 1 + b : Nat) : Int) = rd (0 : Int) (t.drop (fr + 1 + b)) 0 := by
        have := rd_drop0 t (fr + 1 + b) 0 (Int.le_refl _)
        rw [Int.add_zero] at this
        exact this
      have fin1 : (ba = false ∧ bl = false ∧ 0 < w ∧ rd (0 : Int) (t.drop (fr + 1 + b)) 0 ≠ 41) → [32] = newJ ba bl (t.drop (fr + 1 + b)) := fun hc => by
        unfold newJ; rw [hw, if_pos hc]
      have fin0 : ¬ (ba = false ∧ bl = false ∧ 0 < w ∧ rd (0 : Int) (t.drop (fr + 1 + b)) 0 ≠ 41) → [] = newJ ba bl (t.drop (fr + 1 + b)) := fun hc => by
        unfold newJ; rw [hw, if_neg hc]
      cases ba with
      | true => exact fin [] (fin0 fun hc => by cases hc.1)
      | false =>
        cases bl with
        | true => exact fin [] (fin0 fun hc => by cases hc.2.1)
        | false =>
          refine brn (fun c1 => asrt ⟨by omega, by omega⟩ ?_) (fun c1 => fin [] (fin0 fun hc => by have := hc.2.2.1; omega))
          rw [hrd]
          exact brx (fun c2 => fin [32] (fin1 ⟨rfl, rfl, by omega, c2⟩)) (fun c2 => fin [] (fin0 fun hc => hc.2.2.2 c2))
    · obtain rfl : m = 0 := by omega
      rw [joinL, List.append_nil] at hk
      exact hk
theorem oper_Join_sp (t : List Int) (p count : Int) (K : Res → List Cell → Prop) (_ : wfA oper_Join_A (t, p, count, ())) (hp : oper_Join_P t p count)
    (h : ∀ r : (List (Int × List Int × List Int) × Int × (Bool × Bool × List Int) × Int × Bool) × Int, r = oper_Join_F t p count → K (.tup [.v EfT r.1, .v (.int .i64) r.2]) []) : oper_Join_raw t p count K := by
  obtain ⟨hl, hp⟩ := hp
  unfold oper_Join_F at h
  unfold oper_Join_raw
  intro r1 e1 _
  subst r1
  refine brb (fun c1 => h (_, 2) (by rw [if_pos c1])) (fun c1 => ?_)
  obtain ⟨h9, p1, p2, p3, p4, p5⟩ := hp c1
  rw [if_neg (by rw [c1]; decide)] at h
  refine ⟨p1, fun r2 e2 _ => ⟨p2, fun r3 e3 _ => ?_⟩⟩
  subst r2 r3
  have hm : 2 ≤ mx count 2 ∧ mx count 2 ≤ 9999 := by
    unfold mx
    by_cases c : count < 2
    · rw [decide_eq_true c]; exact ⟨Int.le_refl _, by show (2 : Int) ≤ 9999; decide⟩
    · rw [decide_eq_false c]; exact ⟨by show 2 ≤ count; omega, h9⟩
  generalize mx count 2 = k at *
  rw [wrap_i64 (n := (lines_Of_F t p).1 + k) (by omega) (by omega)]
  refine brn (fun c2 => h (_, 190) (by rw [if_pos c2])) (fun c2 => ?_)
  rw [if_neg c2] at h
  obtain ⟨q1, q2, q3, q4, q5⟩ := p5 c2
  intro r4 e4 _
  subst r4
  refine ⟨q1, fun r5 e5 _ => ?_⟩
  subst r5
  generalize (lines_End_F t (lines_Of_F t p).1).1 = e at *
  generalize (lines_Start_F t (lines_Of_F t p).1).1 = s at *
  obtain ⟨E, rfl⟩ := Int.eq_ofNat_of_zero_le q2
  rw [Int.toNat_natCast] at q5 h
  rw [wrap_i64 (n := k - 1) (by omega) (by omega)]
  refine brx (fun c3 => ?_) (fun c3 => ?_)
  · have c3' : ¬ ((E : Int) = s) := c3
    have := q4 c3'
    rw [if_neg c3'] at h
    rw [wrap_i64 (n := (E : Int) - 1) (by omega) (by omega)]
    refine asrt ⟨by omega, by omega⟩ fun r6 e6 _ _ => ?_
    subst r6
    exact ⟨_, oper_Join_l3 _ t hl (k - 1) (by omega) _ (false, false, []) 0 false ((k - 1).toNat + 1) (k - 1).toNat E (E : Int) _ _ 0 [] 0 (Nat.lt_succ_self _) (by rw [Int.sub_zero]) (Int.le_refl _) (by omega) (by omega) (Int.le_refl _) q5 (by rw [List.length_nil]; omega) (fun _ => h (_, 0) rfl)⟩
  · have c3' : (E : Int) = s := c3
    rw [if_pos c3'] at h
    intro _
    exact ⟨_, oper_Join_l3 _ t hl (k - 1) (by omega) _ (false, false, []) 0 false ((k - 1).toNat + 1) (k - 1).toNat E (E : Int) _ _ 0 [] 0 (Nat.lt_succ_self _) (by rw [Int.sub_zero]) (Int.le_refl _) (by omega) (by omega) (Int.le_refl _) q5 (by rw [List.length_nil]; omega) (fun _ => h (_, 0) rfl)⟩

def oper_Join_C (v : valsA oper_Join_A) (K : Res → List Cell → Prop) : Prop := oper_Join_P v.1 v.2.1 v.2.2.1 ∧ ∀ r : EfD × Int, r = oper_Join_F v.1 v.2.1 v.2.2.1 → K (.tup [.v EfT r.1, .v (.int .i64) r.2]) []
def oper_Join_S : App := specW oper_Join_A oper_Join_C
theorem oper_Join_wv (K : Res → List Cell → Prop) : ∀ v : valsA oper_Join_A, runF tb1 (getG oper_Join_G) oper_Join_B3 Tryd.f78 [true, true] (mkA oper_Join_A v) K = oper_Join_raw v.1 v.2.1 v.2.2.1 K
  | (t0, at1, count2, ()) => oper_Join_walk t0 at1 count2 K
set_option maxRecDepth 20000 in
theorem oper_Join_ok : AppOk Tryd.prog 78 oper_Join_S :=
  AppOk.specW (spec_ok ((runF_ok tb_M tb1_ok oper_Join_Gok (oper_Join_b3) (f := 78) (fn := Tryd.f78) (by kernel_rfl) (by kernel_rfl) oper_Join_st [true, true])) fun v K hw h => (oper_Join_wv K v).mpr (oper_Join_sp v.1 v.2.1 v.2.2.1 K hw h.1 h.2))

end Go.VE
namespace Go.VE
open Go Go.Proofs
/-! ### quoin/oper.Enter -/
def oper_Enter_G : List (Nat × App) := [(65, lines_Of_S), (63, oper_within_S), (66, lines_First_S), (118, lines_End_S), (64, oper_edited_S), (31, lines_Start_S)]
theorem oper_Enter_Gok : GOk Tryd.prog (getG oper_Enter_G) := GOk.cons lines_Of_ok (GOk.cons oper_within_ok (GOk.cons lines_First_ok (GOk.cons lines_End_ok (GOk.cons oper_edited_ok (GOk.cons lines_Start_ok (GOk.nil))))))
theorem oper_Enter_st : storesC (bodyOf Tryd.f79) = true := by kernel_rfl
def oper_Enter_d0 : List LS := [.v 0 (.sl (.int .u8)), .v 1 (.int .i64), .b 6 48 [], .v 8 (.int .i64), .b 10 80 [], .v 24 (.str), .v 26 (.bool), .c 48 EfT, .c 80 EfT]
def oper_Enter_d0n : List LS := [.b 6 48 [], .b 10 80 [], .c 48 EfT, .c 80 EfT]
def oper_Enter_d0r : List LS := [.b 6 48 [], .v 7 (.int .i64), .c 48 EfT]
def oper_Enter_dx0 : DX := ⟨some oper_Enter_d0n, some oper_Enter_d0r, []⟩
def oper_Enter_J0 (kn : EfD → EfD → Prop) (kr : Int → EfD → Prop) (t0 : List Int) (at1 : Int) (line8 : Int) (x24 : List Int) (x26 : Bool) (x6b : EfD) (x10b : EfD) : Prop :=
 bif x26 then
 kn x6b x10b
 else
 bif (decide (x24 = ([97] : List Int))) then
 oper_within_P t0 at1 ∧ (
 ∀ (r2 : Bool), r2 = oper_within_F t0 at1 → (
 wfR (.one (.v (.bool) r2)) → (
 bif r2 then
 kn x6b (x10b.1, (IntKind.wrap .i64 (x10b.2.1 + (1 : Int))), x10b.2.2.1, x10b.2.2.2.1, x10b.2.2.2.2)
 else
 kn x6b x10b)))
 else
 bif (decide (x24 = ([73] : List Int))) then
 ∀ (r3 : Int × Int), r3 = lines_First_F t0 line8 → (
 wfR (.tup [.v (.int .i64) r3.1, .v (.int .i64) r3.2]) → (
 kn x6b (x10b.1, r3.1, x10b.2.2.1, x10b.2.2.2.1, x10b.2.2.2.2)))
 else
 bif (decide (x24 = ([65] : List Int))) then
 lines_End_P t0 line8 ∧ (
 ∀ (r4 : Int × Int), r4 = lines_End_F t0 line8 → (
 wfR (.tup [.v (.int .i64) r4.1, .v (.int .i64) r4.2]) → (
 kn x6b (x10b.1, r4.1, x10b.2.2.1, x10b.2.2.2.1, x10b.2.2.2.2))))
 else
 bif (decide (x24 = ([111] : List Int))) then
 lines_End_P t0 line8 ∧ (
 ∀ (r5 : Int × Int), r5 = lines_End_F t0 line8 → (
 wfR (.tup [.v (.int .i64) r5.1, .v (.int .i64) r5.2]) → (
 oper_edited_P t0 r5.1 r5.1 ([(10 : Int)] : List Int) ∧ (
 ∀ (r6 : List ((Int × List Int × List Int))), r6 = oper_edited_F t0 r5.1 r5.1 ([(10 : Int)] : List Int) → (
 wfR (.one (.fr 95 (.st (.pair (.int .i64) (.pair (.sl (.int .u8)) (.sl (.int .u8))))) r6)) → (
 kn x6b (r6, (IntKind.wrap .i64 (r5.1 + (1 : Int))), x10b.2.2.1, x10b.2.2.2.1, x10b.2.2.2.2)))))))
 else
 bif (decide (x24 = ([79] : List Int))) then
 ∀ (r7 : Int × Int), r7 = lines_Start_F t0 line8 → (
 wfR (.tup [.v (.int .i64) r7.1, .v (.int .i64) r7.2]) → (
 oper_edited_P t0 r7.1 r7.1 ([(10 : Int)] : List Int) ∧ (
 ∀ (r8 : List ((Int × List Int × List Int))), r8 = oper_edited_F t0 r7.1 r7.1 ([(10 : Int)] : List Int) → (
 wfR (.one (.fr 95 (.st (.pair (.int .i64) (.pair (.sl (.int .u8)) (.sl (.int .u8))))) r8)) → (
 kn x6b (r8, r7.1, x10b.2.2.1, x10b.2.2.2.1, x10b.2.2.2.2))))))
 else
 kr (2 : Int) (([] : List ((Int × List Int × List Int))), (0 : Int), (false, false, ([] : List Int)), (0 : Int), false)
theorem oper_Enter_s0 (k : Ex → St → Prop) (t0 : List Int) (at1 : Int) (line8 : Int) (x24 : List Int) (x26 : Bool) (x6b : EfD) (x10b : EfD) :
    ex tb (getG oper_Enter_G) [] (at' (bodyOf Tryd.f79) [1, 0, 1, 0, 1, 1, 1, 1]) [1, 0, 1, 0, 1, 1, 1, 1] (mkD 91 oper_Enter_d0 (t0, at1, line8, x24, x26, x6b, x10b, ())) (wk 91 oper_Enter_dx0 k) =
    oper_Enter_J0 (fun x6b x10b => wfD oper_Enter_d0n (x6b, x10b, ()) → k .nrm (mkD 91 oper_Enter_d0n (x6b, x10b, ()))) (fun x7 x6b => wfD oper_Enter_d0r (x7, x6b, ()) → k .ret (mkD 91 oper_Enter_d0r (x7, x6b, ()))) t0 at1 line8 x24 x26 x6b x10b := by kernel_rfl
theorem oper_Enter_v0 (k : Ex → St → Prop) : ∀ v : vals oper_Enter_d0, ex tb (getG oper_Enter_G) [] (at' (bodyOf Tryd.f79) [1, 0, 1, 0, 1, 1, 1, 1]) [1, 0, 1, 0, 1, 1, 1, 1] (mkD 91 oper_Enter_d0 v) (wk 91 oper_Enter_dx0 k) = oper_Enter_J0 (fun x6b x10b => wfD oper_Enter_d0n (x6b, x10b, ()) → k .nrm (mkD 91 oper_Enter_d0n (x6b, x10b, ()))) (fun x7 x6b => wfD oper_Enter_d0r (x7, x6b, ()) → k .ret (mkD 91 oper_Enter_d0r (x7, x6b, ()))) v.1 v.2.1 v.2.2.1 v.2.2.2.1 v.2.2.2.2.1 v.2.2.2.2.2.1 v.2.2.2.2.2.2.1
  | (t0, at1, line8, x24, x26, x6b, x10b, ()) => oper_Enter_s0 k t0 at1 line8 x24 x26 x6b x10b
def oper_Enter_X0 : Pce := fun st k => ckD 91 oper_Enter_d0 st fun v => wfD oper_Enter_d0 v → oper_Enter_J0 (fun x6b x10b => wfD oper_Enter_d0n (x6b, x10b, ()) → k .nrm (mkD 91 oper_Enter_d0n (x6b, x10b, ()))) (fun x7 x6b => wfD oper_Enter_d0r (x7, x6b, ()) → k .ret (mkD 91 oper_Enter_d0r (x7, x6b, ()))) v.1 v.2.1 v.2.2.1 v.2.2.2.1 v.2.2.2.2.1 v.2.2.2.2.2.1 v.2.2.2.2.2.2.1
set_option maxRecDepth 20000 in
theorem oper_Enter_x0 : SemOk Tryd.prog (at' (bodyOf Tryd.f79) [1, 0, 1, 0, 1, 1, 1, 1]) oper_Enter_X0 :=
  (SemOk.wk (N := 91) (ds := oper_Enter_d0) (dx := oper_Enter_dx0) (ex_sound tb_M tb_ok oper_Enter_Gok (LabsOk.nil) (at' (bodyOf Tryd.f79) [1, 0, 1, 0, 1, 1, 1, 1]) [1, 0, 1, 0, 1, 1, 1, 1] rfl (storesC_at oper_Enter_st [1, 0, 1, 0, 1, 1, 1, 1]))).mono fun st k h => ckD_mono h fun v hv hw => Eq.mpr (oper_Enter_v0 k v) (hv hw)
def oper_Enter_B0 : Labs := ([1, 0, 1, 0, 1, 1, 1, 1], oper_Enter_X0) :: []
theorem oper_Enter_b0 : LabsOk Tryd.prog (bodyOf Tryd.f79) oper_Enter_B0 := LabsOk.cons oper_Enter_x0 (LabsOk.nil)
def oper_Enter_d1 : List LS := [.b 6 48 [], .b 10 80 [], .c 48 EfT, .c 80 EfT]
def oper_Enter_d1r : List LS := [.b 6 48 [], .v 7 (.int .i64), .c 48 EfT]
def oper_Enter_dx1 : DX := ⟨none, some oper_Enter_d1r, []⟩
def oper_Enter_J1 (kr : Int → EfD → Prop) (x6b : EfD) (x10b : EfD) : Prop :=
 kr (0 : Int) x10b
theorem oper_Enter_s1 (k : Ex → St → Prop) (x6b : EfD) (x10b : EfD) :
    ex tb (getG oper_Enter_G) oper_Enter_B0 (at' (bodyOf Tryd.f79) [1, 1, 1, 1, 1]) [1, 1, 1, 1, 1] (mkD 91 oper_Enter_d1 (x6b, x10b, ())) (wk 91 oper_Enter_dx1 k) =
    oper_Enter_J1 (fun x7 x6b => wfD oper_Enter_d1r (x7, x6b, ()) → k .ret (mkD 91 oper_Enter_d1r (x7, x6b, ()))) x6b x10b := by kernel_rfl
theorem oper_Enter_v1 (k : Ex → St → Prop) : ∀ v : vals oper_Enter_d1, ex tb (getG oper_Enter_G) oper_Enter_B0 (at' (bodyOf Tryd.f79) [1, 1, 1, 1, 1]) [1, 1, 1, 1, 1] (mkD 91 oper_Enter_d1 v) (wk 91 oper_Enter_dx1 k) = oper_Enter_J1 (fun x7 x6b => wfD oper_Enter_d1r (x7, x6b, ()) → k .ret (mkD 91 oper_Enter_d1r (x7, x6b, ()))) v.1 v.2.1
  | (x6b, x10b, ()) => oper_Enter_s1 k x6b x10b
def oper_Enter_X1 : Pce := fun st k => ckD 91 oper_Enter_d1 st fun v => wfD oper_Enter_d1 v → oper_Enter_J1 (fun x7 x6b => wfD oper_Enter_d1r (x7, x6b, ()) → k .ret (mkD 91 oper_Enter_d1r (x7, x6b, ()))) v.1 v.2.1
set_option maxRecDepth 20000 in
theorem oper_Enter_x1 : SemOk Tryd.prog (at' (bodyOf Tryd.f79) [1, 1, 1, 1, 1]) oper_Enter_X1 :=
  (SemOk.wk (N := 91) (ds := oper_Enter_d1) (dx := oper_Enter_dx1) (ex_sound tb_M tb_ok oper_Enter_Gok (oper_Enter_b0) (at' (bodyOf Tryd.f79) [1, 1, 1, 1, 1]) [1, 1, 1, 1, 1] rfl (storesC_at oper_Enter_st [1, 1, 1, 1, 1]))).mono fun st k h => ckD_mono h fun v hv hw => Eq.mpr (oper_Enter_v1 k v) (hv hw)
def oper_Enter_B1 : Labs := ([1, 1, 1, 1, 1], oper_Enter_X1) :: oper_Enter_B0
theorem oper_Enter_b1 : LabsOk Tryd.prog (bodyOf Tryd.f79) oper_Enter_B1 := LabsOk.cons oper_Enter_x1 (oper_Enter_b0)
def oper_Enter_raw (t0 : List Int) (at1 : Int) (key2 : List Int) (K : Res → List Cell → Prop) : Prop :=
 lines_Of_P t0 at1 ∧ (
 ∀ (r1 : Int × Int), r1 = lines_Of_F t0 at1 → (
 wfR (.tup [.v (.int .i64) r1.1, .v (.int .i64) r1.2]) → (
 bif (!decide (r1.2 = (0 : Int))) then
 K (.tup [.v EfT (([] : List ((Int × List Int × List Int))), (0 : Int), (false, false, ([] : List Int)), (0 : Int), false), .v (.int .i64) (2 : Int)]) []
 else
 bif (decide (key2 = ([105] : List Int))) then
 (wfD oper_Enter_d0 (t0, at1, r1.1, key2, (decide (key2 = ([105] : List Int))), (([] : List ((Int × List Int × List Int))), (0 : Int), (false, false, ([] : List Int)), (0 : Int), false), (([] : List ((Int × List Int × List Int))), at1, (false, false, ([] : List Int)), (0 : Int), true), ()) → oper_Enter_J0 (fun (x6b : EfD) (x10b : EfD) => wfD oper_Enter_d0n (x6b, x10b, ()) → (
 (wfD oper_Enter_d1 (x6b, x10b, ()) → oper_Enter_J1 (fun (x7 : Int) (x6b : EfD) => wfD oper_Enter_d1r (x7, x6b, ()) → (
 K (.tup [.v EfT x6b, .v (.int .i64) x7]) [])) x6b x10b))) (fun (x7 : Int) (x6b : EfD) => wfD oper_Enter_d0r (x7, x6b, ()) → (
 K (.tup [.v EfT x6b, .v (.int .i64) x7]) [])) t0 at1 r1.1 key2 (decide (key2 = ([105] : List Int))) (([] : List ((Int × List Int × List Int))), (0 : Int), (false, false, ([] : List Int)), (0 : Int), false) (([] : List ((Int × List Int × List Int))), at1, (false, false, ([] : List Int)), (0 : Int), true))
 else
 (wfD oper_Enter_d0 (t0, at1, r1.1, key2, (decide (key2 = ([82] : List Int))), (([] : List ((Int × List Int × List Int))), (0 : Int), (false, false, ([] : List Int)), (0 : Int), false), (([] : List ((Int × List Int × List Int))), at1, (false, false, ([] : List Int)), (0 : Int), true), ()) → oper_Enter_J0 (fun (x6b : EfD) (x10b : EfD) => wfD oper_Enter_d0n (x6b, x10b, ()) → (
 (wfD oper_Enter_d1 (x6b, x10b, ()) → oper_Enter_J1 (fun (x7 : Int) (x6b : EfD) => wfD oper_Enter_d1r (x7, x6b, ()) → (
 K (.tup [.v EfT x6b, .v (.int .i64) x7]) [])) x6b x10b))) (fun (x7 : Int) (x6b : EfD) => wfD oper_Enter_d0r (x7, x6b, ()) → (
 K (.tup [.v EfT x6b, .v (.int .i64) x7]) [])) t0 at1 r1.1 key2 (decide (key2 = ([82] : List Int))) (([] : List ((Int × List Int × List Int))), (0 : Int), (false, false, ([] : List Int)), (0 : Int), false) (([] : List ((Int × List Int × List Int))), at1, (false, false, ([] : List Int)), (0 : Int), true)))))
def oper_Enter_A : List AS := [.v (.sl (.int .u8)), .v (.int .i64), .v (.str)]
theorem oper_Enter_walk (t0 : List Int) (at1 : Int) (key2 : List Int) (K : Res → List Cell → Prop) : runF tb (getG oper_Enter_G) oper_Enter_B1 Tryd.f79 [true, true] (mkA oper_Enter_A (t0, at1, key2, ())) K = oper_Enter_raw t0 at1 key2 K := by kernel_rfl

def oper_Enter_J0_P (t0 : List Int) (at1 : Int) (line8 : Int) (x24 : List Int) (x26 : Bool) (x6b : EfD) (x10b : EfD) : Prop :=
 bif x26 then
 True
 else
 bif (decide (x24 = ([97] : List Int))) then
 oper_within_P t0 at1
 else
 bif (decide (x24 = ([73] : List Int))) then
 True
 else
 bif (decide (x24 = ([65] : List Int))) then
 lines_End_P t0 line8
 else
 bif (decide (x24 = ([111] : List Int))) then
 lines_End_P t0 line8 ∧ (
 let r5 : Int × Int := lines_End_F t0 line8
 oper_edited_P t0 r5.1 r5.1 ([(10 : Int)] : List Int))
 else
 bif (decide (x24 = ([79] : List Int))) then
 let r7 : Int × Int := lines_Start_F t0 line8
 oper_edited_P t0 r7.1 r7.1 ([(10 : Int)] : List Int)
 else
 True
def oper_Enter_J0_F (t0 : List Int) (at1 : Int) (line8 : Int) (x24 : List Int) (x26 : Bool) (x6b : EfD) (x10b : EfD) : (EfD × EfD) ⊕ (Int × EfD) :=
 bif x26 then
 .inl (x6b, x10b)
 else
 bif (decide (x24 = ([97] : List Int))) then
 let r2 : Bool := oper_within_F t0 at1
 bif r2 then
 .inl (x6b, (x10b.1, (IntKind.wrap .i64 (x10b.2.1 + (1 : Int))), x10b.2.2.1, x10b.2.2.2.1, x10b.2.2.2.2))
 else
 .inl (x6b, x10b)
 else
 bif (decide (x24 = ([73] : List Int))) then
 let r3 : Int × Int := lines_First_F t0 line8
 .inl (x6b, (x10b.1, r3.1, x10b.2.2.1, x10b.2.2.2.1, x10b.2.2.2.2))
 else
 bif (decide (x24 = ([65] : List Int))) then
 let r4 : Int × Int := lines_End_F t0 line8
 .inl (x6b, (x10b.1, r4.1, x10b.2.2.1, x10b.2.2.2.1, x10b.2.2.2.2))
 else
 bif (decide (x24 = ([111] : List Int))) then
 let r5 : Int × Int := lines_End_F t0 line8
 let r6 : List ((Int × List Int × List Int)) := oper_edited_F t0 r5.1 r5.1 ([(10 : Int)] : List Int)
 .inl (x6b, (r6, (IntKind.wrap .i64 (r5.1 + (1 : Int))), x10b.2.2.1, x10b.2.2.2.1, x10b.2.2.2.2))
 else
 bif (decide (x24 = ([79] : List Int))) then
 let r7 : Int × Int := lines_Start_F t0 line8
 let r8 : List ((Int × List Int × List Int)) := oper_edited_F t0 r7.1 r7.1 ([(10 : Int)] : List Int)
 .inl (x6b, (r8, r7.1, x10b.2.2.1, x10b.2.2.2.1, x10b.2.2.2.2))
 else
 .inr ((2 : Int), (([] : List ((Int × List Int × List Int))), (0 : Int), (false, false, ([] : List Int)), (0 : Int), false))
set_option maxRecDepth 20000 in
theorem oper_Enter_J0_sp (kn : EfD → EfD → Prop) (kr : Int → EfD → Prop) (t0 : List Int) (at1 : Int) (line8 : Int) (x24 : List Int) (x26 : Bool) (x6b : EfD) (x10b : EfD) (hp : oper_Enter_J0_P t0 at1 line8 x24 x26 x6b x10b) (hn : ∀ q : EfD × EfD, oper_Enter_J0_F t0 at1 line8 x24 x26 x6b x10b = .inl q → kn q.1 q.2) (hr : ∀ q : Int × EfD, oper_Enter_J0_F t0 at1 line8 x24 x26 x6b x10b = .inr q → kr q.1 q.2) : oper_Enter_J0 kn kr t0 at1 line8 x24 x26 x6b x10b := by
  unfold oper_Enter_J0
  unfold oper_Enter_J0_P at hp
  refine brb (fun c_1 => ?_) (fun c_1 => ?_)
  ·
    clear hp
    have e := hn _ ((ctrue c_1) : oper_Enter_J0_F t0 at1 line8 x24 x26 x6b x10b = _)
    exact e
  ·
    replace hp := cF c_1 hp
    refine brb (fun c_2 => ?_) (fun c_2 => ?_)
    ·
      replace hp := cT c_2 hp
      refine ⟨hp, ?_⟩
      intro r2 hr2
      subst r2
      intro _
      refine brb (fun c_3 => ?_) (fun c_3 => ?_)
      ·
        have e := hn _ ((Eq.trans (cfalse c_1) (Eq.trans (ctrue c_2) (ctrue c_3))) : oper_Enter_J0_F t0 at1 line8 x24 x26 x6b x10b = _)
        exact e
      ·
        have e := hn _ ((Eq.trans (cfalse c_1) (Eq.trans (ctrue c_2) (cfalse c_3))) : oper_Enter_J0_F t0 at1 line8 x24 x26 x6b x10b = _)
        exact e
    ·
      replace hp := cF c_2 hp
      refine brb (fun c_4 => ?_) (fun c_4 => ?_)
      ·
        clear hp
        intro r3 hr3
        subst r3
        intro _
        have e := hn _ ((Eq.trans (cfalse c_1) (Eq.trans (cfalse c_2) (ctrue c_4))) : oper_Enter_J0_F t0 at1 line8 x24 x26 x6b x10b = _)
        exact e
      ·
        replace hp := cF c_4 hp
        refine brb (fun c_5 => ?_) (fun c_5 => ?_)
        ·
          replace hp := cT c_5 hp
          refine ⟨hp, ?_⟩
          intro r4 hr4
          subst r4
          intro _
          have e := hn _ ((Eq.trans (cfalse c_1) (Eq.trans (cfalse c_2) (Eq.trans (cfalse c_4) (ctrue c_5)))) : oper_Enter_J0_F t0 at1 line8 x24 x26 x6b x10b = _)
          exact e
        ·
          replace hp := cF c_5 hp
          refine brb (fun c_6 => ?_) (fun c_6 => ?_)
          ·
            replace hp := cT c_6 hp
            refine ⟨hp.1, ?_⟩
            replace hp := hp.2
            intro r5 hr5
            subst r5
            intro _
            refine ⟨hp, ?_⟩
            intro r6 hr6
            subst r6
            intro _
            have e := hn _ ((Eq.trans (cfalse c_1) (Eq.trans (cfalse c_2) (Eq.trans (cfalse c_4) (Eq.trans (cfalse c_5) (ctrue c_6))))) : oper_Enter_J0_F t0 at1 line8 x24 x26 x6b x10b = _)
            exact e
          ·
            replace hp := cF c_6 hp
            refine brb (fun c_7 => ?_) (fun c_7 => ?_)
            ·
              replace hp := cT c_7 hp
              intro r7 hr7
              subst r7
              intro _
              refine ⟨hp, ?_⟩
              intro r8 hr8
              subst r8
              intro _
              have e := hn _ ((Eq.trans (cfalse c_1) (Eq.trans (cfalse c_2) (Eq.trans (cfalse c_4) (Eq.trans (cfalse c_5) (Eq.trans (cfalse c_6) (ctrue c_7)))))) : oper_Enter_J0_F t0 at1 line8 x24 x26 x6b x10b = _)
              exact e
            ·
              clear hp
              have e := hr _ ((Eq.trans (cfalse c_1) (Eq.trans (cfalse c_2) (Eq.trans (cfalse c_4) (Eq.trans (cfalse c_5) (Eq.trans (cfalse c_6) (cfalse c_7)))))) : oper_Enter_J0_F t0 at1 line8 x24 x26 x6b x10b = _)
              exact e
def oper_Enter_J1_F (x6b : EfD) (x10b : EfD) : Int × EfD :=
 ((0 : Int), x10b)
set_option maxRecDepth 20000 in
theorem oper_Enter_J1_sp (kr : Int → EfD → Prop) (x6b : EfD) (x10b : EfD) (hr : ∀ q : Int × EfD, q = oper_Enter_J1_F x6b x10b → kr q.1 q.2) : oper_Enter_J1 kr x6b x10b := by
  unfold oper_Enter_J1
  exact hr _ rfl
def oper_Enter_P (t0 : List Int) (at1 : Int) (key2 : List Int) : Prop :=
 lines_Of_P t0 at1 ∧ (
 let r1 : Int × Int := lines_Of_F t0 at1
 bif (!decide (r1.2 = (0 : Int))) then
 True
 else
 bif (decide (key2 = ([105] : List Int))) then
 oper_Enter_J0_P t0 at1 r1.1 key2 (decide (key2 = ([105] : List Int))) (([] : List ((Int × List Int × List Int))), (0 : Int), (false, false, ([] : List Int)), (0 : Int), false) (([] : List ((Int × List Int × List Int))), at1, (false, false, ([] : List Int)), (0 : Int), true)
 else
 oper_Enter_J0_P t0 at1 r1.1 key2 (decide (key2 = ([82] : List Int))) (([] : List ((Int × List Int × List Int))), (0 : Int), (false, false, ([] : List Int)), (0 : Int), false) (([] : List ((Int × List Int × List Int))), at1, (false, false, ([] : List Int)), (0 : Int), true))
def oper_Enter_F (t0 : List Int) (at1 : Int) (key2 : List Int) : EfD × Int :=
 let r1 : Int × Int := lines_Of_F t0 at1
 bif (!decide (r1.2 = (0 : Int))) then
 ((([] : List ((Int × List Int × List Int))), (0 : Int), (false, false, ([] : List Int)), (0 : Int), false), (2 : Int))
 else
 bif (decide (key2 = ([105] : List Int))) then
 Sum.elim (fun q0n =>
 let x6b : EfD := q0n.1
 let x10b : EfD := q0n.2
 let q1r : Int × EfD := oper_Enter_J1_F x6b x10b
 let x7 : Int := q1r.1
 let x6b : EfD := q1r.2
 (x6b, x7)) (fun q0r =>
 let x7 : Int := q0r.1
 let x6b : EfD := q0r.2
 (x6b, x7)) (oper_Enter_J0_F t0 at1 r1.1 key2 (decide (key2 = ([105] : List Int))) (([] : List ((Int × List Int × List Int))), (0 : Int), (false, false, ([] : List Int)), (0 : Int), false) (([] : List ((Int × List Int × List Int))), at1, (false, false, ([] : List Int)), (0 : Int), true))
 else
 Sum.elim (fun q0n =>
 let x6b : EfD := q0n.1
 let x10b : EfD := q0n.2
 let q1r : Int × EfD := oper_Enter_J1_F x6b x10b
 let x7 : Int := q1r.1
 let x6b : EfD := q1r.2
 (x6b, x7)) (fun q0r =>
 let x7 : Int := q0r.1
 let x6b : EfD := q0r.2
 (x6b, x7)) (oper_Enter_J0_F t0 at1 r1.1 key2 (decide (key2 = ([82] : List Int))) (([] : List ((Int × List Int × List Int))), (0 : Int), (false, false, ([] : List Int)), (0 : Int), false) (([] : List ((Int × List Int × List Int))), at1, (false, false, ([] : List Int)), (0 : Int), true))
set_option maxRecDepth 20000 in
theorem oper_Enter_sp (t0 : List Int) (at1 : Int) (key2 : List Int) (K : Res → List Cell → Prop) (_ : wfA oper_Enter_A (t0, at1, key2, ())) (hp : oper_Enter_P t0 at1 key2) (h : ∀ r : EfD × Int, r = oper_Enter_F t0 at1 key2 → K (.tup [.v EfT r.1, .v (.int .i64) r.2]) []) : oper_Enter_raw t0 at1 key2 K := by
  unfold oper_Enter_raw
  unfold oper_Enter_P at hp
  refine ⟨hp.1, ?_⟩
  replace hp := hp.2
  intro r1 hr1
  subst r1
  intro _
  refine brb (fun c_8 => ?_) (fun c_8 => ?_)
  ·
    clear hp
    have e := h _ ((ctrue c_8) : oper_Enter_F t0 at1 key2 = _).symm
    exact e
  ·
    replace hp := cF c_8 hp
    refine brb (fun c_9 => ?_) (fun c_9 => ?_)
    ·
      replace hp := cT c_9 hp
      refine fun _ => oper_Enter_J0_sp _ _ _ _ _ _ _ _ _ hp (fun q hq => ?_) (fun q hq => ?_)
      ·
        have e_10 := hq
        intro _
        clear hp
        refine fun _ => oper_Enter_J1_sp _ _ _ (fun q hq => ?_)
        subst hq
        intro _
        have e := h _ ((Eq.trans (cfalse c_8) (Eq.trans (ctrue c_9) (selL e_10))) : oper_Enter_F t0 at1 key2 = _).symm
        exact e
      ·
        have e_11 := hq
        intro _
        clear hp
        have e := h _ ((Eq.trans (cfalse c_8) (Eq.trans (ctrue c_9) (selR e_11))) : oper_Enter_F t0 at1 key2 = _).symm
        exact e
    ·
      replace hp := cF c_9 hp
      refine fun _ => oper_Enter_J0_sp _ _ _ _ _ _ _ _ _ hp (fun q hq => ?_) (fun q hq => ?_)
      ·
        have e_12 := hq
        intro _
        clear hp
        refine fun _ => oper_Enter_J1_sp _ _ _ (fun q hq => ?_)
        subst hq
        intro _
        have e := h _ ((Eq.trans (cfalse c_8) (Eq.trans (cfalse c_9) (selL e_12))) : oper_Enter_F t0 at1 key2 = _).symm
        exact e
      ·
        have e_13 := hq
        intro _
        clear hp
        have e := h _ ((Eq.trans (cfalse c_8) (Eq.trans (cfalse c_9) (selR e_13))) : oper_Enter_F t0 at1 key2 = _).symm
        exact e
def oper_Enter_C (v : valsA oper_Enter_A) (K : Res → List Cell → Prop) : Prop := oper_Enter_P v.1 v.2.1 v.2.2.1 ∧ ∀ r : EfD × Int, r = oper_Enter_F v.1 v.2.1 v.2.2.1 → K (.tup [.v EfT r.1, .v (.int .i64) r.2]) []
def oper_Enter_S : App := specW oper_Enter_A oper_Enter_C
theorem oper_Enter_wv (K : Res → List Cell → Prop) : ∀ v : valsA oper_Enter_A, runF tb (getG oper_Enter_G) oper_Enter_B1 Tryd.f79 [true, true] (mkA oper_Enter_A v) K = oper_Enter_raw v.1 v.2.1 v.2.2.1 K
  | (t0, at1, key2, ()) => oper_Enter_walk t0 at1 key2 K
set_option maxRecDepth 20000 in
theorem oper_Enter_ok : AppOk Tryd.prog 79 oper_Enter_S :=
  AppOk.specW (spec_ok ((runF_ok tb_M tb_ok oper_Enter_Gok (oper_Enter_b1) (f := 79) (fn := Tryd.f79) (by kernel_rfl) (by kernel_rfl) oper_Enter_st [true, true])) fun v K hw h => (oper_Enter_wv K v).mpr (oper_Enter_sp v.1 v.2.1 v.2.2.1 K hw h.1 h.2))

end Go.VE
namespace Go.VE
open Go Go.Proofs
/-! ### quoin/quoinlaw19.small -/
def qo_small_G : List (Nat × App) := [(76, oper_Over_S), (77, oper_Turn_S), (78, oper_Join_S), (79, oper_Enter_S)]
theorem qo_small_Gok : GOk Tryd.prog (getG qo_small_G) := GOk.cons oper_Over_ok (GOk.cons oper_Turn_ok (GOk.cons oper_Join_ok (GOk.cons oper_Enter_ok (GOk.nil))))
def qo_small_raw (t0 : List Int) (a1 : (Int × Int × Int × Int × List Int)) (K : Res → List Cell → Prop) : Prop :=
 bif (decide (a1.1 = (0 : Int))) then
 oper_Over_P t0 a1.2.1 a1.2.2.1 a1.2.2.2.1 ∧ (
 ∀ (r1 : EfD × Int), r1 = oper_Over_F t0 a1.2.1 a1.2.2.1 a1.2.2.2.1 → (
 wfR (.tup [.v EfT r1.1, .v (.int .i64) r1.2]) → (
 K (.tup [.v EfT r1.1, .v (.int .i64) r1.2]) [])))
 else
 bif (decide (a1.1 = (1 : Int))) then
 oper_Turn_P t0 a1.2.1 a1.2.2.1 ∧ (
 ∀ (r2 : EfD × Int), r2 = oper_Turn_F t0 a1.2.1 a1.2.2.1 → (
 wfR (.tup [.v EfT r2.1, .v (.int .i64) r2.2]) → (
 K (.tup [.v EfT r2.1, .v (.int .i64) r2.2]) [])))
 else
 bif (decide (a1.1 = (2 : Int))) then
 oper_Join_P t0 a1.2.1 a1.2.2.1 ∧ (
 ∀ (r3 : EfD × Int), r3 = oper_Join_F t0 a1.2.1 a1.2.2.1 → (
 wfR (.tup [.v EfT r3.1, .v (.int .i64) r3.2]) → (
 K (.tup [.v EfT r3.1, .v (.int .i64) r3.2]) [])))
 else
 oper_Enter_P t0 a1.2.1 a1.2.2.2.2 ∧ (
 ∀ (r4 : EfD × Int), r4 = oper_Enter_F t0 a1.2.1 a1.2.2.2.2 → (
 wfR (.tup [.v EfT r4.1, .v (.int .i64) r4.2]) → (
 K (.tup [.v EfT r4.1, .v (.int .i64) r4.2]) [])))
def qo_small_A : List AS := [.v (.sl (.int .u8)), .v (.st (.pair (.int .i64) (.pair (.int .i64) (.pair (.int .i64) (.pair (.int .u8) (.str))))))]
theorem qo_small_walk (t0 : List Int) (a1 : (Int × Int × Int × Int × List Int)) (K : Res → List Cell → Prop) : runF tb (getG qo_small_G) [] Tryd.f36 [true, true] (mkA qo_small_A (t0, a1, ())) K = qo_small_raw t0 a1 K := by kernel_rfl

def qo_small_P (t0 : List Int) (a1 : (Int × Int × Int × Int × List Int)) : Prop :=
 bif (decide (a1.1 = (0 : Int))) then
 oper_Over_P t0 a1.2.1 a1.2.2.1 a1.2.2.2.1
 else
 bif (decide (a1.1 = (1 : Int))) then
 oper_Turn_P t0 a1.2.1 a1.2.2.1
 else
 bif (decide (a1.1 = (2 : Int))) then
 oper_Join_P t0 a1.2.1 a1.2.2.1
 else
 oper_Enter_P t0 a1.2.1 a1.2.2.2.2
def qo_small_F (t0 : List Int) (a1 : (Int × Int × Int × Int × List Int)) : EfD × Int :=
 bif (decide (a1.1 = (0 : Int))) then
 let r1 : EfD × Int := oper_Over_F t0 a1.2.1 a1.2.2.1 a1.2.2.2.1
 (r1.1, r1.2)
 else
 bif (decide (a1.1 = (1 : Int))) then
 let r2 : EfD × Int := oper_Turn_F t0 a1.2.1 a1.2.2.1
 (r2.1, r2.2)
 else
 bif (decide (a1.1 = (2 : Int))) then
 let r3 : EfD × Int := oper_Join_F t0 a1.2.1 a1.2.2.1
 (r3.1, r3.2)
 else
 let r4 : EfD × Int := oper_Enter_F t0 a1.2.1 a1.2.2.2.2
 (r4.1, r4.2)
set_option maxRecDepth 20000 in
theorem qo_small_sp (t0 : List Int) (a1 : (Int × Int × Int × Int × List Int)) (K : Res → List Cell → Prop) (_ : wfA qo_small_A (t0, a1, ())) (hp : qo_small_P t0 a1) (h : ∀ r : EfD × Int, r = qo_small_F t0 a1 → K (.tup [.v EfT r.1, .v (.int .i64) r.2]) []) : qo_small_raw t0 a1 K := by
  unfold qo_small_raw
  unfold qo_small_P at hp
  refine brb (fun c_1 => ?_) (fun c_1 => ?_)
  ·
    replace hp := cT c_1 hp
    refine ⟨hp, ?_⟩
    intro r1 hr1
    subst r1
    intro _
    have e := h _ ((ctrue c_1) : qo_small_F t0 a1 = _).symm
    exact e
  ·
    replace hp := cF c_1 hp
    refine brb (fun c_2 => ?_) (fun c_2 => ?_)
    ·
      replace hp := cT c_2 hp
      refine ⟨hp, ?_⟩
      intro r2 hr2
      subst r2
      intro _
      have e := h _ ((Eq.trans (cfalse c_1) (ctrue c_2)) : qo_small_F t0 a1 = _).symm
      exact e
    ·
      replace hp := cF c_2 hp
      refine brb (fun c_3 => ?_) (fun c_3 => ?_)
      ·
        replace hp := cT c_3 hp
        refine ⟨hp, ?_⟩
        intro r3 hr3
        subst r3
        intro _
        have e := h _ ((Eq.trans (cfalse c_1) (Eq.trans (cfalse c_2) (ctrue c_3))) : qo_small_F t0 a1 = _).symm
        exact e
      ·
        replace hp := cF c_3 hp
        refine ⟨hp, ?_⟩
        intro r4 hr4
        subst r4
        intro _
        have e := h _ ((Eq.trans (cfalse c_1) (Eq.trans (cfalse c_2) (cfalse c_3))) : qo_small_F t0 a1 = _).symm
        exact e
def qo_small_C (v : valsA qo_small_A) (K : Res → List Cell → Prop) : Prop := qo_small_P v.1 v.2.1 ∧ ∀ r : EfD × Int, r = qo_small_F v.1 v.2.1 → K (.tup [.v EfT r.1, .v (.int .i64) r.2]) []
def qo_small_S : App := specW qo_small_A qo_small_C
theorem qo_small_wv (K : Res → List Cell → Prop) : ∀ v : valsA qo_small_A, runF tb (getG qo_small_G) [] Tryd.f36 [true, true] (mkA qo_small_A v) K = qo_small_raw v.1 v.2.1 K
  | (t0, a1, ()) => qo_small_walk t0 a1 K
set_option maxRecDepth 20000 in
theorem qo_small_ok : AppOk Tryd.prog 36 qo_small_S :=
  AppOk.specW (spec_ok ((runF_ok tb_M tb_ok qo_small_Gok (LabsOk.nil) (f := 36) (fn := Tryd.f36) (by kernel_rfl) (by kernel_rfl) (by kernel_rfl) [true, true])) fun v K hw h => (qo_small_wv K v).mpr (qo_small_sp v.1 v.2.1 K hw h.1 h.2))

end Go.VE
namespace Go.VE
theorem fine_ok {t : List Int} {r : Eff × Int} (ht : t.length ≤ 1073741824) (h : Fine t r) : qo_fits_P t r.1 r.2 ∧ qo_fits_F t r.1 r.2 = true := by
  rcases h with ⟨h1, h2⟩ | ⟨h0, ⟨h1, h2, h3⟩, h4⟩
  · unfold qo_fits_P qo_fits_F
    rw [decide_eq_false h1, h2]
    exact ⟨trivial, by show qo_same_F zeroE zeroE = true; unfold qo_same_F; exact decide_eq_true rfl⟩
  · have hs := apply_size h1
    have hm := size_le_mass r.1.1
    have hc : change_Check_F t r.1.1 = 0 := h1
    have hP := apply_P' (es := r.1.1) ht h4
    unfold qo_fits_P qo_fits_F
    rw [decide_eq_true h0]
    dsimp only
    rw [decide_eq_true h1, decide_eq_true hc, decide_eq_true h2, decide_eq_true h3]
    refine ⟨⟨hP, ⟨hP, ?_⟩⟩, ?_⟩
    · show massL r.1.1 ≤ lim
      unfold lim; omega
    · show decide (((change_Apply_F t r.1.1).1.length : Int) = IntKind.wrap .i64 ((List.length t : Int) + sizeL r.1.1)) = true
      rw [wrap_i64 (by omega) (by omega)]
      exact decide_eq_true hs
theorem tail_at {t : List Int} {n p : Nat} (hp : Begins t n p) (ht : t.length ≤ 65536) : ∃ e : Nat, lines_tail_F t (p : Int) = (e : Int) ∧ p ≤ e ∧ e ≤ t.length ∧ cnt (t.take e) = n ∧ (e = t.length ∨ t[e]? = some 10) := by
  have hpl := hp.1
  have e0 : bytes_IndexByte_F (List.drop (p : Int).toNat t) 10 = idxB (t.drop p) 10 := rfl
  unfold lines_tail_F
  dsimp only
  rw [e0]
  by_cases c : idxB (t.drop p) 10 < 0
  · rw [decide_eq_false (by omega)]
    refine ⟨t.length, rfl, hpl, Nat.le_refl _, ?_, .inl rfl⟩
    have h1 := cnt_zero (idxB_none c)
    have h2 := cnt_split t p
    have h3 := hp.2.1
    rw [List.take_length]
    omega
  · obtain ⟨g1, g2, g3⟩ := goLine_step hpl c
    rw [decide_eq_true (by omega), cond_true, wrap_i64 (by omega) (by omega)]
    exact ⟨p + (idxB (t.drop p) 10).toNat, by omega, by omega, by omega, by rw [g3]; exact hp.2.1, .inr g2⟩
theorem line_at {t : List Int} {p : Int} (h0 : 0 ≤ p) (h1 : p ≤ (t.length : Int)) (ht : t.length ≤ 65536) : ∃ s e n : Nat, lines_Of_F t p = ((n : Int), 0) ∧ lines_Start_F t (n : Int) = ((s : Int), 0) ∧ lines_End_F t (n : Int) = ((e : Int), 0) ∧ (s : Int) ≤ p ∧ p ≤ (e : Int) ∧ e ≤ t.length ∧
    cnt (t.take e) = n ∧ (e = t.length ∨ t[e]? = some 10) := by
  obtain ⟨f, rfl⟩ := Int.eq_ofNat_of_zero_le h0
  have hf : f ≤ t.length := by omega
  obtain ⟨s, hs⟩ := begins_ex (t := t) (n := cnt (t.take f)) (cnt_take_all t f)
  have hst := start_at hs
  obtain ⟨e, e1, e2, e3, e4, e5⟩ := tail_at hs ht
  have hsf : s ≤ f := by
    by_cases c : s ≤ f
    · exact c
    · have := hs.pos (by
        by_cases z : 0 < cnt (t.take f)
        · exact z
        · have hz : cnt (t.take f) = 0 := by omega
          rw [hz] at hs
          have := hs.uniq (Begins.zero t)
          omega)
      have h2 := cnt_take_succ this.2
      have h3 := hs.2.1
      rw [show s - 1 + 1 = s by omega] at h2
      have := cnt_take_le t (p := f) (q := s - 1) (by omega)
      omega
  have hfe : f ≤ e := by
    by_cases c : f ≤ e
    · exact c
    · rcases e5 with e5 | e5
      · omega
      · have h2 := cnt_take_succ e5
        have := cnt_take_le t (p := e + 1) (q := f) (by omega)
        omega
  refine ⟨s, e, cnt (t.take f), Of_eq hf, hst, ?_, by omega, by omega, e3, e4, e5⟩
  rw [End_eq (by rw [hst]), hst, e1]
theorem J1_fine {t all : List Int} {line place : Int} {x : Eff} (h0 : 0 ≤ place) (h1 : place ≤ (t.length : Int)) (ht : t.length ≤ 65536) (ha : all.length ≤ 200000) : Fine t ((oper_Put_J1_F t all line place x).2, (oper_Put_J1_F t all line place x).1) := by
  have hlim : lim = 1099511627776 := rfl
  obtain ⟨u, e1, e2⟩ := apply_edited_i t all h0 (Int.le_refl _) h1 (by omega)
  have hm := mass_edited t all place place
  exact .inr ⟨rfl, fits_first _ e1 (by omega), Nat.le_trans hm (by omega)⟩
theorem J2_fine {t all : List Int} {line : Int} {x : Eff} (ht : t.length ≤ 65536) (ha : all.length ≤ 100000) : Fine t ((oper_Put_J2_F t all line x).2, (oper_Put_J2_F t all line x).1) := by
  have hs := lines_Start_F_le t line
  unfold oper_Put_J2_F
  dsimp only
  cases !decide ((lines_Start_F t line).2 = 0)
  · exact J1_fine (x := x) hs.1 hs.2 ht (by omega)
  · refine J1_fine (x := x) (by omega) (Int.le_refl _) ht ?_
    rw [List.length_append, List.length_take, List.length_singleton]
    omega
theorem J0_fine {t p all : List Int} {at_ : Int} {x : Eff} (h0 : 0 ≤ at_) (h1 : at_ ≤ (t.length : Int)) (ht : t.length ≤ 65536) (ha : 1 ≤ all.length) (hb : all.length ≤ 100000) : Fine t ((oper_Put_J0_F t at_ p all x).2, (oper_Put_J0_F t at_ p all x).1) := by
  have hlim : lim = 1099511627776 := rfl
  have hm := mass_edited t all at_ at_
  unfold oper_Put_J0_F
  dsimp only
  cases decide ((0 : Int) ≤ bytes_IndexByte_F p 10)
  · refine .inr ⟨rfl, fits_edited_i t all h0 (Int.le_refl _) h1 (by omega) ?_ ?_, Nat.le_trans hm (by omega)⟩
    · show 0 ≤ IntKind.wrap .i64 (IntKind.wrap .i64 (at_ + (all.length : Int)) - 1)
      rw [wrap_i64 (n := at_ + (all.length : Int)) (by omega) (by omega), wrap_i64 (by omega) (by omega)]
      omega
    · show IntKind.wrap .i64 (IntKind.wrap .i64 (at_ + (all.length : Int)) - 1) ≤ _
      rw [wrap_i64 (n := at_ + (all.length : Int)) (by omega) (by omega), wrap_i64 (by omega) (by omega)]
      omega
  · exact .inr ⟨rfl, fits_edited_i (cur := at_) t all h0 (Int.le_refl _) h1 (by omega) h0 (by omega), Nat.le_trans hm (by omega)⟩
theorem J3_fine {t p : List Int} {at_ count : Int} {ahead : Bool} {r : Bool × Bool × List Int} {x : Eff} (h0 : 0 ≤ at_) (h1 : at_ ≤ (t.length : Int)) (ht : t.length ≤ 65536) (hp : p.length ≤ 2097152) (c1 : 1 ≤ count) (c2 : count ≤ 9999) :
    Fine t ((oper_Put_J3_F t at_ count ahead p r x).2, (oper_Put_J3_F t at_ count ahead p r x).1) := by
  have hmul : 0 ≤ (p.length : Int) * count ∧ (p.length : Int) * count ≤ 2097152 * 9999 := ⟨Int.mul_nonneg (by omega) (by omega), Int.mul_le_mul (by omega) c2 (by omega) (by omega)⟩
  unfold oper_Put_J3_F
  dsimp only
  rw [wrap_i64 (n := (p.length : Int) * count) (by omega) (by omega)]
  by_cases hc : (65536 : Int) < (p.length : Int) * count
  · rw [decide_eq_true hc]; exact .inl ⟨by show (1 : Int) ≠ 0; decide, rfl⟩
  · rw [decide_eq_false hc, cond_false]
    have hl : ((bytes_Repeat_F p count).length : Int) = (p.length : Int) * count := by
      unfold bytes_Repeat_F
      rw [repB_length, Int.natCast_mul, Int.toNat_of_nonneg (by omega), Int.mul_comm]
    generalize bytes_Repeat_F p count = all at *
    cases r.2.1
    · by_cases hz : (all.length : Int) = 0
      · rw [decide_eq_true hz]
        exact .inr ⟨rfl, fits_none t h0 h1, by show massL [] ≤ _; decide⟩
      · rw [decide_eq_false hz]
        cases ahead
        · cases hw : oper_within_F t at_
          · exact J0_fine (p := p) (x := x) h0 h1 ht (by omega) (by omega)
          · have hlt : at_ < (t.length : Int) := by
              unfold oper_within_F at hw
              by_cases c : at_ < (t.length : Int)
              · exact c
              · rw [decide_eq_false c] at hw; cases hw
            show Fine t ((oper_Put_J0_F t (IntKind.wrap .i64 (at_ + 1)) p all x).2, (oper_Put_J0_F t (IntKind.wrap .i64 (at_ + 1)) p all x).1)
            rw [wrap_i64 (by omega) (by omega)]
            exact J0_fine (p := p) (x := x) (by omega) (by omega) ht (by omega) (by omega)
        · exact J0_fine (p := p) (x := x) h0 h1 ht (by omega) (by omega)
    · cases ahead
      · exact J2_fine (x := x) ht (by omega)
      · exact J2_fine (x := x) ht (by omega)
theorem put_fine {t : List Int} {at_ count : Int} {r : Bool × Bool × List Int} {ahead : Bool} (ht : t.length ≤ 65536) (hr : r.2.2.length ≤ 1048576) : oper_Put_P t at_ count r ahead ∧ Fine t (oper_Put_F t at_ count r ahead) := by
  refine ⟨put_P (by omega) (by omega), ?_⟩
  unfold oper_Put_F
  dsimp only
  cases ho : oper_outside_F t at_ count 1
  · obtain ⟨o1, o2, o3, o4⟩ := outside_iff ho
    cases r.1
    · exact .inl ⟨by show (151 : Int) ≠ 0; decide, rfl⟩
    · cases r.2.1
      · exact J3_fine o1 o2 ht (by show r.2.2.length ≤ _; omega) o3 o4
      · cases bytes_HasSuffix_F (bytes_Clone_F r.2.2) [10]
        · exact J3_fine o1 o2 ht (by rw [List.length_append, List.length_singleton]; show r.2.2.length + 1 ≤ _; omega) o3 o4
        · exact J3_fine o1 o2 ht (by show r.2.2.length ≤ _; omega) o3 o4
  · exact .inl ⟨by show (2 : Int) ≠ 0; decide, rfl⟩
theorem rest_at {t : List Int} {p : Int} (h0 : 0 ≤ p) (h1 : p ≤ (t.length : Int)) (ht : t.length ≤ 65536) : oper_rest_P t p ∧ 0 ≤ oper_rest_F t p ∧ p + oper_rest_F t p ≤ (t.length : Int) := by
  obtain ⟨s, e, n, l1, l2, l3, l4, l5, l6, _, _⟩ := line_at h0 h1 ht
  refine ⟨⟨lines_Of_any _ _, End_any _ _⟩, ?_⟩
  unfold oper_rest_F
  dsimp only
  rw [l1]
  dsimp only
  rw [l3]
  dsimp only
  rw [wrap_i64 (by omega) (by omega)]
  omega
theorem over_fine {t : List Int} {p count b : Int} (ht : t.length ≤ 65536) : oper_Over_P t p count b ∧ Fine t (oper_Over_F t p count b) := by
  have hlim : lim = 1099511627776 := rfl
  unfold oper_Over_P oper_Over_F
  dsimp only
  cases ho : oper_outside_F t p count 1
  · obtain ⟨o1, o2, o3, o4⟩ := outside_iff ho
    obtain ⟨r1, r2, r3⟩ := rest_at o1 o2 ht
    by_cases c : oper_rest_F t p < count
    · rw [decide_eq_true c]
      exact ⟨⟨r1, trivial⟩, .inl ⟨by show (190 : Int) ≠ 0; decide, rfl⟩⟩
    · rw [decide_eq_false c, wrap_i64 (n := p + count) (by omega) (by omega)]
      have hrep : ((bytes_Repeat_F [b] count).length : Int) = count := by
        unfold bytes_Repeat_F
        rw [repB_length, List.length_singleton]; omega
      have hR : bytes_Repeat_P [b] count := ⟨by omega, by omega, by rw [List.length_singleton]; decide, by rw [List.length_singleton]; omega⟩
      have hone : oper_edited_P t p (p + count) [10] ∧ Fine t ((oper_edited_F t p (p + count) [10], IntKind.wrap .i64 (p + 1), (false, false, []), 0, false), 0) := by
        have hm := mass_edited t [10] p (p + count)
        refine ⟨edited_P o1 (by omega) (by omega) (by omega) (by rw [List.length_singleton]; omega), .inr ⟨rfl, ?_, Nat.le_trans hm (by rw [List.length_singleton]; omega)⟩⟩
        rw [wrap_i64 (by omega) (by omega)]
        exact fits_edited_i (f := p) (g := p + count) (cur := p + 1) t [10] o1 (by omega) (by omega) (by omega) (by omega) (by rw [List.length_singleton]; omega)
      by_cases b1 : b = 10
      · rw [decide_eq_true b1]
        exact ⟨⟨r1, hR, hone.1⟩, hone.2⟩
      · rw [decide_eq_false b1]
        by_cases b2 : b = 13
        · rw [decide_eq_true b2]
          exact ⟨⟨r1, hR, hone.1⟩, hone.2⟩
        · rw [decide_eq_false b2]
          have hm := mass_edited t (bytes_Repeat_F [b] count) p (p + count)
          refine ⟨⟨r1, hR, edited_P o1 (by omega) (by omega) (by omega) (by omega)⟩, .inr ⟨rfl, ?_, Nat.le_trans hm (by omega)⟩⟩
          show FitsE t (oper_edited_F t p (p + count) (bytes_Repeat_F [b] count)) (IntKind.wrap .i64 (p + count - 1))
          rw [wrap_i64 (n := p + count - 1) (by omega) (by omega)]
          exact fits_edited_i (f := p) (g := p + count) (cur := p + count - 1) t (bytes_Repeat_F [b] count) o1 (by omega) (by omega) (by omega) (by omega) (by omega)
  · exact ⟨trivial, .inl ⟨by show (2 : Int) ≠ 0; decide, rfl⟩⟩
theorem turn_fine {t : List Int} {p count : Int} (ht : t.length ≤ 65536) : oper_Turn_P t p count ∧ Fine t (oper_Turn_F t p count) := by
  have hlim : lim = 1099511627776 := rfl
  have core : oper_outside_F t p count 1 = false → _ := fun ho => outside_iff ho
  have hk : oper_outside_F t p count 1 = false → 0 ≤ mn count (oper_rest_F t p) ∧ mn count (oper_rest_F t p) ≤ oper_rest_F t p := fun ho => by
    obtain ⟨o1, o2, o3, o4⟩ := core ho
    obtain ⟨r1, r2, r3⟩ := rest_at o1 o2 ht
    unfold mn
    by_cases c : oper_rest_F t p < count
    · rw [decide_eq_true c]; exact ⟨r2, Int.le_refl _⟩
    · rw [decide_eq_false c]; exact ⟨by show 0 ≤ count; omega, by show count ≤ _; omega⟩
  have hlen : ∀ k : Int, ((slc t p (p + k)).map class_Toggle_F).length ≤ t.length := fun k => by rw [List.length_map]; exact slc_le' _ _ _
  refine ⟨⟨by omega, fun ho => ?_⟩, ?_⟩
  · obtain ⟨o1, o2, o3, o4⟩ := core ho
    obtain ⟨r1, r2, r3⟩ := rest_at o1 o2 ht
    obtain ⟨k1, k2⟩ := hk ho
    have := hlen (mn count (oper_rest_F t p))
    exact ⟨r1, o1, r2, by omega, r3, edited_P o1 (by omega) (by omega) (by omega) (by omega)⟩
  · unfold oper_Turn_F
    by_cases ho : oper_outside_F t p count 1 = true
    · rw [if_pos ho]; exact .inl ⟨by show (2 : Int) ≠ 0; decide, rfl⟩
    · rw [if_neg ho]
      have ho : oper_outside_F t p count 1 = false := by simpa using ho
      obtain ⟨o1, o2, o3, o4⟩ := core ho
      obtain ⟨r1, r2, r3⟩ := rest_at o1 o2 ht
      obtain ⟨k1, k2⟩ := hk ho
      generalize mn count (oper_rest_F t p) = k at *
      split
      · exact .inl ⟨by show (190 : Int) ≠ 0; decide, rfl⟩
      · have hl := hlen k
        have hq : (((slc t p (p + k)).map class_Toggle_F).length : Int) = k := by
          rw [List.length_map]
          unfold slc; rw [List.length_drop, List.length_take]; omega
        have hm := mass_edited t ((slc t p (p + k)).map class_Toggle_F) p (p + k)
        exact .inr ⟨rfl, fits_edited_i (f := p) (g := p + k) (cur := p + k) t ((slc t p (p + k)).map class_Toggle_F) o1 (by omega) (by omega) (by omega) (by omega) (by omega), Nat.le_trans hm (by omega)⟩
theorem enter_J0 {t key : List Int} {p : Int} {n : Int} {x6 : Eff} {b : Bool} (h0 : 0 ≤ p) (h1 : p ≤ (t.length : Int)) (hn : lines_Of_F t p = (n, 0)) (ht : t.length ≤ 65536) :
    oper_Enter_J0_P t p n key b x6 ([], p, (false, false, []), 0, true) ∧
    (∀ q, oper_Enter_J0_F t p n key b x6 ([], p, (false, false, []), 0, true) = .inl q → Fine t (q.2, 0)) ∧ (∀ q, oper_Enter_J0_F t p n key b x6 ([], p, (false, false, []), 0, true) = .inr q → Fine t (q.2, q.1)) := by
  have hlim : lim = 1099511627776 := rfl
  obtain ⟨s, e, m, l1, l2, l3, l4, l5, l6, _, _⟩ := line_at h0 h1 ht
  rw [l1] at hn
  injection hn with hn _
  subst hn
  have stay : Fine t ((([], p, (false, false, []), 0, true) : Eff), 0) := .inr ⟨rfl, fits_none t h0 h1, by show massL [] ≤ _; decide⟩
  have one : ∀ (f c : Int), 0 ≤ f → f ≤ (t.length : Int) → 0 ≤ c → c ≤ f + 1 → oper_edited_P t f f [10] ∧ Fine t (((oper_edited_F t f f [10], c, (false, false, []), 0, true) : Eff), 0) := fun f c f0 f1 c0 c1 => by
    have hm := mass_edited t [10] f f
    exact ⟨edited_P f0 (Int.le_refl _) f1 (by omega) (by rw [List.length_singleton]; omega), .inr ⟨rfl, fits_edited_i (cur := c) t [10] f0 (Int.le_refl _) f1 (by omega) c0 (by rw [List.length_singleton]; omega), Nat.le_trans hm (by rw [List.length_singleton]; omega)⟩⟩
  have pl : ∀ c : Int, 0 ≤ c → c ≤ (t.length : Int) → Fine t ((([], c, (false, false, []), 0, true) : Eff), 0) := fun c c0 c1 => .inr ⟨rfl, fits_none t c0 c1, by show massL [] ≤ _; decide⟩
  unfold oper_Enter_J0_P oper_Enter_J0_F
  dsimp only
  rw [l3, l2]
  dsimp only
  cases b
  · cases decide (key = [97])
    · cases decide (key = [73])
      · cases decide (key = [65])
        · cases decide (key = [111])
          · cases decide (key = [79])
            · refine ⟨trivial, fun q hq => (by cases hq), fun q hq => ?_⟩
              injection hq with hq
              subst hq
              exact .inl ⟨by show (2 : Int) ≠ 0; decide, rfl⟩
            · have := one (s : Int) (s : Int) (by omega) (by omega) (by omega) (by omega)
              refine ⟨this.1, fun q hq => ?_, fun q hq => by cases hq⟩
              injection hq with hq
              subst hq
              exact this.2
          · rw [wrap_i64 (n := (e : Int) + 1) (by omega) (by omega)]
            have := one (e : Int) ((e : Int) + 1) (by omega) (by omega) (by omega) (by omega)
            refine ⟨⟨End_any _ _, this.1⟩, fun q hq => ?_, fun q hq => by cases hq⟩
            injection hq with hq
            subst hq
            exact this.2
        · refine ⟨End_any _ _, fun q hq => ?_, fun q hq => by cases hq⟩
          injection hq with hq
          subst hq
          exact pl _ (by omega) (by omega)
      · refine ⟨trivial, fun q hq => ?_, fun q hq => by cases hq⟩
        injection hq with hq
        subst hq
        have := First_le t (m : Int) (by omega)
        exact pl _ this.1 this.2
    · have hP : oper_within_P t p := by
        unfold oper_within_P
        by_cases c : p < (t.length : Int)
        · rw [decide_eq_true c]; exact ⟨h0, c⟩
        · rw [decide_eq_false c]; exact trivial
      refine ⟨hP, fun q hq => ?_, fun q hq => ?_⟩
      · cases hw : oper_within_F t p
        · rw [hw] at hq
          injection hq with hq
          subst hq
          exact stay
        · rw [hw] at hq
          have hlt : p < (t.length : Int) := by
            unfold oper_within_F at hw
            by_cases c : p < (t.length : Int)
            · exact c
            · rw [decide_eq_false c] at hw; cases hw
          injection hq with hq
          subst hq
          show Fine t ((([], IntKind.wrap .i64 (p + 1), (false, false, []), 0, true) : Eff), 0)
          rw [wrap_i64 (by omega) (by omega)]
          exact pl _ (by omega) (by omega)
      · cases hw : oper_within_F t p <;> rw [hw] at hq <;> cases hq
  · refine ⟨trivial, fun q hq => ?_, fun q hq => by cases hq⟩
    injection hq with hq
    subst hq
    exact stay
theorem enter_fine {t key : List Int} {p : Int} (ht : t.length ≤ 65536) : oper_Enter_P t p key ∧ Fine t (oper_Enter_F t p key) := by
  unfold oper_Enter_P oper_Enter_F
  dsimp only
  by_cases c : (lines_Of_F t p).2 = 0
  · have hr : 0 ≤ p ∧ p ≤ (t.length : Int) := by
      unfold lines_Of_F lines_has_F at c
      by_cases c0 : (0 : Int) ≤ p
      · by_cases c1 : p ≤ (t.length : Int)
        · exact ⟨c0, c1⟩
        · rw [decide_eq_true c0, decide_eq_false c1] at c; cases c
      · rw [decide_eq_false c0] at c; cases c
    have hn : lines_Of_F t p = ((lines_Of_F t p).1, 0) := by rw [← c]
    rw [decide_eq_true c]
    have fin : ∀ b, oper_Enter_J0_P t p (lines_Of_F t p).1 key b ([], 0, (false, false, []), 0, false) ([], p, (false, false, []), 0, true) ∧
        Fine t (Sum.elim (fun q0n : Eff × Eff => (((oper_Enter_J1_F q0n.1 q0n.2).2, (oper_Enter_J1_F q0n.1 q0n.2).1) : Eff × Int)) (fun q0r : Int × Eff => (q0r.2, q0r.1)) (oper_Enter_J0_F t p (lines_Of_F t p).1 key b ([], 0, (false, false, []), 0, false) ([], p, (false, false, []), 0, true))) := fun b => by
      obtain ⟨e1, e2, e3⟩ := enter_J0 (key := key) (b := b) (x6 := ([], 0, (false, false, []), 0, false)) hr.1 hr.2 hn ht
      refine ⟨e1, ?_⟩
      cases hj : oper_Enter_J0_F t p (lines_Of_F t p).1 key b ([], 0, (false, false, []), 0, false) ([], p, (false, false, []), 0, true) with
      | inl q => exact e2 q hj
      | inr q => exact e3 q hj
    cases decide (key = [105])
    · have := fin (decide (key = [82]))
      exact ⟨⟨lines_Of_any _ _, this.1⟩, this.2⟩
    · have := fin true
      exact ⟨⟨lines_Of_any _ _, this.1⟩, this.2⟩
  · rw [decide_eq_false c]
    exact ⟨⟨lines_Of_any _ _, trivial⟩, .inl ⟨by show (2 : Int) ≠ 0; decide, rfl⟩⟩
theorem newJ_le (ba bl : Bool) (r : List Int) : (newJ ba bl r).length ≤ 1 := by
  unfold newJ; split <;> simp
theorem join_apply : ∀ (m : Nat) (s w : List Int) (ba bl : Bool) (cur : Int), JoinOk m s → 0 ≤ cur → cur ≤ (w.length : Int) →
    ∃ u, applyL (joinL m s (w.length : Int) ba bl cur).1 (w ++ s) = some u ∧ 0 ≤ (joinL m s (w.length : Int) ba bl cur).2 ∧ (joinL m s (w.length : Int) ba bl cur).2 ≤ (u.length : Int) ∧ massL (joinL m s (w.length : Int) ba bl cur).1 ≤ s.length + m
  | 0, s, w, ba, bl, cur, _, h0, h1 => ⟨w ++ s, rfl, h0, by show cur ≤ _; rw [List.length_append]; omega, Nat.zero_le _⟩
  | m + 1, s, w, ba, bl, cur, hj, h0, h1 => by
    obtain ⟨hs, hj'⟩ := hj.cons
    have hn := newJ_le ba bl (s.tail.drop (blanksL s.tail))
    have hb := takeWhile_le isB s.tail
    have hw := takeWhile_le (fun c => !decide (c = 10)) (s.tail.drop (blanksL s.tail))
    have hsl : s.length = s.tail.length + 1 := by
      have e := congrArg List.length hs
      rw [List.length_cons] at e
      exact e
    rw [joinL]
    dsimp only
    generalize newJ ba bl (s.tail.drop (blanksL s.tail)) = new at *
    have hbl : blanksL s.tail ≤ s.tail.length := hb
    have hwl : wordL (s.tail.drop (blanksL s.tail)) ≤ (s.tail.drop (blanksL s.tail)).length := hw
    rw [List.length_drop] at hwl
    have e0 := apply_head w s [] new (blanksL s.tail + 1) (by omega)
    have ed : s.drop (blanksL s.tail + 1) = s.tail.drop (blanksL s.tail) := by
      rw [← List.drop_one, List.drop_drop, Nat.add_comm 1]
    rw [List.append_nil, List.append_nil, ed] at e0
    generalize blanksL s.tail = b at *
    generalize hr : s.tail.drop b = r at *
    have hrl : r.length = s.tail.length - b := by rw [← hr, List.length_drop]
    generalize hwd : wordL r = wd at *
    have ih := join_apply m (r.drop wd) (w ++ (new ++ r.take wd)) (if 0 < wd then false else if 0 < new.length then false else ba)
      (if 0 < wd then isB (rd (0 : Int) r ((wd : Int) - 1)) else if 0 < new.length then true else bl) (w.length : Int) hj' (by omega) (by rw [List.length_append]; omega)
    have el : ((w ++ (new ++ r.take wd)).length : Int) = (w.length : Int) + ((new.length + wd : Nat) : Int) := by
      rw [List.length_append, List.length_append, List.length_take]; omega
    rw [el] at ih
    obtain ⟨u, i1, i2, i3, i4⟩ := ih
    have et : w ++ (new ++ r) = w ++ (new ++ r.take wd) ++ r.drop wd := by
      rw [List.append_assoc, List.append_assoc, List.take_append_drop]
    refine ⟨u, by rw [e0, et]; exact i1, i2, i3, ?_⟩
    unfold massL
    dsimp only
    rw [List.length_drop] at i4
    rw [List.length_take]
    omega
theorem join_fine {t : List Int} {p count : Int} (ht : t.length ≤ 65536) : oper_Join_P t p count ∧ Fine t (oper_Join_F t p count) := by
  have hmx : count ≤ 9999 → 2 ≤ mx count 2 ∧ mx count 2 ≤ 9999 := fun h => by
    unfold mx
    by_cases c : count < 2
    · rw [decide_eq_true c]; exact ⟨Int.le_refl _, by show (2 : Int) ≤ 9999; decide⟩
    · rw [decide_eq_false c]; exact ⟨by show 2 ≤ count; omega, h⟩
  have hcl := cnt_le t
  have core : oper_outside_F t p count 0 = false → ¬ lines_Count_F t < (lines_Of_F t p).1 + mx count 2 → ∃ s e n : Nat, lines_Of_F t p = ((n : Int), 0) ∧ lines_Start_F t (n : Int) = ((s : Int), 0) ∧ lines_End_F t (n : Int) = ((e : Int), 0) ∧ s ≤ e ∧ e ≤ t.length ∧ JoinOk (mx count 2 - 1).toNat (t.drop e) := fun ho hc => by
    obtain ⟨o1, o2, o3, o4⟩ := outside_iff ho
    obtain ⟨s, e, n, l1, l2, l3, l4, l5, l6, l7, l8⟩ := line_at o1 o2 ht
    refine ⟨s, e, n, l1, l2, l3, by omega, l6, ?_, ?_⟩
    · rw [l1, count_eq, wrap_i64 (by omega) (by omega)] at hc
      have := cnt_split t e
      have := hmx o4
      dsimp only at hc
      show _ ≤ cnt (t.drop e)
      omega
    · rcases l8 with l8 | l8
      · left; rw [l8, List.drop_length]
      · right; rw [List.head?_drop]; exact l8
  refine ⟨⟨by omega, fun ho => ?_⟩, ?_⟩
  · obtain ⟨o1, o2, o3, o4⟩ := outside_iff ho
    obtain ⟨s, e, n, l1, l2, l3, l4, l5, l6, l7, l8⟩ := line_at o1 o2 ht
    have := cnt_take_all t e
    refine ⟨o4, lines_Of_any _ _, Count_P _, by rw [l1]; show (0 : Int) ≤ (n : Int); omega, by rw [l1]; show (n : Int) ≤ _; omega, fun hc => ?_⟩
    obtain ⟨s', e', n', m1, m2, m3, m4, m5, m6⟩ := core ho hc
    rw [m1]
    dsimp only
    rw [m3, m2]
    exact ⟨End_any _ _, by show (0 : Int) ≤ (e' : Int); omega, by show (e' : Int) ≤ _; omega, fun hne => by
      have hne : (e' : Int) ≠ (s' : Int) := hne
      show (1 : Int) ≤ (e' : Int); omega, by rw [Int.toNat_natCast]; exact m6⟩
  · unfold oper_Join_F
    by_cases ho : oper_outside_F t p count 0 = true
    · rw [if_pos ho]; exact .inl ⟨by show (2 : Int) ≠ 0; decide, rfl⟩
    · rw [if_neg ho]
      have ho : oper_outside_F t p count 0 = false := by simpa using ho
      by_cases hc : lines_Count_F t < (lines_Of_F t p).1 + mx count 2
      · rw [if_pos hc]; exact .inl ⟨by show (190 : Int) ≠ 0; decide, rfl⟩
      · rw [if_neg hc]
        obtain ⟨s, e, n, m1, m2, m3, m4, m5, m6⟩ := core ho hc
        have h9 := hmx (outside_iff ho).2.2.2
        rw [m1]
        dsimp only
        rw [m3, m2]
        dsimp only
        rw [Int.toNat_natCast]
        obtain ⟨u, i1, i2, i3, i4⟩ := join_apply (mx count 2 - 1).toNat (t.drop e) (t.take e) (decide ((e : Int) = (s : Int))) (if (e : Int) = (s : Int) then false else isB (rd (0 : Int) t ((e : Int) - 1))) 0 m6 (Int.le_refl _) (by omega)
        have hel : ((t.take e).length : Int) = (e : Int) := by rw [List.length_take]; omega
        rw [hel, List.take_append_drop] at i1
        rw [hel] at i2 i3 i4
        rw [List.length_drop] at i4
        refine .inr ⟨rfl, ?_, Nat.le_trans i4 (by omega)⟩
        unfold FitsE change_Apply_F
        dsimp only
        rw [i1]
        exact ⟨rfl, i2, i3⟩
theorem small_fine {t : List Int} {a : Int × Int × Int × Int × List Int} (ht : t.length ≤ 65536) : qo_small_P t a ∧ Fine t (qo_small_F t a) := by
  unfold qo_small_P qo_small_F
  dsimp only
  cases decide (a.1 = 0)
  · cases decide (a.1 = 1)
    · cases decide (a.1 = 2)
      · exact enter_fine ht
      · exact join_fine ht
    · exact turn_fine ht
  · exact over_fine ht
end Go.VE
namespace Go.VE
open Go Go.Proofs
/-! ### quoin/quoinlaw19.awake -/
def qo_awake_G : List (Nat × App) := [(28, oper_Do_S), (21, oper_Put_S)]
theorem qo_awake_Gok : GOk Tryd.prog (getG qo_awake_G) := GOk.cons oper_Do_ok (GOk.cons oper_Put_ok (GOk.nil))
def qo_awake_raw  (K : Res → List Cell → Prop) : Prop :=
 oper_Do_P ([(104 : Int), (101 : Int), (108 : Int), (108 : Int), (111 : Int)] : List Int) (0 : Int) ([100] : List Int) ((0 : Int), (2 : Int), false, false) (1 : Int) ∧ (
 ∀ (r1 : EfD × Int), r1 = oper_Do_F ([(104 : Int), (101 : Int), (108 : Int), (108 : Int), (111 : Int)] : List Int) (0 : Int) ([100] : List Int) ((0 : Int), (2 : Int), false, false) (1 : Int) → (
 wfR (.tup [.v EfT r1.1, .v (.int .i64) r1.2]) → (
 oper_Put_P ([(108 : Int), (108 : Int), (111 : Int)] : List Int) (0 : Int) (1 : Int) r1.1.2.2.1 true ∧ (
 ∀ (r2 : EfD × Int), r2 = oper_Put_F ([(108 : Int), (108 : Int), (111 : Int)] : List Int) (0 : Int) (1 : Int) r1.1.2.2.1 true → (
 wfR (.tup [.v EfT r2.1, .v (.int .i64) r2.2]) → (
 bif (decide (r1.2 = (0 : Int))) then
 bif (decide (r2.2 = (0 : Int))) then
 bif (decide ((List.length r1.1.1 : Int) = (1 : Int))) then
 bif decide (0 ≤ (0 : Int) ∧ (0 : Int) < (List.length r1.1.1 : Int)) then
 bif (decide ((rd ((0 : Int), ([] : List Int), ([] : List Int)) r1.1.1 (0 : Int)).2.1 = ([104, 101] : List Int))) then
 bif (decide (r1.1.2.2.1.2.2 = ([104, 101] : List Int))) then
 bif (decide (r1.1.2.2.2.1 = (3 : Int))) then
 bif (decide ((List.length r2.1.1 : Int) = (1 : Int))) then
 bif decide (0 ≤ (0 : Int) ∧ (0 : Int) < (List.length r2.1.1 : Int)) then
 bif (decide ((rd ((0 : Int), ([] : List Int), ([] : List Int)) r2.1.1 (0 : Int)).2.2 = ([104, 101] : List Int))) then
 K (.one (.v (.bool) (decide (r2.1.2.1 = (1 : Int))))) []
 else
 K (.one (.v (.bool) false)) []
 else False
 else
 K (.one (.v (.bool) false)) []
 else
 K (.one (.v (.bool) false)) []
 else
 K (.one (.v (.bool) false)) []
 else
 K (.one (.v (.bool) false)) []
 else False
 else
 K (.one (.v (.bool) false)) []
 else
 K (.one (.v (.bool) false)) []
 else
 K (.one (.v (.bool) false)) []))))))
def qo_awake_A : List AS := []
theorem qo_awake_walk  (K : Res → List Cell → Prop) : runF tb (getG qo_awake_G) [] Tryd.f18 [true] (mkA qo_awake_A ()) K = qo_awake_raw  K := by kernel_rfl
--! pre 0
--! import FT3 OL4
def qo_awake_F : Bool := true
theorem qo_awake_sp (K : Res → List Cell → Prop) (_ : wfA qo_awake_A ()) (h : ∀ r : Bool, r = qo_awake_F → K (.one (.v .bool r)) []) : qo_awake_raw K := by
  unfold qo_awake_raw
  refine ⟨(do_fine (by decide)).1, fun r1 h1 _ => ?_⟩
  have e1 : oper_Do_F [104, 101, 108, 108, 111] 0 [100] (0, 2, false, false) 1 = (([(0, [104, 101], [])], 0, (true, false, [104, 101]), 3, false), 0) := by kernel_rfl
  rw [e1] at h1
  subst h1
  refine ⟨put_P (by decide) (by decide), fun r2 h2 _ => ?_⟩
  have e2 : oper_Put_F [108, 108, 111] 0 1 ((([(0, [104, 101], [])], 0, (true, false, [104, 101]), 3, false), 0) : Eff × Int).1.2.2.1 true = (([(0, [], [104, 101])], 1, (false, false, []), 0, false), 0) := by kernel_rfl
  rw [e2] at h2
  subst h2
  exact h true rfl

def qo_awake_C (v : valsA qo_awake_A) (K : Res → List Cell → Prop) : Prop := ∀ r : Bool, r = qo_awake_F → K (.one (.v (.bool) r)) []
def qo_awake_S : App := specW qo_awake_A qo_awake_C
theorem qo_awake_wv (K : Res → List Cell → Prop) : ∀ v : valsA qo_awake_A, runF tb (getG qo_awake_G) [] Tryd.f18 [true] (mkA qo_awake_A v) K = qo_awake_raw  K
  | () => qo_awake_walk  K
set_option maxRecDepth 20000 in
theorem qo_awake_ok : AppOk Tryd.prog 18 qo_awake_S :=
  AppOk.specW (spec_ok ((runF_ok tb_M tb_ok qo_awake_Gok (LabsOk.nil) (f := 18) (fn := Tryd.f18) (by kernel_rfl) (by kernel_rfl) (by kernel_rfl) [true])) fun v K hw h => (qo_awake_wv K v).mpr (qo_awake_sp  K hw h))

end Go.VE
namespace Go.VE
open Go Go.Proofs
/-! ### quoin/quoinlaw19.OperFits -/
def qo_OperFits_G : List (Nat × App) := [(18, qo_awake_S), (28, oper_Do_S), (21, oper_Put_S), (36, qo_small_S), (37, qo_fits_S)]
theorem qo_OperFits_Gok : GOk Tryd.prog (getG qo_OperFits_G) := GOk.cons qo_awake_ok (GOk.cons oper_Do_ok (GOk.cons oper_Put_ok (GOk.cons qo_small_ok (GOk.cons qo_fits_ok (GOk.nil)))))
def qo_OperFits_raw (t0 : List Int) (q1 : ((Int × Int × List Int × (Int × Int × Bool × Bool)) × (Int × Int × (Bool × Bool × List Int) × Bool) × (Int × Int × Int × Int × List Int))) (K : Res → List Cell → Prop) : Prop :=
 ∀ (r1 : Bool), r1 = qo_awake_F → (
 wfR (.one (.v (.bool) r1)) → (
 bif (!r1) then
 K (.one (.v (.bool) false)) []
 else
 (
 (
 bif (decide ((4096 : Int) < (List.length t0 : Int))) then
 K (.one (.v (.bool) true)) []
 else
 oper_Do_P t0 q1.1.1 q1.1.2.2.1 q1.1.2.2.2 q1.1.2.1 ∧ (
 ∀ (r2 : EfD × Int), r2 = oper_Do_F t0 q1.1.1 q1.1.2.2.1 q1.1.2.2.2 q1.1.2.1 → (
 wfR (.tup [.v EfT r2.1, .v (.int .i64) r2.2]) → (
 oper_Put_P t0 q1.2.1.1 q1.2.1.2.1 q1.2.1.2.2.1 q1.2.1.2.2.2 ∧ (
 ∀ (r3 : EfD × Int), r3 = oper_Put_F t0 q1.2.1.1 q1.2.1.2.1 q1.2.1.2.2.1 q1.2.1.2.2.2 → (
 wfR (.tup [.v EfT r3.1, .v (.int .i64) r3.2]) → (
 qo_small_P t0 q1.2.2 ∧ (
 ∀ (r4 : EfD × Int), r4 = qo_small_F t0 q1.2.2 → (
 wfR (.tup [.v EfT r4.1, .v (.int .i64) r4.2]) → (
 qo_fits_P t0 r2.1 r2.2 ∧ (
 ∀ (r5 : Bool), r5 = qo_fits_F t0 r2.1 r2.2 → (
 wfR (.one (.v (.bool) r5)) → (
 bif r5 then
 qo_fits_P t0 r3.1 r3.2 ∧ (
 ∀ (r6 : Bool), r6 = qo_fits_F t0 r3.1 r3.2 → (
 wfR (.one (.v (.bool) r6)) → (
 bif r6 then
 qo_fits_P t0 r4.1 r4.2 ∧ (
 ∀ (r7 : Bool), r7 = qo_fits_F t0 r4.1 r4.2 → (
 wfR (.one (.v (.bool) r7)) → (
 K (.one (.v (.bool) r7)) [])))
 else
 K (.one (.v (.bool) false)) [])))
 else
 K (.one (.v (.bool) false)) []))))))))))))) ∧ (
 bif (decide ((4096 : Int) < (List.length t0 : Int))) then
 K (.one (.v (.bool) true)) []
 else
 oper_Do_P t0 q1.1.1 q1.1.2.2.1 q1.1.2.2.2 q1.1.2.1 ∧ (
 ∀ (r8 : EfD × Int), r8 = oper_Do_F t0 q1.1.1 q1.1.2.2.1 q1.1.2.2.2 q1.1.2.1 → (
 wfR (.tup [.v EfT r8.1, .v (.int .i64) r8.2]) → (
 oper_Put_P t0 q1.2.1.1 q1.2.1.2.1 q1.2.1.2.2.1 q1.2.1.2.2.2 ∧ (
 ∀ (r9 : EfD × Int), r9 = oper_Put_F t0 q1.2.1.1 q1.2.1.2.1 q1.2.1.2.2.1 q1.2.1.2.2.2 → (
 wfR (.tup [.v EfT r9.1, .v (.int .i64) r9.2]) → (
 qo_small_P t0 q1.2.2 ∧ (
 ∀ (r10 : EfD × Int), r10 = qo_small_F t0 q1.2.2 → (
 wfR (.tup [.v EfT r10.1, .v (.int .i64) r10.2]) → (
 qo_fits_P t0 r8.1 r8.2 ∧ (
 ∀ (r11 : Bool), r11 = qo_fits_F t0 r8.1 r8.2 → (
 wfR (.one (.v (.bool) r11)) → (
 bif r11 then
 qo_fits_P t0 r9.1 r9.2 ∧ (
 ∀ (r12 : Bool), r12 = qo_fits_F t0 r9.1 r9.2 → (
 wfR (.one (.v (.bool) r12)) → (
 bif r12 then
 qo_fits_P t0 r10.1 r10.2 ∧ (
 ∀ (r13 : Bool), r13 = qo_fits_F t0 r10.1 r10.2 → (
 wfR (.one (.v (.bool) r13)) → (
 K (.one (.v (.bool) r13)) [])))
 else
 K (.one (.v (.bool) false)) [])))
 else
 K (.one (.v (.bool) false)) []))))))))))))) ∧ True) ∧ (
 (
 bif (decide ((4096 : Int) < (List.length t0 : Int))) then
 K (.one (.v (.bool) true)) []
 else
 oper_Do_P t0 q1.1.1 q1.1.2.2.1 q1.1.2.2.2 q1.1.2.1 ∧ (
 ∀ (r14 : EfD × Int), r14 = oper_Do_F t0 q1.1.1 q1.1.2.2.1 q1.1.2.2.2 q1.1.2.1 → (
 wfR (.tup [.v EfT r14.1, .v (.int .i64) r14.2]) → (
 oper_Put_P t0 q1.2.1.1 q1.2.1.2.1 q1.2.1.2.2.1 q1.2.1.2.2.2 ∧ (
 ∀ (r15 : EfD × Int), r15 = oper_Put_F t0 q1.2.1.1 q1.2.1.2.1 q1.2.1.2.2.1 q1.2.1.2.2.2 → (
 wfR (.tup [.v EfT r15.1, .v (.int .i64) r15.2]) → (
 qo_small_P t0 q1.2.2 ∧ (
 ∀ (r16 : EfD × Int), r16 = qo_small_F t0 q1.2.2 → (
 wfR (.tup [.v EfT r16.1, .v (.int .i64) r16.2]) → (
 qo_fits_P t0 r14.1 r14.2 ∧ (
 ∀ (r17 : Bool), r17 = qo_fits_F t0 r14.1 r14.2 → (
 wfR (.one (.v (.bool) r17)) → (
 bif r17 then
 qo_fits_P t0 r15.1 r15.2 ∧ (
 ∀ (r18 : Bool), r18 = qo_fits_F t0 r15.1 r15.2 → (
 wfR (.one (.v (.bool) r18)) → (
 bif r18 then
 qo_fits_P t0 r16.1 r16.2 ∧ (
 ∀ (r19 : Bool), r19 = qo_fits_F t0 r16.1 r16.2 → (
 wfR (.one (.v (.bool) r19)) → (
 K (.one (.v (.bool) r19)) [])))
 else
 K (.one (.v (.bool) false)) [])))
 else
 K (.one (.v (.bool) false)) []))))))))))))) ∧ (
 bif (decide ((4096 : Int) < (List.length t0 : Int))) then
 K (.one (.v (.bool) true)) []
 else
 oper_Do_P t0 q1.1.1 q1.1.2.2.1 q1.1.2.2.2 q1.1.2.1 ∧ (
 ∀ (r20 : EfD × Int), r20 = oper_Do_F t0 q1.1.1 q1.1.2.2.1 q1.1.2.2.2 q1.1.2.1 → (
 wfR (.tup [.v EfT r20.1, .v (.int .i64) r20.2]) → (
 oper_Put_P t0 q1.2.1.1 q1.2.1.2.1 q1.2.1.2.2.1 q1.2.1.2.2.2 ∧ (
 ∀ (r21 : EfD × Int), r21 = oper_Put_F t0 q1.2.1.1 q1.2.1.2.1 q1.2.1.2.2.1 q1.2.1.2.2.2 → (
 wfR (.tup [.v EfT r21.1, .v (.int .i64) r21.2]) → (
 qo_small_P t0 q1.2.2 ∧ (
 ∀ (r22 : EfD × Int), r22 = qo_small_F t0 q1.2.2 → (
 wfR (.tup [.v EfT r22.1, .v (.int .i64) r22.2]) → (
 qo_fits_P t0 r20.1 r20.2 ∧ (
 ∀ (r23 : Bool), r23 = qo_fits_F t0 r20.1 r20.2 → (
 wfR (.one (.v (.bool) r23)) → (
 bif r23 then
 qo_fits_P t0 r21.1 r21.2 ∧ (
 ∀ (r24 : Bool), r24 = qo_fits_F t0 r21.1 r21.2 → (
 wfR (.one (.v (.bool) r24)) → (
 bif r24 then
 qo_fits_P t0 r22.1 r22.2 ∧ (
 ∀ (r25 : Bool), r25 = qo_fits_F t0 r22.1 r22.2 → (
 wfR (.one (.v (.bool) r25)) → (
 K (.one (.v (.bool) r25)) [])))
 else
 K (.one (.v (.bool) false)) [])))
 else
 K (.one (.v (.bool) false)) []))))))))))))) ∧ True) ∧ (
 (
 bif (decide ((4096 : Int) < (List.length t0 : Int))) then
 K (.one (.v (.bool) true)) []
 else
 oper_Do_P t0 q1.1.1 q1.1.2.2.1 q1.1.2.2.2 q1.1.2.1 ∧ (
 ∀ (r26 : EfD × Int), r26 = oper_Do_F t0 q1.1.1 q1.1.2.2.1 q1.1.2.2.2 q1.1.2.1 → (
 wfR (.tup [.v EfT r26.1, .v (.int .i64) r26.2]) → (
 oper_Put_P t0 q1.2.1.1 q1.2.1.2.1 q1.2.1.2.2.1 q1.2.1.2.2.2 ∧ (
 ∀ (r27 : EfD × Int), r27 = oper_Put_F t0 q1.2.1.1 q1.2.1.2.1 q1.2.1.2.2.1 q1.2.1.2.2.2 → (
 wfR (.tup [.v EfT r27.1, .v (.int .i64) r27.2]) → (
 qo_small_P t0 q1.2.2 ∧ (
 ∀ (r28 : EfD × Int), r28 = qo_small_F t0 q1.2.2 → (
 wfR (.tup [.v EfT r28.1, .v (.int .i64) r28.2]) → (
 qo_fits_P t0 r26.1 r26.2 ∧ (
 ∀ (r29 : Bool), r29 = qo_fits_F t0 r26.1 r26.2 → (
 wfR (.one (.v (.bool) r29)) → (
 bif r29 then
 qo_fits_P t0 r27.1 r27.2 ∧ (
 ∀ (r30 : Bool), r30 = qo_fits_F t0 r27.1 r27.2 → (
 wfR (.one (.v (.bool) r30)) → (
 bif r30 then
 qo_fits_P t0 r28.1 r28.2 ∧ (
 ∀ (r31 : Bool), r31 = qo_fits_F t0 r28.1 r28.2 → (
 wfR (.one (.v (.bool) r31)) → (
 K (.one (.v (.bool) r31)) [])))
 else
 K (.one (.v (.bool) false)) [])))
 else
 K (.one (.v (.bool) false)) []))))))))))))) ∧ (
 bif (decide ((4096 : Int) < (List.length t0 : Int))) then
 K (.one (.v (.bool) true)) []
 else
 oper_Do_P t0 q1.1.1 q1.1.2.2.1 q1.1.2.2.2 q1.1.2.1 ∧ (
 ∀ (r32 : EfD × Int), r32 = oper_Do_F t0 q1.1.1 q1.1.2.2.1 q1.1.2.2.2 q1.1.2.1 → (
 wfR (.tup [.v EfT r32.1, .v (.int .i64) r32.2]) → (
 oper_Put_P t0 q1.2.1.1 q1.2.1.2.1 q1.2.1.2.2.1 q1.2.1.2.2.2 ∧ (
 ∀ (r33 : EfD × Int), r33 = oper_Put_F t0 q1.2.1.1 q1.2.1.2.1 q1.2.1.2.2.1 q1.2.1.2.2.2 → (
 wfR (.tup [.v EfT r33.1, .v (.int .i64) r33.2]) → (
 qo_small_P t0 q1.2.2 ∧ (
 ∀ (r34 : EfD × Int), r34 = qo_small_F t0 q1.2.2 → (
 wfR (.tup [.v EfT r34.1, .v (.int .i64) r34.2]) → (
 qo_fits_P t0 r32.1 r32.2 ∧ (
 ∀ (r35 : Bool), r35 = qo_fits_F t0 r32.1 r32.2 → (
 wfR (.one (.v (.bool) r35)) → (
 bif r35 then
 qo_fits_P t0 r33.1 r33.2 ∧ (
 ∀ (r36 : Bool), r36 = qo_fits_F t0 r33.1 r33.2 → (
 wfR (.one (.v (.bool) r36)) → (
 bif r36 then
 qo_fits_P t0 r34.1 r34.2 ∧ (
 ∀ (r37 : Bool), r37 = qo_fits_F t0 r34.1 r34.2 → (
 wfR (.one (.v (.bool) r37)) → (
 K (.one (.v (.bool) r37)) [])))
 else
 K (.one (.v (.bool) false)) [])))
 else
 K (.one (.v (.bool) false)) []))))))))))))) ∧ True) ∧ True))
def qo_OperFits_A : List AS := [.v (.sl (.int .u8)), .v (.st (.pair (.st (.pair (.int .i64) (.pair (.int .i64) (.pair (.str) (.st (.pair (.int .i64) (.pair (.int .i64) (.pair (.bool) (.bool))))))))) (.pair (.st (.pair (.int .i64) (.pair (.int .i64) (.pair (.st (.pair (.bool) (.pair (.bool) (.sl (.int .u8))))) (.bool))))) (.st (.pair (.int .i64) (.pair (.int .i64) (.pair (.int .i64) (.pair (.int .u8) (.str)))))))))]
theorem qo_OperFits_walk (t0 : List Int) (q1 : ((Int × Int × List Int × (Int × Int × Bool × Bool)) × (Int × Int × (Bool × Bool × List Int) × Bool) × (Int × Int × Int × Int × List Int))) (K : Res → List Cell → Prop) : runF tb (getG qo_OperFits_G) [] Tryd.f9 [true] (mkA qo_OperFits_A (t0, q1, ())) K = qo_OperFits_raw t0 q1 K := by kernel_rfl
--! law 1

def qo_OperFits_R : App := runF tb (getG qo_OperFits_G) [] Tryd.f9 [true]
theorem qo_OperFits_ok : AppOk Tryd.prog 9 qo_OperFits_R := runF_ok tb_M tb_ok qo_OperFits_Gok (LabsOk.nil) (f := 9) (fn := Tryd.f9) (by kernel_rfl) (by kernel_rfl) (by kernel_rfl) [true]
end Go.VE
namespace Go.VE
def fitsCore (t0 : List Int) (q1 : ((Int × Int × List Int × (Int × Int × Bool × Bool)) × (Int × Int × (Bool × Bool × List Int) × Bool) × (Int × Int × Int × Int × List Int))) (K : Res → List Cell → Prop) : Prop :=
  bif (decide ((4096 : Int) < (List.length t0 : Int))) then
    K (.one (.v (.bool) true)) []
  else
    oper_Do_P t0 q1.1.1 q1.1.2.2.1 q1.1.2.2.2 q1.1.2.1 ∧ (
    ∀ (r2 : EfD × Int), r2 = oper_Do_F t0 q1.1.1 q1.1.2.2.1 q1.1.2.2.2 q1.1.2.1 → (
    wfR (.tup [.v EfT r2.1, .v (.int .i64) r2.2]) → (
    oper_Put_P t0 q1.2.1.1 q1.2.1.2.1 q1.2.1.2.2.1 q1.2.1.2.2.2 ∧ (
    ∀ (r3 : EfD × Int), r3 = oper_Put_F t0 q1.2.1.1 q1.2.1.2.1 q1.2.1.2.2.1 q1.2.1.2.2.2 → (
    wfR (.tup [.v EfT r3.1, .v (.int .i64) r3.2]) → (
    qo_small_P t0 q1.2.2 ∧ (
    ∀ (r4 : EfD × Int), r4 = qo_small_F t0 q1.2.2 → (
    wfR (.tup [.v EfT r4.1, .v (.int .i64) r4.2]) → (
    qo_fits_P t0 r2.1 r2.2 ∧ (
    ∀ (r5 : Bool), r5 = qo_fits_F t0 r2.1 r2.2 → (
    wfR (.one (.v (.bool) r5)) → (
    bif r5 then
      qo_fits_P t0 r3.1 r3.2 ∧ (
      ∀ (r6 : Bool), r6 = qo_fits_F t0 r3.1 r3.2 → (
      wfR (.one (.v (.bool) r6)) → (
      bif r6 then
        qo_fits_P t0 r4.1 r4.2 ∧ (
        ∀ (r7 : Bool), r7 = qo_fits_F t0 r4.1 r4.2 → (
        wfR (.one (.v (.bool) r7)) → (
        K (.one (.v (.bool) r7)) [])))
      else
        K (.one (.v (.bool) false)) [])))
    else
      K (.one (.v (.bool) false)) []))))))))))))
theorem fits_core (t : List Int) (q : ((Int × Int × List Int × (Int × Int × Bool × Bool)) × (Int × Int × (Bool × Bool × List Int) × Bool) × (Int × Int × Int × Int × List Int))) (K : Res → List Cell → Prop) (hr : q.2.1.2.2.1.2.2.length ≤ 1048576) (h : K (.one (.v .bool true)) []) : fitsCore t q K := by
  unfold fitsCore
  refine brn (fun _ => h) (fun hc => ?_)
  have ht : t.length ≤ 65536 := by omega
  obtain ⟨d1, d2⟩ := do_fine (at_ := q.1.1) (op := q.1.2.2.1) (r := q.1.2.2.2) (count := q.1.2.1) ht
  obtain ⟨p1, p2⟩ := put_fine (at_ := q.2.1.1) (count := q.2.1.2.1) (r := q.2.1.2.2.1) (ahead := q.2.1.2.2.2) ht hr
  obtain ⟨s1, s2⟩ := small_fine (a := q.2.2) ht
  obtain ⟨f1, f2⟩ := fine_ok (by omega) d2
  obtain ⟨f3, f4⟩ := fine_ok (by omega) p2
  obtain ⟨f5, f6⟩ := fine_ok (by omega) s2
  refine ⟨d1, fun r2 e2 _ => ⟨p1, fun r3 e3 _ => ⟨s1, fun r4 e4 _ => ?_⟩⟩⟩
  rw [e2, e3, e4]
  refine ⟨f1, fun r5 e5 _ => ?_⟩
  rw [e5, f2]
  refine ⟨f3, fun r6 e6 _ => ?_⟩
  rw [e6, f4]
  refine ⟨f5, fun r7 e7 _ => ?_⟩
  rw [e7, f6]
  exact h
theorem fits_raw (t : List Int) (q : ((Int × Int × List Int × (Int × Int × Bool × Bool)) × (Int × Int × (Bool × Bool × List Int) × Bool) × (Int × Int × Int × Int × List Int))) (K : Res → List Cell → Prop) (hr : q.2.1.2.2.1.2.2.length ≤ 1048576) (h : K (.one (.v .bool true)) []) : qo_OperFits_raw t q K := by
  have c : fitsCore t q K := fits_core t q K hr h
  intro r1 h1 _
  have h1 : r1 = true := h1
  subst r1
  exact ⟨⟨c, c, trivial⟩, ⟨c, c, trivial⟩, ⟨c, c, trivial⟩, trivial⟩
theorem bulk_len (xs : List Int) : bulk (.sl (.int .u8)) xs = xs.length + 1 := by
  have : ∀ ys : List Int, (ys.map (bulk (.int .u8))).sum = ys.length := fun ys => by
    induction ys with
    | nil => rfl
    | cons a r ih => rw [List.map_cons, List.sum_cons, ih, List.length_cons]; show 1 + _ = _; omega
  show (xs.map (bulk (.int .u8))).sum + 1 = _
  rw [this]
set_option maxRecDepth 20000 in
theorem fits_law (v : valsA qo_OperFits_A) (_ : wfA qo_OperFits_A v) (hb : bulkA qo_OperFits_A v ≤ 1048576) : qo_OperFits_R (mkA qo_OperFits_A v) (fun r _ => r = .one (.v .bool true)) := by
  obtain ⟨t, q, ⟨⟩⟩ := v
  refine (qo_OperFits_walk t q _).mpr (fits_raw t q _ ?_ rfl)
  obtain ⟨⟨a1, a2, a3, a4⟩, ⟨b1, b2, ⟨b3, b4, b5⟩, b6⟩, c1, c2, c3, c4, c5⟩ := q
  have e : bulkA qo_OperFits_A (t, ((a1, a2, a3, a4), (b1, b2, (b3, b4, b5), b6), c1, c2, c3, c4, c5), ()) ≥ bulk (.sl (.int .u8)) b5 := by
    simp only [qo_OperFits_A, bulkA, bulk]
    omega
  rw [bulk_len] at e
  have hb' : bulkA qo_OperFits_A (t, ((a1, a2, a3, a4), (b1, b2, (b3, b4, b5), b6), c1, c2, c3, c4, c5), ()) ≤ 1048576 := hb
  show b5.length ≤ 1048576
  omega
end Go.VE
