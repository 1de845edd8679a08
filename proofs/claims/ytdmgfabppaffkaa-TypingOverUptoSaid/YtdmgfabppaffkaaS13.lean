/- TypingOver: whatever the input, up to the bulk that the statement names, the law answers true, and what was handed in reads as it did. Its conditions: the bound of the given statement, no other. -/
import Derived.Test.YtdmgfabppaffkaaS12
set_option linter.unusedVariables false
namespace Go.VE
open Go Go.Proofs
/-! ### quoin/quoinref20.Finish -/
def quoinref20_Finish_G : List (Nat × App) := [(23, quoinref20_fits_S), (33, quoinref20_others_S), (34, quoinref20_room_S), (32, quoinref20_put_S), (35, quoinref05_Column_S)]
theorem quoinref20_Finish_Gok : GOk Try.prog (getG quoinref20_Finish_G) := GOk.cons quoinref20_fits_ok (GOk.cons quoinref20_others_ok (GOk.cons quoinref20_room_ok (GOk.cons quoinref20_put_ok (GOk.cons quoinref05_Column_ok (GOk.nil)))))
theorem quoinref20_Finish_st : storesC (bodyOf Try.f18) = true := by kernel_rfl
def quoinref20_Finish_d0 : List LS := [.v 0 (.sl (.int .u8)), .b 3 24 [], .v 6 (.int .i64), .v 8 (.int .i64), .o 9 77 5 (.int .u8), .v 10 (.int .i64), .c 24 (.st (.pair (.int .u8) (.pair (.int .i64) (.pair (.sl (.int .u8)) (.pair (.int .i64) (.int .i64))))))]
def quoinref20_Finish_d0x0 : List LS := [.v 0 (.sl (.int .u8)), .b 3 24 [], .v 6 (.int .i64), .o 9 77 5 (.int .u8), .c 24 (.st (.pair (.int .u8) (.pair (.int .i64) (.pair (.sl (.int .u8)) (.pair (.int .i64) (.int .i64))))))]
def quoinref20_Finish_dx0 : DX := ⟨none, none, [(0, quoinref20_Finish_d0x0)]⟩
def quoinref20_Finish_T0 (Y : List Int → Int → Int → List Int → Int → (Int × Int × List Int × Int × Int) → Prop) (kx0 : List Int → Int → List Int → (Int × Int × List Int × Int × Int) → Prop) (base0 : List Int) (under6 : Int) (count8 : Int) (p9 : List Int) (i10 : Int) (y3b : (Int × Int × List Int × Int × Int)) : Prop :=
  bif (decide (i10 < count8)) then
    bif decide (List.length p9 + List.length y3b.2.2.1 ≤ lim) then
    Y base0 under6 count8 (p9 ++ y3b.2.2.1) (IntKind.wrap .i64 (i10 + (1 : Int))) y3b
    else False
  else
    kx0 base0 under6 p9 y3b
def quoinref20_Finish_L0 (kx0 : List Int → Int → List Int → (Int × Int × List Int × Int × Int) → Prop) : Nat → List Int → Int → Int → List Int → Int → (Int × Int × List Int × Int × Int) → Prop
  | 0, _, _, _, _, _, _ => False
  | n + 1, base0, under6, count8, p9, i10, y3b => wfD quoinref20_Finish_d0 (base0, under6, count8, p9, i10, y3b, ()) → quoinref20_Finish_T0 (quoinref20_Finish_L0 kx0 n) kx0 base0 under6 count8 p9 i10 y3b
theorem quoinref20_Finish_s0 (k : Ex → St → Prop) (Y : vals quoinref20_Finish_d0 → Prop) (base0 : List Int) (under6 : Int) (count8 : Int) (p9 : List Int) (i10 : Int) (y3b : (Int × Int × List Int × Int × Int)) :
    ex tb (getG quoinref20_Finish_G) [] (at' (bodyOf Try.f18) [0, 0, 1, 0, 1, 1, 1, 1, 1, 1, 1]) [0, 0, 1, 0, 1, 1, 1, 1, 1, 1, 1] (mkD 104 quoinref20_Finish_d0 (base0, under6, count8, p9, i10, y3b, ())) (lpK 104 quoinref20_Finish_d0 quoinref20_Finish_dx0 k Y) =
    quoinref20_Finish_T0 (fun base0 under6 count8 p9 i10 y3b => Y (base0, under6, count8, p9, i10, y3b, ())) (fun base0 under6 p9 y3b => wfD quoinref20_Finish_d0x0 (base0, under6, p9, y3b, ()) → k (.exit 0) (mkD 104 quoinref20_Finish_d0x0 (base0, under6, p9, y3b, ()))) base0 under6 count8 p9 i10 y3b := by kernel_rfl
theorem quoinref20_Finish_e0 (k : Ex → St → Prop) : ∀ (n : Nat) (base0 : List Int) (under6 : Int) (count8 : Int) (p9 : List Int) (i10 : Int) (y3b : (Int × Int × List Int × Int × Int)), lpD 104 quoinref20_Finish_d0 quoinref20_Finish_dx0 (ex tb (getG quoinref20_Finish_G) [] (at' (bodyOf Try.f18) [0, 0, 1, 0, 1, 1, 1, 1, 1, 1, 1]) [0, 0, 1, 0, 1, 1, 1, 1, 1, 1, 1]) k n (base0, under6, count8, p9, i10, y3b, ()) = quoinref20_Finish_L0 (fun base0 under6 p9 y3b => wfD quoinref20_Finish_d0x0 (base0, under6, p9, y3b, ()) → k (.exit 0) (mkD 104 quoinref20_Finish_d0x0 (base0, under6, p9, y3b, ()))) n base0 under6 count8 p9 i10 y3b
  | 0, _, _, _, _, _, _ => rfl
  | n + 1, base0, under6, count8, p9, i10, y3b => congrArg (fun Z : Prop => wfD quoinref20_Finish_d0 (base0, under6, count8, p9, i10, y3b, ()) → Z) ((quoinref20_Finish_s0 k (lpD 104 quoinref20_Finish_d0 quoinref20_Finish_dx0 (ex tb (getG quoinref20_Finish_G) [] (at' (bodyOf Try.f18) [0, 0, 1, 0, 1, 1, 1, 1, 1, 1, 1]) [0, 0, 1, 0, 1, 1, 1, 1, 1, 1, 1]) k n) base0 under6 count8 p9 i10 y3b).trans (congrArg (fun Y => quoinref20_Finish_T0 Y (fun base0 under6 p9 y3b => wfD quoinref20_Finish_d0x0 (base0, under6, p9, y3b, ()) → k (.exit 0) (mkD 104 quoinref20_Finish_d0x0 (base0, under6, p9, y3b, ()))) base0 under6 count8 p9 i10 y3b) (funext fun base0 => funext fun under6 => funext fun count8 => funext fun p9 => funext fun i10 => funext fun y3b => quoinref20_Finish_e0 k n base0 under6 count8 p9 i10 y3b)))
theorem quoinref20_Finish_v0 (k : Ex → St → Prop) (n : Nat) : ∀ v : vals quoinref20_Finish_d0, lpD 104 quoinref20_Finish_d0 quoinref20_Finish_dx0 (ex tb (getG quoinref20_Finish_G) [] (at' (bodyOf Try.f18) [0, 0, 1, 0, 1, 1, 1, 1, 1, 1, 1]) [0, 0, 1, 0, 1, 1, 1, 1, 1, 1, 1]) k n v = quoinref20_Finish_L0 (fun base0 under6 p9 y3b => wfD quoinref20_Finish_d0x0 (base0, under6, p9, y3b, ()) → k (.exit 0) (mkD 104 quoinref20_Finish_d0x0 (base0, under6, p9, y3b, ()))) n v.1 v.2.1 v.2.2.1 v.2.2.2.1 v.2.2.2.2.1 v.2.2.2.2.2.1
  | (base0, under6, count8, p9, i10, y3b, ()) => quoinref20_Finish_e0 k n base0 under6 count8 p9 i10 y3b
def quoinref20_Finish_X0 : Pce := fun st k => ckD 104 quoinref20_Finish_d0 st fun v => wfD quoinref20_Finish_d0 v → ∃ n, quoinref20_Finish_L0 (fun base0 under6 p9 y3b => wfD quoinref20_Finish_d0x0 (base0, under6, p9, y3b, ()) → k (.exit 0) (mkD 104 quoinref20_Finish_d0x0 (base0, under6, p9, y3b, ()))) n v.1 v.2.1 v.2.2.1 v.2.2.2.1 v.2.2.2.2.1 v.2.2.2.2.2.1
set_option maxRecDepth 20000 in
theorem quoinref20_Finish_x0 : SemOk Try.prog (at' (bodyOf Try.f18) [0, 1, 0, 1, 1, 1, 1, 1, 1, 1]) quoinref20_Finish_X0 :=
  (SemOk.loop (ex_sound tb_M tb_ok quoinref20_Finish_Gok (LabsOk.nil) (at' (bodyOf Try.f18) [0, 0, 1, 0, 1, 1, 1, 1, 1, 1, 1]) [0, 0, 1, 0, 1, 1, 1, 1, 1, 1, 1] rfl (storesC_at quoinref20_Finish_st [0, 0, 1, 0, 1, 1, 1, 1, 1, 1, 1])) 104 quoinref20_Finish_d0 quoinref20_Finish_dx0).mono fun st k h => ckD_mono h fun v hv hw => (hv hw).elim fun n hn => ⟨n, Eq.mpr (quoinref20_Finish_v0 k n v) hn⟩
def quoinref20_Finish_B0 : Labs := ([0, 1, 0, 1, 1, 1, 1, 1, 1, 1], quoinref20_Finish_X0) :: []
theorem quoinref20_Finish_b0 : LabsOk Try.prog (bodyOf Try.f18) quoinref20_Finish_B0 := LabsOk.cons quoinref20_Finish_x0 (LabsOk.nil)
def quoinref20_Finish_d1 : List LS := [.v 0 (.sl (.int .u8)), .b 3 24 [], .v 6 (.int .i64), .o 9 77 5 (.int .u8), .v 12 (.int .i64), .c 24 (.st (.pair (.int .u8) (.pair (.int .i64) (.pair (.sl (.int .u8)) (.pair (.int .i64) (.int .i64))))))]
def quoinref20_Finish_d1r : List LS := [.o 4 37 46 (.st (.pair (.int .i64) (.pair (.sl (.int .u8)) (.sl (.int .u8))))), .v 5 (.int .i64)]
def quoinref20_Finish_dx1 : DX := ⟨none, some quoinref20_Finish_d1r, []⟩
def quoinref20_Finish_J1 (kr : List ((Int × List Int × List Int)) → Int → Prop) (base0 : List Int) (under6 : Int) (p9 : List Int) (at12 : Int) (y3b : (Int × Int × List Int × Int × Int)) : Prop :=
  bif (decide ((List.length p9 : Int) = (0 : Int))) then
    kr ([] : List ((Int × List Int × List Int))) at12
  else
    bif decide (0 ≤ y3b.2.1 ∧ y3b.2.1 ≤ (IntKind.wrap .i64 (y3b.2.1 + under6)) ∧ (IntKind.wrap .i64 (y3b.2.1 + under6)) ≤ (List.length base0 : Int)) then
    bif decide (List.length ([] : List Int) + List.length (slc base0 y3b.2.1 (IntKind.wrap .i64 (y3b.2.1 + under6))) ≤ lim) then
    kr ([(y3b.2.1, (([] : List Int) ++ (slc base0 y3b.2.1 (IntKind.wrap .i64 (y3b.2.1 + under6)))), p9)] : List ((Int × List Int × List Int))) at12
    else False
    else False
theorem quoinref20_Finish_s1 (k : Ex → St → Prop) (base0 : List Int) (under6 : Int) (p9 : List Int) (at12 : Int) (y3b : (Int × Int × List Int × Int × Int)) :
    ex tb (getG quoinref20_Finish_G) quoinref20_Finish_B0 (at' (bodyOf Try.f18) [1, 1, 1, 1, 1, 1, 1, 1, 1, 1, 1, 1]) [1, 1, 1, 1, 1, 1, 1, 1, 1, 1, 1, 1] (mkD 104 quoinref20_Finish_d1 (base0, under6, p9, at12, y3b, ())) (wk 104 quoinref20_Finish_dx1 k) =
    quoinref20_Finish_J1 (fun x4 x5 => wfD quoinref20_Finish_d1r (x4, x5, ()) → k .ret (mkD 104 quoinref20_Finish_d1r (x4, x5, ()))) base0 under6 p9 at12 y3b := by kernel_rfl
theorem quoinref20_Finish_v1 (k : Ex → St → Prop) : ∀ v : vals quoinref20_Finish_d1, ex tb (getG quoinref20_Finish_G) quoinref20_Finish_B0 (at' (bodyOf Try.f18) [1, 1, 1, 1, 1, 1, 1, 1, 1, 1, 1, 1]) [1, 1, 1, 1, 1, 1, 1, 1, 1, 1, 1, 1] (mkD 104 quoinref20_Finish_d1 v) (wk 104 quoinref20_Finish_dx1 k) = quoinref20_Finish_J1 (fun x4 x5 => wfD quoinref20_Finish_d1r (x4, x5, ()) → k .ret (mkD 104 quoinref20_Finish_d1r (x4, x5, ()))) v.1 v.2.1 v.2.2.1 v.2.2.2.1 v.2.2.2.2.1
  | (base0, under6, p9, at12, y3b, ()) => quoinref20_Finish_s1 k base0 under6 p9 at12 y3b
def quoinref20_Finish_X1 : Pce := fun st k => ckD 104 quoinref20_Finish_d1 st fun v => wfD quoinref20_Finish_d1 v → quoinref20_Finish_J1 (fun x4 x5 => wfD quoinref20_Finish_d1r (x4, x5, ()) → k .ret (mkD 104 quoinref20_Finish_d1r (x4, x5, ()))) v.1 v.2.1 v.2.2.1 v.2.2.2.1 v.2.2.2.2.1
set_option maxRecDepth 20000 in
theorem quoinref20_Finish_x1 : SemOk Try.prog (at' (bodyOf Try.f18) [1, 1, 1, 1, 1, 1, 1, 1, 1, 1, 1, 1]) quoinref20_Finish_X1 :=
  (SemOk.wk (N := 104) (ds := quoinref20_Finish_d1) (dx := quoinref20_Finish_dx1) (ex_sound tb_M tb_ok quoinref20_Finish_Gok (quoinref20_Finish_b0) (at' (bodyOf Try.f18) [1, 1, 1, 1, 1, 1, 1, 1, 1, 1, 1, 1]) [1, 1, 1, 1, 1, 1, 1, 1, 1, 1, 1, 1] rfl (storesC_at quoinref20_Finish_st [1, 1, 1, 1, 1, 1, 1, 1, 1, 1, 1, 1]))).mono fun st k h => ckD_mono h fun v hv hw => Eq.mpr (quoinref20_Finish_v1 k v) (hv hw)
def quoinref20_Finish_B1 : Labs := ([1, 1, 1, 1, 1, 1, 1, 1, 1, 1, 1, 1], quoinref20_Finish_X1) :: quoinref20_Finish_B0
theorem quoinref20_Finish_b1 : LabsOk Try.prog (bodyOf Try.f18) quoinref20_Finish_B1 := LabsOk.cons quoinref20_Finish_x1 (quoinref20_Finish_b0)
def quoinref20_Finish_d2 : List LS := [.v 0 (.sl (.int .u8)), .b 3 24 [], .v 6 (.int .i64), .v 8 (.int .i64), .c 24 (.st (.pair (.int .u8) (.pair (.int .i64) (.pair (.sl (.int .u8)) (.pair (.int .i64) (.int .i64))))))]
def quoinref20_Finish_d2r : List LS := [.o 4 37 46 (.st (.pair (.int .i64) (.pair (.sl (.int .u8)) (.sl (.int .u8))))), .v 5 (.int .i64)]
def quoinref20_Finish_dx2 : DX := ⟨none, some quoinref20_Finish_d2r, []⟩
def quoinref20_Finish_J2 (kr : List ((Int × List Int × List Int)) → Int → Prop) (base0 : List Int) (under6 : Int) (count8 : Int) (y3b : (Int × Int × List Int × Int × Int)) : Prop :=
  (wfD quoinref20_Finish_d0 (base0, under6, count8, ([] : List Int), (0 : Int), y3b, ()) → ∃ n, quoinref20_Finish_L0 (fun (base0 : List Int) (under6 : Int) (p9 : List Int) (y3b : (Int × Int × List Int × Int × Int)) => wfD quoinref20_Finish_d0x0 (base0, under6, p9, y3b, ()) → (
      quoinref20_put_P base0 y3b.2.1 under6 p9 ∧ (
      ∀ (r4 : List Int), r4 = quoinref20_put_F base0 y3b.2.1 under6 p9 → (
      wfR (.one (.fr 5 (.int .u8) r4)) → (
      quoinref05_Column_P r4 (IntKind.wrap .i64 (y3b.2.1 + (List.length p9 : Int))) ∧ (
      ∀ (r5 : Int × Int), r5 = quoinref05_Column_F r4 (IntKind.wrap .i64 (y3b.2.1 + (List.length p9 : Int))) → (
      wfR (.tup [.v (.int .i64) r5.1, .v (.int .i64) r5.2]) → (
      bif (decide ((0 : Int) < r5.1)) then
        (wfD quoinref20_Finish_d1 (base0, under6, p9, (IntKind.wrap .i64 ((IntKind.wrap .i64 (y3b.2.1 + (List.length p9 : Int))) - (1 : Int))), y3b, ()) → quoinref20_Finish_J1 (fun (x4 : List ((Int × List Int × List Int))) (x5 : Int) => wfD quoinref20_Finish_d1r (x4, x5, ()) → (
            kr x4 x5)) base0 under6 p9 (IntKind.wrap .i64 ((IntKind.wrap .i64 (y3b.2.1 + (List.length p9 : Int))) - (1 : Int))) y3b)
      else
        (wfD quoinref20_Finish_d1 (base0, under6, p9, (IntKind.wrap .i64 (y3b.2.1 + (List.length p9 : Int))), y3b, ()) → quoinref20_Finish_J1 (fun (x4 : List ((Int × List Int × List Int))) (x5 : Int) => wfD quoinref20_Finish_d1r (x4, x5, ()) → (
            kr x4 x5)) base0 under6 p9 (IntKind.wrap .i64 (y3b.2.1 + (List.length p9 : Int))) y3b))))))))) n base0 under6 count8 ([] : List Int) (0 : Int) y3b)
theorem quoinref20_Finish_s2 (k : Ex → St → Prop) (base0 : List Int) (under6 : Int) (count8 : Int) (y3b : (Int × Int × List Int × Int × Int)) :
    ex tb (getG quoinref20_Finish_G) quoinref20_Finish_B1 (at' (bodyOf Try.f18) [1, 1, 1, 1, 1, 1]) [1, 1, 1, 1, 1, 1] (mkD 104 quoinref20_Finish_d2 (base0, under6, count8, y3b, ())) (wk 104 quoinref20_Finish_dx2 k) =
    quoinref20_Finish_J2 (fun x4 x5 => wfD quoinref20_Finish_d2r (x4, x5, ()) → k .ret (mkD 104 quoinref20_Finish_d2r (x4, x5, ()))) base0 under6 count8 y3b := by kernel_rfl
theorem quoinref20_Finish_v2 (k : Ex → St → Prop) : ∀ v : vals quoinref20_Finish_d2, ex tb (getG quoinref20_Finish_G) quoinref20_Finish_B1 (at' (bodyOf Try.f18) [1, 1, 1, 1, 1, 1]) [1, 1, 1, 1, 1, 1] (mkD 104 quoinref20_Finish_d2 v) (wk 104 quoinref20_Finish_dx2 k) = quoinref20_Finish_J2 (fun x4 x5 => wfD quoinref20_Finish_d2r (x4, x5, ()) → k .ret (mkD 104 quoinref20_Finish_d2r (x4, x5, ()))) v.1 v.2.1 v.2.2.1 v.2.2.2.1
  | (base0, under6, count8, y3b, ()) => quoinref20_Finish_s2 k base0 under6 count8 y3b
def quoinref20_Finish_X2 : Pce := fun st k => ckD 104 quoinref20_Finish_d2 st fun v => wfD quoinref20_Finish_d2 v → quoinref20_Finish_J2 (fun x4 x5 => wfD quoinref20_Finish_d2r (x4, x5, ()) → k .ret (mkD 104 quoinref20_Finish_d2r (x4, x5, ()))) v.1 v.2.1 v.2.2.1 v.2.2.2.1
set_option maxRecDepth 20000 in
theorem quoinref20_Finish_x2 : SemOk Try.prog (at' (bodyOf Try.f18) [1, 1, 1, 1, 1, 1]) quoinref20_Finish_X2 :=
  (SemOk.wk (N := 104) (ds := quoinref20_Finish_d2) (dx := quoinref20_Finish_dx2) (ex_sound tb_M tb_ok quoinref20_Finish_Gok (quoinref20_Finish_b1) (at' (bodyOf Try.f18) [1, 1, 1, 1, 1, 1]) [1, 1, 1, 1, 1, 1] rfl (storesC_at quoinref20_Finish_st [1, 1, 1, 1, 1, 1]))).mono fun st k h => ckD_mono h fun v hv hw => Eq.mpr (quoinref20_Finish_v2 k v) (hv hw)
def quoinref20_Finish_B2 : Labs := ([1, 1, 1, 1, 1, 1], quoinref20_Finish_X2) :: quoinref20_Finish_B1
theorem quoinref20_Finish_b2 : LabsOk Try.prog (bodyOf Try.f18) quoinref20_Finish_B2 := LabsOk.cons quoinref20_Finish_x2 (quoinref20_Finish_b1)
def quoinref20_Finish_d3 : List LS := [.v 0 (.sl (.int .u8)), .b 3 24 [], .v 6 (.int .i64), .v 7 (.int .i64), .c 24 (.st (.pair (.int .u8) (.pair (.int .i64) (.pair (.sl (.int .u8)) (.pair (.int .i64) (.int .i64))))))]
def quoinref20_Finish_d3r : List LS := [.o 4 37 46 (.st (.pair (.int .i64) (.pair (.sl (.int .u8)) (.sl (.int .u8))))), .v 5 (.int .i64)]
def quoinref20_Finish_dx3 : DX := ⟨none, some quoinref20_Finish_d3r, []⟩
def quoinref20_Finish_J3 (kr : List ((Int × List Int × List Int)) → Int → Prop) (base0 : List Int) (under6 : Int) (size7 : Int) (y3b : (Int × Int × List Int × Int × Int)) : Prop :=
  bif (decide ((65536 : Int) < (IntKind.wrap .i64 ((IntKind.wrap .i64 ((List.length base0 : Int) - under6)) + size7)))) then
    (wfD quoinref20_Finish_d2 (base0, y3b.2.2.2.1, (1 : Int), y3b, ()) → quoinref20_Finish_J2 (fun (x4 : List ((Int × List Int × List Int))) (x5 : Int) => wfD quoinref20_Finish_d2r (x4, x5, ()) → (
        kr x4 x5)) base0 y3b.2.2.2.1 (1 : Int) y3b)
  else
    (wfD quoinref20_Finish_d2 (base0, under6, y3b.2.2.2.2, y3b, ()) → quoinref20_Finish_J2 (fun (x4 : List ((Int × List Int × List Int))) (x5 : Int) => wfD quoinref20_Finish_d2r (x4, x5, ()) → (
        kr x4 x5)) base0 under6 y3b.2.2.2.2 y3b)
theorem quoinref20_Finish_s3 (k : Ex → St → Prop) (base0 : List Int) (under6 : Int) (size7 : Int) (y3b : (Int × Int × List Int × Int × Int)) :
    ex tb (getG quoinref20_Finish_G) quoinref20_Finish_B2 (at' (bodyOf Try.f18) [1, 1, 1, 1]) [1, 1, 1, 1] (mkD 104 quoinref20_Finish_d3 (base0, under6, size7, y3b, ())) (wk 104 quoinref20_Finish_dx3 k) =
    quoinref20_Finish_J3 (fun x4 x5 => wfD quoinref20_Finish_d3r (x4, x5, ()) → k .ret (mkD 104 quoinref20_Finish_d3r (x4, x5, ()))) base0 under6 size7 y3b := by kernel_rfl
theorem quoinref20_Finish_v3 (k : Ex → St → Prop) : ∀ v : vals quoinref20_Finish_d3, ex tb (getG quoinref20_Finish_G) quoinref20_Finish_B2 (at' (bodyOf Try.f18) [1, 1, 1, 1]) [1, 1, 1, 1] (mkD 104 quoinref20_Finish_d3 v) (wk 104 quoinref20_Finish_dx3 k) = quoinref20_Finish_J3 (fun x4 x5 => wfD quoinref20_Finish_d3r (x4, x5, ()) → k .ret (mkD 104 quoinref20_Finish_d3r (x4, x5, ()))) v.1 v.2.1 v.2.2.1 v.2.2.2.1
  | (base0, under6, size7, y3b, ()) => quoinref20_Finish_s3 k base0 under6 size7 y3b
def quoinref20_Finish_X3 : Pce := fun st k => ckD 104 quoinref20_Finish_d3 st fun v => wfD quoinref20_Finish_d3 v → quoinref20_Finish_J3 (fun x4 x5 => wfD quoinref20_Finish_d3r (x4, x5, ()) → k .ret (mkD 104 quoinref20_Finish_d3r (x4, x5, ()))) v.1 v.2.1 v.2.2.1 v.2.2.2.1
set_option maxRecDepth 20000 in
theorem quoinref20_Finish_x3 : SemOk Try.prog (at' (bodyOf Try.f18) [1, 1, 1, 1]) quoinref20_Finish_X3 :=
  (SemOk.wk (N := 104) (ds := quoinref20_Finish_d3) (dx := quoinref20_Finish_dx3) (ex_sound tb_M tb_ok quoinref20_Finish_Gok (quoinref20_Finish_b2) (at' (bodyOf Try.f18) [1, 1, 1, 1]) [1, 1, 1, 1] rfl (storesC_at quoinref20_Finish_st [1, 1, 1, 1]))).mono fun st k h => ckD_mono h fun v hv hw => Eq.mpr (quoinref20_Finish_v3 k v) (hv hw)
def quoinref20_Finish_B3 : Labs := ([1, 1, 1, 1], quoinref20_Finish_X3) :: quoinref20_Finish_B2
theorem quoinref20_Finish_b3 : LabsOk Try.prog (bodyOf Try.f18) quoinref20_Finish_B3 := LabsOk.cons quoinref20_Finish_x3 (quoinref20_Finish_b2)
def quoinref20_Finish_raw (base0 : List Int) (y1 : (Int × Int × List Int × Int × Int)) (K : Res → List Cell → Prop) : Prop :=
  ∀ (r1 : Bool), r1 = quoinref20_fits_F base0 y1 → (
  wfR (.one (.v (.bool) r1)) → (
  bif (!r1) then
    K (.tup [.fr 46 (.st (.pair (.int .i64) (.pair (.sl (.int .u8)) (.sl (.int .u8))))) ([] : List ((Int × List Int × List Int))), .v (.int .i64) (0 : Int)]) []
  else
  bif (decide (y1.1 = (82 : Int))) then
    ∀ (r2 : Int), r2 = quoinref20_others_F y1.2.2.1 → (
    wfR (.one (.v (.int .i64) r2)) → (
    quoinref20_room_P base0 y1.2.1 ∧ (
    ∀ (r3 : Int), r3 = quoinref20_room_F base0 y1.2.1 → (
    wfR (.one (.v (.int .i64) r3)) → (
    (wfD quoinref20_Finish_d3 (base0, (mn (IntKind.wrap .i64 (r2 * y1.2.2.2.2)) r3), (IntKind.wrap .i64 ((List.length y1.2.2.1 : Int) * y1.2.2.2.2)), y1, ()) → quoinref20_Finish_J3 (fun (x4 : List ((Int × List Int × List Int))) (x5 : Int) => wfD quoinref20_Finish_d3r (x4, x5, ()) → (
        K (.tup [.fr 46 (.st (.pair (.int .i64) (.pair (.sl (.int .u8)) (.sl (.int .u8))))) x4, .v (.int .i64) x5]) [])) base0 (mn (IntKind.wrap .i64 (r2 * y1.2.2.2.2)) r3) (IntKind.wrap .i64 ((List.length y1.2.2.1 : Int) * y1.2.2.2.2)) y1))))))
  else
    (wfD quoinref20_Finish_d3 (base0, y1.2.2.2.1, (IntKind.wrap .i64 ((List.length y1.2.2.1 : Int) * y1.2.2.2.2)), y1, ()) → quoinref20_Finish_J3 (fun (x4 : List ((Int × List Int × List Int))) (x5 : Int) => wfD quoinref20_Finish_d3r (x4, x5, ()) → (
        K (.tup [.fr 46 (.st (.pair (.int .i64) (.pair (.sl (.int .u8)) (.sl (.int .u8))))) x4, .v (.int .i64) x5]) [])) base0 y1.2.2.2.1 (IntKind.wrap .i64 ((List.length y1.2.2.1 : Int) * y1.2.2.2.2)) y1)))
def quoinref20_Finish_A : List AS := [.v (.sl (.int .u8)), .v (.st (.pair (.int .u8) (.pair (.int .i64) (.pair (.sl (.int .u8)) (.pair (.int .i64) (.int .i64))))))]
theorem quoinref20_Finish_walk (base0 : List Int) (y1 : (Int × Int × List Int × Int × Int)) (K : Res → List Cell → Prop) : runF tb (getG quoinref20_Finish_G) quoinref20_Finish_B3 Try.f18 [true, true] (mkA quoinref20_Finish_A (base0, y1, ())) K = quoinref20_Finish_raw base0 y1 K := by kernel_rfl
def repR (b : List Int) : Nat → List Int
  | 0 => []
  | n + 1 => b ++ repR b n
def quoinref20_Finish_L0_P (_ : List Int) (_ : Int) (count : Int) (p : List Int) (i : Int) (y : Int × Int × List Int × Int × Int) : Prop :=
  0 ≤ i ∧ i ≤ 4294967296 ∧ count ≤ 4294967296 ∧ p.length + (count - i).toNat * y.2.2.1.length ≤ lim
def quoinref20_Finish_L0_F (base : List Int) (under : Int) (count : Int) (p : List Int) (i : Int) (y : Int × Int × List Int × Int × Int) : List Int × Int × List Int × (Int × Int × List Int × Int × Int) :=
  (base, under, p ++ repR y.2.2.1 (count - i).toNat, y)
theorem quoinref20_Finish_l0 (kx0 : List Int → Int → List Int → (Int × Int × List Int × Int × Int) → Prop) (base : List Int) (under count : Int) (y : Int × Int × List Int × Int × Int) : ∀ (m d : Nat) (p : List Int) (i : Int), d < m → (count - i).toNat = d →
    quoinref20_Finish_L0_P base under count p i y → kx0 base under (p ++ repR y.2.2.1 d) y → quoinref20_Finish_L0 kx0 m base under count p i y
  | 0, _, _, _, h, _, _, _ => absurd h (Nat.not_lt_zero _)
  | m + 1, d, p, i, hm, hd, hp, h => by
    obtain ⟨h0, h1, h2, h3⟩ := hp
    intro _
    unfold quoinref20_Finish_T0
    refine brn (fun hlt => ?_) (fun hge => ?_)
    · obtain ⟨d, rfl⟩ : ∃ e, d = e + 1 := ⟨d - 1, by omega⟩
      rw [hd, Nat.succ_mul] at h3
      refine asrt (by omega) ?_
      rw [wrap_i64 (by omega) (by omega)]
      have hd2 : (count - (i + 1)).toNat = d := by omega
      exact quoinref20_Finish_l0 kx0 base under count y m d _ (i + 1) (by omega) hd2 ⟨by omega, by omega, h2, by rw [List.length_append, hd2]; omega⟩ (by rw [List.append_assoc]; exact h)
    · obtain rfl : d = 0 := by omega
      simpa [repR] using h
theorem quoinref20_Finish_L0_sp (kx0 : List Int → Int → List Int → (Int × Int × List Int × Int × Int) → Prop) (base : List Int) (under count : Int) (p : List Int) (i : Int) (y : Int × Int × List Int × Int × Int) (hp : quoinref20_Finish_L0_P base under count p i y)
    (h : ∀ q : List Int × Int × List Int × (Int × Int × List Int × Int × Int), q = quoinref20_Finish_L0_F base under count p i y → kx0 q.1 q.2.1 q.2.2.1 q.2.2.2) : ∃ n, quoinref20_Finish_L0 kx0 n base under count p i y :=
  ⟨(count - i).toNat + 1, quoinref20_Finish_l0 kx0 base under count y _ _ p i (Nat.lt_succ_self _) rfl hp (h _ rfl)⟩

def quoinref20_Finish_J1_P (base0 : List Int) (under6 : Int) (p9 : List Int) (at12 : Int) (y3b : (Int × Int × List Int × Int × Int)) : Prop :=
  bif (decide ((List.length p9 : Int) = (0 : Int))) then
    True
  else
    (0 ≤ y3b.2.1 ∧ y3b.2.1 ≤ (IntKind.wrap .i64 (y3b.2.1 + under6)) ∧ (IntKind.wrap .i64 (y3b.2.1 + under6)) ≤ (List.length base0 : Int)) ∧ (
    (List.length ([] : List Int) + List.length (slc base0 y3b.2.1 (IntKind.wrap .i64 (y3b.2.1 + under6))) ≤ lim))
def quoinref20_Finish_J1_F (base0 : List Int) (under6 : Int) (p9 : List Int) (at12 : Int) (y3b : (Int × Int × List Int × Int × Int)) : List ((Int × List Int × List Int)) × Int :=
  bif (decide ((List.length p9 : Int) = (0 : Int))) then
    (([] : List ((Int × List Int × List Int))), at12)
  else
    (([(y3b.2.1, (([] : List Int) ++ (slc base0 y3b.2.1 (IntKind.wrap .i64 (y3b.2.1 + under6)))), p9)] : List ((Int × List Int × List Int))), at12)
set_option maxRecDepth 20000 in
theorem quoinref20_Finish_J1_sp (kr : List ((Int × List Int × List Int)) → Int → Prop) (base0 : List Int) (under6 : Int) (p9 : List Int) (at12 : Int) (y3b : (Int × Int × List Int × Int × Int)) (hp : quoinref20_Finish_J1_P base0 under6 p9 at12 y3b) (hr : ∀ q : List ((Int × List Int × List Int)) × Int, q = quoinref20_Finish_J1_F base0 under6 p9 at12 y3b → kr q.1 q.2) : quoinref20_Finish_J1 kr base0 under6 p9 at12 y3b := by
  unfold quoinref20_Finish_J1
  unfold quoinref20_Finish_J1_P at hp
  refine brb (fun c1 => ?_) (fun c1 => ?_)
  ·
    clear hp
    have e := hr _ ((ctrue c1) : quoinref20_Finish_J1_F base0 under6 p9 at12 y3b = _).symm
    exact e
  ·
    replace hp := cF c1 hp
    refine asrt hp.1 ?_
    replace hp := hp.2
    refine asrt hp ?_
    have e := hr _ ((cfalse c1) : quoinref20_Finish_J1_F base0 under6 p9 at12 y3b = _).symm
    exact e
def quoinref20_Finish_J2_P (base0 : List Int) (under6 : Int) (count8 : Int) (y3b : (Int × Int × List Int × Int × Int)) : Prop :=
  quoinref20_Finish_L0_P base0 under6 count8 ([] : List Int) (0 : Int) y3b ∧ (
  let q0x0 : List Int × Int × List Int × (Int × Int × List Int × Int × Int) := quoinref20_Finish_L0_F base0 under6 count8 ([] : List Int) (0 : Int) y3b
  let base0 : List Int := q0x0.1
  let under6 : Int := q0x0.2.1
  let p9 : List Int := q0x0.2.2.1
  let y3b : (Int × Int × List Int × Int × Int) := q0x0.2.2.2
  quoinref20_put_P base0 y3b.2.1 under6 p9 ∧ (
  let r4 : List Int := quoinref20_put_F base0 y3b.2.1 under6 p9
  quoinref05_Column_P r4 (IntKind.wrap .i64 (y3b.2.1 + (List.length p9 : Int))) ∧ (
  let r5 : Int × Int := quoinref05_Column_F r4 (IntKind.wrap .i64 (y3b.2.1 + (List.length p9 : Int)))
  bif (decide ((0 : Int) < r5.1)) then
    quoinref20_Finish_J1_P base0 under6 p9 (IntKind.wrap .i64 ((IntKind.wrap .i64 (y3b.2.1 + (List.length p9 : Int))) - (1 : Int))) y3b
  else
    quoinref20_Finish_J1_P base0 under6 p9 (IntKind.wrap .i64 (y3b.2.1 + (List.length p9 : Int))) y3b)))
def quoinref20_Finish_J2_F (base0 : List Int) (under6 : Int) (count8 : Int) (y3b : (Int × Int × List Int × Int × Int)) : List ((Int × List Int × List Int)) × Int :=
  let q0x0 : List Int × Int × List Int × (Int × Int × List Int × Int × Int) := quoinref20_Finish_L0_F base0 under6 count8 ([] : List Int) (0 : Int) y3b
  let base0 : List Int := q0x0.1
  let under6 : Int := q0x0.2.1
  let p9 : List Int := q0x0.2.2.1
  let y3b : (Int × Int × List Int × Int × Int) := q0x0.2.2.2
  let r4 : List Int := quoinref20_put_F base0 y3b.2.1 under6 p9
  let r5 : Int × Int := quoinref05_Column_F r4 (IntKind.wrap .i64 (y3b.2.1 + (List.length p9 : Int)))
  bif (decide ((0 : Int) < r5.1)) then
    let q1r : List ((Int × List Int × List Int)) × Int := quoinref20_Finish_J1_F base0 under6 p9 (IntKind.wrap .i64 ((IntKind.wrap .i64 (y3b.2.1 + (List.length p9 : Int))) - (1 : Int))) y3b
    let x4 : List ((Int × List Int × List Int)) := q1r.1
    let x5 : Int := q1r.2
    (x4, x5)
  else
    let q1r : List ((Int × List Int × List Int)) × Int := quoinref20_Finish_J1_F base0 under6 p9 (IntKind.wrap .i64 (y3b.2.1 + (List.length p9 : Int))) y3b
    let x4 : List ((Int × List Int × List Int)) := q1r.1
    let x5 : Int := q1r.2
    (x4, x5)
set_option maxRecDepth 20000 in
theorem quoinref20_Finish_J2_sp (kr : List ((Int × List Int × List Int)) → Int → Prop) (base0 : List Int) (under6 : Int) (count8 : Int) (y3b : (Int × Int × List Int × Int × Int)) (hp : quoinref20_Finish_J2_P base0 under6 count8 y3b) (hr : ∀ q : List ((Int × List Int × List Int)) × Int, q = quoinref20_Finish_J2_F base0 under6 count8 y3b → kr q.1 q.2) : quoinref20_Finish_J2 kr base0 under6 count8 y3b := by
  unfold quoinref20_Finish_J2
  unfold quoinref20_Finish_J2_P at hp
  refine fun _ => quoinref20_Finish_L0_sp _ _ _ _ _ _ _ hp.1 (fun q hq => ?_)
  subst hq
  intro _
  replace hp := hp.2
  refine ⟨hp.1, ?_⟩
  replace hp := hp.2
  intro r4 hr4
  subst hr4
  intro _
  refine ⟨hp.1, ?_⟩
  replace hp := hp.2
  intro r5 hr5
  subst hr5
  intro _
  refine brb (fun c2 => ?_) (fun c2 => ?_)
  ·
    replace hp := cT c2 hp
    refine fun _ => quoinref20_Finish_J1_sp _ _ _ _ _ _ hp (fun q hq => ?_)
    subst hq
    intro _
    clear hp
    have e := hr _ ((ctrue c2) : quoinref20_Finish_J2_F base0 under6 count8 y3b = _).symm
    exact e
  ·
    replace hp := cF c2 hp
    refine fun _ => quoinref20_Finish_J1_sp _ _ _ _ _ _ hp (fun q hq => ?_)
    subst hq
    intro _
    clear hp
    have e := hr _ ((cfalse c2) : quoinref20_Finish_J2_F base0 under6 count8 y3b = _).symm
    exact e
def quoinref20_Finish_J3_P (base0 : List Int) (under6 : Int) (size7 : Int) (y3b : (Int × Int × List Int × Int × Int)) : Prop :=
  bif (decide ((65536 : Int) < (IntKind.wrap .i64 ((IntKind.wrap .i64 ((List.length base0 : Int) - under6)) + size7)))) then
    quoinref20_Finish_J2_P base0 y3b.2.2.2.1 (1 : Int) y3b
  else
    quoinref20_Finish_J2_P base0 under6 y3b.2.2.2.2 y3b
def quoinref20_Finish_J3_F (base0 : List Int) (under6 : Int) (size7 : Int) (y3b : (Int × Int × List Int × Int × Int)) : List ((Int × List Int × List Int)) × Int :=
  bif (decide ((65536 : Int) < (IntKind.wrap .i64 ((IntKind.wrap .i64 ((List.length base0 : Int) - under6)) + size7)))) then
    let q2r : List ((Int × List Int × List Int)) × Int := quoinref20_Finish_J2_F base0 y3b.2.2.2.1 (1 : Int) y3b
    let x4 : List ((Int × List Int × List Int)) := q2r.1
    let x5 : Int := q2r.2
    (x4, x5)
  else
    let q2r : List ((Int × List Int × List Int)) × Int := quoinref20_Finish_J2_F base0 under6 y3b.2.2.2.2 y3b
    let x4 : List ((Int × List Int × List Int)) := q2r.1
    let x5 : Int := q2r.2
    (x4, x5)
set_option maxRecDepth 20000 in
theorem quoinref20_Finish_J3_sp (kr : List ((Int × List Int × List Int)) → Int → Prop) (base0 : List Int) (under6 : Int) (size7 : Int) (y3b : (Int × Int × List Int × Int × Int)) (hp : quoinref20_Finish_J3_P base0 under6 size7 y3b) (hr : ∀ q : List ((Int × List Int × List Int)) × Int, q = quoinref20_Finish_J3_F base0 under6 size7 y3b → kr q.1 q.2) : quoinref20_Finish_J3 kr base0 under6 size7 y3b := by
  unfold quoinref20_Finish_J3
  unfold quoinref20_Finish_J3_P at hp
  refine brb (fun c3 => ?_) (fun c3 => ?_)
  ·
    replace hp := cT c3 hp
    refine fun _ => quoinref20_Finish_J2_sp _ _ _ _ _ hp (fun q hq => ?_)
    subst hq
    intro _
    clear hp
    have e := hr _ ((ctrue c3) : quoinref20_Finish_J3_F base0 under6 size7 y3b = _).symm
    exact e
  ·
    replace hp := cF c3 hp
    refine fun _ => quoinref20_Finish_J2_sp _ _ _ _ _ hp (fun q hq => ?_)
    subst hq
    intro _
    clear hp
    have e := hr _ ((cfalse c3) : quoinref20_Finish_J3_F base0 under6 size7 y3b = _).symm
    exact e
def quoinref20_Finish_P (base0 : List Int) (y1 : (Int × Int × List Int × Int × Int)) : Prop :=
  let r1 : Bool := quoinref20_fits_F base0 y1
  bif (!r1) then
    True
  else
    bif (decide (y1.1 = (82 : Int))) then
      let r2 : Int := quoinref20_others_F y1.2.2.1
      quoinref20_room_P base0 y1.2.1 ∧ (
      let r3 : Int := quoinref20_room_F base0 y1.2.1
      quoinref20_Finish_J3_P base0 (mn (IntKind.wrap .i64 (r2 * y1.2.2.2.2)) r3) (IntKind.wrap .i64 ((List.length y1.2.2.1 : Int) * y1.2.2.2.2)) y1)
    else
      quoinref20_Finish_J3_P base0 y1.2.2.2.1 (IntKind.wrap .i64 ((List.length y1.2.2.1 : Int) * y1.2.2.2.2)) y1
def quoinref20_Finish_F (base0 : List Int) (y1 : (Int × Int × List Int × Int × Int)) : List ((Int × List Int × List Int)) × Int :=
  let r1 : Bool := quoinref20_fits_F base0 y1
  bif (!r1) then
    (([] : List ((Int × List Int × List Int))), (0 : Int))
  else
    bif (decide (y1.1 = (82 : Int))) then
      let r2 : Int := quoinref20_others_F y1.2.2.1
      let r3 : Int := quoinref20_room_F base0 y1.2.1
      let q3r : List ((Int × List Int × List Int)) × Int := quoinref20_Finish_J3_F base0 (mn (IntKind.wrap .i64 (r2 * y1.2.2.2.2)) r3) (IntKind.wrap .i64 ((List.length y1.2.2.1 : Int) * y1.2.2.2.2)) y1
      let x4 : List ((Int × List Int × List Int)) := q3r.1
      let x5 : Int := q3r.2
      (x4, x5)
    else
      let q3r : List ((Int × List Int × List Int)) × Int := quoinref20_Finish_J3_F base0 y1.2.2.2.1 (IntKind.wrap .i64 ((List.length y1.2.2.1 : Int) * y1.2.2.2.2)) y1
      let x4 : List ((Int × List Int × List Int)) := q3r.1
      let x5 : Int := q3r.2
      (x4, x5)
set_option maxRecDepth 20000 in
theorem quoinref20_Finish_sp (base0 : List Int) (y1 : (Int × Int × List Int × Int × Int)) (K : Res → List Cell → Prop) (_ : wfA quoinref20_Finish_A (base0, y1, ())) (hp : quoinref20_Finish_P base0 y1) (h : ∀ r : List ((Int × List Int × List Int)) × Int, r = quoinref20_Finish_F base0 y1 → K (.tup [.fr 46 (.st (.pair (.int .i64) (.pair (.sl (.int .u8)) (.sl (.int .u8))))) r.1, .v (.int .i64) r.2]) []) : quoinref20_Finish_raw base0 y1 K := by
  unfold quoinref20_Finish_raw
  unfold quoinref20_Finish_P at hp
  intro r1 hr1
  subst hr1
  intro _
  refine brb (fun c4 => ?_) (fun c4 => ?_)
  ·
    clear hp
    have e := h _ ((ctrue c4) : quoinref20_Finish_F base0 y1 = _).symm
    exact e
  ·
    replace hp := cF c4 hp
    refine brb (fun c5 => ?_) (fun c5 => ?_)
    ·
      replace hp := cT c5 hp
      intro r2 hr2
      subst hr2
      intro _
      refine ⟨hp.1, ?_⟩
      replace hp := hp.2
      intro r3 hr3
      subst hr3
      intro _
      refine fun _ => quoinref20_Finish_J3_sp _ _ _ _ _ hp (fun q hq => ?_)
      subst hq
      intro _
      clear hp
      have e := h _ ((Eq.trans (cfalse c4) (ctrue c5)) : quoinref20_Finish_F base0 y1 = _).symm
      exact e
    ·
      replace hp := cF c5 hp
      refine fun _ => quoinref20_Finish_J3_sp _ _ _ _ _ hp (fun q hq => ?_)
      subst hq
      intro _
      clear hp
      have e := h _ ((Eq.trans (cfalse c4) (cfalse c5)) : quoinref20_Finish_F base0 y1 = _).symm
      exact e
def quoinref20_Finish_C (v : valsA quoinref20_Finish_A) (K : Res → List Cell → Prop) : Prop := quoinref20_Finish_P v.1 v.2.1 ∧ ∀ r : List ((Int × List Int × List Int)) × Int, r = quoinref20_Finish_F v.1 v.2.1 → K (.tup [.fr 46 (.st (.pair (.int .i64) (.pair (.sl (.int .u8)) (.sl (.int .u8))))) r.1, .v (.int .i64) r.2]) []
def quoinref20_Finish_S : App := specW quoinref20_Finish_A quoinref20_Finish_C
theorem quoinref20_Finish_wv (K : Res → List Cell → Prop) : ∀ v : valsA quoinref20_Finish_A, runF tb (getG quoinref20_Finish_G) quoinref20_Finish_B3 Try.f18 [true, true] (mkA quoinref20_Finish_A v) K = quoinref20_Finish_raw v.1 v.2.1 K
  | (base0, y1, ()) => quoinref20_Finish_walk base0 y1 K
set_option maxRecDepth 20000 in
theorem quoinref20_Finish_ok : AppOk Try.prog 18 quoinref20_Finish_S :=
  AppOk.specW (spec_ok (runF_ok tb_M tb_ok quoinref20_Finish_Gok (quoinref20_Finish_b3) (f := 18) (fn := Try.f18) (by kernel_rfl) (by kernel_rfl) quoinref20_Finish_st [true, true]) fun v K hw h => (quoinref20_Finish_wv K v).mpr (quoinref20_Finish_sp v.1 v.2.1 K hw h.1 h.2))

end Go.VE
namespace Go.VE
open Go Go.Proofs
/-! ### quoin/quoinlaw20.sameEdits -/
def quoinlaw20_sameEdits_G : List (Nat × App) := []
theorem quoinlaw20_sameEdits_Gok : GOk Try.prog (getG quoinlaw20_sameEdits_G) := GOk.nil
theorem quoinlaw20_sameEdits_st : storesC (bodyOf Try.f20) = true := by kernel_rfl
def quoinlaw20_sameEdits_d0 : List LS := [.v 0 (.sl (.st (.pair (.int .i64) (.pair (.sl (.int .u8)) (.sl (.int .u8)))))), .v 1 (.sl (.st (.pair (.int .i64) (.pair (.sl (.int .u8)) (.sl (.int .u8)))))), .v 5 (.int .i64)]
def quoinlaw20_sameEdits_d0r : List LS := [.v 4 (.bool)]
def quoinlaw20_sameEdits_d0x0 : List LS := []
def quoinlaw20_sameEdits_dx0 : DX := ⟨none, some quoinlaw20_sameEdits_d0r, [(0, quoinlaw20_sameEdits_d0x0)]⟩
def quoinlaw20_sameEdits_T0 (Y : List ((Int × List Int × List Int)) → List ((Int × List Int × List Int)) → Int → Prop) (kr : Bool → Prop) (kx0 : Prop) (a0 : List ((Int × List Int × List Int))) (b1 : List ((Int × List Int × List Int))) (i5 : Int) : Prop :=
  bif (decide (i5 < (List.length a0 : Int))) then
    bif decide (0 ≤ i5 ∧ i5 < (List.length a0 : Int)) then
    bif decide (0 ≤ i5 ∧ i5 < (List.length b1 : Int)) then
    bif (!decide ((rd ((0 : Int), ([] : List Int), ([] : List Int)) a0 i5).1 = (rd ((0 : Int), ([] : List Int), ([] : List Int)) b1 i5).1)) then
      kr false
    else
      bif decide (0 ≤ i5 ∧ i5 < (List.length a0 : Int)) then
      bif decide (0 ≤ i5 ∧ i5 < (List.length b1 : Int)) then
      bif (!decide ((rd ((0 : Int), ([] : List Int), ([] : List Int)) a0 i5).2.1 = (rd ((0 : Int), ([] : List Int), ([] : List Int)) b1 i5).2.1)) then
        kr false
      else
        bif decide (0 ≤ i5 ∧ i5 < (List.length a0 : Int)) then
        bif decide (0 ≤ i5 ∧ i5 < (List.length b1 : Int)) then
        bif (!decide ((rd ((0 : Int), ([] : List Int), ([] : List Int)) a0 i5).2.2 = (rd ((0 : Int), ([] : List Int), ([] : List Int)) b1 i5).2.2)) then
          kr false
        else
          Y a0 b1 (IntKind.wrap .i64 (i5 + (1 : Int)))
        else False
        else False
      else False
      else False
    else False
    else False
  else
    kx0
def quoinlaw20_sameEdits_L0 (kr : Bool → Prop) (kx0 : Prop) : Nat → List ((Int × List Int × List Int)) → List ((Int × List Int × List Int)) → Int → Prop
  | 0, _, _, _ => False
  | n + 1, a0, b1, i5 => wfD quoinlaw20_sameEdits_d0 (a0, b1, i5, ()) → quoinlaw20_sameEdits_T0 (quoinlaw20_sameEdits_L0 kr kx0 n) kr kx0 a0 b1 i5
theorem quoinlaw20_sameEdits_s0 (k : Ex → St → Prop) (Y : vals quoinlaw20_sameEdits_d0 → Prop) (a0 : List ((Int × List Int × List Int))) (b1 : List ((Int × List Int × List Int))) (i5 : Int) :
    ex tb (getG quoinlaw20_sameEdits_G) [] (at' (bodyOf Try.f20) [0, 0, 1, 0, 1, 1]) [0, 0, 1, 0, 1, 1] (mkD 58 quoinlaw20_sameEdits_d0 (a0, b1, i5, ())) (lpK 58 quoinlaw20_sameEdits_d0 quoinlaw20_sameEdits_dx0 k Y) =
    quoinlaw20_sameEdits_T0 (fun a0 b1 i5 => Y (a0, b1, i5, ())) (fun x4 => wfD quoinlaw20_sameEdits_d0r (x4, ()) → k .ret (mkD 58 quoinlaw20_sameEdits_d0r (x4, ()))) (wfD quoinlaw20_sameEdits_d0x0 () → k (.exit 0) (mkD 58 quoinlaw20_sameEdits_d0x0 ())) a0 b1 i5 := by kernel_rfl
theorem quoinlaw20_sameEdits_e0 (k : Ex → St → Prop) : ∀ (n : Nat) (a0 : List ((Int × List Int × List Int))) (b1 : List ((Int × List Int × List Int))) (i5 : Int), lpD 58 quoinlaw20_sameEdits_d0 quoinlaw20_sameEdits_dx0 (ex tb (getG quoinlaw20_sameEdits_G) [] (at' (bodyOf Try.f20) [0, 0, 1, 0, 1, 1]) [0, 0, 1, 0, 1, 1]) k n (a0, b1, i5, ()) = quoinlaw20_sameEdits_L0 (fun x4 => wfD quoinlaw20_sameEdits_d0r (x4, ()) → k .ret (mkD 58 quoinlaw20_sameEdits_d0r (x4, ()))) (wfD quoinlaw20_sameEdits_d0x0 () → k (.exit 0) (mkD 58 quoinlaw20_sameEdits_d0x0 ())) n a0 b1 i5
  | 0, _, _, _ => rfl
  | n + 1, a0, b1, i5 => congrArg (fun Z : Prop => wfD quoinlaw20_sameEdits_d0 (a0, b1, i5, ()) → Z) ((quoinlaw20_sameEdits_s0 k (lpD 58 quoinlaw20_sameEdits_d0 quoinlaw20_sameEdits_dx0 (ex tb (getG quoinlaw20_sameEdits_G) [] (at' (bodyOf Try.f20) [0, 0, 1, 0, 1, 1]) [0, 0, 1, 0, 1, 1]) k n) a0 b1 i5).trans (congrArg (fun Y => quoinlaw20_sameEdits_T0 Y (fun x4 => wfD quoinlaw20_sameEdits_d0r (x4, ()) → k .ret (mkD 58 quoinlaw20_sameEdits_d0r (x4, ()))) (wfD quoinlaw20_sameEdits_d0x0 () → k (.exit 0) (mkD 58 quoinlaw20_sameEdits_d0x0 ())) a0 b1 i5) (funext fun a0 => funext fun b1 => funext fun i5 => quoinlaw20_sameEdits_e0 k n a0 b1 i5)))
theorem quoinlaw20_sameEdits_v0 (k : Ex → St → Prop) (n : Nat) : ∀ v : vals quoinlaw20_sameEdits_d0, lpD 58 quoinlaw20_sameEdits_d0 quoinlaw20_sameEdits_dx0 (ex tb (getG quoinlaw20_sameEdits_G) [] (at' (bodyOf Try.f20) [0, 0, 1, 0, 1, 1]) [0, 0, 1, 0, 1, 1]) k n v = quoinlaw20_sameEdits_L0 (fun x4 => wfD quoinlaw20_sameEdits_d0r (x4, ()) → k .ret (mkD 58 quoinlaw20_sameEdits_d0r (x4, ()))) (wfD quoinlaw20_sameEdits_d0x0 () → k (.exit 0) (mkD 58 quoinlaw20_sameEdits_d0x0 ())) n v.1 v.2.1 v.2.2.1
  | (a0, b1, i5, ()) => quoinlaw20_sameEdits_e0 k n a0 b1 i5
def quoinlaw20_sameEdits_X0 : Pce := fun st k => ckD 58 quoinlaw20_sameEdits_d0 st fun v => wfD quoinlaw20_sameEdits_d0 v → ∃ n, quoinlaw20_sameEdits_L0 (fun x4 => wfD quoinlaw20_sameEdits_d0r (x4, ()) → k .ret (mkD 58 quoinlaw20_sameEdits_d0r (x4, ()))) (wfD quoinlaw20_sameEdits_d0x0 () → k (.exit 0) (mkD 58 quoinlaw20_sameEdits_d0x0 ())) n v.1 v.2.1 v.2.2.1
set_option maxRecDepth 20000 in
theorem quoinlaw20_sameEdits_x0 : SemOk Try.prog (at' (bodyOf Try.f20) [0, 1, 0, 1, 1]) quoinlaw20_sameEdits_X0 :=
  (SemOk.loop (ex_sound tb_M tb_ok quoinlaw20_sameEdits_Gok (LabsOk.nil) (at' (bodyOf Try.f20) [0, 0, 1, 0, 1, 1]) [0, 0, 1, 0, 1, 1] rfl (storesC_at quoinlaw20_sameEdits_st [0, 0, 1, 0, 1, 1])) 58 quoinlaw20_sameEdits_d0 quoinlaw20_sameEdits_dx0).mono fun st k h => ckD_mono h fun v hv hw => (hv hw).elim fun n hn => ⟨n, Eq.mpr (quoinlaw20_sameEdits_v0 k n v) hn⟩
def quoinlaw20_sameEdits_B0 : Labs := ([0, 1, 0, 1, 1], quoinlaw20_sameEdits_X0) :: []
theorem quoinlaw20_sameEdits_b0 : LabsOk Try.prog (bodyOf Try.f20) quoinlaw20_sameEdits_B0 := LabsOk.cons quoinlaw20_sameEdits_x0 (LabsOk.nil)
def quoinlaw20_sameEdits_raw (a0 : List ((Int × List Int × List Int))) (b1 : List ((Int × List Int × List Int))) (K : Res → List Cell → Prop) : Prop :=
  bif (!decide ((List.length a0 : Int) = (List.length b1 : Int))) then
    K (.one (.v (.bool) false)) []
  else
    (wfD quoinlaw20_sameEdits_d0 (a0, b1, (0 : Int), ()) → ∃ n, quoinlaw20_sameEdits_L0 (fun (x4 : Bool) => wfD quoinlaw20_sameEdits_d0r (x4, ()) → (
        K (.one (.v (.bool) x4)) [])) (wfD quoinlaw20_sameEdits_d0x0 () → (
        K (.one (.v (.bool) true)) [])) n a0 b1 (0 : Int))
def quoinlaw20_sameEdits_A : List AS := [.v (.sl (.st (.pair (.int .i64) (.pair (.sl (.int .u8)) (.sl (.int .u8)))))), .v (.sl (.st (.pair (.int .i64) (.pair (.sl (.int .u8)) (.sl (.int .u8))))))]
theorem quoinlaw20_sameEdits_walk (a0 : List ((Int × List Int × List Int))) (b1 : List ((Int × List Int × List Int))) (K : Res → List Cell → Prop) : runF tb (getG quoinlaw20_sameEdits_G) quoinlaw20_sameEdits_B0 Try.f20 [true] (mkA quoinlaw20_sameEdits_A (a0, b1, ())) K = quoinlaw20_sameEdits_raw a0 b1 K := by kernel_rfl
--! pre 0
def quoinlaw20_sameEdits_F (a b : List (Int × List Int × List Int)) : Bool := decide (a = b)
theorem quoinlaw20_sameEdits_l0 (kr : Bool → Prop) (kx0 : Prop) (a b : List (Int × List Int × List Int)) (hl : a.length = b.length) (ha : a.length ≤ 9223372036854775807) : ∀ (d m i : Nat), i + d = a.length → d < m →
    ((∃ j, j < a.length ∧ a[j]? ≠ b[j]?) → kr false) → ((∀ j, i ≤ j → j < a.length → a[j]? = b[j]?) → kx0) → quoinlaw20_sameEdits_L0 kr kx0 m a b (i : Int)
  | _, 0, _, _, h, _, _ => absurd h (Nat.not_lt_zero _)
  | 0, m + 1, i, hi, _, _, h2 => by
    intro _
    unfold quoinlaw20_sameEdits_T0
    exact brn (fun h => absurd h (by omega)) (fun _ => h2 fun j h1 h2 => absurd h2 (by omega))
  | d + 1, m + 1, i, hi, hm, h1, h2 => by
    intro _
    unfold quoinlaw20_sameEdits_T0
    have e1 : a[i]? = some (rd ((0 : Int), ([] : List Int), ([] : List Int)) a (i : Int)) := by rw [rd_nat _ _ _ (by omega), List.getElem?_eq_getElem]
    have e2 : b[i]? = some (rd ((0 : Int), ([] : List Int), ([] : List Int)) b (i : Int)) := by rw [rd_nat _ _ _ (by omega), List.getElem?_eq_getElem]
    have ne : ∀ {x y : Int × List Int × List Int}, x = rd ((0 : Int), ([] : List Int), ([] : List Int)) a (i : Int) → y = rd ((0 : Int), ([] : List Int), ([] : List Int)) b (i : Int) → x ≠ y → kr false := by
      intro x y hx hy hne
      refine h1 ⟨i, by omega, ?_⟩
      rw [e1, e2, ← hx, ← hy]
      intro e; injection e with e; exact hne e
    refine brn (fun _ => asrt (by omega) (asrt (by omega) (brb (fun c => ne rfl rfl fun e => ?_) (fun c1 => asrt (by omega) (asrt (by omega) (brb (fun c => ne rfl rfl fun e => ?_) (fun c2 => asrt (by omega) (asrt (by omega) (brb (fun c => ne rfl rfl fun e => ?_) (fun c3 => ?_)))))))))) (fun h => absurd (by omega) h)
    · rw [e] at c; simp at c
    · rw [e] at c; simp at c
    · rw [e] at c; simp at c
    · rw [wrap_i64 (by omega) (by omega)]
      refine quoinlaw20_sameEdits_l0 kr kx0 a b hl ha d m (i + 1) (by omega) (by omega) h1 fun h => h2 fun j hj1 hj2 => ?_
      by_cases hji : j = i
      · subst hji
        rw [e1, e2]
        have c1 : (rd ((0 : Int), ([] : List Int), ([] : List Int)) a (j : Int)).1 = (rd ((0 : Int), ([] : List Int), ([] : List Int)) b (j : Int)).1 := by simpa using c1
        have c2 : (rd ((0 : Int), ([] : List Int), ([] : List Int)) a (j : Int)).2.1 = (rd ((0 : Int), ([] : List Int), ([] : List Int)) b (j : Int)).2.1 := by simpa using c2
        have c3 : (rd ((0 : Int), ([] : List Int), ([] : List Int)) a (j : Int)).2.2 = (rd ((0 : Int), ([] : List Int), ([] : List Int)) b (j : Int)).2.2 := by simpa using c3
        rw [Prod.ext c1 (Prod.ext c2 c3)]
      · exact h j (by omega) hj2
theorem quoinlaw20_sameEdits_sp (a b : List (Int × List Int × List Int)) (K : Res → List Cell → Prop) (hw : wfA quoinlaw20_sameEdits_A (a, b, ())) (h : ∀ r : Bool, r = quoinlaw20_sameEdits_F a b → K (.one (.v (.bool) r)) []) : quoinlaw20_sameEdits_raw a b K := by
  have ha : a.length ≤ 9223372036854775807 := hw.1.1
  unfold quoinlaw20_sameEdits_raw
  refine brb (fun c => h _ ?_) (fun c _ => ?_)
  · have : a ≠ b := fun e => by rw [e] at c; simp at c
    unfold quoinlaw20_sameEdits_F
    rw [decide_eq_false this]
  · have hl : a.length = b.length := by have : (a.length : Int) = b.length := by simpa using c
                                        omega
    refine ⟨a.length + 1, quoinlaw20_sameEdits_l0 _ _ a b hl ha a.length _ 0 (by omega) (by omega) (fun ⟨j, hj, hne⟩ _ => h _ ?_) (fun he _ => h _ ?_)⟩
    · have : a ≠ b := fun e => hne (by rw [e])
      unfold quoinlaw20_sameEdits_F
      rw [decide_eq_false this]
    · have : a = b := List.ext_getElem? fun j => by
        by_cases hj : j < a.length
        · exact he j (Nat.zero_le _) hj
        · rw [List.getElem?_eq_none (by omega), List.getElem?_eq_none (by omega)]
      unfold quoinlaw20_sameEdits_F
      rw [decide_eq_true this]

def quoinlaw20_sameEdits_C (v : valsA quoinlaw20_sameEdits_A) (K : Res → List Cell → Prop) : Prop := ∀ r : Bool, r = quoinlaw20_sameEdits_F v.1 v.2.1 → K (.one (.v (.bool) r)) []
def quoinlaw20_sameEdits_S : App := specW quoinlaw20_sameEdits_A quoinlaw20_sameEdits_C
theorem quoinlaw20_sameEdits_wv (K : Res → List Cell → Prop) : ∀ v : valsA quoinlaw20_sameEdits_A, runF tb (getG quoinlaw20_sameEdits_G) quoinlaw20_sameEdits_B0 Try.f20 [true] (mkA quoinlaw20_sameEdits_A v) K = quoinlaw20_sameEdits_raw v.1 v.2.1 K
  | (a0, b1, ()) => quoinlaw20_sameEdits_walk a0 b1 K
set_option maxRecDepth 20000 in
theorem quoinlaw20_sameEdits_ok : AppOk Try.prog 20 quoinlaw20_sameEdits_S :=
  AppOk.specW (spec_ok (runF_ok tb_M tb_ok quoinlaw20_sameEdits_Gok (quoinlaw20_sameEdits_b0) (f := 20) (fn := Try.f20) (by kernel_rfl) (by kernel_rfl) quoinlaw20_sameEdits_st [true]) fun v K hw h => (quoinlaw20_sameEdits_wv K v).mpr (quoinlaw20_sameEdits_sp v.1 v.2.1 K hw h))

end Go.VE
namespace Go.VE
open Go Go.Proofs
/-! ### quoin/quoinlaw20.TypingShows -/
def quoinlaw20_TypingShows_G : List (Nat × App) := [(8, quoinlaw20_alive_S), (16, quoinref20_Show_S), (17, typing_Show_S), (18, quoinref20_Finish_S), (19, typing_Finish_S), (20, quoinlaw20_sameEdits_S)]
theorem quoinlaw20_TypingShows_Gok : GOk Try.prog (getG quoinlaw20_TypingShows_G) := GOk.cons quoinlaw20_alive_ok (GOk.cons quoinref20_Show_ok (GOk.cons typing_Show_ok (GOk.cons quoinref20_Finish_ok (GOk.cons typing_Finish_ok (GOk.cons quoinlaw20_sameEdits_ok (GOk.nil))))))
def quoinlaw20_TypingShows_raw (base0 : List Int) (y1 : (Int × Int × List Int × Int × Int)) (K : Res → List Cell → Prop) : Prop :=
  ∀ (r1 : Bool), r1 = quoinlaw20_alive_F → (
  wfR (.one (.v (.bool) r1)) → (
  bif (!r1) then
    K (.one (.v (.bool) false)) []
  else
    quoinref20_Show_P base0 y1 ∧ (
    ∀ (r2 : List Int × Int), r2 = quoinref20_Show_F base0 y1 → (
    wfR (.tup [.fr 5 (.int .u8) r2.1, .v (.int .i64) r2.2]) → (
    typing_Show_P base0 y1 ∧ (
    ∀ (r3 : List Int × Int), r3 = typing_Show_F base0 y1 → (
    wfR (.tup [.fr 5 (.int .u8) r3.1, .v (.int .i64) r3.2]) → (
    quoinref20_Finish_P base0 y1 ∧ (
    ∀ (r4 : List ((Int × List Int × List Int)) × Int), r4 = quoinref20_Finish_F base0 y1 → (
    wfR (.tup [.fr 46 (.st (.pair (.int .i64) (.pair (.sl (.int .u8)) (.sl (.int .u8))))) r4.1, .v (.int .i64) r4.2]) → (
    typing_Finish_P base0 y1 ∧ (
    ∀ (r5 : List ((Int × List Int × List Int)) × Int), r5 = typing_Finish_F base0 y1 → (
    wfR (.tup [.fr 46 (.st (.pair (.int .i64) (.pair (.sl (.int .u8)) (.sl (.int .u8))))) r5.1, .v (.int .i64) r5.2]) → (
    bif (decide (r3.1 = r2.1)) then
      bif (decide (r3.2 = r2.2)) then
        ∀ (r6 : Bool), r6 = quoinlaw20_sameEdits_F r5.1 r4.1 → (
        wfR (.one (.v (.bool) r6)) → (
        bif r6 then
          K (.one (.v (.bool) (decide (r5.2 = r4.2)))) []
        else
          K (.one (.v (.bool) false)) []))
      else
        K (.one (.v (.bool) false)) []
    else
      K (.one (.v (.bool) false)) []))))))))))))))
def quoinlaw20_TypingShows_A : List AS := [.v (.sl (.int .u8)), .v (.st (.pair (.int .u8) (.pair (.int .i64) (.pair (.sl (.int .u8)) (.pair (.int .i64) (.int .i64))))))]
theorem quoinlaw20_TypingShows_walk (base0 : List Int) (y1 : (Int × Int × List Int × Int × Int)) (K : Res → List Cell → Prop) : runF tb (getG quoinlaw20_TypingShows_G) [] Try.f4 [true] (mkA quoinlaw20_TypingShows_A (base0, y1, ())) K = quoinlaw20_TypingShows_raw base0 y1 K := by kernel_rfl
--! law 1

def quoinlaw20_TypingShows_R : App := runF tb (getG quoinlaw20_TypingShows_G) [] Try.f4 [true]
theorem quoinlaw20_TypingShows_ok : AppOk Try.prog 4 quoinlaw20_TypingShows_R := runF_ok tb_M tb_ok quoinlaw20_TypingShows_Gok (LabsOk.nil) (f := 4) (fn := Try.f4) (by kernel_rfl) (by kernel_rfl) (by kernel_rfl) [true]
end Go.VE
namespace Go.VE
open Go Go.Proofs

theorem show_eq {base : List Int} {y : Ty20} (hb : base.length ≤ 4294967296) (hy : okB y.2.2.1) : typing_Show_F base y = quoinref20_Show_F base y := by
  unfold typing_Show_F quoinref20_Show_F
  rw [fits_eq hb hy]
  rfl

theorem put_P {base p : List Int} {a u : Int} (h0 : 0 ≤ a) (h1 : 0 ≤ u) (h2 : a + u ≤ base.length) (hb : base.length ≤ 4294967296) (hp : p.length ≤ 549755813888) : quoinref20_put_P base a u p := by
  unfold quoinref20_put_P
  have hlim : lim = 1099511627776 := rfl
  rw [wrap_i64 (by omega) (by omega)]
  simp only [List.nil_append, List.length_append, List.length_take, List.length_drop, List.length_nil]
  omega

theorem rshow_P {base : List Int} {y : Ty20} (hb : base.length ≤ 4294967296) (hy : okB y.2.2.1) : quoinref20_Show_P base y := by
  unfold quoinref20_Show_P
  have hlim : lim = 1099511627776 := rfl
  dsimp only
  cases hf : quoinref20_fits_F base y
  · show (0 : Nat) + base.length ≤ lim
    omega
  · have h := fits_iff.1 hf
    have h1 := h.le
    have := hy.1
    exact put_P h.lo h1.1 h1.2.1 hb (by omega)

theorem repR_eq (b : List Int) : ∀ n, repR b n = repB b n
  | 0 => rfl
  | n + 1 => by rw [repR, repB, repR_eq b n]

/-! ### columns -/
theorem lineUp_le (t : List Int) : ∀ n, lineUp t n ≤ n
  | 0 => Nat.le_refl _
  | n + 1 => by unfold lineUp; have := lineUp_le t n; split <;> omega

theorem col_pos {t : List Int} {n : Nat} (hn : n ≤ t.length) (ht : t.length ≤ 1099511627776) : (decide ((0 : Int) < (quoinref05_Column_F t (n : Int)).1)) = decide (0 < n ∧ rd (0 : Int) t ((n - 1 : Nat) : Int) ≠ 10) := by
  have e1 : decide ((n : Int) < 0) = false := decide_eq_false (by omega)
  have e2 : decide ((t.length : Int) < (n : Int)) = false := decide_eq_false (by omega)
  have hl := lineUp_le t n
  unfold quoinref05_Column_F quoinref05_begin_F
  rw [e1, e2, if_pos (by omega), Int.toNat_natCast]
  show decide ((0 : Int) < IntKind.wrap .i64 ((n : Int) - (lineUp t n : Int))) = _
  rw [wrap_i64 (by omega) (by omega), decide_eq_decide]
  cases n with
  | zero => simp [lineUp]
  | succ n =>
    unfold lineUp at hl ⊢
    rw [show n + 1 - 1 = n by omega]
    split
    · rename_i h; simp [h]
    · rename_i h
      have := lineUp_le t n
      constructor
      · intro _; exact ⟨by omega, h⟩
      · intro _; omega

theorem col_P {t : List Int} {n : Nat} (hn : n ≤ t.length) : quoinref05_Column_P t (n : Int) := by
  unfold quoinref05_Column_P quoinref05_begin_P
  rw [decide_eq_false (by omega), decide_eq_false (by omega)]
  show (n : Int) ≤ t.length
  omega

/-! ### what a typing comes to -/
/-- what n copies stand over -/
def oldN (base : List Int) (y : Ty20) (n : Int) : Int := if y.1 = 105 then 0 else mn (n * quoinref20_others_F y.2.2.1) (quoinref20_room_F base y.2.1)

/-- where the cursor rests behind q -/
def backN (q : List Int) : Int := if 0 < q.length ∧ rd (0 : Int) q ((q.length - 1 : Nat) : Int) ≠ 10 then (q.length : Int) - 1 else q.length
theorem back_pos {q : List Int} {n : Nat} (hl : q.length = n) (h : 0 < n) (h10 : rd (0 : Int) q ((n - 1 : Nat) : Int) ≠ 10) : backN q = (n : Int) - 1 := by
  unfold backN; rw [hl, if_pos ⟨h, h10⟩]
theorem back_neg {q : List Int} {n : Nat} (hl : q.length = n) (h : 0 < n → rd (0 : Int) q ((n - 1 : Nat) : Int) = 10) : backN q = (n : Int) := by
  unfold backN; rw [hl, if_neg (fun hh => hh.2 (h hh.1))]

def finN (base : List Int) (y : Ty20) (n : Int) : List (Int × List Int × List Int) × Int :=
  let p := repB y.2.2.1 n.toNat
  let q := base.take y.2.1.toNat ++ p
  (if p.length = 0 then [] else [(y.2.1, slc base y.2.1 (y.2.1 + oldN base y n), p)],
    backN q)

theorem rd_app_right {a b : List Int} {n : Nat} (h : n < b.length) : rd (0 : Int) (a ++ b) ((a.length + n : Nat) : Int) = rd (0 : Int) b (n : Int) := by
  rw [rd_nat _ _ _ (by rw [List.length_append]; omega), rd_nat _ _ _ h, List.getElem_append_right (by omega)]
  congr 1; omega
theorem rd_app_left {a b : List Int} {n : Nat} (h : n < a.length) : rd (0 : Int) (a ++ b) (n : Int) = rd (0 : Int) a (n : Int) := by
  rw [rd_nat _ _ _ (by rw [List.length_append]; omega), rd_nat _ _ _ h, List.getElem_append_left h]
theorem rd_tk {a : List Int} {n m : Nat} (h : n < m) (hm : m ≤ a.length) : rd (0 : Int) (a.take m) (n : Int) = rd (0 : Int) a (n : Int) := by
  rw [rd_nat _ _ _ (by rw [List.length_take]; omega), rd_nat _ _ _ (by omega), List.getElem_take]

theorem bits_eq {b : Bool} {P : Prop} [Decidable P] (h : b = true ↔ P) {α : Type} (x y : α) : (bif b then x else y) = if P then x else y := by
  cases b
  · have : ¬ P := fun hp => by have := h.2 hp; cases this
    rw [if_neg this]; rfl
  · rw [if_pos (h.1 rfl)]; rfl

/-- the given program's -/
theorem fin_typing {base : List Int} {y : Ty20} (hb : base.length ≤ 1048576) (hy : okB y.2.2.1) (hyl : y.2.2.1.length ≤ 1048576) (h : TFits base y) {n : Int} (hn0 : 1 ≤ n) (hn1 : n ≤ 9999) :
    typing_Finish_J1_F n base y (IntKind.wrap .i64 ((List.length y.2.2.1 : Int) - bytes_Count_F y.2.2.1 [10])) = finN base y n := by
  have h3 := h.lo; have h4 := h.hi
  obtain ⟨s, hs⟩ := Int.eq_ofNat_of_zero_le h.lo
  obtain ⟨m, rfl⟩ := Int.eq_ofNat_of_zero_le (show (0 : Int) ≤ n by omega)
  have hlen : (bytes_Repeat_F y.2.2.1 (m : Int)).length = m * y.2.2.1.length := by unfold bytes_Repeat_F; rw [repB_length, Int.toNat_natCast]
  have hmul : m * y.2.2.1.length ≤ 9999 * 1048576 := Nat.mul_le_mul (by omega) hyl
  have hp : bytes_Repeat_F y.2.2.1 (m : Int) = repB y.2.2.1 m := rfl
  have hold := old_F (by omega) hy h (n := (m : Int)) (by omega) hn1
  have hol := old_le h (n := (m : Int)) (by omega)
  rw [show (if y.1 = 105 then (0 : Int) else mn ((m : Int) * quoinref20_others_F y.2.2.1) (quoinref20_room_F base y.2.1)) = oldN base y m from rfl] at hold hol
  rw [hs] at hol h3 h4
  have hq : (base.take s ++ repB y.2.2.1 m).length = s + m * y.2.2.1.length := by rw [List.length_append, List.length_take, repB_length]; omega
  have hj0 : ∀ at', typing_Finish_J0_F m (bytes_Repeat_F y.2.2.1 m) at' base y (IntKind.wrap .i64 ((List.length y.2.2.1 : Int) - bytes_Count_F y.2.2.1 [10])) =
      (if (repB y.2.2.1 m).length = 0 then [] else [(y.2.1, slc base y.2.1 (y.2.1 + oldN base y m), repB y.2.2.1 m)], at') := by
    intro at'
    unfold typing_Finish_J0_F
    dsimp only
    rw [hold, hs, wrap_i64 (n := (s : Int) + oldN base y m) (by omega) (by omega), hp, repB_length]
    by_cases hz : m * y.2.2.1.length = 0
    · rw [decide_eq_true (by omega), if_pos hz]; rfl
    · rw [decide_eq_false (by omega), if_neg hz]; rfl
  unfold typing_Finish_J1_F finN
  dsimp only
  simp only [hj0]
  rw [hlen, hp, hs, Int.toNat_natCast, Int.toNat_natCast, wrap_i64 (n := (s : Int) + ((m * y.2.2.1.length : Nat) : Int)) (by omega) (by omega)]
  generalize hL : m * y.2.2.1.length = L at *
  have hrl : (repB y.2.2.1 m).length = L := by rw [repB_length, hL]
  have e0 : (s : Int) + (L : Int) = ((s + L : Nat) : Int) := by omega
  rw [e0]
  by_cases c1 : 0 < s + L
  · rw [decide_eq_true (show (0 : Int) < ((s + L : Nat) : Int) by omega), wrap_i64 (n := ((s + L : Nat) : Int) - 1) (by omega) (by omega)]
    by_cases c2 : 0 < L
    · rw [decide_eq_true (show (0 : Int) < (L : Int) by omega), decide_eq_false (show ¬ (L : Int) = 0 by omega), wrap_i64 (n := (L : Int) - 1) (by omega) (by omega), show (L : Int) - 1 = ((L - 1 : Nat) : Int) by omega]
      have er : rd (0 : Int) (base.take s ++ repB y.2.2.1 m) ((s + L - 1 : Nat) : Int) = rd (0 : Int) (repB y.2.2.1 m) ((L - 1 : Nat) : Int) := by
        have := rd_app_right (a := base.take s) (b := repB y.2.2.1 m) (n := L - 1) (by omega)
        rw [List.length_take, show min s base.length + (L - 1) = s + L - 1 by omega] at this
        exact this
      by_cases c3 : rd (0 : Int) (repB y.2.2.1 m) ((L - 1 : Nat) : Int) = 10
      · rw [decide_eq_true c3, back_neg hq (fun _ => er.trans c3)]; rfl
      · rw [decide_eq_false c3, back_pos hq c1 (fun e => c3 (er.symm.trans e))]; rfl
    · obtain rfl : L = 0 := by omega
      have hrn : repB y.2.2.1 m = [] := List.eq_nil_of_length_eq_zero hrl
      rw [hrn, List.append_nil] at hq
      have er : rd (0 : Int) (base.take s) ((s + 0 - 1 : Nat) : Int) = rd (0 : Int) base ((s + 0 - 1 : Nat) : Int) := rd_tk (by omega) (by omega)
      rw [decide_eq_false (show ¬ (0 : Int) < ((0 : Nat) : Int) by omega), decide_eq_true (show ((0 : Nat) : Int) = 0 by omega), hrn, List.append_nil]
      rw [show ((s + 0 : Nat) : Int) - 1 = ((s + 0 - 1 : Nat) : Int) by omega]
      by_cases c3 : rd (0 : Int) base ((s + 0 - 1 : Nat) : Int) = 10
      · rw [decide_eq_true c3, back_neg hq (fun _ => er.trans c3)]; rfl
      · rw [decide_eq_false c3, back_pos hq c1 (fun e => c3 (er.symm.trans e)), show ((s + 0 : Nat) : Int) - 1 = ((s + 0 - 1 : Nat) : Int) by omega]; rfl
  · rw [decide_eq_false (show ¬ (0 : Int) < ((s + L : Nat) : Int) by omega), back_neg hq (fun hh => absurd hh c1)]; rfl

/-- the document's -/
theorem fin_ref {base : List Int} {y : Ty20} (hb : base.length ≤ 1048576) (hyl : y.2.2.1.length ≤ 1048576) (h : TFits base y) {n : Int} (hn0 : 1 ≤ n) (hn1 : n ≤ 9999) {u : Int} (hu : u = oldN base y n) :
    quoinref20_Finish_J2_P base u n y ∧ quoinref20_Finish_J2_F base u n y = finN base y n := by
  have h3 := h.lo; have h4 := h.hi
  have hlim : lim = 1099511627776 := rfl
  obtain ⟨s, hs⟩ := Int.eq_ofNat_of_zero_le h.lo
  obtain ⟨m, rfl⟩ := Int.eq_ofNat_of_zero_le (show (0 : Int) ≤ n by omega)
  have hmul : m * y.2.2.1.length ≤ 9999 * 1048576 := Nat.mul_le_mul (by omega) hyl
  have hol := old_le h (n := (m : Int)) (by omega)
  rw [show (if y.1 = 105 then (0 : Int) else mn ((m : Int) * quoinref20_others_F y.2.2.1) (quoinref20_room_F base y.2.1)) = oldN base y m from rfl, ← hu] at hol
  have hL0 : quoinref20_Finish_L0_F base u (m : Int) [] 0 y = (base, u, repB y.2.2.1 m, y) := by
    unfold quoinref20_Finish_L0_F
    rw [show ((m : Int) - 0).toNat = m by omega, repR_eq]; rfl
  have hL1 : quoinref20_Finish_L0_P base u (m : Int) [] 0 y := by
    refine ⟨by omega, by omega, by omega, ?_⟩
    rw [show ((m : Int) - 0).toNat = m by omega]
    show 0 + m * y.2.2.1.length ≤ lim
    omega
  unfold quoinref20_Finish_J2_P quoinref20_Finish_J2_F finN
  dsimp only
  rw [hL0]
  dsimp only
  have hrl : (repB y.2.2.1 m).length = m * y.2.2.1.length := repB_length _ _
  rw [Int.toNat_natCast, hs]
  rw [hs] at hol h3 h4
  rw [← hu]
  generalize hp : repB y.2.2.1 m = p at hrl ⊢
  generalize hL : m * y.2.2.1.length = L at hrl hmul
  have e0 : IntKind.wrap .i64 ((s : Int) + (p.length : Int)) = ((s + L : Nat) : Int) := by rw [hrl, wrap_i64 (by omega) (by omega)]; omega
  have hput : quoinref20_put_F base (s : Int) u p = (base.take s ++ p) ++ base.drop (s + u.toNat) := by
    unfold quoinref20_put_F
    rw [wrap_i64 (by omega) (by omega), Int.toNat_natCast, show ((s : Int) + u).toNat = s + u.toNat by omega]; rfl
  have hq : (base.take s ++ p).length = s + L := by rw [List.length_append, List.length_take, hrl]; omega
  have hle : s + L ≤ ((base.take s ++ p) ++ base.drop (s + u.toNat)).length := by rw [List.length_append, hq]; omega
  have hle2 : ((base.take s ++ p) ++ base.drop (s + u.toNat)).length ≤ 1099511627776 := by rw [List.length_append, hq, List.length_drop]; omega
  have hJ1P : ∀ a, quoinref20_Finish_J1_P base u p a y := by
    intro a
    unfold quoinref20_Finish_J1_P
    rw [hs]
    cases decide ((p.length : Int) = 0)
    · rw [wrap_i64 (by omega) (by omega)]
      refine ⟨by omega, ?_⟩
      show 0 + (slc base (s : Int) ((s : Int) + u)).length ≤ lim
      unfold slc
      rw [List.length_drop, List.length_take]; omega
    · trivial
  have hJ1F : ∀ a, quoinref20_Finish_J1_F base u p a y = (if p.length = 0 then [] else [((s : Int), slc base (s : Int) ((s : Int) + u), p)], a) := by
    intro a
    unfold quoinref20_Finish_J1_F
    rw [hs, wrap_i64 (n := (s : Int) + u) (by omega) (by omega)]
    by_cases hz : p.length = 0
    · rw [decide_eq_true (by omega), if_pos hz]; rfl
    · rw [decide_eq_false (by omega), if_neg hz]; rfl
  simp only [hJ1F]
  refine ⟨⟨hL1, put_P (by omega) (by omega) (by omega) (by omega) (by omega), ?_, ?_⟩, ?_⟩
  · rw [e0, hput]; exact col_P hle
  · cases decide (0 < (quoinref05_Column_F (quoinref20_put_F base (s : Int) u p) (IntKind.wrap .i64 ((s : Int) + (p.length : Int)))).1) <;> exact hJ1P 0
  · rw [e0, hput, col_pos hle hle2, Int.toNat_natCast]
    have er : 0 < s + L → rd (0 : Int) ((base.take s ++ p) ++ base.drop (s + u.toNat)) ((s + L - 1 : Nat) : Int) = rd (0 : Int) (base.take s ++ p) ((s + L - 1 : Nat) : Int) := fun hp => rd_app_left (by omega)
    by_cases c1 : 0 < s + L
    · rw [er c1]
      by_cases c3 : rd (0 : Int) (base.take s ++ p) ((s + L - 1 : Nat) : Int) = 10
      · rw [decide_eq_false (fun hh => hh.2 c3), back_neg hq (fun _ => c3)]; rfl
      · rw [decide_eq_true ⟨c1, c3⟩, back_pos hq c1 c3, wrap_i64 (by omega) (by omega)]; rfl
    · rw [decide_eq_false (fun hh => c1 hh.1), back_neg hq (fun hh => absurd hh c1)]; rfl

/-- FINISH: AS THE DOCUMENT SAYS -/
theorem finish_eq {base : List Int} {y : Ty20} (hb : base.length ≤ 1048576) (hy : okB y.2.2.1) (hyl : y.2.2.1.length ≤ 1048576) : quoinref20_Finish_P base y ∧ typing_Finish_F base y = quoinref20_Finish_F base y := by
  unfold quoinref20_Finish_P typing_Finish_F quoinref20_Finish_F
  dsimp only
  rw [fits_eq (by omega) hy]
  cases hf : quoinref20_fits_F base y
  · exact ⟨trivial, rfl⟩
  have h := fits_iff.1 hf
  have h1 := h.one; have h2 := h.many; have h3 := h.lo; have h4 := h.hi
  have ho := others_le y.2.2.1
  have hmul : y.2.2.2.2 * (y.2.2.1.length : Int) ≤ 9999 * 1048576 := Int.le_trans (Int.mul_le_mul_of_nonneg_right h2 (by omega)) (Int.mul_le_mul_of_nonneg_left (by omega) (by omega))
  have hmul0 : 0 ≤ y.2.2.2.2 * (y.2.2.1.length : Int) := Int.mul_nonneg (by omega) (by omega)
  have hmo : quoinref20_others_F y.2.2.1 * y.2.2.2.2 ≤ 1048576 * 9999 := Int.le_trans (Int.mul_le_mul_of_nonneg_right (by omega) (by omega)) (Int.mul_le_mul_of_nonneg_left h2 (by omega))
  have hmo0 : 0 ≤ quoinref20_others_F y.2.2.1 * y.2.2.2.2 := Int.mul_nonneg ho.1 (by omega)
  have hold := old_F (by omega) hy h (n := y.2.2.2.2) (by omega) h2
  rw [show (if y.1 = 105 then (0 : Int) else mn (y.2.2.2.2 * quoinref20_others_F y.2.2.1) (quoinref20_room_F base y.2.1)) = oldN base y y.2.2.2.2 from rfl] at hold
  have hol := old_le h (n := y.2.2.2.2) (by omega)
  rw [show (if y.1 = 105 then (0 : Int) else mn (y.2.2.2.2 * quoinref20_others_F y.2.2.1) (quoinref20_room_F base y.2.1)) = oldN base y y.2.2.2.2 from rfl] at hol
  have hu1 : y.2.2.2.1 = oldN base y 1 := by
    rw [h.under]
    unfold quoinref20_under oldN
    split
    · rfl
    · rw [Int.one_mul]; rfl
  -- the document's, for whichever count
  have hJ3 : ∀ u, u = oldN base y y.2.2.2.2 → quoinref20_Finish_J3_P base u (IntKind.wrap .i64 ((y.2.2.1.length : Int) * y.2.2.2.2)) y ∧
      quoinref20_Finish_J3_F base u (IntKind.wrap .i64 ((y.2.2.1.length : Int) * y.2.2.2.2)) y = (if 65536 < (base.length : Int) - oldN base y y.2.2.2.2 + y.2.2.2.2 * (y.2.2.1.length : Int) then finN base y 1 else finN base y y.2.2.2.2) := by
    intro u hu
    unfold quoinref20_Finish_J3_P quoinref20_Finish_J3_F
    rw [hu, Int.mul_comm (y.2.2.1.length : Int), wrap_i64 (n := y.2.2.2.2 * (y.2.2.1.length : Int)) (by omega) (by omega), wrap_i64 (n := (base.length : Int) - oldN base y y.2.2.2.2) (by omega) (by omega), wrap_i64 (by omega) (by omega)]
    obtain ⟨a1, a2⟩ := fin_ref hb hyl h (n := 1) (by omega) (by omega) hu1
    obtain ⟨b1, b2⟩ := fin_ref hb hyl h (n := y.2.2.2.2) h1 h2 rfl
    by_cases c : 65536 < (base.length : Int) - oldN base y y.2.2.2.2 + y.2.2.2.2 * (y.2.2.1.length : Int)
    · rw [decide_eq_true c, if_pos c]
      exact ⟨a1, a2⟩
    · rw [decide_eq_false c, if_neg c]
      exact ⟨b1, b2⟩
  have hT : (bif (decide ((65536 : Int) < (IntKind.wrap .i64 ((IntKind.wrap .i64 ((List.length base : Int) - typing_Finish_1_F y.2.2.2.2 y base (IntKind.wrap .i64 ((List.length y.2.2.1 : Int) - bytes_Count_F y.2.2.1 [10])))) + (IntKind.wrap .i64 (y.2.2.2.2 * (List.length y.2.2.1 : Int))))))) then
      typing_Finish_J1_F (1 : Int) base y (IntKind.wrap .i64 ((List.length y.2.2.1 : Int) - bytes_Count_F y.2.2.1 [10])) else typing_Finish_J1_F y.2.2.2.2 base y (IntKind.wrap .i64 ((List.length y.2.2.1 : Int) - bytes_Count_F y.2.2.1 [10]))) =
      (if 65536 < (base.length : Int) - oldN base y y.2.2.2.2 + y.2.2.2.2 * (y.2.2.1.length : Int) then finN base y 1 else finN base y y.2.2.2.2) := by
    rw [hold, wrap_i64 (n := y.2.2.2.2 * (y.2.2.1.length : Int)) (by omega) (by omega), wrap_i64 (n := (base.length : Int) - oldN base y y.2.2.2.2) (by omega) (by omega), wrap_i64 (by omega) (by omega),
      fin_typing hb hy hyl h (n := 1) (by omega) (by omega), fin_typing hb hy hyl h h1 h2]
    by_cases c : 65536 < (base.length : Int) - oldN base y y.2.2.2.2 + y.2.2.2.2 * (y.2.2.1.length : Int)
    · rw [decide_eq_true c, if_pos c]; rfl
    · rw [decide_eq_false c, if_neg c]; rfl
  refine ⟨?_, hT.trans ?_⟩
  · show bif decide (y.1 = 82) then _ else _
    by_cases hk : y.1 = 82
    · rw [decide_eq_true hk]
      refine ⟨⟨h3, h4⟩, ?_⟩
      refine (hJ3 _ ?_).1
      rw [wrap_i64 (by omega) (by omega)]
      unfold oldN
      rw [if_neg (by omega), Int.mul_comm]
    · rw [decide_eq_false hk]
      refine (hJ3 _ ?_).1
      rw [hu1]
      unfold oldN
      rw [if_pos (by have := h.kind; omega), if_pos (by have := h.kind; omega)]
  · show _ = bif decide (y.1 = 82) then _ else _
    by_cases hk : y.1 = 82
    · rw [decide_eq_true hk]
      refine (hJ3 _ ?_).2.symm
      rw [wrap_i64 (by omega) (by omega)]
      unfold oldN
      rw [if_neg (by omega), Int.mul_comm]
    · rw [decide_eq_false hk]
      refine (hJ3 _ ?_).2.symm
      rw [hu1]
      unfold oldN
      rw [if_pos (by have := h.kind; omega), if_pos (by have := h.kind; omega)]

theorem edits_self (l : List (Int × List Int × List Int)) : quoinlaw20_sameEdits_F l l = true := by
  unfold quoinlaw20_sameEdits_F
  simp

theorem shows_true {base : List Int} {y : Ty20} (hb : base.length ≤ 1048576) (hy : okB y.2.2.1) (hl : y.2.2.1.length ≤ 1048576) : quoinlaw20_TypingShows_raw base y yes := by
  unfold quoinlaw20_TypingShows_raw
  intro r1 hr1 _
  obtain rfl : r1 = true := hr1
  refine ⟨rshow_P (by omega) hy, fun r2 hr2 _ => ⟨show_P (by omega) hy, fun r3 hr3 _ => ⟨(finish_eq hb hy hl).1, fun r4 hr4 _ => ⟨finish_P hb hy hl, fun r5 hr5 _ => ?_⟩⟩⟩⟩
  have e1 : r3 = r2 := by rw [hr2, hr3, show_eq (by omega) hy]
  have e2 : r5 = r4 := by rw [hr4, hr5, (finish_eq hb hy hl).2]
  subst e1; subst e2
  rw [decide_eq_true rfl, decide_eq_true rfl]
  show ∀ r6 : Bool, _
  intro r6 hr6 _
  rw [edits_self] at hr6
  subst hr6
  show Res.one (RVal.v .bool (decide (r5.2 = r5.2))) = _
  rw [decide_eq_true rfl]

theorem shows_law (v : valsA quoinlaw20_TypingShows_A) (hw : wfA quoinlaw20_TypingShows_A v) (hb : bulkA quoinlaw20_TypingShows_A v ≤ 1048576) : quoinlaw20_TypingShows_R (mkA quoinlaw20_TypingShows_A v) yes := by
  obtain ⟨base, y, ⟨⟩⟩ := v
  refine (quoinlaw20_TypingShows_walk base y yes).mpr ?_
  obtain ⟨h1, h2, _⟩ := hw
  obtain ⟨_, _, ht, _, _⟩ := h2
  have hb : bulk (.sl (.int .u8)) base + ((1 + (1 + (bulk (.sl (.int .u8)) y.2.2.1 + (1 + 1)))) + 0) ≤ 1048576 := hb
  rw [bulk_ints, bulk_ints] at hb
  exact shows_true (by omega) (okB_of ht (by omega)) (by omega)
end Go.VE
namespace Go.VE
open Go Go.Proofs
/-! ### quoin/quoinlaw20.text -/
def quoinlaw20_text_G : List (Nat × App) := []
theorem quoinlaw20_text_Gok : GOk Try.prog (getG quoinlaw20_text_G) := GOk.nil
def quoinlaw20_text_raw (key0 : Int) (K : Res → List Cell → Prop) : Prop :=
  bif (decide (key0 = (9 : Int))) then
    K (.one (.v (.bool) true)) []
  else
  bif (decide (key0 = (10 : Int))) then
    K (.one (.v (.bool) true)) []
  else
  bif (decide (key0 = (13 : Int))) then
    K (.one (.v (.bool) true)) []
  else
  bif (decide ((32 : Int) ≤ key0)) then
    K (.one (.v (.bool) (!decide (key0 = (127 : Int))))) []
  else
    K (.one (.v (.bool) false)) []
def quoinlaw20_text_A : List AS := [.v (.int .u8)]
theorem quoinlaw20_text_walk (key0 : Int) (K : Res → List Cell → Prop) : runF tb (getG quoinlaw20_text_G) [] Try.f21 [true] (mkA quoinlaw20_text_A (key0, ())) K = quoinlaw20_text_raw key0 K := by kernel_rfl

def quoinlaw20_text_F (key0 : Int) : Bool :=
  bif (decide (key0 = (9 : Int))) then
    true
  else
    bif (decide (key0 = (10 : Int))) then
      true
    else
      bif (decide (key0 = (13 : Int))) then
        true
      else
        bif (decide ((32 : Int) ≤ key0)) then
          (!decide (key0 = (127 : Int)))
        else
          false
set_option maxRecDepth 20000 in
theorem quoinlaw20_text_sp (key0 : Int) (K : Res → List Cell → Prop) (_ : wfA quoinlaw20_text_A (key0, ())) (h : ∀ r : Bool, r = quoinlaw20_text_F key0 → K (.one (.v (.bool) r)) []) : quoinlaw20_text_raw key0 K := by
  unfold quoinlaw20_text_raw
  refine brb (fun c1 => ?_) (fun c1 => ?_)
  ·
    exact h _ ((ctrue c1) : quoinlaw20_text_F key0 = _).symm
  ·
    refine brb (fun c2 => ?_) (fun c2 => ?_)
    ·
      exact h _ ((Eq.trans (cfalse c1) (ctrue c2)) : quoinlaw20_text_F key0 = _).symm
    ·
      refine brb (fun c3 => ?_) (fun c3 => ?_)
      ·
        exact h _ ((Eq.trans (cfalse c1) (Eq.trans (cfalse c2) (ctrue c3))) : quoinlaw20_text_F key0 = _).symm
      ·
        refine brb (fun c4 => ?_) (fun c4 => ?_)
        ·
          exact h _ ((Eq.trans (cfalse c1) (Eq.trans (cfalse c2) (Eq.trans (cfalse c3) (ctrue c4)))) : quoinlaw20_text_F key0 = _).symm
        ·
          exact h _ ((Eq.trans (cfalse c1) (Eq.trans (cfalse c2) (Eq.trans (cfalse c3) (cfalse c4)))) : quoinlaw20_text_F key0 = _).symm
def quoinlaw20_text_C (v : valsA quoinlaw20_text_A) (K : Res → List Cell → Prop) : Prop := ∀ r : Bool, r = quoinlaw20_text_F v.1 → K (.one (.v (.bool) r)) []
def quoinlaw20_text_S : App := specW quoinlaw20_text_A quoinlaw20_text_C
theorem quoinlaw20_text_wv (K : Res → List Cell → Prop) : ∀ v : valsA quoinlaw20_text_A, runF tb (getG quoinlaw20_text_G) [] Try.f21 [true] (mkA quoinlaw20_text_A v) K = quoinlaw20_text_raw v.1 K
  | (key0, ()) => quoinlaw20_text_walk key0 K
set_option maxRecDepth 20000 in
theorem quoinlaw20_text_ok : AppOk Try.prog 21 quoinlaw20_text_S :=
  AppOk.specW (spec_ok (runF_ok tb_M tb_ok quoinlaw20_text_Gok (LabsOk.nil) (f := 21) (fn := Try.f21) (by kernel_rfl) (by kernel_rfl) (by kernel_rfl) [true]) fun v K hw h => (quoinlaw20_text_wv K v).mpr (quoinlaw20_text_sp v.1 K hw h))

end Go.VE
namespace Go.VE
open Go Go.Proofs
/-! ### quoin/quoinlaw20.TypingBack -/
def quoinlaw20_TypingBack_G : List (Nat × App) := [(8, quoinlaw20_alive_S), (15, typing_Press_S), (9, quoinlaw20_same_S), (17, typing_Show_S), (12, typing_Check_S), (21, quoinlaw20_text_S)]
theorem quoinlaw20_TypingBack_Gok : GOk Try.prog (getG quoinlaw20_TypingBack_G) := GOk.cons quoinlaw20_alive_ok (GOk.cons typing_Press_ok (GOk.cons quoinlaw20_same_ok (GOk.cons typing_Show_ok (GOk.cons typing_Check_ok (GOk.cons quoinlaw20_text_ok (GOk.nil))))))
def quoinlaw20_TypingBack_raw (base0 : List Int) (y1 : (Int × Int × List Int × Int × Int)) (key2 : Int) (K : Res → List Cell → Prop) : Prop :=
  ∀ (r1 : Bool), r1 = quoinlaw20_alive_F → (
  wfR (.one (.v (.bool) r1)) → (
  bif (!r1) then
    K (.one (.v (.bool) false)) []
  else
    typing_Press_P base0 y1 key2 ∧ (
    ∀ (r2 : (Int × Int × List Int × Int × Int) × Bool × Int), r2 = typing_Press_F base0 y1 key2 → (
    wfR (.tup [.v (.st (.pair (.int .u8) (.pair (.int .i64) (.pair (.sl (.int .u8)) (.pair (.int .i64) (.int .i64)))))) r2.1, .v (.bool) r2.2.1, .v (.int .i64) r2.2.2]) → (
    bif (!decide (r2.2.2 = (0 : Int))) then
      bif (!r2.2.1) then
        ∀ (r3 : Bool), r3 = quoinlaw20_same_F r2.1 ((0 : Int), (0 : Int), ([] : List Int), (0 : Int), (0 : Int)) → (
        wfR (.one (.v (.bool) r3)) → (
        K (.one (.v (.bool) r3)) []))
      else
        K (.one (.v (.bool) false)) []
    else
    bif (!r2.2.1) then
      bif (decide (key2 = (27 : Int))) then
        ∀ (r4 : Bool), r4 = quoinlaw20_same_F r2.1 y1 → (
        wfR (.one (.v (.bool) r4)) → (
        K (.one (.v (.bool) r4)) []))
      else
        K (.one (.v (.bool) false)) []
    else
    bif (!decide (r2.1.1 = y1.1)) then
      K (.one (.v (.bool) false)) []
    else
    bif (!decide (r2.1.2.1 = y1.2.1)) then
      K (.one (.v (.bool) false)) []
    else
    bif (!decide (r2.1.2.2.2.2 = y1.2.2.2.2)) then
      K (.one (.v (.bool) false)) []
    else
      typing_Show_P base0 r2.1 ∧ (
      ∀ (r5 : List Int × Int), r5 = typing_Show_F base0 r2.1 → (
      wfR (.tup [.fr 5 (.int .u8) r5.1, .v (.int .i64) r5.2]) → (
      ∀ (r6 : Int), r6 = typing_Check_F base0 r2.1 → (
      wfR (.one (.v (.int .i64) r6)) → (
      bif ((decide (r6 = (0 : Int))) != (decide ((List.length r5.1 : Int) ≤ (65536 : Int)))) then
        K (.one (.v (.bool) false)) []
      else
        ∀ (r7 : Bool), r7 = quoinlaw20_text_F key2 → (
        wfR (.one (.v (.bool) r7)) → (
        bif (!r7) then
          bif (decide ((List.length r2.1.2.2.1 : Int) < (List.length y1.2.2.1 : Int))) then
            bif decide (0 ≤ (List.length r2.1.2.2.1 : Int) ∧ (List.length r2.1.2.2.1 : Int) ≤ (List.length y1.2.2.1 : Int)) then
            K (.one (.v (.bool) (decide (r2.1.2.2.1 = (List.take (Int.toNat (List.length r2.1.2.2.1 : Int)) y1.2.2.1))))) []
            else False
          else
            K (.one (.v (.bool) false)) []
        else
        bif (!decide ((List.length r2.1.2.2.1 : Int) = (IntKind.wrap .i64 ((List.length y1.2.2.1 : Int) + (1 : Int))))) then
          K (.one (.v (.bool) false)) []
        else
          typing_Press_P base0 r2.1 (8 : Int) ∧ (
          ∀ (r8 : (Int × Int × List Int × Int × Int) × Bool × Int), r8 = typing_Press_F base0 r2.1 (8 : Int) → (
          wfR (.tup [.v (.st (.pair (.int .u8) (.pair (.int .i64) (.pair (.sl (.int .u8)) (.pair (.int .i64) (.int .i64)))))) r8.1, .v (.bool) r8.2.1, .v (.int .i64) r8.2.2]) → (
          bif (decide (r8.2.2 = (0 : Int))) then
            bif r8.2.1 then
              ∀ (r9 : Bool), r9 = quoinlaw20_same_F r8.1 y1 → (
              wfR (.one (.v (.bool) r9)) → (
              K (.one (.v (.bool) r9)) []))
            else
              K (.one (.v (.bool) false)) []
          else
            K (.one (.v (.bool) false)) [])))))))))))))))
def quoinlaw20_TypingBack_A : List AS := [.v (.sl (.int .u8)), .v (.st (.pair (.int .u8) (.pair (.int .i64) (.pair (.sl (.int .u8)) (.pair (.int .i64) (.int .i64)))))), .v (.int .u8)]
theorem quoinlaw20_TypingBack_walk (base0 : List Int) (y1 : (Int × Int × List Int × Int × Int)) (key2 : Int) (K : Res → List Cell → Prop) : runF tb (getG quoinlaw20_TypingBack_G) [] Try.f5 [true] (mkA quoinlaw20_TypingBack_A (base0, y1, key2, ())) K = quoinlaw20_TypingBack_raw base0 y1 key2 K := by kernel_rfl
--! law 1

def quoinlaw20_TypingBack_R : App := runF tb (getG quoinlaw20_TypingBack_G) [] Try.f5 [true]
theorem quoinlaw20_TypingBack_ok : AppOk Try.prog 5 quoinlaw20_TypingBack_R := runF_ok tb_M tb_ok quoinlaw20_TypingBack_Gok (LabsOk.nil) (f := 5) (fn := Try.f5) (by kernel_rfl) (by kernel_rfl) (by kernel_rfl) [true]
end Go.VE
namespace Go.VE
open Go Go.Proofs

theorem class_three : ∀ n : Fin 256, class_Of_F ((n.val : Nat) : Int) false = 3 → ((n.val : Nat) : Int) = 10 := by decide +kernel

theorem wordLen_lt {t : List Int} (h : okB t) (hl : 0 < t.length) : wordLen t < t.length := by
  unfold wordLen
  split
  · omega
  · rename_i hne
    have hle := wordBlank_le t t.length
    split
    · rename_i h0
      generalize hb : wordBlank t t.length = b at *
      have hk := wordKind_le t (class_Of_F (rd (0 : Int) t ((b - 1 : Nat) : Int)) false) b
      by_cases hbl : b < t.length
      · omega
      · have hbe : b = t.length := by omega
        obtain ⟨c, hc⟩ : ∃ c, b = c + 1 := ⟨b - 1, by omega⟩
        have hr := h.rd (n := c) (by omega)
        have h3 : class_Of_F (rd (0 : Int) t (c : Int)) false ≠ 3 := by
          intro e
          have := of_byte (p := fun x => class_Of_F x false = 3 → x = 10) class_three hr.1 hr.2 e
          exact hne (by rw [show t.length - 1 = c by omega]; exact this)
        have hc2 : ((b - 1 : Nat) : Int) = (c : Int) := by omega
        rw [hc2]
        rw [hc]
        have e : wordKind t (class_Of_F (rd (0 : Int) t (c : Int)) false) (c + 1) = wordKind t (class_Of_F (rd (0 : Int) t (c : Int)) false) c := by
          conv => lhs; unfold wordKind
          rw [if_pos ⟨h3, rfl⟩]
        rw [e]
        have := wordKind_le t (class_Of_F (rd (0 : Int) t (c : Int)) false) c
        omega
    · exact hl

theorem lastUp_lt {t : List Int} : ∀ n, 0 < n → rd (0 : Int) t ((n - 1 : Nat) : Int) ≠ 10 → (lastUp t 10 n + 1).toNat < n
  | 0, h, _ => absurd h (Nat.lt_irrefl 0)
  | n + 1, _, hne => by
    unfold lastUp
    rw [show n + 1 - 1 = n by omega] at hne
    rw [if_neg hne]
    have := lastUp_le t 10 n
    omega

/-- what a key leaves of the typed text: more, or less -/
theorem pressed_cases {t : List Int} (h : okB t) {key : Int} {u : List Int} (hu : pressed t key = some u) :
    ((key = 8 ∨ key = 127 ∨ key = 21 ∨ key = 23) ∧ ∃ n, n < t.length ∧ u = t.take n) ∨ (¬ (key = 8 ∨ key = 127 ∨ key = 21 ∨ key = 23) ∧ ∃ k, u = t ++ [k] ∧ typing_isText_F k = true ∧ (key = 13 ∧ k = 10 ∨ k = key ∧ typing_isText_F key = true)) := by
  unfold pressed at hu
  split at hu
  · rename_i hk
    refine .inl ⟨hk, ?_⟩
    split at hu
    · cases hu
    · rename_i hn
      have hl : 0 < t.length := Nat.pos_of_ne_zero fun e => hn (.inl e)
      split at hu
      · rename_i h21
        injection hu with hu; subst hu
        exact ⟨_, lastUp_lt t.length hl (fun e => hn (.inr ⟨h21, e⟩)), rfl⟩
      · split at hu
        · injection hu with hu; subst hu
          exact ⟨_, wordLen_lt h hl, rfl⟩
        · injection hu with hu; subst hu
          exact ⟨_, by omega, rfl⟩
  · rename_i hk
    refine .inr ⟨hk, ?_⟩
    split at hu
    · rename_i h13
      injection hu with hu; subst hu
      exact ⟨10, rfl, by decide, .inl ⟨h13, rfl⟩⟩
    · split at hu
      · rename_i ht
        injection hu with hu; subst hu
        exact ⟨key, rfl, ht, .inr ⟨rfl, ht⟩⟩
      · cases hu

/-- the typing behind a key that was taken -/
def nextT (base : List Int) (y : Ty20) (u : List Int) : Ty20 := (y.1, y.2.1, u, typing_under_F base (y.1, y.2.1, u, y.2.2.2.1, y.2.2.2.2), y.2.2.2.2)

theorem next_fits {base : List Int} {y : Ty20} (hb : base.length ≤ 4294967295) (hy : okB y.2.2.1) (hl : y.2.2.1.length ≤ 4294967295) (h : TFits base y) {key : Int} (h0 : 0 ≤ key) (h1 : key ≤ 255) {u : List Int} (hu : pressed y.2.2.1 key = some u) :
    TFits base (nextT base y u) ∧ okB u := by
  have hou : okB u := by
    have := rpress_ok hy h0 h1 (by rw [← pressed_eq hy h0 h1]; exact hu)
    exact ⟨by omega, this.2⟩
  refine ⟨⟨h.kind, h.lo, h.hi, h.one, h.many, ?_, ?_⟩, hou⟩
  · intro b hb'
    have hb' : b ∈ u := hb'
    rw [← text_eq (hou.2 b hb').1 (hou.2 b hb').2]
    have ht : ∀ b ∈ y.2.2.1, typing_isText_F b = true := fun b hb => by rw [text_eq (hy.2 b hb).1 (hy.2 b hb).2]; exact h.text b hb
    rcases pressed_cases hy hu with ⟨_, n, _, rfl⟩ | ⟨_, k, rfl, hk, _⟩
    · exact ht b (List.mem_of_mem_take hb')
    · rcases List.mem_append.1 hb' with hb' | hb'
      · exact ht b hb'
      · rw [List.mem_singleton] at hb'; subst hb'; exact hk
  · exact under_eq (y := (y.1, y.2.1, u, y.2.2.2.1, y.2.2.2.2)) (by omega) hou.1 h.lo h.hi

theorem press_some {base : List Int} {y : Ty20} (hb : base.length ≤ 4294967296) (hy : okB y.2.2.1) (h : TFits base y) {key : Int} (hk : key ≠ 27) {u : List Int} (hu : pressed y.2.2.1 key = some u) :
    typing_Press_F base y key = (nextT base y u, true, 0) := by
  unfold typing_Press_F
  rw [fits_eq hb hy, if_pos (fits_iff.2 h), if_neg hk, hu]
  rfl

theorem show_len {base : List Int} {z : Ty20} (hb : base.length ≤ 4294967296) (hz : okB z.2.2.1) (h : TFits base z) : ((typing_Show_F base z).1.length : Int) = base.length - z.2.2.2.1 + z.2.2.1.length := by
  unfold typing_Show_F
  rw [fits_eq hb hz, fits_iff.2 h]
  have h1 := h.le
  have := h.lo; have := h.hi
  show ((List.length ((List.take (Int.toNat z.2.1) ([] ++ base) ++ z.2.2.1) ++ List.drop (Int.toNat (IntKind.wrap .i64 (z.2.1 + z.2.2.2.1))) base) : Nat) : Int) = _
  rw [wrap_i64 (by omega) (by omega)]
  simp only [List.nil_append, List.length_append, List.length_take, List.length_drop]
  omega

theorem check_len {base : List Int} {z : Ty20} (hb : base.length ≤ 4294967296) (hz : okB z.2.2.1) (h : TFits base z) : typing_Check_F base z = if (base.length : Int) - z.2.2.2.1 + z.2.2.1.length ≤ 65536 then 0 else 2 := by
  unfold typing_Check_F
  rw [fits_eq hb hz, fits_iff.2 h]
  have h1 := h.le
  have := hz.1
  show (bif decide ((65536 : Int) < IntKind.wrap .i64 (IntKind.wrap .i64 ((base.length : Int) - z.2.2.2.1) + (z.2.2.1.length : Int))) then (2 : Int) else 0) = _
  rw [wrap_i64 (n := (base.length : Int) - z.2.2.2.1) (by omega) (by omega), wrap_i64 (by omega) (by omega)]
  by_cases c : (base.length : Int) - z.2.2.2.1 + z.2.2.1.length ≤ 65536
  · rw [decide_eq_false (by omega), if_pos c]; rfl
  · rw [decide_eq_true (by omega), if_neg c]; rfl

theorem text_law : ∀ n : Fin 256, quoinlaw20_text_F ((n.val : Nat) : Int) = (decide (((n.val : Nat) : Int) = 13) || typing_isText_F ((n.val : Nat) : Int)) := by decide +kernel
theorem text_not : ∀ n : Fin 256, (((n.val : Nat) : Int) = 8 ∨ ((n.val : Nat) : Int) = 127 ∨ ((n.val : Nat) : Int) = 21 ∨ ((n.val : Nat) : Int) = 23) → quoinlaw20_text_F ((n.val : Nat) : Int) = false := by decide +kernel

theorem back_true {base : List Int} {y : Ty20} {key : Int} (hb : base.length ≤ 1048576) (hy : okB y.2.2.1) (hl : y.2.2.1.length ≤ 1048576) (h0 : 0 ≤ key) (h1 : key ≤ 255) : quoinlaw20_TypingBack_raw base y key yes := by
  unfold quoinlaw20_TypingBack_raw
  intro r1 hr1 _
  obtain rfl : r1 = true := hr1
  refine ⟨by show y.2.2.1.length < 1099511627776; omega, fun r2 hr2 _ => ?_⟩
  by_cases hf : ¬ quoinref20_fits_F base y = true
  · have e : r2 = (zeroT, false, 2) := by rw [hr2]; unfold typing_Press_F; rw [fits_eq (by omega) hy, if_neg hf]
    subst e
    show ∀ r3 : Bool, _
    intro r3 hr3 _
    obtain rfl : r3 = true := hr3.trans (same_self _)
    rfl
  have hf : quoinref20_fits_F base y = true := Classical.not_not.1 hf
  have h := fits_iff.1 hf
  by_cases c27 : key = 27
  · have e : r2 = (y, false, 0) := by rw [hr2]; unfold typing_Press_F; rw [fits_eq (by omega) hy, if_pos hf, if_pos c27]
    subst e
    show bif decide (key = 27) then _ else _
    rw [decide_eq_true c27]
    show ∀ r4 : Bool, _
    intro r4 hr4 _
    obtain rfl : r4 = true := hr4.trans (same_self _)
    rfl
  cases hp : pressed y.2.2.1 key with
  | none =>
    have e : r2 = (zeroT, false, 200) := by rw [hr2]; unfold typing_Press_F; rw [fits_eq (by omega) hy, if_pos hf, if_neg c27, hp]
    subst e
    show ∀ r3 : Bool, _
    intro r3 hr3 _
    obtain rfl : r3 = true := hr3.trans (same_self _)
    rfl
  | some u =>
    have e : r2 = (nextT base y u, true, 0) := by rw [hr2]; exact press_some (by omega) hy h c27 hp
    obtain ⟨hz, hou⟩ := next_fits (by omega) hy (by omega) h h0 h1 hp
    have hul := (rpress_ok hy h0 h1 (by rw [← pressed_eq hy h0 h1]; exact hp)).1
    subst e
    have q1 : decide ((nextT base y u).1 = y.1) = true := decide_eq_true rfl
    have q2 : decide ((nextT base y u).2.1 = y.2.1) = true := decide_eq_true rfl
    have q3 : decide ((nextT base y u).2.2.2.2 = y.2.2.2.2) = true := decide_eq_true rfl
    show bif !decide ((nextT base y u).1 = y.1) then _ else _
    rw [q1]
    show bif !decide ((nextT base y u).2.1 = y.2.1) then _ else _
    rw [q2]
    show bif !decide ((nextT base y u).2.2.2.2 = y.2.2.2.2) then _ else _
    rw [q3]
    refine ⟨show_P (by omega) hou, fun r5 hr5 _ r6 hr6 _ => ?_⟩
    have hsl := show_len (by omega) hou hz
    have hcl := check_len (by omega) hou hz
    rw [← hr5] at hsl
    have hne : ((decide (r6 = (0 : Int))) != (decide ((List.length r5.1 : Int) ≤ (65536 : Int)))) = false := by
      rw [hr6, hcl, hsl]
      by_cases c : (base.length : Int) - (nextT base y u).2.2.2.1 + (nextT base y u).2.2.1.length ≤ 65536
      · rw [if_pos c, decide_eq_true rfl, decide_eq_true c]; rfl
      · rw [if_neg c, decide_eq_false c]; rfl
    rw [hne]
    show ∀ r7 : Bool, _
    intro r7 hr7 _
    rcases pressed_cases hy hp with ⟨hk, n, hn, rfl⟩ | ⟨hk, k, rfl, hkt, hkk⟩
    · have ht : quoinlaw20_text_F key = false := of_byte (p := fun x => (x = 8 ∨ x = 127 ∨ x = 21 ∨ x = 23) → quoinlaw20_text_F x = false) text_not h0 h1 hk
      rw [ht] at hr7; subst hr7
      have hlt : (y.2.2.1.take n).length = n := by rw [List.length_take]; omega
      show bif decide (((y.2.2.1.take n).length : Int) < (y.2.2.1.length : Int)) then _ else _
      rw [hlt, decide_eq_true (by omega)]
      refine asrt (by show (0 : Int) ≤ ((y.2.2.1.take n).length : Int) ∧ ((y.2.2.1.take n).length : Int) ≤ _; rw [hlt]; omega) ?_
      show Res.one (RVal.v .bool (decide (y.2.2.1.take n = List.take (Int.toNat ((y.2.2.1.take n).length : Int)) y.2.2.1))) = _
      rw [Int.toNat_natCast, hlt, decide_eq_true rfl]
    · have ht : quoinlaw20_text_F key = true := by
        rw [of_byte (p := fun x => quoinlaw20_text_F x = (decide (x = 13) || typing_isText_F x)) text_law h0 h1]
        rcases hkk with ⟨c, _⟩ | ⟨_, c⟩
        · rw [decide_eq_true c]; rfl
        · rw [c, Bool.or_true]
      rw [ht] at hr7; subst hr7
      have hlen : ((y.2.2.1 ++ [k]).length : Int) = IntKind.wrap .i64 ((y.2.2.1.length : Int) + 1) := by
        rw [wrap_i64 (by omega) (by omega), List.length_append]; simp
      show bif !decide (((y.2.2.1 ++ [k]).length : Int) = IntKind.wrap .i64 ((y.2.2.1.length : Int) + 1)) then _ else _
      rw [decide_eq_true hlen]
      refine ⟨by show (y.2.2.1 ++ [k]).length < 1099511627776; rw [List.length_append]; simp only [List.length_cons, List.length_nil]; omega, fun r8 hr8 _ => ?_⟩
      have hp8 : pressed (nextT base y (y.2.2.1 ++ [k])).2.2.1 8 = some y.2.2.1 := by
        show pressed (y.2.2.1 ++ [k]) 8 = some y.2.2.1
        unfold pressed
        rw [if_pos (by omega), if_neg (by simp), if_neg (by omega), if_neg (by omega)]
        simp
      have e8 : r8 = (y, true, 0) := by
        rw [hr8, press_some (by omega) hou hz (by omega) hp8]
        unfold nextT
        dsimp only
        have hu : typing_under_F base (y.1, y.2.1, y.2.2.1, typing_under_F base (y.1, y.2.1, y.2.2.1 ++ [k], y.2.2.2.1, y.2.2.2.2), y.2.2.2.2) = y.2.2.2.1 := by
          generalize typing_under_F base (y.1, y.2.1, y.2.2.1 ++ [k], y.2.2.2.1, y.2.2.2.2) = w
          rw [under_eq (y := (y.1, y.2.1, y.2.2.1, w, y.2.2.2.2)) (by omega) (by dsimp only; omega) h.lo h.hi, h.under]; rfl
        rw [hu]
      subst e8
      show ∀ r9 : Bool, _
      intro r9 hr9 _
      obtain rfl : r9 = true := hr9.trans (same_self _)
      rfl

theorem back_law (v : valsA quoinlaw20_TypingBack_A) (hw : wfA quoinlaw20_TypingBack_A v) (hb : bulkA quoinlaw20_TypingBack_A v ≤ 1048576) : quoinlaw20_TypingBack_R (mkA quoinlaw20_TypingBack_A v) yes := by
  obtain ⟨base, y, key, ⟨⟩⟩ := v
  refine (quoinlaw20_TypingBack_walk base y key yes).mpr ?_
  obtain ⟨h1, h2, h3, _⟩ := hw
  obtain ⟨_, _, ht, _, _⟩ := h2
  have hb : bulk (.sl (.int .u8)) base + ((1 + (1 + (bulk (.sl (.int .u8)) y.2.2.1 + (1 + 1)))) + (1 + 0)) ≤ 1048576 := hb
  rw [bulk_ints, bulk_ints] at hb
  exact back_true (by omega) (okB_of ht (by omega)) (by omega) h3.1 h3.2
end Go.VE
namespace Go.VE
open Go Go.Proofs
/-! ### quoin/quoinlaw20.TypingOver -/
def quoinlaw20_TypingOver_G : List (Nat × App) := [(8, quoinlaw20_alive_S), (10, typing_Begin_S), (21, quoinlaw20_text_S), (15, typing_Press_S), (17, typing_Show_S)]
theorem quoinlaw20_TypingOver_Gok : GOk Try.prog (getG quoinlaw20_TypingOver_G) := GOk.cons quoinlaw20_alive_ok (GOk.cons typing_Begin_ok (GOk.cons quoinlaw20_text_ok (GOk.cons typing_Press_ok (GOk.cons typing_Show_ok (GOk.nil)))))
theorem quoinlaw20_TypingOver_st : storesC (bodyOf Try.f6) = true := by kernel_rfl
def quoinlaw20_TypingOver_d0 : List LS := [.v 0 (.sl (.int .u8)), .v 1 (.int .i64), .v 2 (.sl (.int .u8)), .b 7 56 [], .v 8 (.int .i64), .c 56 (.st (.pair (.int .u8) (.pair (.int .i64) (.pair (.sl (.int .u8)) (.pair (.int .i64) (.int .i64))))))]
def quoinlaw20_TypingOver_d0r : List LS := [.v 6 (.bool)]
def quoinlaw20_TypingOver_d0x0 : List LS := [.v 0 (.sl (.int .u8)), .v 1 (.int .i64), .b 7 56 [], .c 56 (.st (.pair (.int .u8) (.pair (.int .i64) (.pair (.sl (.int .u8)) (.pair (.int .i64) (.int .i64))))))]
def quoinlaw20_TypingOver_dx0 : DX := ⟨none, some quoinlaw20_TypingOver_d0r, [(0, quoinlaw20_TypingOver_d0x0)]⟩
def quoinlaw20_TypingOver_T0 (Y : List Int → Int → List Int → Int → (Int × Int × List Int × Int × Int) → Prop) (kr : Bool → Prop) (kx0 : List Int → Int → (Int × Int × List Int × Int × Int) → Prop) (base0 : List Int) (at1 : Int) (typed2 : List Int) (i8 : Int) (y7b : (Int × Int × List Int × Int × Int)) : Prop :=
  bif (decide (i8 < (List.length typed2 : Int))) then
    bif decide (0 ≤ i8 ∧ i8 < (List.length typed2 : Int)) then
    bif (decide ((rd (0 : Int) typed2 i8) = (10 : Int))) then
      Y base0 at1 typed2 (IntKind.wrap .i64 (i8 + (1 : Int))) y7b
    else
      bif decide (0 ≤ i8 ∧ i8 < (List.length typed2 : Int)) then
      bif (decide ((rd (0 : Int) typed2 i8) = (13 : Int))) then
        Y base0 at1 typed2 (IntKind.wrap .i64 (i8 + (1 : Int))) y7b
      else
        bif decide (0 ≤ i8 ∧ i8 < (List.length typed2 : Int)) then
        ∀ (r3 : Bool), r3 = quoinlaw20_text_F (rd (0 : Int) typed2 i8) → (
        wfR (.one (.v (.bool) r3)) → (
        bif (!r3) then
          Y base0 at1 typed2 (IntKind.wrap .i64 (i8 + (1 : Int))) y7b
        else
          bif decide (0 ≤ i8 ∧ i8 < (List.length typed2 : Int)) then
          (
            typing_Press_P base0 y7b (rd (0 : Int) typed2 i8) ∧ (
            ∀ (r4 : (Int × Int × List Int × Int × Int) × Bool × Int), r4 = typing_Press_F base0 y7b (rd (0 : Int) typed2 i8) → (
            wfR (.tup [.v (.st (.pair (.int .u8) (.pair (.int .i64) (.pair (.sl (.int .u8)) (.pair (.int .i64) (.int .i64)))))) r4.1, .v (.bool) r4.2.1, .v (.int .i64) r4.2.2]) → (
            bif (decide (at1 < (0 : Int))) then
              bif (decide (r4.2.2 = (2 : Int))) then
                kr (!r4.2.1)
              else
                kr false
            else
            bif (decide ((List.length base0 : Int) < at1)) then
              bif (decide (r4.2.2 = (2 : Int))) then
                kr (!r4.2.1)
              else
                kr false
            else
            bif (!r4.2.1) then
              kr false
            else
            bif (!decide (r4.2.2 = (0 : Int))) then
              kr false
            else
              Y base0 at1 typed2 (IntKind.wrap .i64 (i8 + (1 : Int))) r4.1)))) ∧ (
            typing_Press_P base0 y7b (rd (0 : Int) typed2 i8) ∧ (
            ∀ (r5 : (Int × Int × List Int × Int × Int) × Bool × Int), r5 = typing_Press_F base0 y7b (rd (0 : Int) typed2 i8) → (
            wfR (.tup [.v (.st (.pair (.int .u8) (.pair (.int .i64) (.pair (.sl (.int .u8)) (.pair (.int .i64) (.int .i64)))))) r5.1, .v (.bool) r5.2.1, .v (.int .i64) r5.2.2]) → (
            bif (decide (at1 < (0 : Int))) then
              bif (decide (r5.2.2 = (2 : Int))) then
                kr (!r5.2.1)
              else
                kr false
            else
            bif (decide ((List.length base0 : Int) < at1)) then
              bif (decide (r5.2.2 = (2 : Int))) then
                kr (!r5.2.1)
              else
                kr false
            else
            bif (!r5.2.1) then
              kr false
            else
            bif (!decide (r5.2.2 = (0 : Int))) then
              kr false
            else
              Y base0 at1 typed2 (IntKind.wrap .i64 (i8 + (1 : Int))) r5.1)))) ∧ True
          else False))
        else False
      else False
    else False
  else
    kx0 base0 at1 y7b
def quoinlaw20_TypingOver_L0 (kr : Bool → Prop) (kx0 : List Int → Int → (Int × Int × List Int × Int × Int) → Prop) : Nat → List Int → Int → List Int → Int → (Int × Int × List Int × Int × Int) → Prop
  | 0, _, _, _, _, _ => False
  | n + 1, base0, at1, typed2, i8, y7b => wfD quoinlaw20_TypingOver_d0 (base0, at1, typed2, i8, y7b, ()) → quoinlaw20_TypingOver_T0 (quoinlaw20_TypingOver_L0 kr kx0 n) kr kx0 base0 at1 typed2 i8 y7b
theorem quoinlaw20_TypingOver_s0 (k : Ex → St → Prop) (Y : vals quoinlaw20_TypingOver_d0 → Prop) (base0 : List Int) (at1 : Int) (typed2 : List Int) (i8 : Int) (y7b : (Int × Int × List Int × Int × Int)) :
    ex tb (getG quoinlaw20_TypingOver_G) [] (at' (bodyOf Try.f6) [0, 0, 1, 0, 1, 1, 1]) [0, 0, 1, 0, 1, 1, 1] (mkD 179 quoinlaw20_TypingOver_d0 (base0, at1, typed2, i8, y7b, ())) (lpK 179 quoinlaw20_TypingOver_d0 quoinlaw20_TypingOver_dx0 k Y) =
    quoinlaw20_TypingOver_T0 (fun base0 at1 typed2 i8 y7b => Y (base0, at1, typed2, i8, y7b, ())) (fun x6 => wfD quoinlaw20_TypingOver_d0r (x6, ()) → k .ret (mkD 179 quoinlaw20_TypingOver_d0r (x6, ()))) (fun base0 at1 y7b => wfD quoinlaw20_TypingOver_d0x0 (base0, at1, y7b, ()) → k (.exit 0) (mkD 179 quoinlaw20_TypingOver_d0x0 (base0, at1, y7b, ()))) base0 at1 typed2 i8 y7b := by kernel_rfl
theorem quoinlaw20_TypingOver_e0 (k : Ex → St → Prop) : ∀ (n : Nat) (base0 : List Int) (at1 : Int) (typed2 : List Int) (i8 : Int) (y7b : (Int × Int × List Int × Int × Int)), lpD 179 quoinlaw20_TypingOver_d0 quoinlaw20_TypingOver_dx0 (ex tb (getG quoinlaw20_TypingOver_G) [] (at' (bodyOf Try.f6) [0, 0, 1, 0, 1, 1, 1]) [0, 0, 1, 0, 1, 1, 1]) k n (base0, at1, typed2, i8, y7b, ()) = quoinlaw20_TypingOver_L0 (fun x6 => wfD quoinlaw20_TypingOver_d0r (x6, ()) → k .ret (mkD 179 quoinlaw20_TypingOver_d0r (x6, ()))) (fun base0 at1 y7b => wfD quoinlaw20_TypingOver_d0x0 (base0, at1, y7b, ()) → k (.exit 0) (mkD 179 quoinlaw20_TypingOver_d0x0 (base0, at1, y7b, ()))) n base0 at1 typed2 i8 y7b
  | 0, _, _, _, _, _ => rfl
  | n + 1, base0, at1, typed2, i8, y7b => congrArg (fun Z : Prop => wfD quoinlaw20_TypingOver_d0 (base0, at1, typed2, i8, y7b, ()) → Z) ((quoinlaw20_TypingOver_s0 k (lpD 179 quoinlaw20_TypingOver_d0 quoinlaw20_TypingOver_dx0 (ex tb (getG quoinlaw20_TypingOver_G) [] (at' (bodyOf Try.f6) [0, 0, 1, 0, 1, 1, 1]) [0, 0, 1, 0, 1, 1, 1]) k n) base0 at1 typed2 i8 y7b).trans (congrArg (fun Y => quoinlaw20_TypingOver_T0 Y (fun x6 => wfD quoinlaw20_TypingOver_d0r (x6, ()) → k .ret (mkD 179 quoinlaw20_TypingOver_d0r (x6, ()))) (fun base0 at1 y7b => wfD quoinlaw20_TypingOver_d0x0 (base0, at1, y7b, ()) → k (.exit 0) (mkD 179 quoinlaw20_TypingOver_d0x0 (base0, at1, y7b, ()))) base0 at1 typed2 i8 y7b) (funext fun base0 => funext fun at1 => funext fun typed2 => funext fun i8 => funext fun y7b => quoinlaw20_TypingOver_e0 k n base0 at1 typed2 i8 y7b)))
theorem quoinlaw20_TypingOver_v0 (k : Ex → St → Prop) (n : Nat) : ∀ v : vals quoinlaw20_TypingOver_d0, lpD 179 quoinlaw20_TypingOver_d0 quoinlaw20_TypingOver_dx0 (ex tb (getG quoinlaw20_TypingOver_G) [] (at' (bodyOf Try.f6) [0, 0, 1, 0, 1, 1, 1]) [0, 0, 1, 0, 1, 1, 1]) k n v = quoinlaw20_TypingOver_L0 (fun x6 => wfD quoinlaw20_TypingOver_d0r (x6, ()) → k .ret (mkD 179 quoinlaw20_TypingOver_d0r (x6, ()))) (fun base0 at1 y7b => wfD quoinlaw20_TypingOver_d0x0 (base0, at1, y7b, ()) → k (.exit 0) (mkD 179 quoinlaw20_TypingOver_d0x0 (base0, at1, y7b, ()))) n v.1 v.2.1 v.2.2.1 v.2.2.2.1 v.2.2.2.2.1
  | (base0, at1, typed2, i8, y7b, ()) => quoinlaw20_TypingOver_e0 k n base0 at1 typed2 i8 y7b
def quoinlaw20_TypingOver_X0 : Pce := fun st k => ckD 179 quoinlaw20_TypingOver_d0 st fun v => wfD quoinlaw20_TypingOver_d0 v → ∃ n, quoinlaw20_TypingOver_L0 (fun x6 => wfD quoinlaw20_TypingOver_d0r (x6, ()) → k .ret (mkD 179 quoinlaw20_TypingOver_d0r (x6, ()))) (fun base0 at1 y7b => wfD quoinlaw20_TypingOver_d0x0 (base0, at1, y7b, ()) → k (.exit 0) (mkD 179 quoinlaw20_TypingOver_d0x0 (base0, at1, y7b, ()))) n v.1 v.2.1 v.2.2.1 v.2.2.2.1 v.2.2.2.2.1
set_option maxRecDepth 20000 in
theorem quoinlaw20_TypingOver_x0 : SemOk Try.prog (at' (bodyOf Try.f6) [0, 1, 0, 1, 1, 1]) quoinlaw20_TypingOver_X0 :=
  (SemOk.loop (ex_sound tb_M tb_ok quoinlaw20_TypingOver_Gok (LabsOk.nil) (at' (bodyOf Try.f6) [0, 0, 1, 0, 1, 1, 1]) [0, 0, 1, 0, 1, 1, 1] rfl (storesC_at quoinlaw20_TypingOver_st [0, 0, 1, 0, 1, 1, 1])) 179 quoinlaw20_TypingOver_d0 quoinlaw20_TypingOver_dx0).mono fun st k h => ckD_mono h fun v hv hw => (hv hw).elim fun n hn => ⟨n, Eq.mpr (quoinlaw20_TypingOver_v0 k n v) hn⟩
def quoinlaw20_TypingOver_B0 : Labs := ([0, 1, 0, 1, 1, 1], quoinlaw20_TypingOver_X0) :: []
theorem quoinlaw20_TypingOver_b0 : LabsOk Try.prog (bodyOf Try.f6) quoinlaw20_TypingOver_B0 := LabsOk.cons quoinlaw20_TypingOver_x0 (LabsOk.nil)
def quoinlaw20_TypingOver_d1 : List LS := [.v 0 (.sl (.int .u8)), .v 1 (.int .i64), .b 7 56 [], .v 12 (.int .i64), .c 56 (.st (.pair (.int .u8) (.pair (.int .i64) (.pair (.sl (.int .u8)) (.pair (.int .i64) (.int .i64))))))]
def quoinlaw20_TypingOver_d1x2 : List LS := [.v 0 (.sl (.int .u8)), .v 1 (.int .i64), .b 7 56 [], .v 12 (.int .i64), .c 56 (.st (.pair (.int .u8) (.pair (.int .i64) (.pair (.sl (.int .u8)) (.pair (.int .i64) (.int .i64))))))]
def quoinlaw20_TypingOver_dx1 : DX := ⟨none, none, [(2, quoinlaw20_TypingOver_d1x2)]⟩
def quoinlaw20_TypingOver_T1 (Y : List Int → Int → Int → (Int × Int × List Int × Int × Int) → Prop) (kx2 : List Int → Int → Int → (Int × Int × List Int × Int × Int) → Prop) (base0 : List Int) (at1 : Int) (end12 : Int) (y7b : (Int × Int × List Int × Int × Int)) : Prop :=
  bif (decide (end12 < (List.length base0 : Int))) then
    bif decide (0 ≤ end12 ∧ end12 < (List.length base0 : Int)) then
    bif (!decide ((rd (0 : Int) base0 end12) = (10 : Int))) then
      Y base0 at1 (IntKind.wrap .i64 (end12 + (1 : Int))) y7b
    else
      kx2 base0 at1 end12 y7b
    else False
  else
    kx2 base0 at1 end12 y7b
def quoinlaw20_TypingOver_L1 (kx2 : List Int → Int → Int → (Int × Int × List Int × Int × Int) → Prop) : Nat → List Int → Int → Int → (Int × Int × List Int × Int × Int) → Prop
  | 0, _, _, _, _ => False
  | n + 1, base0, at1, end12, y7b => wfD quoinlaw20_TypingOver_d1 (base0, at1, end12, y7b, ()) → quoinlaw20_TypingOver_T1 (quoinlaw20_TypingOver_L1 kx2 n) kx2 base0 at1 end12 y7b
theorem quoinlaw20_TypingOver_s1 (k : Ex → St → Prop) (Y : vals quoinlaw20_TypingOver_d1 → Prop) (base0 : List Int) (at1 : Int) (end12 : Int) (y7b : (Int × Int × List Int × Int × Int)) :
    ex tb (getG quoinlaw20_TypingOver_G) quoinlaw20_TypingOver_B0 (at' (bodyOf Try.f6) [0, 0, 0, 1, 1, 1, 1, 1, 1]) [0, 0, 0, 1, 1, 1, 1, 1, 1] (mkD 179 quoinlaw20_TypingOver_d1 (base0, at1, end12, y7b, ())) (lpK 179 quoinlaw20_TypingOver_d1 quoinlaw20_TypingOver_dx1 k Y) =
    quoinlaw20_TypingOver_T1 (fun base0 at1 end12 y7b => Y (base0, at1, end12, y7b, ())) (fun base0 at1 end12 y7b => wfD quoinlaw20_TypingOver_d1x2 (base0, at1, end12, y7b, ()) → k (.exit 2) (mkD 179 quoinlaw20_TypingOver_d1x2 (base0, at1, end12, y7b, ()))) base0 at1 end12 y7b := by kernel_rfl
theorem quoinlaw20_TypingOver_e1 (k : Ex → St → Prop) : ∀ (n : Nat) (base0 : List Int) (at1 : Int) (end12 : Int) (y7b : (Int × Int × List Int × Int × Int)), lpD 179 quoinlaw20_TypingOver_d1 quoinlaw20_TypingOver_dx1 (ex tb (getG quoinlaw20_TypingOver_G) quoinlaw20_TypingOver_B0 (at' (bodyOf Try.f6) [0, 0, 0, 1, 1, 1, 1, 1, 1]) [0, 0, 0, 1, 1, 1, 1, 1, 1]) k n (base0, at1, end12, y7b, ()) = quoinlaw20_TypingOver_L1 (fun base0 at1 end12 y7b => wfD quoinlaw20_TypingOver_d1x2 (base0, at1, end12, y7b, ()) → k (.exit 2) (mkD 179 quoinlaw20_TypingOver_d1x2 (base0, at1, end12, y7b, ()))) n base0 at1 end12 y7b
  | 0, _, _, _, _ => rfl
  | n + 1, base0, at1, end12, y7b => congrArg (fun Z : Prop => wfD quoinlaw20_TypingOver_d1 (base0, at1, end12, y7b, ()) → Z) ((quoinlaw20_TypingOver_s1 k (lpD 179 quoinlaw20_TypingOver_d1 quoinlaw20_TypingOver_dx1 (ex tb (getG quoinlaw20_TypingOver_G) quoinlaw20_TypingOver_B0 (at' (bodyOf Try.f6) [0, 0, 0, 1, 1, 1, 1, 1, 1]) [0, 0, 0, 1, 1, 1, 1, 1, 1]) k n) base0 at1 end12 y7b).trans (congrArg (fun Y => quoinlaw20_TypingOver_T1 Y (fun base0 at1 end12 y7b => wfD quoinlaw20_TypingOver_d1x2 (base0, at1, end12, y7b, ()) → k (.exit 2) (mkD 179 quoinlaw20_TypingOver_d1x2 (base0, at1, end12, y7b, ()))) base0 at1 end12 y7b) (funext fun base0 => funext fun at1 => funext fun end12 => funext fun y7b => quoinlaw20_TypingOver_e1 k n base0 at1 end12 y7b)))
theorem quoinlaw20_TypingOver_v1 (k : Ex → St → Prop) (n : Nat) : ∀ v : vals quoinlaw20_TypingOver_d1, lpD 179 quoinlaw20_TypingOver_d1 quoinlaw20_TypingOver_dx1 (ex tb (getG quoinlaw20_TypingOver_G) quoinlaw20_TypingOver_B0 (at' (bodyOf Try.f6) [0, 0, 0, 1, 1, 1, 1, 1, 1]) [0, 0, 0, 1, 1, 1, 1, 1, 1]) k n v = quoinlaw20_TypingOver_L1 (fun base0 at1 end12 y7b => wfD quoinlaw20_TypingOver_d1x2 (base0, at1, end12, y7b, ()) → k (.exit 2) (mkD 179 quoinlaw20_TypingOver_d1x2 (base0, at1, end12, y7b, ()))) n v.1 v.2.1 v.2.2.1 v.2.2.2.1
  | (base0, at1, end12, y7b, ()) => quoinlaw20_TypingOver_e1 k n base0 at1 end12 y7b
def quoinlaw20_TypingOver_X1 : Pce := fun st k => ckD 179 quoinlaw20_TypingOver_d1 st fun v => wfD quoinlaw20_TypingOver_d1 v → ∃ n, quoinlaw20_TypingOver_L1 (fun base0 at1 end12 y7b => wfD quoinlaw20_TypingOver_d1x2 (base0, at1, end12, y7b, ()) → k (.exit 2) (mkD 179 quoinlaw20_TypingOver_d1x2 (base0, at1, end12, y7b, ()))) n v.1 v.2.1 v.2.2.1 v.2.2.2.1
set_option maxRecDepth 20000 in
theorem quoinlaw20_TypingOver_x1 : SemOk Try.prog (at' (bodyOf Try.f6) [0, 0, 1, 1, 1, 1, 1, 1]) quoinlaw20_TypingOver_X1 :=
  (SemOk.loop (ex_sound tb_M tb_ok quoinlaw20_TypingOver_Gok (quoinlaw20_TypingOver_b0) (at' (bodyOf Try.f6) [0, 0, 0, 1, 1, 1, 1, 1, 1]) [0, 0, 0, 1, 1, 1, 1, 1, 1] rfl (storesC_at quoinlaw20_TypingOver_st [0, 0, 0, 1, 1, 1, 1, 1, 1])) 179 quoinlaw20_TypingOver_d1 quoinlaw20_TypingOver_dx1).mono fun st k h => ckD_mono h fun v hv hw => (hv hw).elim fun n hn => ⟨n, Eq.mpr (quoinlaw20_TypingOver_v1 k n v) hn⟩
def quoinlaw20_TypingOver_B1 : Labs := ([0, 0, 1, 1, 1, 1, 1, 1], quoinlaw20_TypingOver_X1) :: quoinlaw20_TypingOver_B0
theorem quoinlaw20_TypingOver_b1 : LabsOk Try.prog (bodyOf Try.f6) quoinlaw20_TypingOver_B1 := LabsOk.cons quoinlaw20_TypingOver_x1 (quoinlaw20_TypingOver_b0)
def quoinlaw20_TypingOver_raw (base0 : List Int) (at1 : Int) (typed2 : List Int) (K : Res → List Cell → Prop) : Prop :=
  ∀ (r1 : Bool), r1 = quoinlaw20_alive_F → (
  wfR (.one (.v (.bool) r1)) → (
  bif (!r1) then
    K (.one (.v (.bool) false)) []
  else
    ∀ (r2 : (Int × Int × List Int × Int × Int)), r2 = typing_Begin_F (82 : Int) at1 (1 : Int) → (
    wfR (.one (.v (.st (.pair (.int .u8) (.pair (.int .i64) (.pair (.sl (.int .u8)) (.pair (.int .i64) (.int .i64)))))) r2)) → (
    (wfD quoinlaw20_TypingOver_d0 (base0, at1, typed2, (0 : Int), r2, ()) → ∃ n, quoinlaw20_TypingOver_L0 (fun (x6 : Bool) => wfD quoinlaw20_TypingOver_d0r (x6, ()) → (
        K (.one (.v (.bool) x6)) [])) (fun (base0 : List Int) (at1 : Int) (y7b : (Int × Int × List Int × Int × Int)) => wfD quoinlaw20_TypingOver_d0x0 (base0, at1, y7b, ()) → (
        bif (decide (at1 < (0 : Int))) then
          K (.one (.v (.bool) true)) []
        else
        bif (decide ((List.length base0 : Int) < at1)) then
          K (.one (.v (.bool) true)) []
        else
          (wfD quoinlaw20_TypingOver_d1 (base0, at1, at1, y7b, ()) → ∃ n, quoinlaw20_TypingOver_L1 (fun (base0 : List Int) (at1 : Int) (end12 : Int) (y7b : (Int × Int × List Int × Int × Int)) => wfD quoinlaw20_TypingOver_d1x2 (base0, at1, end12, y7b, ()) → (
              typing_Show_P base0 y7b ∧ (
              ∀ (r6 : List Int × Int), r6 = typing_Show_F base0 y7b → (
              wfR (.tup [.fr 5 (.int .u8) r6.1, .v (.int .i64) r6.2]) → (
              bif (!decide ((List.length r6.1 : Int) = (IntKind.wrap .i64 ((List.length base0 : Int) + (mx (0 : Int) (IntKind.wrap .i64 ((List.length y7b.2.2.1 : Int) - (IntKind.wrap .i64 (end12 - at1))))))))) then
                K (.one (.v (.bool) false)) []
              else
              bif (!decide (r6.2 = (IntKind.wrap .i64 (at1 + (List.length y7b.2.2.1 : Int))))) then
                K (.one (.v (.bool) false)) []
              else
              bif (!decide (y7b.2.2.2.1 = (mn (List.length y7b.2.2.1 : Int) (IntKind.wrap .i64 (end12 - at1))))) then
                K (.one (.v (.bool) false)) []
              else
                bif decide (0 ≤ at1 ∧ at1 ≤ (List.length base0 : Int)) then
                bif decide (0 ≤ at1 ∧ at1 ≤ (List.length r6.1 : Int)) then
                bif (decide ((List.take (Int.toNat at1) r6.1) = (List.take (Int.toNat at1) base0))) then
                  bif decide (0 ≤ at1 ∧ at1 ≤ (IntKind.wrap .i64 (at1 + (List.length y7b.2.2.1 : Int))) ∧ (IntKind.wrap .i64 (at1 + (List.length y7b.2.2.1 : Int))) ≤ (List.length r6.1 : Int)) then
                  bif (decide ((slc r6.1 at1 (IntKind.wrap .i64 (at1 + (List.length y7b.2.2.1 : Int)))) = y7b.2.2.1)) then
                    bif decide (0 ≤ (IntKind.wrap .i64 (at1 + (List.length y7b.2.2.1 : Int))) ∧ (IntKind.wrap .i64 (at1 + (List.length y7b.2.2.1 : Int))) ≤ (List.length r6.1 : Int)) then
                    bif decide (0 ≤ (IntKind.wrap .i64 ((IntKind.wrap .i64 (at1 + (List.length y7b.2.2.1 : Int))) - (mx (0 : Int) (IntKind.wrap .i64 ((List.length y7b.2.2.1 : Int) - (IntKind.wrap .i64 (end12 - at1))))))) ∧ (IntKind.wrap .i64 ((IntKind.wrap .i64 (at1 + (List.length y7b.2.2.1 : Int))) - (mx (0 : Int) (IntKind.wrap .i64 ((List.length y7b.2.2.1 : Int) - (IntKind.wrap .i64 (end12 - at1))))))) ≤ (List.length base0 : Int)) then
                    K (.one (.v (.bool) (decide ((List.drop (Int.toNat (IntKind.wrap .i64 (at1 + (List.length y7b.2.2.1 : Int)))) r6.1) = (List.drop (Int.toNat (IntKind.wrap .i64 ((IntKind.wrap .i64 (at1 + (List.length y7b.2.2.1 : Int))) - (mx (0 : Int) (IntKind.wrap .i64 ((List.length y7b.2.2.1 : Int) - (IntKind.wrap .i64 (end12 - at1)))))))) base0))))) []
                    else False
                    else False
                  else
                    K (.one (.v (.bool) false)) []
                  else False
                else
                  K (.one (.v (.bool) false)) []
                else False
                else False))))) n base0 at1 at1 y7b))) n base0 at1 typed2 (0 : Int) r2)))))
def quoinlaw20_TypingOver_A : List AS := [.v (.sl (.int .u8)), .v (.int .i64), .v (.sl (.int .u8))]
theorem quoinlaw20_TypingOver_walk (base0 : List Int) (at1 : Int) (typed2 : List Int) (K : Res → List Cell → Prop) : runF tb (getG quoinlaw20_TypingOver_G) quoinlaw20_TypingOver_B1 Try.f6 [true] (mkA quoinlaw20_TypingOver_A (base0, at1, typed2, ())) K = quoinlaw20_TypingOver_raw base0 at1 typed2 K := by kernel_rfl
--! law 1

def quoinlaw20_TypingOver_R : App := runF tb (getG quoinlaw20_TypingOver_G) quoinlaw20_TypingOver_B1 Try.f6 [true]
theorem quoinlaw20_TypingOver_ok : AppOk Try.prog 6 quoinlaw20_TypingOver_R := runF_ok tb_M tb_ok quoinlaw20_TypingOver_Gok (quoinlaw20_TypingOver_b1) (f := 6) (fn := Try.f6) (by kernel_rfl) (by kernel_rfl) quoinlaw20_TypingOver_st [true]
end Go.VE
namespace Go.VE
open Go Go.Proofs

/-- what is known of the typing while it goes on -/
structure OInv (base : List Int) (p : Int) (y : Ty20) (i : Nat) : Prop where
  kind : y.1 = 82
  start : y.2.1 = p
  one : y.2.2.2.2 = 1
  ok : okB y.2.2.1
  len : y.2.2.1.length ≤ i
  noEnd : 10 ∉ y.2.2.1
  fits : (0 ≤ p ∧ p ≤ base.length) → TFits base y
  out : ¬ (0 ≤ p ∧ p ≤ base.length) → quoinref20_fits_F base y = false

theorem begin_inv {base : List Int} (p : Int) : OInv base p (82, p, [], 0, 1) 0 where
  kind := rfl
  start := rfl
  one := rfl
  ok := ⟨by simp, by simp⟩
  len := Nat.le_refl 0
  noEnd := by simp
  fits := fun h => ⟨.inr rfl, h.1, h.2, by simp, by simp, by simp, by
    show (0 : Int) = quoinref20_covers_F base p []
    have e : quoinref20_covers_F base p [] = mn (quoinref20_others_F []) (quoinref20_room_F base p) := rfl
    have := mn_le (quoinref20_others_F []) (quoinref20_room_F base p)
    have := room_le base h.1 h.2
    have e2 : quoinref20_others_F [] = 0 := rfl
    omega⟩
  out := fun h => by
    cases hf : quoinref20_fits_F base (82, p, [], 0, 1)
    · rfl
    · have := fits_iff.1 hf
      exact absurd ⟨this.lo, this.hi⟩ h

theorem text_key {key : Int} (h0 : 0 ≤ key) (h1 : key ≤ 255) (h10 : key ≠ 10) (h13 : key ≠ 13) (ht : quoinlaw20_text_F key = true) : key ≠ 27 ∧ ¬ (key = 8 ∨ key = 127 ∨ key = 21 ∨ key = 23) ∧ typing_isText_F key = true := by
  have e := of_byte (p := fun x => quoinlaw20_text_F x = (decide (x = 13) || typing_isText_F x)) text_law h0 h1
  have ht2 : typing_isText_F key = true := by rw [ht, decide_eq_false h13] at e; exact e.symm
  refine ⟨fun e27 => ?_, fun hk => ?_, ht2⟩
  · subst e27; exact absurd ht2 (by decide)
  · have := of_byte (p := fun x => (x = 8 ∨ x = 127 ∨ x = 21 ∨ x = 23) → quoinlaw20_text_F x = false) text_not h0 h1 hk
    rw [this] at ht; cases ht

theorem over_step {base : List Int} {p : Int} {y : Ty20} {i : Nat} (hb : base.length ≤ 1048576) (hi : i ≤ 1048576) (h : OInv base p y i) (hp : 0 ≤ p ∧ p ≤ base.length) {key : Int} (h0 : 0 ≤ key) (h1 : key ≤ 255) (h10 : key ≠ 10) (h13 : key ≠ 13) (ht : quoinlaw20_text_F key = true) :
    typing_Press_F base y key = (nextT base y (y.2.2.1 ++ [key]), true, 0) ∧ OInv base p (nextT base y (y.2.2.1 ++ [key])) (i + 1) := by
  obtain ⟨hk, hn, hx⟩ := text_key h0 h1 h10 h13 ht
  have hf := h.fits hp
  have hl := h.len
  have hpr : pressed y.2.2.1 key = some (y.2.2.1 ++ [key]) := by
    unfold pressed
    rw [if_neg hn, if_neg h13, if_pos hx]
  obtain ⟨g1, g2⟩ := next_fits (by omega) h.ok (by omega) hf h0 h1 hpr
  refine ⟨press_some (by omega) h.ok hf hk hpr, h.kind, h.start, h.one, g2, ?_, ?_, fun _ => g1, fun hc => absurd hp hc⟩
  · show (y.2.2.1 ++ [key]).length ≤ i + 1
    rw [List.length_append]; simp only [List.length_cons, List.length_nil]; omega
  · show 10 ∉ y.2.2.1 ++ [key]
    rw [List.mem_append, List.mem_singleton]
    rintro (hm | hm)
    · exact h.noEnd hm
    · exact h10 hm.symm

theorem over_l0 (kr : Bool → Prop) (kx0 : List Int → Int → Ty20 → Prop) (base typed : List Int) (p : Int) (hb : base.length ≤ 1048576) (ht : okB typed) (htl : typed.length ≤ 1048576) : ∀ (d m i : Nat) (y : Ty20), i + d = typed.length → d < m → OInv base p y i →
    kr true → (∀ y, OInv base p y typed.length → kx0 base p y) → quoinlaw20_TypingOver_L0 kr kx0 m base p typed (i : Int) y
  | _, 0, _, _, _, h, _, _, _ => absurd h (Nat.not_lt_zero _)
  | 0, m + 1, i, y, hi, _, h, _, h2 => by
    intro _
    unfold quoinlaw20_TypingOver_T0
    obtain rfl : i = typed.length := by omega
    exact brn (fun hc => absurd hc (by omega)) (fun _ => h2 y h)
  | d + 1, m + 1, i, y, hi, hm, h, h1, h2 => by
    intro _
    unfold quoinlaw20_TypingOver_T0
    have hr := ht.rd (n := i) (by omega)
    have hin : 0 ≤ (i : Int) ∧ (i : Int) < (typed.length : Int) := by omega
    have hw : IntKind.wrap .i64 ((i : Int) + 1) = ((i + 1 : Nat) : Int) := by rw [wrap_i64 (by omega) (by omega)]; omega
    have hmono : OInv base p y (i + 1) := { h with len := Nat.le_succ_of_le h.len }
    rw [hw]
    generalize hkey : rd (0 : Int) typed (i : Int) = key at hr ⊢
    refine brn (fun _ => asrt hin (brn (fun _ => over_l0 kr kx0 base typed p hb ht htl d m (i + 1) y (by omega) (by omega) hmono h1 h2) (fun c10 => asrt hin (brn (fun _ => over_l0 kr kx0 base typed p hb ht htl d m (i + 1) y (by omega) (by omega) hmono h1 h2) (fun c13 => asrt hin fun r3 hr3 _ => ?_))))) (fun c => absurd hin.2 c)
    refine brb (fun _ => over_l0 kr kx0 base typed p hb ht htl d m (i + 1) y (by omega) (by omega) hmono h1 h2) (fun c => asrt hin ?_)
    have htx : quoinlaw20_text_F key = true := by rw [← hr3]; simpa using c
    have hP : typing_Press_P base y key := by show y.2.2.1.length < 1099511627776; have := h.len; omega
    have arm : ∀ r4 : Ty20 × Bool × Int, r4 = typing_Press_F base y key → (bif (decide (p < (0 : Int))) then
              bif (decide (r4.2.2 = (2 : Int))) then kr (!r4.2.1) else kr false
            else bif (decide ((List.length base : Int) < p)) then
              bif (decide (r4.2.2 = (2 : Int))) then kr (!r4.2.1) else kr false
            else bif (!r4.2.1) then kr false
            else bif (!decide (r4.2.2 = (0 : Int))) then kr false
            else quoinlaw20_TypingOver_L0 kr kx0 m base p typed ((i + 1 : Nat) : Int) r4.1) := by
      intro r4 hr4
      by_cases hp : 0 ≤ p ∧ p ≤ base.length
      · obtain ⟨e, g⟩ := over_step hb (by omega) h hp hr.1 hr.2 c10 c13 htx
        rw [hr4, e, decide_eq_false (show ¬ p < 0 by omega), decide_eq_false (show ¬ (base.length : Int) < p by omega)]
        exact over_l0 kr kx0 base typed p hb ht htl d m (i + 1) _ (by omega) (by omega) g h1 h2
      · have e : typing_Press_F base y key = (zeroT, false, 2) := by
          unfold typing_Press_F
          rw [fits_eq (by omega) h.ok, h.out hp]
          rfl
        rw [hr4, e]
        by_cases hneg : p < 0
        · rw [decide_eq_true hneg]; exact h1
        · rw [decide_eq_false hneg, decide_eq_true (show (base.length : Int) < p by omega)]; exact h1
    exact ⟨⟨hP, fun r4 hr4 _ => arm r4 hr4⟩, ⟨hP, fun r5 hr5 _ => arm r5 hr5⟩, trivial⟩

theorem over_l1 (kx2 : List Int → Int → Int → Ty20 → Prop) (base : List Int) (p : Int) (y : Ty20) (hb : base.length ≤ 1048576) : ∀ (d m e : Nat), e + d = base.length → d < m →
    kx2 base p ((e + run10 (base.drop e) : Nat) : Int) y → quoinlaw20_TypingOver_L1 kx2 m base p (e : Int) y
  | _, 0, _, _, h, _ => absurd h (Nat.not_lt_zero _)
  | 0, m + 1, e, hi, _, h => by
    intro _
    unfold quoinlaw20_TypingOver_T1
    refine brn (fun hc => absurd hc (by omega)) (fun _ => ?_)
    rw [List.drop_eq_nil_of_le (by omega)] at h
    exact h
  | d + 1, m + 1, e, hi, hm, h => by
    intro _
    unfold quoinlaw20_TypingOver_T1
    have hlt : e < base.length := by omega
    have hd : base.drop e = rd (0 : Int) base (e : Int) :: base.drop (e + 1) := by rw [rd_nat _ _ _ hlt]; exact List.drop_eq_getElem_cons hlt
    rw [hd, run10_cons] at h
    refine brn (fun _ => asrt (by omega) (brb (fun c => ?_) (fun c => ?_))) (fun c => absurd (by omega) c)
    · have c : ¬ rd (0 : Int) base (e : Int) = 10 := by simpa using c
      rw [wrap_i64 (by omega) (by omega), show (e : Int) + 1 = ((e + 1 : Nat) : Int) by omega]
      rw [if_neg c] at h
      refine over_l1 kx2 base p y hb d m (e + 1) (by omega) (by omega) ?_
      rw [show e + 1 + run10 (base.drop (e + 1)) = e + (run10 (base.drop (e + 1)) + 1) by omega]
      exact h
    · have c : rd (0 : Int) base (e : Int) = 10 := by simpa using c
      rw [if_pos c] at h
      exact h

theorem mx_le (a b : Int) : a ≤ mx a b ∧ b ≤ mx a b ∧ (mx a b = a ∨ mx a b = b) := by
  unfold mx
  by_cases h : a < b
  · rw [decide_eq_true h]; show a ≤ b ∧ b ≤ b ∧ (b = a ∨ b = b); omega
  · rw [decide_eq_false h]; show a ≤ a ∧ b ≤ a ∧ (a = a ∨ a = b); omega

theorem over_true {base typed : List Int} {p : Int} (hb : base.length ≤ 1048576) (ht : okB typed) (htl : typed.length ≤ 1048576) : quoinlaw20_TypingOver_raw base p typed yes := by
  unfold quoinlaw20_TypingOver_raw
  intro r1 hr1 _
  obtain rfl : r1 = true := hr1
  show ∀ r2 : Ty20, _
  intro r2 hr2 _
  obtain rfl : r2 = (82, p, [], 0, 1) := hr2
  intro _
  refine ⟨typed.length + 1, over_l0 _ _ base typed p hb ht htl typed.length _ 0 _ (by omega) (by omega) (begin_inv p) (fun _ => rfl) (fun y h _ => ?_)⟩
  refine brn (fun _ => rfl) (fun c0 => brn (fun _ => rfl) (fun c1 => fun _ => ?_))
  obtain ⟨a, rfl⟩ := Int.eq_ofNat_of_zero_le (show 0 ≤ p by omega)
  have hal : a ≤ base.length := by omega
  refine ⟨base.length + 1, over_l1 _ base (a : Int) y hb (base.length - a) _ a (by omega) (by omega) (fun _ => ⟨show_P (by omega) h.ok, fun r6 hr6 _ => ?_⟩)⟩
  have hf := h.fits ⟨by omega, by omega⟩
  have hl := h.len
  have hrun := run10_le (base.drop a)
  rw [List.length_drop] at hrun
  -- what it stands over
  have hun : y.2.2.2.1 = ((min y.2.2.1.length (run10 (base.drop a)) : Nat) : Int) := by
    rw [hf.under]
    unfold quoinref20_under
    rw [if_neg (by rw [h.kind]; omega)]
    have e : quoinref20_covers_F base y.2.1 y.2.2.1 = mn (quoinref20_others_F y.2.2.1) (quoinref20_room_F base y.2.1) := rfl
    have eo : quoinref20_others_F y.2.2.1 = (y.2.2.1.length : Int) := by
      rw [others_count, List.count_eq_zero.2 h.noEnd]; omega
    have er : quoinref20_room_F base y.2.1 = (run10 (base.drop a) : Int) := by rw [h.start]; rfl
    rw [e, eo, er, mn_nat]
  generalize hu : y.2.2.1 = u at *
  generalize hrr : run10 (base.drop a) = r at *
  have e1 : IntKind.wrap .i64 (((a + r : Nat) : Int) - (a : Int)) = (r : Int) := by rw [wrap_i64 (by omega) (by omega)]; omega
  have e2 : IntKind.wrap .i64 ((u.length : Int) - (r : Int)) = (u.length : Int) - (r : Int) := wrap_i64 (by omega) (by omega)
  have e3 : mx (0 : Int) ((u.length : Int) - (r : Int)) = ((u.length - r : Nat) : Int) := by
    have := mx_le (0 : Int) ((u.length : Int) - (r : Int))
    omega
  have e4 : IntKind.wrap .i64 ((base.length : Int) + ((u.length - r : Nat) : Int)) = (base.length : Int) + ((u.length - r : Nat) : Int) := wrap_i64 (by omega) (by omega)
  have e5 : IntKind.wrap .i64 ((a : Int) + (u.length : Int)) = ((a + u.length : Nat) : Int) := by rw [wrap_i64 (by omega) (by omega)]; omega
  have e6 : IntKind.wrap .i64 (((a + u.length : Nat) : Int) - ((u.length - r : Nat) : Int)) = ((a + min u.length r : Nat) : Int) := by rw [wrap_i64 (by omega) (by omega)]; omega
  rw [e1, e2, e3, e4, e5, e6]
  have hsh : r6 = ((base.take a ++ u) ++ base.drop (a + min u.length r), ((a + u.length : Nat) : Int)) := by
    rw [hr6]
    unfold typing_Show_F
    rw [fits_eq (by omega) h.ok, fits_iff.2 hf]
    show (((([] ++ base).take (Int.toNat y.2.1)) ++ y.2.2.1) ++ base.drop (Int.toNat (IntKind.wrap .i64 (y.2.1 + y.2.2.2.1))), IntKind.wrap .i64 (y.2.1 + (y.2.2.1.length : Int))) = _
    rw [h.start, hu, hun, e5, wrap_i64 (by omega) (by omega), Int.toNat_natCast, show ((a : Int) + ((min u.length r : Nat) : Int)).toNat = a + min u.length r by omega]
    rfl
  have htk : (base.take a).length = a := by rw [List.length_take]; omega
  have hlen : ((base.take a ++ u) ++ base.drop (a + min u.length r)).length = base.length + (u.length - r) := by
    rw [List.length_append, List.length_append, htk, List.length_drop]; omega
  subst hsh
  dsimp only
  rw [hlen]
  refine brb (fun c => ?_) (fun _ => brb (fun c => ?_) (fun _ => brb (fun c => ?_) (fun _ => asrt (by omega) (asrt (by omega) (brn (fun _ => asrt (by omega) (brn (fun _ => asrt (by omega) (asrt (by omega) ?_)) (fun c => absurd ?_ c))) (fun c => absurd ?_ c))))))
  · rw [decide_eq_true (by omega)] at c; cases c
  · rw [decide_eq_true rfl] at c; cases c
  · rw [hun, mn_nat, decide_eq_true rfl] at c; cases c
  · show Res.one (RVal.v .bool (decide _)) = _
    rw [Int.toNat_natCast, Int.toNat_natCast]
    have e : List.drop (a + u.length) ((base.take a ++ u) ++ base.drop (a + min u.length r)) = base.drop (a + min u.length r) := by
      rw [List.drop_append_of_le_length (by rw [List.length_append, htk]; omega), List.drop_eq_nil_of_le (by rw [List.length_append, htk]; omega)]
      rfl
    rw [e, decide_eq_true rfl]
  · unfold slc
    rw [Int.toNat_natCast, Int.toNat_natCast, List.take_append_of_le_length (by rw [List.length_append, htk]; omega), List.take_of_length_le (by rw [List.length_append, htk]; omega), List.drop_append_of_le_length (by omega), List.drop_eq_nil_of_le (by omega)]
    rfl
  · rw [Int.toNat_natCast, List.append_assoc, List.take_append_of_le_length (by omega), List.take_of_length_le (by omega)]

theorem over_law (v : valsA quoinlaw20_TypingOver_A) (hw : wfA quoinlaw20_TypingOver_A v) (hb : bulkA quoinlaw20_TypingOver_A v ≤ 1048576) : quoinlaw20_TypingOver_R (mkA quoinlaw20_TypingOver_A v) yes := by
  obtain ⟨base, p, typed, ⟨⟩⟩ := v
  refine (quoinlaw20_TypingOver_walk base p typed yes).mpr ?_
  obtain ⟨h1, h2, h3, _⟩ := hw
  have hb : bulk (.sl (.int .u8)) base + (1 + (bulk (.sl (.int .u8)) typed + 0)) ≤ 1048576 := hb
  rw [bulk_ints, bulk_ints] at hb
  exact over_true (by omega) (okB_of h3 (by omega)) (by omega)
end Go.VE
