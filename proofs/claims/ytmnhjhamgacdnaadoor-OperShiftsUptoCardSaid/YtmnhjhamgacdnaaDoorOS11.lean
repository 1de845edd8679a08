/- OperShifts: whatever the input, up to the bulk that the statement names, the law answers true, and what was handed in reads as it did. Its conditions: the bound of the given statement and the tables that its card ties, no other. -/
import Derived.Test.YtmnhjhamgacdnaaDoorOS10
import Derived.Test.YtmnhjhamgacdnaaDoorProg
set_option linter.unusedVariables false
set_option linter.unusedSectionVars false
set_option linter.unusedSimpArgs false
namespace Go.VE
abbrev EfT : Ty := .st (.pair (.sl (.st (.pair (.int .i64) (.pair (.sl (.int .u8)) (.sl (.int .u8)))))) (.pair (.int .i64) (.pair (.st (.pair (.bool) (.pair (.bool) (.sl (.int .u8))))) (.pair (.int .i64) (.bool)))))
abbrev EoT : Ty := .st (.pair (.osl 95 (.st (.pair (.int .i64) (.pair (.sl (.int .u8)) (.sl (.int .u8)))))) (.pair (.int .i64) (.pair (.st (.pair (.bool) (.pair (.bool) (.sl (.int .u8))))) (.pair (.int .i64) (.bool)))))
abbrev JbT : Ty := .st (.pair (.sl (.int .u8)) (.pair (.int .i64) (.pair (.st (.pair (.int .i64) (.pair (.int .i64) (.pair (.bool) (.bool))))) (.pair (.int .i64) (.pair (.int .i64) (.int .i64))))))
abbrev EfD : Type := List ((Int × List Int × List Int)) × Int × (Bool × Bool × List Int) × Int × Bool
abbrev JbD : Type := List Int × Int × (Int × Int × Bool × Bool) × Int × Int × Int
abbrev EdL : Type := List ((Int × List Int × List Int))
open Go Go.Proofs
instance : Glob where
  ok _ _ := True
  keep := fun _ h => h
def tb : Tab := [(3, ⟨.int .i64, 0, [], 8⟩), (4, ⟨.bool, 0, [], 1⟩), (5, ⟨.int .u8, 0, [], 1⟩), (9, ⟨.str, 0, [], 16⟩), (21, ⟨.int .i32, 0, [], 4⟩), (22, ⟨.sl (.int .u8), 5, [], 24⟩), (28, ⟨.int .i64, 0, [], 8⟩), (43, ⟨.st (.pair (.bool) (.pair (.bool) (.sl (.int .u8)))), 0, [], 32⟩), (45, ⟨.st (.pair (.int .i64) (.pair (.int .i64) (.pair (.st (.pair (.bool) (.pair (.bool) (.sl (.int .u8))))) (.bool)))), 0, [], 56⟩), (46, ⟨.sl (.st (.pair (.int .i64) (.pair (.sl (.int .u8)) (.sl (.int .u8))))), 95, [], 24⟩), (48, ⟨.st (.pair (.sl (.st (.pair (.int .i64) (.pair (.sl (.int .u8)) (.sl (.int .u8)))))) (.pair (.int .i64) (.pair (.st (.pair (.bool) (.pair (.bool) (.sl (.int .u8))))) (.pair (.int .i64) (.bool))))), 0, [], 80⟩), (56, ⟨.sl (.sl (.int .u8)), 22, [], 24⟩), (60, ⟨.st (.pair (.int .i64) (.pair (.int .i64) (.bool))), 1, [], 24⟩), (65, ⟨.st (.pair (.int .i64) (.pair (.int .i64) (.pair (.bool) (.bool)))), 1, [], 24⟩), (77, ⟨.st (.pair (.int .i64) (.pair (.int .i64) (.pair (.str) (.st (.pair (.int .i64) (.pair (.int .i64) (.pair (.bool) (.bool)))))))), 0, [], 56⟩), (79, ⟨.st (.pair (.int .i64) (.pair (.int .i64) (.pair (.int .i64) (.pair (.int .u8) (.str))))), 1, [], 48⟩), (81, ⟨.st (.pair (.st (.pair (.int .i64) (.pair (.int .i64) (.pair (.str) (.st (.pair (.int .i64) (.pair (.int .i64) (.pair (.bool) (.bool))))))))) (.pair (.st (.pair (.int .i64) (.pair (.int .i64) (.pair (.st (.pair (.bool) (.pair (.bool) (.sl (.int .u8))))) (.bool))))) (.st (.pair (.int .i64) (.pair (.int .i64) (.pair (.int .i64) (.pair (.int .u8) (.str)))))))), 0, [], 160⟩), (95, ⟨.st (.pair (.int .i64) (.pair (.sl (.int .u8)) (.sl (.int .u8)))), 0, [], 56⟩), (113, ⟨.st (.pair (.sl (.int .u8)) (.pair (.int .i64) (.pair (.st (.pair (.int .i64) (.pair (.int .i64) (.pair (.bool) (.bool))))) (.pair (.int .i64) (.pair (.int .i64) (.int .i64)))))), 0, [], 80⟩), (133, ⟨.int .u64, 0, [], 8⟩), (140, ⟨.sl (.int .i64), 3, [], 24⟩), (147, ⟨.int .u64, 0, [], 8⟩), (152, ⟨.int .u32, 0, [], 4⟩), (195, ⟨.st (.pair (.int .u8) (.int .u8)), 1, [], 2⟩)]
theorem tb_M : Tryd.prog.follows .mixedOrders = true := by kernel_rfl
theorem ty_3 : TySem Tryd.prog tb 3 ⟨.int .i64, 0, [], 8⟩ := TySem.ofInt (by kernel_rfl) (by kernel_rfl) rfl
theorem ty_4 : TySem Tryd.prog tb 4 ⟨.bool, 0, [], 1⟩ := TySem.ofBool (by kernel_rfl) (by kernel_rfl) rfl
theorem ty_5 : TySem Tryd.prog tb 5 ⟨.int .u8, 0, [], 1⟩ := TySem.ofInt (by kernel_rfl) (by kernel_rfl) rfl
theorem ty_9 : TySem Tryd.prog tb 9 ⟨.str, 0, [], 16⟩ := TySem.ofStr (by kernel_rfl) (by kernel_rfl) rfl
theorem ty_21 : TySem Tryd.prog tb 21 ⟨.int .i32, 0, [], 4⟩ := TySem.ofInt (by kernel_rfl) (by kernel_rfl) rfl
theorem ty_22 : TySem Tryd.prog tb 22 ⟨.sl (.int .u8), 5, [], 24⟩ := TySem.ofSl (by kernel_rfl) (by kernel_rfl) rfl (by kernel_rfl)
theorem ty_28 : TySem Tryd.prog tb 28 ⟨.int .i64, 0, [], 8⟩ := TySem.ofInt (by kernel_rfl) (by kernel_rfl) rfl
theorem ty_43 : TySem Tryd.prog tb 43 ⟨.st (.pair (.bool) (.pair (.bool) (.sl (.int .u8)))), 0, [], 32⟩ := TySem.ofSt (c := 3) (by kernel_rfl) (by kernel_rfl) (by kernel_rfl) rfl (by kernel_rfl)
theorem ty_45 : TySem Tryd.prog tb 45 ⟨.st (.pair (.int .i64) (.pair (.int .i64) (.pair (.st (.pair (.bool) (.pair (.bool) (.sl (.int .u8))))) (.bool)))), 0, [], 56⟩ := TySem.ofSt (c := 6) (by kernel_rfl) (by kernel_rfl) (by kernel_rfl) rfl (by kernel_rfl)
theorem ty_46 : TySem Tryd.prog tb 46 ⟨.sl (.st (.pair (.int .i64) (.pair (.sl (.int .u8)) (.sl (.int .u8))))), 95, [], 24⟩ := TySem.ofSl (by kernel_rfl) (by kernel_rfl) rfl (by kernel_rfl)
theorem ty_48 : TySem Tryd.prog tb 48 ⟨.st (.pair (.sl (.st (.pair (.int .i64) (.pair (.sl (.int .u8)) (.sl (.int .u8)))))) (.pair (.int .i64) (.pair (.st (.pair (.bool) (.pair (.bool) (.sl (.int .u8))))) (.pair (.int .i64) (.bool))))), 0, [], 80⟩ := TySem.ofSt (c := 7) (by kernel_rfl) (by kernel_rfl) (by kernel_rfl) rfl (by kernel_rfl)
theorem ty_56 : TySem Tryd.prog tb 56 ⟨.sl (.sl (.int .u8)), 22, [], 24⟩ := TySem.ofSl (by kernel_rfl) (by kernel_rfl) rfl (by kernel_rfl)
theorem ty_60 : TySem Tryd.prog tb 60 ⟨.st (.pair (.int .i64) (.pair (.int .i64) (.bool))), 1, [], 24⟩ := TySem.ofStE (c := 3) (by kernel_rfl) (by kernel_rfl) (by kernel_rfl) rfl (by kernel_rfl) (by kernel_rfl)
theorem ty_65 : TySem Tryd.prog tb 65 ⟨.st (.pair (.int .i64) (.pair (.int .i64) (.pair (.bool) (.bool)))), 1, [], 24⟩ := TySem.ofStE (c := 4) (by kernel_rfl) (by kernel_rfl) (by kernel_rfl) rfl (by kernel_rfl) (by kernel_rfl)
theorem ty_77 : TySem Tryd.prog tb 77 ⟨.st (.pair (.int .i64) (.pair (.int .i64) (.pair (.str) (.st (.pair (.int .i64) (.pair (.int .i64) (.pair (.bool) (.bool)))))))), 0, [], 56⟩ := TySem.ofSt (c := 7) (by kernel_rfl) (by kernel_rfl) (by kernel_rfl) rfl (by kernel_rfl)
theorem ty_79 : TySem Tryd.prog tb 79 ⟨.st (.pair (.int .i64) (.pair (.int .i64) (.pair (.int .i64) (.pair (.int .u8) (.str))))), 1, [], 48⟩ := TySem.ofStE (c := 5) (by kernel_rfl) (by kernel_rfl) (by kernel_rfl) rfl (by kernel_rfl) (by kernel_rfl)
theorem ty_81 : TySem Tryd.prog tb 81 ⟨.st (.pair (.st (.pair (.int .i64) (.pair (.int .i64) (.pair (.str) (.st (.pair (.int .i64) (.pair (.int .i64) (.pair (.bool) (.bool))))))))) (.pair (.st (.pair (.int .i64) (.pair (.int .i64) (.pair (.st (.pair (.bool) (.pair (.bool) (.sl (.int .u8))))) (.bool))))) (.st (.pair (.int .i64) (.pair (.int .i64) (.pair (.int .i64) (.pair (.int .u8) (.str)))))))), 0, [], 160⟩ := TySem.ofSt (c := 18) (by kernel_rfl) (by kernel_rfl) (by kernel_rfl) rfl (by kernel_rfl)
theorem ty_95 : TySem Tryd.prog tb 95 ⟨.st (.pair (.int .i64) (.pair (.sl (.int .u8)) (.sl (.int .u8)))), 0, [], 56⟩ := TySem.ofSt (c := 3) (by kernel_rfl) (by kernel_rfl) (by kernel_rfl) rfl (by kernel_rfl)
theorem ty_113 : TySem Tryd.prog tb 113 ⟨.st (.pair (.sl (.int .u8)) (.pair (.int .i64) (.pair (.st (.pair (.int .i64) (.pair (.int .i64) (.pair (.bool) (.bool))))) (.pair (.int .i64) (.pair (.int .i64) (.int .i64)))))), 0, [], 80⟩ := TySem.ofSt (c := 9) (by kernel_rfl) (by kernel_rfl) (by kernel_rfl) rfl (by kernel_rfl)
theorem ty_133 : TySem Tryd.prog tb 133 ⟨.int .u64, 0, [], 8⟩ := TySem.ofInt (by kernel_rfl) (by kernel_rfl) rfl
theorem ty_140 : TySem Tryd.prog tb 140 ⟨.sl (.int .i64), 3, [], 24⟩ := TySem.ofSl (by kernel_rfl) (by kernel_rfl) rfl (by kernel_rfl)
theorem ty_147 : TySem Tryd.prog tb 147 ⟨.int .u64, 0, [], 8⟩ := TySem.ofInt (by kernel_rfl) (by kernel_rfl) rfl
theorem ty_152 : TySem Tryd.prog tb 152 ⟨.int .u32, 0, [], 4⟩ := TySem.ofInt (by kernel_rfl) (by kernel_rfl) rfl
theorem ty_195 : TySem Tryd.prog tb 195 ⟨.st (.pair (.int .u8) (.int .u8)), 1, [], 2⟩ := TySem.ofStE (c := 2) (by kernel_rfl) (by kernel_rfl) (by kernel_rfl) rfl (by kernel_rfl) (by kernel_rfl)
theorem tb_ok : TabOk Tryd.prog tb := TabOk.of (all_cons ty_3 (all_cons ty_4 (all_cons ty_5 (all_cons ty_9 (all_cons ty_21 (all_cons ty_22 (all_cons ty_28 (all_cons ty_43 (all_cons ty_45 (all_cons ty_46 (all_cons ty_48 (all_cons ty_56 (all_cons ty_60 (all_cons ty_65 (all_cons ty_77 (all_cons ty_79 (all_cons ty_81 (all_cons ty_95 (all_cons ty_113 (all_cons ty_133 (all_cons ty_140 (all_cons ty_147 (all_cons ty_152 (all_cons ty_195 (all_nil)))))))))))))))))))))))))
end Go.VE
namespace Go.VE
open Go Go.Proofs
--! external 1
--! args B U
--! res I
--! pre 0
--! import VEr
def ib_IndexByte_F (xs : List Int) (c : Int) : Int := idxB xs c
def ib_IndexByte_S : App := specW sliceByte_A fun v K => ∀ r : Int, r = ib_IndexByte_F v.1 v.2.1 → K (.one (.v (.int .i64) r)) []
theorem ib_IndexByte_ok : AppOk Tryd.prog 84 ib_IndexByte_S :=
  ext_indexByte (fn := Tryd.f84) (by kernel_rfl) (by kernel_rfl) (by kernel_rfl) (by kernel_rfl) (by kernel_rfl)

end Go.VE
namespace Go.VE
open Go Go.Proofs
/-! ### bytes.IndexByte -/
def bytes_IndexByte_G : List (Nat × App) := [(84, ib_IndexByte_S)]
theorem bytes_IndexByte_Gok : GOk Tryd.prog (getG bytes_IndexByte_G) := GOk.cons ib_IndexByte_ok (GOk.nil)
def bytes_IndexByte_raw (b0 : List Int) (c1 : Int) (K : Res → List Cell → Prop) : Prop :=
 ∀ (r1 : Int), r1 = ib_IndexByte_F b0 c1 → (
 wfR (.one (.v (.int .i64) r1)) → (
 K (.one (.v (.int .i64) r1)) []))
def bytes_IndexByte_A : List AS := [.v (.sl (.int .u8)), .v (.int .u8)]
theorem bytes_IndexByte_walk (b0 : List Int) (c1 : Int) (K : Res → List Cell → Prop) : runF tb (getG bytes_IndexByte_G) [] Tryd.f43 [true] (mkA bytes_IndexByte_A (b0, c1, ())) K = bytes_IndexByte_raw b0 c1 K := by kernel_rfl

def bytes_IndexByte_F (b0 : List Int) (c1 : Int) : Int :=
 let r1 : Int := ib_IndexByte_F b0 c1
 r1
set_option maxRecDepth 20000 in
theorem bytes_IndexByte_sp (b0 : List Int) (c1 : Int) (K : Res → List Cell → Prop) (_ : wfA bytes_IndexByte_A (b0, c1, ())) (h : ∀ r : Int, r = bytes_IndexByte_F b0 c1 → K (.one (.v (.int .i64) r)) []) : bytes_IndexByte_raw b0 c1 K := by
  unfold bytes_IndexByte_raw
  intro r1 hr1
  subst r1
  intro _
  exact h _ rfl
def bytes_IndexByte_C (v : valsA bytes_IndexByte_A) (K : Res → List Cell → Prop) : Prop := ∀ r : Int, r = bytes_IndexByte_F v.1 v.2.1 → K (.one (.v (.int .i64) r)) []
def bytes_IndexByte_S : App := specW bytes_IndexByte_A bytes_IndexByte_C
theorem bytes_IndexByte_wv (K : Res → List Cell → Prop) : ∀ v : valsA bytes_IndexByte_A, runF tb (getG bytes_IndexByte_G) [] Tryd.f43 [true] (mkA bytes_IndexByte_A v) K = bytes_IndexByte_raw v.1 v.2.1 K
  | (b0, c1, ()) => bytes_IndexByte_walk b0 c1 K
set_option maxRecDepth 20000 in
theorem bytes_IndexByte_ok : AppOk Tryd.prog 43 bytes_IndexByte_S :=
  AppOk.specW (spec_ok ((runF_ok tb_M tb_ok bytes_IndexByte_Gok (LabsOk.nil) (f := 43) (fn := Tryd.f43) (by kernel_rfl) (by kernel_rfl) (by kernel_rfl) [true])) fun v K hw h => (bytes_IndexByte_wv K v).mpr (bytes_IndexByte_sp v.1 v.2.1 K hw h))

end Go.VE
namespace Go.VE
open Go Go.Proofs
/-! ### quoin/lines.Start -/
def lines_Start_G : List (Nat × App) := [(43, bytes_IndexByte_S)]
theorem lines_Start_Gok : GOk Tryd.prog (getG lines_Start_G) := GOk.cons bytes_IndexByte_ok (GOk.nil)
theorem lines_Start_st : storesC (bodyOf Tryd.f31) = true := by kernel_rfl
def lines_Start_d0 : List LS := [.v 0 (.sl (.int .u8)), .v 1 (.int .i64), .v 6 (.int .i64)]
def lines_Start_d0r : List LS := [.v 4 (.int .i64), .v 5 (.int .i64)]
def lines_Start_d0x0 : List LS := [.v 6 (.int .i64)]
def lines_Start_dx0 : DX := ⟨none, some lines_Start_d0r, [(0, lines_Start_d0x0)]⟩
def lines_Start_T0 (Y : List Int → Int → Int → Prop) (kr : Int → Int → Prop) (kx0 : Int → Prop) (t0 : List Int) (line1 : Int) (at6 : Int) : Prop :=
 bif (decide ((0 : Int) < line1)) then
 bif decide (0 ≤ at6 ∧ at6 ≤ (List.length t0 : Int)) then
 ∀ (r1 : Int), r1 = bytes_IndexByte_F (List.drop (Int.toNat at6) t0) (10 : Int) → (
 wfR (.one (.v (.int .i64) r1)) → (
 bif (decide (r1 < (0 : Int))) then
 kr (0 : Int) (2 : Int)
 else
 Y t0 (IntKind.wrap .i64 (line1 - (1 : Int))) (IntKind.wrap .i64 (at6 + (IntKind.wrap .i64 (r1 + (1 : Int)))))))
 else False
 else
 kx0 at6
def lines_Start_L0 (kr : Int → Int → Prop) (kx0 : Int → Prop) : Nat → List Int → Int → Int → Prop
  | 0, _, _, _ => False
  | n + 1, t0, line1, at6 => wfD lines_Start_d0 (t0, line1, at6, ()) → lines_Start_T0 (lines_Start_L0 kr kx0 n) kr kx0 t0 line1 at6
theorem lines_Start_s0 (k : Ex → St → Prop) (Y : vals lines_Start_d0 → Prop) (t0 : List Int) (line1 : Int) (at6 : Int) :
    ex tb (getG lines_Start_G) [] (at' (bodyOf Tryd.f31) [0, 0, 0, 1, 1, 1]) [0, 0, 0, 1, 1, 1] (mkD 25 lines_Start_d0 (t0, line1, at6, ())) (lpK 25 lines_Start_d0 lines_Start_dx0 k Y) =
    lines_Start_T0 (fun t0 line1 at6 => Y (t0, line1, at6, ())) (fun x4 x5 => wfD lines_Start_d0r (x4, x5, ()) → k .ret (mkD 25 lines_Start_d0r (x4, x5, ()))) (fun at6 => wfD lines_Start_d0x0 (at6, ()) → k (.exit 0) (mkD 25 lines_Start_d0x0 (at6, ()))) t0 line1 at6 := by kernel_rfl
theorem lines_Start_e0 (k : Ex → St → Prop) : ∀ (n : Nat) (t0 : List Int) (line1 : Int) (at6 : Int), lpD 25 lines_Start_d0 lines_Start_dx0 (ex tb (getG lines_Start_G) [] (at' (bodyOf Tryd.f31) [0, 0, 0, 1, 1, 1]) [0, 0, 0, 1, 1, 1]) k n (t0, line1, at6, ()) = lines_Start_L0 (fun x4 x5 => wfD lines_Start_d0r (x4, x5, ()) → k .ret (mkD 25 lines_Start_d0r (x4, x5, ()))) (fun at6 => wfD lines_Start_d0x0 (at6, ()) → k (.exit 0) (mkD 25 lines_Start_d0x0 (at6, ()))) n t0 line1 at6
  | 0, _, _, _ => rfl
  | n + 1, t0, line1, at6 => congrArg (fun Z : Prop => wfD lines_Start_d0 (t0, line1, at6, ()) → Z) ((lines_Start_s0 k (lpD 25 lines_Start_d0 lines_Start_dx0 (ex tb (getG lines_Start_G) [] (at' (bodyOf Tryd.f31) [0, 0, 0, 1, 1, 1]) [0, 0, 0, 1, 1, 1]) k n) t0 line1 at6).trans (congrArg (fun Y => lines_Start_T0 Y (fun x4 x5 => wfD lines_Start_d0r (x4, x5, ()) → k .ret (mkD 25 lines_Start_d0r (x4, x5, ()))) (fun at6 => wfD lines_Start_d0x0 (at6, ()) → k (.exit 0) (mkD 25 lines_Start_d0x0 (at6, ()))) t0 line1 at6) (funext fun t0 => funext fun line1 => funext fun at6 => lines_Start_e0 k n t0 line1 at6)))
theorem lines_Start_v0 (k : Ex → St → Prop) (n : Nat) : ∀ v : vals lines_Start_d0, lpD 25 lines_Start_d0 lines_Start_dx0 (ex tb (getG lines_Start_G) [] (at' (bodyOf Tryd.f31) [0, 0, 0, 1, 1, 1]) [0, 0, 0, 1, 1, 1]) k n v = lines_Start_L0 (fun x4 x5 => wfD lines_Start_d0r (x4, x5, ()) → k .ret (mkD 25 lines_Start_d0r (x4, x5, ()))) (fun at6 => wfD lines_Start_d0x0 (at6, ()) → k (.exit 0) (mkD 25 lines_Start_d0x0 (at6, ()))) n v.1 v.2.1 v.2.2.1
  | (t0, line1, at6, ()) => lines_Start_e0 k n t0 line1 at6
def lines_Start_X0 : Pce := fun st k => ckD 25 lines_Start_d0 st fun v => wfD lines_Start_d0 v → ∃ n, lines_Start_L0 (fun x4 x5 => wfD lines_Start_d0r (x4, x5, ()) → k .ret (mkD 25 lines_Start_d0r (x4, x5, ()))) (fun at6 => wfD lines_Start_d0x0 (at6, ()) → k (.exit 0) (mkD 25 lines_Start_d0x0 (at6, ()))) n v.1 v.2.1 v.2.2.1
set_option maxRecDepth 20000 in
theorem lines_Start_x0 : SemOk Tryd.prog (at' (bodyOf Tryd.f31) [0, 0, 1, 1, 1]) lines_Start_X0 :=
  (SemOk.loop (ex_sound tb_M tb_ok lines_Start_Gok (LabsOk.nil) (at' (bodyOf Tryd.f31) [0, 0, 0, 1, 1, 1]) [0, 0, 0, 1, 1, 1] rfl (storesC_at lines_Start_st [0, 0, 0, 1, 1, 1])) 25 lines_Start_d0 lines_Start_dx0).mono fun st k h => ckD_mono h fun v hv hw => (hv hw).elim fun n hn => ⟨n, Eq.mpr (lines_Start_v0 k n v) hn⟩
def lines_Start_B0 : Labs := ([0, 0, 1, 1, 1], lines_Start_X0) :: []
theorem lines_Start_b0 : LabsOk Tryd.prog (bodyOf Tryd.f31) lines_Start_B0 := LabsOk.cons lines_Start_x0 (LabsOk.nil)
def lines_Start_raw (t0 : List Int) (line1 : Int) (K : Res → List Cell → Prop) : Prop :=
 bif (decide (line1 < (0 : Int))) then
 K (.tup [.v (.int .i64) (0 : Int), .v (.int .i64) (2 : Int)]) []
 else
 (wfD lines_Start_d0 (t0, line1, (0 : Int), ()) → ∃ n, lines_Start_L0 (fun (x4 : Int) (x5 : Int) => wfD lines_Start_d0r (x4, x5, ()) → (
 K (.tup [.v (.int .i64) x4, .v (.int .i64) x5]) [])) (fun (at6 : Int) => wfD lines_Start_d0x0 (at6, ()) → (
 K (.tup [.v (.int .i64) at6, .v (.int .i64) (0 : Int)]) [])) n t0 line1 (0 : Int))
def lines_Start_A : List AS := [.v (.sl (.int .u8)), .v (.int .i64)]
theorem lines_Start_walk (t0 : List Int) (line1 : Int) (K : Res → List Cell → Prop) : runF tb (getG lines_Start_G) lines_Start_B0 Tryd.f31 [true, true] (mkA lines_Start_A (t0, line1, ())) K = lines_Start_raw t0 line1 K := by kernel_rfl
--! pre 0
def goLine (t : List Int) : Nat → Nat → Option Nat
  | 0, p => some p
  | n + 1, p => if idxB (t.drop p) 10 < 0 then none else goLine t n (p + (idxB (t.drop p) 10).toNat + 1)
def lines_Start_F (t : List Int) (line : Int) : Int × Int :=
 if line < 0 then (0, 2) else match goLine t line.toNat 0 with
 | some p => ((p : Int), 0)
 | none => (0, 2)
theorem idxB_lt (xs : List Int) (c : Int) : -1 ≤ idxB xs c ∧ idxB xs c < xs.length ∨ xs = [] ∧ idxB xs c = -1 := by
  unfold idxB
  split
  · rename_i h; have := List.idxOf_lt_length_of_mem h; omega
  · cases xs with
    | nil => exact .inr ⟨rfl, rfl⟩
    | cons a l => left; simp only [List.length_cons]; omega
theorem lines_Start_l0 (kr : Int → Int → Prop) (kx0 : Int → Prop) (t : List Int) (ht : t.length ≤ 9223372036854775807) : ∀ (n m p : Nat), n ≤ 9223372036854775807 → p ≤ t.length → n < m →
    (goLine t n p = none → kr 0 2) → (∀ q, goLine t n p = some q → kx0 (q : Int)) → lines_Start_L0 kr kx0 m t (n : Int) (p : Int)
  | _, 0, _, _, _, h, _, _ => absurd h (Nat.not_lt_zero _)
  | 0, m + 1, p, _, _, _, _, h2 => by
    intro _
    unfold lines_Start_T0
    exact brn (fun h => absurd h (by omega)) (fun _ => h2 p rfl)
  | n + 1, m + 1, p, hn, hp, hm, h1, h2 => by
    intro _
    unfold lines_Start_T0
    refine brn (fun _ => asrt (by omega) fun r hr _ => ?_) (fun h => absurd (by omega) h)
    have hr : r = idxB (t.drop p) 10 := by rw [hr]; simp [bytes_IndexByte_F, ib_IndexByte_F]
    have hb := idxB_lt (t.drop p) 10
    rw [List.length_drop] at hb
    rw [← hr] at hb
    refine brn (fun h => h1 ?_) (fun h => ?_)
    · unfold goLine; rw [← hr, if_pos h]
    · have hd : r < (t.length : Int) - p := by
        rcases hb with hb | ⟨_, hb⟩ <;> omega
      rw [wrap_i64 (n := r + 1) (by omega) (by omega), wrap_i64 (by omega) (by omega), wrap_i64 (by omega) (by omega)]
      have e1 : ((n + 1 : Nat) : Int) - 1 = (n : Int) := by omega
      have e2 : (p : Int) + (r + 1) = ((p + r.toNat + 1 : Nat) : Int) := by omega
      rw [e1, e2]
      have e3 : goLine t (n + 1) p = goLine t n (p + r.toNat + 1) := by conv => lhs; unfold goLine; rw [← hr, if_neg h]
      exact lines_Start_l0 kr kx0 t ht n m (p + r.toNat + 1) (by omega) (by omega) (by omega) (fun hh => h1 (by rw [e3]; exact hh)) (fun q hh => h2 q (by rw [e3]; exact hh))
theorem lines_Start_sp (t : List Int) (line : Int) (K : Res → List Cell → Prop) (hw : wfA lines_Start_A (t, line, ())) (h : ∀ r : Int × Int, r = lines_Start_F t line → K (.tup [.v (.int .i64) r.1, .v (.int .i64) r.2]) []) : lines_Start_raw t line K := by
  have ht : t.length ≤ 9223372036854775807 := hw.1.1
  have hl : line ≤ 9223372036854775807 := hw.2.1.2
  unfold lines_Start_raw
  refine brn (fun hn => h (0, 2) (by unfold lines_Start_F; rw [if_pos hn])) (fun hn _ => ?_)
  refine ⟨line.toNat + 1, ?_⟩
  have e : line = (line.toNat : Int) := by omega
  have key := fun kr kx0 h1 h2 => lines_Start_l0 kr kx0 t ht line.toNat (line.toNat + 1) 0 (by omega) (Nat.zero_le _) (Nat.lt_succ_self _) h1 h2
  rw [← e] at key
  refine key _ _ (fun hg _ => h (0, 2) ?_) (fun q hg _ => h ((q : Int), 0) ?_)
  · unfold lines_Start_F; rw [if_neg hn, hg]
  · unfold lines_Start_F; rw [if_neg hn, hg]

def lines_Start_C (v : valsA lines_Start_A) (K : Res → List Cell → Prop) : Prop := ∀ r : Int × Int, r = lines_Start_F v.1 v.2.1 → K (.tup [.v (.int .i64) r.1, .v (.int .i64) r.2]) []
def lines_Start_S : App := specW lines_Start_A lines_Start_C
theorem lines_Start_wv (K : Res → List Cell → Prop) : ∀ v : valsA lines_Start_A, runF tb (getG lines_Start_G) lines_Start_B0 Tryd.f31 [true, true] (mkA lines_Start_A v) K = lines_Start_raw v.1 v.2.1 K
  | (t0, line1, ()) => lines_Start_walk t0 line1 K
set_option maxRecDepth 20000 in
theorem lines_Start_ok : AppOk Tryd.prog 31 lines_Start_S :=
  AppOk.specW (spec_ok ((runF_ok tb_M tb_ok lines_Start_Gok (lines_Start_b0) (f := 31) (fn := Tryd.f31) (by kernel_rfl) (by kernel_rfl) lines_Start_st [true, true])) fun v K hw h => (lines_Start_wv K v).mpr (lines_Start_sp v.1 v.2.1 K hw h))
theorem goLine_le (t : List Int) : ∀ (n p q : Nat), p ≤ t.length → goLine t n p = some q → q ≤ t.length
  | 0, p, q, hp, h => by simp only [goLine, Option.some.injEq] at h; omega
  | n + 1, p, q, hp, h => by
    unfold goLine at h
    have hb := idxB_lt (t.drop p) 10
    rw [List.length_drop] at hb
    split at h
    · cases h
    · exact goLine_le t n _ q (by rcases hb with hb | ⟨_, hb⟩ <;> omega) h
theorem lines_Start_F_le (t : List Int) (n : Int) : 0 ≤ (lines_Start_F t n).1 ∧ (lines_Start_F t n).1 ≤ t.length := by
  unfold lines_Start_F
  split
  · simp
  · split
    · rename_i q hq; have := goLine_le t _ 0 q (Nat.zero_le _) hq; simp only; omega
    · simp

end Go.VE
namespace Go.VE
def cnt (l : List Int) : Nat := l.count 10
def Begins (t : List Int) (n p : Nat) : Prop := p ≤ t.length ∧ cnt (t.take p) = n ∧ (p = 0 ∨ t[p - 1]? = some 10)

theorem cnt_append (a b : List Int) : cnt (a ++ b) = cnt a + cnt b := List.count_append
theorem cnt_nil : cnt [] = 0 := rfl
theorem cnt_take_le (t : List Int) {p q : Nat} (h : p ≤ q) : cnt (t.take p) ≤ cnt (t.take q) :=
  List.Sublist.count_le _ (List.take_sublist_take_left h)
theorem cnt_take_all (t : List Int) (p : Nat) : cnt (t.take p) ≤ cnt t := List.Sublist.count_le _ (List.take_sublist p t)
theorem cnt_split (t : List Int) (p : Nat) : cnt t = cnt (t.take p) + cnt (t.drop p) := by
  rw [← cnt_append, List.take_append_drop]
theorem cnt_take_succ {t : List Int} {p : Nat} (h : t[p]? = some 10) : cnt (t.take (p + 1)) = cnt (t.take p) + 1 := by
  rw [List.take_add_one, h, cnt_append]; rfl
theorem cnt_pos {t : List Int} {p : Nat} (h : t[p]? = some 10) : 0 < cnt t := by
  have := cnt_take_all t (p + 1); rw [cnt_take_succ h] at this; omega

theorem Begins.uniq {t : List Int} {n p q : Nat} (hp : Begins t n p) (hq : Begins t n q) : p = q := by
  have key : ∀ {p q : Nat}, Begins t n p → Begins t n q → ¬ p < q := by
    rintro p q ⟨h1, h2, h3⟩ ⟨h4, h5, h6⟩ hlt
    rcases h6 with h6 | h6
    · omega
    · have e : q = q - 1 + 1 := by omega
      rw [e, cnt_take_succ h6] at h5
      have := cnt_take_le t (show p ≤ q - 1 by omega)
      omega
  rcases Nat.lt_trichotomy p q with h | h | h
  · exact absurd h (key hp hq)
  · exact h
  · exact absurd h (key hq hp)

theorem Begins.lt {t : List Int} {n m p q : Nat} (hp : Begins t n p) (hq : Begins t m q) (h : n < m) : p < q := by
  obtain ⟨h1, h2, h3⟩ := hp
  obtain ⟨h4, h5, h6⟩ := hq
  rcases Nat.lt_or_ge p q with h7 | h7
  · exact h7
  · have := cnt_take_le t h7; omega
theorem Begins.le {t : List Int} {n m p q : Nat} (hp : Begins t n p) (hq : Begins t m q) (h : n ≤ m) : p ≤ q := by
  rcases Nat.lt_or_eq_of_le h with h | h
  · exact Nat.le_of_lt (hp.lt hq h)
  · subst h; exact Nat.le_of_eq (hp.uniq hq)
theorem Begins.zero (t : List Int) : Begins t 0 0 := ⟨Nat.zero_le _, by simp [cnt], .inl rfl⟩
theorem Begins.cnt_le {t : List Int} {n p : Nat} (h : Begins t n p) : n ≤ cnt t := by rw [← h.2.1]; exact cnt_take_all t p
theorem Begins.pos {t : List Int} {n p : Nat} (h : Begins t n p) (hn : 0 < n) : 0 < p ∧ t[p - 1]? = some 10 := by
  rcases h.2.2 with h1 | h1
  · have := h.2.1; rw [h1] at this; simp [cnt] at this; omega
  · refine ⟨?_, h1⟩
    rcases Nat.eq_zero_or_pos p with h2 | h2
    · have := h.2.1; rw [h2] at this; simp [cnt] at this; omega
    · exact h2
theorem Begins.of_ten {t : List Int} {p : Nat} (h : t[p]? = some 10) : Begins t (cnt (t.take p) + 1) (p + 1) := by
  have : p < t.length := by
    rcases Nat.lt_or_ge p t.length with h1 | h1
    · exact h1
    · rw [List.getElem?_eq_none h1] at h; cases h
  exact ⟨this, cnt_take_succ h, .inr (by simpa using h)⟩

theorem idxB_none {xs : List Int} {c : Int} (h : idxB xs c < 0) : c ∉ xs := by
  unfold idxB at h; split at h
  · omega
  · assumption
theorem idxB_some {xs : List Int} {c : Int} (h : ¬ idxB xs c < 0) : c ∈ xs ∧ idxB xs c = (xs.idxOf c : Int) := by
  unfold idxB at h ⊢; split at h
  · rename_i h1; exact ⟨h1, by rw [if_pos h1]⟩
  · omega
theorem idxOf_first {xs : List Int} {c : Int} (h : c ∈ xs) : xs[xs.idxOf c]? = some c ∧ c ∉ xs.take (xs.idxOf c) := by
  have hl := List.idxOf_lt_length_of_mem h
  refine ⟨by rw [List.getElem?_eq_getElem hl, List.getElem_idxOf hl], ?_⟩
  induction xs with
  | nil => cases h
  | cons a l ih =>
    by_cases e : a = c
    · subst e; simp
    · rw [List.idxOf_cons, show (a == c) = false by simpa using e, cond_false, List.take_succ_cons]
      intro hm
      rcases List.mem_cons.1 hm with hm | hm
      · exact e hm.symm
      · have h2 : c ∈ l := by rcases List.mem_cons.1 h with h | h; exact absurd h.symm e; exact h
        exact ih h2 (List.idxOf_lt_length_of_mem h2) hm
theorem cnt_zero {l : List Int} (h : (10 : Int) ∉ l) : cnt l = 0 := List.count_eq_zero.2 h

theorem goLine_step {t : List Int} {p : Nat} (hp : p ≤ t.length) (h : ¬ idxB (t.drop p) 10 < 0) :
    p + (idxB (t.drop p) 10).toNat < t.length ∧ t[p + (idxB (t.drop p) 10).toNat]? = some 10 ∧ cnt (t.take (p + (idxB (t.drop p) 10).toNat)) = cnt (t.take p) := by
  obtain ⟨h1, h2⟩ := idxB_some h
  obtain ⟨h3, h4⟩ := idxOf_first h1
  have hl := List.idxOf_lt_length_of_mem h1
  rw [List.length_drop] at hl
  rw [h2, Int.toNat_natCast]
  refine ⟨by omega, by rw [List.getElem?_drop] at h3; exact h3, ?_⟩
  rw [List.take_add, cnt_append, cnt_zero h4, Nat.add_zero]

theorem goLine_begins {t : List Int} : ∀ {n p q : Nat}, p ≤ t.length → goLine t n p = some q → q ≤ t.length ∧ cnt (t.take q) = cnt (t.take p) + n ∧ (q = p ∨ t[q - 1]? = some 10)
  | 0, p, q, hp, h => by simp only [goLine, Option.some.injEq] at h; subst h; exact ⟨hp, rfl, .inl rfl⟩
  | n + 1, p, q, hp, h => by
    unfold goLine at h
    split at h
    · cases h
    · rename_i hn
      obtain ⟨h1, h2, h3⟩ := goLine_step hp hn
      obtain ⟨h4, h5, h6⟩ := goLine_begins (by omega) h
      refine ⟨h4, by rw [h5, cnt_take_succ h2, h3]; omega, .inr ?_⟩
      rcases h6 with h6 | h6
      · rw [h6, Nat.add_sub_cancel]; exact h2
      · exact h6
theorem goLine_some {t : List Int} : ∀ {n p : Nat}, p ≤ t.length → n ≤ cnt (t.drop p) → ∃ q, goLine t n p = some q
  | 0, p, hp, h => ⟨p, rfl⟩
  | n + 1, p, hp, h => by
    have hn : ¬ idxB (t.drop p) 10 < 0 := fun hn => by rw [cnt_zero (idxB_none hn)] at h; omega
    obtain ⟨h1, h2, h3⟩ := goLine_step hp hn
    unfold goLine
    rw [if_neg hn]
    refine goLine_some (by omega) ?_
    have e1 := cnt_split t p
    have e2 := cnt_split t (p + (idxB (t.drop p) 10).toNat + 1)
    rw [cnt_take_succ h2, h3] at e2
    omega
theorem goLine_iff {t : List Int} {n p : Nat} : goLine t n 0 = some p ↔ Begins t n p := by
  constructor
  · intro h
    obtain ⟨h1, h2, h3⟩ := goLine_begins (Nat.zero_le _) h
    exact ⟨h1, by simpa [cnt] using h2, h3⟩
  · intro h
    obtain ⟨q, hq⟩ := goLine_some (t := t) (n := n) (p := 0) (Nat.zero_le _) (by simpa using h.cnt_le)
    obtain ⟨h1, h2, h3⟩ := goLine_begins (Nat.zero_le _) hq
    rw [h.uniq ⟨h1, by simpa [cnt] using h2, h3⟩]; exact hq
theorem begins_ex {t : List Int} {n : Nat} (h : n ≤ cnt t) : ∃ p, Begins t n p := by
  obtain ⟨q, hq⟩ := goLine_some (t := t) (n := n) (p := 0) (Nat.zero_le _) (by simpa using h)
  exact ⟨q, goLine_iff.1 hq⟩
theorem goLine_none {t : List Int} {n : Nat} (h : cnt t < n) : goLine t n 0 = none := by
  cases hq : goLine t n 0 with
  | none => rfl
  | some q => have := (goLine_iff.1 hq).cnt_le; omega
theorem start_at {t : List Int} {n p : Nat} (h : Begins t n p) : lines_Start_F t (n : Int) = ((p : Int), 0) := by
  unfold lines_Start_F
  rw [if_neg (by omega), Int.toNat_natCast, goLine_iff.2 h]
theorem start_out {t : List Int} {n : Nat} (h : cnt t < n) : lines_Start_F t (n : Int) = (0, 2) := by
  unfold lines_Start_F
  rw [if_neg (by omega), Int.toNat_natCast, goLine_none h]
theorem Begins.same {t u : List Int} {n p q : Nat} (h : Begins t n p) (hq : p ≤ q) (ht : t.take q = u.take q) (hu : q ≤ t.length) : Begins u n p := by
  have hl : u.length ≥ q := by have := congrArg List.length ht; simp only [List.length_take] at this; omega
  have e : t.take p = u.take p := by
    have := congrArg (List.take p) ht
    rwa [List.take_take, List.take_take, Nat.min_eq_left hq] at this
  refine ⟨by omega, by rw [← e]; exact h.2.1, ?_⟩
  rcases h.2.2 with h1 | h1
  · exact .inl h1
  · by_cases hp : p = 0
    · exact .inl hp
    · right
      have : (t.take p)[p - 1]? = (u.take p)[p - 1]? := by rw [e]
      rw [List.getElem?_take_of_lt (by omega), List.getElem?_take_of_lt (by omega)] at this
      rw [← this]; exact h1
end Go.VE
namespace Go.VE
open Go Go.Proofs
/-! ### quoin/oper.outside -/
def oper_outside_G : List (Nat × App) := []
theorem oper_outside_Gok : GOk Tryd.prog (getG oper_outside_G) := GOk.nil
def oper_outside_raw (t0 : List Int) (at1 : Int) (count2 : Int) (low3 : Int) (K : Res → List Cell → Prop) : Prop :=
 bif (decide (at1 < (0 : Int))) then
 K (.one (.v (.bool) true)) []
 else
 bif (decide ((List.length t0 : Int) < at1)) then
 K (.one (.v (.bool) true)) []
 else
 bif (decide (count2 < low3)) then
 K (.one (.v (.bool) true)) []
 else
 K (.one (.v (.bool) (decide ((9999 : Int) < count2)))) []
def oper_outside_A : List AS := [.v (.sl (.int .u8)), .v (.int .i64), .v (.int .i64), .v (.int .i64)]
theorem oper_outside_walk (t0 : List Int) (at1 : Int) (count2 : Int) (low3 : Int) (K : Res → List Cell → Prop) : runF tb (getG oper_outside_G) [] Tryd.f59 [true] (mkA oper_outside_A (t0, at1, count2, low3, ())) K = oper_outside_raw t0 at1 count2 low3 K := by kernel_rfl

def oper_outside_F (t0 : List Int) (at1 : Int) (count2 : Int) (low3 : Int) : Bool :=
 bif (decide (at1 < (0 : Int))) then
 true
 else
 bif (decide ((List.length t0 : Int) < at1)) then
 true
 else
 bif (decide (count2 < low3)) then
 true
 else
 (decide ((9999 : Int) < count2))
set_option maxRecDepth 20000 in
theorem oper_outside_sp (t0 : List Int) (at1 : Int) (count2 : Int) (low3 : Int) (K : Res → List Cell → Prop) (_ : wfA oper_outside_A (t0, at1, count2, low3, ())) (h : ∀ r : Bool, r = oper_outside_F t0 at1 count2 low3 → K (.one (.v (.bool) r)) []) : oper_outside_raw t0 at1 count2 low3 K := by
  unfold oper_outside_raw
  refine brb (fun c_1 => ?_) (fun c_1 => ?_)
  ·
    exact h _ ((ctrue c_1) : oper_outside_F t0 at1 count2 low3 = _).symm
  ·
    refine brb (fun c_2 => ?_) (fun c_2 => ?_)
    ·
      exact h _ ((Eq.trans (cfalse c_1) (ctrue c_2)) : oper_outside_F t0 at1 count2 low3 = _).symm
    ·
      refine brb (fun c_3 => ?_) (fun c_3 => ?_)
      ·
        exact h _ ((Eq.trans (cfalse c_1) (Eq.trans (cfalse c_2) (ctrue c_3))) : oper_outside_F t0 at1 count2 low3 = _).symm
      ·
        exact h _ ((Eq.trans (cfalse c_1) (Eq.trans (cfalse c_2) (cfalse c_3))) : oper_outside_F t0 at1 count2 low3 = _).symm
def oper_outside_C (v : valsA oper_outside_A) (K : Res → List Cell → Prop) : Prop := ∀ r : Bool, r = oper_outside_F v.1 v.2.1 v.2.2.1 v.2.2.2.1 → K (.one (.v (.bool) r)) []
def oper_outside_S : App := specW oper_outside_A oper_outside_C
theorem oper_outside_wv (K : Res → List Cell → Prop) : ∀ v : valsA oper_outside_A, runF tb (getG oper_outside_G) [] Tryd.f59 [true] (mkA oper_outside_A v) K = oper_outside_raw v.1 v.2.1 v.2.2.1 v.2.2.2.1 K
  | (t0, at1, count2, low3, ()) => oper_outside_walk t0 at1 count2 low3 K
set_option maxRecDepth 20000 in
theorem oper_outside_ok : AppOk Tryd.prog 59 oper_outside_S :=
  AppOk.specW (spec_ok ((runF_ok tb_M tb_ok oper_outside_Gok (LabsOk.nil) (f := 59) (fn := Tryd.f59) (by kernel_rfl) (by kernel_rfl) (by kernel_rfl) [true])) fun v K hw h => (oper_outside_wv K v).mpr (oper_outside_sp v.1 v.2.1 v.2.2.1 v.2.2.2.1 K hw h))

end Go.VE
namespace Go.VE
open Go Go.Proofs
/-! ### quoin/lines.has -/
def lines_has_G : List (Nat × App) := []
theorem lines_has_Gok : GOk Tryd.prog (getG lines_has_G) := GOk.nil
def lines_has_raw (t0 : List Int) (at1 : Int) (K : Res → List Cell → Prop) : Prop :=
 bif (decide ((0 : Int) ≤ at1)) then
 K (.one (.v (.bool) (decide (at1 ≤ (List.length t0 : Int))))) []
 else
 K (.one (.v (.bool) false)) []
def lines_has_A : List AS := [.v (.sl (.int .u8)), .v (.int .i64)]
theorem lines_has_walk (t0 : List Int) (at1 : Int) (K : Res → List Cell → Prop) : runF tb (getG lines_has_G) [] Tryd.f98 [true] (mkA lines_has_A (t0, at1, ())) K = lines_has_raw t0 at1 K := by kernel_rfl

def lines_has_F (t0 : List Int) (at1 : Int) : Bool :=
 bif (decide ((0 : Int) ≤ at1)) then
 (decide (at1 ≤ (List.length t0 : Int)))
 else
 false
set_option maxRecDepth 20000 in
theorem lines_has_sp (t0 : List Int) (at1 : Int) (K : Res → List Cell → Prop) (_ : wfA lines_has_A (t0, at1, ())) (h : ∀ r : Bool, r = lines_has_F t0 at1 → K (.one (.v (.bool) r)) []) : lines_has_raw t0 at1 K := by
  unfold lines_has_raw
  refine brb (fun c_1 => ?_) (fun c_1 => ?_)
  ·
    exact h _ ((ctrue c_1) : lines_has_F t0 at1 = _).symm
  ·
    exact h _ ((cfalse c_1) : lines_has_F t0 at1 = _).symm
def lines_has_C (v : valsA lines_has_A) (K : Res → List Cell → Prop) : Prop := ∀ r : Bool, r = lines_has_F v.1 v.2.1 → K (.one (.v (.bool) r)) []
def lines_has_S : App := specW lines_has_A lines_has_C
theorem lines_has_wv (K : Res → List Cell → Prop) : ∀ v : valsA lines_has_A, runF tb (getG lines_has_G) [] Tryd.f98 [true] (mkA lines_has_A v) K = lines_has_raw v.1 v.2.1 K
  | (t0, at1, ()) => lines_has_walk t0 at1 K
set_option maxRecDepth 20000 in
theorem lines_has_ok : AppOk Tryd.prog 98 lines_has_S :=
  AppOk.specW (spec_ok ((runF_ok tb_M tb_ok lines_has_Gok (LabsOk.nil) (f := 98) (fn := Tryd.f98) (by kernel_rfl) (by kernel_rfl) (by kernel_rfl) [true])) fun v K hw h => (lines_has_wv K v).mpr (lines_has_sp v.1 v.2.1 K hw h))

end Go.VE
namespace Go.VE
open Go Go.Proofs
def unicode_utf8_RuneCount_A : List AS := []
def unicode_utf8_RuneCount_S : App := specW unicode_utf8_RuneCount_A fun _ _ => False
theorem unicode_utf8_RuneCount_ok : AppOk Tryd.prog 100 unicode_utf8_RuneCount_S := AppOk.never
end Go.VE
namespace Go.VE
open Go Go.Proofs
--! external 1
--! args B U
--! res I
--! pre 0
--! import VEr
def ib_Count_F (xs : List Int) (c : Int) : Int := (List.count c xs : Int)
def ib_Count_S : App := specW sliceByte_A fun v K => ∀ r : Int, r = ib_Count_F v.1 v.2.1 → K (.one (.v (.int .i64) r)) []
theorem ib_Count_ok : AppOk Tryd.prog 101 ib_Count_S :=
  ext_count (fn := Tryd.f101) (by kernel_rfl) (by kernel_rfl) (by kernel_rfl) (by kernel_rfl) (by kernel_rfl)

end Go.VE
namespace Go.VE
open Go Go.Proofs
/-! ### bytes.Equal -/
def bytes_Equal_G : List (Nat × App) := []
theorem bytes_Equal_Gok : GOk Tryd.prog (getG bytes_Equal_G) := GOk.nil
def bytes_Equal_raw (a0 : List Int) (b1 : List Int) (K : Res → List Cell → Prop) : Prop :=
 K (.one (.v (.bool) (decide (a0 = b1)))) []
def bytes_Equal_A : List AS := [.v (.sl (.int .u8)), .v (.sl (.int .u8))]
theorem bytes_Equal_walk (a0 : List Int) (b1 : List Int) (K : Res → List Cell → Prop) : runF tb (getG bytes_Equal_G) [] Tryd.f95 [true] (mkA bytes_Equal_A (a0, b1, ())) K = bytes_Equal_raw a0 b1 K := by kernel_rfl

def bytes_Equal_F (a0 : List Int) (b1 : List Int) : Bool :=
 (decide (a0 = b1))
set_option maxRecDepth 20000 in
theorem bytes_Equal_sp (a0 : List Int) (b1 : List Int) (K : Res → List Cell → Prop) (_ : wfA bytes_Equal_A (a0, b1, ())) (h : ∀ r : Bool, r = bytes_Equal_F a0 b1 → K (.one (.v (.bool) r)) []) : bytes_Equal_raw a0 b1 K := by
  unfold bytes_Equal_raw
  exact h _ rfl
def bytes_Equal_C (v : valsA bytes_Equal_A) (K : Res → List Cell → Prop) : Prop := ∀ r : Bool, r = bytes_Equal_F v.1 v.2.1 → K (.one (.v (.bool) r)) []
def bytes_Equal_S : App := specW bytes_Equal_A bytes_Equal_C
theorem bytes_Equal_wv (K : Res → List Cell → Prop) : ∀ v : valsA bytes_Equal_A, runF tb (getG bytes_Equal_G) [] Tryd.f95 [true] (mkA bytes_Equal_A v) K = bytes_Equal_raw v.1 v.2.1 K
  | (a0, b1, ()) => bytes_Equal_walk a0 b1 K
set_option maxRecDepth 20000 in
theorem bytes_Equal_ok : AppOk Tryd.prog 95 bytes_Equal_S :=
  AppOk.specW (spec_ok ((runF_ok tb_M tb_ok bytes_Equal_Gok (LabsOk.nil) (f := 95) (fn := Tryd.f95) (by kernel_rfl) (by kernel_rfl) (by kernel_rfl) [true])) fun v K hw h => (bytes_Equal_wv K v).mpr (bytes_Equal_sp v.1 v.2.1 K hw h))

end Go.VE
namespace Go.VE
open Go Go.Proofs
/-! ### bytes.Index -/
def bytes_Index_G : List (Nat × App) := [(43, bytes_IndexByte_S), (95, bytes_Equal_S)]
theorem bytes_Index_Gok : GOk Tryd.prog (getG bytes_Index_G) := GOk.cons bytes_IndexByte_ok (GOk.cons bytes_Equal_ok (GOk.nil))
def bytes_Index_raw (s0 : List Int) (sep1 : List Int) (K : Res → List Cell → Prop) : Prop :=
 bif (decide ((List.length sep1 : Int) = (0 : Int))) then
 K (.one (.v (.int .i64) (0 : Int))) []
 else
 bif (decide ((List.length sep1 : Int) = (1 : Int))) then
 bif decide (0 ≤ (0 : Int) ∧ (0 : Int) < (List.length sep1 : Int)) then
 ∀ (r1 : Int), r1 = bytes_IndexByte_F s0 (rd (0 : Int) sep1 (0 : Int)) → (
 wfR (.one (.v (.int .i64) r1)) → (
 K (.one (.v (.int .i64) r1)) []))
 else False
 else
 bif (decide ((List.length sep1 : Int) = (List.length s0 : Int))) then
 ∀ (r2 : Bool), r2 = bytes_Equal_F sep1 s0 → (
 wfR (.one (.v (.bool) r2)) → (
 bif r2 then
 K (.one (.v (.int .i64) (0 : Int))) []
 else
 K (.one (.v (.int .i64) (-1 : Int))) []))
 else
 bif (decide ((List.length s0 : Int) < (List.length sep1 : Int))) then
 K (.one (.v (.int .i64) (-1 : Int))) []
 else
 False
def bytes_Index_A : List AS := [.v (.sl (.int .u8)), .v (.sl (.int .u8))]
theorem bytes_Index_walk (s0 : List Int) (sep1 : List Int) (K : Res → List Cell → Prop) : runF tb (getG bytes_Index_G) [] Tryd.f102 [true] (mkA bytes_Index_A (s0, sep1, ())) K = bytes_Index_raw s0 sep1 K := by kernel_rfl
--! soft 1

def bytes_Index_P (s0 : List Int) (sep1 : List Int) : Prop :=
 bif (decide ((List.length sep1 : Int) = (0 : Int))) then
 True
 else
 bif (decide ((List.length sep1 : Int) = (1 : Int))) then
 (0 ≤ (0 : Int) ∧ (0 : Int) < (List.length sep1 : Int))
 else
 bif (decide ((List.length sep1 : Int) = (List.length s0 : Int))) then
 True
 else
 bif (decide ((List.length s0 : Int) < (List.length sep1 : Int))) then
 True
 else
 False
def bytes_Index_F (s0 : List Int) (sep1 : List Int) : Int :=
 bif (decide ((List.length sep1 : Int) = (0 : Int))) then
 (0 : Int)
 else
 bif (decide ((List.length sep1 : Int) = (1 : Int))) then
 let r1 : Int := bytes_IndexByte_F s0 (rd (0 : Int) sep1 (0 : Int))
 r1
 else
 bif (decide ((List.length sep1 : Int) = (List.length s0 : Int))) then
 let r2 : Bool := bytes_Equal_F sep1 s0
 bif r2 then
 (0 : Int)
 else
 (-1 : Int)
 else
 bif (decide ((List.length s0 : Int) < (List.length sep1 : Int))) then
 (-1 : Int)
 else
 default
set_option maxRecDepth 20000 in
theorem bytes_Index_sp (s0 : List Int) (sep1 : List Int) (K : Res → List Cell → Prop) (_ : wfA bytes_Index_A (s0, sep1, ())) (hp : bytes_Index_P s0 sep1) (h : ∀ r : Int, r = bytes_Index_F s0 sep1 → K (.one (.v (.int .i64) r)) []) : bytes_Index_raw s0 sep1 K := by
  unfold bytes_Index_raw
  unfold bytes_Index_P at hp
  refine brb (fun c_1 => ?_) (fun c_1 => ?_)
  ·
    clear hp
    exact h _ ((ctrue c_1) : bytes_Index_F s0 sep1 = _).symm
  ·
    replace hp := cF c_1 hp
    refine brb (fun c_2 => ?_) (fun c_2 => ?_)
    ·
      replace hp := cT c_2 hp
      refine asrt hp ?_
      intro r1 hr1
      subst r1
      intro _
      exact h _ ((Eq.trans (cfalse c_1) (ctrue c_2)) : bytes_Index_F s0 sep1 = _).symm
    ·
      replace hp := cF c_2 hp
      refine brb (fun c_3 => ?_) (fun c_3 => ?_)
      ·
        clear hp
        intro r2 hr2
        subst r2
        intro _
        refine brb (fun c_4 => ?_) (fun c_4 => ?_)
        ·
          exact h _ ((Eq.trans (cfalse c_1) (Eq.trans (cfalse c_2) (Eq.trans (ctrue c_3) (ctrue c_4)))) : bytes_Index_F s0 sep1 = _).symm
        ·
          exact h _ ((Eq.trans (cfalse c_1) (Eq.trans (cfalse c_2) (Eq.trans (ctrue c_3) (cfalse c_4)))) : bytes_Index_F s0 sep1 = _).symm
      ·
        replace hp := cF c_3 hp
        refine brb (fun c_5 => ?_) (fun c_5 => ?_)
        ·
          clear hp
          exact h _ ((Eq.trans (cfalse c_1) (Eq.trans (cfalse c_2) (Eq.trans (cfalse c_3) (ctrue c_5)))) : bytes_Index_F s0 sep1 = _).symm
        ·
          replace hp := cF c_5 hp
          exact hp.elim
def bytes_Index_C (v : valsA bytes_Index_A) (K : Res → List Cell → Prop) : Prop := bytes_Index_P v.1 v.2.1 ∧ ∀ r : Int, r = bytes_Index_F v.1 v.2.1 → K (.one (.v (.int .i64) r)) []
def bytes_Index_S : App := specW bytes_Index_A bytes_Index_C
theorem bytes_Index_wv (K : Res → List Cell → Prop) : ∀ v : valsA bytes_Index_A, runF tb (getG bytes_Index_G) [] Tryd.f102 [true] (mkA bytes_Index_A v) K = bytes_Index_raw v.1 v.2.1 K
  | (s0, sep1, ()) => bytes_Index_walk s0 sep1 K
set_option maxRecDepth 20000 in
theorem bytes_Index_ok : AppOk Tryd.prog 102 bytes_Index_S :=
  AppOk.specW (spec_ok ((runF_ok tb_M tb_ok bytes_Index_Gok (LabsOk.nil) (f := 102) (fn := Tryd.f102) (by kernel_rfl) (by kernel_rfl) (by kernel_rfl) [true])) fun v K hw h => (bytes_Index_wv K v).mpr (bytes_Index_sp v.1 v.2.1 K hw h.1 h.2))

end Go.VE
namespace Go.VE
open Go Go.Proofs
/-! ### bytes.Count -/
def bytes_Count_G : List (Nat × App) := [(100, unicode_utf8_RuneCount_S), (101, ib_Count_S), (102, bytes_Index_S)]
theorem bytes_Count_Gok : GOk Tryd.prog (getG bytes_Count_G) := GOk.cons unicode_utf8_RuneCount_ok (GOk.cons ib_Count_ok (GOk.cons bytes_Index_ok (GOk.nil)))
theorem bytes_Count_st : storesC (bodyOf Tryd.f68) = true := by kernel_rfl
def bytes_Count_d0 : List LS := [.v 0 (.sl (.int .u8)), .v 1 (.sl (.int .u8)), .v 5 (.int .i64)]
def bytes_Count_d0r : List LS := [.v 4 (.int .i64)]
def bytes_Count_dx0 : DX := ⟨none, some bytes_Count_d0r, []⟩
def bytes_Count_T0 (Y : List Int → List Int → Int → Prop) (kr : Int → Prop) (s0 : List Int) (sep1 : List Int) (n5 : Int) : Prop :=
 bytes_Index_P s0 sep1 ∧ (
 ∀ (r2 : Int), r2 = bytes_Index_F s0 sep1 → (
 wfR (.one (.v (.int .i64) r2)) → (
 bif (decide (r2 = (-1 : Int))) then
 kr n5
 else
 bif decide (0 ≤ (IntKind.wrap .i64 (r2 + (List.length sep1 : Int))) ∧ (IntKind.wrap .i64 (r2 + (List.length sep1 : Int))) ≤ (List.length s0 : Int)) then
 Y (List.drop (Int.toNat (IntKind.wrap .i64 (r2 + (List.length sep1 : Int)))) s0) sep1 (IntKind.wrap .i64 (n5 + (1 : Int)))
 else False)))
def bytes_Count_L0 (kr : Int → Prop) : Nat → List Int → List Int → Int → Prop
  | 0, _, _, _ => False
  | n + 1, s0, sep1, n5 => wfD bytes_Count_d0 (s0, sep1, n5, ()) → bytes_Count_T0 (bytes_Count_L0 kr n) kr s0 sep1 n5
theorem bytes_Count_s0 (k : Ex → St → Prop) (Y : vals bytes_Count_d0 → Prop) (s0 : List Int) (sep1 : List Int) (n5 : Int) :
    ex tb (getG bytes_Count_G) [] (at' (bodyOf Tryd.f68) [0, 0, 1, 1, 1, 1]) [0, 0, 1, 1, 1, 1] (mkD 35 bytes_Count_d0 (s0, sep1, n5, ())) (lpK 35 bytes_Count_d0 bytes_Count_dx0 k Y) =
    bytes_Count_T0 (fun s0 sep1 n5 => Y (s0, sep1, n5, ())) (fun x4 => wfD bytes_Count_d0r (x4, ()) → k .ret (mkD 35 bytes_Count_d0r (x4, ()))) s0 sep1 n5 := by kernel_rfl
theorem bytes_Count_e0 (k : Ex → St → Prop) : ∀ (n : Nat) (s0 : List Int) (sep1 : List Int) (n5 : Int), lpD 35 bytes_Count_d0 bytes_Count_dx0 (ex tb (getG bytes_Count_G) [] (at' (bodyOf Tryd.f68) [0, 0, 1, 1, 1, 1]) [0, 0, 1, 1, 1, 1]) k n (s0, sep1, n5, ()) = bytes_Count_L0 (fun x4 => wfD bytes_Count_d0r (x4, ()) → k .ret (mkD 35 bytes_Count_d0r (x4, ()))) n s0 sep1 n5
  | 0, _, _, _ => rfl
  | n + 1, s0, sep1, n5 => congrArg (fun Z : Prop => wfD bytes_Count_d0 (s0, sep1, n5, ()) → Z) ((bytes_Count_s0 k (lpD 35 bytes_Count_d0 bytes_Count_dx0 (ex tb (getG bytes_Count_G) [] (at' (bodyOf Tryd.f68) [0, 0, 1, 1, 1, 1]) [0, 0, 1, 1, 1, 1]) k n) s0 sep1 n5).trans (congrArg (fun Y => bytes_Count_T0 Y (fun x4 => wfD bytes_Count_d0r (x4, ()) → k .ret (mkD 35 bytes_Count_d0r (x4, ()))) s0 sep1 n5) (funext fun s0 => funext fun sep1 => funext fun n5 => bytes_Count_e0 k n s0 sep1 n5)))
theorem bytes_Count_v0 (k : Ex → St → Prop) (n : Nat) : ∀ v : vals bytes_Count_d0, lpD 35 bytes_Count_d0 bytes_Count_dx0 (ex tb (getG bytes_Count_G) [] (at' (bodyOf Tryd.f68) [0, 0, 1, 1, 1, 1]) [0, 0, 1, 1, 1, 1]) k n v = bytes_Count_L0 (fun x4 => wfD bytes_Count_d0r (x4, ()) → k .ret (mkD 35 bytes_Count_d0r (x4, ()))) n v.1 v.2.1 v.2.2.1
  | (s0, sep1, n5, ()) => bytes_Count_e0 k n s0 sep1 n5
def bytes_Count_X0 : Pce := fun st k => ckD 35 bytes_Count_d0 st fun v => wfD bytes_Count_d0 v → ∃ n, bytes_Count_L0 (fun x4 => wfD bytes_Count_d0r (x4, ()) → k .ret (mkD 35 bytes_Count_d0r (x4, ()))) n v.1 v.2.1 v.2.2.1
set_option maxRecDepth 20000 in
theorem bytes_Count_x0 : SemOk Tryd.prog (at' (bodyOf Tryd.f68) [0, 1, 1, 1, 1]) bytes_Count_X0 :=
  (SemOk.loop (ex_sound tb_M tb_ok bytes_Count_Gok (LabsOk.nil) (at' (bodyOf Tryd.f68) [0, 0, 1, 1, 1, 1]) [0, 0, 1, 1, 1, 1] rfl (storesC_at bytes_Count_st [0, 0, 1, 1, 1, 1])) 35 bytes_Count_d0 bytes_Count_dx0).mono fun st k h => ckD_mono h fun v hv hw => (hv hw).elim fun n hn => ⟨n, Eq.mpr (bytes_Count_v0 k n v) hn⟩
def bytes_Count_B0 : Labs := ([0, 1, 1, 1, 1], bytes_Count_X0) :: []
theorem bytes_Count_b0 : LabsOk Tryd.prog (bodyOf Tryd.f68) bytes_Count_B0 := LabsOk.cons bytes_Count_x0 (LabsOk.nil)
def bytes_Count_raw (s0 : List Int) (sep1 : List Int) (K : Res → List Cell → Prop) : Prop :=
 bif (decide ((List.length sep1 : Int) = (0 : Int))) then
 False
 else
 bif (decide ((List.length sep1 : Int) = (1 : Int))) then
 bif decide (0 ≤ (0 : Int) ∧ (0 : Int) < (List.length sep1 : Int)) then
 ∀ (r1 : Int), r1 = ib_Count_F s0 (rd (0 : Int) sep1 (0 : Int)) → (
 wfR (.one (.v (.int .i64) r1)) → (
 K (.one (.v (.int .i64) r1)) []))
 else False
 else
 (wfD bytes_Count_d0 (s0, sep1, (0 : Int), ()) → ∃ n, bytes_Count_L0 (fun (x4 : Int) => wfD bytes_Count_d0r (x4, ()) → (
 K (.one (.v (.int .i64) x4)) [])) n s0 sep1 (0 : Int))
def bytes_Count_A : List AS := [.v (.sl (.int .u8)), .v (.sl (.int .u8))]
theorem bytes_Count_walk (s0 : List Int) (sep1 : List Int) (K : Res → List Cell → Prop) : runF tb (getG bytes_Count_G) bytes_Count_B0 Tryd.f68 [true] (mkA bytes_Count_A (s0, sep1, ())) K = bytes_Count_raw s0 sep1 K := by kernel_rfl
--! pre 1
def bytes_Count_P (_ sep : List Int) : Prop := sep.length = 1
def bytes_Count_F (s sep : List Int) : Int := (List.count (rd (0 : Int) sep 0) s : Int)
theorem bytes_Count_sp (s sep : List Int) (K : Res → List Cell → Prop) (_ : wfA bytes_Count_A (s, sep, ())) (hp : bytes_Count_P s sep) (h : ∀ r : Int, r = bytes_Count_F s sep → K (.one (.v (.int .i64) r)) []) : bytes_Count_raw s sep K := by
  unfold bytes_Count_P at hp
  unfold bytes_Count_raw
  exact brn (fun h0 => by omega) (fun _ => brn (fun _ => asrt (by omega) fun r hr _ => h r hr) (fun h1 => absurd (by omega) h1))

def bytes_Count_C (v : valsA bytes_Count_A) (K : Res → List Cell → Prop) : Prop := bytes_Count_P v.1 v.2.1 ∧ ∀ r : Int, r = bytes_Count_F v.1 v.2.1 → K (.one (.v (.int .i64) r)) []
def bytes_Count_S : App := specW bytes_Count_A bytes_Count_C
theorem bytes_Count_wv (K : Res → List Cell → Prop) : ∀ v : valsA bytes_Count_A, runF tb (getG bytes_Count_G) bytes_Count_B0 Tryd.f68 [true] (mkA bytes_Count_A v) K = bytes_Count_raw v.1 v.2.1 K
  | (s0, sep1, ()) => bytes_Count_walk s0 sep1 K
set_option maxRecDepth 20000 in
theorem bytes_Count_ok : AppOk Tryd.prog 68 bytes_Count_S :=
  AppOk.specW (spec_ok ((runF_ok tb_M tb_ok bytes_Count_Gok (bytes_Count_b0) (f := 68) (fn := Tryd.f68) (by kernel_rfl) (by kernel_rfl) bytes_Count_st [true])) fun v K hw h => (bytes_Count_wv K v).mpr (bytes_Count_sp v.1 v.2.1 K hw h.1 h.2))

end Go.VE
namespace Go.VE
open Go Go.Proofs
/-! ### quoin/lines.Of -/
def lines_Of_G : List (Nat × App) := [(98, lines_has_S), (68, bytes_Count_S)]
theorem lines_Of_Gok : GOk Tryd.prog (getG lines_Of_G) := GOk.cons lines_has_ok (GOk.cons bytes_Count_ok (GOk.nil))
def lines_Of_raw (t0 : List Int) (at1 : Int) (K : Res → List Cell → Prop) : Prop :=
 ∀ (r1 : Bool), r1 = lines_has_F t0 at1 → (
 wfR (.one (.v (.bool) r1)) → (
 bif (!r1) then
 K (.tup [.v (.int .i64) (0 : Int), .v (.int .i64) (2 : Int)]) []
 else
 bif decide (0 ≤ at1 ∧ at1 ≤ (List.length t0 : Int)) then
 bytes_Count_P (List.take (Int.toNat at1) t0) ([(10 : Int)] : List Int) ∧ (
 ∀ (r2 : Int), r2 = bytes_Count_F (List.take (Int.toNat at1) t0) ([(10 : Int)] : List Int) → (
 wfR (.one (.v (.int .i64) r2)) → (
 K (.tup [.v (.int .i64) r2, .v (.int .i64) (0 : Int)]) [])))
 else False))
def lines_Of_A : List AS := [.v (.sl (.int .u8)), .v (.int .i64)]
theorem lines_Of_walk (t0 : List Int) (at1 : Int) (K : Res → List Cell → Prop) : runF tb (getG lines_Of_G) [] Tryd.f65 [true, true] (mkA lines_Of_A (t0, at1, ())) K = lines_Of_raw t0 at1 K := by kernel_rfl

def lines_Of_P (t0 : List Int) (at1 : Int) : Prop :=
 let r1 : Bool := lines_has_F t0 at1
 bif (!r1) then
 True
 else
 (0 ≤ at1 ∧ at1 ≤ (List.length t0 : Int)) ∧ (
 bytes_Count_P (List.take (Int.toNat at1) t0) ([(10 : Int)] : List Int))
def lines_Of_F (t0 : List Int) (at1 : Int) : Int × Int :=
 let r1 : Bool := lines_has_F t0 at1
 bif (!r1) then
 ((0 : Int), (2 : Int))
 else
 let r2 : Int := bytes_Count_F (List.take (Int.toNat at1) t0) ([(10 : Int)] : List Int)
 (r2, (0 : Int))
set_option maxRecDepth 20000 in
theorem lines_Of_sp (t0 : List Int) (at1 : Int) (K : Res → List Cell → Prop) (_ : wfA lines_Of_A (t0, at1, ())) (hp : lines_Of_P t0 at1) (h : ∀ r : Int × Int, r = lines_Of_F t0 at1 → K (.tup [.v (.int .i64) r.1, .v (.int .i64) r.2]) []) : lines_Of_raw t0 at1 K := by
  unfold lines_Of_raw
  unfold lines_Of_P at hp
  intro r1 hr1
  subst r1
  intro _
  refine brb (fun c_1 => ?_) (fun c_1 => ?_)
  ·
    clear hp
    have e := h _ ((ctrue c_1) : lines_Of_F t0 at1 = _).symm
    exact e
  ·
    replace hp := cF c_1 hp
    refine asrt hp.1 ?_
    replace hp := hp.2
    refine ⟨hp, ?_⟩
    intro r2 hr2
    subst r2
    intro _
    have e := h _ ((cfalse c_1) : lines_Of_F t0 at1 = _).symm
    exact e
def lines_Of_C (v : valsA lines_Of_A) (K : Res → List Cell → Prop) : Prop := lines_Of_P v.1 v.2.1 ∧ ∀ r : Int × Int, r = lines_Of_F v.1 v.2.1 → K (.tup [.v (.int .i64) r.1, .v (.int .i64) r.2]) []
def lines_Of_S : App := specW lines_Of_A lines_Of_C
theorem lines_Of_wv (K : Res → List Cell → Prop) : ∀ v : valsA lines_Of_A, runF tb (getG lines_Of_G) [] Tryd.f65 [true, true] (mkA lines_Of_A v) K = lines_Of_raw v.1 v.2.1 K
  | (t0, at1, ()) => lines_Of_walk t0 at1 K
set_option maxRecDepth 20000 in
theorem lines_Of_ok : AppOk Tryd.prog 65 lines_Of_S :=
  AppOk.specW (spec_ok ((runF_ok tb_M tb_ok lines_Of_Gok (LabsOk.nil) (f := 65) (fn := Tryd.f65) (by kernel_rfl) (by kernel_rfl) (by kernel_rfl) [true, true])) fun v K hw h => (lines_Of_wv K v).mpr (lines_Of_sp v.1 v.2.1 K hw h.1 h.2))
theorem lines_Of_any (t : List Int) (p : Int) : lines_Of_P t p := by
  unfold lines_Of_P lines_has_F bytes_Count_P
  dsimp only
  by_cases h1 : 0 ≤ p <;> by_cases h2 : p ≤ t.length <;> simp [h1, h2]

end Go.VE
namespace Go.VE
open Go Go.Proofs
/-! ### quoin/lines.Count -/
def lines_Count_G : List (Nat × App) := [(68, bytes_Count_S)]
theorem lines_Count_Gok : GOk Tryd.prog (getG lines_Count_G) := GOk.cons bytes_Count_ok (GOk.nil)
def lines_Count_raw (t0 : List Int) (K : Res → List Cell → Prop) : Prop :=
 bytes_Count_P t0 ([(10 : Int)] : List Int) ∧ (
 ∀ (r1 : Int), r1 = bytes_Count_F t0 ([(10 : Int)] : List Int) → (
 wfR (.one (.v (.int .i64) r1)) → (
 K (.one (.v (.int .i64) (IntKind.wrap .i64 (r1 + (1 : Int))))) [])))
def lines_Count_A : List AS := [.v (.sl (.int .u8))]
theorem lines_Count_walk (t0 : List Int) (K : Res → List Cell → Prop) : runF tb (getG lines_Count_G) [] Tryd.f26 [true] (mkA lines_Count_A (t0, ())) K = lines_Count_raw t0 K := by kernel_rfl

def lines_Count_P (t0 : List Int) : Prop :=
 bytes_Count_P t0 ([(10 : Int)] : List Int)
def lines_Count_F (t0 : List Int) : Int :=
 let r1 : Int := bytes_Count_F t0 ([(10 : Int)] : List Int)
 (IntKind.wrap .i64 (r1 + (1 : Int)))
set_option maxRecDepth 20000 in
theorem lines_Count_sp (t0 : List Int) (K : Res → List Cell → Prop) (_ : wfA lines_Count_A (t0, ())) (hp : lines_Count_P t0) (h : ∀ r : Int, r = lines_Count_F t0 → K (.one (.v (.int .i64) r)) []) : lines_Count_raw t0 K := by
  unfold lines_Count_raw
  unfold lines_Count_P at hp
  refine ⟨hp, ?_⟩
  intro r1 hr1
  subst r1
  intro _
  exact h _ rfl
def lines_Count_C (v : valsA lines_Count_A) (K : Res → List Cell → Prop) : Prop := lines_Count_P v.1 ∧ ∀ r : Int, r = lines_Count_F v.1 → K (.one (.v (.int .i64) r)) []
def lines_Count_S : App := specW lines_Count_A lines_Count_C
theorem lines_Count_wv (K : Res → List Cell → Prop) : ∀ v : valsA lines_Count_A, runF tb (getG lines_Count_G) [] Tryd.f26 [true] (mkA lines_Count_A v) K = lines_Count_raw v.1 K
  | (t0, ()) => lines_Count_walk t0 K
set_option maxRecDepth 20000 in
theorem lines_Count_ok : AppOk Tryd.prog 26 lines_Count_S :=
  AppOk.specW (spec_ok ((runF_ok tb_M tb_ok lines_Count_Gok (LabsOk.nil) (f := 26) (fn := Tryd.f26) (by kernel_rfl) (by kernel_rfl) (by kernel_rfl) [true])) fun v K hw h => (lines_Count_wv K v).mpr (lines_Count_sp v.1 K hw h.1 h.2))

end Go.VE
namespace Go.VE
open Go Go.Proofs
/-! ### quoin/extent.Whole -/
def extent_Whole_G : List (Nat × App) := [(31, lines_Start_S)]
theorem extent_Whole_Gok : GOk Tryd.prog (getG extent_Whole_G) := GOk.cons lines_Start_ok (GOk.nil)
def extent_Whole_raw (t0 : List Int) (from1 : Int) (to2 : Int) (K : Res → List Cell → Prop) : Prop :=
 ∀ (r1 : Int × Int), r1 = lines_Start_F t0 from1 → (
 wfR (.tup [.v (.int .i64) r1.1, .v (.int .i64) r1.2]) → (
 ∀ (r2 : Int × Int), r2 = lines_Start_F t0 to2 → (
 wfR (.tup [.v (.int .i64) r2.1, .v (.int .i64) r2.2]) → (
 bif (!decide (r1.2 = (0 : Int))) then
 K (.tup [.v (.st (.pair (.int .i64) (.pair (.int .i64) (.pair (.bool) (.bool))))) ((0 : Int), (0 : Int), false, false), .v (.int .i64) (2 : Int)]) []
 else
 bif (!decide (r2.2 = (0 : Int))) then
 K (.tup [.v (.st (.pair (.int .i64) (.pair (.int .i64) (.pair (.bool) (.bool))))) ((0 : Int), (0 : Int), false, false), .v (.int .i64) (2 : Int)]) []
 else
 bif (decide (to2 < from1)) then
 K (.tup [.v (.st (.pair (.int .i64) (.pair (.int .i64) (.pair (.bool) (.bool))))) ((0 : Int), (0 : Int), false, false), .v (.int .i64) (2 : Int)]) []
 else
 ∀ (r3 : Int × Int), r3 = lines_Start_F t0 (IntKind.wrap .i64 (to2 + (1 : Int))) → (
 wfR (.tup [.v (.int .i64) r3.1, .v (.int .i64) r3.2]) → (
 bif (decide (r3.2 = (0 : Int))) then
 K (.tup [.v (.st (.pair (.int .i64) (.pair (.int .i64) (.pair (.bool) (.bool))))) (r1.1, r3.1, true, false), .v (.int .i64) (0 : Int)]) []
 else
 bif (decide ((0 : Int) < from1)) then
 K (.tup [.v (.st (.pair (.int .i64) (.pair (.int .i64) (.pair (.bool) (.bool))))) ((IntKind.wrap .i64 (r1.1 - (1 : Int))), (List.length t0 : Int), true, true), .v (.int .i64) (0 : Int)]) []
 else
 K (.tup [.v (.st (.pair (.int .i64) (.pair (.int .i64) (.pair (.bool) (.bool))))) ((0 : Int), (List.length t0 : Int), true, false), .v (.int .i64) (0 : Int)]) []))))))
def extent_Whole_A : List AS := [.v (.sl (.int .u8)), .v (.int .i64), .v (.int .i64)]
theorem extent_Whole_walk (t0 : List Int) (from1 : Int) (to2 : Int) (K : Res → List Cell → Prop) : runF tb (getG extent_Whole_G) [] Tryd.f30 [true, true] (mkA extent_Whole_A (t0, from1, to2, ())) K = extent_Whole_raw t0 from1 to2 K := by kernel_rfl

def extent_Whole_F (t0 : List Int) (from1 : Int) (to2 : Int) : (Int × Int × Bool × Bool) × Int :=
 let r1 : Int × Int := lines_Start_F t0 from1
 let r2 : Int × Int := lines_Start_F t0 to2
 bif (!decide (r1.2 = (0 : Int))) then
 (((0 : Int), (0 : Int), false, false), (2 : Int))
 else
 bif (!decide (r2.2 = (0 : Int))) then
 (((0 : Int), (0 : Int), false, false), (2 : Int))
 else
 bif (decide (to2 < from1)) then
 (((0 : Int), (0 : Int), false, false), (2 : Int))
 else
 let r3 : Int × Int := lines_Start_F t0 (IntKind.wrap .i64 (to2 + (1 : Int)))
 bif (decide (r3.2 = (0 : Int))) then
 ((r1.1, r3.1, true, false), (0 : Int))
 else
 bif (decide ((0 : Int) < from1)) then
 (((IntKind.wrap .i64 (r1.1 - (1 : Int))), (List.length t0 : Int), true, true), (0 : Int))
 else
 (((0 : Int), (List.length t0 : Int), true, false), (0 : Int))
set_option maxRecDepth 20000 in
theorem extent_Whole_sp (t0 : List Int) (from1 : Int) (to2 : Int) (K : Res → List Cell → Prop) (_ : wfA extent_Whole_A (t0, from1, to2, ())) (h : ∀ r : (Int × Int × Bool × Bool) × Int, r = extent_Whole_F t0 from1 to2 → K (.tup [.v (.st (.pair (.int .i64) (.pair (.int .i64) (.pair (.bool) (.bool))))) r.1, .v (.int .i64) r.2]) []) : extent_Whole_raw t0 from1 to2 K := by
  unfold extent_Whole_raw
  intro r1 hr1
  subst r1
  intro _
  intro r2 hr2
  subst r2
  intro _
  refine brb (fun c_1 => ?_) (fun c_1 => ?_)
  ·
    have e := h _ ((ctrue c_1) : extent_Whole_F t0 from1 to2 = _).symm
    exact e
  ·
    refine brb (fun c_2 => ?_) (fun c_2 => ?_)
    ·
      have e := h _ ((Eq.trans (cfalse c_1) (ctrue c_2)) : extent_Whole_F t0 from1 to2 = _).symm
      exact e
    ·
      refine brb (fun c_3 => ?_) (fun c_3 => ?_)
      ·
        have e := h _ ((Eq.trans (cfalse c_1) (Eq.trans (cfalse c_2) (ctrue c_3))) : extent_Whole_F t0 from1 to2 = _).symm
        exact e
      ·
        intro r3 hr3
        subst r3
        intro _
        refine brb (fun c_4 => ?_) (fun c_4 => ?_)
        ·
          have e := h _ ((Eq.trans (cfalse c_1) (Eq.trans (cfalse c_2) (Eq.trans (cfalse c_3) (ctrue c_4)))) : extent_Whole_F t0 from1 to2 = _).symm
          exact e
        ·
          refine brb (fun c_5 => ?_) (fun c_5 => ?_)
          ·
            have e := h _ ((Eq.trans (cfalse c_1) (Eq.trans (cfalse c_2) (Eq.trans (cfalse c_3) (Eq.trans (cfalse c_4) (ctrue c_5))))) : extent_Whole_F t0 from1 to2 = _).symm
            exact e
          ·
            have e := h _ ((Eq.trans (cfalse c_1) (Eq.trans (cfalse c_2) (Eq.trans (cfalse c_3) (Eq.trans (cfalse c_4) (cfalse c_5))))) : extent_Whole_F t0 from1 to2 = _).symm
            exact e
def extent_Whole_C (v : valsA extent_Whole_A) (K : Res → List Cell → Prop) : Prop := ∀ r : (Int × Int × Bool × Bool) × Int, r = extent_Whole_F v.1 v.2.1 v.2.2.1 → K (.tup [.v (.st (.pair (.int .i64) (.pair (.int .i64) (.pair (.bool) (.bool))))) r.1, .v (.int .i64) r.2]) []
def extent_Whole_S : App := specW extent_Whole_A extent_Whole_C
theorem extent_Whole_wv (K : Res → List Cell → Prop) : ∀ v : valsA extent_Whole_A, runF tb (getG extent_Whole_G) [] Tryd.f30 [true, true] (mkA extent_Whole_A v) K = extent_Whole_raw v.1 v.2.1 v.2.2.1 K
  | (t0, from1, to2, ()) => extent_Whole_walk t0 from1 to2 K
set_option maxRecDepth 20000 in
theorem extent_Whole_ok : AppOk Tryd.prog 30 extent_Whole_S :=
  AppOk.specW (spec_ok ((runF_ok tb_M tb_ok extent_Whole_Gok (LabsOk.nil) (f := 30) (fn := Tryd.f30) (by kernel_rfl) (by kernel_rfl) (by kernel_rfl) [true, true])) fun v K hw h => (extent_Whole_wv K v).mpr (extent_Whole_sp v.1 v.2.1 v.2.2.1 K hw h))

end Go.VE
namespace Go.VE
open Go Go.Proofs
/-! ### quoin/oper.spanned -/
def oper_spanned_G : List (Nat × App) := [(65, lines_Of_S), (26, lines_Count_S), (30, extent_Whole_S)]
theorem oper_spanned_Gok : GOk Tryd.prog (getG oper_spanned_G) := GOk.cons lines_Of_ok (GOk.cons lines_Count_ok (GOk.cons extent_Whole_ok (GOk.nil)))
theorem oper_spanned_st : storesC (bodyOf Tryd.f70) = true := by kernel_rfl
def oper_spanned_d0 : List LS := [.v 0 (.sl (.int .u8)), .b 5 40 [], .v 9 (.int .i64), .v 15 (.int .i64), .v 18 (.int .i64), .o 85 685 3 (.int .i64), .v 86 (.int .i64), .v 87 (.int .i64), .c 40 (.st (.pair (.int .i64) (.pair (.int .i64) (.pair (.bool) (.bool)))))]
def oper_spanned_d0x0 : List LS := [.v 9 (.int .i64), .v 18 (.int .i64)]
def oper_spanned_dx0 : DX := ⟨none, none, [(0, oper_spanned_d0x0)]⟩
def oper_spanned_T0 (Y : List Int → Int → Int → Int → List Int → Int → Int → (Int × Int × Bool × Bool) → Prop) (kx0 : Int → Int → Prop) (t0 : List Int) (a9 : Int) (here15 : Int) (found18 : Int) (x85 : List Int) (x86 : Int) (x87 : Int) (rv5b : (Int × Int × Bool × Bool)) : Prop :=
 bif (decide (x87 < x86)) then
 bif decide (0 ≤ x87 ∧ x87 < (List.length x85 : Int)) then
 ∀ (r6 : (Int × Int × Bool × Bool) × Int), r6 = extent_Whole_F t0 a9 (rd (0 : Int) x85 x87) → (
 wfR (.tup [.v (.st (.pair (.int .i64) (.pair (.int .i64) (.pair (.bool) (.bool))))) r6.1, .v (.int .i64) r6.2]) → (
 bif (!decide (r6.2 = (0 : Int))) then
 Y t0 a9 here15 found18 x85 x86 (IntKind.wrap .i64 (x87 + (1 : Int))) rv5b
 else
 bif (!eqT (.pair (.int .i64) (.pair (.int .i64) (.pair (.bool) (.bool)))) r6.1 rv5b) then
 Y t0 a9 here15 found18 x85 x86 (IntKind.wrap .i64 (x87 + (1 : Int))) rv5b
 else
 bif (decide ((0 : Int) ≤ found18)) then
 bif (decide (here15 ≤ found18)) then
 Y t0 a9 here15 found18 x85 x86 (IntKind.wrap .i64 (x87 + (1 : Int))) rv5b
 else
 Y t0 a9 here15 (rd (0 : Int) x85 x87) x85 x86 (IntKind.wrap .i64 (x87 + (1 : Int))) rv5b
 else
 Y t0 a9 here15 (rd (0 : Int) x85 x87) x85 x86 (IntKind.wrap .i64 (x87 + (1 : Int))) rv5b))
 else False
 else
 kx0 a9 found18
def oper_spanned_L0 (kx0 : Int → Int → Prop) : Nat → List Int → Int → Int → Int → List Int → Int → Int → (Int × Int × Bool × Bool) → Prop
  | 0, _, _, _, _, _, _, _, _ => False
  | n + 1, t0, a9, here15, found18, x85, x86, x87, rv5b => wfD oper_spanned_d0 (t0, a9, here15, found18, x85, x86, x87, rv5b, ()) → oper_spanned_T0 (oper_spanned_L0 kx0 n) kx0 t0 a9 here15 found18 x85 x86 x87 rv5b
theorem oper_spanned_s0 (k : Ex → St → Prop) (Y : vals oper_spanned_d0 → Prop) (t0 : List Int) (a9 : Int) (here15 : Int) (found18 : Int) (x85 : List Int) (x86 : Int) (x87 : Int) (rv5b : (Int × Int × Bool × Bool)) :
    ex tb (getG oper_spanned_G) [] (at' (bodyOf Tryd.f70) [0, 0, 1, 0, 1, 1, 1, 1, 1, 1, 1, 1, 1]) [0, 0, 1, 0, 1, 1, 1, 1, 1, 1, 1, 1, 1] (mkD 120 oper_spanned_d0 (t0, a9, here15, found18, x85, x86, x87, rv5b, ())) (lpK 120 oper_spanned_d0 oper_spanned_dx0 k Y) =
    oper_spanned_T0 (fun t0 a9 here15 found18 x85 x86 x87 rv5b => Y (t0, a9, here15, found18, x85, x86, x87, rv5b, ())) (fun a9 found18 => wfD oper_spanned_d0x0 (a9, found18, ()) → k (.exit 0) (mkD 120 oper_spanned_d0x0 (a9, found18, ()))) t0 a9 here15 found18 x85 x86 x87 rv5b := by kernel_rfl
theorem oper_spanned_e0 (k : Ex → St → Prop) : ∀ (n : Nat) (t0 : List Int) (a9 : Int) (here15 : Int) (found18 : Int) (x85 : List Int) (x86 : Int) (x87 : Int) (rv5b : (Int × Int × Bool × Bool)), lpD 120 oper_spanned_d0 oper_spanned_dx0 (ex tb (getG oper_spanned_G) [] (at' (bodyOf Tryd.f70) [0, 0, 1, 0, 1, 1, 1, 1, 1, 1, 1, 1, 1]) [0, 0, 1, 0, 1, 1, 1, 1, 1, 1, 1, 1, 1]) k n (t0, a9, here15, found18, x85, x86, x87, rv5b, ()) = oper_spanned_L0 (fun a9 found18 => wfD oper_spanned_d0x0 (a9, found18, ()) → k (.exit 0) (mkD 120 oper_spanned_d0x0 (a9, found18, ()))) n t0 a9 here15 found18 x85 x86 x87 rv5b
  | 0, _, _, _, _, _, _, _, _ => rfl
  | n + 1, t0, a9, here15, found18, x85, x86, x87, rv5b => congrArg (fun Z : Prop => wfD oper_spanned_d0 (t0, a9, here15, found18, x85, x86, x87, rv5b, ()) → Z) ((oper_spanned_s0 k (lpD 120 oper_spanned_d0 oper_spanned_dx0 (ex tb (getG oper_spanned_G) [] (at' (bodyOf Tryd.f70) [0, 0, 1, 0, 1, 1, 1, 1, 1, 1, 1, 1, 1]) [0, 0, 1, 0, 1, 1, 1, 1, 1, 1, 1, 1, 1]) k n) t0 a9 here15 found18 x85 x86 x87 rv5b).trans (congrArg (fun Y => oper_spanned_T0 Y (fun a9 found18 => wfD oper_spanned_d0x0 (a9, found18, ()) → k (.exit 0) (mkD 120 oper_spanned_d0x0 (a9, found18, ()))) t0 a9 here15 found18 x85 x86 x87 rv5b) (funext fun t0 => funext fun a9 => funext fun here15 => funext fun found18 => funext fun x85 => funext fun x86 => funext fun x87 => funext fun rv5b => oper_spanned_e0 k n t0 a9 here15 found18 x85 x86 x87 rv5b)))
theorem oper_spanned_v0 (k : Ex → St → Prop) (n : Nat) : ∀ v : vals oper_spanned_d0, lpD 120 oper_spanned_d0 oper_spanned_dx0 (ex tb (getG oper_spanned_G) [] (at' (bodyOf Tryd.f70) [0, 0, 1, 0, 1, 1, 1, 1, 1, 1, 1, 1, 1]) [0, 0, 1, 0, 1, 1, 1, 1, 1, 1, 1, 1, 1]) k n v = oper_spanned_L0 (fun a9 found18 => wfD oper_spanned_d0x0 (a9, found18, ()) → k (.exit 0) (mkD 120 oper_spanned_d0x0 (a9, found18, ()))) n v.1 v.2.1 v.2.2.1 v.2.2.2.1 v.2.2.2.2.1 v.2.2.2.2.2.1 v.2.2.2.2.2.2.1 v.2.2.2.2.2.2.2.1
  | (t0, a9, here15, found18, x85, x86, x87, rv5b, ()) => oper_spanned_e0 k n t0 a9 here15 found18 x85 x86 x87 rv5b
def oper_spanned_X0 : Pce := fun st k => ckD 120 oper_spanned_d0 st fun v => wfD oper_spanned_d0 v → ∃ n, oper_spanned_L0 (fun a9 found18 => wfD oper_spanned_d0x0 (a9, found18, ()) → k (.exit 0) (mkD 120 oper_spanned_d0x0 (a9, found18, ()))) n v.1 v.2.1 v.2.2.1 v.2.2.2.1 v.2.2.2.2.1 v.2.2.2.2.2.1 v.2.2.2.2.2.2.1 v.2.2.2.2.2.2.2.1
set_option maxRecDepth 20000 in
theorem oper_spanned_x0 : SemOk Tryd.prog (at' (bodyOf Tryd.f70) [0, 1, 0, 1, 1, 1, 1, 1, 1, 1, 1, 1]) oper_spanned_X0 :=
  (SemOk.loop (ex_sound tb_M tb_ok oper_spanned_Gok (LabsOk.nil) (at' (bodyOf Tryd.f70) [0, 0, 1, 0, 1, 1, 1, 1, 1, 1, 1, 1, 1]) [0, 0, 1, 0, 1, 1, 1, 1, 1, 1, 1, 1, 1] rfl (storesC_at oper_spanned_st [0, 0, 1, 0, 1, 1, 1, 1, 1, 1, 1, 1, 1])) 120 oper_spanned_d0 oper_spanned_dx0).mono fun st k h => ckD_mono h fun v hv hw => (hv hw).elim fun n hn => ⟨n, Eq.mpr (oper_spanned_v0 k n v) hn⟩
def oper_spanned_B0 : Labs := ([0, 1, 0, 1, 1, 1, 1, 1, 1, 1, 1, 1], oper_spanned_X0) :: []
theorem oper_spanned_b0 : LabsOk Tryd.prog (bodyOf Tryd.f70) oper_spanned_B0 := LabsOk.cons oper_spanned_x0 (LabsOk.nil)
def oper_spanned_d1 : List LS := [.v 0 (.sl (.int .u8)), .v 1 (.int .i64), .b 5 40 [], .v 9 (.int .i64), .c 40 (.st (.pair (.int .i64) (.pair (.int .i64) (.pair (.bool) (.bool)))))]
def oper_spanned_d1r : List LS := [.v 6 (.int .i64), .v 7 (.int .i64), .v 8 (.bool)]
def oper_spanned_dx1 : DX := ⟨none, some oper_spanned_d1r, []⟩
def oper_spanned_J1 (kr : Int → Int → Bool → Prop) (t0 : List Int) (at1 : Int) (a9 : Int) (rv5b : (Int × Int × Bool × Bool)) : Prop :=
 lines_Of_P t0 rv5b.2.1 ∧ (
 ∀ (r3 : Int × Int), r3 = lines_Of_F t0 rv5b.2.1 → (
 wfR (.tup [.v (.int .i64) r3.1, .v (.int .i64) r3.2]) → (
 lines_Of_P t0 at1 ∧ (
 ∀ (r4 : Int × Int), r4 = lines_Of_F t0 at1 → (
 wfR (.tup [.v (.int .i64) r4.1, .v (.int .i64) r4.2]) → (
 lines_Count_P t0 ∧ (
 ∀ (r5 : Int), r5 = lines_Count_F t0 → (
 wfR (.one (.v (.int .i64) r5)) → (
 (wfD oper_spanned_d0 (t0, a9, r4.1, (-1 : Int), ([(IntKind.wrap .i64 (r3.1 - (1 : Int))), (IntKind.wrap .i64 (r5 - (1 : Int)))] : List Int), (List.length ([(IntKind.wrap .i64 (r3.1 - (1 : Int))), (IntKind.wrap .i64 (r5 - (1 : Int)))] : List Int) : Int), (0 : Int), rv5b, ()) → ∃ n, oper_spanned_L0 (fun (a9 : Int) (found18 : Int) => wfD oper_spanned_d0x0 (a9, found18, ()) → (
 kr a9 found18 (decide ((0 : Int) ≤ found18)))) n t0 a9 r4.1 (-1 : Int) ([(IntKind.wrap .i64 (r3.1 - (1 : Int))), (IntKind.wrap .i64 (r5 - (1 : Int)))] : List Int) (List.length ([(IntKind.wrap .i64 (r3.1 - (1 : Int))), (IntKind.wrap .i64 (r5 - (1 : Int)))] : List Int) : Int) (0 : Int) rv5b))))))))))
theorem oper_spanned_s1 (k : Ex → St → Prop) (t0 : List Int) (at1 : Int) (a9 : Int) (rv5b : (Int × Int × Bool × Bool)) :
    ex tb (getG oper_spanned_G) oper_spanned_B0 (at' (bodyOf Tryd.f70) [1, 1, 1, 1, 1]) [1, 1, 1, 1, 1] (mkD 120 oper_spanned_d1 (t0, at1, a9, rv5b, ())) (wk 120 oper_spanned_dx1 k) =
    oper_spanned_J1 (fun x6 x7 x8 => wfD oper_spanned_d1r (x6, x7, x8, ()) → k .ret (mkD 120 oper_spanned_d1r (x6, x7, x8, ()))) t0 at1 a9 rv5b := by kernel_rfl
theorem oper_spanned_v1 (k : Ex → St → Prop) : ∀ v : vals oper_spanned_d1, ex tb (getG oper_spanned_G) oper_spanned_B0 (at' (bodyOf Tryd.f70) [1, 1, 1, 1, 1]) [1, 1, 1, 1, 1] (mkD 120 oper_spanned_d1 v) (wk 120 oper_spanned_dx1 k) = oper_spanned_J1 (fun x6 x7 x8 => wfD oper_spanned_d1r (x6, x7, x8, ()) → k .ret (mkD 120 oper_spanned_d1r (x6, x7, x8, ()))) v.1 v.2.1 v.2.2.1 v.2.2.2.1
  | (t0, at1, a9, rv5b, ()) => oper_spanned_s1 k t0 at1 a9 rv5b
def oper_spanned_X1 : Pce := fun st k => ckD 120 oper_spanned_d1 st fun v => wfD oper_spanned_d1 v → oper_spanned_J1 (fun x6 x7 x8 => wfD oper_spanned_d1r (x6, x7, x8, ()) → k .ret (mkD 120 oper_spanned_d1r (x6, x7, x8, ()))) v.1 v.2.1 v.2.2.1 v.2.2.2.1
set_option maxRecDepth 20000 in
theorem oper_spanned_x1 : SemOk Tryd.prog (at' (bodyOf Tryd.f70) [1, 1, 1, 1, 1]) oper_spanned_X1 :=
  (SemOk.wk (N := 120) (ds := oper_spanned_d1) (dx := oper_spanned_dx1) (ex_sound tb_M tb_ok oper_spanned_Gok (oper_spanned_b0) (at' (bodyOf Tryd.f70) [1, 1, 1, 1, 1]) [1, 1, 1, 1, 1] rfl (storesC_at oper_spanned_st [1, 1, 1, 1, 1]))).mono fun st k h => ckD_mono h fun v hv hw => Eq.mpr (oper_spanned_v1 k v) (hv hw)
def oper_spanned_B1 : Labs := ([1, 1, 1, 1, 1], oper_spanned_X1) :: oper_spanned_B0
theorem oper_spanned_b1 : LabsOk Tryd.prog (bodyOf Tryd.f70) oper_spanned_B1 := LabsOk.cons oper_spanned_x1 (oper_spanned_b0)
def oper_spanned_raw (t0 : List Int) (at1 : Int) (rv2 : (Int × Int × Bool × Bool)) (K : Res → List Cell → Prop) : Prop :=
 lines_Of_P t0 rv2.1 ∧ (
 ∀ (r1 : Int × Int), r1 = lines_Of_F t0 rv2.1 → (
 wfR (.tup [.v (.int .i64) r1.1, .v (.int .i64) r1.2]) → (
 bif (!decide (r1.2 = (0 : Int))) then
 K (.tup [.v (.int .i64) (0 : Int), .v (.int .i64) (0 : Int), .v (.bool) false]) []
 else
 bif (decide (rv2.2.1 < rv2.1)) then
 K (.tup [.v (.int .i64) (0 : Int), .v (.int .i64) (0 : Int), .v (.bool) false]) []
 else
 bif (decide ((List.length t0 : Int) < rv2.2.1)) then
 K (.tup [.v (.int .i64) (0 : Int), .v (.int .i64) (0 : Int), .v (.bool) false]) []
 else
 bif (!rv2.2.2.1) then
 lines_Of_P t0 (mx rv2.1 (IntKind.wrap .i64 (rv2.2.1 - (1 : Int)))) ∧ (
 ∀ (r2 : Int × Int), r2 = lines_Of_F t0 (mx rv2.1 (IntKind.wrap .i64 (rv2.2.1 - (1 : Int)))) → (
 wfR (.tup [.v (.int .i64) r2.1, .v (.int .i64) r2.2]) → (
 K (.tup [.v (.int .i64) r1.1, .v (.int .i64) r2.1, .v (.bool) true]) [])))
 else
 bif rv2.2.2.2 then
 (wfD oper_spanned_d1 (t0, at1, (IntKind.wrap .i64 (r1.1 + (1 : Int))), rv2, ()) → oper_spanned_J1 (fun (x6 : Int) (x7 : Int) (x8 : Bool) => wfD oper_spanned_d1r (x6, x7, x8, ()) → (
 K (.tup [.v (.int .i64) x6, .v (.int .i64) x7, .v (.bool) x8]) [])) t0 at1 (IntKind.wrap .i64 (r1.1 + (1 : Int))) rv2)
 else
 (wfD oper_spanned_d1 (t0, at1, r1.1, rv2, ()) → oper_spanned_J1 (fun (x6 : Int) (x7 : Int) (x8 : Bool) => wfD oper_spanned_d1r (x6, x7, x8, ()) → (
 K (.tup [.v (.int .i64) x6, .v (.int .i64) x7, .v (.bool) x8]) [])) t0 at1 r1.1 rv2))))
def oper_spanned_A : List AS := [.v (.sl (.int .u8)), .v (.int .i64), .v (.st (.pair (.int .i64) (.pair (.int .i64) (.pair (.bool) (.bool)))))]
theorem oper_spanned_walk (t0 : List Int) (at1 : Int) (rv2 : (Int × Int × Bool × Bool)) (K : Res → List Cell → Prop) : runF tb (getG oper_spanned_G) oper_spanned_B1 Tryd.f70 [true, true, true] (mkA oper_spanned_A (t0, at1, rv2, ())) K = oper_spanned_raw t0 at1 rv2 K := by kernel_rfl
def spanStep (t : List Int) (a here : Int) (r : Int × Int × Bool × Bool) (found b : Int) : Int :=
  if (extent_Whole_F t a b).2 = 0 ∧ eqT (.pair (.int .i64) (.pair (.int .i64) (.pair (.bool) (.bool)))) (extent_Whole_F t a b).1 r = true ∧ ¬ (0 ≤ found ∧ here ≤ found) then b else found
def oper_spanned_L0_P (t : List Int) (a here found : Int) (xs : List Int) (n i : Int) (r : Int × Int × Bool × Bool) : Prop := n = xs.length ∧ i = 0 ∧ n ≤ 1000
def oper_spanned_L0_F (t : List Int) (a here found : Int) (xs : List Int) (n i : Int) (r : Int × Int × Bool × Bool) : Int × Int := (a, xs.foldl (spanStep t a here r) found)
theorem oper_spanned_l0 (kx0 : Int → Int → Prop) (t : List Int) (a here : Int) (xs : List Int) (r : Int × Int × Bool × Bool) (hx : xs.length ≤ 1000) : ∀ (m i : Nat) (found : Int), xs.length < m + i → i ≤ xs.length →
    kx0 a ((xs.drop i).foldl (spanStep t a here r) found) → oper_spanned_L0 kx0 m t a here found xs (xs.length : Int) (i : Int) r
  | 0, i, found, h, h2, _ => by omega
  | m + 1, i, found, h, h2, hk => by
    intro _
    unfold oper_spanned_T0
    refine brn (fun hlt => asrt ⟨by omega, by omega⟩ ?_) (fun hge => ?_)
    · have hi : i < xs.length := by omega
      rw [List.drop_eq_getElem_cons hi, List.foldl_cons] at hk
      rw [rd_nat _ _ _ hi]
      intro r6 h6 _
      subst h6
      have next : ∀ f', f' = spanStep t a here r found xs[i] → oper_spanned_L0 kx0 m t a here f' xs (xs.length : Int) (IntKind.wrap .i64 ((i : Int) + 1)) r := fun f' hf => by
        rw [wrap_i64 (by omega) (by omega), show (i : Int) + 1 = ((i + 1 : Nat) : Int) by omega]
        exact oper_spanned_l0 kx0 t a here xs r hx m (i + 1) f' (by omega) (by omega) (by rw [hf]; exact hk)
      refine brx (fun c => next _ ?_) (fun c1 => brb (fun c => next _ ?_) (fun c2 => brn (fun c3 => brn (fun c4 => next _ ?_) (fun c4 => next _ ?_)) (fun c3 => next _ ?_)))
      · unfold spanStep; rw [if_neg (fun hh => c hh.1)]
      · unfold spanStep; rw [if_neg (fun hh => by rw [hh.2.1] at c; cases c)]
      · unfold spanStep; rw [if_neg (fun hh => hh.2.2 ⟨c3, c4⟩)]
      · unfold spanStep; rw [if_pos ⟨c1, by simpa using c2, fun hh => c4 hh.2⟩]
      · unfold spanStep; rw [if_pos ⟨c1, by simpa using c2, fun hh => c3 hh.1⟩]
    · have : i = xs.length := by omega
      rw [this, List.drop_length] at hk
      exact hk
theorem oper_spanned_L0_sp (kx0 : Int → Int → Prop) (t : List Int) (a here found : Int) (xs : List Int) (n i : Int) (r : Int × Int × Bool × Bool) (hp : oper_spanned_L0_P t a here found xs n i r) (h : ∀ q : Int × Int, q = oper_spanned_L0_F t a here found xs n i r → kx0 q.1 q.2) : ∃ m, oper_spanned_L0 kx0 m t a here found xs n i r := by
  obtain ⟨rfl, rfl, hx⟩ := hp
  exact ⟨xs.length + 1, oper_spanned_l0 kx0 t a here xs r (by omega) (xs.length + 1) 0 found (by omega) (Nat.zero_le _) (h _ rfl)⟩

def oper_spanned_J1_P (t0 : List Int) (at1 : Int) (a9 : Int) (rv5b : (Int × Int × Bool × Bool)) : Prop :=
 lines_Of_P t0 rv5b.2.1 ∧ (
 let r3 : Int × Int := lines_Of_F t0 rv5b.2.1
 lines_Of_P t0 at1 ∧ (
 let r4 : Int × Int := lines_Of_F t0 at1
 lines_Count_P t0 ∧ (
 let r5 : Int := lines_Count_F t0
 oper_spanned_L0_P t0 a9 r4.1 (-1 : Int) ([(IntKind.wrap .i64 (r3.1 - (1 : Int))), (IntKind.wrap .i64 (r5 - (1 : Int)))] : List Int) (List.length ([(IntKind.wrap .i64 (r3.1 - (1 : Int))), (IntKind.wrap .i64 (r5 - (1 : Int)))] : List Int) : Int) (0 : Int) rv5b)))
def oper_spanned_J1_F (t0 : List Int) (at1 : Int) (a9 : Int) (rv5b : (Int × Int × Bool × Bool)) : Int × Int × Bool :=
 let r3 : Int × Int := lines_Of_F t0 rv5b.2.1
 let r4 : Int × Int := lines_Of_F t0 at1
 let r5 : Int := lines_Count_F t0
 let q0x0 : Int × Int := oper_spanned_L0_F t0 a9 r4.1 (-1 : Int) ([(IntKind.wrap .i64 (r3.1 - (1 : Int))), (IntKind.wrap .i64 (r5 - (1 : Int)))] : List Int) (List.length ([(IntKind.wrap .i64 (r3.1 - (1 : Int))), (IntKind.wrap .i64 (r5 - (1 : Int)))] : List Int) : Int) (0 : Int) rv5b
 let a9 : Int := q0x0.1
 let found18 : Int := q0x0.2
 (a9, found18, (decide ((0 : Int) ≤ found18)))
set_option maxRecDepth 20000 in
theorem oper_spanned_J1_sp (kr : Int → Int → Bool → Prop) (t0 : List Int) (at1 : Int) (a9 : Int) (rv5b : (Int × Int × Bool × Bool)) (hp : oper_spanned_J1_P t0 at1 a9 rv5b) (hr : ∀ q : Int × Int × Bool, q = oper_spanned_J1_F t0 at1 a9 rv5b → kr q.1 q.2.1 q.2.2) : oper_spanned_J1 kr t0 at1 a9 rv5b := by
  unfold oper_spanned_J1
  unfold oper_spanned_J1_P at hp
  refine ⟨hp.1, ?_⟩
  replace hp := hp.2
  intro r3 hr3
  subst r3
  intro _
  refine ⟨hp.1, ?_⟩
  replace hp := hp.2
  intro r4 hr4
  subst r4
  intro _
  refine ⟨hp.1, ?_⟩
  replace hp := hp.2
  intro r5 hr5
  subst r5
  intro _
  refine fun _ => oper_spanned_L0_sp _ _ _ _ _ _ _ _ _ hp (fun q hq => ?_)
  subst hq
  intro _
  clear hp
  exact hr _ rfl
def oper_spanned_P (t0 : List Int) (at1 : Int) (rv2 : (Int × Int × Bool × Bool)) : Prop :=
 lines_Of_P t0 rv2.1 ∧ (
 let r1 : Int × Int := lines_Of_F t0 rv2.1
 bif (!decide (r1.2 = (0 : Int))) then
 True
 else
 bif (decide (rv2.2.1 < rv2.1)) then
 True
 else
 bif (decide ((List.length t0 : Int) < rv2.2.1)) then
 True
 else
 bif (!rv2.2.2.1) then
 lines_Of_P t0 (mx rv2.1 (IntKind.wrap .i64 (rv2.2.1 - (1 : Int))))
 else
 bif rv2.2.2.2 then
 oper_spanned_J1_P t0 at1 (IntKind.wrap .i64 (r1.1 + (1 : Int))) rv2
 else
 oper_spanned_J1_P t0 at1 r1.1 rv2)
def oper_spanned_F (t0 : List Int) (at1 : Int) (rv2 : (Int × Int × Bool × Bool)) : Int × Int × Bool :=
 let r1 : Int × Int := lines_Of_F t0 rv2.1
 bif (!decide (r1.2 = (0 : Int))) then
 ((0 : Int), (0 : Int), false)
 else
 bif (decide (rv2.2.1 < rv2.1)) then
 ((0 : Int), (0 : Int), false)
 else
 bif (decide ((List.length t0 : Int) < rv2.2.1)) then
 ((0 : Int), (0 : Int), false)
 else
 bif (!rv2.2.2.1) then
 let r2 : Int × Int := lines_Of_F t0 (mx rv2.1 (IntKind.wrap .i64 (rv2.2.1 - (1 : Int))))
 (r1.1, r2.1, true)
 else
 bif rv2.2.2.2 then
 let q1r : Int × Int × Bool := oper_spanned_J1_F t0 at1 (IntKind.wrap .i64 (r1.1 + (1 : Int))) rv2
 let x6 : Int := q1r.1
 let x7 : Int := q1r.2.1
 let x8 : Bool := q1r.2.2
 (x6, x7, x8)
 else
 let q1r : Int × Int × Bool := oper_spanned_J1_F t0 at1 r1.1 rv2
 let x6 : Int := q1r.1
 let x7 : Int := q1r.2.1
 let x8 : Bool := q1r.2.2
 (x6, x7, x8)
set_option maxRecDepth 20000 in
theorem oper_spanned_sp (t0 : List Int) (at1 : Int) (rv2 : (Int × Int × Bool × Bool)) (K : Res → List Cell → Prop) (_ : wfA oper_spanned_A (t0, at1, rv2, ())) (hp : oper_spanned_P t0 at1 rv2) (h : ∀ r : Int × Int × Bool, r = oper_spanned_F t0 at1 rv2 → K (.tup [.v (.int .i64) r.1, .v (.int .i64) r.2.1, .v (.bool) r.2.2]) []) : oper_spanned_raw t0 at1 rv2 K := by
  unfold oper_spanned_raw
  unfold oper_spanned_P at hp
  refine ⟨hp.1, ?_⟩
  replace hp := hp.2
  intro r1 hr1
  subst r1
  intro _
  refine brb (fun c_1 => ?_) (fun c_1 => ?_)
  ·
    clear hp
    have e := h _ ((ctrue c_1) : oper_spanned_F t0 at1 rv2 = _).symm
    exact e
  ·
    replace hp := cF c_1 hp
    refine brb (fun c_2 => ?_) (fun c_2 => ?_)
    ·
      clear hp
      have e := h _ ((Eq.trans (cfalse c_1) (ctrue c_2)) : oper_spanned_F t0 at1 rv2 = _).symm
      exact e
    ·
      replace hp := cF c_2 hp
      refine brb (fun c_3 => ?_) (fun c_3 => ?_)
      ·
        clear hp
        have e := h _ ((Eq.trans (cfalse c_1) (Eq.trans (cfalse c_2) (ctrue c_3))) : oper_spanned_F t0 at1 rv2 = _).symm
        exact e
      ·
        replace hp := cF c_3 hp
        refine brb (fun c_4 => ?_) (fun c_4 => ?_)
        ·
          replace hp := cT c_4 hp
          refine ⟨hp, ?_⟩
          intro r2 hr2
          subst r2
          intro _
          have e := h _ ((Eq.trans (cfalse c_1) (Eq.trans (cfalse c_2) (Eq.trans (cfalse c_3) (ctrue c_4)))) : oper_spanned_F t0 at1 rv2 = _).symm
          exact e
        ·
          replace hp := cF c_4 hp
          refine brb (fun c_5 => ?_) (fun c_5 => ?_)
          ·
            replace hp := cT c_5 hp
            refine fun _ => oper_spanned_J1_sp _ _ _ _ _ hp (fun q hq => ?_)
            subst hq
            intro _
            clear hp
            have e := h _ ((Eq.trans (cfalse c_1) (Eq.trans (cfalse c_2) (Eq.trans (cfalse c_3) (Eq.trans (cfalse c_4) (ctrue c_5))))) : oper_spanned_F t0 at1 rv2 = _).symm
            exact e
          ·
            replace hp := cF c_5 hp
            refine fun _ => oper_spanned_J1_sp _ _ _ _ _ hp (fun q hq => ?_)
            subst hq
            intro _
            clear hp
            have e := h _ ((Eq.trans (cfalse c_1) (Eq.trans (cfalse c_2) (Eq.trans (cfalse c_3) (Eq.trans (cfalse c_4) (cfalse c_5))))) : oper_spanned_F t0 at1 rv2 = _).symm
            exact e
def oper_spanned_C (v : valsA oper_spanned_A) (K : Res → List Cell → Prop) : Prop := oper_spanned_P v.1 v.2.1 v.2.2.1 ∧ ∀ r : Int × Int × Bool, r = oper_spanned_F v.1 v.2.1 v.2.2.1 → K (.tup [.v (.int .i64) r.1, .v (.int .i64) r.2.1, .v (.bool) r.2.2]) []
def oper_spanned_S : App := specW oper_spanned_A oper_spanned_C
theorem oper_spanned_wv (K : Res → List Cell → Prop) : ∀ v : valsA oper_spanned_A, runF tb (getG oper_spanned_G) oper_spanned_B1 Tryd.f70 [true, true, true] (mkA oper_spanned_A v) K = oper_spanned_raw v.1 v.2.1 v.2.2.1 K
  | (t0, at1, rv2, ()) => oper_spanned_walk t0 at1 rv2 K
set_option maxRecDepth 20000 in
theorem oper_spanned_ok : AppOk Tryd.prog 70 oper_spanned_S :=
  AppOk.specW (spec_ok ((runF_ok tb_M tb_ok oper_spanned_Gok (oper_spanned_b1) (f := 70) (fn := Tryd.f70) (by kernel_rfl) (by kernel_rfl) oper_spanned_st [true, true, true])) fun v K hw h => (oper_spanned_wv K v).mpr (oper_spanned_sp v.1 v.2.1 v.2.2.1 K hw h.1 h.2))

end Go.VE
namespace Go.VE
open Go Go.Proofs
/-! ### bytes.Clone -/
def bytes_Clone_G : List (Nat × App) := []
theorem bytes_Clone_Gok : GOk Tryd.prog (getG bytes_Clone_G) := GOk.nil
def bytes_Clone_raw (b0 : List Int) (K : Res → List Cell → Prop) : Prop :=
 (
 bif decide (List.length ([] : List Int) + List.length b0 ≤ lim) then
 K (.one (.fr 5 (.int .u8) (([] : List Int) ++ b0))) []
 else False) ∧ (bif decide (List.length b0 = 0) then
 K (.one (.fr 5 (.int .u8) ([] : List Int))) []
 else True)
def bytes_Clone_A : List AS := [.v (.sl (.int .u8))]
theorem bytes_Clone_walk (b0 : List Int) (K : Res → List Cell → Prop) : runF tb (getG bytes_Clone_G) [] Tryd.f60 [true] (mkA bytes_Clone_A (b0, ())) K = bytes_Clone_raw b0 K := by kernel_rfl
--! pre 1
def bytes_Clone_P (b : List Int) : Prop := b.length ≤ lim
def bytes_Clone_F (b : List Int) : List Int := b
theorem bytes_Clone_sp (b : List Int) (K : Res → List Cell → Prop) (_ : wfA bytes_Clone_A (b, ())) (hp : bytes_Clone_P b) (h : ∀ r : List Int, r = bytes_Clone_F b → K (.one (.fr 5 (.int .u8) r)) []) : bytes_Clone_raw b K := by
  unfold bytes_Clone_raw
  unfold bytes_Clone_P at hp
  refine ⟨asrt (by simpa using hp) (h _ rfl), ?_⟩
  by_cases hz : b.length = 0
  · rw [decide_eq_true hz]
    exact h _ (List.eq_nil_of_length_eq_zero hz).symm
  · rw [decide_eq_false hz]; trivial

def bytes_Clone_C (v : valsA bytes_Clone_A) (K : Res → List Cell → Prop) : Prop := bytes_Clone_P v.1 ∧ ∀ r : List Int, r = bytes_Clone_F v.1 → K (.one (.fr 5 (.int .u8) r)) []
def bytes_Clone_S : App := specW bytes_Clone_A bytes_Clone_C
theorem bytes_Clone_wv (K : Res → List Cell → Prop) : ∀ v : valsA bytes_Clone_A, runF tb (getG bytes_Clone_G) [] Tryd.f60 [true] (mkA bytes_Clone_A v) K = bytes_Clone_raw v.1 K
  | (b0, ()) => bytes_Clone_walk b0 K
set_option maxRecDepth 20000 in
theorem bytes_Clone_ok : AppOk Tryd.prog 60 bytes_Clone_S :=
  AppOk.specW (spec_ok ((runF_ok tb_M tb_ok bytes_Clone_Gok (LabsOk.nil) (f := 60) (fn := Tryd.f60) (by kernel_rfl) (by kernel_rfl) (by kernel_rfl) [true])) fun v K hw h => (bytes_Clone_wv K v).mpr (bytes_Clone_sp v.1 K hw h.1 h.2))

end Go.VE
namespace Go.VE
open Go Go.Proofs
/-! ### quoin/oper.edited -/
def oper_edited_G : List (Nat × App) := [(95, bytes_Equal_S), (60, bytes_Clone_S)]
theorem oper_edited_Gok : GOk Tryd.prog (getG oper_edited_G) := GOk.cons bytes_Equal_ok (GOk.cons bytes_Clone_ok (GOk.nil))
def oper_edited_raw (t0 : List Int) (from1 : Int) (to2 : Int) (p3 : List Int) (K : Res → List Cell → Prop) : Prop :=
 bif decide (0 ≤ from1 ∧ from1 ≤ to2 ∧ to2 ≤ (List.length t0 : Int)) then
 ∀ (r1 : Bool), r1 = bytes_Equal_F (slc t0 from1 to2) p3 → (
 wfR (.one (.v (.bool) r1)) → (
 bif r1 then
 K (.one (.fr 95 (.st (.pair (.int .i64) (.pair (.sl (.int .u8)) (.sl (.int .u8))))) ([] : List ((Int × List Int × List Int))))) []
 else
 bif decide (0 ≤ from1 ∧ from1 ≤ to2 ∧ to2 ≤ (List.length t0 : Int)) then
 bytes_Clone_P (slc t0 from1 to2) ∧ (
 ∀ (r2 : List Int), r2 = bytes_Clone_F (slc t0 from1 to2) → (
 wfR (.one (.fr 5 (.int .u8) r2)) → (
 bytes_Clone_P p3 ∧ (
 ∀ (r3 : List Int), r3 = bytes_Clone_F p3 → (
 wfR (.one (.fr 5 (.int .u8) r3)) → (
 K (.one (.fr 95 (.st (.pair (.int .i64) (.pair (.sl (.int .u8)) (.sl (.int .u8))))) ([(from1, r2, r3)] : List ((Int × List Int × List Int))))) []))))))
 else False))
 else False
def oper_edited_A : List AS := [.v (.sl (.int .u8)), .v (.int .i64), .v (.int .i64), .v (.sl (.int .u8))]
theorem oper_edited_walk (t0 : List Int) (from1 : Int) (to2 : Int) (p3 : List Int) (K : Res → List Cell → Prop) : runF tb (getG oper_edited_G) [] Tryd.f64 [true] (mkA oper_edited_A (t0, from1, to2, p3, ())) K = oper_edited_raw t0 from1 to2 p3 K := by kernel_rfl

def oper_edited_P (t0 : List Int) (from1 : Int) (to2 : Int) (p3 : List Int) : Prop :=
 (0 ≤ from1 ∧ from1 ≤ to2 ∧ to2 ≤ (List.length t0 : Int)) ∧ (
 let r1 : Bool := bytes_Equal_F (slc t0 from1 to2) p3
 bif r1 then
 True
 else
 (0 ≤ from1 ∧ from1 ≤ to2 ∧ to2 ≤ (List.length t0 : Int)) ∧ (
 bytes_Clone_P (slc t0 from1 to2) ∧ (
 let r2 : List Int := bytes_Clone_F (slc t0 from1 to2)
 bytes_Clone_P p3)))
def oper_edited_F (t0 : List Int) (from1 : Int) (to2 : Int) (p3 : List Int) : List ((Int × List Int × List Int)) :=
 let r1 : Bool := bytes_Equal_F (slc t0 from1 to2) p3
 bif r1 then
 ([] : List ((Int × List Int × List Int)))
 else
 let r2 : List Int := bytes_Clone_F (slc t0 from1 to2)
 let r3 : List Int := bytes_Clone_F p3
 ([(from1, r2, r3)] : List ((Int × List Int × List Int)))
set_option maxRecDepth 20000 in
theorem oper_edited_sp (t0 : List Int) (from1 : Int) (to2 : Int) (p3 : List Int) (K : Res → List Cell → Prop) (_ : wfA oper_edited_A (t0, from1, to2, p3, ())) (hp : oper_edited_P t0 from1 to2 p3) (h : ∀ r : List ((Int × List Int × List Int)), r = oper_edited_F t0 from1 to2 p3 → K (.one (.fr 95 (.st (.pair (.int .i64) (.pair (.sl (.int .u8)) (.sl (.int .u8))))) r)) []) : oper_edited_raw t0 from1 to2 p3 K := by
  unfold oper_edited_raw
  unfold oper_edited_P at hp
  refine asrt hp.1 ?_
  replace hp := hp.2
  intro r1 hr1
  subst r1
  intro _
  refine brb (fun c_1 => ?_) (fun c_1 => ?_)
  ·
    clear hp
    exact h _ ((ctrue c_1) : oper_edited_F t0 from1 to2 p3 = _).symm
  ·
    replace hp := cF c_1 hp
    refine asrt hp.1 ?_
    replace hp := hp.2
    refine ⟨hp.1, ?_⟩
    replace hp := hp.2
    intro r2 hr2
    subst r2
    intro _
    refine ⟨hp, ?_⟩
    intro r3 hr3
    subst r3
    intro _
    exact h _ ((cfalse c_1) : oper_edited_F t0 from1 to2 p3 = _).symm
def oper_edited_C (v : valsA oper_edited_A) (K : Res → List Cell → Prop) : Prop := oper_edited_P v.1 v.2.1 v.2.2.1 v.2.2.2.1 ∧ ∀ r : List ((Int × List Int × List Int)), r = oper_edited_F v.1 v.2.1 v.2.2.1 v.2.2.2.1 → K (.one (.fr 95 (.st (.pair (.int .i64) (.pair (.sl (.int .u8)) (.sl (.int .u8))))) r)) []
def oper_edited_S : App := specW oper_edited_A oper_edited_C
theorem oper_edited_wv (K : Res → List Cell → Prop) : ∀ v : valsA oper_edited_A, runF tb (getG oper_edited_G) [] Tryd.f64 [true] (mkA oper_edited_A v) K = oper_edited_raw v.1 v.2.1 v.2.2.1 v.2.2.2.1 K
  | (t0, from1, to2, p3, ()) => oper_edited_walk t0 from1 to2 p3 K
set_option maxRecDepth 20000 in
theorem oper_edited_ok : AppOk Tryd.prog 64 oper_edited_S :=
  AppOk.specW (spec_ok ((runF_ok tb_M tb_ok oper_edited_Gok (LabsOk.nil) (f := 64) (fn := Tryd.f64) (by kernel_rfl) (by kernel_rfl) (by kernel_rfl) [true])) fun v K hw h => (oper_edited_wv K v).mpr (oper_edited_sp v.1 v.2.1 v.2.2.1 v.2.2.2.1 K hw h.1 h.2))

end Go.VE
namespace Go.VE
open Go Go.Proofs
/-! ### slices.Clone[[]byte,byte] -/
def slC_G : List (Nat × App) := []
theorem slC_Gok : GOk Tryd.prog (getG slC_G) := GOk.nil
def slC_raw (s0 : List Int) (K : Res → List Cell → Prop) : Prop :=
 (
 bif decide (List.length ([] : List Int) + List.length s0 ≤ lim) then
 K (.one (.fr 5 (.int .u8) (([] : List Int) ++ s0))) []
 else False) ∧ (bif decide (List.length s0 = 0) then
 K (.one (.fr 5 (.int .u8) ([] : List Int))) []
 else True)
def slC_A : List AS := [.v (.sl (.int .u8))]
theorem slC_walk (s0 : List Int) (K : Res → List Cell → Prop) : runF tb (getG slC_G) [] Tryd.f172 [true] (mkA slC_A (s0, ())) K = slC_raw s0 K := by kernel_rfl
--! pre 1
def slC_P (s : List Int) : Prop := s.length ≤ lim
def slC_F (s : List Int) : List Int := s
theorem slC_sp (s : List Int) (K : Res → List Cell → Prop) (_ : wfA slC_A (s, ())) (hp : slC_P s) (h : ∀ r : List Int, r = slC_F s → K (.one (.fr 5 (.int .u8) r)) []) : slC_raw s K := by
  unfold slC_raw
  unfold slC_P at hp
  refine ⟨asrt (by simpa using hp) (h _ rfl), ?_⟩
  by_cases hz : s.length = 0
  · rw [decide_eq_true hz]
    exact h _ (List.eq_nil_of_length_eq_zero hz).symm
  · rw [decide_eq_false hz]; trivial

def slC_C (v : valsA slC_A) (K : Res → List Cell → Prop) : Prop := slC_P v.1 ∧ ∀ r : List Int, r = slC_F v.1 → K (.one (.fr 5 (.int .u8) r)) []
def slC_S : App := specW slC_A slC_C
theorem slC_wv (K : Res → List Cell → Prop) : ∀ v : valsA slC_A, runF tb (getG slC_G) [] Tryd.f172 [true] (mkA slC_A v) K = slC_raw v.1 K
  | (s0, ()) => slC_walk s0 K
set_option maxRecDepth 20000 in
theorem slC_ok : AppOk Tryd.prog 172 slC_S :=
  AppOk.specW (spec_ok ((runF_ok tb_M tb_ok slC_Gok (LabsOk.nil) (f := 172) (fn := Tryd.f172) (by kernel_rfl) (by kernel_rfl) (by kernel_rfl) [true])) fun v K hw h => (slC_wv K v).mpr (slC_sp v.1 K hw h.1 h.2))

end Go.VE
namespace Go.VE
open Go Go.Proofs
/-! ### quoin/extent.Take -/
def extent_Take_G : List (Nat × App) := [(172, slC_S)]
theorem extent_Take_Gok : GOk Tryd.prog (getG extent_Take_G) := GOk.cons slC_ok (GOk.nil)
theorem extent_Take_st : storesC (bodyOf Tryd.f159) = true := by kernel_rfl
def extent_Take_d0 : List LS := [.b 3 24 [], .b 4 32 [], .v 6 (.sl (.int .u8)), .c 24 (.st (.pair (.int .i64) (.pair (.int .i64) (.pair (.bool) (.bool))))), .c 32 (.st (.pair (.bool) (.pair (.bool) (.sl (.int .u8)))))]
def extent_Take_d0r : List LS := [.b 4 32 [], .v 5 (.int .i64), .c 32 (.st (.pair (.bool) (.pair (.bool) (.sl (.int .u8)))))]
def extent_Take_dx0 : DX := ⟨none, some extent_Take_d0r, []⟩
def extent_Take_J0 (kr : Int → (Bool × Bool × List Int) → Prop) (text6 : List Int) (rv3b : (Int × Int × Bool × Bool)) (x4b : (Bool × Bool × List Int)) : Prop :=
 slC_P text6 ∧ (
 ∀ (r2 : List Int), r2 = slC_F text6 → (
 wfR (.one (.fr 5 (.int .u8) r2)) → (
 bif rv3b.2.2.2 then
 bif decide (List.length r2 + List.length ([(10 : Int)] : List Int) ≤ lim) then
 kr (0 : Int) (true, true, (r2 ++ ([(10 : Int)] : List Int)))
 else False
 else
 bif (decide ((List.length r2 : Int) = (0 : Int))) then
 bif decide (List.length r2 + List.length ([(10 : Int)] : List Int) ≤ lim) then
 kr (0 : Int) (true, true, (r2 ++ ([(10 : Int)] : List Int)))
 else False
 else
 bif decide (0 ≤ (IntKind.wrap .i64 ((List.length r2 : Int) - (1 : Int))) ∧ (IntKind.wrap .i64 ((List.length r2 : Int) - (1 : Int))) < (List.length r2 : Int)) then
 bif (!decide ((rd (0 : Int) r2 (IntKind.wrap .i64 ((List.length r2 : Int) - (1 : Int)))) = (10 : Int))) then
 bif decide (List.length r2 + List.length ([(10 : Int)] : List Int) ≤ lim) then
 kr (0 : Int) (true, true, (r2 ++ ([(10 : Int)] : List Int)))
 else False
 else
 kr (0 : Int) (true, true, r2)
 else False)))
theorem extent_Take_s0 (k : Ex → St → Prop) (text6 : List Int) (rv3b : (Int × Int × Bool × Bool)) (x4b : (Bool × Bool × List Int)) :
    ex tb (getG extent_Take_G) [] (at' (bodyOf Tryd.f159) [1, 1, 1, 1, 1]) [1, 1, 1, 1, 1] (mkD 93 extent_Take_d0 (text6, rv3b, x4b, ())) (wk 93 extent_Take_dx0 k) =
    extent_Take_J0 (fun x5 x4b => wfD extent_Take_d0r (x5, x4b, ()) → k .ret (mkD 93 extent_Take_d0r (x5, x4b, ()))) text6 rv3b x4b := by kernel_rfl
theorem extent_Take_v0 (k : Ex → St → Prop) : ∀ v : vals extent_Take_d0, ex tb (getG extent_Take_G) [] (at' (bodyOf Tryd.f159) [1, 1, 1, 1, 1]) [1, 1, 1, 1, 1] (mkD 93 extent_Take_d0 v) (wk 93 extent_Take_dx0 k) = extent_Take_J0 (fun x5 x4b => wfD extent_Take_d0r (x5, x4b, ()) → k .ret (mkD 93 extent_Take_d0r (x5, x4b, ()))) v.1 v.2.1 v.2.2.1
  | (text6, rv3b, x4b, ()) => extent_Take_s0 k text6 rv3b x4b
def extent_Take_X0 : Pce := fun st k => ckD 93 extent_Take_d0 st fun v => wfD extent_Take_d0 v → extent_Take_J0 (fun x5 x4b => wfD extent_Take_d0r (x5, x4b, ()) → k .ret (mkD 93 extent_Take_d0r (x5, x4b, ()))) v.1 v.2.1 v.2.2.1
set_option maxRecDepth 20000 in
theorem extent_Take_x0 : SemOk Tryd.prog (at' (bodyOf Tryd.f159) [1, 1, 1, 1, 1]) extent_Take_X0 :=
  (SemOk.wk (N := 93) (ds := extent_Take_d0) (dx := extent_Take_dx0) (ex_sound tb_M tb_ok extent_Take_Gok (LabsOk.nil) (at' (bodyOf Tryd.f159) [1, 1, 1, 1, 1]) [1, 1, 1, 1, 1] rfl (storesC_at extent_Take_st [1, 1, 1, 1, 1]))).mono fun st k h => ckD_mono h fun v hv hw => Eq.mpr (extent_Take_v0 k v) (hv hw)
def extent_Take_B0 : Labs := ([1, 1, 1, 1, 1], extent_Take_X0) :: []
theorem extent_Take_b0 : LabsOk Tryd.prog (bodyOf Tryd.f159) extent_Take_B0 := LabsOk.cons extent_Take_x0 (LabsOk.nil)
def extent_Take_raw (t0 : List Int) (rv1 : (Int × Int × Bool × Bool)) (K : Res → List Cell → Prop) : Prop :=
 bif (decide (rv1.1 < (0 : Int))) then
 K (.tup [.v (.st (.pair (.bool) (.pair (.bool) (.sl (.int .u8))))) (false, false, ([] : List Int)), .v (.int .i64) (2 : Int)]) []
 else
 bif (decide (rv1.2.1 < rv1.1)) then
 K (.tup [.v (.st (.pair (.bool) (.pair (.bool) (.sl (.int .u8))))) (false, false, ([] : List Int)), .v (.int .i64) (2 : Int)]) []
 else
 bif (decide ((List.length t0 : Int) < rv1.2.1)) then
 K (.tup [.v (.st (.pair (.bool) (.pair (.bool) (.sl (.int .u8))))) (false, false, ([] : List Int)), .v (.int .i64) (2 : Int)]) []
 else
 bif (!rv1.2.2.1) then
 bif decide (0 ≤ rv1.1 ∧ rv1.1 ≤ rv1.2.1 ∧ rv1.2.1 ≤ (List.length t0 : Int)) then
 slC_P (slc t0 rv1.1 rv1.2.1) ∧ (
 ∀ (r1 : List Int), r1 = slC_F (slc t0 rv1.1 rv1.2.1) → (
 wfR (.one (.fr 5 (.int .u8) r1)) → (
 K (.tup [.v (.st (.pair (.bool) (.pair (.bool) (.sl (.int .u8))))) (true, false, r1), .v (.int .i64) (0 : Int)]) [])))
 else False
 else
 bif decide (0 ≤ rv1.1 ∧ rv1.1 ≤ rv1.2.1 ∧ rv1.2.1 ≤ (List.length t0 : Int)) then
 bif rv1.2.2.2 then
 bif (decide (rv1.1 = (List.length t0 : Int))) then
 K (.tup [.v (.st (.pair (.bool) (.pair (.bool) (.sl (.int .u8))))) (false, false, ([] : List Int)), .v (.int .i64) (2 : Int)]) []
 else
 bif decide (0 ≤ rv1.1 ∧ rv1.1 < (List.length t0 : Int)) then
 bif (!decide ((rd (0 : Int) t0 rv1.1) = (10 : Int))) then
 K (.tup [.v (.st (.pair (.bool) (.pair (.bool) (.sl (.int .u8))))) (false, false, ([] : List Int)), .v (.int .i64) (2 : Int)]) []
 else
 bif decide (0 ≤ (IntKind.wrap .i64 (rv1.1 + (1 : Int))) ∧ (IntKind.wrap .i64 (rv1.1 + (1 : Int))) ≤ (mx (IntKind.wrap .i64 (rv1.1 + (1 : Int))) rv1.2.1) ∧ (mx (IntKind.wrap .i64 (rv1.1 + (1 : Int))) rv1.2.1) ≤ (List.length t0 : Int)) then
 (wfD extent_Take_d0 ((slc t0 (IntKind.wrap .i64 (rv1.1 + (1 : Int))) (mx (IntKind.wrap .i64 (rv1.1 + (1 : Int))) rv1.2.1)), rv1, (false, false, ([] : List Int)), ()) → extent_Take_J0 (fun (x5 : Int) (x4b : (Bool × Bool × List Int)) => wfD extent_Take_d0r (x5, x4b, ()) → (
 K (.tup [.v (.st (.pair (.bool) (.pair (.bool) (.sl (.int .u8))))) x4b, .v (.int .i64) x5]) [])) (slc t0 (IntKind.wrap .i64 (rv1.1 + (1 : Int))) (mx (IntKind.wrap .i64 (rv1.1 + (1 : Int))) rv1.2.1)) rv1 (false, false, ([] : List Int)))
 else False
 else False
 else
 (wfD extent_Take_d0 ((slc t0 rv1.1 rv1.2.1), rv1, (false, false, ([] : List Int)), ()) → extent_Take_J0 (fun (x5 : Int) (x4b : (Bool × Bool × List Int)) => wfD extent_Take_d0r (x5, x4b, ()) → (
 K (.tup [.v (.st (.pair (.bool) (.pair (.bool) (.sl (.int .u8))))) x4b, .v (.int .i64) x5]) [])) (slc t0 rv1.1 rv1.2.1) rv1 (false, false, ([] : List Int)))
 else False
def extent_Take_A : List AS := [.v (.sl (.int .u8)), .v (.st (.pair (.int .i64) (.pair (.int .i64) (.pair (.bool) (.bool)))))]
theorem extent_Take_walk (t0 : List Int) (rv1 : (Int × Int × Bool × Bool)) (K : Res → List Cell → Prop) : runF tb (getG extent_Take_G) extent_Take_B0 Tryd.f159 [true, true] (mkA extent_Take_A (t0, rv1, ())) K = extent_Take_raw t0 rv1 K := by kernel_rfl

def extent_Take_J0_P (text6 : List Int) (rv3b : (Int × Int × Bool × Bool)) (x4b : (Bool × Bool × List Int)) : Prop :=
 slC_P text6 ∧ (
 let r2 : List Int := slC_F text6
 bif rv3b.2.2.2 then
 (List.length r2 + List.length ([(10 : Int)] : List Int) ≤ lim)
 else
 bif (decide ((List.length r2 : Int) = (0 : Int))) then
 (List.length r2 + List.length ([(10 : Int)] : List Int) ≤ lim)
 else
 (0 ≤ (IntKind.wrap .i64 ((List.length r2 : Int) - (1 : Int))) ∧ (IntKind.wrap .i64 ((List.length r2 : Int) - (1 : Int))) < (List.length r2 : Int)) ∧ (
 bif (!decide ((rd (0 : Int) r2 (IntKind.wrap .i64 ((List.length r2 : Int) - (1 : Int)))) = (10 : Int))) then
 (List.length r2 + List.length ([(10 : Int)] : List Int) ≤ lim)
 else
 True))
def extent_Take_J0_F (text6 : List Int) (rv3b : (Int × Int × Bool × Bool)) (x4b : (Bool × Bool × List Int)) : Int × (Bool × Bool × List Int) :=
 let r2 : List Int := slC_F text6
 bif rv3b.2.2.2 then
 ((0 : Int), (true, true, (r2 ++ ([(10 : Int)] : List Int))))
 else
 bif (decide ((List.length r2 : Int) = (0 : Int))) then
 ((0 : Int), (true, true, (r2 ++ ([(10 : Int)] : List Int))))
 else
 bif (!decide ((rd (0 : Int) r2 (IntKind.wrap .i64 ((List.length r2 : Int) - (1 : Int)))) = (10 : Int))) then
 ((0 : Int), (true, true, (r2 ++ ([(10 : Int)] : List Int))))
 else
 ((0 : Int), (true, true, r2))
set_option maxRecDepth 20000 in
theorem extent_Take_J0_sp (kr : Int → (Bool × Bool × List Int) → Prop) (text6 : List Int) (rv3b : (Int × Int × Bool × Bool)) (x4b : (Bool × Bool × List Int)) (hp : extent_Take_J0_P text6 rv3b x4b) (hr : ∀ q : Int × (Bool × Bool × List Int), q = extent_Take_J0_F text6 rv3b x4b → kr q.1 q.2) : extent_Take_J0 kr text6 rv3b x4b := by
  unfold extent_Take_J0
  unfold extent_Take_J0_P at hp
  refine ⟨hp.1, ?_⟩
  replace hp := hp.2
  intro r2 hr2
  subst r2
  intro _
  refine brb (fun c_1 => ?_) (fun c_1 => ?_)
  ·
    replace hp := cT c_1 hp
    refine asrt hp ?_
    have e := hr _ ((ctrue c_1) : extent_Take_J0_F text6 rv3b x4b = _).symm
    exact e
  ·
    replace hp := cF c_1 hp
    refine brb (fun c_2 => ?_) (fun c_2 => ?_)
    ·
      replace hp := cT c_2 hp
      refine asrt hp ?_
      have e := hr _ ((Eq.trans (cfalse c_1) (ctrue c_2)) : extent_Take_J0_F text6 rv3b x4b = _).symm
      exact e
    ·
      replace hp := cF c_2 hp
      refine asrt hp.1 ?_
      replace hp := hp.2
      refine brb (fun c_3 => ?_) (fun c_3 => ?_)
      ·
        replace hp := cT c_3 hp
        refine asrt hp ?_
        have e := hr _ ((Eq.trans (cfalse c_1) (Eq.trans (cfalse c_2) (ctrue c_3))) : extent_Take_J0_F text6 rv3b x4b = _).symm
        exact e
      ·
        clear hp
        have e := hr _ ((Eq.trans (cfalse c_1) (Eq.trans (cfalse c_2) (cfalse c_3))) : extent_Take_J0_F text6 rv3b x4b = _).symm
        exact e
def extent_Take_P (t0 : List Int) (rv1 : (Int × Int × Bool × Bool)) : Prop :=
 bif (decide (rv1.1 < (0 : Int))) then
 True
 else
 bif (decide (rv1.2.1 < rv1.1)) then
 True
 else
 bif (decide ((List.length t0 : Int) < rv1.2.1)) then
 True
 else
 bif (!rv1.2.2.1) then
 (0 ≤ rv1.1 ∧ rv1.1 ≤ rv1.2.1 ∧ rv1.2.1 ≤ (List.length t0 : Int)) ∧ (
 slC_P (slc t0 rv1.1 rv1.2.1))
 else
 (0 ≤ rv1.1 ∧ rv1.1 ≤ rv1.2.1 ∧ rv1.2.1 ≤ (List.length t0 : Int)) ∧ (
 bif rv1.2.2.2 then
 bif (decide (rv1.1 = (List.length t0 : Int))) then
 True
 else
 (0 ≤ rv1.1 ∧ rv1.1 < (List.length t0 : Int)) ∧ (
 bif (!decide ((rd (0 : Int) t0 rv1.1) = (10 : Int))) then
 True
 else
 (0 ≤ (IntKind.wrap .i64 (rv1.1 + (1 : Int))) ∧ (IntKind.wrap .i64 (rv1.1 + (1 : Int))) ≤ (mx (IntKind.wrap .i64 (rv1.1 + (1 : Int))) rv1.2.1) ∧ (mx (IntKind.wrap .i64 (rv1.1 + (1 : Int))) rv1.2.1) ≤ (List.length t0 : Int)) ∧ (
 extent_Take_J0_P (slc t0 (IntKind.wrap .i64 (rv1.1 + (1 : Int))) (mx (IntKind.wrap .i64 (rv1.1 + (1 : Int))) rv1.2.1)) rv1 (false, false, ([] : List Int))))
 else
 extent_Take_J0_P (slc t0 rv1.1 rv1.2.1) rv1 (false, false, ([] : List Int)))
def extent_Take_F (t0 : List Int) (rv1 : (Int × Int × Bool × Bool)) : (Bool × Bool × List Int) × Int :=
 bif (decide (rv1.1 < (0 : Int))) then
 ((false, false, ([] : List Int)), (2 : Int))
 else
 bif (decide (rv1.2.1 < rv1.1)) then
 ((false, false, ([] : List Int)), (2 : Int))
 else
 bif (decide ((List.length t0 : Int) < rv1.2.1)) then
 ((false, false, ([] : List Int)), (2 : Int))
 else
 bif (!rv1.2.2.1) then
 let r1 : List Int := slC_F (slc t0 rv1.1 rv1.2.1)
 ((true, false, r1), (0 : Int))
 else
 bif rv1.2.2.2 then
 bif (decide (rv1.1 = (List.length t0 : Int))) then
 ((false, false, ([] : List Int)), (2 : Int))
 else
 bif (!decide ((rd (0 : Int) t0 rv1.1) = (10 : Int))) then
 ((false, false, ([] : List Int)), (2 : Int))
 else
 let q0r : Int × (Bool × Bool × List Int) := extent_Take_J0_F (slc t0 (IntKind.wrap .i64 (rv1.1 + (1 : Int))) (mx (IntKind.wrap .i64 (rv1.1 + (1 : Int))) rv1.2.1)) rv1 (false, false, ([] : List Int))
 let x5 : Int := q0r.1
 let x4b : (Bool × Bool × List Int) := q0r.2
 (x4b, x5)
 else
 let q0r : Int × (Bool × Bool × List Int) := extent_Take_J0_F (slc t0 rv1.1 rv1.2.1) rv1 (false, false, ([] : List Int))
 let x5 : Int := q0r.1
 let x4b : (Bool × Bool × List Int) := q0r.2
 (x4b, x5)
set_option maxRecDepth 20000 in
theorem extent_Take_sp (t0 : List Int) (rv1 : (Int × Int × Bool × Bool)) (K : Res → List Cell → Prop) (_ : wfA extent_Take_A (t0, rv1, ())) (hp : extent_Take_P t0 rv1) (h : ∀ r : (Bool × Bool × List Int) × Int, r = extent_Take_F t0 rv1 → K (.tup [.v (.st (.pair (.bool) (.pair (.bool) (.sl (.int .u8))))) r.1, .v (.int .i64) r.2]) []) : extent_Take_raw t0 rv1 K := by
  unfold extent_Take_raw
  unfold extent_Take_P at hp
  refine brb (fun c_4 => ?_) (fun c_4 => ?_)
  ·
    clear hp
    have e := h _ ((ctrue c_4) : extent_Take_F t0 rv1 = _).symm
    exact e
  ·
    replace hp := cF c_4 hp
    refine brb (fun c_5 => ?_) (fun c_5 => ?_)
    ·
      clear hp
      have e := h _ ((Eq.trans (cfalse c_4) (ctrue c_5)) : extent_Take_F t0 rv1 = _).symm
      exact e
    ·
      replace hp := cF c_5 hp
      refine brb (fun c_6 => ?_) (fun c_6 => ?_)
      ·
        clear hp
        have e := h _ ((Eq.trans (cfalse c_4) (Eq.trans (cfalse c_5) (ctrue c_6))) : extent_Take_F t0 rv1 = _).symm
        exact e
      ·
        replace hp := cF c_6 hp
        refine brb (fun c_7 => ?_) (fun c_7 => ?_)
        ·
          replace hp := cT c_7 hp
          refine asrt hp.1 ?_
          replace hp := hp.2
          refine ⟨hp, ?_⟩
          intro r1 hr1
          subst r1
          intro _
          have e := h _ ((Eq.trans (cfalse c_4) (Eq.trans (cfalse c_5) (Eq.trans (cfalse c_6) (ctrue c_7)))) : extent_Take_F t0 rv1 = _).symm
          exact e
        ·
          replace hp := cF c_7 hp
          refine asrt hp.1 ?_
          replace hp := hp.2
          refine brb (fun c_8 => ?_) (fun c_8 => ?_)
          ·
            replace hp := cT c_8 hp
            refine brb (fun c_9 => ?_) (fun c_9 => ?_)
            ·
              clear hp
              have e := h _ ((Eq.trans (cfalse c_4) (Eq.trans (cfalse c_5) (Eq.trans (cfalse c_6) (Eq.trans (cfalse c_7) (Eq.trans (ctrue c_8) (ctrue c_9)))))) : extent_Take_F t0 rv1 = _).symm
              exact e
            ·
              replace hp := cF c_9 hp
              refine asrt hp.1 ?_
              replace hp := hp.2
              refine brb (fun c_10 => ?_) (fun c_10 => ?_)
              ·
                clear hp
                have e := h _ ((Eq.trans (cfalse c_4) (Eq.trans (cfalse c_5) (Eq.trans (cfalse c_6) (Eq.trans (cfalse c_7) (Eq.trans (ctrue c_8) (Eq.trans (cfalse c_9) (ctrue c_10))))))) : extent_Take_F t0 rv1 = _).symm
                exact e
              ·
                replace hp := cF c_10 hp
                refine asrt hp.1 ?_
                replace hp := hp.2
                refine fun _ => extent_Take_J0_sp _ _ _ _ hp (fun q hq => ?_)
                subst hq
                intro _
                clear hp
                have e := h _ ((Eq.trans (cfalse c_4) (Eq.trans (cfalse c_5) (Eq.trans (cfalse c_6) (Eq.trans (cfalse c_7) (Eq.trans (ctrue c_8) (Eq.trans (cfalse c_9) (cfalse c_10))))))) : extent_Take_F t0 rv1 = _).symm
                exact e
          ·
            replace hp := cF c_8 hp
            refine fun _ => extent_Take_J0_sp _ _ _ _ hp (fun q hq => ?_)
            subst hq
            intro _
            clear hp
            have e := h _ ((Eq.trans (cfalse c_4) (Eq.trans (cfalse c_5) (Eq.trans (cfalse c_6) (Eq.trans (cfalse c_7) (cfalse c_8))))) : extent_Take_F t0 rv1 = _).symm
            exact e
def extent_Take_C (v : valsA extent_Take_A) (K : Res → List Cell → Prop) : Prop := extent_Take_P v.1 v.2.1 ∧ ∀ r : (Bool × Bool × List Int) × Int, r = extent_Take_F v.1 v.2.1 → K (.tup [.v (.st (.pair (.bool) (.pair (.bool) (.sl (.int .u8))))) r.1, .v (.int .i64) r.2]) []
def extent_Take_S : App := specW extent_Take_A extent_Take_C
theorem extent_Take_wv (K : Res → List Cell → Prop) : ∀ v : valsA extent_Take_A, runF tb (getG extent_Take_G) extent_Take_B0 Tryd.f159 [true, true] (mkA extent_Take_A v) K = extent_Take_raw v.1 v.2.1 K
  | (t0, rv1, ()) => extent_Take_walk t0 rv1 K
set_option maxRecDepth 20000 in
theorem extent_Take_ok : AppOk Tryd.prog 159 extent_Take_S :=
  AppOk.specW (spec_ok ((runF_ok tb_M tb_ok extent_Take_Gok (extent_Take_b0) (f := 159) (fn := Tryd.f159) (by kernel_rfl) (by kernel_rfl) extent_Take_st [true, true])) fun v K hw h => (extent_Take_wv K v).mpr (extent_Take_sp v.1 v.2.1 K hw h.1 h.2))

end Go.VE
namespace Go.VE
open Go Go.Proofs
/-! ### (quoin/oper.job).taken -/
def oj_taken_G : List (Nat × App) := [(159, extent_Take_S), (43, bytes_IndexByte_S)]
theorem oj_taken_Gok : GOk Tryd.prog (getG oj_taken_G) := GOk.cons extent_Take_ok (GOk.cons bytes_IndexByte_ok (GOk.nil))
def oj_taken_raw (j0 : JbD) (K : Res → List Cell → Prop) : Prop :=
 extent_Take_P j0.1 j0.2.2.1 ∧ (
 ∀ (r1 : (Bool × Bool × List Int) × Int), r1 = extent_Take_F j0.1 j0.2.2.1 → (
 wfR (.tup [.v (.st (.pair (.bool) (.pair (.bool) (.sl (.int .u8))))) r1.1, .v (.int .i64) r1.2]) → (
 bif j0.2.2.1.2.2.1 then
 K (.tup [.v (.st (.pair (.bool) (.pair (.bool) (.sl (.int .u8))))) r1.1, .v (.int .i64) (2 : Int)]) []
 else
 ∀ (r2 : Int), r2 = bytes_IndexByte_F r1.1.2.2 (10 : Int) → (
 wfR (.one (.v (.int .i64) r2)) → (
 bif (decide ((0 : Int) ≤ r2)) then
 K (.tup [.v (.st (.pair (.bool) (.pair (.bool) (.sl (.int .u8))))) r1.1, .v (.int .i64) (2 : Int)]) []
 else
 K (.tup [.v (.st (.pair (.bool) (.pair (.bool) (.sl (.int .u8))))) r1.1, .v (.int .i64) (3 : Int)]) [])))))
def oj_taken_A : List AS := [.v JbT]
theorem oj_taken_walk (j0 : JbD) (K : Res → List Cell → Prop) : runF tb (getG oj_taken_G) [] Tryd.f137 [true, true] (mkA oj_taken_A (j0, ())) K = oj_taken_raw j0 K := by kernel_rfl

def oj_taken_P (j0 : JbD) : Prop :=
 extent_Take_P j0.1 j0.2.2.1
def oj_taken_F (j0 : JbD) : (Bool × Bool × List Int) × Int :=
 let r1 : (Bool × Bool × List Int) × Int := extent_Take_F j0.1 j0.2.2.1
 bif j0.2.2.1.2.2.1 then
 (r1.1, (2 : Int))
 else
 let r2 : Int := bytes_IndexByte_F r1.1.2.2 (10 : Int)
 bif (decide ((0 : Int) ≤ r2)) then
 (r1.1, (2 : Int))
 else
 (r1.1, (3 : Int))
set_option maxRecDepth 20000 in
theorem oj_taken_sp (j0 : JbD) (K : Res → List Cell → Prop) (_ : wfA oj_taken_A (j0, ())) (hp : oj_taken_P j0) (h : ∀ r : (Bool × Bool × List Int) × Int, r = oj_taken_F j0 → K (.tup [.v (.st (.pair (.bool) (.pair (.bool) (.sl (.int .u8))))) r.1, .v (.int .i64) r.2]) []) : oj_taken_raw j0 K := by
  unfold oj_taken_raw
  unfold oj_taken_P at hp
  refine ⟨hp, ?_⟩
  intro r1 hr1
  subst r1
  intro _
  refine brb (fun c_1 => ?_) (fun c_1 => ?_)
  ·
    have e := h _ ((ctrue c_1) : oj_taken_F j0 = _).symm
    exact e
  ·
    intro r2 hr2
    subst r2
    intro _
    refine brb (fun c_2 => ?_) (fun c_2 => ?_)
    ·
      have e := h _ ((Eq.trans (cfalse c_1) (ctrue c_2)) : oj_taken_F j0 = _).symm
      exact e
    ·
      have e := h _ ((Eq.trans (cfalse c_1) (cfalse c_2)) : oj_taken_F j0 = _).symm
      exact e
def oj_taken_C (v : valsA oj_taken_A) (K : Res → List Cell → Prop) : Prop := oj_taken_P v.1 ∧ ∀ r : (Bool × Bool × List Int) × Int, r = oj_taken_F v.1 → K (.tup [.v (.st (.pair (.bool) (.pair (.bool) (.sl (.int .u8))))) r.1, .v (.int .i64) r.2]) []
def oj_taken_S : App := specW oj_taken_A oj_taken_C
theorem oj_taken_wv (K : Res → List Cell → Prop) : ∀ v : valsA oj_taken_A, runF tb (getG oj_taken_G) [] Tryd.f137 [true, true] (mkA oj_taken_A v) K = oj_taken_raw v.1 K
  | (j0, ()) => oj_taken_walk j0 K
set_option maxRecDepth 20000 in
theorem oj_taken_ok : AppOk Tryd.prog 137 oj_taken_S :=
  AppOk.specW (spec_ok ((runF_ok tb_M tb_ok oj_taken_Gok (LabsOk.nil) (f := 137) (fn := Tryd.f137) (by kernel_rfl) (by kernel_rfl) (by kernel_rfl) [true, true])) fun v K hw h => (oj_taken_wv K v).mpr (oj_taken_sp v.1 K hw h.1 h.2))

end Go.VE
namespace Go.VE
open Go Go.Proofs
/-! ### bytes.HasPrefix -/
def bytes_HasPrefix_G : List (Nat × App) := [(95, bytes_Equal_S)]
theorem bytes_HasPrefix_Gok : GOk Tryd.prog (getG bytes_HasPrefix_G) := GOk.cons bytes_Equal_ok (GOk.nil)
def bytes_HasPrefix_raw (s0 : List Int) (prefix1 : List Int) (K : Res → List Cell → Prop) : Prop :=
 bif (decide ((List.length prefix1 : Int) ≤ (List.length s0 : Int))) then
 bif decide (0 ≤ (List.length prefix1 : Int) ∧ (List.length prefix1 : Int) ≤ (List.length s0 : Int)) then
 ∀ (r1 : Bool), r1 = bytes_Equal_F (List.take (Int.toNat (List.length prefix1 : Int)) s0) prefix1 → (
 wfR (.one (.v (.bool) r1)) → (
 K (.one (.v (.bool) r1)) []))
 else False
 else
 K (.one (.v (.bool) false)) []
def bytes_HasPrefix_A : List AS := [.v (.sl (.int .u8)), .v (.sl (.int .u8))]
theorem bytes_HasPrefix_walk (s0 : List Int) (prefix1 : List Int) (K : Res → List Cell → Prop) : runF tb (getG bytes_HasPrefix_G) [] Tryd.f71 [true] (mkA bytes_HasPrefix_A (s0, prefix1, ())) K = bytes_HasPrefix_raw s0 prefix1 K := by kernel_rfl

def bytes_HasPrefix_P (s0 : List Int) (prefix1 : List Int) : Prop :=
 bif (decide ((List.length prefix1 : Int) ≤ (List.length s0 : Int))) then
 (0 ≤ (List.length prefix1 : Int) ∧ (List.length prefix1 : Int) ≤ (List.length s0 : Int))
 else
 True
def bytes_HasPrefix_F (s0 : List Int) (prefix1 : List Int) : Bool :=
 bif (decide ((List.length prefix1 : Int) ≤ (List.length s0 : Int))) then
 let r1 : Bool := bytes_Equal_F (List.take (Int.toNat (List.length prefix1 : Int)) s0) prefix1
 r1
 else
 false
set_option maxRecDepth 20000 in
theorem bytes_HasPrefix_sp (s0 : List Int) (prefix1 : List Int) (K : Res → List Cell → Prop) (_ : wfA bytes_HasPrefix_A (s0, prefix1, ())) (hp : bytes_HasPrefix_P s0 prefix1) (h : ∀ r : Bool, r = bytes_HasPrefix_F s0 prefix1 → K (.one (.v (.bool) r)) []) : bytes_HasPrefix_raw s0 prefix1 K := by
  unfold bytes_HasPrefix_raw
  unfold bytes_HasPrefix_P at hp
  refine brb (fun c_1 => ?_) (fun c_1 => ?_)
  ·
    replace hp := cT c_1 hp
    refine asrt hp ?_
    intro r1 hr1
    subst r1
    intro _
    exact h _ ((ctrue c_1) : bytes_HasPrefix_F s0 prefix1 = _).symm
  ·
    clear hp
    exact h _ ((cfalse c_1) : bytes_HasPrefix_F s0 prefix1 = _).symm
def bytes_HasPrefix_C (v : valsA bytes_HasPrefix_A) (K : Res → List Cell → Prop) : Prop := bytes_HasPrefix_P v.1 v.2.1 ∧ ∀ r : Bool, r = bytes_HasPrefix_F v.1 v.2.1 → K (.one (.v (.bool) r)) []
def bytes_HasPrefix_S : App := specW bytes_HasPrefix_A bytes_HasPrefix_C
theorem bytes_HasPrefix_wv (K : Res → List Cell → Prop) : ∀ v : valsA bytes_HasPrefix_A, runF tb (getG bytes_HasPrefix_G) [] Tryd.f71 [true] (mkA bytes_HasPrefix_A v) K = bytes_HasPrefix_raw v.1 v.2.1 K
  | (s0, prefix1, ()) => bytes_HasPrefix_walk s0 prefix1 K
set_option maxRecDepth 20000 in
theorem bytes_HasPrefix_ok : AppOk Tryd.prog 71 bytes_HasPrefix_S :=
  AppOk.specW (spec_ok ((runF_ok tb_M tb_ok bytes_HasPrefix_Gok (LabsOk.nil) (f := 71) (fn := Tryd.f71) (by kernel_rfl) (by kernel_rfl) (by kernel_rfl) [true])) fun v K hw h => (bytes_HasPrefix_wv K v).mpr (bytes_HasPrefix_sp v.1 v.2.1 K hw h.1 h.2))

end Go.VE
