/- TypingFinished: whatever the input, up to the bulk that the statement names, the law answers true, and what was handed in reads as it did. Its conditions: the bound of the given statement, no other. -/
import Derived.Test.YtdmgfabppaffkabF10
import Derived.Test.YtdmgfabppaffkabProg
set_option linter.unusedVariables false
set_option linter.unusedSectionVars false
set_option linter.unusedSimpArgs false
namespace Go.VE
open Go Go.Proofs
instance : Glob where
  ok _ _ := True
  keep := fun _ h => h
def tb : Tab := [(3, ⟨.int .i64, 0, [], 8⟩), (4, ⟨.bool, 0, [], 1⟩), (5, ⟨.int .u8, 0, [], 1⟩), (9, ⟨.str, 0, [], 16⟩), (22, ⟨.sl (.int .u8), 5, [], 24⟩), (24, ⟨.st (.pair (.int .u8) (.pair (.int .i64) (.pair (.sl (.int .u8)) (.pair (.int .i64) (.int .i64))))), 0, [], 56⟩), (26, ⟨.sl (.st (.pair (.int .i64) (.pair (.sl (.int .u8)) (.sl (.int .u8))))), 39, [], 24⟩), (31, ⟨.int .i64, 0, [], 8⟩), (39, ⟨.st (.pair (.int .i64) (.pair (.sl (.int .u8)) (.sl (.int .u8)))), 0, [], 56⟩), (55, ⟨.int .u64, 0, [], 8⟩), (64, ⟨.int .u32, 0, [], 4⟩), (67, ⟨.int .u64, 0, [], 8⟩)]
theorem tb_M : Try.prog.follows .mixedOrders = true := by kernel_rfl
theorem ty_3 : TySem Try.prog tb 3 ⟨.int .i64, 0, [], 8⟩ := TySem.ofInt (by kernel_rfl) (by kernel_rfl) rfl
theorem ty_4 : TySem Try.prog tb 4 ⟨.bool, 0, [], 1⟩ := TySem.ofBool (by kernel_rfl) (by kernel_rfl) rfl
theorem ty_5 : TySem Try.prog tb 5 ⟨.int .u8, 0, [], 1⟩ := TySem.ofInt (by kernel_rfl) (by kernel_rfl) rfl
theorem ty_9 : TySem Try.prog tb 9 ⟨.str, 0, [], 16⟩ := TySem.ofStr (by kernel_rfl) (by kernel_rfl) rfl
theorem ty_22 : TySem Try.prog tb 22 ⟨.sl (.int .u8), 5, [], 24⟩ := TySem.ofSl (by kernel_rfl) (by kernel_rfl) rfl (by kernel_rfl)
theorem ty_24 : TySem Try.prog tb 24 ⟨.st (.pair (.int .u8) (.pair (.int .i64) (.pair (.sl (.int .u8)) (.pair (.int .i64) (.int .i64))))), 0, [], 56⟩ := TySem.ofSt (c := 5) (by kernel_rfl) (by kernel_rfl) (by kernel_rfl) rfl (by kernel_rfl)
theorem ty_26 : TySem Try.prog tb 26 ⟨.sl (.st (.pair (.int .i64) (.pair (.sl (.int .u8)) (.sl (.int .u8))))), 39, [], 24⟩ := TySem.ofSl (by kernel_rfl) (by kernel_rfl) rfl (by kernel_rfl)
theorem ty_31 : TySem Try.prog tb 31 ⟨.int .i64, 0, [], 8⟩ := TySem.ofInt (by kernel_rfl) (by kernel_rfl) rfl
theorem ty_39 : TySem Try.prog tb 39 ⟨.st (.pair (.int .i64) (.pair (.sl (.int .u8)) (.sl (.int .u8)))), 0, [], 56⟩ := TySem.ofSt (c := 3) (by kernel_rfl) (by kernel_rfl) (by kernel_rfl) rfl (by kernel_rfl)
theorem ty_55 : TySem Try.prog tb 55 ⟨.int .u64, 0, [], 8⟩ := TySem.ofInt (by kernel_rfl) (by kernel_rfl) rfl
theorem ty_64 : TySem Try.prog tb 64 ⟨.int .u32, 0, [], 4⟩ := TySem.ofInt (by kernel_rfl) (by kernel_rfl) rfl
theorem ty_67 : TySem Try.prog tb 67 ⟨.int .u64, 0, [], 8⟩ := TySem.ofInt (by kernel_rfl) (by kernel_rfl) rfl
theorem tb_ok : TabOk Try.prog tb := TabOk.of (all_cons ty_3 (all_cons ty_4 (all_cons ty_5 (all_cons ty_9 (all_cons ty_22 (all_cons ty_24 (all_cons ty_26 (all_cons ty_31 (all_cons ty_39 (all_cons ty_55 (all_cons ty_64 (all_cons ty_67 (all_nil)))))))))))))
end Go.VE
namespace Go.VE
open Go Go.Proofs
/-! ### quoin/typing.isText -/
def typing_isText_G : List (Nat × App) := []
theorem typing_isText_Gok : GOk Try.prog (getG typing_isText_G) := GOk.nil
def typing_isText_raw (b0 : Int) (K : Res → List Cell → Prop) : Prop :=
 bif (decide (b0 = (9 : Int))) then
 K (.one (.v (.bool) true)) []
 else
 bif (decide (b0 = (10 : Int))) then
 K (.one (.v (.bool) true)) []
 else
 bif (decide ((32 : Int) ≤ b0)) then
 bif (decide (b0 ≤ (126 : Int))) then
 K (.one (.v (.bool) true)) []
 else
 K (.one (.v (.bool) (decide ((128 : Int) ≤ b0)))) []
 else
 K (.one (.v (.bool) (decide ((128 : Int) ≤ b0)))) []
def typing_isText_A : List AS := [.v (.int .u8)]
theorem typing_isText_walk (b0 : Int) (K : Res → List Cell → Prop) : runF tb (getG typing_isText_G) [] Try.f22 [true] (mkA typing_isText_A (b0, ())) K = typing_isText_raw b0 K := by kernel_rfl
--! pre 0
def typing_isText_F (b : Int) : Bool := decide (b = 9 ∨ b = 10 ∨ 32 ≤ b ∧ b ≤ 126 ∨ 128 ≤ b)
theorem typing_isText_sp (b : Int) (K : Res → List Cell → Prop) (_ : wfA typing_isText_A (b, ())) (h : ∀ r, r = typing_isText_F b → K (.one (.v .bool r)) []) : typing_isText_raw b K := by
  unfold typing_isText_raw
  refine brn (fun h1 => h _ ?_) (fun h1 => brn (fun h2 => h _ ?_) (fun h2 => brn (fun h3 => brn (fun h4 => h _ ?_) (fun h4 => h _ ?_)) (fun h3 => h _ ?_)))
  all_goals (unfold typing_isText_F; first | (rw [decide_eq_decide]; omega) | (symm; rw [decide_eq_true_eq]; omega))

def typing_isText_C (v : valsA typing_isText_A) (K : Res → List Cell → Prop) : Prop := ∀ r : Bool, r = typing_isText_F v.1 → K (.one (.v (.bool) r)) []
def typing_isText_S : App := specW typing_isText_A typing_isText_C
theorem typing_isText_wv (K : Res → List Cell → Prop) : ∀ v : valsA typing_isText_A, runF tb (getG typing_isText_G) [] Try.f22 [true] (mkA typing_isText_A v) K = typing_isText_raw v.1 K
  | (b0, ()) => typing_isText_walk b0 K
set_option maxRecDepth 20000 in
theorem typing_isText_ok : AppOk Try.prog 22 typing_isText_S :=
  AppOk.specW (spec_ok (runF_ok tb_M tb_ok typing_isText_Gok (LabsOk.nil) (f := 22) (fn := Try.f22) (by kernel_rfl) (by kernel_rfl) (by kernel_rfl) [true]) fun v K hw h => (typing_isText_wv K v).mpr (typing_isText_sp v.1 K hw h))

end Go.VE
namespace Go.VE
open Go Go.Proofs
/-! ### quoin/lines.has -/
def lines_has_G : List (Nat × App) := []
theorem lines_has_Gok : GOk Try.prog (getG lines_has_G) := GOk.nil
def lines_has_raw (t0 : List Int) (at1 : Int) (K : Res → List Cell → Prop) : Prop :=
 bif (decide ((0 : Int) ≤ at1)) then
 K (.one (.v (.bool) (decide (at1 ≤ (List.length t0 : Int))))) []
 else
 K (.one (.v (.bool) false)) []
def lines_has_A : List AS := [.v (.sl (.int .u8)), .v (.int .i64)]
theorem lines_has_walk (t0 : List Int) (at1 : Int) (K : Res → List Cell → Prop) : runF tb (getG lines_has_G) [] Try.f27 [true] (mkA lines_has_A (t0, at1, ())) K = lines_has_raw t0 at1 K := by kernel_rfl

def lines_has_F (t0 : List Int) (at1 : Int) : Bool :=
 bif (decide ((0 : Int) ≤ at1)) then
 (decide (at1 ≤ (List.length t0 : Int)))
 else
 false
set_option maxRecDepth 20000 in
theorem lines_has_sp (t0 : List Int) (at1 : Int) (K : Res → List Cell → Prop) (_ : wfA lines_has_A (t0, at1, ())) (h : ∀ r : Bool, r = lines_has_F t0 at1 → K (.one (.v (.bool) r)) []) : lines_has_raw t0 at1 K := by
  unfold lines_has_raw
  refine brb (fun c_1 => ?_) (fun c_1 => ?_)
  ·
    exact h _ ((ctrue c_1) : lines_has_F t0 at1 = _).symm
  ·
    exact h _ ((cfalse c_1) : lines_has_F t0 at1 = _).symm
def lines_has_C (v : valsA lines_has_A) (K : Res → List Cell → Prop) : Prop := ∀ r : Bool, r = lines_has_F v.1 v.2.1 → K (.one (.v (.bool) r)) []
def lines_has_S : App := specW lines_has_A lines_has_C
theorem lines_has_wv (K : Res → List Cell → Prop) : ∀ v : valsA lines_has_A, runF tb (getG lines_has_G) [] Try.f27 [true] (mkA lines_has_A v) K = lines_has_raw v.1 v.2.1 K
  | (t0, at1, ()) => lines_has_walk t0 at1 K
set_option maxRecDepth 20000 in
theorem lines_has_ok : AppOk Try.prog 27 lines_has_S :=
  AppOk.specW (spec_ok (runF_ok tb_M tb_ok lines_has_Gok (LabsOk.nil) (f := 27) (fn := Try.f27) (by kernel_rfl) (by kernel_rfl) (by kernel_rfl) [true]) fun v K hw h => (lines_has_wv K v).mpr (lines_has_sp v.1 v.2.1 K hw h))

end Go.VE
namespace Go.VE
open Go Go.Proofs
def unicode_utf8_RuneCount_A : List AS := []
def unicode_utf8_RuneCount_S : App := specW unicode_utf8_RuneCount_A fun _ _ => False
theorem unicode_utf8_RuneCount_ok : AppOk Try.prog 24 unicode_utf8_RuneCount_S := AppOk.never
end Go.VE
namespace Go.VE
open Go Go.Proofs
--! external 1
--! args B U
--! res I
--! pre 0
--! import VEr
def internal_bytealg_Count_F (xs : List Int) (c : Int) : Int := (List.count c xs : Int)
def internal_bytealg_Count_S : App := specW sliceByte_A fun v K => ∀ r : Int, r = internal_bytealg_Count_F v.1 v.2.1 → K (.one (.v (.int .i64) r)) []
theorem internal_bytealg_Count_ok : AppOk Try.prog 25 internal_bytealg_Count_S :=
  ext_count (fn := Try.f25) (by kernel_rfl) (by kernel_rfl) (by kernel_rfl) (by kernel_rfl) (by kernel_rfl)

end Go.VE
namespace Go.VE
open Go Go.Proofs
def bytes_Index_A : List AS := []
def bytes_Index_S : App := specW bytes_Index_A fun _ _ => False
theorem bytes_Index_ok : AppOk Try.prog 26 bytes_Index_S := AppOk.never
end Go.VE
namespace Go.VE
open Go Go.Proofs
/-! ### bytes.Count -/
def bytes_Count_G : List (Nat × App) := [(24, unicode_utf8_RuneCount_S), (25, internal_bytealg_Count_S), (26, bytes_Index_S)]
theorem bytes_Count_Gok : GOk Try.prog (getG bytes_Count_G) := GOk.cons unicode_utf8_RuneCount_ok (GOk.cons internal_bytealg_Count_ok (GOk.cons bytes_Index_ok (GOk.nil)))
theorem bytes_Count_st : storesC (bodyOf Try.f12) = true := by kernel_rfl
def bytes_Count_d0 : List LS := [.v 0 (.sl (.int .u8)), .v 1 (.sl (.int .u8)), .v 5 (.int .i64)]
def bytes_Count_dx0 : DX := ⟨none, none, []⟩
def bytes_Count_T0 (Y : List Int → List Int → Int → Prop)  (s0 : List Int) (sep1 : List Int) (n5 : Int) : Prop :=
 False
def bytes_Count_L0  : Nat → List Int → List Int → Int → Prop
  | 0, _, _, _ => False
  | n + 1, s0, sep1, n5 => wfD bytes_Count_d0 (s0, sep1, n5, ()) → bytes_Count_T0 (bytes_Count_L0  n)  s0 sep1 n5
theorem bytes_Count_s0 (k : Ex → St → Prop) (Y : vals bytes_Count_d0 → Prop) (s0 : List Int) (sep1 : List Int) (n5 : Int) :
    ex tb (getG bytes_Count_G) [] (at' (bodyOf Try.f12) [0, 0, 1, 1, 1, 1]) [0, 0, 1, 1, 1, 1] (mkD 35 bytes_Count_d0 (s0, sep1, n5, ())) (lpK 35 bytes_Count_d0 bytes_Count_dx0 k Y) =
    bytes_Count_T0 (fun s0 sep1 n5 => Y (s0, sep1, n5, ()))  s0 sep1 n5 := by kernel_rfl
theorem bytes_Count_e0 (k : Ex → St → Prop) : ∀ (n : Nat) (s0 : List Int) (sep1 : List Int) (n5 : Int), lpD 35 bytes_Count_d0 bytes_Count_dx0 (ex tb (getG bytes_Count_G) [] (at' (bodyOf Try.f12) [0, 0, 1, 1, 1, 1]) [0, 0, 1, 1, 1, 1]) k n (s0, sep1, n5, ()) = bytes_Count_L0  n s0 sep1 n5
  | 0, _, _, _ => rfl
  | n + 1, s0, sep1, n5 => congrArg (fun Z : Prop => wfD bytes_Count_d0 (s0, sep1, n5, ()) → Z) ((bytes_Count_s0 k (lpD 35 bytes_Count_d0 bytes_Count_dx0 (ex tb (getG bytes_Count_G) [] (at' (bodyOf Try.f12) [0, 0, 1, 1, 1, 1]) [0, 0, 1, 1, 1, 1]) k n) s0 sep1 n5).trans (congrArg (fun Y => bytes_Count_T0 Y  s0 sep1 n5) (funext fun s0 => funext fun sep1 => funext fun n5 => bytes_Count_e0 k n s0 sep1 n5)))
theorem bytes_Count_v0 (k : Ex → St → Prop) (n : Nat) : ∀ v : vals bytes_Count_d0, lpD 35 bytes_Count_d0 bytes_Count_dx0 (ex tb (getG bytes_Count_G) [] (at' (bodyOf Try.f12) [0, 0, 1, 1, 1, 1]) [0, 0, 1, 1, 1, 1]) k n v = bytes_Count_L0  n v.1 v.2.1 v.2.2.1
  | (s0, sep1, n5, ()) => bytes_Count_e0 k n s0 sep1 n5
def bytes_Count_X0 : Pce := fun st k => ckD 35 bytes_Count_d0 st fun v => wfD bytes_Count_d0 v → ∃ n, bytes_Count_L0  n v.1 v.2.1 v.2.2.1
set_option maxRecDepth 20000 in
theorem bytes_Count_x0 : SemOk Try.prog (at' (bodyOf Try.f12) [0, 1, 1, 1, 1]) bytes_Count_X0 :=
  (SemOk.loop (ex_sound tb_M tb_ok bytes_Count_Gok (LabsOk.nil) (at' (bodyOf Try.f12) [0, 0, 1, 1, 1, 1]) [0, 0, 1, 1, 1, 1] rfl (storesC_at bytes_Count_st [0, 0, 1, 1, 1, 1])) 35 bytes_Count_d0 bytes_Count_dx0).mono fun st k h => ckD_mono h fun v hv hw => (hv hw).elim fun n hn => ⟨n, Eq.mpr (bytes_Count_v0 k n v) hn⟩
def bytes_Count_B0 : Labs := ([0, 1, 1, 1, 1], bytes_Count_X0) :: []
theorem bytes_Count_b0 : LabsOk Try.prog (bodyOf Try.f12) bytes_Count_B0 := LabsOk.cons bytes_Count_x0 (LabsOk.nil)
def bytes_Count_raw (s0 : List Int) (sep1 : List Int) (K : Res → List Cell → Prop) : Prop :=
 bif (decide ((List.length sep1 : Int) = (0 : Int))) then
 False
 else
 bif (decide ((List.length sep1 : Int) = (1 : Int))) then
 bif decide (0 ≤ (0 : Int) ∧ (0 : Int) < (List.length sep1 : Int)) then
 ∀ (r1 : Int), r1 = internal_bytealg_Count_F s0 (rd (0 : Int) sep1 (0 : Int)) → (
 wfR (.one (.v (.int .i64) r1)) → (
 K (.one (.v (.int .i64) r1)) []))
 else False
 else
 (wfD bytes_Count_d0 (s0, sep1, (0 : Int), ()) → ∃ n, bytes_Count_L0  n s0 sep1 (0 : Int))
def bytes_Count_A : List AS := [.v (.sl (.int .u8)), .v (.sl (.int .u8))]
theorem bytes_Count_walk (s0 : List Int) (sep1 : List Int) (K : Res → List Cell → Prop) : runF tb (getG bytes_Count_G) bytes_Count_B0 Try.f12 [true] (mkA bytes_Count_A (s0, sep1, ())) K = bytes_Count_raw s0 sep1 K := by kernel_rfl
--! pre 1
def bytes_Count_P (_ sep : List Int) : Prop := sep.length = 1
def bytes_Count_F (s sep : List Int) : Int := (List.count (rd (0 : Int) sep 0) s : Int)
theorem bytes_Count_sp (s sep : List Int) (K : Res → List Cell → Prop) (_ : wfA bytes_Count_A (s, sep, ())) (hp : bytes_Count_P s sep) (h : ∀ r : Int, r = bytes_Count_F s sep → K (.one (.v (.int .i64) r)) []) : bytes_Count_raw s sep K := by
  unfold bytes_Count_P at hp
  unfold bytes_Count_raw
  exact brn (fun h0 => by omega) (fun _ => brn (fun _ => asrt (by omega) fun r hr _ => h r hr) (fun h1 => absurd (by omega) h1))

def bytes_Count_C (v : valsA bytes_Count_A) (K : Res → List Cell → Prop) : Prop := bytes_Count_P v.1 v.2.1 ∧ ∀ r : Int, r = bytes_Count_F v.1 v.2.1 → K (.one (.v (.int .i64) r)) []
def bytes_Count_S : App := specW bytes_Count_A bytes_Count_C
theorem bytes_Count_wv (K : Res → List Cell → Prop) : ∀ v : valsA bytes_Count_A, runF tb (getG bytes_Count_G) bytes_Count_B0 Try.f12 [true] (mkA bytes_Count_A v) K = bytes_Count_raw v.1 v.2.1 K
  | (s0, sep1, ()) => bytes_Count_walk s0 sep1 K
set_option maxRecDepth 20000 in
theorem bytes_Count_ok : AppOk Try.prog 12 bytes_Count_S :=
  AppOk.specW (spec_ok (runF_ok tb_M tb_ok bytes_Count_Gok (bytes_Count_b0) (f := 12) (fn := Try.f12) (by kernel_rfl) (by kernel_rfl) bytes_Count_st [true]) fun v K hw h => (bytes_Count_wv K v).mpr (bytes_Count_sp v.1 v.2.1 K hw h.1 h.2))

end Go.VE
namespace Go.VE
open Go Go.Proofs
/-! ### quoin/lines.Of -/
def lines_Of_G : List (Nat × App) := [(27, lines_has_S), (12, bytes_Count_S)]
theorem lines_Of_Gok : GOk Try.prog (getG lines_Of_G) := GOk.cons lines_has_ok (GOk.cons bytes_Count_ok (GOk.nil))
def lines_Of_raw (t0 : List Int) (at1 : Int) (K : Res → List Cell → Prop) : Prop :=
 ∀ (r1 : Bool), r1 = lines_has_F t0 at1 → (
 wfR (.one (.v (.bool) r1)) → (
 bif (!r1) then
 K (.tup [.v (.int .i64) (0 : Int), .v (.int .i64) (2 : Int)]) []
 else
 bif decide (0 ≤ at1 ∧ at1 ≤ (List.length t0 : Int)) then
 bytes_Count_P (List.take (Int.toNat at1) t0) ([(10 : Int)] : List Int) ∧ (
 ∀ (r2 : Int), r2 = bytes_Count_F (List.take (Int.toNat at1) t0) ([(10 : Int)] : List Int) → (
 wfR (.one (.v (.int .i64) r2)) → (
 K (.tup [.v (.int .i64) r2, .v (.int .i64) (0 : Int)]) [])))
 else False))
def lines_Of_A : List AS := [.v (.sl (.int .u8)), .v (.int .i64)]
theorem lines_Of_walk (t0 : List Int) (at1 : Int) (K : Res → List Cell → Prop) : runF tb (getG lines_Of_G) [] Try.f14 [true, true] (mkA lines_Of_A (t0, at1, ())) K = lines_Of_raw t0 at1 K := by kernel_rfl

def lines_Of_P (t0 : List Int) (at1 : Int) : Prop :=
 let r1 : Bool := lines_has_F t0 at1
 bif (!r1) then
 True
 else
 (0 ≤ at1 ∧ at1 ≤ (List.length t0 : Int)) ∧ (
 bytes_Count_P (List.take (Int.toNat at1) t0) ([(10 : Int)] : List Int))
def lines_Of_F (t0 : List Int) (at1 : Int) : Int × Int :=
 let r1 : Bool := lines_has_F t0 at1
 bif (!r1) then
 ((0 : Int), (2 : Int))
 else
 let r2 : Int := bytes_Count_F (List.take (Int.toNat at1) t0) ([(10 : Int)] : List Int)
 (r2, (0 : Int))
set_option maxRecDepth 20000 in
theorem lines_Of_sp (t0 : List Int) (at1 : Int) (K : Res → List Cell → Prop) (_ : wfA lines_Of_A (t0, at1, ())) (hp : lines_Of_P t0 at1) (h : ∀ r : Int × Int, r = lines_Of_F t0 at1 → K (.tup [.v (.int .i64) r.1, .v (.int .i64) r.2]) []) : lines_Of_raw t0 at1 K := by
  unfold lines_Of_raw
  unfold lines_Of_P at hp
  intro r1 hr1
  subst hr1
  intro _
  refine brb (fun c_1 => ?_) (fun c_1 => ?_)
  ·
    clear hp
    have e := h _ ((ctrue c_1) : lines_Of_F t0 at1 = _).symm
    exact e
  ·
    replace hp := cF c_1 hp
    refine asrt hp.1 ?_
    replace hp := hp.2
    refine ⟨hp, ?_⟩
    intro r2 hr2
    subst hr2
    intro _
    have e := h _ ((cfalse c_1) : lines_Of_F t0 at1 = _).symm
    exact e
def lines_Of_C (v : valsA lines_Of_A) (K : Res → List Cell → Prop) : Prop := lines_Of_P v.1 v.2.1 ∧ ∀ r : Int × Int, r = lines_Of_F v.1 v.2.1 → K (.tup [.v (.int .i64) r.1, .v (.int .i64) r.2]) []
def lines_Of_S : App := specW lines_Of_A lines_Of_C
theorem lines_Of_wv (K : Res → List Cell → Prop) : ∀ v : valsA lines_Of_A, runF tb (getG lines_Of_G) [] Try.f14 [true, true] (mkA lines_Of_A v) K = lines_Of_raw v.1 v.2.1 K
  | (t0, at1, ()) => lines_Of_walk t0 at1 K
set_option maxRecDepth 20000 in
theorem lines_Of_ok : AppOk Try.prog 14 lines_Of_S :=
  AppOk.specW (spec_ok (runF_ok tb_M tb_ok lines_Of_Gok (LabsOk.nil) (f := 14) (fn := Try.f14) (by kernel_rfl) (by kernel_rfl) (by kernel_rfl) [true, true]) fun v K hw h => (lines_Of_wv K v).mpr (lines_Of_sp v.1 v.2.1 K hw h.1 h.2))
theorem lines_Of_any (t : List Int) (p : Int) : lines_Of_P t p := by
  unfold lines_Of_P lines_has_F bytes_Count_P
  dsimp only
  by_cases h1 : 0 ≤ p <;> by_cases h2 : p ≤ t.length <;> simp [h1, h2]

end Go.VE
namespace Go.VE
open Go Go.Proofs
--! external 1
--! args B U
--! res I
--! pre 0
--! import VEr
def internal_bytealg_IndexByte_F (xs : List Int) (c : Int) : Int := idxB xs c
def internal_bytealg_IndexByte_S : App := specW sliceByte_A fun v K => ∀ r : Int, r = internal_bytealg_IndexByte_F v.1 v.2.1 → K (.one (.v (.int .i64) r)) []
theorem internal_bytealg_IndexByte_ok : AppOk Try.prog 50 internal_bytealg_IndexByte_S :=
  ext_indexByte (fn := Try.f50) (by kernel_rfl) (by kernel_rfl) (by kernel_rfl) (by kernel_rfl) (by kernel_rfl)

end Go.VE
namespace Go.VE
open Go Go.Proofs
/-! ### bytes.IndexByte -/
def bytes_IndexByte_G : List (Nat × App) := [(50, internal_bytealg_IndexByte_S)]
theorem bytes_IndexByte_Gok : GOk Try.prog (getG bytes_IndexByte_G) := GOk.cons internal_bytealg_IndexByte_ok (GOk.nil)
def bytes_IndexByte_raw (b0 : List Int) (c1 : Int) (K : Res → List Cell → Prop) : Prop :=
 ∀ (r1 : Int), r1 = internal_bytealg_IndexByte_F b0 c1 → (
 wfR (.one (.v (.int .i64) r1)) → (
 K (.one (.v (.int .i64) r1)) []))
def bytes_IndexByte_A : List AS := [.v (.sl (.int .u8)), .v (.int .u8)]
theorem bytes_IndexByte_walk (b0 : List Int) (c1 : Int) (K : Res → List Cell → Prop) : runF tb (getG bytes_IndexByte_G) [] Try.f41 [true] (mkA bytes_IndexByte_A (b0, c1, ())) K = bytes_IndexByte_raw b0 c1 K := by kernel_rfl

def bytes_IndexByte_F (b0 : List Int) (c1 : Int) : Int :=
 let r1 : Int := internal_bytealg_IndexByte_F b0 c1
 r1
set_option maxRecDepth 20000 in
theorem bytes_IndexByte_sp (b0 : List Int) (c1 : Int) (K : Res → List Cell → Prop) (_ : wfA bytes_IndexByte_A (b0, c1, ())) (h : ∀ r : Int, r = bytes_IndexByte_F b0 c1 → K (.one (.v (.int .i64) r)) []) : bytes_IndexByte_raw b0 c1 K := by
  unfold bytes_IndexByte_raw
  intro r1 hr1
  subst hr1
  intro _
  exact h _ rfl
def bytes_IndexByte_C (v : valsA bytes_IndexByte_A) (K : Res → List Cell → Prop) : Prop := ∀ r : Int, r = bytes_IndexByte_F v.1 v.2.1 → K (.one (.v (.int .i64) r)) []
def bytes_IndexByte_S : App := specW bytes_IndexByte_A bytes_IndexByte_C
theorem bytes_IndexByte_wv (K : Res → List Cell → Prop) : ∀ v : valsA bytes_IndexByte_A, runF tb (getG bytes_IndexByte_G) [] Try.f41 [true] (mkA bytes_IndexByte_A v) K = bytes_IndexByte_raw v.1 v.2.1 K
  | (b0, c1, ()) => bytes_IndexByte_walk b0 c1 K
set_option maxRecDepth 20000 in
theorem bytes_IndexByte_ok : AppOk Try.prog 41 bytes_IndexByte_S :=
  AppOk.specW (spec_ok (runF_ok tb_M tb_ok bytes_IndexByte_Gok (LabsOk.nil) (f := 41) (fn := Try.f41) (by kernel_rfl) (by kernel_rfl) (by kernel_rfl) [true]) fun v K hw h => (bytes_IndexByte_wv K v).mpr (bytes_IndexByte_sp v.1 v.2.1 K hw h))

end Go.VE
namespace Go.VE
open Go Go.Proofs
/-! ### quoin/lines.Start -/
def lines_Start_G : List (Nat × App) := [(41, bytes_IndexByte_S)]
theorem lines_Start_Gok : GOk Try.prog (getG lines_Start_G) := GOk.cons bytes_IndexByte_ok (GOk.nil)
theorem lines_Start_st : storesC (bodyOf Try.f28) = true := by kernel_rfl
def lines_Start_d0 : List LS := [.v 0 (.sl (.int .u8)), .v 1 (.int .i64), .v 6 (.int .i64)]
def lines_Start_d0r : List LS := [.v 4 (.int .i64), .v 5 (.int .i64)]
def lines_Start_d0x0 : List LS := [.v 6 (.int .i64)]
def lines_Start_dx0 : DX := ⟨none, some lines_Start_d0r, [(0, lines_Start_d0x0)]⟩
def lines_Start_T0 (Y : List Int → Int → Int → Prop) (kr : Int → Int → Prop) (kx0 : Int → Prop) (t0 : List Int) (line1 : Int) (at6 : Int) : Prop :=
 bif (decide ((0 : Int) < line1)) then
 bif decide (0 ≤ at6 ∧ at6 ≤ (List.length t0 : Int)) then
 ∀ (r1 : Int), r1 = bytes_IndexByte_F (List.drop (Int.toNat at6) t0) (10 : Int) → (
 wfR (.one (.v (.int .i64) r1)) → (
 bif (decide (r1 < (0 : Int))) then
 kr (0 : Int) (2 : Int)
 else
 Y t0 (IntKind.wrap .i64 (line1 - (1 : Int))) (IntKind.wrap .i64 (at6 + (IntKind.wrap .i64 (r1 + (1 : Int)))))))
 else False
 else
 kx0 at6
def lines_Start_L0 (kr : Int → Int → Prop) (kx0 : Int → Prop) : Nat → List Int → Int → Int → Prop
  | 0, _, _, _ => False
  | n + 1, t0, line1, at6 => wfD lines_Start_d0 (t0, line1, at6, ()) → lines_Start_T0 (lines_Start_L0 kr kx0 n) kr kx0 t0 line1 at6
theorem lines_Start_s0 (k : Ex → St → Prop) (Y : vals lines_Start_d0 → Prop) (t0 : List Int) (line1 : Int) (at6 : Int) :
    ex tb (getG lines_Start_G) [] (at' (bodyOf Try.f28) [0, 0, 0, 1, 1, 1]) [0, 0, 0, 1, 1, 1] (mkD 25 lines_Start_d0 (t0, line1, at6, ())) (lpK 25 lines_Start_d0 lines_Start_dx0 k Y) =
    lines_Start_T0 (fun t0 line1 at6 => Y (t0, line1, at6, ())) (fun x4 x5 => wfD lines_Start_d0r (x4, x5, ()) → k .ret (mkD 25 lines_Start_d0r (x4, x5, ()))) (fun at6 => wfD lines_Start_d0x0 (at6, ()) → k (.exit 0) (mkD 25 lines_Start_d0x0 (at6, ()))) t0 line1 at6 := by kernel_rfl
theorem lines_Start_e0 (k : Ex → St → Prop) : ∀ (n : Nat) (t0 : List Int) (line1 : Int) (at6 : Int), lpD 25 lines_Start_d0 lines_Start_dx0 (ex tb (getG lines_Start_G) [] (at' (bodyOf Try.f28) [0, 0, 0, 1, 1, 1]) [0, 0, 0, 1, 1, 1]) k n (t0, line1, at6, ()) = lines_Start_L0 (fun x4 x5 => wfD lines_Start_d0r (x4, x5, ()) → k .ret (mkD 25 lines_Start_d0r (x4, x5, ()))) (fun at6 => wfD lines_Start_d0x0 (at6, ()) → k (.exit 0) (mkD 25 lines_Start_d0x0 (at6, ()))) n t0 line1 at6
  | 0, _, _, _ => rfl
  | n + 1, t0, line1, at6 => congrArg (fun Z : Prop => wfD lines_Start_d0 (t0, line1, at6, ()) → Z) ((lines_Start_s0 k (lpD 25 lines_Start_d0 lines_Start_dx0 (ex tb (getG lines_Start_G) [] (at' (bodyOf Try.f28) [0, 0, 0, 1, 1, 1]) [0, 0, 0, 1, 1, 1]) k n) t0 line1 at6).trans (congrArg (fun Y => lines_Start_T0 Y (fun x4 x5 => wfD lines_Start_d0r (x4, x5, ()) → k .ret (mkD 25 lines_Start_d0r (x4, x5, ()))) (fun at6 => wfD lines_Start_d0x0 (at6, ()) → k (.exit 0) (mkD 25 lines_Start_d0x0 (at6, ()))) t0 line1 at6) (funext fun t0 => funext fun line1 => funext fun at6 => lines_Start_e0 k n t0 line1 at6)))
theorem lines_Start_v0 (k : Ex → St → Prop) (n : Nat) : ∀ v : vals lines_Start_d0, lpD 25 lines_Start_d0 lines_Start_dx0 (ex tb (getG lines_Start_G) [] (at' (bodyOf Try.f28) [0, 0, 0, 1, 1, 1]) [0, 0, 0, 1, 1, 1]) k n v = lines_Start_L0 (fun x4 x5 => wfD lines_Start_d0r (x4, x5, ()) → k .ret (mkD 25 lines_Start_d0r (x4, x5, ()))) (fun at6 => wfD lines_Start_d0x0 (at6, ()) → k (.exit 0) (mkD 25 lines_Start_d0x0 (at6, ()))) n v.1 v.2.1 v.2.2.1
  | (t0, line1, at6, ()) => lines_Start_e0 k n t0 line1 at6
def lines_Start_X0 : Pce := fun st k => ckD 25 lines_Start_d0 st fun v => wfD lines_Start_d0 v → ∃ n, lines_Start_L0 (fun x4 x5 => wfD lines_Start_d0r (x4, x5, ()) → k .ret (mkD 25 lines_Start_d0r (x4, x5, ()))) (fun at6 => wfD lines_Start_d0x0 (at6, ()) → k (.exit 0) (mkD 25 lines_Start_d0x0 (at6, ()))) n v.1 v.2.1 v.2.2.1
set_option maxRecDepth 20000 in
theorem lines_Start_x0 : SemOk Try.prog (at' (bodyOf Try.f28) [0, 0, 1, 1, 1]) lines_Start_X0 :=
  (SemOk.loop (ex_sound tb_M tb_ok lines_Start_Gok (LabsOk.nil) (at' (bodyOf Try.f28) [0, 0, 0, 1, 1, 1]) [0, 0, 0, 1, 1, 1] rfl (storesC_at lines_Start_st [0, 0, 0, 1, 1, 1])) 25 lines_Start_d0 lines_Start_dx0).mono fun st k h => ckD_mono h fun v hv hw => (hv hw).elim fun n hn => ⟨n, Eq.mpr (lines_Start_v0 k n v) hn⟩
def lines_Start_B0 : Labs := ([0, 0, 1, 1, 1], lines_Start_X0) :: []
theorem lines_Start_b0 : LabsOk Try.prog (bodyOf Try.f28) lines_Start_B0 := LabsOk.cons lines_Start_x0 (LabsOk.nil)
def lines_Start_raw (t0 : List Int) (line1 : Int) (K : Res → List Cell → Prop) : Prop :=
 bif (decide (line1 < (0 : Int))) then
 K (.tup [.v (.int .i64) (0 : Int), .v (.int .i64) (2 : Int)]) []
 else
 (wfD lines_Start_d0 (t0, line1, (0 : Int), ()) → ∃ n, lines_Start_L0 (fun (x4 : Int) (x5 : Int) => wfD lines_Start_d0r (x4, x5, ()) → (
 K (.tup [.v (.int .i64) x4, .v (.int .i64) x5]) [])) (fun (at6 : Int) => wfD lines_Start_d0x0 (at6, ()) → (
 K (.tup [.v (.int .i64) at6, .v (.int .i64) (0 : Int)]) [])) n t0 line1 (0 : Int))
def lines_Start_A : List AS := [.v (.sl (.int .u8)), .v (.int .i64)]
theorem lines_Start_walk (t0 : List Int) (line1 : Int) (K : Res → List Cell → Prop) : runF tb (getG lines_Start_G) lines_Start_B0 Try.f28 [true, true] (mkA lines_Start_A (t0, line1, ())) K = lines_Start_raw t0 line1 K := by kernel_rfl
--! pre 0
/-- n line ends on, from a place -/
def goLine (t : List Int) : Nat → Nat → Option Nat
  | 0, p => some p
  | n + 1, p => if idxB (t.drop p) 10 < 0 then none else goLine t n (p + (idxB (t.drop p) 10).toNat + 1)
def lines_Start_F (t : List Int) (line : Int) : Int × Int :=
 if line < 0 then (0, 2) else match goLine t line.toNat 0 with
 | some p => ((p : Int), 0)
 | none => (0, 2)
theorem idxB_lt (xs : List Int) (c : Int) : -1 ≤ idxB xs c ∧ idxB xs c < xs.length ∨ xs = [] ∧ idxB xs c = -1 := by
  unfold idxB
  split
  · rename_i h; have := List.idxOf_lt_length_of_mem h; omega
  · cases xs with
    | nil => exact .inr ⟨rfl, rfl⟩
    | cons a l => left; simp only [List.length_cons]; omega
theorem lines_Start_l0 (kr : Int → Int → Prop) (kx0 : Int → Prop) (t : List Int) (ht : t.length ≤ 9223372036854775807) : ∀ (n m p : Nat), n ≤ 9223372036854775807 → p ≤ t.length → n < m →
    (goLine t n p = none → kr 0 2) → (∀ q, goLine t n p = some q → kx0 (q : Int)) → lines_Start_L0 kr kx0 m t (n : Int) (p : Int)
  | _, 0, _, _, _, h, _, _ => absurd h (Nat.not_lt_zero _)
  | 0, m + 1, p, _, _, _, _, h2 => by
    intro _
    unfold lines_Start_T0
    exact brn (fun h => absurd h (by omega)) (fun _ => h2 p rfl)
  | n + 1, m + 1, p, hn, hp, hm, h1, h2 => by
    intro _
    unfold lines_Start_T0
    refine brn (fun _ => asrt (by omega) fun r hr _ => ?_) (fun h => absurd (by omega) h)
    have hr : r = idxB (t.drop p) 10 := by rw [hr]; simp [bytes_IndexByte_F, internal_bytealg_IndexByte_F]
    have hb := idxB_lt (t.drop p) 10
    rw [List.length_drop] at hb
    rw [← hr] at hb
    refine brn (fun h => h1 ?_) (fun h => ?_)
    · unfold goLine; rw [← hr, if_pos h]
    · have hd : r < (t.length : Int) - p := by
        rcases hb with hb | ⟨_, hb⟩ <;> omega
      rw [wrap_i64 (n := r + 1) (by omega) (by omega), wrap_i64 (by omega) (by omega), wrap_i64 (by omega) (by omega)]
      have e1 : ((n + 1 : Nat) : Int) - 1 = (n : Int) := by omega
      have e2 : (p : Int) + (r + 1) = ((p + r.toNat + 1 : Nat) : Int) := by omega
      rw [e1, e2]
      have e3 : goLine t (n + 1) p = goLine t n (p + r.toNat + 1) := by conv => lhs; unfold goLine; rw [← hr, if_neg h]
      exact lines_Start_l0 kr kx0 t ht n m (p + r.toNat + 1) (by omega) (by omega) (by omega) (fun hh => h1 (by rw [e3]; exact hh)) (fun q hh => h2 q (by rw [e3]; exact hh))
theorem lines_Start_sp (t : List Int) (line : Int) (K : Res → List Cell → Prop) (hw : wfA lines_Start_A (t, line, ())) (h : ∀ r : Int × Int, r = lines_Start_F t line → K (.tup [.v (.int .i64) r.1, .v (.int .i64) r.2]) []) : lines_Start_raw t line K := by
  have ht : t.length ≤ 9223372036854775807 := hw.1.1
  have hl : line ≤ 9223372036854775807 := hw.2.1.2
  unfold lines_Start_raw
  refine brn (fun hn => h (0, 2) (by unfold lines_Start_F; rw [if_pos hn])) (fun hn _ => ?_)
  refine ⟨line.toNat + 1, ?_⟩
  have e : line = (line.toNat : Int) := by omega
  have key := fun kr kx0 h1 h2 => lines_Start_l0 kr kx0 t ht line.toNat (line.toNat + 1) 0 (by omega) (Nat.zero_le _) (Nat.lt_succ_self _) h1 h2
  rw [← e] at key
  refine key _ _ (fun hg _ => h (0, 2) ?_) (fun q hg _ => h ((q : Int), 0) ?_)
  · unfold lines_Start_F; rw [if_neg hn, hg]
  · unfold lines_Start_F; rw [if_neg hn, hg]

def lines_Start_C (v : valsA lines_Start_A) (K : Res → List Cell → Prop) : Prop := ∀ r : Int × Int, r = lines_Start_F v.1 v.2.1 → K (.tup [.v (.int .i64) r.1, .v (.int .i64) r.2]) []
def lines_Start_S : App := specW lines_Start_A lines_Start_C
theorem lines_Start_wv (K : Res → List Cell → Prop) : ∀ v : valsA lines_Start_A, runF tb (getG lines_Start_G) lines_Start_B0 Try.f28 [true, true] (mkA lines_Start_A v) K = lines_Start_raw v.1 v.2.1 K
  | (t0, line1, ()) => lines_Start_walk t0 line1 K
set_option maxRecDepth 20000 in
theorem lines_Start_ok : AppOk Try.prog 28 lines_Start_S :=
  AppOk.specW (spec_ok (runF_ok tb_M tb_ok lines_Start_Gok (lines_Start_b0) (f := 28) (fn := Try.f28) (by kernel_rfl) (by kernel_rfl) lines_Start_st [true, true]) fun v K hw h => (lines_Start_wv K v).mpr (lines_Start_sp v.1 v.2.1 K hw h))

end Go.VE
namespace Go.VE
open Go Go.Proofs
/-! ### quoin/lines.tail -/
def lines_tail_G : List (Nat × App) := [(41, bytes_IndexByte_S)]
theorem lines_tail_Gok : GOk Try.prog (getG lines_tail_G) := GOk.cons bytes_IndexByte_ok (GOk.nil)
def lines_tail_raw (t0 : List Int) (at1 : Int) (K : Res → List Cell → Prop) : Prop :=
 bif decide (0 ≤ at1 ∧ at1 ≤ (List.length t0 : Int)) then
 ∀ (r1 : Int), r1 = bytes_IndexByte_F (List.drop (Int.toNat at1) t0) (10 : Int) → (
 wfR (.one (.v (.int .i64) r1)) → (
 bif (decide ((0 : Int) ≤ r1)) then
 K (.one (.v (.int .i64) (IntKind.wrap .i64 (at1 + r1)))) []
 else
 K (.one (.v (.int .i64) (List.length t0 : Int))) []))
 else False
def lines_tail_A : List AS := [.v (.sl (.int .u8)), .v (.int .i64)]
theorem lines_tail_walk (t0 : List Int) (at1 : Int) (K : Res → List Cell → Prop) : runF tb (getG lines_tail_G) [] Try.f29 [true] (mkA lines_tail_A (t0, at1, ())) K = lines_tail_raw t0 at1 K := by kernel_rfl

def lines_tail_P (t0 : List Int) (at1 : Int) : Prop :=
 (0 ≤ at1 ∧ at1 ≤ (List.length t0 : Int))
def lines_tail_F (t0 : List Int) (at1 : Int) : Int :=
 let r1 : Int := bytes_IndexByte_F (List.drop (Int.toNat at1) t0) (10 : Int)
 bif (decide ((0 : Int) ≤ r1)) then
 (IntKind.wrap .i64 (at1 + r1))
 else
 (List.length t0 : Int)
set_option maxRecDepth 20000 in
theorem lines_tail_sp (t0 : List Int) (at1 : Int) (K : Res → List Cell → Prop) (_ : wfA lines_tail_A (t0, at1, ())) (hp : lines_tail_P t0 at1) (h : ∀ r : Int, r = lines_tail_F t0 at1 → K (.one (.v (.int .i64) r)) []) : lines_tail_raw t0 at1 K := by
  unfold lines_tail_raw
  unfold lines_tail_P at hp
  refine asrt hp ?_
  intro r1 hr1
  subst hr1
  intro _
  refine brb (fun c_1 => ?_) (fun c_1 => ?_)
  ·
    exact h _ ((ctrue c_1) : lines_tail_F t0 at1 = _).symm
  ·
    exact h _ ((cfalse c_1) : lines_tail_F t0 at1 = _).symm
def lines_tail_C (v : valsA lines_tail_A) (K : Res → List Cell → Prop) : Prop := lines_tail_P v.1 v.2.1 ∧ ∀ r : Int, r = lines_tail_F v.1 v.2.1 → K (.one (.v (.int .i64) r)) []
def lines_tail_S : App := specW lines_tail_A lines_tail_C
theorem lines_tail_wv (K : Res → List Cell → Prop) : ∀ v : valsA lines_tail_A, runF tb (getG lines_tail_G) [] Try.f29 [true] (mkA lines_tail_A v) K = lines_tail_raw v.1 v.2.1 K
  | (t0, at1, ()) => lines_tail_walk t0 at1 K
set_option maxRecDepth 20000 in
theorem lines_tail_ok : AppOk Try.prog 29 lines_tail_S :=
  AppOk.specW (spec_ok (runF_ok tb_M tb_ok lines_tail_Gok (LabsOk.nil) (f := 29) (fn := Try.f29) (by kernel_rfl) (by kernel_rfl) (by kernel_rfl) [true]) fun v K hw h => (lines_tail_wv K v).mpr (lines_tail_sp v.1 v.2.1 K hw h.1 h.2))

end Go.VE
namespace Go.VE
open Go Go.Proofs
/-! ### quoin/lines.End -/
def lines_End_G : List (Nat × App) := [(28, lines_Start_S), (29, lines_tail_S)]
theorem lines_End_Gok : GOk Try.prog (getG lines_End_G) := GOk.cons lines_Start_ok (GOk.cons lines_tail_ok (GOk.nil))
def lines_End_raw (t0 : List Int) (line1 : Int) (K : Res → List Cell → Prop) : Prop :=
 ∀ (r1 : Int × Int), r1 = lines_Start_F t0 line1 → (
 wfR (.tup [.v (.int .i64) r1.1, .v (.int .i64) r1.2]) → (
 bif (!decide (r1.2 = (0 : Int))) then
 K (.tup [.v (.int .i64) (0 : Int), .v (.int .i64) r1.2]) []
 else
 lines_tail_P t0 r1.1 ∧ (
 ∀ (r2 : Int), r2 = lines_tail_F t0 r1.1 → (
 wfR (.one (.v (.int .i64) r2)) → (
 K (.tup [.v (.int .i64) r2, .v (.int .i64) (0 : Int)]) [])))))
def lines_End_A : List AS := [.v (.sl (.int .u8)), .v (.int .i64)]
theorem lines_End_walk (t0 : List Int) (line1 : Int) (K : Res → List Cell → Prop) : runF tb (getG lines_End_G) [] Try.f15 [true, true] (mkA lines_End_A (t0, line1, ())) K = lines_End_raw t0 line1 K := by kernel_rfl

def lines_End_P (t0 : List Int) (line1 : Int) : Prop :=
 let r1 : Int × Int := lines_Start_F t0 line1
 bif (!decide (r1.2 = (0 : Int))) then
 True
 else
 lines_tail_P t0 r1.1
def lines_End_F (t0 : List Int) (line1 : Int) : Int × Int :=
 let r1 : Int × Int := lines_Start_F t0 line1
 bif (!decide (r1.2 = (0 : Int))) then
 ((0 : Int), r1.2)
 else
 let r2 : Int := lines_tail_F t0 r1.1
 (r2, (0 : Int))
set_option maxRecDepth 20000 in
theorem lines_End_sp (t0 : List Int) (line1 : Int) (K : Res → List Cell → Prop) (_ : wfA lines_End_A (t0, line1, ())) (hp : lines_End_P t0 line1) (h : ∀ r : Int × Int, r = lines_End_F t0 line1 → K (.tup [.v (.int .i64) r.1, .v (.int .i64) r.2]) []) : lines_End_raw t0 line1 K := by
  unfold lines_End_raw
  unfold lines_End_P at hp
  intro r1 hr1
  subst hr1
  intro _
  refine brb (fun c_1 => ?_) (fun c_1 => ?_)
  ·
    clear hp
    have e := h _ ((ctrue c_1) : lines_End_F t0 line1 = _).symm
    exact e
  ·
    replace hp := cF c_1 hp
    refine ⟨hp, ?_⟩
    intro r2 hr2
    subst hr2
    intro _
    have e := h _ ((cfalse c_1) : lines_End_F t0 line1 = _).symm
    exact e
def lines_End_C (v : valsA lines_End_A) (K : Res → List Cell → Prop) : Prop := lines_End_P v.1 v.2.1 ∧ ∀ r : Int × Int, r = lines_End_F v.1 v.2.1 → K (.tup [.v (.int .i64) r.1, .v (.int .i64) r.2]) []
def lines_End_S : App := specW lines_End_A lines_End_C
theorem lines_End_wv (K : Res → List Cell → Prop) : ∀ v : valsA lines_End_A, runF tb (getG lines_End_G) [] Try.f15 [true, true] (mkA lines_End_A v) K = lines_End_raw v.1 v.2.1 K
  | (t0, line1, ()) => lines_End_walk t0 line1 K
set_option maxRecDepth 20000 in
theorem lines_End_ok : AppOk Try.prog 15 lines_End_S :=
  AppOk.specW (spec_ok (runF_ok tb_M tb_ok lines_End_Gok (LabsOk.nil) (f := 15) (fn := Try.f15) (by kernel_rfl) (by kernel_rfl) (by kernel_rfl) [true, true]) fun v K hw h => (lines_End_wv K v).mpr (lines_End_sp v.1 v.2.1 K hw h.1 h.2))
theorem goLine_le (t : List Int) : ∀ (n p q : Nat), p ≤ t.length → goLine t n p = some q → q ≤ t.length
  | 0, p, q, hp, h => by simp only [goLine, Option.some.injEq] at h; omega
  | n + 1, p, q, hp, h => by
    unfold goLine at h
    have hb := idxB_lt (t.drop p) 10
    rw [List.length_drop] at hb
    split at h
    · cases h
    · exact goLine_le t n _ q (by rcases hb with hb | ⟨_, hb⟩ <;> omega) h
theorem lines_Start_F_le (t : List Int) (n : Int) : 0 ≤ (lines_Start_F t n).1 ∧ (lines_Start_F t n).1 ≤ t.length := by
  unfold lines_Start_F
  split
  · simp
  · split
    · rename_i q hq; have := goLine_le t _ 0 q (Nat.zero_le _) hq; simp only; omega
    · simp
theorem lines_End_any (t : List Int) (n : Int) : lines_End_P t n := by
  unfold lines_End_P lines_tail_P
  dsimp only
  have := lines_Start_F_le t n
  cases !decide ((lines_Start_F t n).2 = 0)
  · exact this
  · trivial

end Go.VE
namespace Go.VE
open Go Go.Proofs
/-! ### quoin/typing.covers -/
def typing_covers_G : List (Nat × App) := [(14, lines_Of_S), (15, lines_End_S), (12, bytes_Count_S)]
theorem typing_covers_Gok : GOk Try.prog (getG typing_covers_G) := GOk.cons lines_Of_ok (GOk.cons lines_End_ok (GOk.cons bytes_Count_ok (GOk.nil)))
def typing_covers_raw (base0 : List Int) (at1 : Int) (typed2 : List Int) (K : Res → List Cell → Prop) : Prop :=
 lines_Of_P base0 at1 ∧ (
 ∀ (r1 : Int × Int), r1 = lines_Of_F base0 at1 → (
 wfR (.tup [.v (.int .i64) r1.1, .v (.int .i64) r1.2]) → (
 lines_End_P base0 r1.1 ∧ (
 ∀ (r2 : Int × Int), r2 = lines_End_F base0 r1.1 → (
 wfR (.tup [.v (.int .i64) r2.1, .v (.int .i64) r2.2]) → (
 bytes_Count_P typed2 ([(10 : Int)] : List Int) ∧ (
 ∀ (r3 : Int), r3 = bytes_Count_F typed2 ([(10 : Int)] : List Int) → (
 wfR (.one (.v (.int .i64) r3)) → (
 K (.one (.v (.int .i64) (mn (IntKind.wrap .i64 ((List.length typed2 : Int) - r3)) (IntKind.wrap .i64 (r2.1 - at1))))) [])))))))))
def typing_covers_A : List AS := [.v (.sl (.int .u8)), .v (.int .i64), .v (.sl (.int .u8))]
theorem typing_covers_walk (base0 : List Int) (at1 : Int) (typed2 : List Int) (K : Res → List Cell → Prop) : runF tb (getG typing_covers_G) [] Try.f39 [true] (mkA typing_covers_A (base0, at1, typed2, ())) K = typing_covers_raw base0 at1 typed2 K := by kernel_rfl

def typing_covers_P (base0 : List Int) (at1 : Int) (typed2 : List Int) : Prop :=
 lines_Of_P base0 at1 ∧ (
 let r1 : Int × Int := lines_Of_F base0 at1
 lines_End_P base0 r1.1 ∧ (
 let r2 : Int × Int := lines_End_F base0 r1.1
 bytes_Count_P typed2 ([(10 : Int)] : List Int)))
def typing_covers_F (base0 : List Int) (at1 : Int) (typed2 : List Int) : Int :=
 let r1 : Int × Int := lines_Of_F base0 at1
 let r2 : Int × Int := lines_End_F base0 r1.1
 let r3 : Int := bytes_Count_F typed2 ([(10 : Int)] : List Int)
 (mn (IntKind.wrap .i64 ((List.length typed2 : Int) - r3)) (IntKind.wrap .i64 (r2.1 - at1)))
set_option maxRecDepth 20000 in
theorem typing_covers_sp (base0 : List Int) (at1 : Int) (typed2 : List Int) (K : Res → List Cell → Prop) (_ : wfA typing_covers_A (base0, at1, typed2, ())) (hp : typing_covers_P base0 at1 typed2) (h : ∀ r : Int, r = typing_covers_F base0 at1 typed2 → K (.one (.v (.int .i64) r)) []) : typing_covers_raw base0 at1 typed2 K := by
  unfold typing_covers_raw
  unfold typing_covers_P at hp
  refine ⟨hp.1, ?_⟩
  replace hp := hp.2
  intro r1 hr1
  subst hr1
  intro _
  refine ⟨hp.1, ?_⟩
  replace hp := hp.2
  intro r2 hr2
  subst hr2
  intro _
  refine ⟨hp, ?_⟩
  intro r3 hr3
  subst hr3
  intro _
  exact h _ rfl
def typing_covers_C (v : valsA typing_covers_A) (K : Res → List Cell → Prop) : Prop := typing_covers_P v.1 v.2.1 v.2.2.1 ∧ ∀ r : Int, r = typing_covers_F v.1 v.2.1 v.2.2.1 → K (.one (.v (.int .i64) r)) []
def typing_covers_S : App := specW typing_covers_A typing_covers_C
theorem typing_covers_wv (K : Res → List Cell → Prop) : ∀ v : valsA typing_covers_A, runF tb (getG typing_covers_G) [] Try.f39 [true] (mkA typing_covers_A v) K = typing_covers_raw v.1 v.2.1 v.2.2.1 K
  | (base0, at1, typed2, ()) => typing_covers_walk base0 at1 typed2 K
set_option maxRecDepth 20000 in
theorem typing_covers_ok : AppOk Try.prog 39 typing_covers_S :=
  AppOk.specW (spec_ok (runF_ok tb_M tb_ok typing_covers_Gok (LabsOk.nil) (f := 39) (fn := Try.f39) (by kernel_rfl) (by kernel_rfl) (by kernel_rfl) [true]) fun v K hw h => (typing_covers_wv K v).mpr (typing_covers_sp v.1 v.2.1 v.2.2.1 K hw h.1 h.2))

end Go.VE
namespace Go.VE
open Go Go.Proofs
/-! ### quoin/typing.under -/
def typing_under_G : List (Nat × App) := [(39, typing_covers_S)]
theorem typing_under_Gok : GOk Try.prog (getG typing_under_G) := GOk.cons typing_covers_ok (GOk.nil)
def typing_under_raw (base0 : List Int) (y1 : (Int × Int × List Int × Int × Int)) (K : Res → List Cell → Prop) : Prop :=
 bif (decide (y1.1 = (105 : Int))) then
 K (.one (.v (.int .i64) (0 : Int))) []
 else
 typing_covers_P base0 y1.2.1 y1.2.2.1 ∧ (
 ∀ (r1 : Int), r1 = typing_covers_F base0 y1.2.1 y1.2.2.1 → (
 wfR (.one (.v (.int .i64) r1)) → (
 K (.one (.v (.int .i64) r1)) [])))
def typing_under_A : List AS := [.v (.sl (.int .u8)), .v (.st (.pair (.int .u8) (.pair (.int .i64) (.pair (.sl (.int .u8)) (.pair (.int .i64) (.int .i64))))))]
theorem typing_under_walk (base0 : List Int) (y1 : (Int × Int × List Int × Int × Int)) (K : Res → List Cell → Prop) : runF tb (getG typing_under_G) [] Try.f23 [true] (mkA typing_under_A (base0, y1, ())) K = typing_under_raw base0 y1 K := by kernel_rfl

def typing_under_P (base0 : List Int) (y1 : (Int × Int × List Int × Int × Int)) : Prop :=
 bif (decide (y1.1 = (105 : Int))) then
 True
 else
 typing_covers_P base0 y1.2.1 y1.2.2.1
def typing_under_F (base0 : List Int) (y1 : (Int × Int × List Int × Int × Int)) : Int :=
 bif (decide (y1.1 = (105 : Int))) then
 (0 : Int)
 else
 let r1 : Int := typing_covers_F base0 y1.2.1 y1.2.2.1
 r1
set_option maxRecDepth 20000 in
theorem typing_under_sp (base0 : List Int) (y1 : (Int × Int × List Int × Int × Int)) (K : Res → List Cell → Prop) (_ : wfA typing_under_A (base0, y1, ())) (hp : typing_under_P base0 y1) (h : ∀ r : Int, r = typing_under_F base0 y1 → K (.one (.v (.int .i64) r)) []) : typing_under_raw base0 y1 K := by
  unfold typing_under_raw
  unfold typing_under_P at hp
  refine brb (fun c_1 => ?_) (fun c_1 => ?_)
  ·
    clear hp
    exact h _ ((ctrue c_1) : typing_under_F base0 y1 = _).symm
  ·
    replace hp := cF c_1 hp
    refine ⟨hp, ?_⟩
    intro r1 hr1
    subst hr1
    intro _
    exact h _ ((cfalse c_1) : typing_under_F base0 y1 = _).symm
def typing_under_C (v : valsA typing_under_A) (K : Res → List Cell → Prop) : Prop := typing_under_P v.1 v.2.1 ∧ ∀ r : Int, r = typing_under_F v.1 v.2.1 → K (.one (.v (.int .i64) r)) []
def typing_under_S : App := specW typing_under_A typing_under_C
theorem typing_under_wv (K : Res → List Cell → Prop) : ∀ v : valsA typing_under_A, runF tb (getG typing_under_G) [] Try.f23 [true] (mkA typing_under_A v) K = typing_under_raw v.1 v.2.1 K
  | (base0, y1, ()) => typing_under_walk base0 y1 K
set_option maxRecDepth 20000 in
theorem typing_under_ok : AppOk Try.prog 23 typing_under_S :=
  AppOk.specW (spec_ok (runF_ok tb_M tb_ok typing_under_Gok (LabsOk.nil) (f := 23) (fn := Try.f23) (by kernel_rfl) (by kernel_rfl) (by kernel_rfl) [true]) fun v K hw h => (typing_under_wv K v).mpr (typing_under_sp v.1 v.2.1 K hw h.1 h.2))
theorem typing_covers_any (base : List Int) (p : Int) (y : List Int) : typing_covers_P base p y := by
  unfold typing_covers_P
  exact ⟨lines_Of_any _ _, lines_End_any _ _, rfl⟩
theorem typing_under_any (base : List Int) (y : Int × Int × List Int × Int × Int) : typing_under_P base y := by
  unfold typing_under_P
  cases decide (y.1 = 105)
  · exact typing_covers_any _ _ _
  · trivial

end Go.VE
namespace Go.VE
open Go Go.Proofs
/-! ### quoin/typing.fits -/
def typing_fits_G : List (Nat × App) := [(22, typing_isText_S), (23, typing_under_S)]
theorem typing_fits_Gok : GOk Try.prog (getG typing_fits_G) := GOk.cons typing_isText_ok (GOk.cons typing_under_ok (GOk.nil))
theorem typing_fits_st : storesC (bodyOf Try.f11) = true := by kernel_rfl
def typing_fits_d0 : List LS := [.v 0 (.sl (.int .u8)), .b 3 24 [], .v 38 (.sl (.int .u8)), .v 39 (.int .i64), .v 40 (.int .i64), .c 24 (.st (.pair (.int .u8) (.pair (.int .i64) (.pair (.sl (.int .u8)) (.pair (.int .i64) (.int .i64))))))]
def typing_fits_d0r : List LS := [.v 4 (.bool)]
def typing_fits_d0x0 : List LS := [.v 0 (.sl (.int .u8)), .b 3 24 [], .c 24 (.st (.pair (.int .u8) (.pair (.int .i64) (.pair (.sl (.int .u8)) (.pair (.int .i64) (.int .i64))))))]
def typing_fits_dx0 : DX := ⟨none, some typing_fits_d0r, [(0, typing_fits_d0x0)]⟩
def typing_fits_T0 (Y : List Int → List Int → Int → Int → (Int × Int × List Int × Int × Int) → Prop) (kr : Bool → Prop) (kx0 : List Int → (Int × Int × List Int × Int × Int) → Prop) (base0 : List Int) (x38 : List Int) (x39 : Int) (x40 : Int) (y3b : (Int × Int × List Int × Int × Int)) : Prop :=
 bif (decide (x40 < x39)) then
 bif decide (0 ≤ x40 ∧ x40 < (List.length x38 : Int)) then
 ∀ (r1 : Bool), r1 = typing_isText_F (rd (0 : Int) x38 x40) → (
 wfR (.one (.v (.bool) r1)) → (
 bif (!r1) then
 kr false
 else
 Y base0 x38 x39 (IntKind.wrap .i64 (x40 + (1 : Int))) y3b))
 else False
 else
 kx0 base0 y3b
def typing_fits_L0 (kr : Bool → Prop) (kx0 : List Int → (Int × Int × List Int × Int × Int) → Prop) : Nat → List Int → List Int → Int → Int → (Int × Int × List Int × Int × Int) → Prop
  | 0, _, _, _, _, _ => False
  | n + 1, base0, x38, x39, x40, y3b => wfD typing_fits_d0 (base0, x38, x39, x40, y3b, ()) → typing_fits_T0 (typing_fits_L0 kr kx0 n) kr kx0 base0 x38 x39 x40 y3b
theorem typing_fits_s0 (k : Ex → St → Prop) (Y : vals typing_fits_d0 → Prop) (base0 : List Int) (x38 : List Int) (x39 : Int) (x40 : Int) (y3b : (Int × Int × List Int × Int × Int)) :
    ex tb (getG typing_fits_G) [] (at' (bodyOf Try.f11) [0, 0, 1, 0, 1, 1]) [0, 0, 1, 0, 1, 1] (mkD 54 typing_fits_d0 (base0, x38, x39, x40, y3b, ())) (lpK 54 typing_fits_d0 typing_fits_dx0 k Y) =
    typing_fits_T0 (fun base0 x38 x39 x40 y3b => Y (base0, x38, x39, x40, y3b, ())) (fun x4 => wfD typing_fits_d0r (x4, ()) → k .ret (mkD 54 typing_fits_d0r (x4, ()))) (fun base0 y3b => wfD typing_fits_d0x0 (base0, y3b, ()) → k (.exit 0) (mkD 54 typing_fits_d0x0 (base0, y3b, ()))) base0 x38 x39 x40 y3b := by kernel_rfl
theorem typing_fits_e0 (k : Ex → St → Prop) : ∀ (n : Nat) (base0 : List Int) (x38 : List Int) (x39 : Int) (x40 : Int) (y3b : (Int × Int × List Int × Int × Int)), lpD 54 typing_fits_d0 typing_fits_dx0 (ex tb (getG typing_fits_G) [] (at' (bodyOf Try.f11) [0, 0, 1, 0, 1, 1]) [0, 0, 1, 0, 1, 1]) k n (base0, x38, x39, x40, y3b, ()) = typing_fits_L0 (fun x4 => wfD typing_fits_d0r (x4, ()) → k .ret (mkD 54 typing_fits_d0r (x4, ()))) (fun base0 y3b => wfD typing_fits_d0x0 (base0, y3b, ()) → k (.exit 0) (mkD 54 typing_fits_d0x0 (base0, y3b, ()))) n base0 x38 x39 x40 y3b
  | 0, _, _, _, _, _ => rfl
  | n + 1, base0, x38, x39, x40, y3b => congrArg (fun Z : Prop => wfD typing_fits_d0 (base0, x38, x39, x40, y3b, ()) → Z) ((typing_fits_s0 k (lpD 54 typing_fits_d0 typing_fits_dx0 (ex tb (getG typing_fits_G) [] (at' (bodyOf Try.f11) [0, 0, 1, 0, 1, 1]) [0, 0, 1, 0, 1, 1]) k n) base0 x38 x39 x40 y3b).trans (congrArg (fun Y => typing_fits_T0 Y (fun x4 => wfD typing_fits_d0r (x4, ()) → k .ret (mkD 54 typing_fits_d0r (x4, ()))) (fun base0 y3b => wfD typing_fits_d0x0 (base0, y3b, ()) → k (.exit 0) (mkD 54 typing_fits_d0x0 (base0, y3b, ()))) base0 x38 x39 x40 y3b) (funext fun base0 => funext fun x38 => funext fun x39 => funext fun x40 => funext fun y3b => typing_fits_e0 k n base0 x38 x39 x40 y3b)))
theorem typing_fits_v0 (k : Ex → St → Prop) (n : Nat) : ∀ v : vals typing_fits_d0, lpD 54 typing_fits_d0 typing_fits_dx0 (ex tb (getG typing_fits_G) [] (at' (bodyOf Try.f11) [0, 0, 1, 0, 1, 1]) [0, 0, 1, 0, 1, 1]) k n v = typing_fits_L0 (fun x4 => wfD typing_fits_d0r (x4, ()) → k .ret (mkD 54 typing_fits_d0r (x4, ()))) (fun base0 y3b => wfD typing_fits_d0x0 (base0, y3b, ()) → k (.exit 0) (mkD 54 typing_fits_d0x0 (base0, y3b, ()))) n v.1 v.2.1 v.2.2.1 v.2.2.2.1 v.2.2.2.2.1
  | (base0, x38, x39, x40, y3b, ()) => typing_fits_e0 k n base0 x38 x39 x40 y3b
def typing_fits_X0 : Pce := fun st k => ckD 54 typing_fits_d0 st fun v => wfD typing_fits_d0 v → ∃ n, typing_fits_L0 (fun x4 => wfD typing_fits_d0r (x4, ()) → k .ret (mkD 54 typing_fits_d0r (x4, ()))) (fun base0 y3b => wfD typing_fits_d0x0 (base0, y3b, ()) → k (.exit 0) (mkD 54 typing_fits_d0x0 (base0, y3b, ()))) n v.1 v.2.1 v.2.2.1 v.2.2.2.1 v.2.2.2.2.1
set_option maxRecDepth 20000 in
theorem typing_fits_x0 : SemOk Try.prog (at' (bodyOf Try.f11) [0, 1, 0, 1, 1]) typing_fits_X0 :=
  (SemOk.loop (ex_sound tb_M tb_ok typing_fits_Gok (LabsOk.nil) (at' (bodyOf Try.f11) [0, 0, 1, 0, 1, 1]) [0, 0, 1, 0, 1, 1] rfl (storesC_at typing_fits_st [0, 0, 1, 0, 1, 1])) 54 typing_fits_d0 typing_fits_dx0).mono fun st k h => ckD_mono h fun v hv hw => (hv hw).elim fun n hn => ⟨n, Eq.mpr (typing_fits_v0 k n v) hn⟩
def typing_fits_B0 : Labs := ([0, 1, 0, 1, 1], typing_fits_X0) :: []
theorem typing_fits_b0 : LabsOk Try.prog (bodyOf Try.f11) typing_fits_B0 := LabsOk.cons typing_fits_x0 (LabsOk.nil)
def typing_fits_raw (base0 : List Int) (y1 : (Int × Int × List Int × Int × Int)) (K : Res → List Cell → Prop) : Prop :=
 bif (!decide (y1.1 = (105 : Int))) then
 bif (!decide (y1.1 = (82 : Int))) then
 K (.one (.v (.bool) false)) []
 else
 bif (decide (y1.2.1 < (0 : Int))) then
 K (.one (.v (.bool) false)) []
 else
 bif (decide ((List.length base0 : Int) < y1.2.1)) then
 K (.one (.v (.bool) false)) []
 else
 bif (decide (y1.2.2.2.2 < (1 : Int))) then
 K (.one (.v (.bool) false)) []
 else
 bif (decide ((9999 : Int) < y1.2.2.2.2)) then
 K (.one (.v (.bool) false)) []
 else
 (wfD typing_fits_d0 (base0, y1.2.2.1, (List.length y1.2.2.1 : Int), (0 : Int), y1, ()) → ∃ n, typing_fits_L0 (fun (x4 : Bool) => wfD typing_fits_d0r (x4, ()) → (
 K (.one (.v (.bool) x4)) [])) (fun (base0 : List Int) (y3b : (Int × Int × List Int × Int × Int)) => wfD typing_fits_d0x0 (base0, y3b, ()) → (
 typing_under_P base0 y3b ∧ (
 ∀ (r2 : Int), r2 = typing_under_F base0 y3b → (
 wfR (.one (.v (.int .i64) r2)) → (
 K (.one (.v (.bool) (decide (y3b.2.2.2.1 = r2)))) []))))) n base0 y1.2.2.1 (List.length y1.2.2.1 : Int) (0 : Int) y1)
 else
 bif (decide (y1.2.1 < (0 : Int))) then
 K (.one (.v (.bool) false)) []
 else
 bif (decide ((List.length base0 : Int) < y1.2.1)) then
 K (.one (.v (.bool) false)) []
 else
 bif (decide (y1.2.2.2.2 < (1 : Int))) then
 K (.one (.v (.bool) false)) []
 else
 bif (decide ((9999 : Int) < y1.2.2.2.2)) then
 K (.one (.v (.bool) false)) []
 else
 (wfD typing_fits_d0 (base0, y1.2.2.1, (List.length y1.2.2.1 : Int), (0 : Int), y1, ()) → ∃ n, typing_fits_L0 (fun (x4 : Bool) => wfD typing_fits_d0r (x4, ()) → (
 K (.one (.v (.bool) x4)) [])) (fun (base0 : List Int) (y3b : (Int × Int × List Int × Int × Int)) => wfD typing_fits_d0x0 (base0, y3b, ()) → (
 typing_under_P base0 y3b ∧ (
 ∀ (r3 : Int), r3 = typing_under_F base0 y3b → (
 wfR (.one (.v (.int .i64) r3)) → (
 K (.one (.v (.bool) (decide (y3b.2.2.2.1 = r3)))) []))))) n base0 y1.2.2.1 (List.length y1.2.2.1 : Int) (0 : Int) y1)
def typing_fits_A : List AS := [.v (.sl (.int .u8)), .v (.st (.pair (.int .u8) (.pair (.int .i64) (.pair (.sl (.int .u8)) (.pair (.int .i64) (.int .i64))))))]
theorem typing_fits_walk (base0 : List Int) (y1 : (Int × Int × List Int × Int × Int)) (K : Res → List Cell → Prop) : runF tb (getG typing_fits_G) typing_fits_B0 Try.f11 [true] (mkA typing_fits_A (base0, y1, ())) K = typing_fits_raw base0 y1 K := by kernel_rfl
--! pre 0
def typing_fits_F (base : List Int) (y : Int × Int × List Int × Int × Int) : Bool :=
 decide ((y.1 = 105 ∨ y.1 = 82) ∧ 0 ≤ y.2.1 ∧ y.2.1 ≤ base.length ∧ 1 ≤ y.2.2.2.2 ∧ y.2.2.2.2 ≤ 9999 ∧ (∀ b ∈ y.2.2.1, typing_isText_F b = true) ∧ y.2.2.2.1 = typing_under_F base y)
theorem typing_fits_l0 (kr : Bool → Prop) (kx0 : List Int → (Int × Int × List Int × Int × Int) → Prop) (base xs : List Int) (y : Int × Int × List Int × Int × Int) (hx : xs.length ≤ 9223372036854775807) : ∀ (d m i : Nat), i + d = xs.length → d < m →
    ((∃ b ∈ xs, typing_isText_F b = false) → kr false) → ((∀ b ∈ xs.drop i, typing_isText_F b = true) → kx0 base y) → typing_fits_L0 kr kx0 m base xs (xs.length : Int) (i : Int) y
  | _, 0, _, _, h, _, _ => absurd h (Nat.not_lt_zero _)
  | d, m + 1, i, hd, hm, h1, h2 => by
    intro _
    unfold typing_fits_T0
    refine brn (fun hlt => asrt (by omega) fun r hr _ => ?_) (fun hge => h2 ?_)
    · have hi : i < xs.length := by omega
      have hrd : rd (0 : Int) xs (i : Int) = xs[i] := by have := rd_get (0 : Int) xs (i : Int) (by simpa using hi); simpa using this
      rw [hrd] at hr
      refine brb (fun h => h1 ⟨xs[i], List.getElem_mem hi, ?_⟩) (fun h => ?_)
      · rw [← hr]; simpa using h
      · rw [wrap_i64 (by omega) (by omega)]
        obtain ⟨d', rfl⟩ : ∃ d', d = d' + 1 := ⟨d - 1, by omega⟩
        have := typing_fits_l0 kr kx0 base xs y hx d' m (i + 1) (by omega) (by omega) h1 (fun ha => h2 (fun b hb => by
          rw [List.drop_eq_getElem_cons hi] at hb
          rcases List.mem_cons.1 hb with e | hb
          · rw [e, ← hr]; simpa using h
          · exact ha b hb))
        simpa using this
    · rw [List.drop_eq_nil_of_le (by omega)]; intro b hb; cases hb
theorem typing_fits_sp (base : List Int) (y : Int × Int × List Int × Int × Int) (K : Res → List Cell → Prop) (hw : wfA typing_fits_A (base, y, ())) (h : ∀ r : Bool, r = typing_fits_F base y → K (.one (.v .bool r)) []) : typing_fits_raw base y K := by
  have hx : y.2.2.1.length ≤ 9223372036854775807 := hw.2.1.2.2.1.1
  have no : ¬ ((y.1 = 105 ∨ y.1 = 82) ∧ 0 ≤ y.2.1 ∧ y.2.1 ≤ base.length ∧ 1 ≤ y.2.2.2.2 ∧ y.2.2.2.2 ≤ 9999 ∧ (∀ b ∈ y.2.2.1, typing_isText_F b = true) ∧ y.2.2.2.1 = typing_under_F base y) → K (.one (.v .bool false)) [] :=
    fun hn => h false (by unfold typing_fits_F; exact (decide_eq_false hn).symm)
  unfold typing_fits_raw
  have loop : (y.1 = 105 ∨ y.1 = 82) → 0 ≤ y.2.1 → y.2.1 ≤ base.length → 1 ≤ y.2.2.2.2 → y.2.2.2.2 ≤ 9999 → wfD typing_fits_d0 (base, y.2.2.1, (List.length y.2.2.1 : Int), (0 : Int), y, ()) → ∃ n, typing_fits_L0 (fun (x4 : Bool) => wfD typing_fits_d0r (x4, ()) → (
          K (.one (.v (.bool) x4)) [])) (fun (base0 : List Int) (y3b : (Int × Int × List Int × Int × Int)) => wfD typing_fits_d0x0 (base0, y3b, ()) → (
          typing_under_P base0 y3b ∧ (
          ∀ (r2 : Int), r2 = typing_under_F base0 y3b → (
          wfR (.one (.v (.int .i64) r2)) → (
          K (.one (.v (.bool) (decide (y3b.2.2.2.1 = r2)))) []))))) n base y.2.2.1 (List.length y.2.2.1 : Int) (0 : Int) y := by
    intro h1 h2 h3 h4 h5 _
    refine ⟨y.2.2.1.length + 1, typing_fits_l0 _ _ base y.2.2.1 y hx y.2.2.1.length _ 0 (by omega) (by omega) (fun ⟨b, hb, hf⟩ _ => no ?_) (fun ha _ => ⟨typing_under_any _ _, fun r hr _ => h _ ?_⟩)⟩
    · rintro ⟨_, _, _, _, _, hall, _⟩; rw [hall b hb] at hf; cases hf
    · unfold typing_fits_F
      rw [decide_eq_decide, ← hr]
      exact ⟨fun e => ⟨h1, h2, h3, h4, h5, ha, e⟩, fun e => e.2.2.2.2.2.2⟩
  have rest : (y.1 = 105 ∨ y.1 = 82) → _ := fun h1 => (brn (c := y.2.1 < 0) (fun hc => no (by omega)) (fun h2 => brn (c := (base.length : Int) < y.2.1) (fun hc => no (by omega)) (fun h3 => brn (c := y.2.2.2.2 < 1) (fun hc => no (by omega)) (fun h4 => brn (c := 9999 < y.2.2.2.2) (fun hc => no (by omega)) (fun h5 => loop h1 (by omega) (by omega) (by omega) (by omega))))))
  refine brb (fun ha => brb (fun hb => no ?_) (fun hb => rest (.inr (by simpa using hb)))) (fun ha => rest (.inl (by simpa using ha)))
  rintro ⟨h1 | h1, _⟩
  · simp [h1] at ha
  · simp [h1] at hb

def typing_fits_C (v : valsA typing_fits_A) (K : Res → List Cell → Prop) : Prop := ∀ r : Bool, r = typing_fits_F v.1 v.2.1 → K (.one (.v (.bool) r)) []
def typing_fits_S : App := specW typing_fits_A typing_fits_C
theorem typing_fits_wv (K : Res → List Cell → Prop) : ∀ v : valsA typing_fits_A, runF tb (getG typing_fits_G) typing_fits_B0 Try.f11 [true] (mkA typing_fits_A v) K = typing_fits_raw v.1 v.2.1 K
  | (base0, y1, ()) => typing_fits_walk base0 y1 K
set_option maxRecDepth 20000 in
theorem typing_fits_ok : AppOk Try.prog 11 typing_fits_S :=
  AppOk.specW (spec_ok (runF_ok tb_M tb_ok typing_fits_Gok (typing_fits_b0) (f := 11) (fn := Try.f11) (by kernel_rfl) (by kernel_rfl) typing_fits_st [true]) fun v K hw h => (typing_fits_wv K v).mpr (typing_fits_sp v.1 v.2.1 K hw h))

end Go.VE
namespace Go.VE
open Go Go.Proofs
/-! ### internal/bytealg.LastIndexByte -/
def internal_bytealg_LastIndexByte_G : List (Nat × App) := []
theorem internal_bytealg_LastIndexByte_Gok : GOk Try.prog (getG internal_bytealg_LastIndexByte_G) := GOk.nil
theorem internal_bytealg_LastIndexByte_st : storesC (bodyOf Try.f37) = true := by kernel_rfl
def internal_bytealg_LastIndexByte_d0 : List LS := [.v 0 (.sl (.int .u8)), .v 1 (.int .u8), .v 5 (.int .i64)]
def internal_bytealg_LastIndexByte_d0r : List LS := [.v 4 (.int .i64)]
def internal_bytealg_LastIndexByte_d0x0 : List LS := []
def internal_bytealg_LastIndexByte_dx0 : DX := ⟨none, some internal_bytealg_LastIndexByte_d0r, [(0, internal_bytealg_LastIndexByte_d0x0)]⟩
def internal_bytealg_LastIndexByte_T0 (Y : List Int → Int → Int → Prop) (kr : Int → Prop) (kx0 : Prop) (s0 : List Int) (c1 : Int) (i5 : Int) : Prop :=
 bif (decide ((0 : Int) ≤ i5)) then
 bif decide (0 ≤ i5 ∧ i5 < (List.length s0 : Int)) then
 bif (decide ((rd (0 : Int) s0 i5) = c1)) then
 kr i5
 else
 Y s0 c1 (IntKind.wrap .i64 (i5 - (1 : Int)))
 else False
 else
 kx0
def internal_bytealg_LastIndexByte_L0 (kr : Int → Prop) (kx0 : Prop) : Nat → List Int → Int → Int → Prop
  | 0, _, _, _ => False
  | n + 1, s0, c1, i5 => wfD internal_bytealg_LastIndexByte_d0 (s0, c1, i5, ()) → internal_bytealg_LastIndexByte_T0 (internal_bytealg_LastIndexByte_L0 kr kx0 n) kr kx0 s0 c1 i5
theorem internal_bytealg_LastIndexByte_s0 (k : Ex → St → Prop) (Y : vals internal_bytealg_LastIndexByte_d0 → Prop) (s0 : List Int) (c1 : Int) (i5 : Int) :
    ex tb (getG internal_bytealg_LastIndexByte_G) [] (at' (bodyOf Try.f37) [0, 0, 1, 0, 1]) [0, 0, 1, 0, 1] (mkD 20 internal_bytealg_LastIndexByte_d0 (s0, c1, i5, ())) (lpK 20 internal_bytealg_LastIndexByte_d0 internal_bytealg_LastIndexByte_dx0 k Y) =
    internal_bytealg_LastIndexByte_T0 (fun s0 c1 i5 => Y (s0, c1, i5, ())) (fun x4 => wfD internal_bytealg_LastIndexByte_d0r (x4, ()) → k .ret (mkD 20 internal_bytealg_LastIndexByte_d0r (x4, ()))) (wfD internal_bytealg_LastIndexByte_d0x0 () → k (.exit 0) (mkD 20 internal_bytealg_LastIndexByte_d0x0 ())) s0 c1 i5 := by kernel_rfl
theorem internal_bytealg_LastIndexByte_e0 (k : Ex → St → Prop) : ∀ (n : Nat) (s0 : List Int) (c1 : Int) (i5 : Int), lpD 20 internal_bytealg_LastIndexByte_d0 internal_bytealg_LastIndexByte_dx0 (ex tb (getG internal_bytealg_LastIndexByte_G) [] (at' (bodyOf Try.f37) [0, 0, 1, 0, 1]) [0, 0, 1, 0, 1]) k n (s0, c1, i5, ()) = internal_bytealg_LastIndexByte_L0 (fun x4 => wfD internal_bytealg_LastIndexByte_d0r (x4, ()) → k .ret (mkD 20 internal_bytealg_LastIndexByte_d0r (x4, ()))) (wfD internal_bytealg_LastIndexByte_d0x0 () → k (.exit 0) (mkD 20 internal_bytealg_LastIndexByte_d0x0 ())) n s0 c1 i5
  | 0, _, _, _ => rfl
  | n + 1, s0, c1, i5 => congrArg (fun Z : Prop => wfD internal_bytealg_LastIndexByte_d0 (s0, c1, i5, ()) → Z) ((internal_bytealg_LastIndexByte_s0 k (lpD 20 internal_bytealg_LastIndexByte_d0 internal_bytealg_LastIndexByte_dx0 (ex tb (getG internal_bytealg_LastIndexByte_G) [] (at' (bodyOf Try.f37) [0, 0, 1, 0, 1]) [0, 0, 1, 0, 1]) k n) s0 c1 i5).trans (congrArg (fun Y => internal_bytealg_LastIndexByte_T0 Y (fun x4 => wfD internal_bytealg_LastIndexByte_d0r (x4, ()) → k .ret (mkD 20 internal_bytealg_LastIndexByte_d0r (x4, ()))) (wfD internal_bytealg_LastIndexByte_d0x0 () → k (.exit 0) (mkD 20 internal_bytealg_LastIndexByte_d0x0 ())) s0 c1 i5) (funext fun s0 => funext fun c1 => funext fun i5 => internal_bytealg_LastIndexByte_e0 k n s0 c1 i5)))
theorem internal_bytealg_LastIndexByte_v0 (k : Ex → St → Prop) (n : Nat) : ∀ v : vals internal_bytealg_LastIndexByte_d0, lpD 20 internal_bytealg_LastIndexByte_d0 internal_bytealg_LastIndexByte_dx0 (ex tb (getG internal_bytealg_LastIndexByte_G) [] (at' (bodyOf Try.f37) [0, 0, 1, 0, 1]) [0, 0, 1, 0, 1]) k n v = internal_bytealg_LastIndexByte_L0 (fun x4 => wfD internal_bytealg_LastIndexByte_d0r (x4, ()) → k .ret (mkD 20 internal_bytealg_LastIndexByte_d0r (x4, ()))) (wfD internal_bytealg_LastIndexByte_d0x0 () → k (.exit 0) (mkD 20 internal_bytealg_LastIndexByte_d0x0 ())) n v.1 v.2.1 v.2.2.1
  | (s0, c1, i5, ()) => internal_bytealg_LastIndexByte_e0 k n s0 c1 i5
def internal_bytealg_LastIndexByte_X0 : Pce := fun st k => ckD 20 internal_bytealg_LastIndexByte_d0 st fun v => wfD internal_bytealg_LastIndexByte_d0 v → ∃ n, internal_bytealg_LastIndexByte_L0 (fun x4 => wfD internal_bytealg_LastIndexByte_d0r (x4, ()) → k .ret (mkD 20 internal_bytealg_LastIndexByte_d0r (x4, ()))) (wfD internal_bytealg_LastIndexByte_d0x0 () → k (.exit 0) (mkD 20 internal_bytealg_LastIndexByte_d0x0 ())) n v.1 v.2.1 v.2.2.1
set_option maxRecDepth 20000 in
theorem internal_bytealg_LastIndexByte_x0 : SemOk Try.prog (at' (bodyOf Try.f37) [0, 1, 0, 1]) internal_bytealg_LastIndexByte_X0 :=
  (SemOk.loop (ex_sound tb_M tb_ok internal_bytealg_LastIndexByte_Gok (LabsOk.nil) (at' (bodyOf Try.f37) [0, 0, 1, 0, 1]) [0, 0, 1, 0, 1] rfl (storesC_at internal_bytealg_LastIndexByte_st [0, 0, 1, 0, 1])) 20 internal_bytealg_LastIndexByte_d0 internal_bytealg_LastIndexByte_dx0).mono fun st k h => ckD_mono h fun v hv hw => (hv hw).elim fun n hn => ⟨n, Eq.mpr (internal_bytealg_LastIndexByte_v0 k n v) hn⟩
def internal_bytealg_LastIndexByte_B0 : Labs := ([0, 1, 0, 1], internal_bytealg_LastIndexByte_X0) :: []
theorem internal_bytealg_LastIndexByte_b0 : LabsOk Try.prog (bodyOf Try.f37) internal_bytealg_LastIndexByte_B0 := LabsOk.cons internal_bytealg_LastIndexByte_x0 (LabsOk.nil)
def internal_bytealg_LastIndexByte_raw (s0 : List Int) (c1 : Int) (K : Res → List Cell → Prop) : Prop :=
 (wfD internal_bytealg_LastIndexByte_d0 (s0, c1, (IntKind.wrap .i64 ((List.length s0 : Int) - (1 : Int))), ()) → ∃ n, internal_bytealg_LastIndexByte_L0 (fun (x4 : Int) => wfD internal_bytealg_LastIndexByte_d0r (x4, ()) → (
 K (.one (.v (.int .i64) x4)) [])) (wfD internal_bytealg_LastIndexByte_d0x0 () → (
 K (.one (.v (.int .i64) (-1 : Int))) [])) n s0 c1 (IntKind.wrap .i64 ((List.length s0 : Int) - (1 : Int))))
def internal_bytealg_LastIndexByte_A : List AS := [.v (.sl (.int .u8)), .v (.int .u8)]
theorem internal_bytealg_LastIndexByte_walk (s0 : List Int) (c1 : Int) (K : Res → List Cell → Prop) : runF tb (getG internal_bytealg_LastIndexByte_G) internal_bytealg_LastIndexByte_B0 Try.f37 [true] (mkA internal_bytealg_LastIndexByte_A (s0, c1, ())) K = internal_bytealg_LastIndexByte_raw s0 c1 K := by kernel_rfl
--! pre 0
def lastUp (xs : List Int) (c : Int) : Nat → Int
  | 0 => -1
  | n + 1 => if rd (0 : Int) xs n = c then n else lastUp xs c n
theorem lastUp_le (xs : List Int) (c : Int) : ∀ n, -1 ≤ lastUp xs c n ∧ lastUp xs c n < n
  | 0 => by simp [lastUp]
  | n + 1 => by
    have := lastUp_le xs c n
    unfold lastUp
    split <;> omega
def internal_bytealg_LastIndexByte_F (xs : List Int) (c : Int) : Int := lastUp xs c xs.length
theorem internal_bytealg_LastIndexByte_l0 (kr : Int → Prop) (kx0 : Prop) (xs : List Int) (c : Int) (hx : xs.length ≤ 9223372036854775807) : ∀ (n m : Nat), n ≤ xs.length → n < m →
    (∀ i, i = lastUp xs c n → i ≠ -1 → kr i) → (lastUp xs c n = -1 → kx0) → internal_bytealg_LastIndexByte_L0 kr kx0 m xs c ((n : Int) - 1)
  | _, 0, _, h, _, _ => absurd h (Nat.not_lt_zero _)
  | 0, m + 1, _, _, _, h2 => by
    intro _
    unfold internal_bytealg_LastIndexByte_T0
    exact brn (fun h => by omega) (fun _ => h2 rfl)
  | n + 1, m + 1, hn, hm, h1, h2 => by
    intro _
    unfold internal_bytealg_LastIndexByte_T0
    have e : ((n + 1 : Nat) : Int) - 1 = (n : Int) := by omega
    rw [e]
    refine brn (fun _ => asrt (by omega) (brn (fun h => h1 _ ?_ (by omega)) (fun h => ?_))) (fun h => absurd (by omega) h)
    · unfold lastUp; rw [if_pos h]
    · rw [wrap_i64 (by omega) (by omega)]
      have e2 : lastUp xs c (n + 1) = lastUp xs c n := by conv => lhs; unfold lastUp; rw [if_neg h]
      exact internal_bytealg_LastIndexByte_l0 kr kx0 xs c hx n m (by omega) (by omega) (fun i hi => h1 i (by rw [e2]; exact hi)) (fun hi => h2 (by rw [e2]; exact hi))
theorem internal_bytealg_LastIndexByte_sp (s : List Int) (c : Int) (K : Res → List Cell → Prop) (hw : wfA internal_bytealg_LastIndexByte_A (s, c, ())) (h : ∀ r : Int, r = internal_bytealg_LastIndexByte_F s c → K (.one (.v (.int .i64) r)) []) : internal_bytealg_LastIndexByte_raw s c K := by
  have hs : s.length ≤ 9223372036854775807 := hw.1.1
  unfold internal_bytealg_LastIndexByte_raw
  intro _
  rw [wrap_i64 (by omega) (by omega)]
  refine ⟨s.length + 1, internal_bytealg_LastIndexByte_l0 _ _ s c hs s.length (s.length + 1) (Nat.le_refl _) (Nat.lt_succ_self _) (fun i hi _ _ => h i hi) (fun hi _ => h _ hi.symm)⟩

def internal_bytealg_LastIndexByte_C (v : valsA internal_bytealg_LastIndexByte_A) (K : Res → List Cell → Prop) : Prop := ∀ r : Int, r = internal_bytealg_LastIndexByte_F v.1 v.2.1 → K (.one (.v (.int .i64) r)) []
def internal_bytealg_LastIndexByte_S : App := specW internal_bytealg_LastIndexByte_A internal_bytealg_LastIndexByte_C
theorem internal_bytealg_LastIndexByte_wv (K : Res → List Cell → Prop) : ∀ v : valsA internal_bytealg_LastIndexByte_A, runF tb (getG internal_bytealg_LastIndexByte_G) internal_bytealg_LastIndexByte_B0 Try.f37 [true] (mkA internal_bytealg_LastIndexByte_A v) K = internal_bytealg_LastIndexByte_raw v.1 v.2.1 K
  | (s0, c1, ()) => internal_bytealg_LastIndexByte_walk s0 c1 K
set_option maxRecDepth 20000 in
theorem internal_bytealg_LastIndexByte_ok : AppOk Try.prog 37 internal_bytealg_LastIndexByte_S :=
  AppOk.specW (spec_ok (runF_ok tb_M tb_ok internal_bytealg_LastIndexByte_Gok (internal_bytealg_LastIndexByte_b0) (f := 37) (fn := Try.f37) (by kernel_rfl) (by kernel_rfl) internal_bytealg_LastIndexByte_st [true]) fun v K hw h => (internal_bytealg_LastIndexByte_wv K v).mpr (internal_bytealg_LastIndexByte_sp v.1 v.2.1 K hw h))

end Go.VE
namespace Go.VE
open Go Go.Proofs
/-! ### bytes.LastIndexByte -/
def bytes_LastIndexByte_G : List (Nat × App) := [(37, internal_bytealg_LastIndexByte_S)]
theorem bytes_LastIndexByte_Gok : GOk Try.prog (getG bytes_LastIndexByte_G) := GOk.cons internal_bytealg_LastIndexByte_ok (GOk.nil)
def bytes_LastIndexByte_raw (s0 : List Int) (c1 : Int) (K : Res → List Cell → Prop) : Prop :=
 ∀ (r1 : Int), r1 = internal_bytealg_LastIndexByte_F s0 c1 → (
 wfR (.one (.v (.int .i64) r1)) → (
 K (.one (.v (.int .i64) r1)) []))
def bytes_LastIndexByte_A : List AS := [.v (.sl (.int .u8)), .v (.int .u8)]
theorem bytes_LastIndexByte_walk (s0 : List Int) (c1 : Int) (K : Res → List Cell → Prop) : runF tb (getG bytes_LastIndexByte_G) [] Try.f20 [true] (mkA bytes_LastIndexByte_A (s0, c1, ())) K = bytes_LastIndexByte_raw s0 c1 K := by kernel_rfl

def bytes_LastIndexByte_F (s0 : List Int) (c1 : Int) : Int :=
 let r1 : Int := internal_bytealg_LastIndexByte_F s0 c1
 r1
set_option maxRecDepth 20000 in
theorem bytes_LastIndexByte_sp (s0 : List Int) (c1 : Int) (K : Res → List Cell → Prop) (_ : wfA bytes_LastIndexByte_A (s0, c1, ())) (h : ∀ r : Int, r = bytes_LastIndexByte_F s0 c1 → K (.one (.v (.int .i64) r)) []) : bytes_LastIndexByte_raw s0 c1 K := by
  unfold bytes_LastIndexByte_raw
  intro r1 hr1
  subst hr1
  intro _
  exact h _ rfl
def bytes_LastIndexByte_C (v : valsA bytes_LastIndexByte_A) (K : Res → List Cell → Prop) : Prop := ∀ r : Int, r = bytes_LastIndexByte_F v.1 v.2.1 → K (.one (.v (.int .i64) r)) []
def bytes_LastIndexByte_S : App := specW bytes_LastIndexByte_A bytes_LastIndexByte_C
theorem bytes_LastIndexByte_wv (K : Res → List Cell → Prop) : ∀ v : valsA bytes_LastIndexByte_A, runF tb (getG bytes_LastIndexByte_G) [] Try.f20 [true] (mkA bytes_LastIndexByte_A v) K = bytes_LastIndexByte_raw v.1 v.2.1 K
  | (s0, c1, ()) => bytes_LastIndexByte_walk s0 c1 K
set_option maxRecDepth 20000 in
theorem bytes_LastIndexByte_ok : AppOk Try.prog 20 bytes_LastIndexByte_S :=
  AppOk.specW (spec_ok (runF_ok tb_M tb_ok bytes_LastIndexByte_Gok (LabsOk.nil) (f := 20) (fn := Try.f20) (by kernel_rfl) (by kernel_rfl) (by kernel_rfl) [true]) fun v K hw h => (bytes_LastIndexByte_wv K v).mpr (bytes_LastIndexByte_sp v.1 v.2.1 K hw h))

end Go.VE
namespace Go.VE
open Go Go.Proofs
/-! ### quoin/class.small -/
def class_small_G : List (Nat × App) := []
theorem class_small_Gok : GOk Try.prog (getG class_small_G) := GOk.nil
def class_small_raw (b0 : Int) (K : Res → List Cell → Prop) : Prop :=
 bif (decide ((97 : Int) ≤ b0)) then
 K (.one (.v (.bool) (decide (b0 ≤ (122 : Int))))) []
 else
 K (.one (.v (.bool) false)) []
def class_small_A : List AS := [.v (.int .u8)]
theorem class_small_walk (b0 : Int) (K : Res → List Cell → Prop) : runF tb (getG class_small_G) [] Try.f48 [true] (mkA class_small_A (b0, ())) K = class_small_raw b0 K := by kernel_rfl

def class_small_F (b0 : Int) : Bool :=
 bif (decide ((97 : Int) ≤ b0)) then
 (decide (b0 ≤ (122 : Int)))
 else
 false
set_option maxRecDepth 20000 in
theorem class_small_sp (b0 : Int) (K : Res → List Cell → Prop) (_ : wfA class_small_A (b0, ())) (h : ∀ r : Bool, r = class_small_F b0 → K (.one (.v (.bool) r)) []) : class_small_raw b0 K := by
  unfold class_small_raw
  refine brb (fun c_1 => ?_) (fun c_1 => ?_)
  ·
    exact h _ ((ctrue c_1) : class_small_F b0 = _).symm
  ·
    exact h _ ((cfalse c_1) : class_small_F b0 = _).symm
def class_small_C (v : valsA class_small_A) (K : Res → List Cell → Prop) : Prop := ∀ r : Bool, r = class_small_F v.1 → K (.one (.v (.bool) r)) []
def class_small_S : App := specW class_small_A class_small_C
theorem class_small_wv (K : Res → List Cell → Prop) : ∀ v : valsA class_small_A, runF tb (getG class_small_G) [] Try.f48 [true] (mkA class_small_A v) K = class_small_raw v.1 K
  | (b0, ()) => class_small_walk b0 K
set_option maxRecDepth 20000 in
theorem class_small_ok : AppOk Try.prog 48 class_small_S :=
  AppOk.specW (spec_ok (runF_ok tb_M tb_ok class_small_Gok (LabsOk.nil) (f := 48) (fn := Try.f48) (by kernel_rfl) (by kernel_rfl) (by kernel_rfl) [true]) fun v K hw h => (class_small_wv K v).mpr (class_small_sp v.1 K hw h))

end Go.VE
namespace Go.VE
open Go Go.Proofs
/-! ### quoin/class.great -/
def class_great_G : List (Nat × App) := []
theorem class_great_Gok : GOk Try.prog (getG class_great_G) := GOk.nil
def class_great_raw (b0 : Int) (K : Res → List Cell → Prop) : Prop :=
 bif (decide ((65 : Int) ≤ b0)) then
 K (.one (.v (.bool) (decide (b0 ≤ (90 : Int))))) []
 else
 K (.one (.v (.bool) false)) []
def class_great_A : List AS := [.v (.int .u8)]
theorem class_great_walk (b0 : Int) (K : Res → List Cell → Prop) : runF tb (getG class_great_G) [] Try.f49 [true] (mkA class_great_A (b0, ())) K = class_great_raw b0 K := by kernel_rfl

def class_great_F (b0 : Int) : Bool :=
 bif (decide ((65 : Int) ≤ b0)) then
 (decide (b0 ≤ (90 : Int)))
 else
 false
set_option maxRecDepth 20000 in
theorem class_great_sp (b0 : Int) (K : Res → List Cell → Prop) (_ : wfA class_great_A (b0, ())) (h : ∀ r : Bool, r = class_great_F b0 → K (.one (.v (.bool) r)) []) : class_great_raw b0 K := by
  unfold class_great_raw
  refine brb (fun c_1 => ?_) (fun c_1 => ?_)
  ·
    exact h _ ((ctrue c_1) : class_great_F b0 = _).symm
  ·
    exact h _ ((cfalse c_1) : class_great_F b0 = _).symm
def class_great_C (v : valsA class_great_A) (K : Res → List Cell → Prop) : Prop := ∀ r : Bool, r = class_great_F v.1 → K (.one (.v (.bool) r)) []
def class_great_S : App := specW class_great_A class_great_C
theorem class_great_wv (K : Res → List Cell → Prop) : ∀ v : valsA class_great_A, runF tb (getG class_great_G) [] Try.f49 [true] (mkA class_great_A v) K = class_great_raw v.1 K
  | (b0, ()) => class_great_walk b0 K
set_option maxRecDepth 20000 in
theorem class_great_ok : AppOk Try.prog 49 class_great_S :=
  AppOk.specW (spec_ok (runF_ok tb_M tb_ok class_great_Gok (LabsOk.nil) (f := 49) (fn := Try.f49) (by kernel_rfl) (by kernel_rfl) (by kernel_rfl) [true]) fun v K hw h => (class_great_wv K v).mpr (class_great_sp v.1 K hw h))

end Go.VE
namespace Go.VE
open Go Go.Proofs
/-! ### quoin/class.Of -/
def class_Of_G : List (Nat × App) := [(48, class_small_S), (49, class_great_S)]
theorem class_Of_Gok : GOk Try.prog (getG class_Of_G) := GOk.cons class_small_ok (GOk.cons class_great_ok (GOk.nil))
def class_Of_raw (b0 : Int) (big1 : Bool) (K : Res → List Cell → Prop) : Prop :=
 bif (decide (b0 = (10 : Int))) then
 K (.one (.v (.int .i64) (3 : Int))) []
 else
 bif (decide (b0 = (32 : Int))) then
 K (.one (.v (.int .i64) (0 : Int))) []
 else
 bif (decide (b0 = (9 : Int))) then
 K (.one (.v (.int .i64) (0 : Int))) []
 else
 bif big1 then
 K (.one (.v (.int .i64) (2 : Int))) []
 else
 ∀ (r1 : Bool), r1 = class_small_F b0 → (
 wfR (.one (.v (.bool) r1)) → (
 bif r1 then
 K (.one (.v (.int .i64) (2 : Int))) []
 else
 ∀ (r2 : Bool), r2 = class_great_F b0 → (
 wfR (.one (.v (.bool) r2)) → (
 bif r2 then
 K (.one (.v (.int .i64) (2 : Int))) []
 else
 bif (decide ((48 : Int) ≤ b0)) then
 bif (decide (b0 ≤ (57 : Int))) then
 K (.one (.v (.int .i64) (2 : Int))) []
 else
 bif (decide (b0 = (95 : Int))) then
 K (.one (.v (.int .i64) (2 : Int))) []
 else
 bif (decide ((128 : Int) ≤ b0)) then
 K (.one (.v (.int .i64) (2 : Int))) []
 else
 K (.one (.v (.int .i64) (1 : Int))) []
 else
 bif (decide (b0 = (95 : Int))) then
 K (.one (.v (.int .i64) (2 : Int))) []
 else
 bif (decide ((128 : Int) ≤ b0)) then
 K (.one (.v (.int .i64) (2 : Int))) []
 else
 K (.one (.v (.int .i64) (1 : Int))) []))))
def class_Of_A : List AS := [.v (.int .u8), .v (.bool)]
theorem class_Of_walk (b0 : Int) (big1 : Bool) (K : Res → List Cell → Prop) : runF tb (getG class_Of_G) [] Try.f38 [true] (mkA class_Of_A (b0, big1, ())) K = class_Of_raw b0 big1 K := by kernel_rfl

def class_Of_F (b0 : Int) (big1 : Bool) : Int :=
 bif (decide (b0 = (10 : Int))) then
 (3 : Int)
 else
 bif (decide (b0 = (32 : Int))) then
 (0 : Int)
 else
 bif (decide (b0 = (9 : Int))) then
 (0 : Int)
 else
 bif big1 then
 (2 : Int)
 else
 let r1 : Bool := class_small_F b0
 bif r1 then
 (2 : Int)
 else
 let r2 : Bool := class_great_F b0
 bif r2 then
 (2 : Int)
 else
 bif (decide ((48 : Int) ≤ b0)) then
 bif (decide (b0 ≤ (57 : Int))) then
 (2 : Int)
 else
 bif (decide (b0 = (95 : Int))) then
 (2 : Int)
 else
 bif (decide ((128 : Int) ≤ b0)) then
 (2 : Int)
 else
 (1 : Int)
 else
 bif (decide (b0 = (95 : Int))) then
 (2 : Int)
 else
 bif (decide ((128 : Int) ≤ b0)) then
 (2 : Int)
 else
 (1 : Int)
set_option maxRecDepth 20000 in
theorem class_Of_sp (b0 : Int) (big1 : Bool) (K : Res → List Cell → Prop) (_ : wfA class_Of_A (b0, big1, ())) (h : ∀ r : Int, r = class_Of_F b0 big1 → K (.one (.v (.int .i64) r)) []) : class_Of_raw b0 big1 K := by
  unfold class_Of_raw
  refine brb (fun c_1 => ?_) (fun c_1 => ?_)
  ·
    exact h _ ((ctrue c_1) : class_Of_F b0 big1 = _).symm
  ·
    refine brb (fun c_2 => ?_) (fun c_2 => ?_)
    ·
      exact h _ ((Eq.trans (cfalse c_1) (ctrue c_2)) : class_Of_F b0 big1 = _).symm
    ·
      refine brb (fun c_3 => ?_) (fun c_3 => ?_)
      ·
        exact h _ ((Eq.trans (cfalse c_1) (Eq.trans (cfalse c_2) (ctrue c_3))) : class_Of_F b0 big1 = _).symm
      ·
        refine brb (fun c_4 => ?_) (fun c_4 => ?_)
        ·
          exact h _ ((Eq.trans (cfalse c_1) (Eq.trans (cfalse c_2) (Eq.trans (cfalse c_3) (ctrue c_4)))) : class_Of_F b0 big1 = _).symm
        ·
          intro r1 hr1
          subst hr1
          intro _
          refine brb (fun c_5 => ?_) (fun c_5 => ?_)
          ·
            exact h _ ((Eq.trans (cfalse c_1) (Eq.trans (cfalse c_2) (Eq.trans (cfalse c_3) (Eq.trans (cfalse c_4) (ctrue c_5))))) : class_Of_F b0 big1 = _).symm
          ·
            intro r2 hr2
            subst hr2
            intro _
            refine brb (fun c_6 => ?_) (fun c_6 => ?_)
            ·
              exact h _ ((Eq.trans (cfalse c_1) (Eq.trans (cfalse c_2) (Eq.trans (cfalse c_3) (Eq.trans (cfalse c_4) (Eq.trans (cfalse c_5) (ctrue c_6)))))) : class_Of_F b0 big1 = _).symm
            ·
              refine brb (fun c_7 => ?_) (fun c_7 => ?_)
              ·
                refine brb (fun c_8 => ?_) (fun c_8 => ?_)
                ·
                  exact h _ ((Eq.trans (cfalse c_1) (Eq.trans (cfalse c_2) (Eq.trans (cfalse c_3) (Eq.trans (cfalse c_4) (Eq.trans (cfalse c_5) (Eq.trans (cfalse c_6) (Eq.trans (ctrue c_7) (ctrue c_8)))))))) : class_Of_F b0 big1 = _).symm
                ·
                  refine brb (fun c_9 => ?_) (fun c_9 => ?_)
                  ·
                    exact h _ ((Eq.trans (cfalse c_1) (Eq.trans (cfalse c_2) (Eq.trans (cfalse c_3) (Eq.trans (cfalse c_4) (Eq.trans (cfalse c_5) (Eq.trans (cfalse c_6) (Eq.trans (ctrue c_7) (Eq.trans (cfalse c_8) (ctrue c_9))))))))) : class_Of_F b0 big1 = _).symm
                  ·
                    refine brb (fun c_10 => ?_) (fun c_10 => ?_)
                    ·
                      exact h _ ((Eq.trans (cfalse c_1) (Eq.trans (cfalse c_2) (Eq.trans (cfalse c_3) (Eq.trans (cfalse c_4) (Eq.trans (cfalse c_5) (Eq.trans (cfalse c_6) (Eq.trans (ctrue c_7) (Eq.trans (cfalse c_8) (Eq.trans (cfalse c_9) (ctrue c_10)))))))))) : class_Of_F b0 big1 = _).symm
                    ·
                      exact h _ ((Eq.trans (cfalse c_1) (Eq.trans (cfalse c_2) (Eq.trans (cfalse c_3) (Eq.trans (cfalse c_4) (Eq.trans (cfalse c_5) (Eq.trans (cfalse c_6) (Eq.trans (ctrue c_7) (Eq.trans (cfalse c_8) (Eq.trans (cfalse c_9) (cfalse c_10)))))))))) : class_Of_F b0 big1 = _).symm
              ·
                refine brb (fun c_11 => ?_) (fun c_11 => ?_)
                ·
                  exact h _ ((Eq.trans (cfalse c_1) (Eq.trans (cfalse c_2) (Eq.trans (cfalse c_3) (Eq.trans (cfalse c_4) (Eq.trans (cfalse c_5) (Eq.trans (cfalse c_6) (Eq.trans (cfalse c_7) (ctrue c_11)))))))) : class_Of_F b0 big1 = _).symm
                ·
                  refine brb (fun c_12 => ?_) (fun c_12 => ?_)
                  ·
                    exact h _ ((Eq.trans (cfalse c_1) (Eq.trans (cfalse c_2) (Eq.trans (cfalse c_3) (Eq.trans (cfalse c_4) (Eq.trans (cfalse c_5) (Eq.trans (cfalse c_6) (Eq.trans (cfalse c_7) (Eq.trans (cfalse c_11) (ctrue c_12))))))))) : class_Of_F b0 big1 = _).symm
                  ·
                    exact h _ ((Eq.trans (cfalse c_1) (Eq.trans (cfalse c_2) (Eq.trans (cfalse c_3) (Eq.trans (cfalse c_4) (Eq.trans (cfalse c_5) (Eq.trans (cfalse c_6) (Eq.trans (cfalse c_7) (Eq.trans (cfalse c_11) (cfalse c_12))))))))) : class_Of_F b0 big1 = _).symm
def class_Of_C (v : valsA class_Of_A) (K : Res → List Cell → Prop) : Prop := ∀ r : Int, r = class_Of_F v.1 v.2.1 → K (.one (.v (.int .i64) r)) []
def class_Of_S : App := specW class_Of_A class_Of_C
theorem class_Of_wv (K : Res → List Cell → Prop) : ∀ v : valsA class_Of_A, runF tb (getG class_Of_G) [] Try.f38 [true] (mkA class_Of_A v) K = class_Of_raw v.1 v.2.1 K
  | (b0, big1, ()) => class_Of_walk b0 big1 K
set_option maxRecDepth 20000 in
theorem class_Of_ok : AppOk Try.prog 38 class_Of_S :=
  AppOk.specW (spec_ok (runF_ok tb_M tb_ok class_Of_Gok (LabsOk.nil) (f := 38) (fn := Try.f38) (by kernel_rfl) (by kernel_rfl) (by kernel_rfl) [true]) fun v K hw h => (class_Of_wv K v).mpr (class_Of_sp v.1 v.2.1 K hw h))

end Go.VE
namespace Go.VE
open Go Go.Proofs
/-! ### quoin/typing.word -/
def typing_word_G : List (Nat × App) := [(38, class_Of_S)]
theorem typing_word_Gok : GOk Try.prog (getG typing_word_G) := GOk.cons class_Of_ok (GOk.nil)
theorem typing_word_st : storesC (bodyOf Try.f21) = true := by kernel_rfl
def typing_word_d0 : List LS := [.v 0 (.sl (.int .u8)), .v 3 (.int .i64)]
def typing_word_d0x0 : List LS := [.v 0 (.sl (.int .u8)), .v 3 (.int .i64)]
def typing_word_dx0 : DX := ⟨none, none, [(0, typing_word_d0x0)]⟩
def typing_word_T0 (Y : List Int → Int → Prop) (kx0 : List Int → Int → Prop) (typed0 : List Int) (n3 : Int) : Prop :=
 bif (decide ((0 : Int) < n3)) then
 bif decide (0 ≤ (IntKind.wrap .i64 (n3 - (1 : Int))) ∧ (IntKind.wrap .i64 (n3 - (1 : Int))) < (List.length typed0 : Int)) then
 ∀ (r1 : Int), r1 = class_Of_F (rd (0 : Int) typed0 (IntKind.wrap .i64 (n3 - (1 : Int)))) false → (
 wfR (.one (.v (.int .i64) r1)) → (
 bif (decide (r1 = (0 : Int))) then
 Y typed0 (IntKind.wrap .i64 (n3 - (1 : Int)))
 else
 kx0 typed0 n3))
 else False
 else
 kx0 typed0 n3
def typing_word_L0 (kx0 : List Int → Int → Prop) : Nat → List Int → Int → Prop
  | 0, _, _ => False
  | n + 1, typed0, n3 => wfD typing_word_d0 (typed0, n3, ()) → typing_word_T0 (typing_word_L0 kx0 n) kx0 typed0 n3
theorem typing_word_s0 (k : Ex → St → Prop) (Y : vals typing_word_d0 → Prop) (typed0 : List Int) (n3 : Int) :
    ex tb (getG typing_word_G) [] (at' (bodyOf Try.f21) [0, 0, 0, 1, 1, 1]) [0, 0, 0, 1, 1, 1] (mkD 59 typing_word_d0 (typed0, n3, ())) (lpK 59 typing_word_d0 typing_word_dx0 k Y) =
    typing_word_T0 (fun typed0 n3 => Y (typed0, n3, ())) (fun typed0 n3 => wfD typing_word_d0x0 (typed0, n3, ()) → k (.exit 0) (mkD 59 typing_word_d0x0 (typed0, n3, ()))) typed0 n3 := by kernel_rfl
theorem typing_word_e0 (k : Ex → St → Prop) : ∀ (n : Nat) (typed0 : List Int) (n3 : Int), lpD 59 typing_word_d0 typing_word_dx0 (ex tb (getG typing_word_G) [] (at' (bodyOf Try.f21) [0, 0, 0, 1, 1, 1]) [0, 0, 0, 1, 1, 1]) k n (typed0, n3, ()) = typing_word_L0 (fun typed0 n3 => wfD typing_word_d0x0 (typed0, n3, ()) → k (.exit 0) (mkD 59 typing_word_d0x0 (typed0, n3, ()))) n typed0 n3
  | 0, _, _ => rfl
  | n + 1, typed0, n3 => congrArg (fun Z : Prop => wfD typing_word_d0 (typed0, n3, ()) → Z) ((typing_word_s0 k (lpD 59 typing_word_d0 typing_word_dx0 (ex tb (getG typing_word_G) [] (at' (bodyOf Try.f21) [0, 0, 0, 1, 1, 1]) [0, 0, 0, 1, 1, 1]) k n) typed0 n3).trans (congrArg (fun Y => typing_word_T0 Y (fun typed0 n3 => wfD typing_word_d0x0 (typed0, n3, ()) → k (.exit 0) (mkD 59 typing_word_d0x0 (typed0, n3, ()))) typed0 n3) (funext fun typed0 => funext fun n3 => typing_word_e0 k n typed0 n3)))
theorem typing_word_v0 (k : Ex → St → Prop) (n : Nat) : ∀ v : vals typing_word_d0, lpD 59 typing_word_d0 typing_word_dx0 (ex tb (getG typing_word_G) [] (at' (bodyOf Try.f21) [0, 0, 0, 1, 1, 1]) [0, 0, 0, 1, 1, 1]) k n v = typing_word_L0 (fun typed0 n3 => wfD typing_word_d0x0 (typed0, n3, ()) → k (.exit 0) (mkD 59 typing_word_d0x0 (typed0, n3, ()))) n v.1 v.2.1
  | (typed0, n3, ()) => typing_word_e0 k n typed0 n3
def typing_word_X0 : Pce := fun st k => ckD 59 typing_word_d0 st fun v => wfD typing_word_d0 v → ∃ n, typing_word_L0 (fun typed0 n3 => wfD typing_word_d0x0 (typed0, n3, ()) → k (.exit 0) (mkD 59 typing_word_d0x0 (typed0, n3, ()))) n v.1 v.2.1
set_option maxRecDepth 20000 in
theorem typing_word_x0 : SemOk Try.prog (at' (bodyOf Try.f21) [0, 0, 1, 1, 1]) typing_word_X0 :=
  (SemOk.loop (ex_sound tb_M tb_ok typing_word_Gok (LabsOk.nil) (at' (bodyOf Try.f21) [0, 0, 0, 1, 1, 1]) [0, 0, 0, 1, 1, 1] rfl (storesC_at typing_word_st [0, 0, 0, 1, 1, 1])) 59 typing_word_d0 typing_word_dx0).mono fun st k h => ckD_mono h fun v hv hw => (hv hw).elim fun n hn => ⟨n, Eq.mpr (typing_word_v0 k n v) hn⟩
def typing_word_B0 : Labs := ([0, 0, 1, 1, 1], typing_word_X0) :: []
theorem typing_word_b0 : LabsOk Try.prog (bodyOf Try.f21) typing_word_B0 := LabsOk.cons typing_word_x0 (LabsOk.nil)
def typing_word_d1 : List LS := [.v 0 (.sl (.int .u8)), .v 3 (.int .i64), .v 4 (.int .i64)]
def typing_word_d1x2 : List LS := [.v 0 (.sl (.int .u8)), .v 3 (.int .i64)]
def typing_word_dx1 : DX := ⟨none, none, [(2, typing_word_d1x2)]⟩
def typing_word_T1 (Y : List Int → Int → Int → Prop) (kx2 : List Int → Int → Prop) (typed0 : List Int) (n3 : Int) (kind4 : Int) : Prop :=
 bif (decide ((0 : Int) < n3)) then
 bif (!decide (kind4 = (3 : Int))) then
 bif decide (0 ≤ (IntKind.wrap .i64 (n3 - (1 : Int))) ∧ (IntKind.wrap .i64 (n3 - (1 : Int))) < (List.length typed0 : Int)) then
 ∀ (r3 : Int), r3 = class_Of_F (rd (0 : Int) typed0 (IntKind.wrap .i64 (n3 - (1 : Int)))) false → (
 wfR (.one (.v (.int .i64) r3)) → (
 bif (decide (r3 = kind4)) then
 Y typed0 (IntKind.wrap .i64 (n3 - (1 : Int))) kind4
 else
 kx2 typed0 n3))
 else False
 else
 kx2 typed0 n3
 else
 kx2 typed0 n3
def typing_word_L1 (kx2 : List Int → Int → Prop) : Nat → List Int → Int → Int → Prop
  | 0, _, _, _ => False
  | n + 1, typed0, n3, kind4 => wfD typing_word_d1 (typed0, n3, kind4, ()) → typing_word_T1 (typing_word_L1 kx2 n) kx2 typed0 n3 kind4
theorem typing_word_s1 (k : Ex → St → Prop) (Y : vals typing_word_d1 → Prop) (typed0 : List Int) (n3 : Int) (kind4 : Int) :
    ex tb (getG typing_word_G) typing_word_B0 (at' (bodyOf Try.f21) [0, 0, 1, 0, 1, 0, 1, 1, 1, 1]) [0, 0, 1, 0, 1, 0, 1, 1, 1, 1] (mkD 59 typing_word_d1 (typed0, n3, kind4, ())) (lpK 59 typing_word_d1 typing_word_dx1 k Y) =
    typing_word_T1 (fun typed0 n3 kind4 => Y (typed0, n3, kind4, ())) (fun typed0 n3 => wfD typing_word_d1x2 (typed0, n3, ()) → k (.exit 2) (mkD 59 typing_word_d1x2 (typed0, n3, ()))) typed0 n3 kind4 := by kernel_rfl
theorem typing_word_e1 (k : Ex → St → Prop) : ∀ (n : Nat) (typed0 : List Int) (n3 : Int) (kind4 : Int), lpD 59 typing_word_d1 typing_word_dx1 (ex tb (getG typing_word_G) typing_word_B0 (at' (bodyOf Try.f21) [0, 0, 1, 0, 1, 0, 1, 1, 1, 1]) [0, 0, 1, 0, 1, 0, 1, 1, 1, 1]) k n (typed0, n3, kind4, ()) = typing_word_L1 (fun typed0 n3 => wfD typing_word_d1x2 (typed0, n3, ()) → k (.exit 2) (mkD 59 typing_word_d1x2 (typed0, n3, ()))) n typed0 n3 kind4
  | 0, _, _, _ => rfl
  | n + 1, typed0, n3, kind4 => congrArg (fun Z : Prop => wfD typing_word_d1 (typed0, n3, kind4, ()) → Z) ((typing_word_s1 k (lpD 59 typing_word_d1 typing_word_dx1 (ex tb (getG typing_word_G) typing_word_B0 (at' (bodyOf Try.f21) [0, 0, 1, 0, 1, 0, 1, 1, 1, 1]) [0, 0, 1, 0, 1, 0, 1, 1, 1, 1]) k n) typed0 n3 kind4).trans (congrArg (fun Y => typing_word_T1 Y (fun typed0 n3 => wfD typing_word_d1x2 (typed0, n3, ()) → k (.exit 2) (mkD 59 typing_word_d1x2 (typed0, n3, ()))) typed0 n3 kind4) (funext fun typed0 => funext fun n3 => funext fun kind4 => typing_word_e1 k n typed0 n3 kind4)))
theorem typing_word_v1 (k : Ex → St → Prop) (n : Nat) : ∀ v : vals typing_word_d1, lpD 59 typing_word_d1 typing_word_dx1 (ex tb (getG typing_word_G) typing_word_B0 (at' (bodyOf Try.f21) [0, 0, 1, 0, 1, 0, 1, 1, 1, 1]) [0, 0, 1, 0, 1, 0, 1, 1, 1, 1]) k n v = typing_word_L1 (fun typed0 n3 => wfD typing_word_d1x2 (typed0, n3, ()) → k (.exit 2) (mkD 59 typing_word_d1x2 (typed0, n3, ()))) n v.1 v.2.1 v.2.2.1
  | (typed0, n3, kind4, ()) => typing_word_e1 k n typed0 n3 kind4
def typing_word_X1 : Pce := fun st k => ckD 59 typing_word_d1 st fun v => wfD typing_word_d1 v → ∃ n, typing_word_L1 (fun typed0 n3 => wfD typing_word_d1x2 (typed0, n3, ()) → k (.exit 2) (mkD 59 typing_word_d1x2 (typed0, n3, ()))) n v.1 v.2.1 v.2.2.1
set_option maxRecDepth 20000 in
theorem typing_word_x1 : SemOk Try.prog (at' (bodyOf Try.f21) [0, 1, 0, 1, 0, 1, 1, 1, 1]) typing_word_X1 :=
  (SemOk.loop (ex_sound tb_M tb_ok typing_word_Gok (typing_word_b0) (at' (bodyOf Try.f21) [0, 0, 1, 0, 1, 0, 1, 1, 1, 1]) [0, 0, 1, 0, 1, 0, 1, 1, 1, 1] rfl (storesC_at typing_word_st [0, 0, 1, 0, 1, 0, 1, 1, 1, 1])) 59 typing_word_d1 typing_word_dx1).mono fun st k h => ckD_mono h fun v hv hw => (hv hw).elim fun n hn => ⟨n, Eq.mpr (typing_word_v1 k n v) hn⟩
def typing_word_B1 : Labs := ([0, 1, 0, 1, 0, 1, 1, 1, 1], typing_word_X1) :: typing_word_B0
theorem typing_word_b1 : LabsOk Try.prog (bodyOf Try.f21) typing_word_B1 := LabsOk.cons typing_word_x1 (typing_word_b0)
def typing_word_raw (typed0 : List Int) (K : Res → List Cell → Prop) : Prop :=
 bif decide (0 ≤ (IntKind.wrap .i64 ((List.length typed0 : Int) - (1 : Int))) ∧ (IntKind.wrap .i64 ((List.length typed0 : Int) - (1 : Int))) < (List.length typed0 : Int)) then
 bif (decide ((rd (0 : Int) typed0 (IntKind.wrap .i64 ((List.length typed0 : Int) - (1 : Int)))) = (10 : Int))) then
 bif decide (0 ≤ (IntKind.wrap .i64 ((List.length typed0 : Int) - (1 : Int))) ∧ (IntKind.wrap .i64 ((List.length typed0 : Int) - (1 : Int))) ≤ (List.length typed0 : Int)) then
 K (.one (.v (.sl (.int .u8)) (List.take (Int.toNat (IntKind.wrap .i64 ((List.length typed0 : Int) - (1 : Int)))) typed0))) []
 else False
 else
 (wfD typing_word_d0 (typed0, (List.length typed0 : Int), ()) → ∃ n, typing_word_L0 (fun (typed0 : List Int) (n3 : Int) => wfD typing_word_d0x0 (typed0, n3, ()) → (
 bif (decide ((0 : Int) < n3)) then
 bif decide (0 ≤ (IntKind.wrap .i64 (n3 - (1 : Int))) ∧ (IntKind.wrap .i64 (n3 - (1 : Int))) < (List.length typed0 : Int)) then
 ∀ (r2 : Int), r2 = class_Of_F (rd (0 : Int) typed0 (IntKind.wrap .i64 (n3 - (1 : Int)))) false → (
 wfR (.one (.v (.int .i64) r2)) → (
 (wfD typing_word_d1 (typed0, n3, r2, ()) → ∃ n, typing_word_L1 (fun (typed0 : List Int) (n3 : Int) => wfD typing_word_d1x2 (typed0, n3, ()) → (
 bif decide (0 ≤ n3 ∧ n3 ≤ (List.length typed0 : Int)) then
 K (.one (.v (.sl (.int .u8)) (List.take (Int.toNat n3) typed0))) []
 else False)) n typed0 n3 r2)))
 else False
 else
 bif decide (0 ≤ n3 ∧ n3 ≤ (List.length typed0 : Int)) then
 K (.one (.v (.sl (.int .u8)) (List.take (Int.toNat n3) typed0))) []
 else False)) n typed0 (List.length typed0 : Int))
 else False
def typing_word_A : List AS := [.v (.sl (.int .u8))]
theorem typing_word_walk (typed0 : List Int) (K : Res → List Cell → Prop) : runF tb (getG typing_word_G) typing_word_B1 Try.f21 [true] (mkA typing_word_A (typed0, ())) K = typing_word_raw typed0 K := by kernel_rfl
--! pre 1
def typing_word_P (t : List Int) : Prop := 0 < t.length
def wordBlank (t : List Int) : Nat → Nat
  | 0 => 0
  | n + 1 => if class_Of_F (rd (0 : Int) t n) false = 0 then wordBlank t n else n + 1
def wordKind (t : List Int) (k : Int) : Nat → Nat
  | 0 => 0
  | n + 1 => if k ≠ 3 ∧ class_Of_F (rd (0 : Int) t n) false = k then wordKind t k n else n + 1
theorem wordBlank_le (t : List Int) : ∀ n, wordBlank t n ≤ n
  | 0 => Nat.le_refl _
  | n + 1 => by have := wordBlank_le t n; unfold wordBlank; split <;> omega
theorem wordKind_le (t : List Int) (k : Int) : ∀ n, wordKind t k n ≤ n
  | 0 => Nat.le_refl _
  | n + 1 => by have := wordKind_le t k n; unfold wordKind; split <;> omega
def wordLen (t : List Int) : Nat :=
  if rd (0 : Int) t ((t.length - 1 : Nat) : Int) = 10 then t.length - 1 else
    if 0 < wordBlank t t.length then wordKind t (class_Of_F (rd (0 : Int) t ((wordBlank t t.length - 1 : Nat) : Int)) false) (wordBlank t t.length) else 0
def typing_word_F (t : List Int) : List Int := t.take (wordLen t)
theorem typing_word_l0 (kx0 : List Int → Int → Prop) (t : List Int) (ht : t.length ≤ 9223372036854775807) : ∀ (n m : Nat), n ≤ t.length → n < m → kx0 t (wordBlank t n : Int) → typing_word_L0 kx0 m t (n : Int)
  | _, 0, _, h, _ => absurd h (Nat.not_lt_zero _)
  | 0, m + 1, _, _, h => by
    intro _
    unfold typing_word_T0
    exact brn (fun h => absurd h (by omega)) (fun _ => h)
  | n + 1, m + 1, hn, hm, h => by
    intro _
    unfold typing_word_T0
    rw [wrap_i64 (by omega) (by omega), show ((n + 1 : Nat) : Int) - 1 = (n : Int) by omega]
    refine brn (fun _ => asrt (by omega) fun r hr _ => brn (fun hb => ?_) (fun hb => ?_)) (fun h => absurd (by omega) h)
    · exact typing_word_l0 kx0 t ht n m (by omega) (by omega) (by unfold wordBlank at h; rw [if_pos (by rw [← hr]; exact hb)] at h; exact h)
    · unfold wordBlank at h; rw [if_neg (by rw [← hr]; exact hb)] at h; exact h
theorem typing_word_l1 (kx : List Int → Int → Prop) (t : List Int) (k : Int) (ht : t.length ≤ 9223372036854775807) : ∀ (n m : Nat), n ≤ t.length → n < m → kx t (wordKind t k n : Int) → typing_word_L1 kx m t (n : Int) k
  | _, 0, _, h, _ => absurd h (Nat.not_lt_zero _)
  | 0, m + 1, _, _, h => by
    intro _
    unfold typing_word_T1
    exact brn (fun h => absurd h (by omega)) (fun _ => h)
  | n + 1, m + 1, hn, hm, h => by
    intro _
    unfold typing_word_T1
    rw [wrap_i64 (by omega) (by omega), show ((n + 1 : Nat) : Int) - 1 = (n : Int) by omega]
    unfold wordKind at h
    refine brn (fun _ => brb (fun h3 => asrt (by omega) fun r hr _ => brn (fun hb => ?_) (fun hb => ?_)) (fun h3 => ?_)) (fun h => absurd (by omega) h)
    · have h3 : k ≠ 3 := by simpa using h3
      exact typing_word_l1 kx t k ht n m (by omega) (by omega) (by rw [if_pos ⟨h3, by rw [← hr]; exact hb⟩] at h; exact h)
    · rw [if_neg (fun hh => hb (by rw [hr]; exact hh.2))] at h; exact h
    · have h3 : k = 3 := by simpa using h3
      rw [if_neg (fun hh => hh.1 h3)] at h; exact h
theorem typing_word_sp (t : List Int) (K : Res → List Cell → Prop) (hw : wfA typing_word_A (t, ())) (hp : typing_word_P t) (h : ∀ r : List Int, r = typing_word_F t → K (.one (.v (.sl (.int .u8)) r)) []) : typing_word_raw t K := by
  have ht : t.length ≤ 9223372036854775807 := hw.1.1
  unfold typing_word_P at hp
  unfold typing_word_raw
  rw [wrap_i64 (by omega) (by omega), show (t.length : Int) - 1 = ((t.length - 1 : Nat) : Int) by omega]
  refine asrt (by omega) (brn (fun hb => asrt (by omega) (h _ ?_)) (fun hb _ => ⟨t.length + 1, typing_word_l0 _ t ht t.length _ (by omega) (by omega) fun _ => ?_⟩))
  · unfold typing_word_F wordLen; rw [if_pos hb, Int.toNat_natCast]
  · have hle := wordBlank_le t t.length
    refine brn (fun h0 => ?_) (fun h0 => asrt (by omega) (h _ ?_))
    · rw [wrap_i64 (by omega) (by omega), show (wordBlank t t.length : Int) - 1 = ((wordBlank t t.length - 1 : Nat) : Int) by omega]
      refine asrt (by omega) fun r hr _ _ => ⟨wordBlank t t.length + 1, typing_word_l1 _ t r ht _ _ hle (by omega) fun _ => asrt ?_ (h _ ?_)⟩
      · have := wordKind_le t r (wordBlank t t.length); omega
      · unfold typing_word_F wordLen; rw [if_neg hb, if_pos (by omega), ← hr, Int.toNat_natCast]
    · unfold typing_word_F wordLen; rw [if_neg hb, if_neg (by omega)]; simp; omega

def typing_word_C (v : valsA typing_word_A) (K : Res → List Cell → Prop) : Prop := typing_word_P v.1 ∧ ∀ r : List Int, r = typing_word_F v.1 → K (.one (.v (.sl (.int .u8)) r)) []
def typing_word_S : App := specW typing_word_A typing_word_C
theorem typing_word_wv (K : Res → List Cell → Prop) : ∀ v : valsA typing_word_A, runF tb (getG typing_word_G) typing_word_B1 Try.f21 [true] (mkA typing_word_A v) K = typing_word_raw v.1 K
  | (typed0, ()) => typing_word_walk typed0 K
set_option maxRecDepth 20000 in
theorem typing_word_ok : AppOk Try.prog 21 typing_word_S :=
  AppOk.specW (spec_ok (runF_ok tb_M tb_ok typing_word_Gok (typing_word_b1) (f := 21) (fn := Try.f21) (by kernel_rfl) (by kernel_rfl) typing_word_st [true]) fun v K hw h => (typing_word_wv K v).mpr (typing_word_sp v.1 K hw h.1 h.2))

end Go.VE
namespace Go.VE
open Go Go.Proofs
/-! ### quoin/typing.Press -/
def typing_Press_G : List (Nat × App) := [(11, typing_fits_S), (20, bytes_LastIndexByte_S), (21, typing_word_S), (22, typing_isText_S), (23, typing_under_S)]
theorem typing_Press_Gok : GOk Try.prog (getG typing_Press_G) := GOk.cons typing_fits_ok (GOk.cons bytes_LastIndexByte_ok (GOk.cons typing_word_ok (GOk.cons typing_isText_ok (GOk.cons typing_under_ok (GOk.nil)))))
theorem typing_Press_st : storesC (bodyOf Try.f8) = true := by kernel_rfl
def typing_Press_d0 : List LS := [.v 0 (.sl (.int .u8)), .v 2 (.int .u8), .b 4 32 [], .b 6 48 [], .o 9 77 5 (.int .u8), .v 10 (.int .i64), .v 22 (.int .u8), .v 36 (.bool), .c 32 (.st (.pair (.int .u8) (.pair (.int .i64) (.pair (.sl (.int .u8)) (.pair (.int .i64) (.int .i64)))))), .c 48 (.st (.pair (.int .u8) (.pair (.int .i64) (.pair (.sl (.int .u8)) (.pair (.int .i64) (.int .i64))))))]
def typing_Press_d0r : List LS := [.b 6 48 [], .v 7 (.bool), .v 8 (.int .i64), .c 48 (.st (.pair (.int .u8) (.pair (.int .i64) (.pair (.sl (.int .u8)) (.pair (.int .i64) (.int .i64))))))]
def typing_Press_d0n : List LS := [.v 0 (.sl (.int .u8)), .b 4 32 [], .b 6 48 [], .v 9 (.sl (.int .u8)), .c 32 (.st (.pair (.int .u8) (.pair (.int .i64) (.pair (.sl (.int .u8)) (.pair (.int .i64) (.int .i64)))))), .c 48 (.st (.pair (.int .u8) (.pair (.int .i64) (.pair (.sl (.int .u8)) (.pair (.int .i64) (.int .i64))))))]
def typing_Press_dx0 : DX := ⟨some typing_Press_d0n, some typing_Press_d0r, []⟩
def typing_Press_J0 (kr : Bool → Int → (Int × Int × List Int × Int × Int) → Prop) (kn : List Int → List Int → (Int × Int × List Int × Int × Int) → (Int × Int × List Int × Int × Int) → Prop) (base0 : List Int) (key2 : Int) (typed9 : List Int) (n10 : Int) (x22 : Int) (x36 : Bool) (y4b : (Int × Int × List Int × Int × Int)) (x6b : (Int × Int × List Int × Int × Int)) : Prop :=
 bif x36 then
 bif (decide (n10 = (0 : Int))) then
 kr false (200 : Int) ((0 : Int), (0 : Int), ([] : List Int), (0 : Int), (0 : Int))
 else
 bif (decide (key2 = (21 : Int))) then
 bif decide (0 ≤ (IntKind.wrap .i64 (n10 - (1 : Int))) ∧ (IntKind.wrap .i64 (n10 - (1 : Int))) < (List.length typed9 : Int)) then
 bif (decide ((rd (0 : Int) typed9 (IntKind.wrap .i64 (n10 - (1 : Int)))) = (10 : Int))) then
 kr false (200 : Int) ((0 : Int), (0 : Int), ([] : List Int), (0 : Int), (0 : Int))
 else
 bif (decide (key2 = (21 : Int))) then
 ∀ (r2 : Int), r2 = bytes_LastIndexByte_F typed9 (10 : Int) → (
 wfR (.one (.v (.int .i64) r2)) → (
 bif decide (0 ≤ (IntKind.wrap .i64 (r2 + (1 : Int))) ∧ (IntKind.wrap .i64 (r2 + (1 : Int))) ≤ (List.length typed9 : Int)) then
 kn base0 (List.take (Int.toNat (IntKind.wrap .i64 (r2 + (1 : Int)))) typed9) y4b x6b
 else False))
 else
 bif (decide (key2 = (23 : Int))) then
 typing_word_P typed9 ∧ (
 ∀ (r3 : List Int), r3 = typing_word_F typed9 → (
 wfR (.one (.v (.sl (.int .u8)) r3)) → (
 kn base0 r3 y4b x6b)))
 else
 bif decide (0 ≤ (IntKind.wrap .i64 (n10 - (1 : Int))) ∧ (IntKind.wrap .i64 (n10 - (1 : Int))) ≤ (List.length typed9 : Int)) then
 kn base0 (List.take (Int.toNat (IntKind.wrap .i64 (n10 - (1 : Int)))) typed9) y4b x6b
 else False
 else False
 else
 bif (decide (key2 = (21 : Int))) then
 ∀ (r4 : Int), r4 = bytes_LastIndexByte_F typed9 (10 : Int) → (
 wfR (.one (.v (.int .i64) r4)) → (
 bif decide (0 ≤ (IntKind.wrap .i64 (r4 + (1 : Int))) ∧ (IntKind.wrap .i64 (r4 + (1 : Int))) ≤ (List.length typed9 : Int)) then
 kn base0 (List.take (Int.toNat (IntKind.wrap .i64 (r4 + (1 : Int)))) typed9) y4b x6b
 else False))
 else
 bif (decide (key2 = (23 : Int))) then
 typing_word_P typed9 ∧ (
 ∀ (r5 : List Int), r5 = typing_word_F typed9 → (
 wfR (.one (.v (.sl (.int .u8)) r5)) → (
 kn base0 r5 y4b x6b)))
 else
 bif decide (0 ≤ (IntKind.wrap .i64 (n10 - (1 : Int))) ∧ (IntKind.wrap .i64 (n10 - (1 : Int))) ≤ (List.length typed9 : Int)) then
 kn base0 (List.take (Int.toNat (IntKind.wrap .i64 (n10 - (1 : Int)))) typed9) y4b x6b
 else False
 else
 bif (decide (x22 = (13 : Int))) then
 bif decide (List.length typed9 + List.length ([(10 : Int)] : List Int) ≤ lim) then
 kn base0 (typed9 ++ ([(10 : Int)] : List Int)) y4b x6b
 else False
 else
 ∀ (r6 : Bool), r6 = typing_isText_F key2 → (
 wfR (.one (.v (.bool) r6)) → (
 bif (!r6) then
 kr false (200 : Int) ((0 : Int), (0 : Int), ([] : List Int), (0 : Int), (0 : Int))
 else
 bif decide (List.length typed9 + List.length ([key2] : List Int) ≤ lim) then
 kn base0 (typed9 ++ ([key2] : List Int)) y4b x6b
 else False))
theorem typing_Press_s0 (k : Ex → St → Prop) (base0 : List Int) (key2 : Int) (typed9 : List Int) (n10 : Int) (x22 : Int) (x36 : Bool) (y4b : (Int × Int × List Int × Int × Int)) (x6b : (Int × Int × List Int × Int × Int)) :
    ex tb (getG typing_Press_G) [] (at' (bodyOf Try.f8) [1, 1, 1, 0, 1, 0, 1, 1, 1, 1]) [1, 1, 1, 0, 1, 0, 1, 1, 1, 1] (mkD 84 typing_Press_d0 (base0, key2, typed9, n10, x22, x36, y4b, x6b, ())) (wk 84 typing_Press_dx0 k) =
    typing_Press_J0 (fun x7 x8 x6b => wfD typing_Press_d0r (x7, x8, x6b, ()) → k .ret (mkD 84 typing_Press_d0r (x7, x8, x6b, ()))) (fun base0 typed9 y4b x6b => wfD typing_Press_d0n (base0, typed9, y4b, x6b, ()) → k .nrm (mkD 84 typing_Press_d0n (base0, typed9, y4b, x6b, ()))) base0 key2 typed9 n10 x22 x36 y4b x6b := by kernel_rfl
theorem typing_Press_v0 (k : Ex → St → Prop) : ∀ v : vals typing_Press_d0, ex tb (getG typing_Press_G) [] (at' (bodyOf Try.f8) [1, 1, 1, 0, 1, 0, 1, 1, 1, 1]) [1, 1, 1, 0, 1, 0, 1, 1, 1, 1] (mkD 84 typing_Press_d0 v) (wk 84 typing_Press_dx0 k) = typing_Press_J0 (fun x7 x8 x6b => wfD typing_Press_d0r (x7, x8, x6b, ()) → k .ret (mkD 84 typing_Press_d0r (x7, x8, x6b, ()))) (fun base0 typed9 y4b x6b => wfD typing_Press_d0n (base0, typed9, y4b, x6b, ()) → k .nrm (mkD 84 typing_Press_d0n (base0, typed9, y4b, x6b, ()))) v.1 v.2.1 v.2.2.1 v.2.2.2.1 v.2.2.2.2.1 v.2.2.2.2.2.1 v.2.2.2.2.2.2.1 v.2.2.2.2.2.2.2.1
  | (base0, key2, typed9, n10, x22, x36, y4b, x6b, ()) => typing_Press_s0 k base0 key2 typed9 n10 x22 x36 y4b x6b
def typing_Press_X0 : Pce := fun st k => ckD 84 typing_Press_d0 st fun v => wfD typing_Press_d0 v → typing_Press_J0 (fun x7 x8 x6b => wfD typing_Press_d0r (x7, x8, x6b, ()) → k .ret (mkD 84 typing_Press_d0r (x7, x8, x6b, ()))) (fun base0 typed9 y4b x6b => wfD typing_Press_d0n (base0, typed9, y4b, x6b, ()) → k .nrm (mkD 84 typing_Press_d0n (base0, typed9, y4b, x6b, ()))) v.1 v.2.1 v.2.2.1 v.2.2.2.1 v.2.2.2.2.1 v.2.2.2.2.2.1 v.2.2.2.2.2.2.1 v.2.2.2.2.2.2.2.1
set_option maxRecDepth 20000 in
theorem typing_Press_x0 : SemOk Try.prog (at' (bodyOf Try.f8) [1, 1, 1, 0, 1, 0, 1, 1, 1, 1]) typing_Press_X0 :=
  (SemOk.wk (N := 84) (ds := typing_Press_d0) (dx := typing_Press_dx0) (ex_sound tb_M tb_ok typing_Press_Gok (LabsOk.nil) (at' (bodyOf Try.f8) [1, 1, 1, 0, 1, 0, 1, 1, 1, 1]) [1, 1, 1, 0, 1, 0, 1, 1, 1, 1] rfl (storesC_at typing_Press_st [1, 1, 1, 0, 1, 0, 1, 1, 1, 1]))).mono fun st k h => ckD_mono h fun v hv hw => Eq.mpr (typing_Press_v0 k v) (hv hw)
def typing_Press_B0 : Labs := ([1, 1, 1, 0, 1, 0, 1, 1, 1, 1], typing_Press_X0) :: []
theorem typing_Press_b0 : LabsOk Try.prog (bodyOf Try.f8) typing_Press_B0 := LabsOk.cons typing_Press_x0 (LabsOk.nil)
def typing_Press_d1 : List LS := [.v 0 (.sl (.int .u8)), .b 4 32 [], .b 6 48 [], .v 9 (.sl (.int .u8)), .c 32 (.st (.pair (.int .u8) (.pair (.int .i64) (.pair (.sl (.int .u8)) (.pair (.int .i64) (.int .i64)))))), .c 48 (.st (.pair (.int .u8) (.pair (.int .i64) (.pair (.sl (.int .u8)) (.pair (.int .i64) (.int .i64))))))]
def typing_Press_d1r : List LS := [.b 6 48 [], .v 7 (.bool), .v 8 (.int .i64), .c 48 (.st (.pair (.int .u8) (.pair (.int .i64) (.pair (.sl (.int .u8)) (.pair (.int .i64) (.int .i64))))))]
def typing_Press_dx1 : DX := ⟨none, some typing_Press_d1r, []⟩
def typing_Press_J1 (kr : Bool → Int → (Int × Int × List Int × Int × Int) → Prop) (base0 : List Int) (typed9 : List Int) (y4b : (Int × Int × List Int × Int × Int)) (x6b : (Int × Int × List Int × Int × Int)) : Prop :=
 typing_under_P base0 (y4b.1, y4b.2.1, typed9, y4b.2.2.2.1, y4b.2.2.2.2) ∧ (
 ∀ (r7 : Int), r7 = typing_under_F base0 (y4b.1, y4b.2.1, typed9, y4b.2.2.2.1, y4b.2.2.2.2) → (
 wfR (.one (.v (.int .i64) r7)) → (
 kr true (0 : Int) (y4b.1, y4b.2.1, typed9, r7, y4b.2.2.2.2))))
theorem typing_Press_s1 (k : Ex → St → Prop) (base0 : List Int) (typed9 : List Int) (y4b : (Int × Int × List Int × Int × Int)) (x6b : (Int × Int × List Int × Int × Int)) :
    ex tb (getG typing_Press_G) typing_Press_B0 (at' (bodyOf Try.f8) [1, 1, 1, 1, 1]) [1, 1, 1, 1, 1] (mkD 84 typing_Press_d1 (base0, typed9, y4b, x6b, ())) (wk 84 typing_Press_dx1 k) =
    typing_Press_J1 (fun x7 x8 x6b => wfD typing_Press_d1r (x7, x8, x6b, ()) → k .ret (mkD 84 typing_Press_d1r (x7, x8, x6b, ()))) base0 typed9 y4b x6b := by kernel_rfl
theorem typing_Press_v1 (k : Ex → St → Prop) : ∀ v : vals typing_Press_d1, ex tb (getG typing_Press_G) typing_Press_B0 (at' (bodyOf Try.f8) [1, 1, 1, 1, 1]) [1, 1, 1, 1, 1] (mkD 84 typing_Press_d1 v) (wk 84 typing_Press_dx1 k) = typing_Press_J1 (fun x7 x8 x6b => wfD typing_Press_d1r (x7, x8, x6b, ()) → k .ret (mkD 84 typing_Press_d1r (x7, x8, x6b, ()))) v.1 v.2.1 v.2.2.1 v.2.2.2.1
  | (base0, typed9, y4b, x6b, ()) => typing_Press_s1 k base0 typed9 y4b x6b
def typing_Press_X1 : Pce := fun st k => ckD 84 typing_Press_d1 st fun v => wfD typing_Press_d1 v → typing_Press_J1 (fun x7 x8 x6b => wfD typing_Press_d1r (x7, x8, x6b, ()) → k .ret (mkD 84 typing_Press_d1r (x7, x8, x6b, ()))) v.1 v.2.1 v.2.2.1 v.2.2.2.1
set_option maxRecDepth 20000 in
theorem typing_Press_x1 : SemOk Try.prog (at' (bodyOf Try.f8) [1, 1, 1, 1, 1]) typing_Press_X1 :=
  (SemOk.wk (N := 84) (ds := typing_Press_d1) (dx := typing_Press_dx1) (ex_sound tb_M tb_ok typing_Press_Gok (typing_Press_b0) (at' (bodyOf Try.f8) [1, 1, 1, 1, 1]) [1, 1, 1, 1, 1] rfl (storesC_at typing_Press_st [1, 1, 1, 1, 1]))).mono fun st k h => ckD_mono h fun v hv hw => Eq.mpr (typing_Press_v1 k v) (hv hw)
def typing_Press_B1 : Labs := ([1, 1, 1, 1, 1], typing_Press_X1) :: typing_Press_B0
theorem typing_Press_b1 : LabsOk Try.prog (bodyOf Try.f8) typing_Press_B1 := LabsOk.cons typing_Press_x1 (typing_Press_b0)
def typing_Press_raw (base0 : List Int) (y1 : (Int × Int × List Int × Int × Int)) (key2 : Int) (K : Res → List Cell → Prop) : Prop :=
 ∀ (r1 : Bool), r1 = typing_fits_F base0 y1 → (
 wfR (.one (.v (.bool) r1)) → (
 bif (!r1) then
 K (.tup [.v (.st (.pair (.int .u8) (.pair (.int .i64) (.pair (.sl (.int .u8)) (.pair (.int .i64) (.int .i64)))))) ((0 : Int), (0 : Int), ([] : List Int), (0 : Int), (0 : Int)), .v (.bool) false, .v (.int .i64) (2 : Int)]) []
 else
 bif decide (List.length ([] : List Int) + List.length y1.2.2.1 ≤ lim) then
 bif (decide (key2 = (27 : Int))) then
 K (.tup [.v (.st (.pair (.int .u8) (.pair (.int .i64) (.pair (.sl (.int .u8)) (.pair (.int .i64) (.int .i64)))))) (y1.1, y1.2.1, (([] : List Int) ++ y1.2.2.1), y1.2.2.2.1, y1.2.2.2.2), .v (.bool) false, .v (.int .i64) (0 : Int)]) []
 else
 bif (decide (key2 = (8 : Int))) then
 (wfD typing_Press_d0 (base0, key2, (([] : List Int) ++ y1.2.2.1), (List.length (([] : List Int) ++ y1.2.2.1) : Int), key2, (decide (key2 = (8 : Int))), y1, ((0 : Int), (0 : Int), ([] : List Int), (0 : Int), (0 : Int)), ()) → typing_Press_J0 (fun (x7 : Bool) (x8 : Int) (x6b : (Int × Int × List Int × Int × Int)) => wfD typing_Press_d0r (x7, x8, x6b, ()) → (
 K (.tup [.v (.st (.pair (.int .u8) (.pair (.int .i64) (.pair (.sl (.int .u8)) (.pair (.int .i64) (.int .i64)))))) x6b, .v (.bool) x7, .v (.int .i64) x8]) [])) (fun (base0 : List Int) (typed9 : List Int) (y4b : (Int × Int × List Int × Int × Int)) (x6b : (Int × Int × List Int × Int × Int)) => wfD typing_Press_d0n (base0, typed9, y4b, x6b, ()) → (
 (wfD typing_Press_d1 (base0, typed9, y4b, x6b, ()) → typing_Press_J1 (fun (x7 : Bool) (x8 : Int) (x6b : (Int × Int × List Int × Int × Int)) => wfD typing_Press_d1r (x7, x8, x6b, ()) → (
 K (.tup [.v (.st (.pair (.int .u8) (.pair (.int .i64) (.pair (.sl (.int .u8)) (.pair (.int .i64) (.int .i64)))))) x6b, .v (.bool) x7, .v (.int .i64) x8]) [])) base0 typed9 y4b x6b))) base0 key2 (([] : List Int) ++ y1.2.2.1) (List.length (([] : List Int) ++ y1.2.2.1) : Int) key2 (decide (key2 = (8 : Int))) y1 ((0 : Int), (0 : Int), ([] : List Int), (0 : Int), (0 : Int)))
 else
 bif (decide (key2 = (127 : Int))) then
 (wfD typing_Press_d0 (base0, key2, (([] : List Int) ++ y1.2.2.1), (List.length (([] : List Int) ++ y1.2.2.1) : Int), key2, (decide (key2 = (127 : Int))), y1, ((0 : Int), (0 : Int), ([] : List Int), (0 : Int), (0 : Int)), ()) → typing_Press_J0 (fun (x7 : Bool) (x8 : Int) (x6b : (Int × Int × List Int × Int × Int)) => wfD typing_Press_d0r (x7, x8, x6b, ()) → (
 K (.tup [.v (.st (.pair (.int .u8) (.pair (.int .i64) (.pair (.sl (.int .u8)) (.pair (.int .i64) (.int .i64)))))) x6b, .v (.bool) x7, .v (.int .i64) x8]) [])) (fun (base0 : List Int) (typed9 : List Int) (y4b : (Int × Int × List Int × Int × Int)) (x6b : (Int × Int × List Int × Int × Int)) => wfD typing_Press_d0n (base0, typed9, y4b, x6b, ()) → (
 (wfD typing_Press_d1 (base0, typed9, y4b, x6b, ()) → typing_Press_J1 (fun (x7 : Bool) (x8 : Int) (x6b : (Int × Int × List Int × Int × Int)) => wfD typing_Press_d1r (x7, x8, x6b, ()) → (
 K (.tup [.v (.st (.pair (.int .u8) (.pair (.int .i64) (.pair (.sl (.int .u8)) (.pair (.int .i64) (.int .i64)))))) x6b, .v (.bool) x7, .v (.int .i64) x8]) [])) base0 typed9 y4b x6b))) base0 key2 (([] : List Int) ++ y1.2.2.1) (List.length (([] : List Int) ++ y1.2.2.1) : Int) key2 (decide (key2 = (127 : Int))) y1 ((0 : Int), (0 : Int), ([] : List Int), (0 : Int), (0 : Int)))
 else
 bif (decide (key2 = (21 : Int))) then
 (wfD typing_Press_d0 (base0, key2, (([] : List Int) ++ y1.2.2.1), (List.length (([] : List Int) ++ y1.2.2.1) : Int), key2, (decide (key2 = (21 : Int))), y1, ((0 : Int), (0 : Int), ([] : List Int), (0 : Int), (0 : Int)), ()) → typing_Press_J0 (fun (x7 : Bool) (x8 : Int) (x6b : (Int × Int × List Int × Int × Int)) => wfD typing_Press_d0r (x7, x8, x6b, ()) → (
 K (.tup [.v (.st (.pair (.int .u8) (.pair (.int .i64) (.pair (.sl (.int .u8)) (.pair (.int .i64) (.int .i64)))))) x6b, .v (.bool) x7, .v (.int .i64) x8]) [])) (fun (base0 : List Int) (typed9 : List Int) (y4b : (Int × Int × List Int × Int × Int)) (x6b : (Int × Int × List Int × Int × Int)) => wfD typing_Press_d0n (base0, typed9, y4b, x6b, ()) → (
 (wfD typing_Press_d1 (base0, typed9, y4b, x6b, ()) → typing_Press_J1 (fun (x7 : Bool) (x8 : Int) (x6b : (Int × Int × List Int × Int × Int)) => wfD typing_Press_d1r (x7, x8, x6b, ()) → (
 K (.tup [.v (.st (.pair (.int .u8) (.pair (.int .i64) (.pair (.sl (.int .u8)) (.pair (.int .i64) (.int .i64)))))) x6b, .v (.bool) x7, .v (.int .i64) x8]) [])) base0 typed9 y4b x6b))) base0 key2 (([] : List Int) ++ y1.2.2.1) (List.length (([] : List Int) ++ y1.2.2.1) : Int) key2 (decide (key2 = (21 : Int))) y1 ((0 : Int), (0 : Int), ([] : List Int), (0 : Int), (0 : Int)))
 else
 (wfD typing_Press_d0 (base0, key2, (([] : List Int) ++ y1.2.2.1), (List.length (([] : List Int) ++ y1.2.2.1) : Int), key2, (decide (key2 = (23 : Int))), y1, ((0 : Int), (0 : Int), ([] : List Int), (0 : Int), (0 : Int)), ()) → typing_Press_J0 (fun (x7 : Bool) (x8 : Int) (x6b : (Int × Int × List Int × Int × Int)) => wfD typing_Press_d0r (x7, x8, x6b, ()) → (
 K (.tup [.v (.st (.pair (.int .u8) (.pair (.int .i64) (.pair (.sl (.int .u8)) (.pair (.int .i64) (.int .i64)))))) x6b, .v (.bool) x7, .v (.int .i64) x8]) [])) (fun (base0 : List Int) (typed9 : List Int) (y4b : (Int × Int × List Int × Int × Int)) (x6b : (Int × Int × List Int × Int × Int)) => wfD typing_Press_d0n (base0, typed9, y4b, x6b, ()) → (
 (wfD typing_Press_d1 (base0, typed9, y4b, x6b, ()) → typing_Press_J1 (fun (x7 : Bool) (x8 : Int) (x6b : (Int × Int × List Int × Int × Int)) => wfD typing_Press_d1r (x7, x8, x6b, ()) → (
 K (.tup [.v (.st (.pair (.int .u8) (.pair (.int .i64) (.pair (.sl (.int .u8)) (.pair (.int .i64) (.int .i64)))))) x6b, .v (.bool) x7, .v (.int .i64) x8]) [])) base0 typed9 y4b x6b))) base0 key2 (([] : List Int) ++ y1.2.2.1) (List.length (([] : List Int) ++ y1.2.2.1) : Int) key2 (decide (key2 = (23 : Int))) y1 ((0 : Int), (0 : Int), ([] : List Int), (0 : Int), (0 : Int)))
 else False))
def typing_Press_A : List AS := [.v (.sl (.int .u8)), .v (.st (.pair (.int .u8) (.pair (.int .i64) (.pair (.sl (.int .u8)) (.pair (.int .i64) (.int .i64)))))), .v (.int .u8)]
theorem typing_Press_walk (base0 : List Int) (y1 : (Int × Int × List Int × Int × Int)) (key2 : Int) (K : Res → List Cell → Prop) : runF tb (getG typing_Press_G) typing_Press_B1 Try.f8 [true, true, true] (mkA typing_Press_A (base0, y1, key2, ())) K = typing_Press_raw base0 y1 key2 K := by kernel_rfl
--! pre 1
abbrev zeroT : Int × Int × List Int × Int × Int := (0, 0, [], 0, 0)
/-- what typed text comes to behind a key that types; none: it rings -/
def pressed (t : List Int) (key : Int) : Option (List Int) :=
  if key = 8 ∨ key = 127 ∨ key = 21 ∨ key = 23 then
    if t.length = 0 ∨ (key = 21 ∧ rd (0 : Int) t ((t.length - 1 : Nat) : Int) = 10) then none
    else if key = 21 then some (t.take (lastUp t 10 t.length + 1).toNat)
    else if key = 23 then some (typing_word_F t)
    else some (t.take (t.length - 1))
  else if key = 13 then some (t ++ [10])
  else if typing_isText_F key = true then some (t ++ [key]) else none
def typing_Press_P (_ : List Int) (y : Int × Int × List Int × Int × Int) (_ : Int) : Prop := y.2.2.1.length < 1099511627776
def typing_Press_F (base : List Int) (y : Int × Int × List Int × Int × Int) (key : Int) : (Int × Int × List Int × Int × Int) × Bool × Int :=
 if typing_fits_F base y = true then
 if key = 27 then (y, false, 0) else match pressed y.2.2.1 key with
 | none => (zeroT, false, 200)
 | some t => ((y.1, y.2.1, t, typing_under_F base (y.1, y.2.1, t, y.2.2.2.1, y.2.2.2.2), y.2.2.2.2), true, 0)
 else (zeroT, false, 2)
theorem typing_Press_j0 (kr : Bool → Int → (Int × Int × List Int × Int × Int) → Prop) (kn : List Int → List Int → (Int × Int × List Int × Int × Int) → (Int × Int × List Int × Int × Int) → Prop) (base t : List Int) (key : Int) (b : Bool) (y x6 : Int × Int × List Int × Int × Int)
    (ht : t.length < 1099511627776) (hb : b = true ↔ (key = 8 ∨ key = 127 ∨ key = 21 ∨ key = 23)) (h1 : pressed t key = none → kr false 200 zeroT) (h2 : ∀ r, pressed t key = some r → kn base r y x6) :
    typing_Press_J0 kr kn base key t (t.length : Int) key b y x6 := by
  unfold typing_Press_J0
  have hlast := lastUp_le t 10 t.length
  have up : ¬ (t.length = 0 ∨ (key = 21 ∧ rd (0 : Int) t ((t.length - 1 : Nat) : Int) = 10)) → (key = 8 ∨ key = 127 ∨ key = 21 ∨ key = 23) → key = 21 → ∀ r : Int, r = bytes_LastIndexByte_F t 10 → wfR (.one (.v (.int .i64) r)) → bif decide (0 ≤ (IntKind.wrap .i64 (r + 1)) ∧ (IntKind.wrap .i64 (r + 1)) ≤ (List.length t : Int)) then kn base (List.take (Int.toNat (IntKind.wrap .i64 (r + 1))) t) y x6 else False := by
    intro hn hk h21 r hr _
    have hr : r = lastUp t 10 t.length := by rw [hr]; simp [bytes_LastIndexByte_F, internal_bytealg_LastIndexByte_F]
    rw [wrap_i64 (by omega) (by omega)]
    refine asrt (by omega) (h2 _ ?_)
    unfold pressed
    rw [if_pos hk, if_neg hn, if_pos h21, hr]
  have low : ¬ (t.length = 0 ∨ (key = 21 ∧ rd (0 : Int) t ((t.length - 1 : Nat) : Int) = 10)) → (key = 8 ∨ key = 127 ∨ key = 21 ∨ key = 23) → ¬ key = 21 → bif (decide (key = (23 : Int))) then
        typing_word_P t ∧ (
        ∀ (r3 : List Int), r3 = typing_word_F t → (
        wfR (.one (.v (.sl (.int .u8)) r3)) → (
        kn base r3 y x6)))
      else
        bif decide (0 ≤ (IntKind.wrap .i64 ((t.length : Int) - (1 : Int))) ∧ (IntKind.wrap .i64 ((t.length : Int) - (1 : Int))) ≤ (List.length t : Int)) then
        kn base (List.take (Int.toNat (IntKind.wrap .i64 ((t.length : Int) - (1 : Int)))) t) y x6
        else False := by
    intro hn hk h21
    have hpos : 0 < t.length := by omega
    refine brn (fun h23 => ⟨hpos, fun r hr _ => h2 _ ?_⟩) (fun h23 => ?_)
    · unfold pressed; rw [if_pos hk, if_neg hn, if_neg h21, if_pos h23, hr]
    · rw [wrap_i64 (by omega) (by omega)]
      refine asrt (by omega) (h2 _ ?_)
      unfold pressed; rw [if_pos hk, if_neg hn, if_neg h21, if_neg h23]
      rw [show ((t.length : Int) - 1).toNat = t.length - 1 by omega]
  refine brb (fun hb1 => ?_) (fun hb0 => ?_)
  · have hk := hb.1 hb1
    refine brn (fun h0 => h1 ?_) (fun h0 => brn (fun h21 => ?_) (fun h21 => brn (fun h => absurd h h21) (fun _ => low ?_ hk h21)))
    · unfold pressed; rw [if_pos hk, if_pos (.inl (by omega))]
    · rw [wrap_i64 (by omega) (by omega), show (t.length : Int) - 1 = ((t.length - 1 : Nat) : Int) by omega]
      refine asrt (by omega) (brn (fun h10 => h1 ?_) (fun h10 => brn (fun _ => up ?_ hk h21) (fun h => absurd h21 h)))
      · unfold pressed; rw [if_pos hk, if_pos (.inr ⟨h21, h10⟩)]
      · rintro (h | ⟨_, h⟩)
        · omega
        · exact h10 h
    · rintro (h | ⟨h, _⟩)
      · omega
      · exact h21 h
  · have hk : ¬ (key = 8 ∨ key = 127 ∨ key = 21 ∨ key = 23) := fun h => by rw [hb.2 h] at hb0; cases hb0
    refine brn (fun h13 => asrt (by unfold lim; simp only [List.length_cons, List.length_nil]; omega) (h2 _ ?_)) (fun h13 r hr _ => brb (fun h => h1 ?_) (fun h => asrt (by unfold lim; simp only [List.length_cons, List.length_nil]; omega) (h2 _ ?_)))
    · unfold pressed; rw [if_neg hk, if_pos h13]
    · unfold pressed; rw [if_neg hk, if_neg h13, if_neg (by rw [← hr]; simpa using h)]
    · unfold pressed; rw [if_neg hk, if_neg h13, if_pos (by rw [← hr]; simpa using h)]
theorem typing_Press_sp (base : List Int) (y : Int × Int × List Int × Int × Int) (key : Int) (K : Res → List Cell → Prop) (hw : wfA typing_Press_A (base, y, key, ())) (hp : typing_Press_P base y key)
    (h : ∀ r : (Int × Int × List Int × Int × Int) × Bool × Int, r = typing_Press_F base y key → K (.tup [.v (.st (.pair (.int .u8) (.pair (.int .i64) (.pair (.sl (.int .u8)) (.pair (.int .i64) (.int .i64)))))) r.1, .v (.bool) r.2.1, .v (.int .i64) r.2.2]) []) : typing_Press_raw base y key K := by
  unfold typing_Press_P at hp
  intro r hr _
  refine brb (fun hf => h (zeroT, false, 2) ?_) (fun hf => asrt (by unfold lim; simp only [List.length_nil]; omega) ?_)
  · unfold typing_Press_F; rw [if_neg (by rw [← hr]; simpa using hf)]
  have hfit : typing_fits_F base y = true := by rw [← hr]; simpa using hf
  have main : ∀ b : Bool, ¬ key = 27 → (b = true ↔ (key = 8 ∨ key = 127 ∨ key = 21 ∨ key = 23)) → _ → _ := fun b h27 hb (_ : wfD typing_Press_d0 (base, key, (([] : List Int) ++ y.2.2.1), (List.length (([] : List Int) ++ y.2.2.1) : Int), key, b, y, zeroT, ())) =>
    typing_Press_j0 (fun (x7 : Bool) (x8 : Int) (x6b : (Int × Int × List Int × Int × Int)) => wfD typing_Press_d0r (x7, x8, x6b, ()) → (
          K (.tup [.v (.st (.pair (.int .u8) (.pair (.int .i64) (.pair (.sl (.int .u8)) (.pair (.int .i64) (.int .i64)))))) x6b, .v (.bool) x7, .v (.int .i64) x8]) [])) (fun (base0 : List Int) (typed9 : List Int) (y4b : (Int × Int × List Int × Int × Int)) (x6b : (Int × Int × List Int × Int × Int)) => wfD typing_Press_d0n (base0, typed9, y4b, x6b, ()) → (
          (wfD typing_Press_d1 (base0, typed9, y4b, x6b, ()) → typing_Press_J1 (fun (x7 : Bool) (x8 : Int) (x6b : (Int × Int × List Int × Int × Int)) => wfD typing_Press_d1r (x7, x8, x6b, ()) → (
              K (.tup [.v (.st (.pair (.int .u8) (.pair (.int .i64) (.pair (.sl (.int .u8)) (.pair (.int .i64) (.int .i64)))))) x6b, .v (.bool) x7, .v (.int .i64) x8]) [])) base0 typed9 y4b x6b))) base (([] : List Int) ++ y.2.2.1) key b y zeroT hp hb
      (fun hn _ => h (zeroT, false, 200) (by unfold typing_Press_F; rw [if_pos hfit, if_neg h27, show pressed y.2.2.1 key = none from hn]))
      (fun t ht _ _ => ⟨typing_under_any _ _, fun u hu _ _ => h ((y.1, y.2.1, t, u, y.2.2.2.2), true, 0) (by unfold typing_Press_F; rw [if_pos hfit, if_neg h27, show pressed y.2.2.1 key = some t from ht, hu])⟩)
  refine brn (fun h27 => h (y, false, 0) ?_) (fun h27 => brn (fun h8 => main _ h27 (by simp [h8])) (fun h8 => brn (fun h127 => main _ h27 (by simp [h127])) (fun h127 => brn (fun h21 => main _ h27 (by simp [h21])) (fun h21 => main _ h27 (by simp [h8, h127, h21])))))
  unfold typing_Press_F; rw [if_pos hfit, if_pos h27]

def typing_Press_C (v : valsA typing_Press_A) (K : Res → List Cell → Prop) : Prop := typing_Press_P v.1 v.2.1 v.2.2.1 ∧ ∀ r : (Int × Int × List Int × Int × Int) × Bool × Int, r = typing_Press_F v.1 v.2.1 v.2.2.1 → K (.tup [.v (.st (.pair (.int .u8) (.pair (.int .i64) (.pair (.sl (.int .u8)) (.pair (.int .i64) (.int .i64)))))) r.1, .v (.bool) r.2.1, .v (.int .i64) r.2.2]) []
def typing_Press_S : App := specW typing_Press_A typing_Press_C
theorem typing_Press_wv (K : Res → List Cell → Prop) : ∀ v : valsA typing_Press_A, runF tb (getG typing_Press_G) typing_Press_B1 Try.f8 [true, true, true] (mkA typing_Press_A v) K = typing_Press_raw v.1 v.2.1 v.2.2.1 K
  | (base0, y1, key2, ()) => typing_Press_walk base0 y1 key2 K
set_option maxRecDepth 20000 in
theorem typing_Press_ok : AppOk Try.prog 8 typing_Press_S :=
  AppOk.specW (spec_ok (runF_ok tb_M tb_ok typing_Press_Gok (typing_Press_b1) (f := 8) (fn := Try.f8) (by kernel_rfl) (by kernel_rfl) typing_Press_st [true, true, true]) fun v K hw h => (typing_Press_wv K v).mpr (typing_Press_sp v.1 v.2.1 v.2.2.1 K hw h.1 h.2))

end Go.VE
namespace Go.VE
open Go Go.Proofs
/-! ### quoin/typing.Check -/
def typing_Check_G : List (Nat × App) := [(11, typing_fits_S)]
theorem typing_Check_Gok : GOk Try.prog (getG typing_Check_G) := GOk.cons typing_fits_ok (GOk.nil)
def typing_Check_raw (base0 : List Int) (y1 : (Int × Int × List Int × Int × Int)) (K : Res → List Cell → Prop) : Prop :=
 ∀ (r1 : Bool), r1 = typing_fits_F base0 y1 → (
 wfR (.one (.v (.bool) r1)) → (
 bif (!r1) then
 K (.one (.v (.int .i64) (2 : Int))) []
 else
 bif (decide ((65536 : Int) < (IntKind.wrap .i64 ((IntKind.wrap .i64 ((List.length base0 : Int) - y1.2.2.2.1)) + (List.length y1.2.2.1 : Int))))) then
 K (.one (.v (.int .i64) (2 : Int))) []
 else
 K (.one (.v (.int .i64) (0 : Int))) []))
def typing_Check_A : List AS := [.v (.sl (.int .u8)), .v (.st (.pair (.int .u8) (.pair (.int .i64) (.pair (.sl (.int .u8)) (.pair (.int .i64) (.int .i64))))))]
theorem typing_Check_walk (base0 : List Int) (y1 : (Int × Int × List Int × Int × Int)) (K : Res → List Cell → Prop) : runF tb (getG typing_Check_G) [] Try.f10 [true] (mkA typing_Check_A (base0, y1, ())) K = typing_Check_raw base0 y1 K := by kernel_rfl

def typing_Check_F (base0 : List Int) (y1 : (Int × Int × List Int × Int × Int)) : Int :=
 let r1 : Bool := typing_fits_F base0 y1
 bif (!r1) then
 (2 : Int)
 else
 bif (decide ((65536 : Int) < (IntKind.wrap .i64 ((IntKind.wrap .i64 ((List.length base0 : Int) - y1.2.2.2.1)) + (List.length y1.2.2.1 : Int))))) then
 (2 : Int)
 else
 (0 : Int)
set_option maxRecDepth 20000 in
theorem typing_Check_sp (base0 : List Int) (y1 : (Int × Int × List Int × Int × Int)) (K : Res → List Cell → Prop) (_ : wfA typing_Check_A (base0, y1, ())) (h : ∀ r : Int, r = typing_Check_F base0 y1 → K (.one (.v (.int .i64) r)) []) : typing_Check_raw base0 y1 K := by
  unfold typing_Check_raw
  intro r1 hr1
  subst hr1
  intro _
  refine brb (fun c_1 => ?_) (fun c_1 => ?_)
  ·
    exact h _ ((ctrue c_1) : typing_Check_F base0 y1 = _).symm
  ·
    refine brb (fun c_2 => ?_) (fun c_2 => ?_)
    ·
      exact h _ ((Eq.trans (cfalse c_1) (ctrue c_2)) : typing_Check_F base0 y1 = _).symm
    ·
      exact h _ ((Eq.trans (cfalse c_1) (cfalse c_2)) : typing_Check_F base0 y1 = _).symm
def typing_Check_C (v : valsA typing_Check_A) (K : Res → List Cell → Prop) : Prop := ∀ r : Int, r = typing_Check_F v.1 v.2.1 → K (.one (.v (.int .i64) r)) []
def typing_Check_S : App := specW typing_Check_A typing_Check_C
theorem typing_Check_wv (K : Res → List Cell → Prop) : ∀ v : valsA typing_Check_A, runF tb (getG typing_Check_G) [] Try.f10 [true] (mkA typing_Check_A v) K = typing_Check_raw v.1 v.2.1 K
  | (base0, y1, ()) => typing_Check_walk base0 y1 K
set_option maxRecDepth 20000 in
theorem typing_Check_ok : AppOk Try.prog 10 typing_Check_S :=
  AppOk.specW (spec_ok (runF_ok tb_M tb_ok typing_Check_Gok (LabsOk.nil) (f := 10) (fn := Try.f10) (by kernel_rfl) (by kernel_rfl) (by kernel_rfl) [true]) fun v K hw h => (typing_Check_wv K v).mpr (typing_Check_sp v.1 v.2.1 K hw h))

end Go.VE
namespace Go.VE
open Go Go.Proofs
/-! ### quoin/typing.Show -/
def typing_Show_G : List (Nat × App) := [(11, typing_fits_S)]
theorem typing_Show_Gok : GOk Try.prog (getG typing_Show_G) := GOk.cons typing_fits_ok (GOk.nil)
def typing_Show_raw (base0 : List Int) (y1 : (Int × Int × List Int × Int × Int)) (K : Res → List Cell → Prop) : Prop :=
 bif decide (List.length ([] : List Int) + List.length base0 ≤ lim) then
 ∀ (r1 : Bool), r1 = typing_fits_F base0 y1 → (
 wfR (.one (.v (.bool) r1)) → (
 bif (!r1) then
 K (.tup [.fr 5 (.int .u8) (([] : List Int) ++ base0), .v (.int .i64) (0 : Int)]) []
 else
 bif decide (0 ≤ y1.2.1 ∧ y1.2.1 ≤ (List.length (([] : List Int) ++ base0) : Int)) then
 bif decide (List.length (List.take (Int.toNat y1.2.1) (([] : List Int) ++ base0)) + List.length y1.2.2.1 ≤ lim) then
 bif decide (0 ≤ (IntKind.wrap .i64 (y1.2.1 + y1.2.2.2.1)) ∧ (IntKind.wrap .i64 (y1.2.1 + y1.2.2.2.1)) ≤ (List.length base0 : Int)) then
 bif decide (List.length ((List.take (Int.toNat y1.2.1) (([] : List Int) ++ base0)) ++ y1.2.2.1) + List.length (List.drop (Int.toNat (IntKind.wrap .i64 (y1.2.1 + y1.2.2.2.1))) base0) ≤ lim) then
 K (.tup [.fr 5 (.int .u8) (((List.take (Int.toNat y1.2.1) (([] : List Int) ++ base0)) ++ y1.2.2.1) ++ (List.drop (Int.toNat (IntKind.wrap .i64 (y1.2.1 + y1.2.2.2.1))) base0)), .v (.int .i64) (IntKind.wrap .i64 (y1.2.1 + (List.length y1.2.2.1 : Int)))]) []
 else False
 else False
 else False
 else False))
 else False
def typing_Show_A : List AS := [.v (.sl (.int .u8)), .v (.st (.pair (.int .u8) (.pair (.int .i64) (.pair (.sl (.int .u8)) (.pair (.int .i64) (.int .i64))))))]
theorem typing_Show_walk (base0 : List Int) (y1 : (Int × Int × List Int × Int × Int)) (K : Res → List Cell → Prop) : runF tb (getG typing_Show_G) [] Try.f6 [true, true] (mkA typing_Show_A (base0, y1, ())) K = typing_Show_raw base0 y1 K := by kernel_rfl

def typing_Show_P (base0 : List Int) (y1 : (Int × Int × List Int × Int × Int)) : Prop :=
 (List.length ([] : List Int) + List.length base0 ≤ lim) ∧ (
 let r1 : Bool := typing_fits_F base0 y1
 bif (!r1) then
 True
 else
 (0 ≤ y1.2.1 ∧ y1.2.1 ≤ (List.length (([] : List Int) ++ base0) : Int)) ∧ (
 (List.length (List.take (Int.toNat y1.2.1) (([] : List Int) ++ base0)) + List.length y1.2.2.1 ≤ lim) ∧ (
 (0 ≤ (IntKind.wrap .i64 (y1.2.1 + y1.2.2.2.1)) ∧ (IntKind.wrap .i64 (y1.2.1 + y1.2.2.2.1)) ≤ (List.length base0 : Int)) ∧ (
 (List.length ((List.take (Int.toNat y1.2.1) (([] : List Int) ++ base0)) ++ y1.2.2.1) + List.length (List.drop (Int.toNat (IntKind.wrap .i64 (y1.2.1 + y1.2.2.2.1))) base0) ≤ lim)))))
def typing_Show_F (base0 : List Int) (y1 : (Int × Int × List Int × Int × Int)) : List Int × Int :=
 let r1 : Bool := typing_fits_F base0 y1
 bif (!r1) then
 ((([] : List Int) ++ base0), (0 : Int))
 else
 ((((List.take (Int.toNat y1.2.1) (([] : List Int) ++ base0)) ++ y1.2.2.1) ++ (List.drop (Int.toNat (IntKind.wrap .i64 (y1.2.1 + y1.2.2.2.1))) base0)), (IntKind.wrap .i64 (y1.2.1 + (List.length y1.2.2.1 : Int))))
set_option maxRecDepth 20000 in
theorem typing_Show_sp (base0 : List Int) (y1 : (Int × Int × List Int × Int × Int)) (K : Res → List Cell → Prop) (_ : wfA typing_Show_A (base0, y1, ())) (hp : typing_Show_P base0 y1) (h : ∀ r : List Int × Int, r = typing_Show_F base0 y1 → K (.tup [.fr 5 (.int .u8) r.1, .v (.int .i64) r.2]) []) : typing_Show_raw base0 y1 K := by
  unfold typing_Show_raw
  unfold typing_Show_P at hp
  refine asrt hp.1 ?_
  replace hp := hp.2
  intro r1 hr1
  subst hr1
  intro _
  refine brb (fun c_1 => ?_) (fun c_1 => ?_)
  ·
    clear hp
    have e := h _ ((ctrue c_1) : typing_Show_F base0 y1 = _).symm
    exact e
  ·
    replace hp := cF c_1 hp
    refine asrt hp.1 ?_
    replace hp := hp.2
    refine asrt hp.1 ?_
    replace hp := hp.2
    refine asrt hp.1 ?_
    replace hp := hp.2
    refine asrt hp ?_
    have e := h _ ((cfalse c_1) : typing_Show_F base0 y1 = _).symm
    exact e
def typing_Show_C (v : valsA typing_Show_A) (K : Res → List Cell → Prop) : Prop := typing_Show_P v.1 v.2.1 ∧ ∀ r : List Int × Int, r = typing_Show_F v.1 v.2.1 → K (.tup [.fr 5 (.int .u8) r.1, .v (.int .i64) r.2]) []
def typing_Show_S : App := specW typing_Show_A typing_Show_C
theorem typing_Show_wv (K : Res → List Cell → Prop) : ∀ v : valsA typing_Show_A, runF tb (getG typing_Show_G) [] Try.f6 [true, true] (mkA typing_Show_A v) K = typing_Show_raw v.1 v.2.1 K
  | (base0, y1, ()) => typing_Show_walk base0 y1 K
set_option maxRecDepth 20000 in
theorem typing_Show_ok : AppOk Try.prog 6 typing_Show_S :=
  AppOk.specW (spec_ok (runF_ok tb_M tb_ok typing_Show_Gok (LabsOk.nil) (f := 6) (fn := Try.f6) (by kernel_rfl) (by kernel_rfl) (by kernel_rfl) [true, true]) fun v K hw h => (typing_Show_wv K v).mpr (typing_Show_sp v.1 v.2.1 K hw h.1 h.2))

end Go.VE
namespace Go.VE
open Go Go.Proofs
/-! ### quoin/typing.Finish$1 -/
def typing_Finish_1_G : List (Nat × App) := [(14, lines_Of_S), (15, lines_End_S)]
theorem typing_Finish_1_Gok : GOk Try.prog (getG typing_Finish_1_G) := GOk.cons lines_Of_ok (GOk.cons lines_End_ok (GOk.nil))
def typing_Finish_1_raw (n0 : Int) (x1 : (Int × Int × List Int × Int × Int)) (x2 : List Int) (x3 : Int) (K : Res → List Cell → Prop) : Prop :=
 bif (decide (x1.1 = (105 : Int))) then
 K (.one (.v (.int .i64) (0 : Int))) [⟨.st (.pair (.int .u8) (.pair (.int .i64) (.pair (.sl (.int .u8)) (.pair (.int .i64) (.int .i64))))), x1⟩, ⟨.sl (.int .u8), x2⟩, ⟨.int .i64, x3⟩]
 else
 lines_Of_P x2 x1.2.1 ∧ (
 ∀ (r1 : Int × Int), r1 = lines_Of_F x2 x1.2.1 → (
 wfR (.tup [.v (.int .i64) r1.1, .v (.int .i64) r1.2]) → (
 lines_End_P x2 r1.1 ∧ (
 ∀ (r2 : Int × Int), r2 = lines_End_F x2 r1.1 → (
 wfR (.tup [.v (.int .i64) r2.1, .v (.int .i64) r2.2]) → (
 K (.one (.v (.int .i64) (mn (IntKind.wrap .i64 (n0 * x3)) (IntKind.wrap .i64 (r2.1 - x1.2.1))))) [⟨.st (.pair (.int .u8) (.pair (.int .i64) (.pair (.sl (.int .u8)) (.pair (.int .i64) (.int .i64))))), x1⟩, ⟨.sl (.int .u8), x2⟩, ⟨.int .i64, x3⟩]))))))
def typing_Finish_1_A : List AS := [.v (.int .i64), .r (.st (.pair (.int .u8) (.pair (.int .i64) (.pair (.sl (.int .u8)) (.pair (.int .i64) (.int .i64)))))), .r (.sl (.int .u8)), .r (.int .i64)]
theorem typing_Finish_1_walk (n0 : Int) (x1 : (Int × Int × List Int × Int × Int)) (x2 : List Int) (x3 : Int) (K : Res → List Cell → Prop) : runF tb (getG typing_Finish_1_G) [] Try.f13 [true] (mkA typing_Finish_1_A (n0, x1, x2, x3, ())) K = typing_Finish_1_raw n0 x1 x2 x3 K := by kernel_rfl

def typing_Finish_1_P (n0 : Int) (x1 : (Int × Int × List Int × Int × Int)) (x2 : List Int) (x3 : Int) : Prop :=
 bif (decide (x1.1 = (105 : Int))) then
 True
 else
 lines_Of_P x2 x1.2.1 ∧ (
 let r1 : Int × Int := lines_Of_F x2 x1.2.1
 lines_End_P x2 r1.1)
def typing_Finish_1_F (n0 : Int) (x1 : (Int × Int × List Int × Int × Int)) (x2 : List Int) (x3 : Int) : Int :=
 bif (decide (x1.1 = (105 : Int))) then
 (0 : Int)
 else
 let r1 : Int × Int := lines_Of_F x2 x1.2.1
 let r2 : Int × Int := lines_End_F x2 r1.1
 (mn (IntKind.wrap .i64 (n0 * x3)) (IntKind.wrap .i64 (r2.1 - x1.2.1)))
set_option maxRecDepth 20000 in
theorem typing_Finish_1_sp (n0 : Int) (x1 : (Int × Int × List Int × Int × Int)) (x2 : List Int) (x3 : Int) (K : Res → List Cell → Prop) (_ : wfA typing_Finish_1_A (n0, x1, x2, x3, ())) (hp : typing_Finish_1_P n0 x1 x2 x3) (h : ∀ r : Int, r = typing_Finish_1_F n0 x1 x2 x3 → K (.one (.v (.int .i64) r)) [⟨.st (.pair (.int .u8) (.pair (.int .i64) (.pair (.sl (.int .u8)) (.pair (.int .i64) (.int .i64))))), x1⟩, ⟨.sl (.int .u8), x2⟩, ⟨.int .i64, x3⟩]) : typing_Finish_1_raw n0 x1 x2 x3 K := by
  unfold typing_Finish_1_raw
  unfold typing_Finish_1_P at hp
  refine brb (fun c_1 => ?_) (fun c_1 => ?_)
  ·
    clear hp
    exact h _ ((ctrue c_1) : typing_Finish_1_F n0 x1 x2 x3 = _).symm
  ·
    replace hp := cF c_1 hp
    refine ⟨hp.1, ?_⟩
    replace hp := hp.2
    intro r1 hr1
    subst hr1
    intro _
    refine ⟨hp, ?_⟩
    intro r2 hr2
    subst hr2
    intro _
    exact h _ ((cfalse c_1) : typing_Finish_1_F n0 x1 x2 x3 = _).symm
def typing_Finish_1_C (v : valsA typing_Finish_1_A) (K : Res → List Cell → Prop) : Prop := typing_Finish_1_P v.1 v.2.1 v.2.2.1 v.2.2.2.1 ∧ ∀ r : Int, r = typing_Finish_1_F v.1 v.2.1 v.2.2.1 v.2.2.2.1 → K (.one (.v (.int .i64) r)) [⟨.st (.pair (.int .u8) (.pair (.int .i64) (.pair (.sl (.int .u8)) (.pair (.int .i64) (.int .i64))))), v.2.1⟩, ⟨.sl (.int .u8), v.2.2.1⟩, ⟨.int .i64, v.2.2.2.1⟩]
def typing_Finish_1_S : App := specW typing_Finish_1_A typing_Finish_1_C
theorem typing_Finish_1_wv (K : Res → List Cell → Prop) : ∀ v : valsA typing_Finish_1_A, runF tb (getG typing_Finish_1_G) [] Try.f13 [true] (mkA typing_Finish_1_A v) K = typing_Finish_1_raw v.1 v.2.1 v.2.2.1 v.2.2.2.1 K
  | (n0, x1, x2, x3, ()) => typing_Finish_1_walk n0 x1 x2 x3 K
set_option maxRecDepth 20000 in
theorem typing_Finish_1_ok : AppOk Try.prog 13 typing_Finish_1_S :=
  AppOk.specW (spec_ok (runF_ok tb_M tb_ok typing_Finish_1_Gok (LabsOk.nil) (f := 13) (fn := Try.f13) (by kernel_rfl) (by kernel_rfl) (by kernel_rfl) [true]) fun v K hw h => (typing_Finish_1_wv K v).mpr (typing_Finish_1_sp v.1 v.2.1 v.2.2.1 v.2.2.2.1 K hw h.1 h.2))

end Go.VE
namespace Go.VE
open Go Go.Proofs
/-! ### math/bits.Mul64 -/
def math_bits_Mul64_G : List (Nat × App) := []
theorem math_bits_Mul64_Gok : GOk Try.prog (getG math_bits_Mul64_G) := GOk.nil
def math_bits_Mul64_raw (x0 : Int) (y1 : Int) (K : Res → List Cell → Prop) : Prop :=
 K (.tup [.v (.int .u64) (IntKind.wrap .u64 ((IntKind.wrap .u64 ((IntKind.wrap .u64 ((Int.fdiv x0 (2 ^ (min (Int.toNat (32 : Int)) (IntKind.bits .u64)))) * (Int.fdiv y1 (2 ^ (min (Int.toNat (32 : Int)) (IntKind.bits .u64)))))) + (Int.fdiv (IntKind.wrap .u64 ((IntKind.wrap .u64 ((Int.fdiv x0 (2 ^ (min (Int.toNat (32 : Int)) (IntKind.bits .u64)))) * (ibits .and .u64 y1 (4294967295 : Int)))) + (Int.fdiv (IntKind.wrap .u64 ((ibits .and .u64 x0 (4294967295 : Int)) * (ibits .and .u64 y1 (4294967295 : Int)))) (2 ^ (min (Int.toNat (32 : Int)) (IntKind.bits .u64)))))) (2 ^ (min (Int.toNat (32 : Int)) (IntKind.bits .u64)))))) + (Int.fdiv (IntKind.wrap .u64 ((ibits .and .u64 (IntKind.wrap .u64 ((IntKind.wrap .u64 ((Int.fdiv x0 (2 ^ (min (Int.toNat (32 : Int)) (IntKind.bits .u64)))) * (ibits .and .u64 y1 (4294967295 : Int)))) + (Int.fdiv (IntKind.wrap .u64 ((ibits .and .u64 x0 (4294967295 : Int)) * (ibits .and .u64 y1 (4294967295 : Int)))) (2 ^ (min (Int.toNat (32 : Int)) (IntKind.bits .u64)))))) (4294967295 : Int)) + (IntKind.wrap .u64 ((ibits .and .u64 x0 (4294967295 : Int)) * (Int.fdiv y1 (2 ^ (min (Int.toNat (32 : Int)) (IntKind.bits .u64)))))))) (2 ^ (min (Int.toNat (32 : Int)) (IntKind.bits .u64)))))), .v (.int .u64) (IntKind.wrap .u64 (x0 * y1))]) []
def math_bits_Mul64_A : List AS := [.v (.int .u64), .v (.int .u64)]
theorem math_bits_Mul64_walk (x0 : Int) (y1 : Int) (K : Res → List Cell → Prop) : runF tb (getG math_bits_Mul64_G) [] Try.f46 [true, true] (mkA math_bits_Mul64_A (x0, y1, ())) K = math_bits_Mul64_raw x0 y1 K := by kernel_rfl

def math_bits_Mul64_F (x0 : Int) (y1 : Int) : Int × Int :=
 ((IntKind.wrap .u64 ((IntKind.wrap .u64 ((IntKind.wrap .u64 ((Int.fdiv x0 (2 ^ (min (Int.toNat (32 : Int)) (IntKind.bits .u64)))) * (Int.fdiv y1 (2 ^ (min (Int.toNat (32 : Int)) (IntKind.bits .u64)))))) + (Int.fdiv (IntKind.wrap .u64 ((IntKind.wrap .u64 ((Int.fdiv x0 (2 ^ (min (Int.toNat (32 : Int)) (IntKind.bits .u64)))) * (ibits .and .u64 y1 (4294967295 : Int)))) + (Int.fdiv (IntKind.wrap .u64 ((ibits .and .u64 x0 (4294967295 : Int)) * (ibits .and .u64 y1 (4294967295 : Int)))) (2 ^ (min (Int.toNat (32 : Int)) (IntKind.bits .u64)))))) (2 ^ (min (Int.toNat (32 : Int)) (IntKind.bits .u64)))))) + (Int.fdiv (IntKind.wrap .u64 ((ibits .and .u64 (IntKind.wrap .u64 ((IntKind.wrap .u64 ((Int.fdiv x0 (2 ^ (min (Int.toNat (32 : Int)) (IntKind.bits .u64)))) * (ibits .and .u64 y1 (4294967295 : Int)))) + (Int.fdiv (IntKind.wrap .u64 ((ibits .and .u64 x0 (4294967295 : Int)) * (ibits .and .u64 y1 (4294967295 : Int)))) (2 ^ (min (Int.toNat (32 : Int)) (IntKind.bits .u64)))))) (4294967295 : Int)) + (IntKind.wrap .u64 ((ibits .and .u64 x0 (4294967295 : Int)) * (Int.fdiv y1 (2 ^ (min (Int.toNat (32 : Int)) (IntKind.bits .u64)))))))) (2 ^ (min (Int.toNat (32 : Int)) (IntKind.bits .u64)))))), (IntKind.wrap .u64 (x0 * y1)))
set_option maxRecDepth 20000 in
theorem math_bits_Mul64_sp (x0 : Int) (y1 : Int) (K : Res → List Cell → Prop) (_ : wfA math_bits_Mul64_A (x0, y1, ())) (h : ∀ r : Int × Int, r = math_bits_Mul64_F x0 y1 → K (.tup [.v (.int .u64) r.1, .v (.int .u64) r.2]) []) : math_bits_Mul64_raw x0 y1 K := by
  unfold math_bits_Mul64_raw
  exact h _ rfl
def math_bits_Mul64_C (v : valsA math_bits_Mul64_A) (K : Res → List Cell → Prop) : Prop := ∀ r : Int × Int, r = math_bits_Mul64_F v.1 v.2.1 → K (.tup [.v (.int .u64) r.1, .v (.int .u64) r.2]) []
def math_bits_Mul64_S : App := specW math_bits_Mul64_A math_bits_Mul64_C
theorem math_bits_Mul64_wv (K : Res → List Cell → Prop) : ∀ v : valsA math_bits_Mul64_A, runF tb (getG math_bits_Mul64_G) [] Try.f46 [true, true] (mkA math_bits_Mul64_A v) K = math_bits_Mul64_raw v.1 v.2.1 K
  | (x0, y1, ()) => math_bits_Mul64_walk x0 y1 K
set_option maxRecDepth 20000 in
theorem math_bits_Mul64_ok : AppOk Try.prog 46 math_bits_Mul64_S :=
  AppOk.specW (spec_ok (runF_ok tb_M tb_ok math_bits_Mul64_Gok (LabsOk.nil) (f := 46) (fn := Try.f46) (by kernel_rfl) (by kernel_rfl) (by kernel_rfl) [true, true]) fun v K hw h => (math_bits_Mul64_wv K v).mpr (math_bits_Mul64_sp v.1 v.2.1 K hw h))
theorem and_mask {a : Int} (h0 : 0 ≤ a) (h1 : a < 18446744073709551616) : ibits .and .u64 a (4294967295 : Int) = a % 4294967296 := by
  obtain ⟨n, rfl⟩ := Int.eq_ofNat_of_zero_le h0
  have hn : n < 18446744073709551616 := by omega
  have e : (BitVec.ofInt 64 (n : Int) &&& BitVec.ofInt 64 4294967295).toNat = n % 4294967296 := by
    rw [BitVec.toNat_and]
    have e1 : (BitVec.ofInt 64 (n : Int)).toNat = n := by rw [BitVec.ofInt_natCast, BitVec.toNat_ofNat]; exact Nat.mod_eq_of_lt hn
    have e2 : (BitVec.ofInt 64 4294967295).toNat = 2 ^ 32 - 1 := by decide
    rw [e1, e2, Nat.and_two_pow_sub_one_eq_mod]
  show IntKind.wrap .u64 ((BitVec.ofInt 64 (n : Int) &&& BitVec.ofInt 64 4294967295).toNat : Int) = _
  rw [e, wrap_u64 (by omega) (by omega)]
  omega
theorem shr32 (a : Int) : Int.fdiv a (2 ^ (min (Int.toNat (32 : Int)) (IntKind.bits .u64))) = a / 4294967296 := by
  have e : (2 ^ (min (Int.toNat (32 : Int)) (IntKind.bits .u64)) : Int) = 4294967296 := by decide
  rw [e, Int.fdiv_eq_ediv_of_nonneg _ (by omega)]
theorem mul_small {a b : Int} (ha : 0 ≤ a) (ha' : a < 4294967296) (hb : 0 ≤ b) (hb' : b < 4294967296) : math_bits_Mul64_F a b = (0, a * b) := by
  have hab : 0 ≤ a * b := Int.mul_nonneg ha hb
  have hab' : a * b ≤ 4294967295 * 4294967295 := Int.le_trans (Int.mul_le_mul_of_nonneg_right (by omega) hb) (Int.mul_le_mul_of_nonneg_left (by omega) (by omega))
  unfold math_bits_Mul64_F
  simp only [shr32]
  have e1 : a / 4294967296 = 0 := by omega
  have e2 : b / 4294967296 = 0 := by omega
  have e3 : ibits .and .u64 a (4294967295 : Int) = a := by rw [and_mask ha (by omega)]; omega
  have e4 : ibits .and .u64 b (4294967295 : Int) = b := by rw [and_mask hb (by omega)]; omega
  rw [e1, e2, e3, e4, wrap_u64 (n := a * b) hab (by omega)]
  have e5 : IntKind.wrap .u64 (0 * b) = 0 := by rw [Int.zero_mul]; exact wrap_u64 (by omega) (by omega)
  have e6 : IntKind.wrap .u64 (a * 0) = 0 := by rw [Int.mul_zero]; exact wrap_u64 (by omega) (by omega)
  have e7 : IntKind.wrap .u64 (0 * 0) = 0 := by rw [Int.mul_zero]; exact wrap_u64 (by omega) (by omega)
  rw [e5, e6, e7]
  simp only [Int.zero_add, Int.add_zero]
  rw [wrap_u64 (n := a * b / 4294967296) (by omega) (by omega), and_mask (by omega) (by omega)]
  have e8 : a * b / 4294967296 / 4294967296 = 0 := by omega
  have e9 : a * b / 4294967296 % 4294967296 / 4294967296 = 0 := by omega
  rw [e8, wrap_u64 (n := a * b / 4294967296 % 4294967296) (by omega) (by omega), wrap_u64 (n := (0 : Int)) (by omega) (by omega), e9, wrap_u64 (by omega) (by omega)]
  rfl

end Go.VE
namespace Go.VE
open Go Go.Proofs
/-! ### math/bits.Mul -/
def math_bits_Mul_G : List (Nat × App) := [(46, math_bits_Mul64_S)]
theorem math_bits_Mul_Gok : GOk Try.prog (getG math_bits_Mul_G) := GOk.cons math_bits_Mul64_ok (GOk.nil)
def math_bits_Mul_raw (x0 : Int) (y1 : Int) (K : Res → List Cell → Prop) : Prop :=
 ∀ (r1 : Int × Int), r1 = math_bits_Mul64_F x0 y1 → (
 wfR (.tup [.v (.int .u64) r1.1, .v (.int .u64) r1.2]) → (
 K (.tup [.v (.int .u64) r1.1, .v (.int .u64) r1.2]) []))
def math_bits_Mul_A : List AS := [.v (.int .u64), .v (.int .u64)]
theorem math_bits_Mul_walk (x0 : Int) (y1 : Int) (K : Res → List Cell → Prop) : runF tb (getG math_bits_Mul_G) [] Try.f30 [true, true] (mkA math_bits_Mul_A (x0, y1, ())) K = math_bits_Mul_raw x0 y1 K := by kernel_rfl

def math_bits_Mul_F (x0 : Int) (y1 : Int) : Int × Int :=
 let r1 : Int × Int := math_bits_Mul64_F x0 y1
 (r1.1, r1.2)
set_option maxRecDepth 20000 in
theorem math_bits_Mul_sp (x0 : Int) (y1 : Int) (K : Res → List Cell → Prop) (_ : wfA math_bits_Mul_A (x0, y1, ())) (h : ∀ r : Int × Int, r = math_bits_Mul_F x0 y1 → K (.tup [.v (.int .u64) r.1, .v (.int .u64) r.2]) []) : math_bits_Mul_raw x0 y1 K := by
  unfold math_bits_Mul_raw
  intro r1 hr1
  subst hr1
  intro _
  exact h _ rfl
def math_bits_Mul_C (v : valsA math_bits_Mul_A) (K : Res → List Cell → Prop) : Prop := ∀ r : Int × Int, r = math_bits_Mul_F v.1 v.2.1 → K (.tup [.v (.int .u64) r.1, .v (.int .u64) r.2]) []
def math_bits_Mul_S : App := specW math_bits_Mul_A math_bits_Mul_C
theorem math_bits_Mul_wv (K : Res → List Cell → Prop) : ∀ v : valsA math_bits_Mul_A, runF tb (getG math_bits_Mul_G) [] Try.f30 [true, true] (mkA math_bits_Mul_A v) K = math_bits_Mul_raw v.1 v.2.1 K
  | (x0, y1, ()) => math_bits_Mul_walk x0 y1 K
set_option maxRecDepth 20000 in
theorem math_bits_Mul_ok : AppOk Try.prog 30 math_bits_Mul_S :=
  AppOk.specW (spec_ok (runF_ok tb_M tb_ok math_bits_Mul_Gok (LabsOk.nil) (f := 30) (fn := Try.f30) (by kernel_rfl) (by kernel_rfl) (by kernel_rfl) [true, true]) fun v K hw h => (math_bits_Mul_wv K v).mpr (math_bits_Mul_sp v.1 v.2.1 K hw h))

end Go.VE
namespace Go.VE
open Go Go.Proofs
--! external 1
--! args I
--! res fr:B
--! pre 1
--! rel 1
--! import VEu
def internal_bytealg_MakeNoZero_P (n : Int) : Prop := room_P n
def internal_bytealg_MakeNoZero_R (n : Int) (r : List Int) : Prop := room_R n r
def internal_bytealg_MakeNoZero_S : App := specW [.v (.int .i64)] fun v K => internal_bytealg_MakeNoZero_P v.1 ∧ ∀ r : List Int, internal_bytealg_MakeNoZero_R v.1 r → K (.one (.fr 5 (.int .u8) r)) []
theorem internal_bytealg_MakeNoZero_ok : AppOk Try.prog 31 internal_bytealg_MakeNoZero_S :=
  ext_room tb_ok (t := 22) (ps := #[3]) (fn := Try.f31) rfl rfl (by kernel_rfl) (by kernel_rfl) (by kernel_rfl) (by kernel_rfl) (by kernel_rfl) rfl

end Go.VE
namespace Go.VE
open Go Go.Proofs
/-! ### bytes.Repeat -/
def bytes_Repeat_G : List (Nat × App) := [(30, math_bits_Mul_S), (31, internal_bytealg_MakeNoZero_S)]
theorem bytes_Repeat_Gok : GOk Try.prog (getG bytes_Repeat_G) := GOk.cons math_bits_Mul_ok (GOk.cons internal_bytealg_MakeNoZero_ok (GOk.nil))
theorem bytes_Repeat_st : storesC (bodyOf Try.f16) = true := by kernel_rfl
def bytes_Repeat_d0 : List LS := [.v 7 (.int .i64), .v 8 (.int .i64), .o 9 77 5 (.int .u8), .v 10 (.int .i64)]
def bytes_Repeat_d0x0 : List LS := [.o 9 77 5 (.int .u8)]
def bytes_Repeat_dx0 : DX := ⟨none, none, [(0, bytes_Repeat_d0x0)]⟩
def bytes_Repeat_T0 (Y : Int → Int → List Int → Int → Prop) (kx0 : List Int → Prop) (n7 : Int) (chunkMax8 : Int) (nb9 : List Int) (bp10 : Int) : Prop :=
 bif (decide (bp10 < n7)) then
 (
 bif decide (0 ≤ bp10 ∧ bp10 ≤ (List.length nb9 : Int)) then
 bif decide (0 ≤ (mn bp10 chunkMax8) ∧ (mn bp10 chunkMax8) ≤ (List.length nb9 : Int)) then
 Y n7 chunkMax8 (ovr (Int.toNat bp10) (List.take (List.length (List.drop (Int.toNat bp10) nb9)) (List.take (Int.toNat (mn bp10 chunkMax8)) nb9)) nb9) (IntKind.wrap .i64 (bp10 + (mn (List.length (List.take (Int.toNat (mn bp10 chunkMax8)) nb9) : Int) (List.length (List.drop (Int.toNat bp10) nb9) : Int))))
 else False
 else False) ∧ (
 bif decide (0 ≤ (mn bp10 chunkMax8) ∧ (mn bp10 chunkMax8) ≤ (List.length nb9 : Int)) then
 bif decide (0 ≤ bp10 ∧ bp10 ≤ (List.length nb9 : Int)) then
 Y n7 chunkMax8 (ovr (Int.toNat bp10) (List.take (List.length (List.drop (Int.toNat bp10) nb9)) (List.take (Int.toNat (mn bp10 chunkMax8)) nb9)) nb9) (IntKind.wrap .i64 (bp10 + (mn (List.length (List.take (Int.toNat (mn bp10 chunkMax8)) nb9) : Int) (List.length (List.drop (Int.toNat bp10) nb9) : Int))))
 else False
 else False) ∧ True
 else
 kx0 nb9
def bytes_Repeat_L0 (kx0 : List Int → Prop) : Nat → Int → Int → List Int → Int → Prop
  | 0, _, _, _, _ => False
  | n + 1, n7, chunkMax8, nb9, bp10 => wfD bytes_Repeat_d0 (n7, chunkMax8, nb9, bp10, ()) → bytes_Repeat_T0 (bytes_Repeat_L0 kx0 n) kx0 n7 chunkMax8 nb9 bp10
theorem bytes_Repeat_s0 (k : Ex → St → Prop) (Y : vals bytes_Repeat_d0 → Prop) (n7 : Int) (chunkMax8 : Int) (nb9 : List Int) (bp10 : Int) :
    ex tb (getG bytes_Repeat_G) [] (at' (bodyOf Try.f16) [0, 0, 0, 1, 1, 1, 1, 1, 1, 1, 1, 1, 1, 1]) [0, 0, 0, 1, 1, 1, 1, 1, 1, 1, 1, 1, 1, 1] (mkD 77 bytes_Repeat_d0 (n7, chunkMax8, nb9, bp10, ())) (lpK 77 bytes_Repeat_d0 bytes_Repeat_dx0 k Y) =
    bytes_Repeat_T0 (fun n7 chunkMax8 nb9 bp10 => Y (n7, chunkMax8, nb9, bp10, ())) (fun nb9 => wfD bytes_Repeat_d0x0 (nb9, ()) → k (.exit 0) (mkD 77 bytes_Repeat_d0x0 (nb9, ()))) n7 chunkMax8 nb9 bp10 := by kernel_rfl
theorem bytes_Repeat_e0 (k : Ex → St → Prop) : ∀ (n : Nat) (n7 : Int) (chunkMax8 : Int) (nb9 : List Int) (bp10 : Int), lpD 77 bytes_Repeat_d0 bytes_Repeat_dx0 (ex tb (getG bytes_Repeat_G) [] (at' (bodyOf Try.f16) [0, 0, 0, 1, 1, 1, 1, 1, 1, 1, 1, 1, 1, 1]) [0, 0, 0, 1, 1, 1, 1, 1, 1, 1, 1, 1, 1, 1]) k n (n7, chunkMax8, nb9, bp10, ()) = bytes_Repeat_L0 (fun nb9 => wfD bytes_Repeat_d0x0 (nb9, ()) → k (.exit 0) (mkD 77 bytes_Repeat_d0x0 (nb9, ()))) n n7 chunkMax8 nb9 bp10
  | 0, _, _, _, _ => rfl
  | n + 1, n7, chunkMax8, nb9, bp10 => congrArg (fun Z : Prop => wfD bytes_Repeat_d0 (n7, chunkMax8, nb9, bp10, ()) → Z) ((bytes_Repeat_s0 k (lpD 77 bytes_Repeat_d0 bytes_Repeat_dx0 (ex tb (getG bytes_Repeat_G) [] (at' (bodyOf Try.f16) [0, 0, 0, 1, 1, 1, 1, 1, 1, 1, 1, 1, 1, 1]) [0, 0, 0, 1, 1, 1, 1, 1, 1, 1, 1, 1, 1, 1]) k n) n7 chunkMax8 nb9 bp10).trans (congrArg (fun Y => bytes_Repeat_T0 Y (fun nb9 => wfD bytes_Repeat_d0x0 (nb9, ()) → k (.exit 0) (mkD 77 bytes_Repeat_d0x0 (nb9, ()))) n7 chunkMax8 nb9 bp10) (funext fun n7 => funext fun chunkMax8 => funext fun nb9 => funext fun bp10 => bytes_Repeat_e0 k n n7 chunkMax8 nb9 bp10)))
theorem bytes_Repeat_v0 (k : Ex → St → Prop) (n : Nat) : ∀ v : vals bytes_Repeat_d0, lpD 77 bytes_Repeat_d0 bytes_Repeat_dx0 (ex tb (getG bytes_Repeat_G) [] (at' (bodyOf Try.f16) [0, 0, 0, 1, 1, 1, 1, 1, 1, 1, 1, 1, 1, 1]) [0, 0, 0, 1, 1, 1, 1, 1, 1, 1, 1, 1, 1, 1]) k n v = bytes_Repeat_L0 (fun nb9 => wfD bytes_Repeat_d0x0 (nb9, ()) → k (.exit 0) (mkD 77 bytes_Repeat_d0x0 (nb9, ()))) n v.1 v.2.1 v.2.2.1 v.2.2.2.1
  | (n7, chunkMax8, nb9, bp10, ()) => bytes_Repeat_e0 k n n7 chunkMax8 nb9 bp10
def bytes_Repeat_X0 : Pce := fun st k => ckD 77 bytes_Repeat_d0 st fun v => wfD bytes_Repeat_d0 v → ∃ n, bytes_Repeat_L0 (fun nb9 => wfD bytes_Repeat_d0x0 (nb9, ()) → k (.exit 0) (mkD 77 bytes_Repeat_d0x0 (nb9, ()))) n v.1 v.2.1 v.2.2.1 v.2.2.2.1
set_option maxRecDepth 20000 in
theorem bytes_Repeat_x0 : SemOk Try.prog (at' (bodyOf Try.f16) [0, 0, 1, 1, 1, 1, 1, 1, 1, 1, 1, 1, 1]) bytes_Repeat_X0 :=
  (SemOk.loop (ex_sound tb_M tb_ok bytes_Repeat_Gok (LabsOk.nil) (at' (bodyOf Try.f16) [0, 0, 0, 1, 1, 1, 1, 1, 1, 1, 1, 1, 1, 1]) [0, 0, 0, 1, 1, 1, 1, 1, 1, 1, 1, 1, 1, 1] rfl (storesC_at bytes_Repeat_st [0, 0, 0, 1, 1, 1, 1, 1, 1, 1, 1, 1, 1, 1])) 77 bytes_Repeat_d0 bytes_Repeat_dx0).mono fun st k h => ckD_mono h fun v hv hw => (hv hw).elim fun n hn => ⟨n, Eq.mpr (bytes_Repeat_v0 k n v) hn⟩
def bytes_Repeat_B0 : Labs := ([0, 0, 1, 1, 1, 1, 1, 1, 1, 1, 1, 1, 1], bytes_Repeat_X0) :: []
theorem bytes_Repeat_b0 : LabsOk Try.prog (bodyOf Try.f16) bytes_Repeat_B0 := LabsOk.cons bytes_Repeat_x0 (LabsOk.nil)
def bytes_Repeat_d1 : List LS := [.v 0 (.sl (.int .u8)), .v 7 (.int .i64), .v 8 (.int .i64)]
def bytes_Repeat_d1r : List LS := [.o 4 37 5 (.int .u8)]
def bytes_Repeat_dx1 : DX := ⟨none, some bytes_Repeat_d1r, []⟩
def bytes_Repeat_J1 (kr : List Int → Prop) (b0 : List Int) (n7 : Int) (chunkMax8 : Int) : Prop :=
 internal_bytealg_MakeNoZero_P n7 ∧ (
 ∀ (r2 : List Int), internal_bytealg_MakeNoZero_R n7 r2 → (
 wfR (.one (.fr 5 (.int .u8) r2)) → (
 bif decide (0 ≤ n7 ∧ n7 ≤ n7 ∧ n7 ≤ (List.length r2 : Int)) then
 (wfD bytes_Repeat_d0 (n7, chunkMax8, (ovr 0 (List.take (List.length (List.take (Int.toNat n7) r2)) b0) (List.take (Int.toNat n7) r2)), (mn (List.length b0 : Int) (List.length (List.take (Int.toNat n7) r2) : Int)), ()) → ∃ n, bytes_Repeat_L0 (fun (nb9 : List Int) => wfD bytes_Repeat_d0x0 (nb9, ()) → (
 kr nb9)) n n7 chunkMax8 (ovr 0 (List.take (List.length (List.take (Int.toNat n7) r2)) b0) (List.take (Int.toNat n7) r2)) (mn (List.length b0 : Int) (List.length (List.take (Int.toNat n7) r2) : Int)))
 else False)))
theorem bytes_Repeat_s1 (k : Ex → St → Prop) (b0 : List Int) (n7 : Int) (chunkMax8 : Int) :
    ex tb (getG bytes_Repeat_G) bytes_Repeat_B0 (at' (bodyOf Try.f16) [1, 1, 1, 1, 1, 1, 1, 1, 1]) [1, 1, 1, 1, 1, 1, 1, 1, 1] (mkD 77 bytes_Repeat_d1 (b0, n7, chunkMax8, ())) (wk 77 bytes_Repeat_dx1 k) =
    bytes_Repeat_J1 (fun x4 => wfD bytes_Repeat_d1r (x4, ()) → k .ret (mkD 77 bytes_Repeat_d1r (x4, ()))) b0 n7 chunkMax8 := by kernel_rfl
theorem bytes_Repeat_v1 (k : Ex → St → Prop) : ∀ v : vals bytes_Repeat_d1, ex tb (getG bytes_Repeat_G) bytes_Repeat_B0 (at' (bodyOf Try.f16) [1, 1, 1, 1, 1, 1, 1, 1, 1]) [1, 1, 1, 1, 1, 1, 1, 1, 1] (mkD 77 bytes_Repeat_d1 v) (wk 77 bytes_Repeat_dx1 k) = bytes_Repeat_J1 (fun x4 => wfD bytes_Repeat_d1r (x4, ()) → k .ret (mkD 77 bytes_Repeat_d1r (x4, ()))) v.1 v.2.1 v.2.2.1
  | (b0, n7, chunkMax8, ()) => bytes_Repeat_s1 k b0 n7 chunkMax8
def bytes_Repeat_X1 : Pce := fun st k => ckD 77 bytes_Repeat_d1 st fun v => wfD bytes_Repeat_d1 v → bytes_Repeat_J1 (fun x4 => wfD bytes_Repeat_d1r (x4, ()) → k .ret (mkD 77 bytes_Repeat_d1r (x4, ()))) v.1 v.2.1 v.2.2.1
set_option maxRecDepth 20000 in
theorem bytes_Repeat_x1 : SemOk Try.prog (at' (bodyOf Try.f16) [1, 1, 1, 1, 1, 1, 1, 1, 1]) bytes_Repeat_X1 :=
  (SemOk.wk (N := 77) (ds := bytes_Repeat_d1) (dx := bytes_Repeat_dx1) (ex_sound tb_M tb_ok bytes_Repeat_Gok (bytes_Repeat_b0) (at' (bodyOf Try.f16) [1, 1, 1, 1, 1, 1, 1, 1, 1]) [1, 1, 1, 1, 1, 1, 1, 1, 1] rfl (storesC_at bytes_Repeat_st [1, 1, 1, 1, 1, 1, 1, 1, 1]))).mono fun st k h => ckD_mono h fun v hv hw => Eq.mpr (bytes_Repeat_v1 k v) (hv hw)
def bytes_Repeat_B1 : Labs := ([1, 1, 1, 1, 1, 1, 1, 1, 1], bytes_Repeat_X1) :: bytes_Repeat_B0
theorem bytes_Repeat_b1 : LabsOk Try.prog (bodyOf Try.f16) bytes_Repeat_B1 := LabsOk.cons bytes_Repeat_x1 (bytes_Repeat_b0)
def bytes_Repeat_d2 : List LS := [.v 0 (.sl (.int .u8)), .v 6 (.int .u64)]
def bytes_Repeat_d2r : List LS := [.o 4 37 5 (.int .u8)]
def bytes_Repeat_dx2 : DX := ⟨none, some bytes_Repeat_d2r, []⟩
def bytes_Repeat_J2 (kr : List Int → Prop) (b0 : List Int) (lo6 : Int) : Prop :=
 bif (decide ((List.length b0 : Int) = (0 : Int))) then
 kr ([] : List Int)
 else
 bif (decide ((8192 : Int) < (IntKind.wrap .i64 lo6))) then
 bif decide ((List.length b0 : Int) ≠ 0) then
 bif (decide ((IntKind.wrap .i64 ((IntKind.wrap .i64 (Int.tdiv (8192 : Int) (List.length b0 : Int))) * (List.length b0 : Int))) = (0 : Int))) then
 (wfD bytes_Repeat_d1 (b0, (IntKind.wrap .i64 lo6), (List.length b0 : Int), ()) → bytes_Repeat_J1 (fun (x4 : List Int) => wfD bytes_Repeat_d1r (x4, ()) → (
 kr x4)) b0 (IntKind.wrap .i64 lo6) (List.length b0 : Int))
 else
 (wfD bytes_Repeat_d1 (b0, (IntKind.wrap .i64 lo6), (IntKind.wrap .i64 ((IntKind.wrap .i64 (Int.tdiv (8192 : Int) (List.length b0 : Int))) * (List.length b0 : Int))), ()) → bytes_Repeat_J1 (fun (x4 : List Int) => wfD bytes_Repeat_d1r (x4, ()) → (
 kr x4)) b0 (IntKind.wrap .i64 lo6) (IntKind.wrap .i64 ((IntKind.wrap .i64 (Int.tdiv (8192 : Int) (List.length b0 : Int))) * (List.length b0 : Int))))
 else False
 else
 (wfD bytes_Repeat_d1 (b0, (IntKind.wrap .i64 lo6), (IntKind.wrap .i64 lo6), ()) → bytes_Repeat_J1 (fun (x4 : List Int) => wfD bytes_Repeat_d1r (x4, ()) → (
 kr x4)) b0 (IntKind.wrap .i64 lo6) (IntKind.wrap .i64 lo6))
theorem bytes_Repeat_s2 (k : Ex → St → Prop) (b0 : List Int) (lo6 : Int) :
    ex tb (getG bytes_Repeat_G) bytes_Repeat_B1 (at' (bodyOf Try.f16) [1, 1, 1, 1, 1]) [1, 1, 1, 1, 1] (mkD 77 bytes_Repeat_d2 (b0, lo6, ())) (wk 77 bytes_Repeat_dx2 k) =
    bytes_Repeat_J2 (fun x4 => wfD bytes_Repeat_d2r (x4, ()) → k .ret (mkD 77 bytes_Repeat_d2r (x4, ()))) b0 lo6 := by kernel_rfl
theorem bytes_Repeat_v2 (k : Ex → St → Prop) : ∀ v : vals bytes_Repeat_d2, ex tb (getG bytes_Repeat_G) bytes_Repeat_B1 (at' (bodyOf Try.f16) [1, 1, 1, 1, 1]) [1, 1, 1, 1, 1] (mkD 77 bytes_Repeat_d2 v) (wk 77 bytes_Repeat_dx2 k) = bytes_Repeat_J2 (fun x4 => wfD bytes_Repeat_d2r (x4, ()) → k .ret (mkD 77 bytes_Repeat_d2r (x4, ()))) v.1 v.2.1
  | (b0, lo6, ()) => bytes_Repeat_s2 k b0 lo6
def bytes_Repeat_X2 : Pce := fun st k => ckD 77 bytes_Repeat_d2 st fun v => wfD bytes_Repeat_d2 v → bytes_Repeat_J2 (fun x4 => wfD bytes_Repeat_d2r (x4, ()) → k .ret (mkD 77 bytes_Repeat_d2r (x4, ()))) v.1 v.2.1
set_option maxRecDepth 20000 in
theorem bytes_Repeat_x2 : SemOk Try.prog (at' (bodyOf Try.f16) [1, 1, 1, 1, 1]) bytes_Repeat_X2 :=
  (SemOk.wk (N := 77) (ds := bytes_Repeat_d2) (dx := bytes_Repeat_dx2) (ex_sound tb_M tb_ok bytes_Repeat_Gok (bytes_Repeat_b1) (at' (bodyOf Try.f16) [1, 1, 1, 1, 1]) [1, 1, 1, 1, 1] rfl (storesC_at bytes_Repeat_st [1, 1, 1, 1, 1]))).mono fun st k h => ckD_mono h fun v hv hw => Eq.mpr (bytes_Repeat_v2 k v) (hv hw)
def bytes_Repeat_B2 : Labs := ([1, 1, 1, 1, 1], bytes_Repeat_X2) :: bytes_Repeat_B1
theorem bytes_Repeat_b2 : LabsOk Try.prog (bodyOf Try.f16) bytes_Repeat_B2 := LabsOk.cons bytes_Repeat_x2 (bytes_Repeat_b1)
def bytes_Repeat_d3 : List LS := [.v 0 (.sl (.int .u8)), .v 1 (.int .i64)]
def bytes_Repeat_d3r : List LS := [.o 4 37 5 (.int .u8)]
def bytes_Repeat_dx3 : DX := ⟨none, some bytes_Repeat_d3r, []⟩
def bytes_Repeat_J3 (kr : List Int → Prop) (b0 : List Int) (count1 : Int) : Prop :=
 ∀ (r1 : Int × Int), r1 = math_bits_Mul_F (IntKind.wrap .u64 (List.length b0 : Int)) (IntKind.wrap .u64 count1) → (
 wfR (.tup [.v (.int .u64) r1.1, .v (.int .u64) r1.2]) → (
 bif (decide ((0 : Int) < r1.1)) then
 False
 else
 bif (decide ((9223372036854775807 : Int) < r1.2)) then
 False
 else
 (wfD bytes_Repeat_d2 (b0, r1.2, ()) → bytes_Repeat_J2 (fun (x4 : List Int) => wfD bytes_Repeat_d2r (x4, ()) → (
 kr x4)) b0 r1.2)))
theorem bytes_Repeat_s3 (k : Ex → St → Prop) (b0 : List Int) (count1 : Int) :
    ex tb (getG bytes_Repeat_G) bytes_Repeat_B2 (at' (bodyOf Try.f16) [1, 1, 1]) [1, 1, 1] (mkD 77 bytes_Repeat_d3 (b0, count1, ())) (wk 77 bytes_Repeat_dx3 k) =
    bytes_Repeat_J3 (fun x4 => wfD bytes_Repeat_d3r (x4, ()) → k .ret (mkD 77 bytes_Repeat_d3r (x4, ()))) b0 count1 := by kernel_rfl
theorem bytes_Repeat_v3 (k : Ex → St → Prop) : ∀ v : vals bytes_Repeat_d3, ex tb (getG bytes_Repeat_G) bytes_Repeat_B2 (at' (bodyOf Try.f16) [1, 1, 1]) [1, 1, 1] (mkD 77 bytes_Repeat_d3 v) (wk 77 bytes_Repeat_dx3 k) = bytes_Repeat_J3 (fun x4 => wfD bytes_Repeat_d3r (x4, ()) → k .ret (mkD 77 bytes_Repeat_d3r (x4, ()))) v.1 v.2.1
  | (b0, count1, ()) => bytes_Repeat_s3 k b0 count1
def bytes_Repeat_X3 : Pce := fun st k => ckD 77 bytes_Repeat_d3 st fun v => wfD bytes_Repeat_d3 v → bytes_Repeat_J3 (fun x4 => wfD bytes_Repeat_d3r (x4, ()) → k .ret (mkD 77 bytes_Repeat_d3r (x4, ()))) v.1 v.2.1
set_option maxRecDepth 20000 in
theorem bytes_Repeat_x3 : SemOk Try.prog (at' (bodyOf Try.f16) [1, 1, 1]) bytes_Repeat_X3 :=
  (SemOk.wk (N := 77) (ds := bytes_Repeat_d3) (dx := bytes_Repeat_dx3) (ex_sound tb_M tb_ok bytes_Repeat_Gok (bytes_Repeat_b2) (at' (bodyOf Try.f16) [1, 1, 1]) [1, 1, 1] rfl (storesC_at bytes_Repeat_st [1, 1, 1]))).mono fun st k h => ckD_mono h fun v hv hw => Eq.mpr (bytes_Repeat_v3 k v) (hv hw)
def bytes_Repeat_B3 : Labs := ([1, 1, 1], bytes_Repeat_X3) :: bytes_Repeat_B2
theorem bytes_Repeat_b3 : LabsOk Try.prog (bodyOf Try.f16) bytes_Repeat_B3 := LabsOk.cons bytes_Repeat_x3 (bytes_Repeat_b2)
def bytes_Repeat_raw (b0 : List Int) (count1 : Int) (K : Res → List Cell → Prop) : Prop :=
 bif (decide (count1 = (0 : Int))) then
 K (.one (.fr 5 (.int .u8) ([] : List Int))) []
 else
 bif (decide (count1 < (0 : Int))) then
 False
 else
 (wfD bytes_Repeat_d3 (b0, count1, ()) → bytes_Repeat_J3 (fun (x4 : List Int) => wfD bytes_Repeat_d3r (x4, ()) → (
 K (.one (.fr 5 (.int .u8) x4)) [])) b0 count1)
def bytes_Repeat_A : List AS := [.v (.sl (.int .u8)), .v (.int .i64)]
theorem bytes_Repeat_walk (b0 : List Int) (count1 : Int) (K : Res → List Cell → Prop) : runF tb (getG bytes_Repeat_G) bytes_Repeat_B3 Try.f16 [true] (mkA bytes_Repeat_A (b0, count1, ())) K = bytes_Repeat_raw b0 count1 K := by kernel_rfl
--! pre 1
def repB (b : List Int) : Nat → List Int
  | 0 => []
  | n + 1 => b ++ repB b n
theorem repB_length (b : List Int) : ∀ n, (repB b n).length = n * b.length
  | 0 => by simp [repB]
  | n + 1 => by rw [repB, List.length_append, repB_length b n, Nat.succ_mul]; omega
theorem repB_get (b : List Int) : ∀ (n i : Nat), i < n * b.length → (repB b n)[i]? = b[i % b.length]?
  | 0, i, h => by simp at h
  | n + 1, i, h => by
    rw [repB]
    by_cases hi : i < b.length
    · rw [List.getElem?_append_left hi, Nat.mod_eq_of_lt hi]
    · rw [List.getElem?_append_right (by omega), repB_get b n _ (by rw [Nat.succ_mul] at h; omega)]
      congr 1
      exact (Nat.mod_eq_sub_mod (by omega)).symm
def bytes_Repeat_P (b : List Int) (count : Int) : Prop := 0 ≤ count ∧ count < 4294967296 ∧ b.length < 4294967296 ∧ (b.length : Int) * count ≤ (lim : Int)
def bytes_Repeat_F (b : List Int) (count : Int) : List Int := repB b count.toNat
/-- so much of it is written -/
def RInv (b nb : List Int) (n bp : Nat) : Prop := nb.length = n ∧ ∀ i, i < bp → nb[i]? = b[i % b.length]?
theorem rinv_step {b nb : List Int} {n bp c : Nat} (hb : 0 < b.length) (hi : RInv b nb n bp) (hd : b.length ∣ bp) (hc : c ≤ bp) (hn : bp + c ≤ n) : RInv b (ovr bp (nb.take c) nb) n (bp + c) := by
  have hl : (nb.take c).length = c := by rw [List.length_take, hi.1]; omega
  refine ⟨by rw [ovr_length]; exact hi.1, fun i hlt => ?_⟩
  rw [ovr_get _ _ _ _ (by rw [hi.1]; omega), hl]
  by_cases h : bp ≤ i
  · rw [if_pos ⟨h, hlt⟩, List.getElem?_take, if_pos (by omega), hi.2 _ (by omega)]
    congr 1
    obtain ⟨q, rfl⟩ := hd
    have e : i = (i - b.length * q) + b.length * q := by omega
    conv => rhs; rw [e, Nat.add_mul_mod_self_left]
  · rw [if_neg (by omega)]; exact hi.2 i (by omega)
theorem bytes_Repeat_l0 (kx0 : List Int → Prop) (b : List Int) (hb : 0 < b.length) (n cm : Nat) (hn : n ≤ lim) (hnd : b.length ∣ n) (hcm : 0 < cm) (hcd : b.length ∣ cm) (hk : ∀ nb, RInv b nb n n → kx0 nb) :
    ∀ (m bp : Nat) (nb : List Int), n < m + bp → 0 < bp → b.length ∣ bp → bp ≤ n → RInv b nb n bp → bytes_Repeat_L0 kx0 m (n : Int) (cm : Int) nb (bp : Int)
  | 0, bp, nb, h, h2, h3, h4, h5 => by omega
  | m + 1, bp, nb, h, h2, h3, h4, h5 => by
    intro _
    unfold bytes_Repeat_T0
    refine brn (fun hlt => ?_) (fun hge => ?_)
    · have hlt : bp < n := by omega
      have hmn : mn (bp : Int) (cm : Int) = ((min bp cm : Nat) : Int) := by
        unfold mn
        by_cases hc : (cm : Int) < bp
        · simp only [hc, decide_true, cond_true]; omega
        · simp only [hc, decide_false, cond_false]; omega
      have hmd : b.length ∣ min bp cm := by
        rcases Nat.le_total bp cm with h | h
        · rw [Nat.min_eq_left h]; exact h3
        · rw [Nat.min_eq_right h]; exact hcd
      -- so much is copied
      have hcl : (List.take (Int.toNat (mn (bp : Int) (cm : Int))) nb).length = min bp cm := by rw [hmn, Int.toNat_natCast, List.length_take, h5.1]; omega
      have hdl : (List.drop (Int.toNat (bp : Int)) nb).length = n - bp := by rw [Int.toNat_natCast, List.length_drop, h5.1]
      have hc2 : mn (List.length (List.take (Int.toNat (mn (bp : Int) (cm : Int))) nb) : Int) (List.length (List.drop (Int.toNat (bp : Int)) nb) : Int) = ((min (min bp cm) (n - bp) : Nat) : Int) := by
        rw [hcl, hdl]
        unfold mn
        by_cases hc : ((n - bp : Nat) : Int) < ((min bp cm : Nat) : Int)
        · simp only [hc, decide_true, cond_true]; omega
        · simp only [hc, decide_false, cond_false]; omega
      have key : bytes_Repeat_L0 kx0 m (n : Int) (cm : Int) (ovr (Int.toNat (bp : Int)) (List.take (List.length (List.drop (Int.toNat (bp : Int)) nb)) (List.take (Int.toNat (mn (bp : Int) (cm : Int))) nb)) nb) (IntKind.wrap .i64 ((bp : Int) + (mn (List.length (List.take (Int.toNat (mn (bp : Int) (cm : Int))) nb) : Int) (List.length (List.drop (Int.toNat (bp : Int)) nb) : Int)))) := by
        have hlim : n ≤ 1099511627776 := hn
        rw [hc2, hdl, hmn, Int.toNat_natCast, Int.toNat_natCast, List.take_take, wrap_i64 (by omega) (by omega), show min (n - bp) (min bp cm) = min (min bp cm) (n - bp) from Nat.min_comm _ _]
        have hdvd : b.length ∣ min (min bp cm) (n - bp) := by
          rcases Nat.le_total (min bp cm) (n - bp) with h | h
          · rw [Nat.min_eq_left h]; exact hmd
          · rw [Nat.min_eq_right h]; exact Nat.dvd_sub hnd h3
        have hpos : 0 < min (min bp cm) (n - bp) := by omega
        have := bytes_Repeat_l0 kx0 b hb n cm hn hnd hcm hcd hk m (bp + min (min bp cm) (n - bp)) _ (by omega) (by omega) (Nat.dvd_add h3 hdvd) (by omega) (rinv_step hb h5 h3 (by omega) (by omega))
        simpa using this
      have a1 : 0 ≤ (bp : Int) ∧ (bp : Int) ≤ (List.length nb : Int) := by rw [h5.1]; omega
      have a2 : 0 ≤ mn (bp : Int) (cm : Int) ∧ mn (bp : Int) (cm : Int) ≤ (List.length nb : Int) := by rw [h5.1, hmn]; omega
      exact ⟨asrt a1 (asrt a2 key), asrt a2 (asrt a1 key), trivial⟩
    · obtain rfl : bp = n := by omega
      exact hk nb h5
theorem bytes_Repeat_sp (b : List Int) (count : Int) (K : Res → List Cell → Prop) (hw : wfA bytes_Repeat_A (b, count, ())) (hp : bytes_Repeat_P b count) (h : ∀ r : List Int, r = bytes_Repeat_F b count → K (.one (.fr 5 (.int .u8) r)) []) : bytes_Repeat_raw b count K := by
  obtain ⟨h0, h1, h2, h3⟩ := hp
  obtain ⟨c, rfl⟩ := Int.eq_ofNat_of_zero_le h0
  unfold bytes_Repeat_F at h
  rw [Int.toNat_natCast] at h
  unfold bytes_Repeat_raw
  refine brn (fun hz => h _ ?_) (fun hz => brn (fun hn => absurd hn (by omega)) (fun _ _ => ?_))
  · obtain rfl : c = 0 := by omega
    rfl
  unfold bytes_Repeat_J3
  intro r1 hr1 _
  have hmul : r1 = (0, (b.length : Int) * (c : Int)) := by
    rw [hr1, wrap_u64 (by omega) (by omega), wrap_u64 (by omega) (by omega)]
    exact mul_small (by omega) (by omega) (by omega) (by omega)
  have hlc : (b.length : Int) * (c : Int) = ((c * b.length : Nat) : Int) := by rw [Int.mul_comm]; simp
  have hlim : ((c * b.length : Nat) : Int) ≤ 1099511627776 := by rw [← hlc]; exact h3
  rw [hmul, hlc]
  refine brn (fun hn => absurd hn (by simp)) (fun _ => brn (fun hn => absurd hn (by show ¬ (9223372036854775807 : Int) < ((c * b.length : Nat) : Int); omega)) (fun _ _ => ?_))
  show bytes_Repeat_J2 _ b ((c * b.length : Nat) : Int)
  unfold bytes_Repeat_J2
  refine brn (fun hz => ?_) (fun hz => ?_)
  · intro _ _
    refine h _ ?_
    have hb : b = [] := List.eq_nil_of_length_eq_zero (by omega)
    subst hb
    clear h hlc hlim hmul hr1 hw h3
    have : ∀ n, repB [] n = [] := fun n => List.eq_nil_of_length_eq_zero (by rw [repB_length]; simp)
    exact (this c).symm
  have hb : 0 < b.length := by omega
  have hge : b.length ≤ c * b.length := Nat.le_mul_of_pos_left _ (by omega)
  rw [wrap_i64 (n := ((c * b.length : Nat) : Int)) (by omega) (by omega)]
  have main : ∀ (cm : Nat), 0 < cm → b.length ∣ cm → bytes_Repeat_J1 (fun (x4 : List Int) => wfD bytes_Repeat_d1r (x4, ()) → wfD bytes_Repeat_d2r (x4, ()) → wfD bytes_Repeat_d3r (x4, ()) → K (.one (.fr 5 (.int .u8) x4)) []) b ((c * b.length : Nat) : Int) (cm : Int) := by
    intro cm hcm hcd
    unfold bytes_Repeat_J1
    refine ⟨⟨by omega, hlim⟩, fun r2 hr2 _ => asrt ?_ fun _ => ?_⟩
    · have : r2.length = c * b.length := hr2
      rw [this]; omega
    have hr2 : r2.length = c * b.length := hr2
    have htk : List.take (Int.toNat ((c * b.length : Nat) : Int)) r2 = r2 := by rw [Int.toNat_natCast, ← hr2, List.take_length]
    have hmn : mn (List.length b : Int) (List.length r2 : Int) = (b.length : Int) := by
      unfold mn
      have : ¬ ((r2.length : Int) < b.length) := by rw [hr2]; omega
      simp only [this, decide_false, cond_false]
    rw [htk, hmn]
    refine ⟨c * b.length + 1, bytes_Repeat_l0 _ b hb (c * b.length) cm (by show _ ≤ 1099511627776; omega) ⟨c, Nat.mul_comm _ _⟩ hcm hcd (fun nb hnb _ h1 h2 h3 => h nb ?_) _ _ _ (by omega) hb (Nat.dvd_refl _) hge ⟨?_, fun i hi => ?_⟩⟩
    · refine List.ext_getElem? fun i => ?_
      by_cases hi : i < c * b.length
      · rw [hnb.2 i hi, repB_get b c i hi]
      · rw [List.getElem?_eq_none (by rw [hnb.1]; omega), List.getElem?_eq_none (by rw [repB_length]; omega)]
    · rw [ovr_length, hr2]
    · rw [ovr_get _ _ _ _ (by rw [hr2]; omega), List.take_of_length_le (by rw [hr2]; exact hge), if_pos (by omega), Nat.sub_zero, Nat.mod_eq_of_lt hi]
  refine brn (fun hbig => asrt (by omega) ?_) (fun hsm _ => main (c * b.length) (by omega) ⟨c, Nat.mul_comm _ _⟩)
  have hq : Int.tdiv (8192 : Int) (List.length b : Int) = ((8192 / b.length : Nat) : Int) := by
    rw [Int.tdiv_eq_ediv_of_nonneg (by omega)]; rfl
  have hq2 : 8192 / b.length ≤ 8192 := Nat.div_le_self _ _
  have hq3 : 8192 / b.length * b.length ≤ 8192 := Nat.div_mul_le_self _ _
  rw [hq]
  generalize 8192 / b.length = q at hq2 hq3 ⊢
  have hq4 : (q : Int) * (b.length : Int) = ((q * b.length : Nat) : Int) := by simp
  rw [wrap_i64 (n := (q : Int)) (by omega) (by omega), hq4]
  generalize hql : q * b.length = ql at hq3 ⊢
  rw [wrap_i64 (n := (ql : Int)) (by omega) (by omega)]
  refine brn (fun hz _ => main b.length hb (Nat.dvd_refl _)) (fun hz _ => main ql (by omega) ⟨q, by rw [← hql]; exact Nat.mul_comm _ _⟩)

def bytes_Repeat_C (v : valsA bytes_Repeat_A) (K : Res → List Cell → Prop) : Prop := bytes_Repeat_P v.1 v.2.1 ∧ ∀ r : List Int, r = bytes_Repeat_F v.1 v.2.1 → K (.one (.fr 5 (.int .u8) r)) []
def bytes_Repeat_S : App := specW bytes_Repeat_A bytes_Repeat_C
theorem bytes_Repeat_wv (K : Res → List Cell → Prop) : ∀ v : valsA bytes_Repeat_A, runF tb (getG bytes_Repeat_G) bytes_Repeat_B3 Try.f16 [true] (mkA bytes_Repeat_A v) K = bytes_Repeat_raw v.1 v.2.1 K
  | (b0, count1, ()) => bytes_Repeat_walk b0 count1 K
set_option maxRecDepth 20000 in
theorem bytes_Repeat_ok : AppOk Try.prog 16 bytes_Repeat_S :=
  AppOk.specW (spec_ok (runF_ok tb_M tb_ok bytes_Repeat_Gok (bytes_Repeat_b3) (f := 16) (fn := Try.f16) (by kernel_rfl) (by kernel_rfl) bytes_Repeat_st [true]) fun v K hw h => (bytes_Repeat_wv K v).mpr (bytes_Repeat_sp v.1 v.2.1 K hw h.1 h.2))

end Go.VE
namespace Go.VE
open Go Go.Proofs
/-! ### bytes.Clone -/
def bytes_Clone_G : List (Nat × App) := []
theorem bytes_Clone_Gok : GOk Try.prog (getG bytes_Clone_G) := GOk.nil
def bytes_Clone_raw (b0 : List Int) (K : Res → List Cell → Prop) : Prop :=
 (
 bif decide (List.length ([] : List Int) + List.length b0 ≤ lim) then
 K (.one (.fr 5 (.int .u8) (([] : List Int) ++ b0))) []
 else False) ∧ (bif decide (List.length b0 = 0) then
 K (.one (.fr 5 (.int .u8) ([] : List Int))) []
 else True)
def bytes_Clone_A : List AS := [.v (.sl (.int .u8))]
theorem bytes_Clone_walk (b0 : List Int) (K : Res → List Cell → Prop) : runF tb (getG bytes_Clone_G) [] Try.f17 [true] (mkA bytes_Clone_A (b0, ())) K = bytes_Clone_raw b0 K := by kernel_rfl
--! pre 1
def bytes_Clone_P (b : List Int) : Prop := b.length ≤ lim
def bytes_Clone_F (b : List Int) : List Int := b
theorem bytes_Clone_sp (b : List Int) (K : Res → List Cell → Prop) (_ : wfA bytes_Clone_A (b, ())) (hp : bytes_Clone_P b) (h : ∀ r : List Int, r = bytes_Clone_F b → K (.one (.fr 5 (.int .u8) r)) []) : bytes_Clone_raw b K := by
  unfold bytes_Clone_raw
  unfold bytes_Clone_P at hp
  refine ⟨asrt (by simpa using hp) (h _ rfl), ?_⟩
  by_cases hz : b.length = 0
  · rw [decide_eq_true hz]
    exact h _ (List.eq_nil_of_length_eq_zero hz).symm
  · rw [decide_eq_false hz]; trivial

def bytes_Clone_C (v : valsA bytes_Clone_A) (K : Res → List Cell → Prop) : Prop := bytes_Clone_P v.1 ∧ ∀ r : List Int, r = bytes_Clone_F v.1 → K (.one (.fr 5 (.int .u8) r)) []
def bytes_Clone_S : App := specW bytes_Clone_A bytes_Clone_C
theorem bytes_Clone_wv (K : Res → List Cell → Prop) : ∀ v : valsA bytes_Clone_A, runF tb (getG bytes_Clone_G) [] Try.f17 [true] (mkA bytes_Clone_A v) K = bytes_Clone_raw v.1 K
  | (b0, ()) => bytes_Clone_walk b0 K
set_option maxRecDepth 20000 in
theorem bytes_Clone_ok : AppOk Try.prog 17 bytes_Clone_S :=
  AppOk.specW (spec_ok (runF_ok tb_M tb_ok bytes_Clone_Gok (LabsOk.nil) (f := 17) (fn := Try.f17) (by kernel_rfl) (by kernel_rfl) (by kernel_rfl) [true]) fun v K hw h => (bytes_Clone_wv K v).mpr (bytes_Clone_sp v.1 K hw h.1 h.2))

end Go.VE
