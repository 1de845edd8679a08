/- TypingOver: whatever the input, up to the bulk that the statement names, the law answers true, and what was handed in reads as it did. Its conditions: the bound of the given statement, no other. -/
import Derived.Test.YtdmgfabppaffkaaS11
set_option linter.unusedVariables false
namespace Go.VE
open Go Go.Proofs
/-! ### quoin/quoinref20.Check -/
def quoinref20_Check_G : List (Nat × App) := [(23, quoinref20_fits_S)]
theorem quoinref20_Check_Gok : GOk Try.prog (getG quoinref20_Check_G) := GOk.cons quoinref20_fits_ok (GOk.nil)
def quoinref20_Check_raw (base0 : List Int) (y1 : (Int × Int × List Int × Int × Int)) (K : Res → List Cell → Prop) : Prop :=
  ∀ (r1 : Bool), r1 = quoinref20_fits_F base0 y1 → (
  wfR (.one (.v (.bool) r1)) → (
  bif (!r1) then
    K (.one (.v (.int .i64) (2 : Int))) []
  else
  bif (decide ((65536 : Int) < (IntKind.wrap .i64 ((IntKind.wrap .i64 ((List.length base0 : Int) - y1.2.2.2.1)) + (List.length y1.2.2.1 : Int))))) then
    K (.one (.v (.int .i64) (2 : Int))) []
  else
    K (.one (.v (.int .i64) (0 : Int))) []))
def quoinref20_Check_A : List AS := [.v (.sl (.int .u8)), .v (.st (.pair (.int .u8) (.pair (.int .i64) (.pair (.sl (.int .u8)) (.pair (.int .i64) (.int .i64))))))]
theorem quoinref20_Check_walk (base0 : List Int) (y1 : (Int × Int × List Int × Int × Int)) (K : Res → List Cell → Prop) : runF tb (getG quoinref20_Check_G) [] Try.f13 [true] (mkA quoinref20_Check_A (base0, y1, ())) K = quoinref20_Check_raw base0 y1 K := by kernel_rfl

def quoinref20_Check_F (base0 : List Int) (y1 : (Int × Int × List Int × Int × Int)) : Int :=
  let r1 : Bool := quoinref20_fits_F base0 y1
  bif (!r1) then
    (2 : Int)
  else
    bif (decide ((65536 : Int) < (IntKind.wrap .i64 ((IntKind.wrap .i64 ((List.length base0 : Int) - y1.2.2.2.1)) + (List.length y1.2.2.1 : Int))))) then
      (2 : Int)
    else
      (0 : Int)
set_option maxRecDepth 20000 in
theorem quoinref20_Check_sp (base0 : List Int) (y1 : (Int × Int × List Int × Int × Int)) (K : Res → List Cell → Prop) (_ : wfA quoinref20_Check_A (base0, y1, ())) (h : ∀ r : Int, r = quoinref20_Check_F base0 y1 → K (.one (.v (.int .i64) r)) []) : quoinref20_Check_raw base0 y1 K := by
  unfold quoinref20_Check_raw
  intro r1 hr1
  subst hr1
  intro _
  refine brb (fun c1 => ?_) (fun c1 => ?_)
  ·
    exact h _ ((ctrue c1) : quoinref20_Check_F base0 y1 = _).symm
  ·
    refine brb (fun c2 => ?_) (fun c2 => ?_)
    ·
      exact h _ ((Eq.trans (cfalse c1) (ctrue c2)) : quoinref20_Check_F base0 y1 = _).symm
    ·
      exact h _ ((Eq.trans (cfalse c1) (cfalse c2)) : quoinref20_Check_F base0 y1 = _).symm
def quoinref20_Check_C (v : valsA quoinref20_Check_A) (K : Res → List Cell → Prop) : Prop := ∀ r : Int, r = quoinref20_Check_F v.1 v.2.1 → K (.one (.v (.int .i64) r)) []
def quoinref20_Check_S : App := specW quoinref20_Check_A quoinref20_Check_C
theorem quoinref20_Check_wv (K : Res → List Cell → Prop) : ∀ v : valsA quoinref20_Check_A, runF tb (getG quoinref20_Check_G) [] Try.f13 [true] (mkA quoinref20_Check_A v) K = quoinref20_Check_raw v.1 v.2.1 K
  | (base0, y1, ()) => quoinref20_Check_walk base0 y1 K
set_option maxRecDepth 20000 in
theorem quoinref20_Check_ok : AppOk Try.prog 13 quoinref20_Check_S :=
  AppOk.specW (spec_ok (runF_ok tb_M tb_ok quoinref20_Check_Gok (LabsOk.nil) (f := 13) (fn := Try.f13) (by kernel_rfl) (by kernel_rfl) (by kernel_rfl) [true]) fun v K hw h => (quoinref20_Check_wv K v).mpr (quoinref20_Check_sp v.1 v.2.1 K hw h))

end Go.VE
namespace Go.VE
open Go Go.Proofs
/-! ### quoin/quoinref20.Begin -/
def quoinref20_Begin_G : List (Nat × App) := []
theorem quoinref20_Begin_Gok : GOk Try.prog (getG quoinref20_Begin_G) := GOk.nil
def quoinref20_Begin_raw (kind0 : Int) (at1 : Int) (count2 : Int) (K : Res → List Cell → Prop) : Prop :=
  K (.one (.v (.st (.pair (.int .u8) (.pair (.int .i64) (.pair (.sl (.int .u8)) (.pair (.int .i64) (.int .i64)))))) (kind0, at1, ([] : List Int), (0 : Int), count2))) []
def quoinref20_Begin_A : List AS := [.v (.int .u8), .v (.int .i64), .v (.int .i64)]
theorem quoinref20_Begin_walk (kind0 : Int) (at1 : Int) (count2 : Int) (K : Res → List Cell → Prop) : runF tb (getG quoinref20_Begin_G) [] Try.f11 [true] (mkA quoinref20_Begin_A (kind0, at1, count2, ())) K = quoinref20_Begin_raw kind0 at1 count2 K := by kernel_rfl

def quoinref20_Begin_F (kind0 : Int) (at1 : Int) (count2 : Int) : (Int × Int × List Int × Int × Int) :=
  (kind0, at1, ([] : List Int), (0 : Int), count2)
set_option maxRecDepth 20000 in
theorem quoinref20_Begin_sp (kind0 : Int) (at1 : Int) (count2 : Int) (K : Res → List Cell → Prop) (_ : wfA quoinref20_Begin_A (kind0, at1, count2, ())) (h : ∀ r : (Int × Int × List Int × Int × Int), r = quoinref20_Begin_F kind0 at1 count2 → K (.one (.v (.st (.pair (.int .u8) (.pair (.int .i64) (.pair (.sl (.int .u8)) (.pair (.int .i64) (.int .i64)))))) r)) []) : quoinref20_Begin_raw kind0 at1 count2 K := by
  unfold quoinref20_Begin_raw
  exact h _ rfl
def quoinref20_Begin_C (v : valsA quoinref20_Begin_A) (K : Res → List Cell → Prop) : Prop := ∀ r : (Int × Int × List Int × Int × Int), r = quoinref20_Begin_F v.1 v.2.1 v.2.2.1 → K (.one (.v (.st (.pair (.int .u8) (.pair (.int .i64) (.pair (.sl (.int .u8)) (.pair (.int .i64) (.int .i64)))))) r)) []
def quoinref20_Begin_S : App := specW quoinref20_Begin_A quoinref20_Begin_C
theorem quoinref20_Begin_wv (K : Res → List Cell → Prop) : ∀ v : valsA quoinref20_Begin_A, runF tb (getG quoinref20_Begin_G) [] Try.f11 [true] (mkA quoinref20_Begin_A v) K = quoinref20_Begin_raw v.1 v.2.1 v.2.2.1 K
  | (kind0, at1, count2, ()) => quoinref20_Begin_walk kind0 at1 count2 K
set_option maxRecDepth 20000 in
theorem quoinref20_Begin_ok : AppOk Try.prog 11 quoinref20_Begin_S :=
  AppOk.specW (spec_ok (runF_ok tb_M tb_ok quoinref20_Begin_Gok (LabsOk.nil) (f := 11) (fn := Try.f11) (by kernel_rfl) (by kernel_rfl) (by kernel_rfl) [true]) fun v K hw h => (quoinref20_Begin_wv K v).mpr (quoinref20_Begin_sp v.1 v.2.1 v.2.2.1 K hw h))

end Go.VE
namespace Go.VE
open Go Go.Proofs
/-! ### quoin/quoinref20.put -/
def quoinref20_put_G : List (Nat × App) := []
theorem quoinref20_put_Gok : GOk Try.prog (getG quoinref20_put_G) := GOk.nil
def quoinref20_put_raw (base0 : List Int) (at1 : Int) (under2 : Int) (p3 : List Int) (K : Res → List Cell → Prop) : Prop :=
  bif decide (0 ≤ at1 ∧ at1 ≤ (List.length base0 : Int)) then
  bif decide (List.length ([] : List Int) + List.length (List.take (Int.toNat at1) base0) ≤ lim) then
  bif decide (List.length (([] : List Int) ++ (List.take (Int.toNat at1) base0)) + List.length p3 ≤ lim) then
  bif decide (0 ≤ (IntKind.wrap .i64 (at1 + under2)) ∧ (IntKind.wrap .i64 (at1 + under2)) ≤ (List.length base0 : Int)) then
  bif decide (List.length ((([] : List Int) ++ (List.take (Int.toNat at1) base0)) ++ p3) + List.length (List.drop (Int.toNat (IntKind.wrap .i64 (at1 + under2))) base0) ≤ lim) then
  K (.one (.fr 5 (.int .u8) (((([] : List Int) ++ (List.take (Int.toNat at1) base0)) ++ p3) ++ (List.drop (Int.toNat (IntKind.wrap .i64 (at1 + under2))) base0)))) []
  else False
  else False
  else False
  else False
  else False
def quoinref20_put_A : List AS := [.v (.sl (.int .u8)), .v (.int .i64), .v (.int .i64), .v (.sl (.int .u8))]
theorem quoinref20_put_walk (base0 : List Int) (at1 : Int) (under2 : Int) (p3 : List Int) (K : Res → List Cell → Prop) : runF tb (getG quoinref20_put_G) [] Try.f32 [true] (mkA quoinref20_put_A (base0, at1, under2, p3, ())) K = quoinref20_put_raw base0 at1 under2 p3 K := by kernel_rfl

def quoinref20_put_P (base0 : List Int) (at1 : Int) (under2 : Int) (p3 : List Int) : Prop :=
  (0 ≤ at1 ∧ at1 ≤ (List.length base0 : Int)) ∧ (
  (List.length ([] : List Int) + List.length (List.take (Int.toNat at1) base0) ≤ lim) ∧ (
  (List.length (([] : List Int) ++ (List.take (Int.toNat at1) base0)) + List.length p3 ≤ lim) ∧ (
  (0 ≤ (IntKind.wrap .i64 (at1 + under2)) ∧ (IntKind.wrap .i64 (at1 + under2)) ≤ (List.length base0 : Int)) ∧ (
  (List.length ((([] : List Int) ++ (List.take (Int.toNat at1) base0)) ++ p3) + List.length (List.drop (Int.toNat (IntKind.wrap .i64 (at1 + under2))) base0) ≤ lim)))))
def quoinref20_put_F (base0 : List Int) (at1 : Int) (under2 : Int) (p3 : List Int) : List Int :=
  (((([] : List Int) ++ (List.take (Int.toNat at1) base0)) ++ p3) ++ (List.drop (Int.toNat (IntKind.wrap .i64 (at1 + under2))) base0))
set_option maxRecDepth 20000 in
theorem quoinref20_put_sp (base0 : List Int) (at1 : Int) (under2 : Int) (p3 : List Int) (K : Res → List Cell → Prop) (_ : wfA quoinref20_put_A (base0, at1, under2, p3, ())) (hp : quoinref20_put_P base0 at1 under2 p3) (h : ∀ r : List Int, r = quoinref20_put_F base0 at1 under2 p3 → K (.one (.fr 5 (.int .u8) r)) []) : quoinref20_put_raw base0 at1 under2 p3 K := by
  unfold quoinref20_put_raw
  unfold quoinref20_put_P at hp
  refine asrt hp.1 ?_
  replace hp := hp.2
  refine asrt hp.1 ?_
  replace hp := hp.2
  refine asrt hp.1 ?_
  replace hp := hp.2
  refine asrt hp.1 ?_
  replace hp := hp.2
  refine asrt hp ?_
  exact h _ rfl
def quoinref20_put_C (v : valsA quoinref20_put_A) (K : Res → List Cell → Prop) : Prop := quoinref20_put_P v.1 v.2.1 v.2.2.1 v.2.2.2.1 ∧ ∀ r : List Int, r = quoinref20_put_F v.1 v.2.1 v.2.2.1 v.2.2.2.1 → K (.one (.fr 5 (.int .u8) r)) []
def quoinref20_put_S : App := specW quoinref20_put_A quoinref20_put_C
theorem quoinref20_put_wv (K : Res → List Cell → Prop) : ∀ v : valsA quoinref20_put_A, runF tb (getG quoinref20_put_G) [] Try.f32 [true] (mkA quoinref20_put_A v) K = quoinref20_put_raw v.1 v.2.1 v.2.2.1 v.2.2.2.1 K
  | (base0, at1, under2, p3, ()) => quoinref20_put_walk base0 at1 under2 p3 K
set_option maxRecDepth 20000 in
theorem quoinref20_put_ok : AppOk Try.prog 32 quoinref20_put_S :=
  AppOk.specW (spec_ok (runF_ok tb_M tb_ok quoinref20_put_Gok (LabsOk.nil) (f := 32) (fn := Try.f32) (by kernel_rfl) (by kernel_rfl) (by kernel_rfl) [true]) fun v K hw h => (quoinref20_put_wv K v).mpr (quoinref20_put_sp v.1 v.2.1 v.2.2.1 v.2.2.2.1 K hw h.1 h.2))

end Go.VE
namespace Go.VE
open Go Go.Proofs
/-! ### quoin/quoinref20.Show -/
def quoinref20_Show_G : List (Nat × App) := [(23, quoinref20_fits_S), (32, quoinref20_put_S)]
theorem quoinref20_Show_Gok : GOk Try.prog (getG quoinref20_Show_G) := GOk.cons quoinref20_fits_ok (GOk.cons quoinref20_put_ok (GOk.nil))
def quoinref20_Show_raw (base0 : List Int) (y1 : (Int × Int × List Int × Int × Int)) (K : Res → List Cell → Prop) : Prop :=
  ∀ (r1 : Bool), r1 = quoinref20_fits_F base0 y1 → (
  wfR (.one (.v (.bool) r1)) → (
  bif (!r1) then
    bif decide (List.length ([] : List Int) + List.length base0 ≤ lim) then
    K (.tup [.fr 5 (.int .u8) (([] : List Int) ++ base0), .v (.int .i64) (0 : Int)]) []
    else False
  else
    quoinref20_put_P base0 y1.2.1 y1.2.2.2.1 y1.2.2.1 ∧ (
    ∀ (r2 : List Int), r2 = quoinref20_put_F base0 y1.2.1 y1.2.2.2.1 y1.2.2.1 → (
    wfR (.one (.fr 5 (.int .u8) r2)) → (
    K (.tup [.fr 5 (.int .u8) r2, .v (.int .i64) (IntKind.wrap .i64 (y1.2.1 + (List.length y1.2.2.1 : Int)))]) [])))))
def quoinref20_Show_A : List AS := [.v (.sl (.int .u8)), .v (.st (.pair (.int .u8) (.pair (.int .i64) (.pair (.sl (.int .u8)) (.pair (.int .i64) (.int .i64))))))]
theorem quoinref20_Show_walk (base0 : List Int) (y1 : (Int × Int × List Int × Int × Int)) (K : Res → List Cell → Prop) : runF tb (getG quoinref20_Show_G) [] Try.f16 [true, true] (mkA quoinref20_Show_A (base0, y1, ())) K = quoinref20_Show_raw base0 y1 K := by kernel_rfl

def quoinref20_Show_P (base0 : List Int) (y1 : (Int × Int × List Int × Int × Int)) : Prop :=
  let r1 : Bool := quoinref20_fits_F base0 y1
  bif (!r1) then
    (List.length ([] : List Int) + List.length base0 ≤ lim)
  else
    quoinref20_put_P base0 y1.2.1 y1.2.2.2.1 y1.2.2.1
def quoinref20_Show_F (base0 : List Int) (y1 : (Int × Int × List Int × Int × Int)) : List Int × Int :=
  let r1 : Bool := quoinref20_fits_F base0 y1
  bif (!r1) then
    ((([] : List Int) ++ base0), (0 : Int))
  else
    let r2 : List Int := quoinref20_put_F base0 y1.2.1 y1.2.2.2.1 y1.2.2.1
    (r2, (IntKind.wrap .i64 (y1.2.1 + (List.length y1.2.2.1 : Int))))
set_option maxRecDepth 20000 in
theorem quoinref20_Show_sp (base0 : List Int) (y1 : (Int × Int × List Int × Int × Int)) (K : Res → List Cell → Prop) (_ : wfA quoinref20_Show_A (base0, y1, ())) (hp : quoinref20_Show_P base0 y1) (h : ∀ r : List Int × Int, r = quoinref20_Show_F base0 y1 → K (.tup [.fr 5 (.int .u8) r.1, .v (.int .i64) r.2]) []) : quoinref20_Show_raw base0 y1 K := by
  unfold quoinref20_Show_raw
  unfold quoinref20_Show_P at hp
  intro r1 hr1
  subst hr1
  intro _
  refine brb (fun c1 => ?_) (fun c1 => ?_)
  ·
    replace hp := cT c1 hp
    refine asrt hp ?_
    have e := h _ ((ctrue c1) : quoinref20_Show_F base0 y1 = _).symm
    exact e
  ·
    replace hp := cF c1 hp
    refine ⟨hp, ?_⟩
    intro r2 hr2
    subst hr2
    intro _
    have e := h _ ((cfalse c1) : quoinref20_Show_F base0 y1 = _).symm
    exact e
def quoinref20_Show_C (v : valsA quoinref20_Show_A) (K : Res → List Cell → Prop) : Prop := quoinref20_Show_P v.1 v.2.1 ∧ ∀ r : List Int × Int, r = quoinref20_Show_F v.1 v.2.1 → K (.tup [.fr 5 (.int .u8) r.1, .v (.int .i64) r.2]) []
def quoinref20_Show_S : App := specW quoinref20_Show_A quoinref20_Show_C
theorem quoinref20_Show_wv (K : Res → List Cell → Prop) : ∀ v : valsA quoinref20_Show_A, runF tb (getG quoinref20_Show_G) [] Try.f16 [true, true] (mkA quoinref20_Show_A v) K = quoinref20_Show_raw v.1 v.2.1 K
  | (base0, y1, ()) => quoinref20_Show_walk base0 y1 K
set_option maxRecDepth 20000 in
theorem quoinref20_Show_ok : AppOk Try.prog 16 quoinref20_Show_S :=
  AppOk.specW (spec_ok (runF_ok tb_M tb_ok quoinref20_Show_Gok (LabsOk.nil) (f := 16) (fn := Try.f16) (by kernel_rfl) (by kernel_rfl) (by kernel_rfl) [true, true]) fun v K hw h => (quoinref20_Show_wv K v).mpr (quoinref20_Show_sp v.1 v.2.1 K hw h.1 h.2))

end Go.VE
namespace Go.VE
open Go Go.Proofs
/-! ### quoin/typing.Finish$1 -/
def typing_Finish_1_G : List (Nat × App) := [(38, lines_Of_S), (39, lines_End_S)]
theorem typing_Finish_1_Gok : GOk Try.prog (getG typing_Finish_1_G) := GOk.cons lines_Of_ok (GOk.cons lines_End_ok (GOk.nil))
def typing_Finish_1_raw (n0 : Int) (x1 : (Int × Int × List Int × Int × Int)) (x2 : List Int) (x3 : Int) (K : Res → List Cell → Prop) : Prop :=
  bif (decide (x1.1 = (105 : Int))) then
    K (.one (.v (.int .i64) (0 : Int))) [⟨.st (.pair (.int .u8) (.pair (.int .i64) (.pair (.sl (.int .u8)) (.pair (.int .i64) (.int .i64))))), x1⟩, ⟨.sl (.int .u8), x2⟩, ⟨.int .i64, x3⟩]
  else
    lines_Of_P x2 x1.2.1 ∧ (
    ∀ (r1 : Int × Int), r1 = lines_Of_F x2 x1.2.1 → (
    wfR (.tup [.v (.int .i64) r1.1, .v (.int .i64) r1.2]) → (
    lines_End_P x2 r1.1 ∧ (
    ∀ (r2 : Int × Int), r2 = lines_End_F x2 r1.1 → (
    wfR (.tup [.v (.int .i64) r2.1, .v (.int .i64) r2.2]) → (
    K (.one (.v (.int .i64) (mn (IntKind.wrap .i64 (n0 * x3)) (IntKind.wrap .i64 (r2.1 - x1.2.1))))) [⟨.st (.pair (.int .u8) (.pair (.int .i64) (.pair (.sl (.int .u8)) (.pair (.int .i64) (.int .i64))))), x1⟩, ⟨.sl (.int .u8), x2⟩, ⟨.int .i64, x3⟩]))))))
def typing_Finish_1_A : List AS := [.v (.int .i64), .r (.st (.pair (.int .u8) (.pair (.int .i64) (.pair (.sl (.int .u8)) (.pair (.int .i64) (.int .i64)))))), .r (.sl (.int .u8)), .r (.int .i64)]
theorem typing_Finish_1_walk (n0 : Int) (x1 : (Int × Int × List Int × Int × Int)) (x2 : List Int) (x3 : Int) (K : Res → List Cell → Prop) : runF tb (getG typing_Finish_1_G) [] Try.f37 [true] (mkA typing_Finish_1_A (n0, x1, x2, x3, ())) K = typing_Finish_1_raw n0 x1 x2 x3 K := by kernel_rfl

def typing_Finish_1_P (n0 : Int) (x1 : (Int × Int × List Int × Int × Int)) (x2 : List Int) (x3 : Int) : Prop :=
  bif (decide (x1.1 = (105 : Int))) then
    True
  else
    lines_Of_P x2 x1.2.1 ∧ (
    let r1 : Int × Int := lines_Of_F x2 x1.2.1
    lines_End_P x2 r1.1)
def typing_Finish_1_F (n0 : Int) (x1 : (Int × Int × List Int × Int × Int)) (x2 : List Int) (x3 : Int) : Int :=
  bif (decide (x1.1 = (105 : Int))) then
    (0 : Int)
  else
    let r1 : Int × Int := lines_Of_F x2 x1.2.1
    let r2 : Int × Int := lines_End_F x2 r1.1
    (mn (IntKind.wrap .i64 (n0 * x3)) (IntKind.wrap .i64 (r2.1 - x1.2.1)))
set_option maxRecDepth 20000 in
theorem typing_Finish_1_sp (n0 : Int) (x1 : (Int × Int × List Int × Int × Int)) (x2 : List Int) (x3 : Int) (K : Res → List Cell → Prop) (_ : wfA typing_Finish_1_A (n0, x1, x2, x3, ())) (hp : typing_Finish_1_P n0 x1 x2 x3) (h : ∀ r : Int, r = typing_Finish_1_F n0 x1 x2 x3 → K (.one (.v (.int .i64) r)) [⟨.st (.pair (.int .u8) (.pair (.int .i64) (.pair (.sl (.int .u8)) (.pair (.int .i64) (.int .i64))))), x1⟩, ⟨.sl (.int .u8), x2⟩, ⟨.int .i64, x3⟩]) : typing_Finish_1_raw n0 x1 x2 x3 K := by
  unfold typing_Finish_1_raw
  unfold typing_Finish_1_P at hp
  refine brb (fun c1 => ?_) (fun c1 => ?_)
  ·
    clear hp
    exact h _ ((ctrue c1) : typing_Finish_1_F n0 x1 x2 x3 = _).symm
  ·
    replace hp := cF c1 hp
    refine ⟨hp.1, ?_⟩
    replace hp := hp.2
    intro r1 hr1
    subst hr1
    intro _
    refine ⟨hp, ?_⟩
    intro r2 hr2
    subst hr2
    intro _
    exact h _ ((cfalse c1) : typing_Finish_1_F n0 x1 x2 x3 = _).symm
def typing_Finish_1_C (v : valsA typing_Finish_1_A) (K : Res → List Cell → Prop) : Prop := typing_Finish_1_P v.1 v.2.1 v.2.2.1 v.2.2.2.1 ∧ ∀ r : Int, r = typing_Finish_1_F v.1 v.2.1 v.2.2.1 v.2.2.2.1 → K (.one (.v (.int .i64) r)) [⟨.st (.pair (.int .u8) (.pair (.int .i64) (.pair (.sl (.int .u8)) (.pair (.int .i64) (.int .i64))))), v.2.1⟩, ⟨.sl (.int .u8), v.2.2.1⟩, ⟨.int .i64, v.2.2.2.1⟩]
def typing_Finish_1_S : App := specW typing_Finish_1_A typing_Finish_1_C
theorem typing_Finish_1_wv (K : Res → List Cell → Prop) : ∀ v : valsA typing_Finish_1_A, runF tb (getG typing_Finish_1_G) [] Try.f37 [true] (mkA typing_Finish_1_A v) K = typing_Finish_1_raw v.1 v.2.1 v.2.2.1 v.2.2.2.1 K
  | (n0, x1, x2, x3, ()) => typing_Finish_1_walk n0 x1 x2 x3 K
set_option maxRecDepth 20000 in
theorem typing_Finish_1_ok : AppOk Try.prog 37 typing_Finish_1_S :=
  AppOk.specW (spec_ok (runF_ok tb_M tb_ok typing_Finish_1_Gok (LabsOk.nil) (f := 37) (fn := Try.f37) (by kernel_rfl) (by kernel_rfl) (by kernel_rfl) [true]) fun v K hw h => (typing_Finish_1_wv K v).mpr (typing_Finish_1_sp v.1 v.2.1 v.2.2.1 v.2.2.2.1 K hw h.1 h.2))

end Go.VE
namespace Go.VE
open Go Go.Proofs
/-! ### math/bits.Mul64 -/
def math_bits_Mul64_G : List (Nat × App) := []
theorem math_bits_Mul64_Gok : GOk Try.prog (getG math_bits_Mul64_G) := GOk.nil
def math_bits_Mul64_raw (x0 : Int) (y1 : Int) (K : Res → List Cell → Prop) : Prop :=
  K (.tup [.v (.int .u64) (IntKind.wrap .u64 ((IntKind.wrap .u64 ((IntKind.wrap .u64 ((Int.fdiv x0 (2 ^ (min (Int.toNat (32 : Int)) (IntKind.bits .u64)))) * (Int.fdiv y1 (2 ^ (min (Int.toNat (32 : Int)) (IntKind.bits .u64)))))) + (Int.fdiv (IntKind.wrap .u64 ((IntKind.wrap .u64 ((Int.fdiv x0 (2 ^ (min (Int.toNat (32 : Int)) (IntKind.bits .u64)))) * (ibits .and .u64 y1 (4294967295 : Int)))) + (Int.fdiv (IntKind.wrap .u64 ((ibits .and .u64 x0 (4294967295 : Int)) * (ibits .and .u64 y1 (4294967295 : Int)))) (2 ^ (min (Int.toNat (32 : Int)) (IntKind.bits .u64)))))) (2 ^ (min (Int.toNat (32 : Int)) (IntKind.bits .u64)))))) + (Int.fdiv (IntKind.wrap .u64 ((ibits .and .u64 (IntKind.wrap .u64 ((IntKind.wrap .u64 ((Int.fdiv x0 (2 ^ (min (Int.toNat (32 : Int)) (IntKind.bits .u64)))) * (ibits .and .u64 y1 (4294967295 : Int)))) + (Int.fdiv (IntKind.wrap .u64 ((ibits .and .u64 x0 (4294967295 : Int)) * (ibits .and .u64 y1 (4294967295 : Int)))) (2 ^ (min (Int.toNat (32 : Int)) (IntKind.bits .u64)))))) (4294967295 : Int)) + (IntKind.wrap .u64 ((ibits .and .u64 x0 (4294967295 : Int)) * (Int.fdiv y1 (2 ^ (min (Int.toNat (32 : Int)) (IntKind.bits .u64)))))))) (2 ^ (min (Int.toNat (32 : Int)) (IntKind.bits .u64)))))), .v (.int .u64) (IntKind.wrap .u64 (x0 * y1))]) []
def math_bits_Mul64_A : List AS := [.v (.int .u64), .v (.int .u64)]
theorem math_bits_Mul64_walk (x0 : Int) (y1 : Int) (K : Res → List Cell → Prop) : runF tb (getG math_bits_Mul64_G) [] Try.f66 [true, true] (mkA math_bits_Mul64_A (x0, y1, ())) K = math_bits_Mul64_raw x0 y1 K := by kernel_rfl

def math_bits_Mul64_F (x0 : Int) (y1 : Int) : Int × Int :=
  ((IntKind.wrap .u64 ((IntKind.wrap .u64 ((IntKind.wrap .u64 ((Int.fdiv x0 (2 ^ (min (Int.toNat (32 : Int)) (IntKind.bits .u64)))) * (Int.fdiv y1 (2 ^ (min (Int.toNat (32 : Int)) (IntKind.bits .u64)))))) + (Int.fdiv (IntKind.wrap .u64 ((IntKind.wrap .u64 ((Int.fdiv x0 (2 ^ (min (Int.toNat (32 : Int)) (IntKind.bits .u64)))) * (ibits .and .u64 y1 (4294967295 : Int)))) + (Int.fdiv (IntKind.wrap .u64 ((ibits .and .u64 x0 (4294967295 : Int)) * (ibits .and .u64 y1 (4294967295 : Int)))) (2 ^ (min (Int.toNat (32 : Int)) (IntKind.bits .u64)))))) (2 ^ (min (Int.toNat (32 : Int)) (IntKind.bits .u64)))))) + (Int.fdiv (IntKind.wrap .u64 ((ibits .and .u64 (IntKind.wrap .u64 ((IntKind.wrap .u64 ((Int.fdiv x0 (2 ^ (min (Int.toNat (32 : Int)) (IntKind.bits .u64)))) * (ibits .and .u64 y1 (4294967295 : Int)))) + (Int.fdiv (IntKind.wrap .u64 ((ibits .and .u64 x0 (4294967295 : Int)) * (ibits .and .u64 y1 (4294967295 : Int)))) (2 ^ (min (Int.toNat (32 : Int)) (IntKind.bits .u64)))))) (4294967295 : Int)) + (IntKind.wrap .u64 ((ibits .and .u64 x0 (4294967295 : Int)) * (Int.fdiv y1 (2 ^ (min (Int.toNat (32 : Int)) (IntKind.bits .u64)))))))) (2 ^ (min (Int.toNat (32 : Int)) (IntKind.bits .u64)))))), (IntKind.wrap .u64 (x0 * y1)))
set_option maxRecDepth 20000 in
theorem math_bits_Mul64_sp (x0 : Int) (y1 : Int) (K : Res → List Cell → Prop) (_ : wfA math_bits_Mul64_A (x0, y1, ())) (h : ∀ r : Int × Int, r = math_bits_Mul64_F x0 y1 → K (.tup [.v (.int .u64) r.1, .v (.int .u64) r.2]) []) : math_bits_Mul64_raw x0 y1 K := by
  unfold math_bits_Mul64_raw
  exact h _ rfl
def math_bits_Mul64_C (v : valsA math_bits_Mul64_A) (K : Res → List Cell → Prop) : Prop := ∀ r : Int × Int, r = math_bits_Mul64_F v.1 v.2.1 → K (.tup [.v (.int .u64) r.1, .v (.int .u64) r.2]) []
def math_bits_Mul64_S : App := specW math_bits_Mul64_A math_bits_Mul64_C
theorem math_bits_Mul64_wv (K : Res → List Cell → Prop) : ∀ v : valsA math_bits_Mul64_A, runF tb (getG math_bits_Mul64_G) [] Try.f66 [true, true] (mkA math_bits_Mul64_A v) K = math_bits_Mul64_raw v.1 v.2.1 K
  | (x0, y1, ()) => math_bits_Mul64_walk x0 y1 K
set_option maxRecDepth 20000 in
theorem math_bits_Mul64_ok : AppOk Try.prog 66 math_bits_Mul64_S :=
  AppOk.specW (spec_ok (runF_ok tb_M tb_ok math_bits_Mul64_Gok (LabsOk.nil) (f := 66) (fn := Try.f66) (by kernel_rfl) (by kernel_rfl) (by kernel_rfl) [true, true]) fun v K hw h => (math_bits_Mul64_wv K v).mpr (math_bits_Mul64_sp v.1 v.2.1 K hw h))
theorem and_mask {a : Int} (h0 : 0 ≤ a) (h1 : a < 18446744073709551616) : ibits .and .u64 a (4294967295 : Int) = a % 4294967296 := by
  obtain ⟨n, rfl⟩ := Int.eq_ofNat_of_zero_le h0
  have hn : n < 18446744073709551616 := by omega
  have e : (BitVec.ofInt 64 (n : Int) &&& BitVec.ofInt 64 4294967295).toNat = n % 4294967296 := by
    rw [BitVec.toNat_and]
    have e1 : (BitVec.ofInt 64 (n : Int)).toNat = n := by rw [BitVec.ofInt_natCast, BitVec.toNat_ofNat]; exact Nat.mod_eq_of_lt hn
    have e2 : (BitVec.ofInt 64 4294967295).toNat = 2 ^ 32 - 1 := by decide
    rw [e1, e2, Nat.and_two_pow_sub_one_eq_mod]
  show IntKind.wrap .u64 ((BitVec.ofInt 64 (n : Int) &&& BitVec.ofInt 64 4294967295).toNat : Int) = _
  rw [e, wrap_u64 (by omega) (by omega)]
  omega
theorem shr32 (a : Int) : Int.fdiv a (2 ^ (min (Int.toNat (32 : Int)) (IntKind.bits .u64))) = a / 4294967296 := by
  have e : (2 ^ (min (Int.toNat (32 : Int)) (IntKind.bits .u64)) : Int) = 4294967296 := by decide
  rw [e, Int.fdiv_eq_ediv_of_nonneg _ (by omega)]
theorem mul_small {a b : Int} (ha : 0 ≤ a) (ha' : a < 4294967296) (hb : 0 ≤ b) (hb' : b < 4294967296) : math_bits_Mul64_F a b = (0, a * b) := by
  have hab : 0 ≤ a * b := Int.mul_nonneg ha hb
  have hab' : a * b ≤ 4294967295 * 4294967295 := Int.le_trans (Int.mul_le_mul_of_nonneg_right (by omega) hb) (Int.mul_le_mul_of_nonneg_left (by omega) (by omega))
  unfold math_bits_Mul64_F
  simp only [shr32]
  have e1 : a / 4294967296 = 0 := by omega
  have e2 : b / 4294967296 = 0 := by omega
  have e3 : ibits .and .u64 a (4294967295 : Int) = a := by rw [and_mask ha (by omega)]; omega
  have e4 : ibits .and .u64 b (4294967295 : Int) = b := by rw [and_mask hb (by omega)]; omega
  rw [e1, e2, e3, e4, wrap_u64 (n := a * b) hab (by omega)]
  have e5 : IntKind.wrap .u64 (0 * b) = 0 := by rw [Int.zero_mul]; exact wrap_u64 (by omega) (by omega)
  have e6 : IntKind.wrap .u64 (a * 0) = 0 := by rw [Int.mul_zero]; exact wrap_u64 (by omega) (by omega)
  have e7 : IntKind.wrap .u64 (0 * 0) = 0 := by rw [Int.mul_zero]; exact wrap_u64 (by omega) (by omega)
  rw [e5, e6, e7]
  simp only [Int.zero_add, Int.add_zero]
  rw [wrap_u64 (n := a * b / 4294967296) (by omega) (by omega), and_mask (by omega) (by omega)]
  have e8 : a * b / 4294967296 / 4294967296 = 0 := by omega
  have e9 : a * b / 4294967296 % 4294967296 / 4294967296 = 0 := by omega
  rw [e8, wrap_u64 (n := a * b / 4294967296 % 4294967296) (by omega) (by omega), wrap_u64 (n := (0 : Int)) (by omega) (by omega), e9, wrap_u64 (by omega) (by omega)]
  rfl

end Go.VE
namespace Go.VE
open Go Go.Proofs
/-! ### math/bits.Mul -/
def math_bits_Mul_G : List (Nat × App) := [(66, math_bits_Mul64_S)]
theorem math_bits_Mul_Gok : GOk Try.prog (getG math_bits_Mul_G) := GOk.cons math_bits_Mul64_ok (GOk.nil)
def math_bits_Mul_raw (x0 : Int) (y1 : Int) (K : Res → List Cell → Prop) : Prop :=
  ∀ (r1 : Int × Int), r1 = math_bits_Mul64_F x0 y1 → (
  wfR (.tup [.v (.int .u64) r1.1, .v (.int .u64) r1.2]) → (
  K (.tup [.v (.int .u64) r1.1, .v (.int .u64) r1.2]) []))
def math_bits_Mul_A : List AS := [.v (.int .u64), .v (.int .u64)]
theorem math_bits_Mul_walk (x0 : Int) (y1 : Int) (K : Res → List Cell → Prop) : runF tb (getG math_bits_Mul_G) [] Try.f54 [true, true] (mkA math_bits_Mul_A (x0, y1, ())) K = math_bits_Mul_raw x0 y1 K := by kernel_rfl

def math_bits_Mul_F (x0 : Int) (y1 : Int) : Int × Int :=
  let r1 : Int × Int := math_bits_Mul64_F x0 y1
  (r1.1, r1.2)
set_option maxRecDepth 20000 in
theorem math_bits_Mul_sp (x0 : Int) (y1 : Int) (K : Res → List Cell → Prop) (_ : wfA math_bits_Mul_A (x0, y1, ())) (h : ∀ r : Int × Int, r = math_bits_Mul_F x0 y1 → K (.tup [.v (.int .u64) r.1, .v (.int .u64) r.2]) []) : math_bits_Mul_raw x0 y1 K := by
  unfold math_bits_Mul_raw
  intro r1 hr1
  subst hr1
  intro _
  exact h _ rfl
def math_bits_Mul_C (v : valsA math_bits_Mul_A) (K : Res → List Cell → Prop) : Prop := ∀ r : Int × Int, r = math_bits_Mul_F v.1 v.2.1 → K (.tup [.v (.int .u64) r.1, .v (.int .u64) r.2]) []
def math_bits_Mul_S : App := specW math_bits_Mul_A math_bits_Mul_C
theorem math_bits_Mul_wv (K : Res → List Cell → Prop) : ∀ v : valsA math_bits_Mul_A, runF tb (getG math_bits_Mul_G) [] Try.f54 [true, true] (mkA math_bits_Mul_A v) K = math_bits_Mul_raw v.1 v.2.1 K
  | (x0, y1, ()) => math_bits_Mul_walk x0 y1 K
set_option maxRecDepth 20000 in
theorem math_bits_Mul_ok : AppOk Try.prog 54 math_bits_Mul_S :=
  AppOk.specW (spec_ok (runF_ok tb_M tb_ok math_bits_Mul_Gok (LabsOk.nil) (f := 54) (fn := Try.f54) (by kernel_rfl) (by kernel_rfl) (by kernel_rfl) [true, true]) fun v K hw h => (math_bits_Mul_wv K v).mpr (math_bits_Mul_sp v.1 v.2.1 K hw h))

end Go.VE
namespace Go.VE
open Go Go.Proofs
--! external 1
--! args I
--! res fr:B
--! pre 1
--! rel 1
--! import VEu
def internal_bytealg_MakeNoZero_P (n : Int) : Prop := room_P n
def internal_bytealg_MakeNoZero_R (n : Int) (r : List Int) : Prop := room_R n r
def internal_bytealg_MakeNoZero_S : App := specW [.v (.int .i64)] fun v K => internal_bytealg_MakeNoZero_P v.1 ∧ ∀ r : List Int, internal_bytealg_MakeNoZero_R v.1 r → K (.one (.fr 5 (.int .u8) r)) []
theorem internal_bytealg_MakeNoZero_ok : AppOk Try.prog 55 internal_bytealg_MakeNoZero_S :=
  ext_room tb_ok (t := 22) (ps := #[3]) (fn := Try.f55) rfl rfl (by kernel_rfl) (by kernel_rfl) (by kernel_rfl) (by kernel_rfl) (by kernel_rfl) rfl

end Go.VE
namespace Go.VE
open Go Go.Proofs
/-! ### bytes.Repeat -/
def bytes_Repeat_G : List (Nat × App) := [(54, math_bits_Mul_S), (55, internal_bytealg_MakeNoZero_S)]
theorem bytes_Repeat_Gok : GOk Try.prog (getG bytes_Repeat_G) := GOk.cons math_bits_Mul_ok (GOk.cons internal_bytealg_MakeNoZero_ok (GOk.nil))
theorem bytes_Repeat_st : storesC (bodyOf Try.f40) = true := by kernel_rfl
def bytes_Repeat_d0 : List LS := [.v 7 (.int .i64), .v 8 (.int .i64), .o 9 77 5 (.int .u8), .v 10 (.int .i64)]
def bytes_Repeat_d0x0 : List LS := [.o 9 77 5 (.int .u8)]
def bytes_Repeat_dx0 : DX := ⟨none, none, [(0, bytes_Repeat_d0x0)]⟩
def bytes_Repeat_T0 (Y : Int → Int → List Int → Int → Prop) (kx0 : List Int → Prop) (n7 : Int) (chunkMax8 : Int) (nb9 : List Int) (bp10 : Int) : Prop :=
  bif (decide (bp10 < n7)) then
    (
      bif decide (0 ≤ bp10 ∧ bp10 ≤ (List.length nb9 : Int)) then
      bif decide (0 ≤ (mn bp10 chunkMax8) ∧ (mn bp10 chunkMax8) ≤ (List.length nb9 : Int)) then
      Y n7 chunkMax8 (ovr (Int.toNat bp10) (List.take (List.length (List.drop (Int.toNat bp10) nb9)) (List.take (Int.toNat (mn bp10 chunkMax8)) nb9)) nb9) (IntKind.wrap .i64 (bp10 + (mn (List.length (List.take (Int.toNat (mn bp10 chunkMax8)) nb9) : Int) (List.length (List.drop (Int.toNat bp10) nb9) : Int))))
      else False
      else False) ∧ (
      bif decide (0 ≤ (mn bp10 chunkMax8) ∧ (mn bp10 chunkMax8) ≤ (List.length nb9 : Int)) then
      bif decide (0 ≤ bp10 ∧ bp10 ≤ (List.length nb9 : Int)) then
      Y n7 chunkMax8 (ovr (Int.toNat bp10) (List.take (List.length (List.drop (Int.toNat bp10) nb9)) (List.take (Int.toNat (mn bp10 chunkMax8)) nb9)) nb9) (IntKind.wrap .i64 (bp10 + (mn (List.length (List.take (Int.toNat (mn bp10 chunkMax8)) nb9) : Int) (List.length (List.drop (Int.toNat bp10) nb9) : Int))))
      else False
      else False) ∧ True
  else
    kx0 nb9
def bytes_Repeat_L0 (kx0 : List Int → Prop) : Nat → Int → Int → List Int → Int → Prop
  | 0, _, _, _, _ => False
  | n + 1, n7, chunkMax8, nb9, bp10 => wfD bytes_Repeat_d0 (n7, chunkMax8, nb9, bp10, ()) → bytes_Repeat_T0 (bytes_Repeat_L0 kx0 n) kx0 n7 chunkMax8 nb9 bp10
theorem bytes_Repeat_s0 (k : Ex → St → Prop) (Y : vals bytes_Repeat_d0 → Prop) (n7 : Int) (chunkMax8 : Int) (nb9 : List Int) (bp10 : Int) :
    ex tb (getG bytes_Repeat_G) [] (at' (bodyOf Try.f40) [0, 0, 0, 1, 1, 1, 1, 1, 1, 1, 1, 1, 1, 1]) [0, 0, 0, 1, 1, 1, 1, 1, 1, 1, 1, 1, 1, 1] (mkD 77 bytes_Repeat_d0 (n7, chunkMax8, nb9, bp10, ())) (lpK 77 bytes_Repeat_d0 bytes_Repeat_dx0 k Y) =
    bytes_Repeat_T0 (fun n7 chunkMax8 nb9 bp10 => Y (n7, chunkMax8, nb9, bp10, ())) (fun nb9 => wfD bytes_Repeat_d0x0 (nb9, ()) → k (.exit 0) (mkD 77 bytes_Repeat_d0x0 (nb9, ()))) n7 chunkMax8 nb9 bp10 := by kernel_rfl
theorem bytes_Repeat_e0 (k : Ex → St → Prop) : ∀ (n : Nat) (n7 : Int) (chunkMax8 : Int) (nb9 : List Int) (bp10 : Int), lpD 77 bytes_Repeat_d0 bytes_Repeat_dx0 (ex tb (getG bytes_Repeat_G) [] (at' (bodyOf Try.f40) [0, 0, 0, 1, 1, 1, 1, 1, 1, 1, 1, 1, 1, 1]) [0, 0, 0, 1, 1, 1, 1, 1, 1, 1, 1, 1, 1, 1]) k n (n7, chunkMax8, nb9, bp10, ()) = bytes_Repeat_L0 (fun nb9 => wfD bytes_Repeat_d0x0 (nb9, ()) → k (.exit 0) (mkD 77 bytes_Repeat_d0x0 (nb9, ()))) n n7 chunkMax8 nb9 bp10
  | 0, _, _, _, _ => rfl
  | n + 1, n7, chunkMax8, nb9, bp10 => congrArg (fun Z : Prop => wfD bytes_Repeat_d0 (n7, chunkMax8, nb9, bp10, ()) → Z) ((bytes_Repeat_s0 k (lpD 77 bytes_Repeat_d0 bytes_Repeat_dx0 (ex tb (getG bytes_Repeat_G) [] (at' (bodyOf Try.f40) [0, 0, 0, 1, 1, 1, 1, 1, 1, 1, 1, 1, 1, 1]) [0, 0, 0, 1, 1, 1, 1, 1, 1, 1, 1, 1, 1, 1]) k n) n7 chunkMax8 nb9 bp10).trans (congrArg (fun Y => bytes_Repeat_T0 Y (fun nb9 => wfD bytes_Repeat_d0x0 (nb9, ()) → k (.exit 0) (mkD 77 bytes_Repeat_d0x0 (nb9, ()))) n7 chunkMax8 nb9 bp10) (funext fun n7 => funext fun chunkMax8 => funext fun nb9 => funext fun bp10 => bytes_Repeat_e0 k n n7 chunkMax8 nb9 bp10)))
theorem bytes_Repeat_v0 (k : Ex → St → Prop) (n : Nat) : ∀ v : vals bytes_Repeat_d0, lpD 77 bytes_Repeat_d0 bytes_Repeat_dx0 (ex tb (getG bytes_Repeat_G) [] (at' (bodyOf Try.f40) [0, 0, 0, 1, 1, 1, 1, 1, 1, 1, 1, 1, 1, 1]) [0, 0, 0, 1, 1, 1, 1, 1, 1, 1, 1, 1, 1, 1]) k n v = bytes_Repeat_L0 (fun nb9 => wfD bytes_Repeat_d0x0 (nb9, ()) → k (.exit 0) (mkD 77 bytes_Repeat_d0x0 (nb9, ()))) n v.1 v.2.1 v.2.2.1 v.2.2.2.1
  | (n7, chunkMax8, nb9, bp10, ()) => bytes_Repeat_e0 k n n7 chunkMax8 nb9 bp10
def bytes_Repeat_X0 : Pce := fun st k => ckD 77 bytes_Repeat_d0 st fun v => wfD bytes_Repeat_d0 v → ∃ n, bytes_Repeat_L0 (fun nb9 => wfD bytes_Repeat_d0x0 (nb9, ()) → k (.exit 0) (mkD 77 bytes_Repeat_d0x0 (nb9, ()))) n v.1 v.2.1 v.2.2.1 v.2.2.2.1
set_option maxRecDepth 20000 in
theorem bytes_Repeat_x0 : SemOk Try.prog (at' (bodyOf Try.f40) [0, 0, 1, 1, 1, 1, 1, 1, 1, 1, 1, 1, 1]) bytes_Repeat_X0 :=
  (SemOk.loop (ex_sound tb_M tb_ok bytes_Repeat_Gok (LabsOk.nil) (at' (bodyOf Try.f40) [0, 0, 0, 1, 1, 1, 1, 1, 1, 1, 1, 1, 1, 1]) [0, 0, 0, 1, 1, 1, 1, 1, 1, 1, 1, 1, 1, 1] rfl (storesC_at bytes_Repeat_st [0, 0, 0, 1, 1, 1, 1, 1, 1, 1, 1, 1, 1, 1])) 77 bytes_Repeat_d0 bytes_Repeat_dx0).mono fun st k h => ckD_mono h fun v hv hw => (hv hw).elim fun n hn => ⟨n, Eq.mpr (bytes_Repeat_v0 k n v) hn⟩
def bytes_Repeat_B0 : Labs := ([0, 0, 1, 1, 1, 1, 1, 1, 1, 1, 1, 1, 1], bytes_Repeat_X0) :: []
theorem bytes_Repeat_b0 : LabsOk Try.prog (bodyOf Try.f40) bytes_Repeat_B0 := LabsOk.cons bytes_Repeat_x0 (LabsOk.nil)
def bytes_Repeat_d1 : List LS := [.v 0 (.sl (.int .u8)), .v 7 (.int .i64), .v 8 (.int .i64)]
def bytes_Repeat_d1r : List LS := [.o 4 37 5 (.int .u8)]
def bytes_Repeat_dx1 : DX := ⟨none, some bytes_Repeat_d1r, []⟩
def bytes_Repeat_J1 (kr : List Int → Prop) (b0 : List Int) (n7 : Int) (chunkMax8 : Int) : Prop :=
  internal_bytealg_MakeNoZero_P n7 ∧ (
  ∀ (r2 : List Int), internal_bytealg_MakeNoZero_R n7 r2 → (
  wfR (.one (.fr 5 (.int .u8) r2)) → (
  bif decide (0 ≤ n7 ∧ n7 ≤ n7 ∧ n7 ≤ (List.length r2 : Int)) then
  (wfD bytes_Repeat_d0 (n7, chunkMax8, (ovr 0 (List.take (List.length (List.take (Int.toNat n7) r2)) b0) (List.take (Int.toNat n7) r2)), (mn (List.length b0 : Int) (List.length (List.take (Int.toNat n7) r2) : Int)), ()) → ∃ n, bytes_Repeat_L0 (fun (nb9 : List Int) => wfD bytes_Repeat_d0x0 (nb9, ()) → (
      kr nb9)) n n7 chunkMax8 (ovr 0 (List.take (List.length (List.take (Int.toNat n7) r2)) b0) (List.take (Int.toNat n7) r2)) (mn (List.length b0 : Int) (List.length (List.take (Int.toNat n7) r2) : Int)))
  else False)))
theorem bytes_Repeat_s1 (k : Ex → St → Prop) (b0 : List Int) (n7 : Int) (chunkMax8 : Int) :
    ex tb (getG bytes_Repeat_G) bytes_Repeat_B0 (at' (bodyOf Try.f40) [1, 1, 1, 1, 1, 1, 1, 1, 1]) [1, 1, 1, 1, 1, 1, 1, 1, 1] (mkD 77 bytes_Repeat_d1 (b0, n7, chunkMax8, ())) (wk 77 bytes_Repeat_dx1 k) =
    bytes_Repeat_J1 (fun x4 => wfD bytes_Repeat_d1r (x4, ()) → k .ret (mkD 77 bytes_Repeat_d1r (x4, ()))) b0 n7 chunkMax8 := by kernel_rfl
theorem bytes_Repeat_v1 (k : Ex → St → Prop) : ∀ v : vals bytes_Repeat_d1, ex tb (getG bytes_Repeat_G) bytes_Repeat_B0 (at' (bodyOf Try.f40) [1, 1, 1, 1, 1, 1, 1, 1, 1]) [1, 1, 1, 1, 1, 1, 1, 1, 1] (mkD 77 bytes_Repeat_d1 v) (wk 77 bytes_Repeat_dx1 k) = bytes_Repeat_J1 (fun x4 => wfD bytes_Repeat_d1r (x4, ()) → k .ret (mkD 77 bytes_Repeat_d1r (x4, ()))) v.1 v.2.1 v.2.2.1
  | (b0, n7, chunkMax8, ()) => bytes_Repeat_s1 k b0 n7 chunkMax8
def bytes_Repeat_X1 : Pce := fun st k => ckD 77 bytes_Repeat_d1 st fun v => wfD bytes_Repeat_d1 v → bytes_Repeat_J1 (fun x4 => wfD bytes_Repeat_d1r (x4, ()) → k .ret (mkD 77 bytes_Repeat_d1r (x4, ()))) v.1 v.2.1 v.2.2.1
set_option maxRecDepth 20000 in
theorem bytes_Repeat_x1 : SemOk Try.prog (at' (bodyOf Try.f40) [1, 1, 1, 1, 1, 1, 1, 1, 1]) bytes_Repeat_X1 :=
  (SemOk.wk (N := 77) (ds := bytes_Repeat_d1) (dx := bytes_Repeat_dx1) (ex_sound tb_M tb_ok bytes_Repeat_Gok (bytes_Repeat_b0) (at' (bodyOf Try.f40) [1, 1, 1, 1, 1, 1, 1, 1, 1]) [1, 1, 1, 1, 1, 1, 1, 1, 1] rfl (storesC_at bytes_Repeat_st [1, 1, 1, 1, 1, 1, 1, 1, 1]))).mono fun st k h => ckD_mono h fun v hv hw => Eq.mpr (bytes_Repeat_v1 k v) (hv hw)
def bytes_Repeat_B1 : Labs := ([1, 1, 1, 1, 1, 1, 1, 1, 1], bytes_Repeat_X1) :: bytes_Repeat_B0
theorem bytes_Repeat_b1 : LabsOk Try.prog (bodyOf Try.f40) bytes_Repeat_B1 := LabsOk.cons bytes_Repeat_x1 (bytes_Repeat_b0)
def bytes_Repeat_d2 : List LS := [.v 0 (.sl (.int .u8)), .v 6 (.int .u64)]
def bytes_Repeat_d2r : List LS := [.o 4 37 5 (.int .u8)]
def bytes_Repeat_dx2 : DX := ⟨none, some bytes_Repeat_d2r, []⟩
def bytes_Repeat_J2 (kr : List Int → Prop) (b0 : List Int) (lo6 : Int) : Prop :=
  bif (decide ((List.length b0 : Int) = (0 : Int))) then
    kr ([] : List Int)
  else
  bif (decide ((8192 : Int) < (IntKind.wrap .i64 lo6))) then
    bif decide ((List.length b0 : Int) ≠ 0) then
    bif (decide ((IntKind.wrap .i64 ((IntKind.wrap .i64 (Int.tdiv (8192 : Int) (List.length b0 : Int))) * (List.length b0 : Int))) = (0 : Int))) then
      (wfD bytes_Repeat_d1 (b0, (IntKind.wrap .i64 lo6), (List.length b0 : Int), ()) → bytes_Repeat_J1 (fun (x4 : List Int) => wfD bytes_Repeat_d1r (x4, ()) → (
          kr x4)) b0 (IntKind.wrap .i64 lo6) (List.length b0 : Int))
    else
      (wfD bytes_Repeat_d1 (b0, (IntKind.wrap .i64 lo6), (IntKind.wrap .i64 ((IntKind.wrap .i64 (Int.tdiv (8192 : Int) (List.length b0 : Int))) * (List.length b0 : Int))), ()) → bytes_Repeat_J1 (fun (x4 : List Int) => wfD bytes_Repeat_d1r (x4, ()) → (
          kr x4)) b0 (IntKind.wrap .i64 lo6) (IntKind.wrap .i64 ((IntKind.wrap .i64 (Int.tdiv (8192 : Int) (List.length b0 : Int))) * (List.length b0 : Int))))
    else False
  else
    (wfD bytes_Repeat_d1 (b0, (IntKind.wrap .i64 lo6), (IntKind.wrap .i64 lo6), ()) → bytes_Repeat_J1 (fun (x4 : List Int) => wfD bytes_Repeat_d1r (x4, ()) → (
        kr x4)) b0 (IntKind.wrap .i64 lo6) (IntKind.wrap .i64 lo6))
theorem bytes_Repeat_s2 (k : Ex → St → Prop) (b0 : List Int) (lo6 : Int) :
    ex tb (getG bytes_Repeat_G) bytes_Repeat_B1 (at' (bodyOf Try.f40) [1, 1, 1, 1, 1]) [1, 1, 1, 1, 1] (mkD 77 bytes_Repeat_d2 (b0, lo6, ())) (wk 77 bytes_Repeat_dx2 k) =
    bytes_Repeat_J2 (fun x4 => wfD bytes_Repeat_d2r (x4, ()) → k .ret (mkD 77 bytes_Repeat_d2r (x4, ()))) b0 lo6 := by kernel_rfl
theorem bytes_Repeat_v2 (k : Ex → St → Prop) : ∀ v : vals bytes_Repeat_d2, ex tb (getG bytes_Repeat_G) bytes_Repeat_B1 (at' (bodyOf Try.f40) [1, 1, 1, 1, 1]) [1, 1, 1, 1, 1] (mkD 77 bytes_Repeat_d2 v) (wk 77 bytes_Repeat_dx2 k) = bytes_Repeat_J2 (fun x4 => wfD bytes_Repeat_d2r (x4, ()) → k .ret (mkD 77 bytes_Repeat_d2r (x4, ()))) v.1 v.2.1
  | (b0, lo6, ()) => bytes_Repeat_s2 k b0 lo6
def bytes_Repeat_X2 : Pce := fun st k => ckD 77 bytes_Repeat_d2 st fun v => wfD bytes_Repeat_d2 v → bytes_Repeat_J2 (fun x4 => wfD bytes_Repeat_d2r (x4, ()) → k .ret (mkD 77 bytes_Repeat_d2r (x4, ()))) v.1 v.2.1
set_option maxRecDepth 20000 in
theorem bytes_Repeat_x2 : SemOk Try.prog (at' (bodyOf Try.f40) [1, 1, 1, 1, 1]) bytes_Repeat_X2 :=
  (SemOk.wk (N := 77) (ds := bytes_Repeat_d2) (dx := bytes_Repeat_dx2) (ex_sound tb_M tb_ok bytes_Repeat_Gok (bytes_Repeat_b1) (at' (bodyOf Try.f40) [1, 1, 1, 1, 1]) [1, 1, 1, 1, 1] rfl (storesC_at bytes_Repeat_st [1, 1, 1, 1, 1]))).mono fun st k h => ckD_mono h fun v hv hw => Eq.mpr (bytes_Repeat_v2 k v) (hv hw)
def bytes_Repeat_B2 : Labs := ([1, 1, 1, 1, 1], bytes_Repeat_X2) :: bytes_Repeat_B1
theorem bytes_Repeat_b2 : LabsOk Try.prog (bodyOf Try.f40) bytes_Repeat_B2 := LabsOk.cons bytes_Repeat_x2 (bytes_Repeat_b1)
def bytes_Repeat_d3 : List LS := [.v 0 (.sl (.int .u8)), .v 1 (.int .i64)]
def bytes_Repeat_d3r : List LS := [.o 4 37 5 (.int .u8)]
def bytes_Repeat_dx3 : DX := ⟨none, some bytes_Repeat_d3r, []⟩
def bytes_Repeat_J3 (kr : List Int → Prop) (b0 : List Int) (count1 : Int) : Prop :=
  ∀ (r1 : Int × Int), r1 = math_bits_Mul_F (IntKind.wrap .u64 (List.length b0 : Int)) (IntKind.wrap .u64 count1) → (
  wfR (.tup [.v (.int .u64) r1.1, .v (.int .u64) r1.2]) → (
  bif (decide ((0 : Int) < r1.1)) then
    False
  else
  bif (decide ((9223372036854775807 : Int) < r1.2)) then
    False
  else
    (wfD bytes_Repeat_d2 (b0, r1.2, ()) → bytes_Repeat_J2 (fun (x4 : List Int) => wfD bytes_Repeat_d2r (x4, ()) → (
        kr x4)) b0 r1.2)))
theorem bytes_Repeat_s3 (k : Ex → St → Prop) (b0 : List Int) (count1 : Int) :
    ex tb (getG bytes_Repeat_G) bytes_Repeat_B2 (at' (bodyOf Try.f40) [1, 1, 1]) [1, 1, 1] (mkD 77 bytes_Repeat_d3 (b0, count1, ())) (wk 77 bytes_Repeat_dx3 k) =
    bytes_Repeat_J3 (fun x4 => wfD bytes_Repeat_d3r (x4, ()) → k .ret (mkD 77 bytes_Repeat_d3r (x4, ()))) b0 count1 := by kernel_rfl
theorem bytes_Repeat_v3 (k : Ex → St → Prop) : ∀ v : vals bytes_Repeat_d3, ex tb (getG bytes_Repeat_G) bytes_Repeat_B2 (at' (bodyOf Try.f40) [1, 1, 1]) [1, 1, 1] (mkD 77 bytes_Repeat_d3 v) (wk 77 bytes_Repeat_dx3 k) = bytes_Repeat_J3 (fun x4 => wfD bytes_Repeat_d3r (x4, ()) → k .ret (mkD 77 bytes_Repeat_d3r (x4, ()))) v.1 v.2.1
  | (b0, count1, ()) => bytes_Repeat_s3 k b0 count1
def bytes_Repeat_X3 : Pce := fun st k => ckD 77 bytes_Repeat_d3 st fun v => wfD bytes_Repeat_d3 v → bytes_Repeat_J3 (fun x4 => wfD bytes_Repeat_d3r (x4, ()) → k .ret (mkD 77 bytes_Repeat_d3r (x4, ()))) v.1 v.2.1
set_option maxRecDepth 20000 in
theorem bytes_Repeat_x3 : SemOk Try.prog (at' (bodyOf Try.f40) [1, 1, 1]) bytes_Repeat_X3 :=
  (SemOk.wk (N := 77) (ds := bytes_Repeat_d3) (dx := bytes_Repeat_dx3) (ex_sound tb_M tb_ok bytes_Repeat_Gok (bytes_Repeat_b2) (at' (bodyOf Try.f40) [1, 1, 1]) [1, 1, 1] rfl (storesC_at bytes_Repeat_st [1, 1, 1]))).mono fun st k h => ckD_mono h fun v hv hw => Eq.mpr (bytes_Repeat_v3 k v) (hv hw)
def bytes_Repeat_B3 : Labs := ([1, 1, 1], bytes_Repeat_X3) :: bytes_Repeat_B2
theorem bytes_Repeat_b3 : LabsOk Try.prog (bodyOf Try.f40) bytes_Repeat_B3 := LabsOk.cons bytes_Repeat_x3 (bytes_Repeat_b2)
def bytes_Repeat_raw (b0 : List Int) (count1 : Int) (K : Res → List Cell → Prop) : Prop :=
  bif (decide (count1 = (0 : Int))) then
    K (.one (.fr 5 (.int .u8) ([] : List Int))) []
  else
  bif (decide (count1 < (0 : Int))) then
    False
  else
    (wfD bytes_Repeat_d3 (b0, count1, ()) → bytes_Repeat_J3 (fun (x4 : List Int) => wfD bytes_Repeat_d3r (x4, ()) → (
        K (.one (.fr 5 (.int .u8) x4)) [])) b0 count1)
def bytes_Repeat_A : List AS := [.v (.sl (.int .u8)), .v (.int .i64)]
theorem bytes_Repeat_walk (b0 : List Int) (count1 : Int) (K : Res → List Cell → Prop) : runF tb (getG bytes_Repeat_G) bytes_Repeat_B3 Try.f40 [true] (mkA bytes_Repeat_A (b0, count1, ())) K = bytes_Repeat_raw b0 count1 K := by kernel_rfl
--! pre 1
def repB (b : List Int) : Nat → List Int
  | 0 => []
  | n + 1 => b ++ repB b n
theorem repB_length (b : List Int) : ∀ n, (repB b n).length = n * b.length
  | 0 => by simp [repB]
  | n + 1 => by rw [repB, List.length_append, repB_length b n, Nat.succ_mul]; omega
theorem repB_get (b : List Int) : ∀ (n i : Nat), i < n * b.length → (repB b n)[i]? = b[i % b.length]?
  | 0, i, h => by simp at h
  | n + 1, i, h => by
    rw [repB]
    by_cases hi : i < b.length
    · rw [List.getElem?_append_left hi, Nat.mod_eq_of_lt hi]
    · rw [List.getElem?_append_right (by omega), repB_get b n _ (by rw [Nat.succ_mul] at h; omega)]
      congr 1
      exact (Nat.mod_eq_sub_mod (by omega)).symm
def bytes_Repeat_P (b : List Int) (count : Int) : Prop := 0 ≤ count ∧ count < 4294967296 ∧ b.length < 4294967296 ∧ (b.length : Int) * count ≤ (lim : Int)
def bytes_Repeat_F (b : List Int) (count : Int) : List Int := repB b count.toNat
/-- so much of it is written -/
def RInv (b nb : List Int) (n bp : Nat) : Prop := nb.length = n ∧ ∀ i, i < bp → nb[i]? = b[i % b.length]?
theorem rinv_step {b nb : List Int} {n bp c : Nat} (hb : 0 < b.length) (hi : RInv b nb n bp) (hd : b.length ∣ bp) (hc : c ≤ bp) (hn : bp + c ≤ n) : RInv b (ovr bp (nb.take c) nb) n (bp + c) := by
  have hl : (nb.take c).length = c := by rw [List.length_take, hi.1]; omega
  refine ⟨by rw [ovr_length]; exact hi.1, fun i hlt => ?_⟩
  rw [ovr_get _ _ _ _ (by rw [hi.1]; omega), hl]
  by_cases h : bp ≤ i
  · rw [if_pos ⟨h, hlt⟩, List.getElem?_take, if_pos (by omega), hi.2 _ (by omega)]
    congr 1
    obtain ⟨q, rfl⟩ := hd
    have e : i = (i - b.length * q) + b.length * q := by omega
    conv => rhs; rw [e, Nat.add_mul_mod_self_left]
  · rw [if_neg (by omega)]; exact hi.2 i (by omega)
theorem bytes_Repeat_l0 (kx0 : List Int → Prop) (b : List Int) (hb : 0 < b.length) (n cm : Nat) (hn : n ≤ lim) (hnd : b.length ∣ n) (hcm : 0 < cm) (hcd : b.length ∣ cm) (hk : ∀ nb, RInv b nb n n → kx0 nb) :
    ∀ (m bp : Nat) (nb : List Int), n < m + bp → 0 < bp → b.length ∣ bp → bp ≤ n → RInv b nb n bp → bytes_Repeat_L0 kx0 m (n : Int) (cm : Int) nb (bp : Int)
  | 0, bp, nb, h, h2, h3, h4, h5 => by omega
  | m + 1, bp, nb, h, h2, h3, h4, h5 => by
    intro _
    unfold bytes_Repeat_T0
    refine brn (fun hlt => ?_) (fun hge => ?_)
    · have hlt : bp < n := by omega
      have hmn : mn (bp : Int) (cm : Int) = ((min bp cm : Nat) : Int) := by
        unfold mn
        by_cases hc : (cm : Int) < bp
        · simp only [hc, decide_true, cond_true]; omega
        · simp only [hc, decide_false, cond_false]; omega
      have hmd : b.length ∣ min bp cm := by
        rcases Nat.le_total bp cm with h | h
        · rw [Nat.min_eq_left h]; exact h3
        · rw [Nat.min_eq_right h]; exact hcd
      -- so much is copied
      have hcl : (List.take (Int.toNat (mn (bp : Int) (cm : Int))) nb).length = min bp cm := by rw [hmn, Int.toNat_natCast, List.length_take, h5.1]; omega
      have hdl : (List.drop (Int.toNat (bp : Int)) nb).length = n - bp := by rw [Int.toNat_natCast, List.length_drop, h5.1]
      have hc2 : mn (List.length (List.take (Int.toNat (mn (bp : Int) (cm : Int))) nb) : Int) (List.length (List.drop (Int.toNat (bp : Int)) nb) : Int) = ((min (min bp cm) (n - bp) : Nat) : Int) := by
        rw [hcl, hdl]
        unfold mn
        by_cases hc : ((n - bp : Nat) : Int) < ((min bp cm : Nat) : Int)
        · simp only [hc, decide_true, cond_true]; omega
        · simp only [hc, decide_false, cond_false]; omega
      have key : bytes_Repeat_L0 kx0 m (n : Int) (cm : Int) (ovr (Int.toNat (bp : Int)) (List.take (List.length (List.drop (Int.toNat (bp : Int)) nb)) (List.take (Int.toNat (mn (bp : Int) (cm : Int))) nb)) nb) (IntKind.wrap .i64 ((bp : Int) + (mn (List.length (List.take (Int.toNat (mn (bp : Int) (cm : Int))) nb) : Int) (List.length (List.drop (Int.toNat (bp : Int)) nb) : Int)))) := by
        have hlim : n ≤ 1099511627776 := hn
        rw [hc2, hdl, hmn, Int.toNat_natCast, Int.toNat_natCast, List.take_take, wrap_i64 (by omega) (by omega), show min (n - bp) (min bp cm) = min (min bp cm) (n - bp) from Nat.min_comm _ _]
        have hdvd : b.length ∣ min (min bp cm) (n - bp) := by
          rcases Nat.le_total (min bp cm) (n - bp) with h | h
          · rw [Nat.min_eq_left h]; exact hmd
          · rw [Nat.min_eq_right h]; exact Nat.dvd_sub hnd h3
        have hpos : 0 < min (min bp cm) (n - bp) := by omega
        have := bytes_Repeat_l0 kx0 b hb n cm hn hnd hcm hcd hk m (bp + min (min bp cm) (n - bp)) _ (by omega) (by omega) (Nat.dvd_add h3 hdvd) (by omega) (rinv_step hb h5 h3 (by omega) (by omega))
        simpa using this
      have a1 : 0 ≤ (bp : Int) ∧ (bp : Int) ≤ (List.length nb : Int) := by rw [h5.1]; omega
      have a2 : 0 ≤ mn (bp : Int) (cm : Int) ∧ mn (bp : Int) (cm : Int) ≤ (List.length nb : Int) := by rw [h5.1, hmn]; omega
      exact ⟨asrt a1 (asrt a2 key), asrt a2 (asrt a1 key), trivial⟩
    · obtain rfl : bp = n := by omega
      exact hk nb h5
theorem bytes_Repeat_sp (b : List Int) (count : Int) (K : Res → List Cell → Prop) (hw : wfA bytes_Repeat_A (b, count, ())) (hp : bytes_Repeat_P b count) (h : ∀ r : List Int, r = bytes_Repeat_F b count → K (.one (.fr 5 (.int .u8) r)) []) : bytes_Repeat_raw b count K := by
  obtain ⟨h0, h1, h2, h3⟩ := hp
  obtain ⟨c, rfl⟩ := Int.eq_ofNat_of_zero_le h0
  unfold bytes_Repeat_F at h
  rw [Int.toNat_natCast] at h
  unfold bytes_Repeat_raw
  refine brn (fun hz => h _ ?_) (fun hz => brn (fun hn => absurd hn (by omega)) (fun _ _ => ?_))
  · obtain rfl : c = 0 := by omega
    rfl
  unfold bytes_Repeat_J3
  intro r1 hr1 _
  have hmul : r1 = (0, (b.length : Int) * (c : Int)) := by
    rw [hr1, wrap_u64 (by omega) (by omega), wrap_u64 (by omega) (by omega)]
    exact mul_small (by omega) (by omega) (by omega) (by omega)
  have hlc : (b.length : Int) * (c : Int) = ((c * b.length : Nat) : Int) := by rw [Int.mul_comm]; simp
  have hlim : ((c * b.length : Nat) : Int) ≤ 1099511627776 := by rw [← hlc]; exact h3
  rw [hmul, hlc]
  refine brn (fun hn => absurd hn (by simp)) (fun _ => brn (fun hn => absurd hn (by show ¬ (9223372036854775807 : Int) < ((c * b.length : Nat) : Int); omega)) (fun _ _ => ?_))
  show bytes_Repeat_J2 _ b ((c * b.length : Nat) : Int)
  unfold bytes_Repeat_J2
  refine brn (fun hz => ?_) (fun hz => ?_)
  · intro _ _
    refine h _ ?_
    have hb : b = [] := List.eq_nil_of_length_eq_zero (by omega)
    subst hb
    clear h hlc hlim hmul hr1 hw h3
    have : ∀ n, repB [] n = [] := fun n => List.eq_nil_of_length_eq_zero (by rw [repB_length]; simp)
    exact (this c).symm
  have hb : 0 < b.length := by omega
  have hge : b.length ≤ c * b.length := Nat.le_mul_of_pos_left _ (by omega)
  rw [wrap_i64 (n := ((c * b.length : Nat) : Int)) (by omega) (by omega)]
  have main : ∀ (cm : Nat), 0 < cm → b.length ∣ cm → bytes_Repeat_J1 (fun (x4 : List Int) => wfD bytes_Repeat_d1r (x4, ()) → wfD bytes_Repeat_d2r (x4, ()) → wfD bytes_Repeat_d3r (x4, ()) → K (.one (.fr 5 (.int .u8) x4)) []) b ((c * b.length : Nat) : Int) (cm : Int) := by
    intro cm hcm hcd
    unfold bytes_Repeat_J1
    refine ⟨⟨by omega, hlim⟩, fun r2 hr2 _ => asrt ?_ fun _ => ?_⟩
    · have : r2.length = c * b.length := hr2
      rw [this]; omega
    have hr2 : r2.length = c * b.length := hr2
    have htk : List.take (Int.toNat ((c * b.length : Nat) : Int)) r2 = r2 := by rw [Int.toNat_natCast, ← hr2, List.take_length]
    have hmn : mn (List.length b : Int) (List.length r2 : Int) = (b.length : Int) := by
      unfold mn
      have : ¬ ((r2.length : Int) < b.length) := by rw [hr2]; omega
      simp only [this, decide_false, cond_false]
    rw [htk, hmn]
    refine ⟨c * b.length + 1, bytes_Repeat_l0 _ b hb (c * b.length) cm (by show _ ≤ 1099511627776; omega) ⟨c, Nat.mul_comm _ _⟩ hcm hcd (fun nb hnb _ h1 h2 h3 => h nb ?_) _ _ _ (by omega) hb (Nat.dvd_refl _) hge ⟨?_, fun i hi => ?_⟩⟩
    · refine List.ext_getElem? fun i => ?_
      by_cases hi : i < c * b.length
      · rw [hnb.2 i hi, repB_get b c i hi]
      · rw [List.getElem?_eq_none (by rw [hnb.1]; omega), List.getElem?_eq_none (by rw [repB_length]; omega)]
    · rw [ovr_length, hr2]
    · rw [ovr_get _ _ _ _ (by rw [hr2]; omega), List.take_of_length_le (by rw [hr2]; exact hge), if_pos (by omega), Nat.sub_zero, Nat.mod_eq_of_lt hi]
  refine brn (fun hbig => asrt (by omega) ?_) (fun hsm _ => main (c * b.length) (by omega) ⟨c, Nat.mul_comm _ _⟩)
  have hq : Int.tdiv (8192 : Int) (List.length b : Int) = ((8192 / b.length : Nat) : Int) := by
    rw [Int.tdiv_eq_ediv_of_nonneg (by omega)]; rfl
  have hq2 : 8192 / b.length ≤ 8192 := Nat.div_le_self _ _
  have hq3 : 8192 / b.length * b.length ≤ 8192 := Nat.div_mul_le_self _ _
  rw [hq]
  generalize 8192 / b.length = q at hq2 hq3 ⊢
  have hq4 : (q : Int) * (b.length : Int) = ((q * b.length : Nat) : Int) := by simp
  rw [wrap_i64 (n := (q : Int)) (by omega) (by omega), hq4]
  generalize hql : q * b.length = ql at hq3 ⊢
  rw [wrap_i64 (n := (ql : Int)) (by omega) (by omega)]
  refine brn (fun hz _ => main b.length hb (Nat.dvd_refl _)) (fun hz _ => main ql (by omega) ⟨q, by rw [← hql]; exact Nat.mul_comm _ _⟩)

def bytes_Repeat_C (v : valsA bytes_Repeat_A) (K : Res → List Cell → Prop) : Prop := bytes_Repeat_P v.1 v.2.1 ∧ ∀ r : List Int, r = bytes_Repeat_F v.1 v.2.1 → K (.one (.fr 5 (.int .u8) r)) []
def bytes_Repeat_S : App := specW bytes_Repeat_A bytes_Repeat_C
theorem bytes_Repeat_wv (K : Res → List Cell → Prop) : ∀ v : valsA bytes_Repeat_A, runF tb (getG bytes_Repeat_G) bytes_Repeat_B3 Try.f40 [true] (mkA bytes_Repeat_A v) K = bytes_Repeat_raw v.1 v.2.1 K
  | (b0, count1, ()) => bytes_Repeat_walk b0 count1 K
set_option maxRecDepth 20000 in
theorem bytes_Repeat_ok : AppOk Try.prog 40 bytes_Repeat_S :=
  AppOk.specW (spec_ok (runF_ok tb_M tb_ok bytes_Repeat_Gok (bytes_Repeat_b3) (f := 40) (fn := Try.f40) (by kernel_rfl) (by kernel_rfl) bytes_Repeat_st [true]) fun v K hw h => (bytes_Repeat_wv K v).mpr (bytes_Repeat_sp v.1 v.2.1 K hw h.1 h.2))

end Go.VE
namespace Go.VE
open Go Go.Proofs
/-! ### bytes.Clone -/
def bytes_Clone_G : List (Nat × App) := []
theorem bytes_Clone_Gok : GOk Try.prog (getG bytes_Clone_G) := GOk.nil
def bytes_Clone_raw (b0 : List Int) (K : Res → List Cell → Prop) : Prop :=
  (
    bif decide (List.length ([] : List Int) + List.length b0 ≤ lim) then
    K (.one (.fr 5 (.int .u8) (([] : List Int) ++ b0))) []
    else False) ∧ (bif decide (List.length b0 = 0) then
    K (.one (.fr 5 (.int .u8) ([] : List Int))) []
  else True)
def bytes_Clone_A : List AS := [.v (.sl (.int .u8))]
theorem bytes_Clone_walk (b0 : List Int) (K : Res → List Cell → Prop) : runF tb (getG bytes_Clone_G) [] Try.f41 [true] (mkA bytes_Clone_A (b0, ())) K = bytes_Clone_raw b0 K := by kernel_rfl
--! pre 1
def bytes_Clone_P (b : List Int) : Prop := b.length ≤ lim
def bytes_Clone_F (b : List Int) : List Int := b
theorem bytes_Clone_sp (b : List Int) (K : Res → List Cell → Prop) (_ : wfA bytes_Clone_A (b, ())) (hp : bytes_Clone_P b) (h : ∀ r : List Int, r = bytes_Clone_F b → K (.one (.fr 5 (.int .u8) r)) []) : bytes_Clone_raw b K := by
  unfold bytes_Clone_raw
  unfold bytes_Clone_P at hp
  refine ⟨asrt (by simpa using hp) (h _ rfl), ?_⟩
  by_cases hz : b.length = 0
  · rw [decide_eq_true hz]
    exact h _ (List.eq_nil_of_length_eq_zero hz).symm
  · rw [decide_eq_false hz]; trivial

def bytes_Clone_C (v : valsA bytes_Clone_A) (K : Res → List Cell → Prop) : Prop := bytes_Clone_P v.1 ∧ ∀ r : List Int, r = bytes_Clone_F v.1 → K (.one (.fr 5 (.int .u8) r)) []
def bytes_Clone_S : App := specW bytes_Clone_A bytes_Clone_C
theorem bytes_Clone_wv (K : Res → List Cell → Prop) : ∀ v : valsA bytes_Clone_A, runF tb (getG bytes_Clone_G) [] Try.f41 [true] (mkA bytes_Clone_A v) K = bytes_Clone_raw v.1 K
  | (b0, ()) => bytes_Clone_walk b0 K
set_option maxRecDepth 20000 in
theorem bytes_Clone_ok : AppOk Try.prog 41 bytes_Clone_S :=
  AppOk.specW (spec_ok (runF_ok tb_M tb_ok bytes_Clone_Gok (LabsOk.nil) (f := 41) (fn := Try.f41) (by kernel_rfl) (by kernel_rfl) (by kernel_rfl) [true]) fun v K hw h => (bytes_Clone_wv K v).mpr (bytes_Clone_sp v.1 K hw h.1 h.2))

end Go.VE
namespace Go.VE
open Go Go.Proofs
/-! ### quoin/typing.Finish -/
def typing_Finish_G : List (Nat × App) := [(22, typing_fits_S), (36, bytes_Count_S), (37, typing_Finish_1_S), (40, bytes_Repeat_S), (41, bytes_Clone_S)]
theorem typing_Finish_Gok : GOk Try.prog (getG typing_Finish_G) := GOk.cons typing_fits_ok (GOk.cons bytes_Count_ok (GOk.cons typing_Finish_1_ok (GOk.cons bytes_Repeat_ok (GOk.cons bytes_Clone_ok (GOk.nil)))))
theorem typing_Finish_st : storesC (bodyOf Try.f19) = true := by kernel_rfl
def typing_Finish_d0 : List LS := [.b 2 16 [], .b 3 24 [], .f 7 37 [24, 16, 48], .v 8 (.int .i64), .o 9 77 5 (.int .u8), .v 10 (.int .i64), .c 16 (.sl (.int .u8)), .c 24 (.st (.pair (.int .u8) (.pair (.int .i64) (.pair (.sl (.int .u8)) (.pair (.int .i64) (.int .i64)))))), .c 48 (.int .i64)]
def typing_Finish_d0r : List LS := [.o 4 37 46 (.st (.pair (.int .i64) (.pair (.sl (.int .u8)) (.sl (.int .u8))))), .v 5 (.int .i64)]
def typing_Finish_dx0 : DX := ⟨none, some typing_Finish_d0r, []⟩
def typing_Finish_J0 (kr : List ((Int × List Int × List Int)) → Int → Prop) (n8 : Int) (text9 : List Int) (at10 : Int) (base2b : List Int) (y3b : (Int × Int × List Int × Int × Int)) (fresh6b : Int) : Prop :=
  bif (decide ((List.length text9 : Int) = (0 : Int))) then
    kr ([] : List ((Int × List Int × List Int))) at10
  else
    (
      (
        (
          typing_Finish_1_P n8 y3b base2b fresh6b ∧ (
          ∀ (r5 : Int), r5 = typing_Finish_1_F n8 y3b base2b fresh6b → (
          wfR (.one (.v (.int .i64) r5)) → (
          bif decide (0 ≤ y3b.2.1 ∧ y3b.2.1 ≤ (IntKind.wrap .i64 (y3b.2.1 + r5)) ∧ (IntKind.wrap .i64 (y3b.2.1 + r5)) ≤ (List.length base2b : Int)) then
          bytes_Clone_P (slc base2b y3b.2.1 (IntKind.wrap .i64 (y3b.2.1 + r5))) ∧ (
          ∀ (r6 : List Int), r6 = bytes_Clone_F (slc base2b y3b.2.1 (IntKind.wrap .i64 (y3b.2.1 + r5))) → (
          wfR (.one (.fr 5 (.int .u8) r6)) → (
          kr ([(y3b.2.1, r6, text9)] : List ((Int × List Int × List Int))) at10)))
          else False)))) ∧ (
          typing_Finish_1_P n8 y3b base2b fresh6b ∧ (
          ∀ (r7 : Int), r7 = typing_Finish_1_F n8 y3b base2b fresh6b → (
          wfR (.one (.v (.int .i64) r7)) → (
          bif decide (0 ≤ y3b.2.1 ∧ y3b.2.1 ≤ (IntKind.wrap .i64 (y3b.2.1 + r7)) ∧ (IntKind.wrap .i64 (y3b.2.1 + r7)) ≤ (List.length base2b : Int)) then
          bytes_Clone_P (slc base2b y3b.2.1 (IntKind.wrap .i64 (y3b.2.1 + r7))) ∧ (
          ∀ (r8 : List Int), r8 = bytes_Clone_F (slc base2b y3b.2.1 (IntKind.wrap .i64 (y3b.2.1 + r7))) → (
          wfR (.one (.fr 5 (.int .u8) r8)) → (
          kr ([(y3b.2.1, r8, text9)] : List ((Int × List Int × List Int))) at10)))
          else False)))) ∧ True) ∧ (
        (
          typing_Finish_1_P n8 y3b base2b fresh6b ∧ (
          ∀ (r9 : Int), r9 = typing_Finish_1_F n8 y3b base2b fresh6b → (
          wfR (.one (.v (.int .i64) r9)) → (
          bif decide (0 ≤ y3b.2.1 ∧ y3b.2.1 ≤ (IntKind.wrap .i64 (y3b.2.1 + r9)) ∧ (IntKind.wrap .i64 (y3b.2.1 + r9)) ≤ (List.length base2b : Int)) then
          bytes_Clone_P (slc base2b y3b.2.1 (IntKind.wrap .i64 (y3b.2.1 + r9))) ∧ (
          ∀ (r10 : List Int), r10 = bytes_Clone_F (slc base2b y3b.2.1 (IntKind.wrap .i64 (y3b.2.1 + r9))) → (
          wfR (.one (.fr 5 (.int .u8) r10)) → (
          kr ([(y3b.2.1, r10, text9)] : List ((Int × List Int × List Int))) at10)))
          else False)))) ∧ (
          typing_Finish_1_P n8 y3b base2b fresh6b ∧ (
          ∀ (r11 : Int), r11 = typing_Finish_1_F n8 y3b base2b fresh6b → (
          wfR (.one (.v (.int .i64) r11)) → (
          bif decide (0 ≤ y3b.2.1 ∧ y3b.2.1 ≤ (IntKind.wrap .i64 (y3b.2.1 + r11)) ∧ (IntKind.wrap .i64 (y3b.2.1 + r11)) ≤ (List.length base2b : Int)) then
          bytes_Clone_P (slc base2b y3b.2.1 (IntKind.wrap .i64 (y3b.2.1 + r11))) ∧ (
          ∀ (r12 : List Int), r12 = bytes_Clone_F (slc base2b y3b.2.1 (IntKind.wrap .i64 (y3b.2.1 + r11))) → (
          wfR (.one (.fr 5 (.int .u8) r12)) → (
          kr ([(y3b.2.1, r12, text9)] : List ((Int × List Int × List Int))) at10)))
          else False)))) ∧ True) ∧ (
        typing_Finish_1_P n8 y3b base2b fresh6b ∧ (
        ∀ (r13 : Int), r13 = typing_Finish_1_F n8 y3b base2b fresh6b → (
        wfR (.one (.v (.int .i64) r13)) → (
        (
          bif decide (0 ≤ y3b.2.1 ∧ y3b.2.1 ≤ (IntKind.wrap .i64 (y3b.2.1 + r13)) ∧ (IntKind.wrap .i64 (y3b.2.1 + r13)) ≤ (List.length base2b : Int)) then
          bytes_Clone_P (slc base2b y3b.2.1 (IntKind.wrap .i64 (y3b.2.1 + r13))) ∧ (
          ∀ (r14 : List Int), r14 = bytes_Clone_F (slc base2b y3b.2.1 (IntKind.wrap .i64 (y3b.2.1 + r13))) → (
          wfR (.one (.fr 5 (.int .u8) r14)) → (
          kr ([(y3b.2.1, r14, text9)] : List ((Int × List Int × List Int))) at10)))
          else False) ∧ (
          bif decide (0 ≤ y3b.2.1 ∧ y3b.2.1 ≤ (IntKind.wrap .i64 (y3b.2.1 + r13)) ∧ (IntKind.wrap .i64 (y3b.2.1 + r13)) ≤ (List.length base2b : Int)) then
          bytes_Clone_P (slc base2b y3b.2.1 (IntKind.wrap .i64 (y3b.2.1 + r13))) ∧ (
          ∀ (r15 : List Int), r15 = bytes_Clone_F (slc base2b y3b.2.1 (IntKind.wrap .i64 (y3b.2.1 + r13))) → (
          wfR (.one (.fr 5 (.int .u8) r15)) → (
          kr ([(y3b.2.1, r15, text9)] : List ((Int × List Int × List Int))) at10)))
          else False) ∧ True)))) ∧ True) ∧ (
      (
        (
          typing_Finish_1_P n8 y3b base2b fresh6b ∧ (
          ∀ (r16 : Int), r16 = typing_Finish_1_F n8 y3b base2b fresh6b → (
          wfR (.one (.v (.int .i64) r16)) → (
          bif decide (0 ≤ y3b.2.1 ∧ y3b.2.1 ≤ (IntKind.wrap .i64 (y3b.2.1 + r16)) ∧ (IntKind.wrap .i64 (y3b.2.1 + r16)) ≤ (List.length base2b : Int)) then
          bytes_Clone_P (slc base2b y3b.2.1 (IntKind.wrap .i64 (y3b.2.1 + r16))) ∧ (
          ∀ (r17 : List Int), r17 = bytes_Clone_F (slc base2b y3b.2.1 (IntKind.wrap .i64 (y3b.2.1 + r16))) → (
          wfR (.one (.fr 5 (.int .u8) r17)) → (
          kr ([(y3b.2.1, r17, text9)] : List ((Int × List Int × List Int))) at10)))
          else False)))) ∧ (
          typing_Finish_1_P n8 y3b base2b fresh6b ∧ (
          ∀ (r18 : Int), r18 = typing_Finish_1_F n8 y3b base2b fresh6b → (
          wfR (.one (.v (.int .i64) r18)) → (
          bif decide (0 ≤ y3b.2.1 ∧ y3b.2.1 ≤ (IntKind.wrap .i64 (y3b.2.1 + r18)) ∧ (IntKind.wrap .i64 (y3b.2.1 + r18)) ≤ (List.length base2b : Int)) then
          bytes_Clone_P (slc base2b y3b.2.1 (IntKind.wrap .i64 (y3b.2.1 + r18))) ∧ (
          ∀ (r19 : List Int), r19 = bytes_Clone_F (slc base2b y3b.2.1 (IntKind.wrap .i64 (y3b.2.1 + r18))) → (
          wfR (.one (.fr 5 (.int .u8) r19)) → (
          kr ([(y3b.2.1, r19, text9)] : List ((Int × List Int × List Int))) at10)))
          else False)))) ∧ True) ∧ (
        (
          typing_Finish_1_P n8 y3b base2b fresh6b ∧ (
          ∀ (r20 : Int), r20 = typing_Finish_1_F n8 y3b base2b fresh6b → (
          wfR (.one (.v (.int .i64) r20)) → (
          bif decide (0 ≤ y3b.2.1 ∧ y3b.2.1 ≤ (IntKind.wrap .i64 (y3b.2.1 + r20)) ∧ (IntKind.wrap .i64 (y3b.2.1 + r20)) ≤ (List.length base2b : Int)) then
          bytes_Clone_P (slc base2b y3b.2.1 (IntKind.wrap .i64 (y3b.2.1 + r20))) ∧ (
          ∀ (r21 : List Int), r21 = bytes_Clone_F (slc base2b y3b.2.1 (IntKind.wrap .i64 (y3b.2.1 + r20))) → (
          wfR (.one (.fr 5 (.int .u8) r21)) → (
          kr ([(y3b.2.1, r21, text9)] : List ((Int × List Int × List Int))) at10)))
          else False)))) ∧ (
          typing_Finish_1_P n8 y3b base2b fresh6b ∧ (
          ∀ (r22 : Int), r22 = typing_Finish_1_F n8 y3b base2b fresh6b → (
          wfR (.one (.v (.int .i64) r22)) → (
          bif decide (0 ≤ y3b.2.1 ∧ y3b.2.1 ≤ (IntKind.wrap .i64 (y3b.2.1 + r22)) ∧ (IntKind.wrap .i64 (y3b.2.1 + r22)) ≤ (List.length base2b : Int)) then
          bytes_Clone_P (slc base2b y3b.2.1 (IntKind.wrap .i64 (y3b.2.1 + r22))) ∧ (
          ∀ (r23 : List Int), r23 = bytes_Clone_F (slc base2b y3b.2.1 (IntKind.wrap .i64 (y3b.2.1 + r22))) → (
          wfR (.one (.fr 5 (.int .u8) r23)) → (
          kr ([(y3b.2.1, r23, text9)] : List ((Int × List Int × List Int))) at10)))
          else False)))) ∧ True) ∧ (
        typing_Finish_1_P n8 y3b base2b fresh6b ∧ (
        ∀ (r24 : Int), r24 = typing_Finish_1_F n8 y3b base2b fresh6b → (
        wfR (.one (.v (.int .i64) r24)) → (
        (
          bif decide (0 ≤ y3b.2.1 ∧ y3b.2.1 ≤ (IntKind.wrap .i64 (y3b.2.1 + r24)) ∧ (IntKind.wrap .i64 (y3b.2.1 + r24)) ≤ (List.length base2b : Int)) then
          bytes_Clone_P (slc base2b y3b.2.1 (IntKind.wrap .i64 (y3b.2.1 + r24))) ∧ (
          ∀ (r25 : List Int), r25 = bytes_Clone_F (slc base2b y3b.2.1 (IntKind.wrap .i64 (y3b.2.1 + r24))) → (
          wfR (.one (.fr 5 (.int .u8) r25)) → (
          kr ([(y3b.2.1, r25, text9)] : List ((Int × List Int × List Int))) at10)))
          else False) ∧ (
          bif decide (0 ≤ y3b.2.1 ∧ y3b.2.1 ≤ (IntKind.wrap .i64 (y3b.2.1 + r24)) ∧ (IntKind.wrap .i64 (y3b.2.1 + r24)) ≤ (List.length base2b : Int)) then
          bytes_Clone_P (slc base2b y3b.2.1 (IntKind.wrap .i64 (y3b.2.1 + r24))) ∧ (
          ∀ (r26 : List Int), r26 = bytes_Clone_F (slc base2b y3b.2.1 (IntKind.wrap .i64 (y3b.2.1 + r24))) → (
          wfR (.one (.fr 5 (.int .u8) r26)) → (
          kr ([(y3b.2.1, r26, text9)] : List ((Int × List Int × List Int))) at10)))
          else False) ∧ True)))) ∧ True) ∧ (
      (
        (
          typing_Finish_1_P n8 y3b base2b fresh6b ∧ (
          ∀ (r27 : Int), r27 = typing_Finish_1_F n8 y3b base2b fresh6b → (
          wfR (.one (.v (.int .i64) r27)) → (
          bif decide (0 ≤ y3b.2.1 ∧ y3b.2.1 ≤ (IntKind.wrap .i64 (y3b.2.1 + r27)) ∧ (IntKind.wrap .i64 (y3b.2.1 + r27)) ≤ (List.length base2b : Int)) then
          bytes_Clone_P (slc base2b y3b.2.1 (IntKind.wrap .i64 (y3b.2.1 + r27))) ∧ (
          ∀ (r28 : List Int), r28 = bytes_Clone_F (slc base2b y3b.2.1 (IntKind.wrap .i64 (y3b.2.1 + r27))) → (
          wfR (.one (.fr 5 (.int .u8) r28)) → (
          kr ([(y3b.2.1, r28, text9)] : List ((Int × List Int × List Int))) at10)))
          else False)))) ∧ (
          typing_Finish_1_P n8 y3b base2b fresh6b ∧ (
          ∀ (r29 : Int), r29 = typing_Finish_1_F n8 y3b base2b fresh6b → (
          wfR (.one (.v (.int .i64) r29)) → (
          bif decide (0 ≤ y3b.2.1 ∧ y3b.2.1 ≤ (IntKind.wrap .i64 (y3b.2.1 + r29)) ∧ (IntKind.wrap .i64 (y3b.2.1 + r29)) ≤ (List.length base2b : Int)) then
          bytes_Clone_P (slc base2b y3b.2.1 (IntKind.wrap .i64 (y3b.2.1 + r29))) ∧ (
          ∀ (r30 : List Int), r30 = bytes_Clone_F (slc base2b y3b.2.1 (IntKind.wrap .i64 (y3b.2.1 + r29))) → (
          wfR (.one (.fr 5 (.int .u8) r30)) → (
          kr ([(y3b.2.1, r30, text9)] : List ((Int × List Int × List Int))) at10)))
          else False)))) ∧ True) ∧ (
        (
          typing_Finish_1_P n8 y3b base2b fresh6b ∧ (
          ∀ (r31 : Int), r31 = typing_Finish_1_F n8 y3b base2b fresh6b → (
          wfR (.one (.v (.int .i64) r31)) → (
          bif decide (0 ≤ y3b.2.1 ∧ y3b.2.1 ≤ (IntKind.wrap .i64 (y3b.2.1 + r31)) ∧ (IntKind.wrap .i64 (y3b.2.1 + r31)) ≤ (List.length base2b : Int)) then
          bytes_Clone_P (slc base2b y3b.2.1 (IntKind.wrap .i64 (y3b.2.1 + r31))) ∧ (
          ∀ (r32 : List Int), r32 = bytes_Clone_F (slc base2b y3b.2.1 (IntKind.wrap .i64 (y3b.2.1 + r31))) → (
          wfR (.one (.fr 5 (.int .u8) r32)) → (
          kr ([(y3b.2.1, r32, text9)] : List ((Int × List Int × List Int))) at10)))
          else False)))) ∧ (
          typing_Finish_1_P n8 y3b base2b fresh6b ∧ (
          ∀ (r33 : Int), r33 = typing_Finish_1_F n8 y3b base2b fresh6b → (
          wfR (.one (.v (.int .i64) r33)) → (
          bif decide (0 ≤ y3b.2.1 ∧ y3b.2.1 ≤ (IntKind.wrap .i64 (y3b.2.1 + r33)) ∧ (IntKind.wrap .i64 (y3b.2.1 + r33)) ≤ (List.length base2b : Int)) then
          bytes_Clone_P (slc base2b y3b.2.1 (IntKind.wrap .i64 (y3b.2.1 + r33))) ∧ (
          ∀ (r34 : List Int), r34 = bytes_Clone_F (slc base2b y3b.2.1 (IntKind.wrap .i64 (y3b.2.1 + r33))) → (
          wfR (.one (.fr 5 (.int .u8) r34)) → (
          kr ([(y3b.2.1, r34, text9)] : List ((Int × List Int × List Int))) at10)))
          else False)))) ∧ True) ∧ (
        typing_Finish_1_P n8 y3b base2b fresh6b ∧ (
        ∀ (r35 : Int), r35 = typing_Finish_1_F n8 y3b base2b fresh6b → (
        wfR (.one (.v (.int .i64) r35)) → (
        (
          bif decide (0 ≤ y3b.2.1 ∧ y3b.2.1 ≤ (IntKind.wrap .i64 (y3b.2.1 + r35)) ∧ (IntKind.wrap .i64 (y3b.2.1 + r35)) ≤ (List.length base2b : Int)) then
          bytes_Clone_P (slc base2b y3b.2.1 (IntKind.wrap .i64 (y3b.2.1 + r35))) ∧ (
          ∀ (r36 : List Int), r36 = bytes_Clone_F (slc base2b y3b.2.1 (IntKind.wrap .i64 (y3b.2.1 + r35))) → (
          wfR (.one (.fr 5 (.int .u8) r36)) → (
          kr ([(y3b.2.1, r36, text9)] : List ((Int × List Int × List Int))) at10)))
          else False) ∧ (
          bif decide (0 ≤ y3b.2.1 ∧ y3b.2.1 ≤ (IntKind.wrap .i64 (y3b.2.1 + r35)) ∧ (IntKind.wrap .i64 (y3b.2.1 + r35)) ≤ (List.length base2b : Int)) then
          bytes_Clone_P (slc base2b y3b.2.1 (IntKind.wrap .i64 (y3b.2.1 + r35))) ∧ (
          ∀ (r37 : List Int), r37 = bytes_Clone_F (slc base2b y3b.2.1 (IntKind.wrap .i64 (y3b.2.1 + r35))) → (
          wfR (.one (.fr 5 (.int .u8) r37)) → (
          kr ([(y3b.2.1, r37, text9)] : List ((Int × List Int × List Int))) at10)))
          else False) ∧ True)))) ∧ True) ∧ (
      typing_Finish_1_P n8 y3b base2b fresh6b ∧ (
      ∀ (r38 : Int), r38 = typing_Finish_1_F n8 y3b base2b fresh6b → (
      wfR (.one (.v (.int .i64) r38)) → (
      (
        (
          bif decide (0 ≤ y3b.2.1 ∧ y3b.2.1 ≤ (IntKind.wrap .i64 (y3b.2.1 + r38)) ∧ (IntKind.wrap .i64 (y3b.2.1 + r38)) ≤ (List.length base2b : Int)) then
          bytes_Clone_P (slc base2b y3b.2.1 (IntKind.wrap .i64 (y3b.2.1 + r38))) ∧ (
          ∀ (r39 : List Int), r39 = bytes_Clone_F (slc base2b y3b.2.1 (IntKind.wrap .i64 (y3b.2.1 + r38))) → (
          wfR (.one (.fr 5 (.int .u8) r39)) → (
          kr ([(y3b.2.1, r39, text9)] : List ((Int × List Int × List Int))) at10)))
          else False) ∧ (
          bif decide (0 ≤ y3b.2.1 ∧ y3b.2.1 ≤ (IntKind.wrap .i64 (y3b.2.1 + r38)) ∧ (IntKind.wrap .i64 (y3b.2.1 + r38)) ≤ (List.length base2b : Int)) then
          bytes_Clone_P (slc base2b y3b.2.1 (IntKind.wrap .i64 (y3b.2.1 + r38))) ∧ (
          ∀ (r40 : List Int), r40 = bytes_Clone_F (slc base2b y3b.2.1 (IntKind.wrap .i64 (y3b.2.1 + r38))) → (
          wfR (.one (.fr 5 (.int .u8) r40)) → (
          kr ([(y3b.2.1, r40, text9)] : List ((Int × List Int × List Int))) at10)))
          else False) ∧ True) ∧ (
        (
          bif decide (0 ≤ y3b.2.1 ∧ y3b.2.1 ≤ (IntKind.wrap .i64 (y3b.2.1 + r38)) ∧ (IntKind.wrap .i64 (y3b.2.1 + r38)) ≤ (List.length base2b : Int)) then
          bytes_Clone_P (slc base2b y3b.2.1 (IntKind.wrap .i64 (y3b.2.1 + r38))) ∧ (
          ∀ (r41 : List Int), r41 = bytes_Clone_F (slc base2b y3b.2.1 (IntKind.wrap .i64 (y3b.2.1 + r38))) → (
          wfR (.one (.fr 5 (.int .u8) r41)) → (
          kr ([(y3b.2.1, r41, text9)] : List ((Int × List Int × List Int))) at10)))
          else False) ∧ (
          bif decide (0 ≤ y3b.2.1 ∧ y3b.2.1 ≤ (IntKind.wrap .i64 (y3b.2.1 + r38)) ∧ (IntKind.wrap .i64 (y3b.2.1 + r38)) ≤ (List.length base2b : Int)) then
          bytes_Clone_P (slc base2b y3b.2.1 (IntKind.wrap .i64 (y3b.2.1 + r38))) ∧ (
          ∀ (r42 : List Int), r42 = bytes_Clone_F (slc base2b y3b.2.1 (IntKind.wrap .i64 (y3b.2.1 + r38))) → (
          wfR (.one (.fr 5 (.int .u8) r42)) → (
          kr ([(y3b.2.1, r42, text9)] : List ((Int × List Int × List Int))) at10)))
          else False) ∧ True) ∧ (
        (
          bif decide (0 ≤ y3b.2.1 ∧ y3b.2.1 ≤ (IntKind.wrap .i64 (y3b.2.1 + r38)) ∧ (IntKind.wrap .i64 (y3b.2.1 + r38)) ≤ (List.length base2b : Int)) then
          bytes_Clone_P (slc base2b y3b.2.1 (IntKind.wrap .i64 (y3b.2.1 + r38))) ∧ (
          ∀ (r43 : List Int), r43 = bytes_Clone_F (slc base2b y3b.2.1 (IntKind.wrap .i64 (y3b.2.1 + r38))) → (
          wfR (.one (.fr 5 (.int .u8) r43)) → (
          kr ([(y3b.2.1, r43, text9)] : List ((Int × List Int × List Int))) at10)))
          else False) ∧ (
          bif decide (0 ≤ y3b.2.1 ∧ y3b.2.1 ≤ (IntKind.wrap .i64 (y3b.2.1 + r38)) ∧ (IntKind.wrap .i64 (y3b.2.1 + r38)) ≤ (List.length base2b : Int)) then
          bytes_Clone_P (slc base2b y3b.2.1 (IntKind.wrap .i64 (y3b.2.1 + r38))) ∧ (
          ∀ (r44 : List Int), r44 = bytes_Clone_F (slc base2b y3b.2.1 (IntKind.wrap .i64 (y3b.2.1 + r38))) → (
          wfR (.one (.fr 5 (.int .u8) r44)) → (
          kr ([(y3b.2.1, r44, text9)] : List ((Int × List Int × List Int))) at10)))
          else False) ∧ True) ∧ True)))) ∧ True
theorem typing_Finish_s0 (k : Ex → St → Prop) (n8 : Int) (text9 : List Int) (at10 : Int) (base2b : List Int) (y3b : (Int × Int × List Int × Int × Int)) (fresh6b : Int) :
    ex tb (getG typing_Finish_G) [] (at' (bodyOf Try.f19) [1, 1, 1, 1, 1, 1, 1, 1, 1]) [1, 1, 1, 1, 1, 1, 1, 1, 1] (mkD 102 typing_Finish_d0 (n8, text9, at10, base2b, y3b, fresh6b, ())) (wk 102 typing_Finish_dx0 k) =
    typing_Finish_J0 (fun x4 x5 => wfD typing_Finish_d0r (x4, x5, ()) → k .ret (mkD 102 typing_Finish_d0r (x4, x5, ()))) n8 text9 at10 base2b y3b fresh6b := by kernel_rfl
theorem typing_Finish_v0 (k : Ex → St → Prop) : ∀ v : vals typing_Finish_d0, ex tb (getG typing_Finish_G) [] (at' (bodyOf Try.f19) [1, 1, 1, 1, 1, 1, 1, 1, 1]) [1, 1, 1, 1, 1, 1, 1, 1, 1] (mkD 102 typing_Finish_d0 v) (wk 102 typing_Finish_dx0 k) = typing_Finish_J0 (fun x4 x5 => wfD typing_Finish_d0r (x4, x5, ()) → k .ret (mkD 102 typing_Finish_d0r (x4, x5, ()))) v.1 v.2.1 v.2.2.1 v.2.2.2.1 v.2.2.2.2.1 v.2.2.2.2.2.1
  | (n8, text9, at10, base2b, y3b, fresh6b, ()) => typing_Finish_s0 k n8 text9 at10 base2b y3b fresh6b
def typing_Finish_X0 : Pce := fun st k => ckD 102 typing_Finish_d0 st fun v => wfD typing_Finish_d0 v → typing_Finish_J0 (fun x4 x5 => wfD typing_Finish_d0r (x4, x5, ()) → k .ret (mkD 102 typing_Finish_d0r (x4, x5, ()))) v.1 v.2.1 v.2.2.1 v.2.2.2.1 v.2.2.2.2.1 v.2.2.2.2.2.1
set_option maxRecDepth 20000 in
theorem typing_Finish_x0 : SemOk Try.prog (at' (bodyOf Try.f19) [1, 1, 1, 1, 1, 1, 1, 1, 1]) typing_Finish_X0 :=
  (SemOk.wk (N := 102) (ds := typing_Finish_d0) (dx := typing_Finish_dx0) (ex_sound tb_M tb_ok typing_Finish_Gok (LabsOk.nil) (at' (bodyOf Try.f19) [1, 1, 1, 1, 1, 1, 1, 1, 1]) [1, 1, 1, 1, 1, 1, 1, 1, 1] rfl (storesC_at typing_Finish_st [1, 1, 1, 1, 1, 1, 1, 1, 1]))).mono fun st k h => ckD_mono h fun v hv hw => Eq.mpr (typing_Finish_v0 k v) (hv hw)
def typing_Finish_B0 : Labs := ([1, 1, 1, 1, 1, 1, 1, 1, 1], typing_Finish_X0) :: []
theorem typing_Finish_b0 : LabsOk Try.prog (bodyOf Try.f19) typing_Finish_B0 := LabsOk.cons typing_Finish_x0 (LabsOk.nil)
def typing_Finish_d1 : List LS := [.b 2 16 [], .b 3 24 [], .f 7 37 [24, 16, 48], .v 8 (.int .i64), .c 16 (.sl (.int .u8)), .c 24 (.st (.pair (.int .u8) (.pair (.int .i64) (.pair (.sl (.int .u8)) (.pair (.int .i64) (.int .i64)))))), .c 48 (.int .i64)]
def typing_Finish_d1r : List LS := [.o 4 37 46 (.st (.pair (.int .i64) (.pair (.sl (.int .u8)) (.sl (.int .u8))))), .v 5 (.int .i64)]
def typing_Finish_dx1 : DX := ⟨none, some typing_Finish_d1r, []⟩
def typing_Finish_J1 (kr : List ((Int × List Int × List Int)) → Int → Prop) (n8 : Int) (base2b : List Int) (y3b : (Int × Int × List Int × Int × Int)) (fresh6b : Int) : Prop :=
  bytes_Repeat_P y3b.2.2.1 n8 ∧ (
  ∀ (r4 : List Int), r4 = bytes_Repeat_F y3b.2.2.1 n8 → (
  wfR (.one (.fr 5 (.int .u8) r4)) → (
  bif (decide ((0 : Int) < (IntKind.wrap .i64 (y3b.2.1 + (List.length r4 : Int))))) then
    bif (decide ((0 : Int) < (List.length r4 : Int))) then
      bif decide (0 ≤ (IntKind.wrap .i64 ((List.length r4 : Int) - (1 : Int))) ∧ (IntKind.wrap .i64 ((List.length r4 : Int) - (1 : Int))) < (List.length r4 : Int)) then
      bif (!decide ((rd (0 : Int) r4 (IntKind.wrap .i64 ((List.length r4 : Int) - (1 : Int)))) = (10 : Int))) then
        (wfD typing_Finish_d0 (n8, r4, (IntKind.wrap .i64 ((IntKind.wrap .i64 (y3b.2.1 + (List.length r4 : Int))) - (1 : Int))), base2b, y3b, fresh6b, ()) → typing_Finish_J0 (fun (x4 : List ((Int × List Int × List Int))) (x5 : Int) => wfD typing_Finish_d0r (x4, x5, ()) → (
            kr x4 x5)) n8 r4 (IntKind.wrap .i64 ((IntKind.wrap .i64 (y3b.2.1 + (List.length r4 : Int))) - (1 : Int))) base2b y3b fresh6b)
      else
      bif (decide ((List.length r4 : Int) = (0 : Int))) then
        bif decide (0 ≤ (IntKind.wrap .i64 ((IntKind.wrap .i64 (y3b.2.1 + (List.length r4 : Int))) - (1 : Int))) ∧ (IntKind.wrap .i64 ((IntKind.wrap .i64 (y3b.2.1 + (List.length r4 : Int))) - (1 : Int))) < (List.length base2b : Int)) then
        bif (!decide ((rd (0 : Int) base2b (IntKind.wrap .i64 ((IntKind.wrap .i64 (y3b.2.1 + (List.length r4 : Int))) - (1 : Int)))) = (10 : Int))) then
          (wfD typing_Finish_d0 (n8, r4, (IntKind.wrap .i64 ((IntKind.wrap .i64 (y3b.2.1 + (List.length r4 : Int))) - (1 : Int))), base2b, y3b, fresh6b, ()) → typing_Finish_J0 (fun (x4 : List ((Int × List Int × List Int))) (x5 : Int) => wfD typing_Finish_d0r (x4, x5, ()) → (
              kr x4 x5)) n8 r4 (IntKind.wrap .i64 ((IntKind.wrap .i64 (y3b.2.1 + (List.length r4 : Int))) - (1 : Int))) base2b y3b fresh6b)
        else
          (wfD typing_Finish_d0 (n8, r4, (IntKind.wrap .i64 (y3b.2.1 + (List.length r4 : Int))), base2b, y3b, fresh6b, ()) → typing_Finish_J0 (fun (x4 : List ((Int × List Int × List Int))) (x5 : Int) => wfD typing_Finish_d0r (x4, x5, ()) → (
              kr x4 x5)) n8 r4 (IntKind.wrap .i64 (y3b.2.1 + (List.length r4 : Int))) base2b y3b fresh6b)
        else False
      else
        (wfD typing_Finish_d0 (n8, r4, (IntKind.wrap .i64 (y3b.2.1 + (List.length r4 : Int))), base2b, y3b, fresh6b, ()) → typing_Finish_J0 (fun (x4 : List ((Int × List Int × List Int))) (x5 : Int) => wfD typing_Finish_d0r (x4, x5, ()) → (
            kr x4 x5)) n8 r4 (IntKind.wrap .i64 (y3b.2.1 + (List.length r4 : Int))) base2b y3b fresh6b)
      else False
    else
    bif (decide ((List.length r4 : Int) = (0 : Int))) then
      bif decide (0 ≤ (IntKind.wrap .i64 ((IntKind.wrap .i64 (y3b.2.1 + (List.length r4 : Int))) - (1 : Int))) ∧ (IntKind.wrap .i64 ((IntKind.wrap .i64 (y3b.2.1 + (List.length r4 : Int))) - (1 : Int))) < (List.length base2b : Int)) then
      bif (!decide ((rd (0 : Int) base2b (IntKind.wrap .i64 ((IntKind.wrap .i64 (y3b.2.1 + (List.length r4 : Int))) - (1 : Int)))) = (10 : Int))) then
        (wfD typing_Finish_d0 (n8, r4, (IntKind.wrap .i64 ((IntKind.wrap .i64 (y3b.2.1 + (List.length r4 : Int))) - (1 : Int))), base2b, y3b, fresh6b, ()) → typing_Finish_J0 (fun (x4 : List ((Int × List Int × List Int))) (x5 : Int) => wfD typing_Finish_d0r (x4, x5, ()) → (
            kr x4 x5)) n8 r4 (IntKind.wrap .i64 ((IntKind.wrap .i64 (y3b.2.1 + (List.length r4 : Int))) - (1 : Int))) base2b y3b fresh6b)
      else
        (wfD typing_Finish_d0 (n8, r4, (IntKind.wrap .i64 (y3b.2.1 + (List.length r4 : Int))), base2b, y3b, fresh6b, ()) → typing_Finish_J0 (fun (x4 : List ((Int × List Int × List Int))) (x5 : Int) => wfD typing_Finish_d0r (x4, x5, ()) → (
            kr x4 x5)) n8 r4 (IntKind.wrap .i64 (y3b.2.1 + (List.length r4 : Int))) base2b y3b fresh6b)
      else False
    else
      (wfD typing_Finish_d0 (n8, r4, (IntKind.wrap .i64 (y3b.2.1 + (List.length r4 : Int))), base2b, y3b, fresh6b, ()) → typing_Finish_J0 (fun (x4 : List ((Int × List Int × List Int))) (x5 : Int) => wfD typing_Finish_d0r (x4, x5, ()) → (
          kr x4 x5)) n8 r4 (IntKind.wrap .i64 (y3b.2.1 + (List.length r4 : Int))) base2b y3b fresh6b)
  else
    (wfD typing_Finish_d0 (n8, r4, (IntKind.wrap .i64 (y3b.2.1 + (List.length r4 : Int))), base2b, y3b, fresh6b, ()) → typing_Finish_J0 (fun (x4 : List ((Int × List Int × List Int))) (x5 : Int) => wfD typing_Finish_d0r (x4, x5, ()) → (
        kr x4 x5)) n8 r4 (IntKind.wrap .i64 (y3b.2.1 + (List.length r4 : Int))) base2b y3b fresh6b))))
theorem typing_Finish_s1 (k : Ex → St → Prop) (n8 : Int) (base2b : List Int) (y3b : (Int × Int × List Int × Int × Int)) (fresh6b : Int) :
    ex tb (getG typing_Finish_G) typing_Finish_B0 (at' (bodyOf Try.f19) [1, 1, 1, 1, 1, 1]) [1, 1, 1, 1, 1, 1] (mkD 102 typing_Finish_d1 (n8, base2b, y3b, fresh6b, ())) (wk 102 typing_Finish_dx1 k) =
    typing_Finish_J1 (fun x4 x5 => wfD typing_Finish_d1r (x4, x5, ()) → k .ret (mkD 102 typing_Finish_d1r (x4, x5, ()))) n8 base2b y3b fresh6b := by kernel_rfl
theorem typing_Finish_v1 (k : Ex → St → Prop) : ∀ v : vals typing_Finish_d1, ex tb (getG typing_Finish_G) typing_Finish_B0 (at' (bodyOf Try.f19) [1, 1, 1, 1, 1, 1]) [1, 1, 1, 1, 1, 1] (mkD 102 typing_Finish_d1 v) (wk 102 typing_Finish_dx1 k) = typing_Finish_J1 (fun x4 x5 => wfD typing_Finish_d1r (x4, x5, ()) → k .ret (mkD 102 typing_Finish_d1r (x4, x5, ()))) v.1 v.2.1 v.2.2.1 v.2.2.2.1
  | (n8, base2b, y3b, fresh6b, ()) => typing_Finish_s1 k n8 base2b y3b fresh6b
def typing_Finish_X1 : Pce := fun st k => ckD 102 typing_Finish_d1 st fun v => wfD typing_Finish_d1 v → typing_Finish_J1 (fun x4 x5 => wfD typing_Finish_d1r (x4, x5, ()) → k .ret (mkD 102 typing_Finish_d1r (x4, x5, ()))) v.1 v.2.1 v.2.2.1 v.2.2.2.1
set_option maxRecDepth 20000 in
theorem typing_Finish_x1 : SemOk Try.prog (at' (bodyOf Try.f19) [1, 1, 1, 1, 1, 1]) typing_Finish_X1 :=
  (SemOk.wk (N := 102) (ds := typing_Finish_d1) (dx := typing_Finish_dx1) (ex_sound tb_M tb_ok typing_Finish_Gok (typing_Finish_b0) (at' (bodyOf Try.f19) [1, 1, 1, 1, 1, 1]) [1, 1, 1, 1, 1, 1] rfl (storesC_at typing_Finish_st [1, 1, 1, 1, 1, 1]))).mono fun st k h => ckD_mono h fun v hv hw => Eq.mpr (typing_Finish_v1 k v) (hv hw)
def typing_Finish_B1 : Labs := ([1, 1, 1, 1, 1, 1], typing_Finish_X1) :: typing_Finish_B0
theorem typing_Finish_b1 : LabsOk Try.prog (bodyOf Try.f19) typing_Finish_B1 := LabsOk.cons typing_Finish_x1 (typing_Finish_b0)
def typing_Finish_raw (base0 : List Int) (y1 : (Int × Int × List Int × Int × Int)) (K : Res → List Cell → Prop) : Prop :=
  ∀ (r1 : Bool), r1 = typing_fits_F base0 y1 → (
  wfR (.one (.v (.bool) r1)) → (
  bif (!r1) then
    K (.tup [.fr 46 (.st (.pair (.int .i64) (.pair (.sl (.int .u8)) (.sl (.int .u8))))) ([] : List ((Int × List Int × List Int))), .v (.int .i64) (0 : Int)]) []
  else
    (
      (
        bytes_Count_P y1.2.2.1 ([(10 : Int)] : List Int) ∧ (
        ∀ (r2 : Int), r2 = bytes_Count_F y1.2.2.1 ([(10 : Int)] : List Int) → (
        wfR (.one (.v (.int .i64) r2)) → (
        (
          (
            typing_Finish_1_P y1.2.2.2.2 y1 base0 (IntKind.wrap .i64 ((List.length y1.2.2.1 : Int) - r2)) ∧ (
            ∀ (r3 : Int), r3 = typing_Finish_1_F y1.2.2.2.2 y1 base0 (IntKind.wrap .i64 ((List.length y1.2.2.1 : Int) - r2)) → (
            wfR (.one (.v (.int .i64) r3)) → (
            bif (decide ((65536 : Int) < (IntKind.wrap .i64 ((IntKind.wrap .i64 ((List.length base0 : Int) - r3)) + (IntKind.wrap .i64 (y1.2.2.2.2 * (List.length y1.2.2.1 : Int))))))) then
              (wfD typing_Finish_d1 ((1 : Int), base0, y1, (IntKind.wrap .i64 ((List.length y1.2.2.1 : Int) - r2)), ()) → typing_Finish_J1 (fun (x4 : List ((Int × List Int × List Int))) (x5 : Int) => wfD typing_Finish_d1r (x4, x5, ()) → (
                  K (.tup [.fr 46 (.st (.pair (.int .i64) (.pair (.sl (.int .u8)) (.sl (.int .u8))))) x4, .v (.int .i64) x5]) [])) (1 : Int) base0 y1 (IntKind.wrap .i64 ((List.length y1.2.2.1 : Int) - r2)))
            else
              (wfD typing_Finish_d1 (y1.2.2.2.2, base0, y1, (IntKind.wrap .i64 ((List.length y1.2.2.1 : Int) - r2)), ()) → typing_Finish_J1 (fun (x4 : List ((Int × List Int × List Int))) (x5 : Int) => wfD typing_Finish_d1r (x4, x5, ()) → (
                  K (.tup [.fr 46 (.st (.pair (.int .i64) (.pair (.sl (.int .u8)) (.sl (.int .u8))))) x4, .v (.int .i64) x5]) [])) y1.2.2.2.2 base0 y1 (IntKind.wrap .i64 ((List.length y1.2.2.1 : Int) - r2))))))) ∧ (
            typing_Finish_1_P y1.2.2.2.2 y1 base0 (IntKind.wrap .i64 ((List.length y1.2.2.1 : Int) - r2)) ∧ (
            ∀ (r45 : Int), r45 = typing_Finish_1_F y1.2.2.2.2 y1 base0 (IntKind.wrap .i64 ((List.length y1.2.2.1 : Int) - r2)) → (
            wfR (.one (.v (.int .i64) r45)) → (
            bif (decide ((65536 : Int) < (IntKind.wrap .i64 ((IntKind.wrap .i64 ((List.length base0 : Int) - r45)) + (IntKind.wrap .i64 (y1.2.2.2.2 * (List.length y1.2.2.1 : Int))))))) then
              (wfD typing_Finish_d1 ((1 : Int), base0, y1, (IntKind.wrap .i64 ((List.length y1.2.2.1 : Int) - r2)), ()) → typing_Finish_J1 (fun (x4 : List ((Int × List Int × List Int))) (x5 : Int) => wfD typing_Finish_d1r (x4, x5, ()) → (
                  K (.tup [.fr 46 (.st (.pair (.int .i64) (.pair (.sl (.int .u8)) (.sl (.int .u8))))) x4, .v (.int .i64) x5]) [])) (1 : Int) base0 y1 (IntKind.wrap .i64 ((List.length y1.2.2.1 : Int) - r2)))
            else
              (wfD typing_Finish_d1 (y1.2.2.2.2, base0, y1, (IntKind.wrap .i64 ((List.length y1.2.2.1 : Int) - r2)), ()) → typing_Finish_J1 (fun (x4 : List ((Int × List Int × List Int))) (x5 : Int) => wfD typing_Finish_d1r (x4, x5, ()) → (
                  K (.tup [.fr 46 (.st (.pair (.int .i64) (.pair (.sl (.int .u8)) (.sl (.int .u8))))) x4, .v (.int .i64) x5]) [])) y1.2.2.2.2 base0 y1 (IntKind.wrap .i64 ((List.length y1.2.2.1 : Int) - r2))))))) ∧ True) ∧ (
          typing_Finish_1_P y1.2.2.2.2 y1 base0 (IntKind.wrap .i64 ((List.length y1.2.2.1 : Int) - r2)) ∧ (
          ∀ (r46 : Int), r46 = typing_Finish_1_F y1.2.2.2.2 y1 base0 (IntKind.wrap .i64 ((List.length y1.2.2.1 : Int) - r2)) → (
          wfR (.one (.v (.int .i64) r46)) → (
          (
            bif (decide ((65536 : Int) < (IntKind.wrap .i64 ((IntKind.wrap .i64 ((List.length base0 : Int) - r46)) + (IntKind.wrap .i64 (y1.2.2.2.2 * (List.length y1.2.2.1 : Int))))))) then
              (wfD typing_Finish_d1 ((1 : Int), base0, y1, (IntKind.wrap .i64 ((List.length y1.2.2.1 : Int) - r2)), ()) → typing_Finish_J1 (fun (x4 : List ((Int × List Int × List Int))) (x5 : Int) => wfD typing_Finish_d1r (x4, x5, ()) → (
                  K (.tup [.fr 46 (.st (.pair (.int .i64) (.pair (.sl (.int .u8)) (.sl (.int .u8))))) x4, .v (.int .i64) x5]) [])) (1 : Int) base0 y1 (IntKind.wrap .i64 ((List.length y1.2.2.1 : Int) - r2)))
            else
              (wfD typing_Finish_d1 (y1.2.2.2.2, base0, y1, (IntKind.wrap .i64 ((List.length y1.2.2.1 : Int) - r2)), ()) → typing_Finish_J1 (fun (x4 : List ((Int × List Int × List Int))) (x5 : Int) => wfD typing_Finish_d1r (x4, x5, ()) → (
                  K (.tup [.fr 46 (.st (.pair (.int .i64) (.pair (.sl (.int .u8)) (.sl (.int .u8))))) x4, .v (.int .i64) x5]) [])) y1.2.2.2.2 base0 y1 (IntKind.wrap .i64 ((List.length y1.2.2.1 : Int) - r2)))) ∧ (
            bif (decide ((65536 : Int) < (IntKind.wrap .i64 ((IntKind.wrap .i64 ((List.length base0 : Int) - r46)) + (IntKind.wrap .i64 (y1.2.2.2.2 * (List.length y1.2.2.1 : Int))))))) then
              (wfD typing_Finish_d1 ((1 : Int), base0, y1, (IntKind.wrap .i64 ((List.length y1.2.2.1 : Int) - r2)), ()) → typing_Finish_J1 (fun (x4 : List ((Int × List Int × List Int))) (x5 : Int) => wfD typing_Finish_d1r (x4, x5, ()) → (
                  K (.tup [.fr 46 (.st (.pair (.int .i64) (.pair (.sl (.int .u8)) (.sl (.int .u8))))) x4, .v (.int .i64) x5]) [])) (1 : Int) base0 y1 (IntKind.wrap .i64 ((List.length y1.2.2.1 : Int) - r2)))
            else
              (wfD typing_Finish_d1 (y1.2.2.2.2, base0, y1, (IntKind.wrap .i64 ((List.length y1.2.2.1 : Int) - r2)), ()) → typing_Finish_J1 (fun (x4 : List ((Int × List Int × List Int))) (x5 : Int) => wfD typing_Finish_d1r (x4, x5, ()) → (
                  K (.tup [.fr 46 (.st (.pair (.int .i64) (.pair (.sl (.int .u8)) (.sl (.int .u8))))) x4, .v (.int .i64) x5]) [])) y1.2.2.2.2 base0 y1 (IntKind.wrap .i64 ((List.length y1.2.2.1 : Int) - r2)))) ∧ True)))) ∧ (
          (
            typing_Finish_1_P y1.2.2.2.2 y1 base0 (IntKind.wrap .i64 ((List.length y1.2.2.1 : Int) - r2)) ∧ (
            ∀ (r47 : Int), r47 = typing_Finish_1_F y1.2.2.2.2 y1 base0 (IntKind.wrap .i64 ((List.length y1.2.2.1 : Int) - r2)) → (
            wfR (.one (.v (.int .i64) r47)) → (
            bif (decide ((65536 : Int) < (IntKind.wrap .i64 ((IntKind.wrap .i64 ((List.length base0 : Int) - r47)) + (IntKind.wrap .i64 (y1.2.2.2.2 * (List.length y1.2.2.1 : Int))))))) then
              (wfD typing_Finish_d1 ((1 : Int), base0, y1, (IntKind.wrap .i64 ((List.length y1.2.2.1 : Int) - r2)), ()) → typing_Finish_J1 (fun (x4 : List ((Int × List Int × List Int))) (x5 : Int) => wfD typing_Finish_d1r (x4, x5, ()) → (
                  K (.tup [.fr 46 (.st (.pair (.int .i64) (.pair (.sl (.int .u8)) (.sl (.int .u8))))) x4, .v (.int .i64) x5]) [])) (1 : Int) base0 y1 (IntKind.wrap .i64 ((List.length y1.2.2.1 : Int) - r2)))
            else
              (wfD typing_Finish_d1 (y1.2.2.2.2, base0, y1, (IntKind.wrap .i64 ((List.length y1.2.2.1 : Int) - r2)), ()) → typing_Finish_J1 (fun (x4 : List ((Int × List Int × List Int))) (x5 : Int) => wfD typing_Finish_d1r (x4, x5, ()) → (
                  K (.tup [.fr 46 (.st (.pair (.int .i64) (.pair (.sl (.int .u8)) (.sl (.int .u8))))) x4, .v (.int .i64) x5]) [])) y1.2.2.2.2 base0 y1 (IntKind.wrap .i64 ((List.length y1.2.2.1 : Int) - r2))))))) ∧ (
            typing_Finish_1_P y1.2.2.2.2 y1 base0 (IntKind.wrap .i64 ((List.length y1.2.2.1 : Int) - r2)) ∧ (
            ∀ (r48 : Int), r48 = typing_Finish_1_F y1.2.2.2.2 y1 base0 (IntKind.wrap .i64 ((List.length y1.2.2.1 : Int) - r2)) → (
            wfR (.one (.v (.int .i64) r48)) → (
            bif (decide ((65536 : Int) < (IntKind.wrap .i64 ((IntKind.wrap .i64 ((List.length base0 : Int) - r48)) + (IntKind.wrap .i64 (y1.2.2.2.2 * (List.length y1.2.2.1 : Int))))))) then
              (wfD typing_Finish_d1 ((1 : Int), base0, y1, (IntKind.wrap .i64 ((List.length y1.2.2.1 : Int) - r2)), ()) → typing_Finish_J1 (fun (x4 : List ((Int × List Int × List Int))) (x5 : Int) => wfD typing_Finish_d1r (x4, x5, ()) → (
                  K (.tup [.fr 46 (.st (.pair (.int .i64) (.pair (.sl (.int .u8)) (.sl (.int .u8))))) x4, .v (.int .i64) x5]) [])) (1 : Int) base0 y1 (IntKind.wrap .i64 ((List.length y1.2.2.1 : Int) - r2)))
            else
              (wfD typing_Finish_d1 (y1.2.2.2.2, base0, y1, (IntKind.wrap .i64 ((List.length y1.2.2.1 : Int) - r2)), ()) → typing_Finish_J1 (fun (x4 : List ((Int × List Int × List Int))) (x5 : Int) => wfD typing_Finish_d1r (x4, x5, ()) → (
                  K (.tup [.fr 46 (.st (.pair (.int .i64) (.pair (.sl (.int .u8)) (.sl (.int .u8))))) x4, .v (.int .i64) x5]) [])) y1.2.2.2.2 base0 y1 (IntKind.wrap .i64 ((List.length y1.2.2.1 : Int) - r2))))))) ∧ True) ∧ True)))) ∧ (
        bytes_Count_P y1.2.2.1 ([(10 : Int)] : List Int) ∧ (
        ∀ (r49 : Int), r49 = bytes_Count_F y1.2.2.1 ([(10 : Int)] : List Int) → (
        wfR (.one (.v (.int .i64) r49)) → (
        (
          (
            typing_Finish_1_P y1.2.2.2.2 y1 base0 (IntKind.wrap .i64 ((List.length y1.2.2.1 : Int) - r49)) ∧ (
            ∀ (r50 : Int), r50 = typing_Finish_1_F y1.2.2.2.2 y1 base0 (IntKind.wrap .i64 ((List.length y1.2.2.1 : Int) - r49)) → (
            wfR (.one (.v (.int .i64) r50)) → (
            bif (decide ((65536 : Int) < (IntKind.wrap .i64 ((IntKind.wrap .i64 ((List.length base0 : Int) - r50)) + (IntKind.wrap .i64 (y1.2.2.2.2 * (List.length y1.2.2.1 : Int))))))) then
              (wfD typing_Finish_d1 ((1 : Int), base0, y1, (IntKind.wrap .i64 ((List.length y1.2.2.1 : Int) - r49)), ()) → typing_Finish_J1 (fun (x4 : List ((Int × List Int × List Int))) (x5 : Int) => wfD typing_Finish_d1r (x4, x5, ()) → (
                  K (.tup [.fr 46 (.st (.pair (.int .i64) (.pair (.sl (.int .u8)) (.sl (.int .u8))))) x4, .v (.int .i64) x5]) [])) (1 : Int) base0 y1 (IntKind.wrap .i64 ((List.length y1.2.2.1 : Int) - r49)))
            else
              (wfD typing_Finish_d1 (y1.2.2.2.2, base0, y1, (IntKind.wrap .i64 ((List.length y1.2.2.1 : Int) - r49)), ()) → typing_Finish_J1 (fun (x4 : List ((Int × List Int × List Int))) (x5 : Int) => wfD typing_Finish_d1r (x4, x5, ()) → (
                  K (.tup [.fr 46 (.st (.pair (.int .i64) (.pair (.sl (.int .u8)) (.sl (.int .u8))))) x4, .v (.int .i64) x5]) [])) y1.2.2.2.2 base0 y1 (IntKind.wrap .i64 ((List.length y1.2.2.1 : Int) - r49))))))) ∧ (
            typing_Finish_1_P y1.2.2.2.2 y1 base0 (IntKind.wrap .i64 ((List.length y1.2.2.1 : Int) - r49)) ∧ (
            ∀ (r51 : Int), r51 = typing_Finish_1_F y1.2.2.2.2 y1 base0 (IntKind.wrap .i64 ((List.length y1.2.2.1 : Int) - r49)) → (
            wfR (.one (.v (.int .i64) r51)) → (
            bif (decide ((65536 : Int) < (IntKind.wrap .i64 ((IntKind.wrap .i64 ((List.length base0 : Int) - r51)) + (IntKind.wrap .i64 (y1.2.2.2.2 * (List.length y1.2.2.1 : Int))))))) then
              (wfD typing_Finish_d1 ((1 : Int), base0, y1, (IntKind.wrap .i64 ((List.length y1.2.2.1 : Int) - r49)), ()) → typing_Finish_J1 (fun (x4 : List ((Int × List Int × List Int))) (x5 : Int) => wfD typing_Finish_d1r (x4, x5, ()) → (
                  K (.tup [.fr 46 (.st (.pair (.int .i64) (.pair (.sl (.int .u8)) (.sl (.int .u8))))) x4, .v (.int .i64) x5]) [])) (1 : Int) base0 y1 (IntKind.wrap .i64 ((List.length y1.2.2.1 : Int) - r49)))
            else
              (wfD typing_Finish_d1 (y1.2.2.2.2, base0, y1, (IntKind.wrap .i64 ((List.length y1.2.2.1 : Int) - r49)), ()) → typing_Finish_J1 (fun (x4 : List ((Int × List Int × List Int))) (x5 : Int) => wfD typing_Finish_d1r (x4, x5, ()) → (
                  K (.tup [.fr 46 (.st (.pair (.int .i64) (.pair (.sl (.int .u8)) (.sl (.int .u8))))) x4, .v (.int .i64) x5]) [])) y1.2.2.2.2 base0 y1 (IntKind.wrap .i64 ((List.length y1.2.2.1 : Int) - r49))))))) ∧ True) ∧ (
          typing_Finish_1_P y1.2.2.2.2 y1 base0 (IntKind.wrap .i64 ((List.length y1.2.2.1 : Int) - r49)) ∧ (
          ∀ (r52 : Int), r52 = typing_Finish_1_F y1.2.2.2.2 y1 base0 (IntKind.wrap .i64 ((List.length y1.2.2.1 : Int) - r49)) → (
          wfR (.one (.v (.int .i64) r52)) → (
          (
            bif (decide ((65536 : Int) < (IntKind.wrap .i64 ((IntKind.wrap .i64 ((List.length base0 : Int) - r52)) + (IntKind.wrap .i64 (y1.2.2.2.2 * (List.length y1.2.2.1 : Int))))))) then
              (wfD typing_Finish_d1 ((1 : Int), base0, y1, (IntKind.wrap .i64 ((List.length y1.2.2.1 : Int) - r49)), ()) → typing_Finish_J1 (fun (x4 : List ((Int × List Int × List Int))) (x5 : Int) => wfD typing_Finish_d1r (x4, x5, ()) → (
                  K (.tup [.fr 46 (.st (.pair (.int .i64) (.pair (.sl (.int .u8)) (.sl (.int .u8))))) x4, .v (.int .i64) x5]) [])) (1 : Int) base0 y1 (IntKind.wrap .i64 ((List.length y1.2.2.1 : Int) - r49)))
            else
              (wfD typing_Finish_d1 (y1.2.2.2.2, base0, y1, (IntKind.wrap .i64 ((List.length y1.2.2.1 : Int) - r49)), ()) → typing_Finish_J1 (fun (x4 : List ((Int × List Int × List Int))) (x5 : Int) => wfD typing_Finish_d1r (x4, x5, ()) → (
                  K (.tup [.fr 46 (.st (.pair (.int .i64) (.pair (.sl (.int .u8)) (.sl (.int .u8))))) x4, .v (.int .i64) x5]) [])) y1.2.2.2.2 base0 y1 (IntKind.wrap .i64 ((List.length y1.2.2.1 : Int) - r49)))) ∧ (
            bif (decide ((65536 : Int) < (IntKind.wrap .i64 ((IntKind.wrap .i64 ((List.length base0 : Int) - r52)) + (IntKind.wrap .i64 (y1.2.2.2.2 * (List.length y1.2.2.1 : Int))))))) then
              (wfD typing_Finish_d1 ((1 : Int), base0, y1, (IntKind.wrap .i64 ((List.length y1.2.2.1 : Int) - r49)), ()) → typing_Finish_J1 (fun (x4 : List ((Int × List Int × List Int))) (x5 : Int) => wfD typing_Finish_d1r (x4, x5, ()) → (
                  K (.tup [.fr 46 (.st (.pair (.int .i64) (.pair (.sl (.int .u8)) (.sl (.int .u8))))) x4, .v (.int .i64) x5]) [])) (1 : Int) base0 y1 (IntKind.wrap .i64 ((List.length y1.2.2.1 : Int) - r49)))
            else
              (wfD typing_Finish_d1 (y1.2.2.2.2, base0, y1, (IntKind.wrap .i64 ((List.length y1.2.2.1 : Int) - r49)), ()) → typing_Finish_J1 (fun (x4 : List ((Int × List Int × List Int))) (x5 : Int) => wfD typing_Finish_d1r (x4, x5, ()) → (
                  K (.tup [.fr 46 (.st (.pair (.int .i64) (.pair (.sl (.int .u8)) (.sl (.int .u8))))) x4, .v (.int .i64) x5]) [])) y1.2.2.2.2 base0 y1 (IntKind.wrap .i64 ((List.length y1.2.2.1 : Int) - r49)))) ∧ True)))) ∧ (
          (
            typing_Finish_1_P y1.2.2.2.2 y1 base0 (IntKind.wrap .i64 ((List.length y1.2.2.1 : Int) - r49)) ∧ (
            ∀ (r53 : Int), r53 = typing_Finish_1_F y1.2.2.2.2 y1 base0 (IntKind.wrap .i64 ((List.length y1.2.2.1 : Int) - r49)) → (
            wfR (.one (.v (.int .i64) r53)) → (
            bif (decide ((65536 : Int) < (IntKind.wrap .i64 ((IntKind.wrap .i64 ((List.length base0 : Int) - r53)) + (IntKind.wrap .i64 (y1.2.2.2.2 * (List.length y1.2.2.1 : Int))))))) then
              (wfD typing_Finish_d1 ((1 : Int), base0, y1, (IntKind.wrap .i64 ((List.length y1.2.2.1 : Int) - r49)), ()) → typing_Finish_J1 (fun (x4 : List ((Int × List Int × List Int))) (x5 : Int) => wfD typing_Finish_d1r (x4, x5, ()) → (
                  K (.tup [.fr 46 (.st (.pair (.int .i64) (.pair (.sl (.int .u8)) (.sl (.int .u8))))) x4, .v (.int .i64) x5]) [])) (1 : Int) base0 y1 (IntKind.wrap .i64 ((List.length y1.2.2.1 : Int) - r49)))
            else
              (wfD typing_Finish_d1 (y1.2.2.2.2, base0, y1, (IntKind.wrap .i64 ((List.length y1.2.2.1 : Int) - r49)), ()) → typing_Finish_J1 (fun (x4 : List ((Int × List Int × List Int))) (x5 : Int) => wfD typing_Finish_d1r (x4, x5, ()) → (
                  K (.tup [.fr 46 (.st (.pair (.int .i64) (.pair (.sl (.int .u8)) (.sl (.int .u8))))) x4, .v (.int .i64) x5]) [])) y1.2.2.2.2 base0 y1 (IntKind.wrap .i64 ((List.length y1.2.2.1 : Int) - r49))))))) ∧ (
            typing_Finish_1_P y1.2.2.2.2 y1 base0 (IntKind.wrap .i64 ((List.length y1.2.2.1 : Int) - r49)) ∧ (
            ∀ (r54 : Int), r54 = typing_Finish_1_F y1.2.2.2.2 y1 base0 (IntKind.wrap .i64 ((List.length y1.2.2.1 : Int) - r49)) → (
            wfR (.one (.v (.int .i64) r54)) → (
            bif (decide ((65536 : Int) < (IntKind.wrap .i64 ((IntKind.wrap .i64 ((List.length base0 : Int) - r54)) + (IntKind.wrap .i64 (y1.2.2.2.2 * (List.length y1.2.2.1 : Int))))))) then
              (wfD typing_Finish_d1 ((1 : Int), base0, y1, (IntKind.wrap .i64 ((List.length y1.2.2.1 : Int) - r49)), ()) → typing_Finish_J1 (fun (x4 : List ((Int × List Int × List Int))) (x5 : Int) => wfD typing_Finish_d1r (x4, x5, ()) → (
                  K (.tup [.fr 46 (.st (.pair (.int .i64) (.pair (.sl (.int .u8)) (.sl (.int .u8))))) x4, .v (.int .i64) x5]) [])) (1 : Int) base0 y1 (IntKind.wrap .i64 ((List.length y1.2.2.1 : Int) - r49)))
            else
              (wfD typing_Finish_d1 (y1.2.2.2.2, base0, y1, (IntKind.wrap .i64 ((List.length y1.2.2.1 : Int) - r49)), ()) → typing_Finish_J1 (fun (x4 : List ((Int × List Int × List Int))) (x5 : Int) => wfD typing_Finish_d1r (x4, x5, ()) → (
                  K (.tup [.fr 46 (.st (.pair (.int .i64) (.pair (.sl (.int .u8)) (.sl (.int .u8))))) x4, .v (.int .i64) x5]) [])) y1.2.2.2.2 base0 y1 (IntKind.wrap .i64 ((List.length y1.2.2.1 : Int) - r49))))))) ∧ True) ∧ True)))) ∧ True) ∧ (
      bytes_Count_P y1.2.2.1 ([(10 : Int)] : List Int) ∧ (
      ∀ (r55 : Int), r55 = bytes_Count_F y1.2.2.1 ([(10 : Int)] : List Int) → (
      wfR (.one (.v (.int .i64) r55)) → (
      (
        (
          typing_Finish_1_P y1.2.2.2.2 y1 base0 (IntKind.wrap .i64 ((List.length y1.2.2.1 : Int) - r55)) ∧ (
          ∀ (r56 : Int), r56 = typing_Finish_1_F y1.2.2.2.2 y1 base0 (IntKind.wrap .i64 ((List.length y1.2.2.1 : Int) - r55)) → (
          wfR (.one (.v (.int .i64) r56)) → (
          bif (decide ((65536 : Int) < (IntKind.wrap .i64 ((IntKind.wrap .i64 ((List.length base0 : Int) - r56)) + (IntKind.wrap .i64 (y1.2.2.2.2 * (List.length y1.2.2.1 : Int))))))) then
            (wfD typing_Finish_d1 ((1 : Int), base0, y1, (IntKind.wrap .i64 ((List.length y1.2.2.1 : Int) - r55)), ()) → typing_Finish_J1 (fun (x4 : List ((Int × List Int × List Int))) (x5 : Int) => wfD typing_Finish_d1r (x4, x5, ()) → (
                K (.tup [.fr 46 (.st (.pair (.int .i64) (.pair (.sl (.int .u8)) (.sl (.int .u8))))) x4, .v (.int .i64) x5]) [])) (1 : Int) base0 y1 (IntKind.wrap .i64 ((List.length y1.2.2.1 : Int) - r55)))
          else
            (wfD typing_Finish_d1 (y1.2.2.2.2, base0, y1, (IntKind.wrap .i64 ((List.length y1.2.2.1 : Int) - r55)), ()) → typing_Finish_J1 (fun (x4 : List ((Int × List Int × List Int))) (x5 : Int) => wfD typing_Finish_d1r (x4, x5, ()) → (
                K (.tup [.fr 46 (.st (.pair (.int .i64) (.pair (.sl (.int .u8)) (.sl (.int .u8))))) x4, .v (.int .i64) x5]) [])) y1.2.2.2.2 base0 y1 (IntKind.wrap .i64 ((List.length y1.2.2.1 : Int) - r55))))))) ∧ (
          typing_Finish_1_P y1.2.2.2.2 y1 base0 (IntKind.wrap .i64 ((List.length y1.2.2.1 : Int) - r55)) ∧ (
          ∀ (r57 : Int), r57 = typing_Finish_1_F y1.2.2.2.2 y1 base0 (IntKind.wrap .i64 ((List.length y1.2.2.1 : Int) - r55)) → (
          wfR (.one (.v (.int .i64) r57)) → (
          bif (decide ((65536 : Int) < (IntKind.wrap .i64 ((IntKind.wrap .i64 ((List.length base0 : Int) - r57)) + (IntKind.wrap .i64 (y1.2.2.2.2 * (List.length y1.2.2.1 : Int))))))) then
            (wfD typing_Finish_d1 ((1 : Int), base0, y1, (IntKind.wrap .i64 ((List.length y1.2.2.1 : Int) - r55)), ()) → typing_Finish_J1 (fun (x4 : List ((Int × List Int × List Int))) (x5 : Int) => wfD typing_Finish_d1r (x4, x5, ()) → (
                K (.tup [.fr 46 (.st (.pair (.int .i64) (.pair (.sl (.int .u8)) (.sl (.int .u8))))) x4, .v (.int .i64) x5]) [])) (1 : Int) base0 y1 (IntKind.wrap .i64 ((List.length y1.2.2.1 : Int) - r55)))
          else
            (wfD typing_Finish_d1 (y1.2.2.2.2, base0, y1, (IntKind.wrap .i64 ((List.length y1.2.2.1 : Int) - r55)), ()) → typing_Finish_J1 (fun (x4 : List ((Int × List Int × List Int))) (x5 : Int) => wfD typing_Finish_d1r (x4, x5, ()) → (
                K (.tup [.fr 46 (.st (.pair (.int .i64) (.pair (.sl (.int .u8)) (.sl (.int .u8))))) x4, .v (.int .i64) x5]) [])) y1.2.2.2.2 base0 y1 (IntKind.wrap .i64 ((List.length y1.2.2.1 : Int) - r55))))))) ∧ True) ∧ (
        typing_Finish_1_P y1.2.2.2.2 y1 base0 (IntKind.wrap .i64 ((List.length y1.2.2.1 : Int) - r55)) ∧ (
        ∀ (r58 : Int), r58 = typing_Finish_1_F y1.2.2.2.2 y1 base0 (IntKind.wrap .i64 ((List.length y1.2.2.1 : Int) - r55)) → (
        wfR (.one (.v (.int .i64) r58)) → (
        (
          bif (decide ((65536 : Int) < (IntKind.wrap .i64 ((IntKind.wrap .i64 ((List.length base0 : Int) - r58)) + (IntKind.wrap .i64 (y1.2.2.2.2 * (List.length y1.2.2.1 : Int))))))) then
            (wfD typing_Finish_d1 ((1 : Int), base0, y1, (IntKind.wrap .i64 ((List.length y1.2.2.1 : Int) - r55)), ()) → typing_Finish_J1 (fun (x4 : List ((Int × List Int × List Int))) (x5 : Int) => wfD typing_Finish_d1r (x4, x5, ()) → (
                K (.tup [.fr 46 (.st (.pair (.int .i64) (.pair (.sl (.int .u8)) (.sl (.int .u8))))) x4, .v (.int .i64) x5]) [])) (1 : Int) base0 y1 (IntKind.wrap .i64 ((List.length y1.2.2.1 : Int) - r55)))
          else
            (wfD typing_Finish_d1 (y1.2.2.2.2, base0, y1, (IntKind.wrap .i64 ((List.length y1.2.2.1 : Int) - r55)), ()) → typing_Finish_J1 (fun (x4 : List ((Int × List Int × List Int))) (x5 : Int) => wfD typing_Finish_d1r (x4, x5, ()) → (
                K (.tup [.fr 46 (.st (.pair (.int .i64) (.pair (.sl (.int .u8)) (.sl (.int .u8))))) x4, .v (.int .i64) x5]) [])) y1.2.2.2.2 base0 y1 (IntKind.wrap .i64 ((List.length y1.2.2.1 : Int) - r55)))) ∧ (
          bif (decide ((65536 : Int) < (IntKind.wrap .i64 ((IntKind.wrap .i64 ((List.length base0 : Int) - r58)) + (IntKind.wrap .i64 (y1.2.2.2.2 * (List.length y1.2.2.1 : Int))))))) then
            (wfD typing_Finish_d1 ((1 : Int), base0, y1, (IntKind.wrap .i64 ((List.length y1.2.2.1 : Int) - r55)), ()) → typing_Finish_J1 (fun (x4 : List ((Int × List Int × List Int))) (x5 : Int) => wfD typing_Finish_d1r (x4, x5, ()) → (
                K (.tup [.fr 46 (.st (.pair (.int .i64) (.pair (.sl (.int .u8)) (.sl (.int .u8))))) x4, .v (.int .i64) x5]) [])) (1 : Int) base0 y1 (IntKind.wrap .i64 ((List.length y1.2.2.1 : Int) - r55)))
          else
            (wfD typing_Finish_d1 (y1.2.2.2.2, base0, y1, (IntKind.wrap .i64 ((List.length y1.2.2.1 : Int) - r55)), ()) → typing_Finish_J1 (fun (x4 : List ((Int × List Int × List Int))) (x5 : Int) => wfD typing_Finish_d1r (x4, x5, ()) → (
                K (.tup [.fr 46 (.st (.pair (.int .i64) (.pair (.sl (.int .u8)) (.sl (.int .u8))))) x4, .v (.int .i64) x5]) [])) y1.2.2.2.2 base0 y1 (IntKind.wrap .i64 ((List.length y1.2.2.1 : Int) - r55)))) ∧ True)))) ∧ (
        (
          typing_Finish_1_P y1.2.2.2.2 y1 base0 (IntKind.wrap .i64 ((List.length y1.2.2.1 : Int) - r55)) ∧ (
          ∀ (r59 : Int), r59 = typing_Finish_1_F y1.2.2.2.2 y1 base0 (IntKind.wrap .i64 ((List.length y1.2.2.1 : Int) - r55)) → (
          wfR (.one (.v (.int .i64) r59)) → (
          bif (decide ((65536 : Int) < (IntKind.wrap .i64 ((IntKind.wrap .i64 ((List.length base0 : Int) - r59)) + (IntKind.wrap .i64 (y1.2.2.2.2 * (List.length y1.2.2.1 : Int))))))) then
            (wfD typing_Finish_d1 ((1 : Int), base0, y1, (IntKind.wrap .i64 ((List.length y1.2.2.1 : Int) - r55)), ()) → typing_Finish_J1 (fun (x4 : List ((Int × List Int × List Int))) (x5 : Int) => wfD typing_Finish_d1r (x4, x5, ()) → (
                K (.tup [.fr 46 (.st (.pair (.int .i64) (.pair (.sl (.int .u8)) (.sl (.int .u8))))) x4, .v (.int .i64) x5]) [])) (1 : Int) base0 y1 (IntKind.wrap .i64 ((List.length y1.2.2.1 : Int) - r55)))
          else
            (wfD typing_Finish_d1 (y1.2.2.2.2, base0, y1, (IntKind.wrap .i64 ((List.length y1.2.2.1 : Int) - r55)), ()) → typing_Finish_J1 (fun (x4 : List ((Int × List Int × List Int))) (x5 : Int) => wfD typing_Finish_d1r (x4, x5, ()) → (
                K (.tup [.fr 46 (.st (.pair (.int .i64) (.pair (.sl (.int .u8)) (.sl (.int .u8))))) x4, .v (.int .i64) x5]) [])) y1.2.2.2.2 base0 y1 (IntKind.wrap .i64 ((List.length y1.2.2.1 : Int) - r55))))))) ∧ (
          typing_Finish_1_P y1.2.2.2.2 y1 base0 (IntKind.wrap .i64 ((List.length y1.2.2.1 : Int) - r55)) ∧ (
          ∀ (r60 : Int), r60 = typing_Finish_1_F y1.2.2.2.2 y1 base0 (IntKind.wrap .i64 ((List.length y1.2.2.1 : Int) - r55)) → (
          wfR (.one (.v (.int .i64) r60)) → (
          bif (decide ((65536 : Int) < (IntKind.wrap .i64 ((IntKind.wrap .i64 ((List.length base0 : Int) - r60)) + (IntKind.wrap .i64 (y1.2.2.2.2 * (List.length y1.2.2.1 : Int))))))) then
            (wfD typing_Finish_d1 ((1 : Int), base0, y1, (IntKind.wrap .i64 ((List.length y1.2.2.1 : Int) - r55)), ()) → typing_Finish_J1 (fun (x4 : List ((Int × List Int × List Int))) (x5 : Int) => wfD typing_Finish_d1r (x4, x5, ()) → (
                K (.tup [.fr 46 (.st (.pair (.int .i64) (.pair (.sl (.int .u8)) (.sl (.int .u8))))) x4, .v (.int .i64) x5]) [])) (1 : Int) base0 y1 (IntKind.wrap .i64 ((List.length y1.2.2.1 : Int) - r55)))
          else
            (wfD typing_Finish_d1 (y1.2.2.2.2, base0, y1, (IntKind.wrap .i64 ((List.length y1.2.2.1 : Int) - r55)), ()) → typing_Finish_J1 (fun (x4 : List ((Int × List Int × List Int))) (x5 : Int) => wfD typing_Finish_d1r (x4, x5, ()) → (
                K (.tup [.fr 46 (.st (.pair (.int .i64) (.pair (.sl (.int .u8)) (.sl (.int .u8))))) x4, .v (.int .i64) x5]) [])) y1.2.2.2.2 base0 y1 (IntKind.wrap .i64 ((List.length y1.2.2.1 : Int) - r55))))))) ∧ True) ∧ True)))) ∧ True))
def typing_Finish_A : List AS := [.v (.sl (.int .u8)), .v (.st (.pair (.int .u8) (.pair (.int .i64) (.pair (.sl (.int .u8)) (.pair (.int .i64) (.int .i64))))))]
theorem typing_Finish_walk (base0 : List Int) (y1 : (Int × Int × List Int × Int × Int)) (K : Res → List Cell → Prop) : runF tb (getG typing_Finish_G) typing_Finish_B1 Try.f19 [true, true] (mkA typing_Finish_A (base0, y1, ())) K = typing_Finish_raw base0 y1 K := by kernel_rfl

def typing_Finish_J0_P (n8 : Int) (text9 : List Int) (at10 : Int) (base2b : List Int) (y3b : (Int × Int × List Int × Int × Int)) (fresh6b : Int) : Prop :=
  bif (decide ((List.length text9 : Int) = (0 : Int))) then
    True
  else
    typing_Finish_1_P n8 y3b base2b fresh6b ∧ (
    let r5 : Int := typing_Finish_1_F n8 y3b base2b fresh6b
    (0 ≤ y3b.2.1 ∧ y3b.2.1 ≤ (IntKind.wrap .i64 (y3b.2.1 + r5)) ∧ (IntKind.wrap .i64 (y3b.2.1 + r5)) ≤ (List.length base2b : Int)) ∧ (
    bytes_Clone_P (slc base2b y3b.2.1 (IntKind.wrap .i64 (y3b.2.1 + r5)))))
def typing_Finish_J0_F (n8 : Int) (text9 : List Int) (at10 : Int) (base2b : List Int) (y3b : (Int × Int × List Int × Int × Int)) (fresh6b : Int) : List ((Int × List Int × List Int)) × Int :=
  bif (decide ((List.length text9 : Int) = (0 : Int))) then
    (([] : List ((Int × List Int × List Int))), at10)
  else
    let r5 : Int := typing_Finish_1_F n8 y3b base2b fresh6b
    let r6 : List Int := bytes_Clone_F (slc base2b y3b.2.1 (IntKind.wrap .i64 (y3b.2.1 + r5)))
    (([(y3b.2.1, r6, text9)] : List ((Int × List Int × List Int))), at10)
set_option maxRecDepth 20000 in
theorem typing_Finish_J0_sp (kr : List ((Int × List Int × List Int)) → Int → Prop) (n8 : Int) (text9 : List Int) (at10 : Int) (base2b : List Int) (y3b : (Int × Int × List Int × Int × Int)) (fresh6b : Int) (hp : typing_Finish_J0_P n8 text9 at10 base2b y3b fresh6b) (hr : ∀ q : List ((Int × List Int × List Int)) × Int, q = typing_Finish_J0_F n8 text9 at10 base2b y3b fresh6b → kr q.1 q.2) : typing_Finish_J0 kr n8 text9 at10 base2b y3b fresh6b := by
  unfold typing_Finish_J0
  unfold typing_Finish_J0_P at hp
  refine brb (fun c1 => ?_) (fun c1 => ?_)
  ·
    clear hp
    have e := hr _ ((ctrue c1) : typing_Finish_J0_F n8 text9 at10 base2b y3b fresh6b = _).symm
    exact e
  ·
    replace hp := cF c1 hp
    refine ⟨?_, ?_, ?_, ?_, trivial⟩
    ·
      refine ⟨?_, ?_, ?_, trivial⟩
      ·
        refine ⟨?_, ?_, trivial⟩
        ·
          refine ⟨hp.1, ?_⟩
          replace hp := hp.2
          intro r5 hr5
          subst hr5
          intro _
          refine asrt hp.1 ?_
          replace hp := hp.2
          refine ⟨hp, ?_⟩
          intro r6 hr6
          subst hr6
          intro _
          have e := hr _ ((cfalse c1) : typing_Finish_J0_F n8 text9 at10 base2b y3b fresh6b = _).symm
          exact e
        ·
          refine ⟨hp.1, ?_⟩
          replace hp := hp.2
          intro r7 hr7
          subst hr7
          intro _
          refine asrt hp.1 ?_
          replace hp := hp.2
          refine ⟨hp, ?_⟩
          intro r8 hr8
          subst hr8
          intro _
          have e := hr _ ((cfalse c1) : typing_Finish_J0_F n8 text9 at10 base2b y3b fresh6b = _).symm
          exact e
      ·
        refine ⟨?_, ?_, trivial⟩
        ·
          refine ⟨hp.1, ?_⟩
          replace hp := hp.2
          intro r9 hr9
          subst hr9
          intro _
          refine asrt hp.1 ?_
          replace hp := hp.2
          refine ⟨hp, ?_⟩
          intro r10 hr10
          subst hr10
          intro _
          have e := hr _ ((cfalse c1) : typing_Finish_J0_F n8 text9 at10 base2b y3b fresh6b = _).symm
          exact e
        ·
          refine ⟨hp.1, ?_⟩
          replace hp := hp.2
          intro r11 hr11
          subst hr11
          intro _
          refine asrt hp.1 ?_
          replace hp := hp.2
          refine ⟨hp, ?_⟩
          intro r12 hr12
          subst hr12
          intro _
          have e := hr _ ((cfalse c1) : typing_Finish_J0_F n8 text9 at10 base2b y3b fresh6b = _).symm
          exact e
      ·
        refine ⟨hp.1, ?_⟩
        replace hp := hp.2
        intro r13 hr13
        subst hr13
        intro _
        refine ⟨?_, ?_, trivial⟩
        ·
          refine asrt hp.1 ?_
          replace hp := hp.2
          refine ⟨hp, ?_⟩
          intro r14 hr14
          subst hr14
          intro _
          have e := hr _ ((cfalse c1) : typing_Finish_J0_F n8 text9 at10 base2b y3b fresh6b = _).symm
          exact e
        ·
          refine asrt hp.1 ?_
          replace hp := hp.2
          refine ⟨hp, ?_⟩
          intro r15 hr15
          subst hr15
          intro _
          have e := hr _ ((cfalse c1) : typing_Finish_J0_F n8 text9 at10 base2b y3b fresh6b = _).symm
          exact e
    ·
      refine ⟨?_, ?_, ?_, trivial⟩
      ·
        refine ⟨?_, ?_, trivial⟩
        ·
          refine ⟨hp.1, ?_⟩
          replace hp := hp.2
          intro r16 hr16
          subst hr16
          intro _
          refine asrt hp.1 ?_
          replace hp := hp.2
          refine ⟨hp, ?_⟩
          intro r17 hr17
          subst hr17
          intro _
          have e := hr _ ((cfalse c1) : typing_Finish_J0_F n8 text9 at10 base2b y3b fresh6b = _).symm
          exact e
        ·
          refine ⟨hp.1, ?_⟩
          replace hp := hp.2
          intro r18 hr18
          subst hr18
          intro _
          refine asrt hp.1 ?_
          replace hp := hp.2
          refine ⟨hp, ?_⟩
          intro r19 hr19
          subst hr19
          intro _
          have e := hr _ ((cfalse c1) : typing_Finish_J0_F n8 text9 at10 base2b y3b fresh6b = _).symm
          exact e
      ·
        refine ⟨?_, ?_, trivial⟩
        ·
          refine ⟨hp.1, ?_⟩
          replace hp := hp.2
          intro r20 hr20
          subst hr20
          intro _
          refine asrt hp.1 ?_
          replace hp := hp.2
          refine ⟨hp, ?_⟩
          intro r21 hr21
          subst hr21
          intro _
          have e := hr _ ((cfalse c1) : typing_Finish_J0_F n8 text9 at10 base2b y3b fresh6b = _).symm
          exact e
        ·
          refine ⟨hp.1, ?_⟩
          replace hp := hp.2
          intro r22 hr22
          subst hr22
          intro _
          refine asrt hp.1 ?_
          replace hp := hp.2
          refine ⟨hp, ?_⟩
          intro r23 hr23
          subst hr23
          intro _
          have e := hr _ ((cfalse c1) : typing_Finish_J0_F n8 text9 at10 base2b y3b fresh6b = _).symm
          exact e
      ·
        refine ⟨hp.1, ?_⟩
        replace hp := hp.2
        intro r24 hr24
        subst hr24
        intro _
        refine ⟨?_, ?_, trivial⟩
        ·
          refine asrt hp.1 ?_
          replace hp := hp.2
          refine ⟨hp, ?_⟩
          intro r25 hr25
          subst hr25
          intro _
          have e := hr _ ((cfalse c1) : typing_Finish_J0_F n8 text9 at10 base2b y3b fresh6b = _).symm
          exact e
        ·
          refine asrt hp.1 ?_
          replace hp := hp.2
          refine ⟨hp, ?_⟩
          intro r26 hr26
          subst hr26
          intro _
          have e := hr _ ((cfalse c1) : typing_Finish_J0_F n8 text9 at10 base2b y3b fresh6b = _).symm
          exact e
    ·
      refine ⟨?_, ?_, ?_, trivial⟩
      ·
        refine ⟨?_, ?_, trivial⟩
        ·
          refine ⟨hp.1, ?_⟩
          replace hp := hp.2
          intro r27 hr27
          subst hr27
          intro _
          refine asrt hp.1 ?_
          replace hp := hp.2
          refine ⟨hp, ?_⟩
          intro r28 hr28
          subst hr28
          intro _
          have e := hr _ ((cfalse c1) : typing_Finish_J0_F n8 text9 at10 base2b y3b fresh6b = _).symm
          exact e
        ·
          refine ⟨hp.1, ?_⟩
          replace hp := hp.2
          intro r29 hr29
          subst hr29
          intro _
          refine asrt hp.1 ?_
          replace hp := hp.2
          refine ⟨hp, ?_⟩
          intro r30 hr30
          subst hr30
          intro _
          have e := hr _ ((cfalse c1) : typing_Finish_J0_F n8 text9 at10 base2b y3b fresh6b = _).symm
          exact e
      ·
        refine ⟨?_, ?_, trivial⟩
        ·
          refine ⟨hp.1, ?_⟩
          replace hp := hp.2
          intro r31 hr31
          subst hr31
          intro _
          refine asrt hp.1 ?_
          replace hp := hp.2
          refine ⟨hp, ?_⟩
          intro r32 hr32
          subst hr32
          intro _
          have e := hr _ ((cfalse c1) : typing_Finish_J0_F n8 text9 at10 base2b y3b fresh6b = _).symm
          exact e
        ·
          refine ⟨hp.1, ?_⟩
          replace hp := hp.2
          intro r33 hr33
          subst hr33
          intro _
          refine asrt hp.1 ?_
          replace hp := hp.2
          refine ⟨hp, ?_⟩
          intro r34 hr34
          subst hr34
          intro _
          have e := hr _ ((cfalse c1) : typing_Finish_J0_F n8 text9 at10 base2b y3b fresh6b = _).symm
          exact e
      ·
        refine ⟨hp.1, ?_⟩
        replace hp := hp.2
        intro r35 hr35
        subst hr35
        intro _
        refine ⟨?_, ?_, trivial⟩
        ·
          refine asrt hp.1 ?_
          replace hp := hp.2
          refine ⟨hp, ?_⟩
          intro r36 hr36
          subst hr36
          intro _
          have e := hr _ ((cfalse c1) : typing_Finish_J0_F n8 text9 at10 base2b y3b fresh6b = _).symm
          exact e
        ·
          refine asrt hp.1 ?_
          replace hp := hp.2
          refine ⟨hp, ?_⟩
          intro r37 hr37
          subst hr37
          intro _
          have e := hr _ ((cfalse c1) : typing_Finish_J0_F n8 text9 at10 base2b y3b fresh6b = _).symm
          exact e
    ·
      refine ⟨hp.1, ?_⟩
      replace hp := hp.2
      intro r38 hr38
      subst hr38
      intro _
      refine ⟨?_, ?_, ?_, trivial⟩
      ·
        refine ⟨?_, ?_, trivial⟩
        ·
          refine asrt hp.1 ?_
          replace hp := hp.2
          refine ⟨hp, ?_⟩
          intro r39 hr39
          subst hr39
          intro _
          have e := hr _ ((cfalse c1) : typing_Finish_J0_F n8 text9 at10 base2b y3b fresh6b = _).symm
          exact e
        ·
          refine asrt hp.1 ?_
          replace hp := hp.2
          refine ⟨hp, ?_⟩
          intro r40 hr40
          subst hr40
          intro _
          have e := hr _ ((cfalse c1) : typing_Finish_J0_F n8 text9 at10 base2b y3b fresh6b = _).symm
          exact e
      ·
        refine ⟨?_, ?_, trivial⟩
        ·
          refine asrt hp.1 ?_
          replace hp := hp.2
          refine ⟨hp, ?_⟩
          intro r41 hr41
          subst hr41
          intro _
          have e := hr _ ((cfalse c1) : typing_Finish_J0_F n8 text9 at10 base2b y3b fresh6b = _).symm
          exact e
        ·
          refine asrt hp.1 ?_
          replace hp := hp.2
          refine ⟨hp, ?_⟩
          intro r42 hr42
          subst hr42
          intro _
          have e := hr _ ((cfalse c1) : typing_Finish_J0_F n8 text9 at10 base2b y3b fresh6b = _).symm
          exact e
      ·
        refine ⟨?_, ?_, trivial⟩
        ·
          refine asrt hp.1 ?_
          replace hp := hp.2
          refine ⟨hp, ?_⟩
          intro r43 hr43
          subst hr43
          intro _
          have e := hr _ ((cfalse c1) : typing_Finish_J0_F n8 text9 at10 base2b y3b fresh6b = _).symm
          exact e
        ·
          refine asrt hp.1 ?_
          replace hp := hp.2
          refine ⟨hp, ?_⟩
          intro r44 hr44
          subst hr44
          intro _
          have e := hr _ ((cfalse c1) : typing_Finish_J0_F n8 text9 at10 base2b y3b fresh6b = _).symm
          exact e
def typing_Finish_J1_P (n8 : Int) (base2b : List Int) (y3b : (Int × Int × List Int × Int × Int)) (fresh6b : Int) : Prop :=
  bytes_Repeat_P y3b.2.2.1 n8 ∧ (
  let r4 : List Int := bytes_Repeat_F y3b.2.2.1 n8
  bif (decide ((0 : Int) < (IntKind.wrap .i64 (y3b.2.1 + (List.length r4 : Int))))) then
    bif (decide ((0 : Int) < (List.length r4 : Int))) then
      (0 ≤ (IntKind.wrap .i64 ((List.length r4 : Int) - (1 : Int))) ∧ (IntKind.wrap .i64 ((List.length r4 : Int) - (1 : Int))) < (List.length r4 : Int)) ∧ (
      bif (!decide ((rd (0 : Int) r4 (IntKind.wrap .i64 ((List.length r4 : Int) - (1 : Int)))) = (10 : Int))) then
        typing_Finish_J0_P n8 r4 (IntKind.wrap .i64 ((IntKind.wrap .i64 (y3b.2.1 + (List.length r4 : Int))) - (1 : Int))) base2b y3b fresh6b
      else
        bif (decide ((List.length r4 : Int) = (0 : Int))) then
          (0 ≤ (IntKind.wrap .i64 ((IntKind.wrap .i64 (y3b.2.1 + (List.length r4 : Int))) - (1 : Int))) ∧ (IntKind.wrap .i64 ((IntKind.wrap .i64 (y3b.2.1 + (List.length r4 : Int))) - (1 : Int))) < (List.length base2b : Int)) ∧ (
          bif (!decide ((rd (0 : Int) base2b (IntKind.wrap .i64 ((IntKind.wrap .i64 (y3b.2.1 + (List.length r4 : Int))) - (1 : Int)))) = (10 : Int))) then
            typing_Finish_J0_P n8 r4 (IntKind.wrap .i64 ((IntKind.wrap .i64 (y3b.2.1 + (List.length r4 : Int))) - (1 : Int))) base2b y3b fresh6b
          else
            typing_Finish_J0_P n8 r4 (IntKind.wrap .i64 (y3b.2.1 + (List.length r4 : Int))) base2b y3b fresh6b)
        else
          typing_Finish_J0_P n8 r4 (IntKind.wrap .i64 (y3b.2.1 + (List.length r4 : Int))) base2b y3b fresh6b)
    else
      bif (decide ((List.length r4 : Int) = (0 : Int))) then
        (0 ≤ (IntKind.wrap .i64 ((IntKind.wrap .i64 (y3b.2.1 + (List.length r4 : Int))) - (1 : Int))) ∧ (IntKind.wrap .i64 ((IntKind.wrap .i64 (y3b.2.1 + (List.length r4 : Int))) - (1 : Int))) < (List.length base2b : Int)) ∧ (
        bif (!decide ((rd (0 : Int) base2b (IntKind.wrap .i64 ((IntKind.wrap .i64 (y3b.2.1 + (List.length r4 : Int))) - (1 : Int)))) = (10 : Int))) then
          typing_Finish_J0_P n8 r4 (IntKind.wrap .i64 ((IntKind.wrap .i64 (y3b.2.1 + (List.length r4 : Int))) - (1 : Int))) base2b y3b fresh6b
        else
          typing_Finish_J0_P n8 r4 (IntKind.wrap .i64 (y3b.2.1 + (List.length r4 : Int))) base2b y3b fresh6b)
      else
        typing_Finish_J0_P n8 r4 (IntKind.wrap .i64 (y3b.2.1 + (List.length r4 : Int))) base2b y3b fresh6b
  else
    typing_Finish_J0_P n8 r4 (IntKind.wrap .i64 (y3b.2.1 + (List.length r4 : Int))) base2b y3b fresh6b)
def typing_Finish_J1_F (n8 : Int) (base2b : List Int) (y3b : (Int × Int × List Int × Int × Int)) (fresh6b : Int) : List ((Int × List Int × List Int)) × Int :=
  let r4 : List Int := bytes_Repeat_F y3b.2.2.1 n8
  bif (decide ((0 : Int) < (IntKind.wrap .i64 (y3b.2.1 + (List.length r4 : Int))))) then
    bif (decide ((0 : Int) < (List.length r4 : Int))) then
      bif (!decide ((rd (0 : Int) r4 (IntKind.wrap .i64 ((List.length r4 : Int) - (1 : Int)))) = (10 : Int))) then
        let q0r : List ((Int × List Int × List Int)) × Int := typing_Finish_J0_F n8 r4 (IntKind.wrap .i64 ((IntKind.wrap .i64 (y3b.2.1 + (List.length r4 : Int))) - (1 : Int))) base2b y3b fresh6b
        let x4 : List ((Int × List Int × List Int)) := q0r.1
        let x5 : Int := q0r.2
        (x4, x5)
      else
        bif (decide ((List.length r4 : Int) = (0 : Int))) then
          bif (!decide ((rd (0 : Int) base2b (IntKind.wrap .i64 ((IntKind.wrap .i64 (y3b.2.1 + (List.length r4 : Int))) - (1 : Int)))) = (10 : Int))) then
            let q0r : List ((Int × List Int × List Int)) × Int := typing_Finish_J0_F n8 r4 (IntKind.wrap .i64 ((IntKind.wrap .i64 (y3b.2.1 + (List.length r4 : Int))) - (1 : Int))) base2b y3b fresh6b
            let x4 : List ((Int × List Int × List Int)) := q0r.1
            let x5 : Int := q0r.2
            (x4, x5)
          else
            let q0r : List ((Int × List Int × List Int)) × Int := typing_Finish_J0_F n8 r4 (IntKind.wrap .i64 (y3b.2.1 + (List.length r4 : Int))) base2b y3b fresh6b
            let x4 : List ((Int × List Int × List Int)) := q0r.1
            let x5 : Int := q0r.2
            (x4, x5)
        else
          let q0r : List ((Int × List Int × List Int)) × Int := typing_Finish_J0_F n8 r4 (IntKind.wrap .i64 (y3b.2.1 + (List.length r4 : Int))) base2b y3b fresh6b
          let x4 : List ((Int × List Int × List Int)) := q0r.1
          let x5 : Int := q0r.2
          (x4, x5)
    else
      bif (decide ((List.length r4 : Int) = (0 : Int))) then
        bif (!decide ((rd (0 : Int) base2b (IntKind.wrap .i64 ((IntKind.wrap .i64 (y3b.2.1 + (List.length r4 : Int))) - (1 : Int)))) = (10 : Int))) then
          let q0r : List ((Int × List Int × List Int)) × Int := typing_Finish_J0_F n8 r4 (IntKind.wrap .i64 ((IntKind.wrap .i64 (y3b.2.1 + (List.length r4 : Int))) - (1 : Int))) base2b y3b fresh6b
          let x4 : List ((Int × List Int × List Int)) := q0r.1
          let x5 : Int := q0r.2
          (x4, x5)
        else
          let q0r : List ((Int × List Int × List Int)) × Int := typing_Finish_J0_F n8 r4 (IntKind.wrap .i64 (y3b.2.1 + (List.length r4 : Int))) base2b y3b fresh6b
          let x4 : List ((Int × List Int × List Int)) := q0r.1
          let x5 : Int := q0r.2
          (x4, x5)
      else
        let q0r : List ((Int × List Int × List Int)) × Int := typing_Finish_J0_F n8 r4 (IntKind.wrap .i64 (y3b.2.1 + (List.length r4 : Int))) base2b y3b fresh6b
        let x4 : List ((Int × List Int × List Int)) := q0r.1
        let x5 : Int := q0r.2
        (x4, x5)
  else
    let q0r : List ((Int × List Int × List Int)) × Int := typing_Finish_J0_F n8 r4 (IntKind.wrap .i64 (y3b.2.1 + (List.length r4 : Int))) base2b y3b fresh6b
    let x4 : List ((Int × List Int × List Int)) := q0r.1
    let x5 : Int := q0r.2
    (x4, x5)
set_option maxRecDepth 20000 in
theorem typing_Finish_J1_sp (kr : List ((Int × List Int × List Int)) → Int → Prop) (n8 : Int) (base2b : List Int) (y3b : (Int × Int × List Int × Int × Int)) (fresh6b : Int) (hp : typing_Finish_J1_P n8 base2b y3b fresh6b) (hr : ∀ q : List ((Int × List Int × List Int)) × Int, q = typing_Finish_J1_F n8 base2b y3b fresh6b → kr q.1 q.2) : typing_Finish_J1 kr n8 base2b y3b fresh6b := by
  unfold typing_Finish_J1
  unfold typing_Finish_J1_P at hp
  refine ⟨hp.1, ?_⟩
  replace hp := hp.2
  intro r4 hr4
  subst hr4
  intro _
  refine brb (fun c2 => ?_) (fun c2 => ?_)
  ·
    replace hp := cT c2 hp
    refine brb (fun c3 => ?_) (fun c3 => ?_)
    ·
      replace hp := cT c3 hp
      refine asrt hp.1 ?_
      replace hp := hp.2
      refine brb (fun c4 => ?_) (fun c4 => ?_)
      ·
        replace hp := cT c4 hp
        refine fun _ => typing_Finish_J0_sp _ _ _ _ _ _ _ hp (fun q hq => ?_)
        subst hq
        intro _
        clear hp
        have e := hr _ ((Eq.trans (ctrue c2) (Eq.trans (ctrue c3) (ctrue c4))) : typing_Finish_J1_F n8 base2b y3b fresh6b = _).symm
        exact e
      ·
        replace hp := cF c4 hp
        refine brb (fun c5 => ?_) (fun c5 => ?_)
        ·
          replace hp := cT c5 hp
          refine asrt hp.1 ?_
          replace hp := hp.2
          refine brb (fun c6 => ?_) (fun c6 => ?_)
          ·
            replace hp := cT c6 hp
            refine fun _ => typing_Finish_J0_sp _ _ _ _ _ _ _ hp (fun q hq => ?_)
            subst hq
            intro _
            clear hp
            have e := hr _ ((Eq.trans (ctrue c2) (Eq.trans (ctrue c3) (Eq.trans (cfalse c4) (Eq.trans (ctrue c5) (ctrue c6))))) : typing_Finish_J1_F n8 base2b y3b fresh6b = _).symm
            exact e
          ·
            replace hp := cF c6 hp
            refine fun _ => typing_Finish_J0_sp _ _ _ _ _ _ _ hp (fun q hq => ?_)
            subst hq
            intro _
            clear hp
            have e := hr _ ((Eq.trans (ctrue c2) (Eq.trans (ctrue c3) (Eq.trans (cfalse c4) (Eq.trans (ctrue c5) (cfalse c6))))) : typing_Finish_J1_F n8 base2b y3b fresh6b = _).symm
            exact e
        ·
          replace hp := cF c5 hp
          refine fun _ => typing_Finish_J0_sp _ _ _ _ _ _ _ hp (fun q hq => ?_)
          subst hq
          intro _
          clear hp
          have e := hr _ ((Eq.trans (ctrue c2) (Eq.trans (ctrue c3) (Eq.trans (cfalse c4) (cfalse c5)))) : typing_Finish_J1_F n8 base2b y3b fresh6b = _).symm
          exact e
    ·
      replace hp := cF c3 hp
      refine brb (fun c7 => ?_) (fun c7 => ?_)
      ·
        replace hp := cT c7 hp
        refine asrt hp.1 ?_
        replace hp := hp.2
        refine brb (fun c8 => ?_) (fun c8 => ?_)
        ·
          replace hp := cT c8 hp
          refine fun _ => typing_Finish_J0_sp _ _ _ _ _ _ _ hp (fun q hq => ?_)
          subst hq
          intro _
          clear hp
          have e := hr _ ((Eq.trans (ctrue c2) (Eq.trans (cfalse c3) (Eq.trans (ctrue c7) (ctrue c8)))) : typing_Finish_J1_F n8 base2b y3b fresh6b = _).symm
          exact e
        ·
          replace hp := cF c8 hp
          refine fun _ => typing_Finish_J0_sp _ _ _ _ _ _ _ hp (fun q hq => ?_)
          subst hq
          intro _
          clear hp
          have e := hr _ ((Eq.trans (ctrue c2) (Eq.trans (cfalse c3) (Eq.trans (ctrue c7) (cfalse c8)))) : typing_Finish_J1_F n8 base2b y3b fresh6b = _).symm
          exact e
      ·
        replace hp := cF c7 hp
        refine fun _ => typing_Finish_J0_sp _ _ _ _ _ _ _ hp (fun q hq => ?_)
        subst hq
        intro _
        clear hp
        have e := hr _ ((Eq.trans (ctrue c2) (Eq.trans (cfalse c3) (cfalse c7))) : typing_Finish_J1_F n8 base2b y3b fresh6b = _).symm
        exact e
  ·
    replace hp := cF c2 hp
    refine fun _ => typing_Finish_J0_sp _ _ _ _ _ _ _ hp (fun q hq => ?_)
    subst hq
    intro _
    clear hp
    have e := hr _ ((cfalse c2) : typing_Finish_J1_F n8 base2b y3b fresh6b = _).symm
    exact e
def typing_Finish_P (base0 : List Int) (y1 : (Int × Int × List Int × Int × Int)) : Prop :=
  let r1 : Bool := typing_fits_F base0 y1
  bif (!r1) then
    True
  else
    bytes_Count_P y1.2.2.1 ([(10 : Int)] : List Int) ∧ (
    let r2 : Int := bytes_Count_F y1.2.2.1 ([(10 : Int)] : List Int)
    typing_Finish_1_P y1.2.2.2.2 y1 base0 (IntKind.wrap .i64 ((List.length y1.2.2.1 : Int) - r2)) ∧ (
    let r3 : Int := typing_Finish_1_F y1.2.2.2.2 y1 base0 (IntKind.wrap .i64 ((List.length y1.2.2.1 : Int) - r2))
    bif (decide ((65536 : Int) < (IntKind.wrap .i64 ((IntKind.wrap .i64 ((List.length base0 : Int) - r3)) + (IntKind.wrap .i64 (y1.2.2.2.2 * (List.length y1.2.2.1 : Int))))))) then
      typing_Finish_J1_P (1 : Int) base0 y1 (IntKind.wrap .i64 ((List.length y1.2.2.1 : Int) - r2))
    else
      typing_Finish_J1_P y1.2.2.2.2 base0 y1 (IntKind.wrap .i64 ((List.length y1.2.2.1 : Int) - r2))))
def typing_Finish_F (base0 : List Int) (y1 : (Int × Int × List Int × Int × Int)) : List ((Int × List Int × List Int)) × Int :=
  let r1 : Bool := typing_fits_F base0 y1
  bif (!r1) then
    (([] : List ((Int × List Int × List Int))), (0 : Int))
  else
    let r2 : Int := bytes_Count_F y1.2.2.1 ([(10 : Int)] : List Int)
    let r3 : Int := typing_Finish_1_F y1.2.2.2.2 y1 base0 (IntKind.wrap .i64 ((List.length y1.2.2.1 : Int) - r2))
    bif (decide ((65536 : Int) < (IntKind.wrap .i64 ((IntKind.wrap .i64 ((List.length base0 : Int) - r3)) + (IntKind.wrap .i64 (y1.2.2.2.2 * (List.length y1.2.2.1 : Int))))))) then
      let q1r : List ((Int × List Int × List Int)) × Int := typing_Finish_J1_F (1 : Int) base0 y1 (IntKind.wrap .i64 ((List.length y1.2.2.1 : Int) - r2))
      let x4 : List ((Int × List Int × List Int)) := q1r.1
      let x5 : Int := q1r.2
      (x4, x5)
    else
      let q1r : List ((Int × List Int × List Int)) × Int := typing_Finish_J1_F y1.2.2.2.2 base0 y1 (IntKind.wrap .i64 ((List.length y1.2.2.1 : Int) - r2))
      let x4 : List ((Int × List Int × List Int)) := q1r.1
      let x5 : Int := q1r.2
      (x4, x5)
set_option maxRecDepth 20000 in
theorem typing_Finish_sp (base0 : List Int) (y1 : (Int × Int × List Int × Int × Int)) (K : Res → List Cell → Prop) (_ : wfA typing_Finish_A (base0, y1, ())) (hp : typing_Finish_P base0 y1) (h : ∀ r : List ((Int × List Int × List Int)) × Int, r = typing_Finish_F base0 y1 → K (.tup [.fr 46 (.st (.pair (.int .i64) (.pair (.sl (.int .u8)) (.sl (.int .u8))))) r.1, .v (.int .i64) r.2]) []) : typing_Finish_raw base0 y1 K := by
  unfold typing_Finish_raw
  unfold typing_Finish_P at hp
  intro r1 hr1
  subst hr1
  intro _
  refine brb (fun c9 => ?_) (fun c9 => ?_)
  ·
    clear hp
    have e := h _ ((ctrue c9) : typing_Finish_F base0 y1 = _).symm
    exact e
  ·
    replace hp := cF c9 hp
    refine ⟨?_, ?_, trivial⟩
    ·
      refine ⟨?_, ?_, trivial⟩
      ·
        refine ⟨hp.1, ?_⟩
        replace hp := hp.2
        intro r2 hr2
        subst hr2
        intro _
        refine ⟨?_, ?_, ?_, trivial⟩
        ·
          refine ⟨?_, ?_, trivial⟩
          ·
            refine ⟨hp.1, ?_⟩
            replace hp := hp.2
            intro r3 hr3
            subst hr3
            intro _
            refine brb (fun c10 => ?_) (fun c10 => ?_)
            ·
              replace hp := cT c10 hp
              refine fun _ => typing_Finish_J1_sp _ _ _ _ _ hp (fun q hq => ?_)
              subst hq
              intro _
              clear hp
              have e := h _ ((Eq.trans (cfalse c9) (ctrue c10)) : typing_Finish_F base0 y1 = _).symm
              exact e
            ·
              replace hp := cF c10 hp
              refine fun _ => typing_Finish_J1_sp _ _ _ _ _ hp (fun q hq => ?_)
              subst hq
              intro _
              clear hp
              have e := h _ ((Eq.trans (cfalse c9) (cfalse c10)) : typing_Finish_F base0 y1 = _).symm
              exact e
          ·
            refine ⟨hp.1, ?_⟩
            replace hp := hp.2
            intro r45 hr45
            subst hr45
            intro _
            refine brb (fun c11 => ?_) (fun c11 => ?_)
            ·
              replace hp := cT c11 hp
              refine fun _ => typing_Finish_J1_sp _ _ _ _ _ hp (fun q hq => ?_)
              subst hq
              intro _
              clear hp
              have e := h _ ((Eq.trans (cfalse c9) (ctrue c11)) : typing_Finish_F base0 y1 = _).symm
              exact e
            ·
              replace hp := cF c11 hp
              refine fun _ => typing_Finish_J1_sp _ _ _ _ _ hp (fun q hq => ?_)
              subst hq
              intro _
              clear hp
              have e := h _ ((Eq.trans (cfalse c9) (cfalse c11)) : typing_Finish_F base0 y1 = _).symm
              exact e
        ·
          refine ⟨hp.1, ?_⟩
          replace hp := hp.2
          intro r46 hr46
          subst hr46
          intro _
          refine ⟨?_, ?_, trivial⟩
          ·
            refine brb (fun c12 => ?_) (fun c12 => ?_)
            ·
              replace hp := cT c12 hp
              refine fun _ => typing_Finish_J1_sp _ _ _ _ _ hp (fun q hq => ?_)
              subst hq
              intro _
              clear hp
              have e := h _ ((Eq.trans (cfalse c9) (ctrue c12)) : typing_Finish_F base0 y1 = _).symm
              exact e
            ·
              replace hp := cF c12 hp
              refine fun _ => typing_Finish_J1_sp _ _ _ _ _ hp (fun q hq => ?_)
              subst hq
              intro _
              clear hp
              have e := h _ ((Eq.trans (cfalse c9) (cfalse c12)) : typing_Finish_F base0 y1 = _).symm
              exact e
          ·
            refine brb (fun c13 => ?_) (fun c13 => ?_)
            ·
              replace hp := cT c13 hp
              refine fun _ => typing_Finish_J1_sp _ _ _ _ _ hp (fun q hq => ?_)
              subst hq
              intro _
              clear hp
              have e := h _ ((Eq.trans (cfalse c9) (ctrue c13)) : typing_Finish_F base0 y1 = _).symm
              exact e
            ·
              replace hp := cF c13 hp
              refine fun _ => typing_Finish_J1_sp _ _ _ _ _ hp (fun q hq => ?_)
              subst hq
              intro _
              clear hp
              have e := h _ ((Eq.trans (cfalse c9) (cfalse c13)) : typing_Finish_F base0 y1 = _).symm
              exact e
        ·
          refine ⟨?_, ?_, trivial⟩
          ·
            refine ⟨hp.1, ?_⟩
            replace hp := hp.2
            intro r47 hr47
            subst hr47
            intro _
            refine brb (fun c14 => ?_) (fun c14 => ?_)
            ·
              replace hp := cT c14 hp
              refine fun _ => typing_Finish_J1_sp _ _ _ _ _ hp (fun q hq => ?_)
              subst hq
              intro _
              clear hp
              have e := h _ ((Eq.trans (cfalse c9) (ctrue c14)) : typing_Finish_F base0 y1 = _).symm
              exact e
            ·
              replace hp := cF c14 hp
              refine fun _ => typing_Finish_J1_sp _ _ _ _ _ hp (fun q hq => ?_)
              subst hq
              intro _
              clear hp
              have e := h _ ((Eq.trans (cfalse c9) (cfalse c14)) : typing_Finish_F base0 y1 = _).symm
              exact e
          ·
            refine ⟨hp.1, ?_⟩
            replace hp := hp.2
            intro r48 hr48
            subst hr48
            intro _
            refine brb (fun c15 => ?_) (fun c15 => ?_)
            ·
              replace hp := cT c15 hp
              refine fun _ => typing_Finish_J1_sp _ _ _ _ _ hp (fun q hq => ?_)
              subst hq
              intro _
              clear hp
              have e := h _ ((Eq.trans (cfalse c9) (ctrue c15)) : typing_Finish_F base0 y1 = _).symm
              exact e
            ·
              replace hp := cF c15 hp
              refine fun _ => typing_Finish_J1_sp _ _ _ _ _ hp (fun q hq => ?_)
              subst hq
              intro _
              clear hp
              have e := h _ ((Eq.trans (cfalse c9) (cfalse c15)) : typing_Finish_F base0 y1 = _).symm
              exact e
      ·
        refine ⟨hp.1, ?_⟩
        replace hp := hp.2
        intro r49 hr49
        subst hr49
        intro _
        refine ⟨?_, ?_, ?_, trivial⟩
        ·
          refine ⟨?_, ?_, trivial⟩
          ·
            refine ⟨hp.1, ?_⟩
            replace hp := hp.2
            intro r50 hr50
            subst hr50
            intro _
            refine brb (fun c16 => ?_) (fun c16 => ?_)
            ·
              replace hp := cT c16 hp
              refine fun _ => typing_Finish_J1_sp _ _ _ _ _ hp (fun q hq => ?_)
              subst hq
              intro _
              clear hp
              have e := h _ ((Eq.trans (cfalse c9) (ctrue c16)) : typing_Finish_F base0 y1 = _).symm
              exact e
            ·
              replace hp := cF c16 hp
              refine fun _ => typing_Finish_J1_sp _ _ _ _ _ hp (fun q hq => ?_)
              subst hq
              intro _
              clear hp
              have e := h _ ((Eq.trans (cfalse c9) (cfalse c16)) : typing_Finish_F base0 y1 = _).symm
              exact e
          ·
            refine ⟨hp.1, ?_⟩
            replace hp := hp.2
            intro r51 hr51
            subst hr51
            intro _
            refine brb (fun c17 => ?_) (fun c17 => ?_)
            ·
              replace hp := cT c17 hp
              refine fun _ => typing_Finish_J1_sp _ _ _ _ _ hp (fun q hq => ?_)
              subst hq
              intro _
              clear hp
              have e := h _ ((Eq.trans (cfalse c9) (ctrue c17)) : typing_Finish_F base0 y1 = _).symm
              exact e
            ·
              replace hp := cF c17 hp
              refine fun _ => typing_Finish_J1_sp _ _ _ _ _ hp (fun q hq => ?_)
              subst hq
              intro _
              clear hp
              have e := h _ ((Eq.trans (cfalse c9) (cfalse c17)) : typing_Finish_F base0 y1 = _).symm
              exact e
        ·
          refine ⟨hp.1, ?_⟩
          replace hp := hp.2
          intro r52 hr52
          subst hr52
          intro _
          refine ⟨?_, ?_, trivial⟩
          ·
            refine brb (fun c18 => ?_) (fun c18 => ?_)
            ·
              replace hp := cT c18 hp
              refine fun _ => typing_Finish_J1_sp _ _ _ _ _ hp (fun q hq => ?_)
              subst hq
              intro _
              clear hp
              have e := h _ ((Eq.trans (cfalse c9) (ctrue c18)) : typing_Finish_F base0 y1 = _).symm
              exact e
            ·
              replace hp := cF c18 hp
              refine fun _ => typing_Finish_J1_sp _ _ _ _ _ hp (fun q hq => ?_)
              subst hq
              intro _
              clear hp
              have e := h _ ((Eq.trans (cfalse c9) (cfalse c18)) : typing_Finish_F base0 y1 = _).symm
              exact e
          ·
            refine brb (fun c19 => ?_) (fun c19 => ?_)
            ·
              replace hp := cT c19 hp
              refine fun _ => typing_Finish_J1_sp _ _ _ _ _ hp (fun q hq => ?_)
              subst hq
              intro _
              clear hp
              have e := h _ ((Eq.trans (cfalse c9) (ctrue c19)) : typing_Finish_F base0 y1 = _).symm
              exact e
            ·
              replace hp := cF c19 hp
              refine fun _ => typing_Finish_J1_sp _ _ _ _ _ hp (fun q hq => ?_)
              subst hq
              intro _
              clear hp
              have e := h _ ((Eq.trans (cfalse c9) (cfalse c19)) : typing_Finish_F base0 y1 = _).symm
              exact e
        ·
          refine ⟨?_, ?_, trivial⟩
          ·
            refine ⟨hp.1, ?_⟩
            replace hp := hp.2
            intro r53 hr53
            subst hr53
            intro _
            refine brb (fun c20 => ?_) (fun c20 => ?_)
            ·
              replace hp := cT c20 hp
              refine fun _ => typing_Finish_J1_sp _ _ _ _ _ hp (fun q hq => ?_)
              subst hq
              intro _
              clear hp
              have e := h _ ((Eq.trans (cfalse c9) (ctrue c20)) : typing_Finish_F base0 y1 = _).symm
              exact e
            ·
              replace hp := cF c20 hp
              refine fun _ => typing_Finish_J1_sp _ _ _ _ _ hp (fun q hq => ?_)
              subst hq
              intro _
              clear hp
              have e := h _ ((Eq.trans (cfalse c9) (cfalse c20)) : typing_Finish_F base0 y1 = _).symm
              exact e
          ·
            refine ⟨hp.1, ?_⟩
            replace hp := hp.2
            intro r54 hr54
            subst hr54
            intro _
            refine brb (fun c21 => ?_) (fun c21 => ?_)
            ·
              replace hp := cT c21 hp
              refine fun _ => typing_Finish_J1_sp _ _ _ _ _ hp (fun q hq => ?_)
              subst hq
              intro _
              clear hp
              have e := h _ ((Eq.trans (cfalse c9) (ctrue c21)) : typing_Finish_F base0 y1 = _).symm
              exact e
            ·
              replace hp := cF c21 hp
              refine fun _ => typing_Finish_J1_sp _ _ _ _ _ hp (fun q hq => ?_)
              subst hq
              intro _
              clear hp
              have e := h _ ((Eq.trans (cfalse c9) (cfalse c21)) : typing_Finish_F base0 y1 = _).symm
              exact e
    ·
      refine ⟨hp.1, ?_⟩
      replace hp := hp.2
      intro r55 hr55
      subst hr55
      intro _
      refine ⟨?_, ?_, ?_, trivial⟩
      ·
        refine ⟨?_, ?_, trivial⟩
        ·
          refine ⟨hp.1, ?_⟩
          replace hp := hp.2
          intro r56 hr56
          subst hr56
          intro _
          refine brb (fun c22 => ?_) (fun c22 => ?_)
          ·
            replace hp := cT c22 hp
            refine fun _ => typing_Finish_J1_sp _ _ _ _ _ hp (fun q hq => ?_)
            subst hq
            intro _
            clear hp
            have e := h _ ((Eq.trans (cfalse c9) (ctrue c22)) : typing_Finish_F base0 y1 = _).symm
            exact e
          ·
            replace hp := cF c22 hp
            refine fun _ => typing_Finish_J1_sp _ _ _ _ _ hp (fun q hq => ?_)
            subst hq
            intro _
            clear hp
            have e := h _ ((Eq.trans (cfalse c9) (cfalse c22)) : typing_Finish_F base0 y1 = _).symm
            exact e
        ·
          refine ⟨hp.1, ?_⟩
          replace hp := hp.2
          intro r57 hr57
          subst hr57
          intro _
          refine brb (fun c23 => ?_) (fun c23 => ?_)
          ·
            replace hp := cT c23 hp
            refine fun _ => typing_Finish_J1_sp _ _ _ _ _ hp (fun q hq => ?_)
            subst hq
            intro _
            clear hp
            have e := h _ ((Eq.trans (cfalse c9) (ctrue c23)) : typing_Finish_F base0 y1 = _).symm
            exact e
          ·
            replace hp := cF c23 hp
            refine fun _ => typing_Finish_J1_sp _ _ _ _ _ hp (fun q hq => ?_)
            subst hq
            intro _
            clear hp
            have e := h _ ((Eq.trans (cfalse c9) (cfalse c23)) : typing_Finish_F base0 y1 = _).symm
            exact e
      ·
        refine ⟨hp.1, ?_⟩
        replace hp := hp.2
        intro r58 hr58
        subst hr58
        intro _
        refine ⟨?_, ?_, trivial⟩
        ·
          refine brb (fun c24 => ?_) (fun c24 => ?_)
          ·
            replace hp := cT c24 hp
            refine fun _ => typing_Finish_J1_sp _ _ _ _ _ hp (fun q hq => ?_)
            subst hq
            intro _
            clear hp
            have e := h _ ((Eq.trans (cfalse c9) (ctrue c24)) : typing_Finish_F base0 y1 = _).symm
            exact e
          ·
            replace hp := cF c24 hp
            refine fun _ => typing_Finish_J1_sp _ _ _ _ _ hp (fun q hq => ?_)
            subst hq
            intro _
            clear hp
            have e := h _ ((Eq.trans (cfalse c9) (cfalse c24)) : typing_Finish_F base0 y1 = _).symm
            exact e
        ·
          refine brb (fun c25 => ?_) (fun c25 => ?_)
          ·
            replace hp := cT c25 hp
            refine fun _ => typing_Finish_J1_sp _ _ _ _ _ hp (fun q hq => ?_)
            subst hq
            intro _
            clear hp
            have e := h _ ((Eq.trans (cfalse c9) (ctrue c25)) : typing_Finish_F base0 y1 = _).symm
            exact e
          ·
            replace hp := cF c25 hp
            refine fun _ => typing_Finish_J1_sp _ _ _ _ _ hp (fun q hq => ?_)
            subst hq
            intro _
            clear hp
            have e := h _ ((Eq.trans (cfalse c9) (cfalse c25)) : typing_Finish_F base0 y1 = _).symm
            exact e
      ·
        refine ⟨?_, ?_, trivial⟩
        ·
          refine ⟨hp.1, ?_⟩
          replace hp := hp.2
          intro r59 hr59
          subst hr59
          intro _
          refine brb (fun c26 => ?_) (fun c26 => ?_)
          ·
            replace hp := cT c26 hp
            refine fun _ => typing_Finish_J1_sp _ _ _ _ _ hp (fun q hq => ?_)
            subst hq
            intro _
            clear hp
            have e := h _ ((Eq.trans (cfalse c9) (ctrue c26)) : typing_Finish_F base0 y1 = _).symm
            exact e
          ·
            replace hp := cF c26 hp
            refine fun _ => typing_Finish_J1_sp _ _ _ _ _ hp (fun q hq => ?_)
            subst hq
            intro _
            clear hp
            have e := h _ ((Eq.trans (cfalse c9) (cfalse c26)) : typing_Finish_F base0 y1 = _).symm
            exact e
        ·
          refine ⟨hp.1, ?_⟩
          replace hp := hp.2
          intro r60 hr60
          subst hr60
          intro _
          refine brb (fun c27 => ?_) (fun c27 => ?_)
          ·
            replace hp := cT c27 hp
            refine fun _ => typing_Finish_J1_sp _ _ _ _ _ hp (fun q hq => ?_)
            subst hq
            intro _
            clear hp
            have e := h _ ((Eq.trans (cfalse c9) (ctrue c27)) : typing_Finish_F base0 y1 = _).symm
            exact e
          ·
            replace hp := cF c27 hp
            refine fun _ => typing_Finish_J1_sp _ _ _ _ _ hp (fun q hq => ?_)
            subst hq
            intro _
            clear hp
            have e := h _ ((Eq.trans (cfalse c9) (cfalse c27)) : typing_Finish_F base0 y1 = _).symm
            exact e
def typing_Finish_C (v : valsA typing_Finish_A) (K : Res → List Cell → Prop) : Prop := typing_Finish_P v.1 v.2.1 ∧ ∀ r : List ((Int × List Int × List Int)) × Int, r = typing_Finish_F v.1 v.2.1 → K (.tup [.fr 46 (.st (.pair (.int .i64) (.pair (.sl (.int .u8)) (.sl (.int .u8))))) r.1, .v (.int .i64) r.2]) []
def typing_Finish_S : App := specW typing_Finish_A typing_Finish_C
theorem typing_Finish_wv (K : Res → List Cell → Prop) : ∀ v : valsA typing_Finish_A, runF tb (getG typing_Finish_G) typing_Finish_B1 Try.f19 [true, true] (mkA typing_Finish_A v) K = typing_Finish_raw v.1 v.2.1 K
  | (base0, y1, ()) => typing_Finish_walk base0 y1 K
set_option maxRecDepth 20000 in
theorem typing_Finish_ok : AppOk Try.prog 19 typing_Finish_S :=
  AppOk.specW (spec_ok (runF_ok tb_M tb_ok typing_Finish_Gok (typing_Finish_b1) (f := 19) (fn := Try.f19) (by kernel_rfl) (by kernel_rfl) typing_Finish_st [true, true]) fun v K hw h => (typing_Finish_wv K v).mpr (typing_Finish_sp v.1 v.2.1 K hw h.1 h.2))

end Go.VE
namespace Go.VE
open Go Go.Proofs

abbrev Ty20 := Int × Int × List Int × Int × Int
/-- what fits a machine -/
def okB (b : List Int) : Prop := b.length ≤ 4294967296 ∧ ∀ x ∈ b, 0 ≤ x ∧ x ≤ 255

/-! ### line ends -/
def run10 (t : List Int) : Nat := (t.takeWhile fun b => !decide (b = 10)).length

theorem run10_cons (x : Int) (t : List Int) : run10 (x :: t) = if x = 10 then 0 else run10 t + 1 := by
  unfold run10
  rw [List.takeWhile_cons]
  by_cases h : x = 10 <;> simp [h]

theorem idxB_run (t : List Int) : (10 ∈ t → idxB t 10 = (run10 t : Int) ∧ run10 t < t.length) ∧ (10 ∉ t → idxB t 10 = -1 ∧ run10 t = t.length) := by
  constructor
  · intro h
    have : t.idxOf 10 = run10 t ∧ run10 t < t.length := by
      induction t with
      | nil => cases h
      | cons x t ih =>
        rw [run10_cons, List.idxOf_cons]
        by_cases hx : x = 10
        · simp [hx]
        · have := ih (by rcases List.mem_cons.1 h with e | e; exact absurd e.symm hx; exact e)
          have hb : (x == 10) = false := by simpa using hx
          rw [hb, if_neg hx]; simp only [cond_false, List.length_cons]; omega
    exact ⟨by unfold idxB; rw [if_pos h, this.1], this.2⟩
  · intro h
    refine ⟨by unfold idxB; rw [if_neg h], ?_⟩
    induction t with
    | nil => rfl
    | cons x t ih =>
      rw [run10_cons, if_neg (fun e => h (by simp [e])), ih (fun e => h (List.mem_cons_of_mem _ e))]
      rfl

theorem run10_le : ∀ t : List Int, run10 t ≤ t.length
  | [] => Nat.le_refl _
  | x :: t => by rw [run10_cons]; have := run10_le t; split <;> simp only [List.length_cons] <;> omega

theorem run10_get : ∀ t : List Int, 10 ∈ t → t[run10 t]? = some 10
  | [], h => by cases h
  | x :: t, h => by
    rw [run10_cons]
    by_cases hx : x = 10
    · simp [hx]
    · rw [if_neg hx, List.getElem?_cons_succ]
      exact run10_get t (by rcases List.mem_cons.1 h with e | e; exact absurd e.symm hx; exact e)

theorem run10_none : ∀ t : List Int, 10 ∉ t.take (run10 t)
  | [] => by simp [run10]
  | x :: t => by
    rw [run10_cons]
    by_cases hx : x = 10
    · simp [hx]
    · rw [if_neg hx, List.take_succ_cons, List.mem_cons]
      rintro (h | h)
      · exact hx h.symm
      · exact run10_none t h

theorem run10_append (a b : List Int) (h : 10 ∉ a) : run10 (a ++ b) = a.length + run10 b := by
  induction a with
  | nil => simp
  | cons x a ih =>
    rw [List.cons_append, run10_cons, if_neg (fun e => h (by simp [e])), ih (fun e => h (List.mem_cons_of_mem _ e)), List.length_cons]
    omega

/-- the line's beginning is found -/
theorem goLine_at (t : List Int) : ∀ (n p q : Nat), p ≤ q → q ≤ t.length → List.count 10 ((t.take q).drop p) = n → ∃ r, goLine t n p = some r ∧ p ≤ r ∧ r ≤ q ∧ 10 ∉ (t.take q).drop r
  | 0, p, q, h1, h2, h3 => ⟨p, rfl, Nat.le_refl _, h1, List.count_eq_zero.1 h3⟩
  | n + 1, p, q, h1, h2, h3 => by
    have e : t.drop p = (t.take q).drop p ++ t.drop q := by
      conv => lhs; rw [← List.take_append_drop q t]
      rw [List.drop_append_of_le_length (by rw [List.length_take]; omega)]
    have hm : 10 ∈ (t.take q).drop p := List.count_pos_iff.1 (by omega)
    obtain ⟨hi, _⟩ := (idxB_run (t.drop p)).1 (by rw [e]; exact List.mem_append_left _ hm)
    -- the first one lies ahead of q
    generalize hk : run10 (t.drop p) = k at hi
    have hk2 : k = run10 ((t.take q).drop p) := by
      rw [← hk, e]
      clear hi hk h3
      generalize (t.take q).drop p = a at hm
      induction a with
      | nil => cases hm
      | cons x a ih =>
        rw [List.cons_append, run10_cons, run10_cons]
        by_cases hx : x = 10
        · simp [hx]
        · rw [if_neg hx, if_neg hx, ih (by rcases List.mem_cons.1 hm with e | e; exact absurd e.symm hx; exact e)]
    have hkl : k < ((t.take q).drop p).length := by rw [hk2]; exact ((idxB_run _).1 hm).2
    have hl : ((t.take q).drop p).length = q - p := by rw [List.length_drop, List.length_take]; omega
    have hd : (t.take q).drop p = ((t.take q).drop p).take k ++ 10 :: (t.take q).drop (p + k + 1) := by
      have h10 : ((t.take q).drop p)[k] = 10 := by
        have := run10_get _ hm
        rw [← hk2, List.getElem?_eq_getElem hkl] at this
        simpa using this
      conv => lhs; rw [← List.take_append_drop k ((t.take q).drop p), List.drop_eq_getElem_cons hkl, h10, List.drop_drop]
      rw [show p + (k + 1) = p + k + 1 by omega]
    have hn : 10 ∉ ((t.take q).drop p).take k := by
      rw [hk2]; exact run10_none _
    have hc : List.count 10 ((t.take q).drop (p + k + 1)) = n := by
      rw [hd, List.count_append, List.count_eq_zero.2 hn, List.count_cons_self] at h3
      omega
    obtain ⟨r, h4, h5, h6, h7⟩ := goLine_at t n (p + k + 1) q (by omega) h2 hc
    refine ⟨r, ?_, by omega, h6, h7⟩
    unfold goLine
    rw [if_neg (by omega), hi, Int.toNat_natCast]
    exact h4

theorem lines_tail_run {t : List Int} (ht : t.length ≤ 4294967296) {p : Nat} (hp : p ≤ t.length) : lines_tail_F t (p : Int) = ((p + run10 (t.drop p) : Nat) : Int) := by
  unfold lines_tail_F bytes_IndexByte_F internal_bytealg_IndexByte_F
  rw [Int.toNat_natCast]
  dsimp only
  have hl := run10_le (t.drop p)
  rw [List.length_drop] at hl
  by_cases h : 10 ∈ t.drop p
  · obtain ⟨h1, h2⟩ := (idxB_run _).1 h
    rw [h1, decide_eq_true (by omega)]
    show IntKind.wrap .i64 ((p : Int) + (run10 (t.drop p) : Int)) = _
    rw [wrap_i64 (by omega) (by omega)]; omega
  · obtain ⟨h1, h2⟩ := (idxB_run _).2 h
    rw [h1, decide_eq_false (by omega), h2, List.length_drop]
    show (t.length : Int) = _
    omega

theorem others_count (p : List Int) : quoinref20_others_F p = (p.length : Int) - (List.count 10 p : Int) := by
  unfold quoinref20_others_F
  have h1 := List.length_eq_countP_add_countP (fun b : Int => b == 10) (l := p)
  have h2 : List.count 10 p = List.countP (fun b : Int => b == 10) p := rfl
  have h3 : List.countP (fun a : Int => decide ¬(a == 10) = true) p = List.countP (fun b => !decide (b = 10)) p := by
    congr 1; funext b; by_cases h : b = 10 <;> simp [h]
  rw [h3] at h1
  omega

/-- the line of a place ends where its run ends -/
theorem line_end {base : List Int} (hb : base.length ≤ 4294967296) {a : Nat} (ha : a ≤ base.length) :
    lines_End_F base (lines_Of_F base (a : Int)).1 = (((a + run10 (base.drop a) : Nat) : Int), 0) := by
  have hof : lines_Of_F base (a : Int) = ((List.count 10 (base.take a) : Int), 0) := by
    unfold lines_Of_F lines_has_F
    have e1 : decide ((0 : Int) ≤ (a : Int)) = true := by simp
    have e2 : decide ((a : Int) ≤ (List.length base : Int)) = true := by simpa using ha
    rw [e1, e2]
    show (bytes_Count_F (List.take (Int.toNat (a : Int)) base) [10], (0 : Int)) = _
    rw [Int.toNat_natCast]
    rfl
  rw [hof]
  obtain ⟨r, h1, h2, h3, h4⟩ := goLine_at base (List.count 10 (base.take a)) 0 a (Nat.zero_le _) ha rfl
  have hst : lines_Start_F base (List.count 10 (base.take a) : Int) = ((r : Int), 0) := by
    unfold lines_Start_F
    rw [if_neg (by omega), Int.toNat_natCast, h1]
  unfold lines_End_F
  simp only [hst]
  show (lines_tail_F base (r : Int), (0 : Int)) = _
  rw [lines_tail_run hb (by omega)]
  have e : base.drop r = (base.take a).drop r ++ base.drop a := by
    conv => lhs; rw [← List.take_append_drop a base]
    rw [List.drop_append_of_le_length (by rw [List.length_take]; omega)]
  rw [e, run10_append _ _ h4, List.length_drop, List.length_take]
  congr 2; omega

theorem covers_eq {base typed : List Int} (hb : base.length ≤ 4294967296) (ht : typed.length ≤ 4294967296) {p : Int} (h0 : 0 ≤ p) (h1 : p ≤ base.length) : typing_covers_F base p typed = quoinref20_covers_F base p typed := by
  obtain ⟨a, rfl⟩ := Int.eq_ofNat_of_zero_le h0
  unfold typing_covers_F quoinref20_covers_F
  dsimp only
  rw [line_end hb (by omega), others_count]
  have hc := List.count_le_length (a := (10 : Int)) (l := typed)
  have e : bytes_Count_F typed [10] = (List.count 10 typed : Int) := rfl
  have hr := run10_le (base.drop a)
  rw [List.length_drop] at hr
  rw [e, wrap_i64 (by omega) (by omega), wrap_i64 (by dsimp only; omega) (by dsimp only; omega)]
  unfold quoinref20_room_F
  rw [Int.toNat_natCast]
  have e2 : ((a + run10 (base.drop a) : Nat) : Int) - (a : Int) = (run10 (base.drop a) : Int) := by omega
  show mn _ (((a + run10 (base.drop a) : Nat) : Int) - (a : Int)) = _
  rw [e2]
  rfl

/-! ### bytes -/
theorem text_byte : ∀ n : Fin 256, typing_isText_F ((n.val : Nat) : Int) = quoinref20_text_F ((n.val : Nat) : Int) := by decide +kernel
theorem class_byte : ∀ n : Fin 256, class_Of_F ((n.val : Nat) : Int) false = quoinref06_Of_F ((n.val : Nat) : Int) false := by decide +kernel
theorem of_byte {p : Int → Prop} (h : ∀ n : Fin 256, p ((n.val : Nat) : Int)) {b : Int} (h0 : 0 ≤ b) (h1 : b ≤ 255) : p b := by
  have := h ⟨b.toNat, by omega⟩
  simpa [Int.toNat_of_nonneg h0] using this
theorem text_eq {b : Int} (h0 : 0 ≤ b) (h1 : b ≤ 255) : typing_isText_F b = quoinref20_text_F b := of_byte (p := fun b => typing_isText_F b = quoinref20_text_F b) text_byte h0 h1
theorem class_eq {b : Int} (h0 : 0 ≤ b) (h1 : b ≤ 255) : class_Of_F b false = quoinref06_Of_F b false := of_byte (p := fun b => class_Of_F b false = quoinref06_Of_F b false) class_byte h0 h1

theorem under_eq {base : List Int} {y : Ty20} (hb : base.length ≤ 4294967296) (hy : y.2.2.1.length ≤ 4294967296) (h0 : 0 ≤ y.2.1) (h1 : y.2.1 ≤ base.length) : typing_under_F base y = quoinref20_under base y := by
  unfold typing_under_F quoinref20_under
  by_cases h : y.1 = 105
  · simp [h]
  · rw [decide_eq_false h, if_neg h]
    exact covers_eq hb hy h0 h1

theorem fits_eq {base : List Int} {y : Ty20} (hb : base.length ≤ 4294967296) (hy : okB y.2.2.1) : typing_fits_F base y = quoinref20_fits_F base y := by
  unfold typing_fits_F quoinref20_fits_F
  rw [decide_eq_decide]
  refine and_congr_right fun _ => and_congr_right fun h0 => and_congr_right fun h1 => and_congr_right fun _ => and_congr_right fun _ => ?_
  have e1 : (∀ b ∈ y.2.2.1, typing_isText_F b = true) ↔ (∀ b ∈ y.2.2.1, quoinref20_text_F b = true) := by
    constructor <;> intro h b hm <;> have := hy.2 b hm
    · rw [← text_eq this.1 this.2]; exact h b hm
    · rw [text_eq this.1 this.2]; exact h b hm
  rw [e1, under_eq hb hy.1 h0 h1]
end Go.VE
namespace Go.VE
open Go Go.Proofs

theorem mn_le (a b : Int) : mn a b ≤ a ∧ mn a b ≤ b ∧ (mn a b = a ∨ mn a b = b) := by
  unfold mn
  by_cases h : b < a
  · rw [decide_eq_true h]; show b ≤ a ∧ b ≤ b ∧ (b = a ∨ b = b); omega
  · rw [decide_eq_false h]; show a ≤ a ∧ a ≤ b ∧ (a = a ∨ a = b); omega
theorem mn_nat (a b : Nat) : mn (a : Int) (b : Int) = ((min a b : Nat) : Int) := by
  have := mn_le (a : Int) (b : Int)
  omega

theorem others_le (p : List Int) : 0 ≤ quoinref20_others_F p ∧ quoinref20_others_F p ≤ p.length := by
  unfold quoinref20_others_F
  have := List.countP_le_length (p := fun b : Int => !decide (b = 10)) (l := p)
  omega
theorem room_le (base : List Int) {p : Int} (h0 : 0 ≤ p) (h1 : p ≤ base.length) : 0 ≤ quoinref20_room_F base p ∧ p + quoinref20_room_F base p ≤ base.length := by
  have : quoinref20_room_F base p = (run10 (base.drop p.toNat) : Int) := rfl
  have h := run10_le (base.drop p.toNat)
  rw [List.length_drop] at h
  omega
theorem rcovers_le (base p : List Int) {a : Int} (h0 : 0 ≤ a) (h1 : a ≤ base.length) : 0 ≤ quoinref20_covers_F base a p ∧ a + quoinref20_covers_F base a p ≤ base.length ∧ quoinref20_covers_F base a p ≤ p.length := by
  have e : quoinref20_covers_F base a p = mn (quoinref20_others_F p) (quoinref20_room_F base a) := rfl
  have := mn_le (quoinref20_others_F p) (quoinref20_room_F base a)
  have := others_le p
  have := room_le base h0 h1
  omega

/-- what it says that a typing fits -/
structure TFits (base : List Int) (y : Ty20) : Prop where
  kind : y.1 = 105 ∨ y.1 = 82
  lo : 0 ≤ y.2.1
  hi : y.2.1 ≤ base.length
  one : 1 ≤ y.2.2.2.2
  many : y.2.2.2.2 ≤ 9999
  text : ∀ b ∈ y.2.2.1, quoinref20_text_F b = true
  under : y.2.2.2.1 = quoinref20_under base y

theorem fits_iff {base : List Int} {y : Ty20} : quoinref20_fits_F base y = true ↔ TFits base y := by
  unfold quoinref20_fits_F
  rw [decide_eq_true_eq]
  exact ⟨fun ⟨a, b, c, d, e, f, g⟩ => ⟨a, b, c, d, e, f, g⟩, fun h => ⟨h.kind, h.lo, h.hi, h.one, h.many, h.text, h.under⟩⟩

theorem TFits.le {base : List Int} {y : Ty20} (h : TFits base y) : 0 ≤ y.2.2.2.1 ∧ y.2.1 + y.2.2.2.1 ≤ base.length ∧ y.2.2.2.1 ≤ y.2.2.1.length := by
  have hu := h.under
  have := h.lo; have := h.hi
  unfold quoinref20_under at hu
  split at hu
  · omega
  · have := rcovers_le base y.2.2.1 h.lo h.hi
    omega

theorem show_P {base : List Int} {y : Ty20} (hb : base.length ≤ 4294967296) (hy : okB y.2.2.1) : typing_Show_P base y := by
  unfold typing_Show_P
  have hlim : lim = 1099511627776 := rfl
  refine ⟨by simp only [List.length_nil]; omega, ?_⟩
  dsimp only
  rw [fits_eq hb hy]
  cases hf : quoinref20_fits_F base y
  · trivial
  · have h := fits_iff.1 hf
    have h1 := h.le
    have := h.lo; have := h.hi; have := hy.1
    rw [wrap_i64 (by omega) (by omega)]
    show _ ∧ _ ∧ _ ∧ _
    simp only [List.nil_append, List.length_append, List.length_take, List.length_drop]
    omega

/-- what so many copies stand over -/
theorem old_F {base : List Int} {y : Ty20} (hb : base.length ≤ 4294967296) (hy : okB y.2.2.1) (h : TFits base y) {n : Int} (h0 : 0 ≤ n) (h1 : n ≤ 9999) :
    typing_Finish_1_F n y base (IntKind.wrap .i64 ((List.length y.2.2.1 : Int) - bytes_Count_F y.2.2.1 [10])) = (if y.1 = 105 then 0 else mn (n * quoinref20_others_F y.2.2.1) (quoinref20_room_F base y.2.1)) := by
  unfold typing_Finish_1_F
  by_cases hk : y.1 = 105
  · rw [decide_eq_true hk, if_pos hk]; rfl
  · rw [decide_eq_false hk, if_neg hk]
    show mn (IntKind.wrap .i64 (n * IntKind.wrap .i64 ((List.length y.2.2.1 : Int) - bytes_Count_F y.2.2.1 [10]))) (IntKind.wrap .i64 ((lines_End_F base (lines_Of_F base y.2.1).1).1 - y.2.1)) = _
    obtain ⟨a, ha⟩ := Int.eq_ofNat_of_zero_le h.lo
    have hi := h.hi
    rw [ha] at hi ⊢
    rw [line_end hb (by omega)]
    have e : bytes_Count_F y.2.2.1 [10] = (List.count 10 y.2.2.1 : Int) := rfl
    have ho := others_le y.2.2.1
    have hoc := others_count y.2.2.1
    have hr := run10_le (base.drop a)
    rw [List.length_drop] at hr
    have hm0 : 0 ≤ n * quoinref20_others_F y.2.2.1 := Int.mul_nonneg h0 ho.1
    have hm1 : n * quoinref20_others_F y.2.2.1 ≤ 9999 * 4294967296 := Int.le_trans (Int.mul_le_mul_of_nonneg_right h1 ho.1) (Int.mul_le_mul_of_nonneg_left (by have := hy.1; omega) (by omega))
    rw [e, ← hoc, wrap_i64 (n := quoinref20_others_F y.2.2.1) (by omega) (by have := hy.1; omega), wrap_i64 (by omega) (by omega)]
    congr 1
    show IntKind.wrap .i64 (((a + run10 (base.drop a) : Nat) : Int) - (a : Int)) = _
    have e2 : ((a + run10 (base.drop a) : Nat) : Int) - (a : Int) = (run10 (base.drop a) : Int) := by omega
    rw [e2, wrap_i64 (by omega) (by omega)]
    rfl

theorem old_le {base : List Int} {y : Ty20} (h : TFits base y) {n : Int} (h0 : 0 ≤ n) : 0 ≤ (if y.1 = 105 then 0 else mn (n * quoinref20_others_F y.2.2.1) (quoinref20_room_F base y.2.1)) ∧ y.2.1 + (if y.1 = 105 then 0 else mn (n * quoinref20_others_F y.2.2.1) (quoinref20_room_F base y.2.1)) ≤ base.length := by
  have := h.lo; have := h.hi
  split
  · omega
  · have hr := room_le base h.lo h.hi
    have hm := mn_le (n * quoinref20_others_F y.2.2.1) (quoinref20_room_F base y.2.1)
    have := Int.mul_nonneg h0 (others_le y.2.2.1).1
    omega

theorem repB_le (b : List Int) (n : Int) (h0 : 0 ≤ n) : ((bytes_Repeat_F b n).length : Int) = n * b.length := by
  unfold bytes_Repeat_F
  rw [repB_length]
  obtain ⟨m, rfl⟩ := Int.eq_ofNat_of_zero_le h0
  simp

theorem finish_P {base : List Int} {y : Ty20} (hb : base.length ≤ 1048576) (hy : okB y.2.2.1) (hyl : y.2.2.1.length ≤ 1048576) : typing_Finish_P base y := by
  unfold typing_Finish_P
  dsimp only
  rw [fits_eq (by omega) hy]
  cases hf : quoinref20_fits_F base y
  · trivial
  have h := fits_iff.1 hf
  have hlim : lim = 1099511627776 := rfl
  have h1 := h.one; have h2 := h.many; have h3 := h.lo; have h4 := h.hi
  have hold : ∀ n : Int, typing_Finish_1_P n y base (IntKind.wrap .i64 ((List.length y.2.2.1 : Int) - bytes_Count_F y.2.2.1 [10])) := by
    intro n
    unfold typing_Finish_1_P
    cases decide (y.1 = 105)
    · exact ⟨lines_Of_any _ _, lines_End_any _ _⟩
    · trivial
  have hj1 : ∀ n : Int, 1 ≤ n → n ≤ 9999 → typing_Finish_J1_P n base y (IntKind.wrap .i64 ((List.length y.2.2.1 : Int) - bytes_Count_F y.2.2.1 [10])) := by
    intro n hn0 hn1
    have hmul : (y.2.2.1.length : Int) * n ≤ 1048576 * 9999 := Int.le_trans (Int.mul_le_mul_of_nonneg_right (by omega) (by omega)) (Int.mul_le_mul_of_nonneg_left hn1 (by omega))
    have hlen := repB_le y.2.2.1 n (by omega)
    rw [Int.mul_comm] at hlen
    have hj0 : ∀ (at' : Int), typing_Finish_J0_P n (bytes_Repeat_F y.2.2.1 n) at' base y (IntKind.wrap .i64 ((List.length y.2.2.1 : Int) - bytes_Count_F y.2.2.1 [10])) := by
      intro at'
      unfold typing_Finish_J0_P
      cases decide ((List.length (bytes_Repeat_F y.2.2.1 n) : Int) = 0)
      · refine ⟨hold n, ?_⟩
        dsimp only
        rw [old_F (by omega) hy h (by omega) hn1]
        have ho := old_le h (n := n) (by omega)
        generalize (if y.1 = 105 then (0 : Int) else mn (n * quoinref20_others_F y.2.2.1) (quoinref20_room_F base y.2.1)) = o at ho ⊢
        rw [wrap_i64 (by omega) (by omega)]
        refine ⟨by omega, ?_⟩
        show (slc base y.2.1 (y.2.1 + o)).length ≤ lim
        unfold slc
        rw [List.length_drop, List.length_take]
        omega
      · trivial
    unfold typing_Finish_J1_P
    refine ⟨⟨by omega, by omega, by omega, by omega⟩, ?_⟩
    dsimp only
    rw [wrap_i64 (n := y.2.1 + (List.length (bytes_Repeat_F y.2.2.1 n) : Int)) (by omega) (by omega)]
    by_cases c1 : 0 < y.2.1 + (List.length (bytes_Repeat_F y.2.2.1 n) : Int)
    · rw [decide_eq_true c1]
      show bif _ then _ else _
      by_cases c2 : 0 < (List.length (bytes_Repeat_F y.2.2.1 n) : Int)
      · rw [decide_eq_true c2, wrap_i64 (n := (List.length (bytes_Repeat_F y.2.2.1 n) : Int) - 1) (by omega) (by omega)]
        refine ⟨by omega, ?_⟩
        cases !decide (rd (0 : Int) (bytes_Repeat_F y.2.2.1 n) ((List.length (bytes_Repeat_F y.2.2.1 n) : Int) - 1) = 10)
        · rw [decide_eq_false (show ¬ (List.length (bytes_Repeat_F y.2.2.1 n) : Int) = 0 by omega)]; exact hj0 0
        · exact hj0 0
      · rw [decide_eq_false c2]
        show bif _ then _ else _
        have c3 : (List.length (bytes_Repeat_F y.2.2.1 n) : Int) = 0 := by omega
        rw [decide_eq_true c3]
        refine ⟨?_, ?_⟩
        · rw [c3, wrap_i64 (by omega) (by omega)]; omega
        · cases !decide (rd (0 : Int) base (IntKind.wrap .i64 (y.2.1 + (List.length (bytes_Repeat_F y.2.2.1 n) : Int) - 1)) = 10)
          · exact hj0 0
          · exact hj0 0
    · rw [decide_eq_false c1]; exact hj0 0
  refine ⟨rfl, hold _, ?_⟩
  cases decide ((65536 : Int) < IntKind.wrap .i64 (IntKind.wrap .i64 ((List.length base : Int) - typing_Finish_1_F y.2.2.2.2 y base (IntKind.wrap .i64 ((List.length y.2.2.1 : Int) - bytes_Count_F y.2.2.1 [10]))) + IntKind.wrap .i64 (y.2.2.2.2 * (List.length y.2.2.1 : Int))))
  · exact hj1 _ h1 h2
  · exact hj1 1 (by omega) (by omega)
end Go.VE
namespace Go.VE
open Go Go.Proofs

theorem class_range : ∀ n : Fin 256, quoinref06_Of_F ((n.val : Nat) : Int) false = 0 ∨ quoinref06_Of_F ((n.val : Nat) : Int) false = 1 ∨ quoinref06_Of_F ((n.val : Nat) : Int) false = 2 ∨ quoinref06_Of_F ((n.val : Nat) : Int) false = 3 := by decide +kernel

theorem okB.rd {t : List Int} (h : okB t) {n : Nat} (hn : n < t.length) : 0 ≤ rd (0 : Int) t (n : Int) ∧ VE.rd (0 : Int) t (n : Int) ≤ 255 := by
  rw [rd_nat _ _ _ hn]; exact h.2 _ (List.getElem_mem _)

theorem class_at {t : List Int} (h : okB t) {n : Nat} (hn : n < t.length) : class_Of_F (rd (0 : Int) t (n : Int)) false = kindAt t (n + 1) := by
  have := h.rd hn
  exact class_eq this.1 this.2

theorem blank_eq {t : List Int} (h : okB t) : ∀ n, n ≤ t.length → wordBlank t n = shBlank t n
  | 0, _ => rfl
  | n + 1, hn => by
    unfold wordBlank shBlank
    rw [class_at h (by omega), blank_eq h n (by omega)]

theorem kind_eq {t : List Int} (h : okB t) {k : Int} (hk : k ≠ 3) : ∀ n, n ≤ t.length → wordKind t k n = shKind t k n
  | 0, _ => rfl
  | n + 1, hn => by
    unfold wordKind shKind
    rw [class_at h (by omega), kind_eq h hk n (by omega)]
    by_cases hc : kindAt t (n + 1) = k <;> simp [hc, hk]

theorem shBlank_not (t : List Int) : ∀ n, 0 < shBlank t n → kindAt t (shBlank t n) ≠ 0
  | 0, h => by simp [shBlank] at h
  | n + 1, h => by
    unfold shBlank at h ⊢
    split
    · rename_i hc; rw [if_pos hc] at h; exact shBlank_not t n h
    · rename_i hc; exact hc

theorem word_eq {t : List Int} (h : okB t) (hl : 0 < t.length) : typing_word_F t = quoinref20_shorter_F t := by
  unfold typing_word_F quoinref20_shorter_F
  congr 1
  unfold wordLen shLen
  split
  · rfl
  · rw [blank_eq h _ (Nat.le_refl _)]
    have hle := shBlank_le t t.length
    generalize hb : shBlank t t.length = b at hle
    by_cases h0 : 0 < b
    · rw [if_pos h0, class_at h (by omega), show b - 1 + 1 = b by omega]
      have hne : kindAt t b ≠ 0 := by have := shBlank_not t t.length; rw [hb] at this; exact this h0
      have hr := h.rd (n := b - 1) (by omega)
      have hrange := of_byte (p := fun x => quoinref06_Of_F x false = 0 ∨ quoinref06_Of_F x false = 1 ∨ quoinref06_Of_F x false = 2 ∨ quoinref06_Of_F x false = 3) class_range hr.1 hr.2
      have hka : kindAt t b = quoinref06_Of_F (rd (0 : Int) t ((b - 1 : Nat) : Int)) false := by
        obtain ⟨c, rfl⟩ : ∃ c, b = c + 1 := ⟨b - 1, by omega⟩
        rfl
      rw [← hka] at hrange
      by_cases h3 : kindAt t b = 3
      · rw [if_neg (by omega), h3]
        have : ∀ n, wordKind t 3 n = n := fun n => by cases n <;> simp [wordKind]
        exact this b
      · rw [if_pos (by omega), kind_eq h h3 b hle]
    · obtain rfl : b = 0 := by omega
      rw [if_neg h0, if_neg (by show ¬ ((-1 : Int) = 1 ∨ (-1 : Int) = 2); omega)]

theorem line_eq (t : List Int) : ∀ n, (lastUp t 10 n + 1).toNat = lineLen t n
  | 0 => rfl
  | n + 1 => by
    unfold lastUp lineLen
    split
    · omega
    · exact line_eq t n

/-- the typing with other bytes typed -/
theorem with_eq {base : List Int} {y : Ty20} {p : List Int} (hk : y.1 = 105 ∨ y.1 = 82) : quoinref20_with_F base y p = (y.1, y.2.1, p, quoinref20_under base (y.1, y.2.1, p, 0, 0), y.2.2.2.2) := by
  unfold quoinref20_with_F quoinref20_under
  rcases hk with h | h
  · rw [decide_eq_false (by omega), if_pos h]; rfl
  · rw [decide_eq_true h, if_neg (by dsimp only; omega)]; rfl

theorem under_congr {base : List Int} {k s : Int} {p : List Int} {a b c d : Int} : quoinref20_under base (k, s, p, a, b) = quoinref20_under base (k, s, p, c, d) := rfl

/-- what a key makes of typed text; none: no text -/
def rpress (t : List Int) (key : Int) : Option (List Int) :=
  if key = 8 ∨ key = 127 then (if t.length = 0 then none else some (t.take (t.length - 1)))
  else if key = 21 then (if t.length = 0 ∨ rd (0 : Int) t ((t.length - 1 : Nat) : Int) = 10 then none else some (quoinref20_line_F t))
  else if key = 23 then (if t.length = 0 then none else some (quoinref20_shorter_F t))
  else if key = 13 then some (t ++ [10])
  else if quoinref20_text_F key = true then some (t ++ [key]) else none

theorem pressed_eq {t : List Int} (h : okB t) {key : Int} (h0 : 0 ≤ key) (h1 : key ≤ 255) : pressed t key = rpress t key := by
  unfold pressed rpress
  by_cases c1 : key = 8 ∨ key = 127
  · rw [if_pos c1, if_pos (by omega)]
    by_cases cz : t.length = 0
    · simp [cz]
    · rw [if_neg (by omega), if_neg (by omega), if_neg (by omega), if_neg cz]
  · rw [if_neg c1]
    by_cases c2 : key = 21
    · subst c2
      by_cases cz : t.length = 0 ∨ rd (0 : Int) t ((t.length - 1 : Nat) : Int) = 10
      · rcases cz with c | c
        · simp [c]
        · simp [c]
      · have cz1 : ¬ t.length = 0 := fun c => cz (.inl c)
        have cz2 : ¬ rd (0 : Int) t ((t.length - 1 : Nat) : Int) = 10 := fun c => cz (.inr c)
        unfold quoinref20_line_F
        rw [← line_eq]
        simp only [cz1, cz2, or_self, and_false, if_false, if_true, or_true, true_or]
    · by_cases c3 : key = 23
      · subst c3
        by_cases cz : t.length = 0
        · simp [cz]
        · rw [← word_eq h (by omega)]
          simp [cz]
      · rw [if_neg (show ¬ (key = 8 ∨ key = 127 ∨ key = 21 ∨ key = 23) by omega), if_neg c2, if_neg c3, text_eq h0 h1]

theorem rpress_F {base : List Int} {y : Ty20} (hy : okB y.2.2.1) {key : Int} : quoinref20_Press_F base y key =
    if quoinref20_fits_F base y = true then
      if key = 27 then ((y.1, y.2.1, y.2.2.1, quoinref20_under base y, y.2.2.2.2), false, (0 : Int)) else match rpress y.2.2.1 key with
        | none => (((0 : Int), (0 : Int), ([] : List Int), (0 : Int), (0 : Int)), false, (200 : Int))
        | some t => ((y.1, y.2.1, t, quoinref20_under base (y.1, y.2.1, t, 0, 0), y.2.2.2.2), true, (0 : Int))
    else (((0 : Int), (0 : Int), ([] : List Int), (0 : Int), (0 : Int)), false, (2 : Int)) := by
  unfold quoinref20_Press_F
  dsimp only
  have hlen := hy.1
  cases hf : quoinref20_fits_F base y
  · rfl
  · have hk := (fits_iff.1 hf).kind
    show (bif (decide (key = (27 : Int))) then _ else _) = _
    rw [if_pos rfl]
    by_cases c0 : key = 27
    · rw [decide_eq_true c0, if_pos c0, with_eq hk]; rfl
    rw [decide_eq_false c0, if_neg c0]
    show (bif (decide (key = (8 : Int))) then _ else _) = _
    by_cases cz : y.2.2.1.length = 0
    · have ez : decide ((List.length y.2.2.1 : Int) = (0 : Int)) = true := decide_eq_true (by omega)
      rw [ez]
      unfold rpress
      by_cases c1 : key = 8
      · rw [decide_eq_true c1, if_pos (.inl c1), if_pos cz]; rfl
      rw [decide_eq_false c1]
      show (bif (decide (key = (127 : Int))) then _ else _) = _
      by_cases c2 : key = 127
      · rw [decide_eq_true c2, if_pos (.inr c2), if_pos cz]; rfl
      rw [decide_eq_false c2, if_neg (by omega)]
      show (bif (decide (key = (21 : Int))) then _ else _) = _
      by_cases c3 : key = 21
      · rw [decide_eq_true c3, if_pos c3, if_pos (.inl cz)]; rfl
      rw [decide_eq_false c3, if_neg c3]
      show (bif (decide (key = (23 : Int))) then _ else _) = _
      by_cases c4 : key = 23
      · rw [decide_eq_true c4, if_pos c4, if_pos cz]; rfl
      rw [decide_eq_false c4, if_neg c4]
      show (bif (decide (key = (13 : Int))) then _ else _) = _
      by_cases c5 : key = 13
      · rw [decide_eq_true c5, if_pos c5]
        unfold quoinref20_Press_J0_F
        rw [with_eq hk]; rfl
      rw [decide_eq_false c5, if_neg c5]
      cases quoinref20_text_F key
      · rfl
      · unfold quoinref20_Press_J0_F
        simp only [with_eq hk]
        rfl
    · have ez : decide ((List.length y.2.2.1 : Int) = (0 : Int)) = false := decide_eq_false (by omega)
      have ew : IntKind.wrap .i64 ((List.length y.2.2.1 : Int) - (1 : Int)) = ((y.2.2.1.length - 1 : Nat) : Int) := by
        rw [wrap_i64 (by omega) (by omega)]; omega
      rw [ez, ew, Int.toNat_natCast]
      unfold rpress
      by_cases c1 : key = 8
      · rw [decide_eq_true c1, if_pos (.inl c1), if_neg cz]
        show (quoinref20_with_F base y (y.2.2.1.take (y.2.2.1.length - 1)), true, (0 : Int)) = _
        rw [with_eq hk]
      rw [decide_eq_false c1]
      show (bif (decide (key = (127 : Int))) then _ else _) = _
      by_cases c2 : key = 127
      · rw [decide_eq_true c2, if_pos (.inr c2), if_neg cz]
        show (quoinref20_with_F base y (y.2.2.1.take (y.2.2.1.length - 1)), true, (0 : Int)) = _
        rw [with_eq hk]
      rw [decide_eq_false c2, if_neg (by omega)]
      show (bif (decide (key = (21 : Int))) then _ else _) = _
      by_cases c3 : key = 21
      · rw [decide_eq_true c3, if_pos c3]
        show (bif decide (rd (0 : Int) y.2.2.1 ((y.2.2.1.length - 1 : Nat) : Int) = 10) then _ else _) = _
        by_cases cl : rd (0 : Int) y.2.2.1 ((y.2.2.1.length - 1 : Nat) : Int) = 10
        · rw [decide_eq_true cl, if_pos (.inr cl)]; rfl
        · rw [decide_eq_false cl, if_neg (by omega)]
          show (quoinref20_with_F base y (quoinref20_line_F y.2.2.1), true, (0 : Int)) = _
          rw [with_eq hk]
      rw [decide_eq_false c3, if_neg c3]
      show (bif (decide (key = (23 : Int))) then _ else _) = _
      by_cases c4 : key = 23
      · rw [decide_eq_true c4, if_pos c4, if_neg cz]
        show (quoinref20_with_F base y (quoinref20_shorter_F y.2.2.1), true, (0 : Int)) = _
        rw [with_eq hk]
      rw [decide_eq_false c4, if_neg c4]
      show (bif (decide (key = (13 : Int))) then _ else _) = _
      by_cases c5 : key = 13
      · rw [decide_eq_true c5, if_pos c5]
        unfold quoinref20_Press_J0_F
        rw [with_eq hk]; rfl
      rw [decide_eq_false c5, if_neg c5]
      cases quoinref20_text_F key
      · rfl
      · unfold quoinref20_Press_J0_F
        simp only [with_eq hk]
        rfl

theorem rpress_ok {t : List Int} (h : okB t) {key : Int} (h0 : 0 ≤ key) (h1 : key ≤ 255) {u : List Int} (hu : rpress t key = some u) : u.length ≤ t.length + 1 ∧ ∀ b ∈ u, 0 ≤ b ∧ b ≤ 255 := by
  have tk : ∀ n, (t.take n).length ≤ t.length + 1 ∧ ∀ b ∈ t.take n, 0 ≤ b ∧ b ≤ 255 := fun n => ⟨by rw [List.length_take]; omega, fun b hb => h.2 b (List.mem_of_mem_take hb)⟩
  have ap : ∀ k, 0 ≤ k → k ≤ 255 → (t ++ [k]).length ≤ t.length + 1 ∧ ∀ b ∈ t ++ [k], 0 ≤ b ∧ b ≤ 255 := fun k hk0 hk1 => ⟨by simp, fun b hb => by
    rcases List.mem_append.1 hb with hb | hb
    · exact h.2 b hb
    · rw [List.mem_singleton] at hb; subst hb; exact ⟨hk0, hk1⟩⟩
  unfold rpress at hu
  split at hu
  · split at hu
    · cases hu
    · injection hu with hu; subst hu; exact tk _
  split at hu
  · split at hu
    · cases hu
    · injection hu with hu; subst hu; exact tk _
  split at hu
  · split at hu
    · cases hu
    · injection hu with hu; subst hu; exact tk _
  split at hu
  · injection hu with hu; subst hu; exact ap _ (by omega) (by omega)
  split at hu
  · injection hu with hu; subst hu; exact ap _ h0 h1
  · cases hu

/-- PRESS: AS THE DOCUMENT SAYS -/
theorem press_eq {base : List Int} {y : Ty20} (hb : base.length ≤ 4294967295) (hy : okB y.2.2.1) (hl : y.2.2.1.length ≤ 4294967295) {key : Int} (h0 : 0 ≤ key) (h1 : key ≤ 255) : typing_Press_F base y key = quoinref20_Press_F base y key := by
  rw [rpress_F hy]
  unfold typing_Press_F
  rw [fits_eq (by omega) hy]
  by_cases hf : quoinref20_fits_F base y = true
  · have h := fits_iff.1 hf
    rw [if_pos hf, if_pos hf]
    by_cases c0 : key = 27
    · rw [if_pos c0, if_pos c0, ← h.under]
    · rw [if_neg c0, if_neg c0, pressed_eq hy h0 h1]
      cases hp : rpress y.2.2.1 key with
      | none => rfl
      | some u =>
        dsimp only
        rw [under_eq (y := (y.1, y.2.1, u, y.2.2.2.1, y.2.2.2.2)) (by omega) (by have := (rpress_ok hy h0 h1 hp).1; dsimp only; omega) h.lo h.hi]
        rfl
  · rw [if_neg hf, if_neg hf]
end Go.VE
namespace Go.VE
open Go Go.Proofs
/-! ### quoin/typing.Begin -/
def typing_Begin_G : List (Nat × App) := []
theorem typing_Begin_Gok : GOk Try.prog (getG typing_Begin_G) := GOk.nil
def typing_Begin_raw (kind0 : Int) (at1 : Int) (count2 : Int) (K : Res → List Cell → Prop) : Prop :=
  K (.one (.v (.st (.pair (.int .u8) (.pair (.int .i64) (.pair (.sl (.int .u8)) (.pair (.int .i64) (.int .i64)))))) (kind0, at1, ([] : List Int), (0 : Int), count2))) []
def typing_Begin_A : List AS := [.v (.int .u8), .v (.int .i64), .v (.int .i64)]
theorem typing_Begin_walk (kind0 : Int) (at1 : Int) (count2 : Int) (K : Res → List Cell → Prop) : runF tb (getG typing_Begin_G) [] Try.f10 [true] (mkA typing_Begin_A (kind0, at1, count2, ())) K = typing_Begin_raw kind0 at1 count2 K := by kernel_rfl

def typing_Begin_F (kind0 : Int) (at1 : Int) (count2 : Int) : (Int × Int × List Int × Int × Int) :=
  (kind0, at1, ([] : List Int), (0 : Int), count2)
set_option maxRecDepth 20000 in
theorem typing_Begin_sp (kind0 : Int) (at1 : Int) (count2 : Int) (K : Res → List Cell → Prop) (_ : wfA typing_Begin_A (kind0, at1, count2, ())) (h : ∀ r : (Int × Int × List Int × Int × Int), r = typing_Begin_F kind0 at1 count2 → K (.one (.v (.st (.pair (.int .u8) (.pair (.int .i64) (.pair (.sl (.int .u8)) (.pair (.int .i64) (.int .i64)))))) r)) []) : typing_Begin_raw kind0 at1 count2 K := by
  unfold typing_Begin_raw
  exact h _ rfl
def typing_Begin_C (v : valsA typing_Begin_A) (K : Res → List Cell → Prop) : Prop := ∀ r : (Int × Int × List Int × Int × Int), r = typing_Begin_F v.1 v.2.1 v.2.2.1 → K (.one (.v (.st (.pair (.int .u8) (.pair (.int .i64) (.pair (.sl (.int .u8)) (.pair (.int .i64) (.int .i64)))))) r)) []
def typing_Begin_S : App := specW typing_Begin_A typing_Begin_C
theorem typing_Begin_wv (K : Res → List Cell → Prop) : ∀ v : valsA typing_Begin_A, runF tb (getG typing_Begin_G) [] Try.f10 [true] (mkA typing_Begin_A v) K = typing_Begin_raw v.1 v.2.1 v.2.2.1 K
  | (kind0, at1, count2, ()) => typing_Begin_walk kind0 at1 count2 K
set_option maxRecDepth 20000 in
theorem typing_Begin_ok : AppOk Try.prog 10 typing_Begin_S :=
  AppOk.specW (spec_ok (runF_ok tb_M tb_ok typing_Begin_Gok (LabsOk.nil) (f := 10) (fn := Try.f10) (by kernel_rfl) (by kernel_rfl) (by kernel_rfl) [true]) fun v K hw h => (typing_Begin_wv K v).mpr (typing_Begin_sp v.1 v.2.1 v.2.2.1 K hw h))

end Go.VE
namespace Go.VE
open Go Go.Proofs
/-! ### quoin/quoinlaw20.alive -/
def quoinlaw20_alive_G : List (Nat × App) := [(10, typing_Begin_S), (15, typing_Press_S), (17, typing_Show_S), (19, typing_Finish_S), (12, typing_Check_S)]
theorem quoinlaw20_alive_Gok : GOk Try.prog (getG quoinlaw20_alive_G) := GOk.cons typing_Begin_ok (GOk.cons typing_Press_ok (GOk.cons typing_Show_ok (GOk.cons typing_Finish_ok (GOk.cons typing_Check_ok (GOk.nil)))))
def quoinlaw20_alive_raw  (K : Res → List Cell → Prop) : Prop :=
  ∀ (r1 : (Int × Int × List Int × Int × Int)), r1 = typing_Begin_F (105 : Int) (1 : Int) (3 : Int) → (
  wfR (.one (.v (.st (.pair (.int .u8) (.pair (.int .i64) (.pair (.sl (.int .u8)) (.pair (.int .i64) (.int .i64)))))) r1)) → (
  typing_Press_P ([(97 : Int), (98 : Int), (10 : Int), (99 : Int), (100 : Int)] : List Int) r1 (120 : Int) ∧ (
  ∀ (r2 : (Int × Int × List Int × Int × Int) × Bool × Int), r2 = typing_Press_F ([(97 : Int), (98 : Int), (10 : Int), (99 : Int), (100 : Int)] : List Int) r1 (120 : Int) → (
  wfR (.tup [.v (.st (.pair (.int .u8) (.pair (.int .i64) (.pair (.sl (.int .u8)) (.pair (.int .i64) (.int .i64)))))) r2.1, .v (.bool) r2.2.1, .v (.int .i64) r2.2.2]) → (
  typing_Show_P ([(97 : Int), (98 : Int), (10 : Int), (99 : Int), (100 : Int)] : List Int) r2.1 ∧ (
  ∀ (r3 : List Int × Int), r3 = typing_Show_F ([(97 : Int), (98 : Int), (10 : Int), (99 : Int), (100 : Int)] : List Int) r2.1 → (
  wfR (.tup [.fr 5 (.int .u8) r3.1, .v (.int .i64) r3.2]) → (
  typing_Finish_P ([(97 : Int), (98 : Int), (10 : Int), (99 : Int), (100 : Int)] : List Int) r2.1 ∧ (
  ∀ (r4 : List ((Int × List Int × List Int)) × Int), r4 = typing_Finish_F ([(97 : Int), (98 : Int), (10 : Int), (99 : Int), (100 : Int)] : List Int) r2.1 → (
  wfR (.tup [.fr 46 (.st (.pair (.int .i64) (.pair (.sl (.int .u8)) (.sl (.int .u8))))) r4.1, .v (.int .i64) r4.2]) → (
  typing_Press_P ([(97 : Int), (98 : Int), (10 : Int), (99 : Int), (100 : Int)] : List Int) r1 (8 : Int) ∧ (
  ∀ (r5 : (Int × Int × List Int × Int × Int) × Bool × Int), r5 = typing_Press_F ([(97 : Int), (98 : Int), (10 : Int), (99 : Int), (100 : Int)] : List Int) r1 (8 : Int) → (
  wfR (.tup [.v (.st (.pair (.int .u8) (.pair (.int .i64) (.pair (.sl (.int .u8)) (.pair (.int .i64) (.int .i64)))))) r5.1, .v (.bool) r5.2.1, .v (.int .i64) r5.2.2]) → (
  bif (!r2.2.1) then
    K (.one (.v (.bool) false)) []
  else
  bif (!decide (r2.2.2 = (0 : Int))) then
    K (.one (.v (.bool) false)) []
  else
  bif (!decide (r5.2.2 = (200 : Int))) then
    K (.one (.v (.bool) false)) []
  else
  bif (!decide (r3.1 = ([97, 120, 98, 10, 99, 100] : List Int))) then
    K (.one (.v (.bool) false)) []
  else
  bif (!decide (r3.2 = (2 : Int))) then
    K (.one (.v (.bool) false)) []
  else
  bif (!decide ((List.length r4.1 : Int) = (1 : Int))) then
    K (.one (.v (.bool) false)) []
  else
    bif decide (0 ≤ (0 : Int) ∧ (0 : Int) < (List.length r4.1 : Int)) then
    bif (!decide ((rd ((0 : Int), ([] : List Int), ([] : List Int)) r4.1 (0 : Int)).2.2 = ([120, 120, 120] : List Int))) then
      K (.one (.v (.bool) false)) []
    else
    bif (!decide (r4.2 = (3 : Int))) then
      K (.one (.v (.bool) false)) []
    else
      ∀ (r6 : Int), r6 = typing_Check_F ([(97 : Int), (98 : Int), (10 : Int), (99 : Int), (100 : Int)] : List Int) r1 → (
      wfR (.one (.v (.int .i64) r6)) → (
      bif (decide (r6 = (0 : Int))) then
        ∀ (r7 : (Int × Int × List Int × Int × Int)), r7 = typing_Begin_F (105 : Int) (6 : Int) (1 : Int) → (
        wfR (.one (.v (.st (.pair (.int .u8) (.pair (.int .i64) (.pair (.sl (.int .u8)) (.pair (.int .i64) (.int .i64)))))) r7)) → (
        ∀ (r8 : Int), r8 = typing_Check_F ([(97 : Int), (98 : Int), (10 : Int), (99 : Int), (100 : Int)] : List Int) r7 → (
        wfR (.one (.v (.int .i64) r8)) → (
        K (.one (.v (.bool) (decide (r8 = (2 : Int))))) []))))
      else
        K (.one (.v (.bool) false)) []))
    else False))))))))))))))
def quoinlaw20_alive_A : List AS := []
theorem quoinlaw20_alive_walk  (K : Res → List Cell → Prop) : runF tb (getG quoinlaw20_alive_G) [] Try.f8 [true] (mkA quoinlaw20_alive_A ()) K = quoinlaw20_alive_raw  K := by kernel_rfl
--! pre 0
--! import LT2
def quoinlaw20_alive_F : Bool := true
theorem quoinlaw20_alive_sp (K : Res → List Cell → Prop) (_ : wfA quoinlaw20_alive_A ()) (h : ∀ r : Bool, r = quoinlaw20_alive_F → K (.one (.v .bool r)) []) : quoinlaw20_alive_raw K := by
  have hk := h true rfl
  clear h
  unfold quoinlaw20_alive_raw
  intro r1 hr1 _
  obtain rfl : r1 = (105, 1, [], 0, 3) := hr1
  refine ⟨by show (0 : Nat) < 1099511627776; omega, fun r2 hr2 _ => ?_⟩
  obtain rfl : r2 = ((105, 1, [120], 0, 3), true, 0) := hr2.trans (by decide +kernel)
  have hok : okB ([120] : List Int) := ⟨by simp, by simp⟩
  refine ⟨show_P (by simp) hok, fun r3 hr3 _ => ?_⟩
  obtain rfl : r3 = ([97, 120, 98, 10, 99, 100], 2) := hr3.trans (by decide +kernel)
  refine ⟨finish_P (by simp) hok (by simp), fun r4 hr4 _ => ?_⟩
  obtain rfl : r4 = ([(1, [], [120, 120, 120])], 3) := hr4.trans (by decide +kernel)
  refine ⟨by show (0 : Nat) < 1099511627776; omega, fun r5 hr5 _ => ?_⟩
  obtain rfl : r5 = ((0, 0, [], 0, 0), false, 200) := hr5.trans (by decide +kernel)
  show ∀ (r6 : Int), r6 = typing_Check_F [97, 98, 10, 99, 100] (105, 1, [], 0, 3) → _
  intro r6 hr6 _
  obtain rfl : r6 = 0 := hr6.trans (by decide +kernel)
  show ∀ (r7 : Int × Int × List Int × Int × Int), _
  intro r7 hr7 _
  obtain rfl : r7 = (105, 6, [], 0, 1) := hr7
  intro r8 hr8 _
  obtain rfl : r8 = 2 := hr8.trans (by decide +kernel)
  exact hk

def quoinlaw20_alive_C (v : valsA quoinlaw20_alive_A) (K : Res → List Cell → Prop) : Prop := ∀ r : Bool, r = quoinlaw20_alive_F → K (.one (.v (.bool) r)) []
def quoinlaw20_alive_S : App := specW quoinlaw20_alive_A quoinlaw20_alive_C
theorem quoinlaw20_alive_wv (K : Res → List Cell → Prop) : ∀ v : valsA quoinlaw20_alive_A, runF tb (getG quoinlaw20_alive_G) [] Try.f8 [true] (mkA quoinlaw20_alive_A v) K = quoinlaw20_alive_raw  K
  | () => quoinlaw20_alive_walk  K
set_option maxRecDepth 20000 in
theorem quoinlaw20_alive_ok : AppOk Try.prog 8 quoinlaw20_alive_S :=
  AppOk.specW (spec_ok (runF_ok tb_M tb_ok quoinlaw20_alive_Gok (LabsOk.nil) (f := 8) (fn := Try.f8) (by kernel_rfl) (by kernel_rfl) (by kernel_rfl) [true]) fun v K hw h => (quoinlaw20_alive_wv K v).mpr (quoinlaw20_alive_sp  K hw h))

end Go.VE
namespace Go.VE
open Go Go.Proofs
/-! ### quoin/quoinlaw20.same -/
def quoinlaw20_same_G : List (Nat × App) := []
theorem quoinlaw20_same_Gok : GOk Try.prog (getG quoinlaw20_same_G) := GOk.nil
def quoinlaw20_same_raw (a0 : (Int × Int × List Int × Int × Int)) (b1 : (Int × Int × List Int × Int × Int)) (K : Res → List Cell → Prop) : Prop :=
  bif (decide (a0.1 = b1.1)) then
    bif (decide (a0.2.1 = b1.2.1)) then
      bif (decide (a0.2.2.1 = b1.2.2.1)) then
        bif (decide (a0.2.2.2.1 = b1.2.2.2.1)) then
          K (.one (.v (.bool) (decide (a0.2.2.2.2 = b1.2.2.2.2)))) []
        else
          K (.one (.v (.bool) false)) []
      else
        K (.one (.v (.bool) false)) []
    else
      K (.one (.v (.bool) false)) []
  else
    K (.one (.v (.bool) false)) []
def quoinlaw20_same_A : List AS := [.v (.st (.pair (.int .u8) (.pair (.int .i64) (.pair (.sl (.int .u8)) (.pair (.int .i64) (.int .i64)))))), .v (.st (.pair (.int .u8) (.pair (.int .i64) (.pair (.sl (.int .u8)) (.pair (.int .i64) (.int .i64))))))]
theorem quoinlaw20_same_walk (a0 : (Int × Int × List Int × Int × Int)) (b1 : (Int × Int × List Int × Int × Int)) (K : Res → List Cell → Prop) : runF tb (getG quoinlaw20_same_G) [] Try.f9 [true] (mkA quoinlaw20_same_A (a0, b1, ())) K = quoinlaw20_same_raw a0 b1 K := by kernel_rfl

def quoinlaw20_same_F (a0 : (Int × Int × List Int × Int × Int)) (b1 : (Int × Int × List Int × Int × Int)) : Bool :=
  bif (decide (a0.1 = b1.1)) then
    bif (decide (a0.2.1 = b1.2.1)) then
      bif (decide (a0.2.2.1 = b1.2.2.1)) then
        bif (decide (a0.2.2.2.1 = b1.2.2.2.1)) then
          (decide (a0.2.2.2.2 = b1.2.2.2.2))
        else
          false
      else
        false
    else
      false
  else
    false
set_option maxRecDepth 20000 in
theorem quoinlaw20_same_sp (a0 : (Int × Int × List Int × Int × Int)) (b1 : (Int × Int × List Int × Int × Int)) (K : Res → List Cell → Prop) (_ : wfA quoinlaw20_same_A (a0, b1, ())) (h : ∀ r : Bool, r = quoinlaw20_same_F a0 b1 → K (.one (.v (.bool) r)) []) : quoinlaw20_same_raw a0 b1 K := by
  unfold quoinlaw20_same_raw
  refine brb (fun c1 => ?_) (fun c1 => ?_)
  ·
    refine brb (fun c2 => ?_) (fun c2 => ?_)
    ·
      refine brb (fun c3 => ?_) (fun c3 => ?_)
      ·
        refine brb (fun c4 => ?_) (fun c4 => ?_)
        ·
          exact h _ ((Eq.trans (ctrue c1) (Eq.trans (ctrue c2) (Eq.trans (ctrue c3) (ctrue c4)))) : quoinlaw20_same_F a0 b1 = _).symm
        ·
          exact h _ ((Eq.trans (ctrue c1) (Eq.trans (ctrue c2) (Eq.trans (ctrue c3) (cfalse c4)))) : quoinlaw20_same_F a0 b1 = _).symm
      ·
        exact h _ ((Eq.trans (ctrue c1) (Eq.trans (ctrue c2) (cfalse c3))) : quoinlaw20_same_F a0 b1 = _).symm
    ·
      exact h _ ((Eq.trans (ctrue c1) (cfalse c2)) : quoinlaw20_same_F a0 b1 = _).symm
  ·
    exact h _ ((cfalse c1) : quoinlaw20_same_F a0 b1 = _).symm
def quoinlaw20_same_C (v : valsA quoinlaw20_same_A) (K : Res → List Cell → Prop) : Prop := ∀ r : Bool, r = quoinlaw20_same_F v.1 v.2.1 → K (.one (.v (.bool) r)) []
def quoinlaw20_same_S : App := specW quoinlaw20_same_A quoinlaw20_same_C
theorem quoinlaw20_same_wv (K : Res → List Cell → Prop) : ∀ v : valsA quoinlaw20_same_A, runF tb (getG quoinlaw20_same_G) [] Try.f9 [true] (mkA quoinlaw20_same_A v) K = quoinlaw20_same_raw v.1 v.2.1 K
  | (a0, b1, ()) => quoinlaw20_same_walk a0 b1 K
set_option maxRecDepth 20000 in
theorem quoinlaw20_same_ok : AppOk Try.prog 9 quoinlaw20_same_S :=
  AppOk.specW (spec_ok (runF_ok tb_M tb_ok quoinlaw20_same_Gok (LabsOk.nil) (f := 9) (fn := Try.f9) (by kernel_rfl) (by kernel_rfl) (by kernel_rfl) [true]) fun v K hw h => (quoinlaw20_same_wv K v).mpr (quoinlaw20_same_sp v.1 v.2.1 K hw h))

end Go.VE
namespace Go.VE
open Go Go.Proofs
/-! ### quoin/quoinlaw20.TypingPresses -/
def quoinlaw20_TypingPresses_G : List (Nat × App) := [(8, quoinlaw20_alive_S), (10, typing_Begin_S), (11, quoinref20_Begin_S), (9, quoinlaw20_same_S), (12, typing_Check_S), (13, quoinref20_Check_S), (14, quoinref20_Press_S), (15, typing_Press_S)]
theorem quoinlaw20_TypingPresses_Gok : GOk Try.prog (getG quoinlaw20_TypingPresses_G) := GOk.cons quoinlaw20_alive_ok (GOk.cons typing_Begin_ok (GOk.cons quoinref20_Begin_ok (GOk.cons quoinlaw20_same_ok (GOk.cons typing_Check_ok (GOk.cons quoinref20_Check_ok (GOk.cons quoinref20_Press_ok (GOk.cons typing_Press_ok (GOk.nil))))))))
def quoinlaw20_TypingPresses_raw (base0 : List Int) (y1 : (Int × Int × List Int × Int × Int)) (key2 : Int) (K : Res → List Cell → Prop) : Prop :=
  ∀ (r1 : Bool), r1 = quoinlaw20_alive_F → (
  wfR (.one (.v (.bool) r1)) → (
  bif (!r1) then
    K (.one (.v (.bool) false)) []
  else
    ∀ (r2 : (Int × Int × List Int × Int × Int)), r2 = typing_Begin_F y1.1 y1.2.1 y1.2.2.2.2 → (
    wfR (.one (.v (.st (.pair (.int .u8) (.pair (.int .i64) (.pair (.sl (.int .u8)) (.pair (.int .i64) (.int .i64)))))) r2)) → (
    ∀ (r3 : (Int × Int × List Int × Int × Int)), r3 = quoinref20_Begin_F y1.1 y1.2.1 y1.2.2.2.2 → (
    wfR (.one (.v (.st (.pair (.int .u8) (.pair (.int .i64) (.pair (.sl (.int .u8)) (.pair (.int .i64) (.int .i64)))))) r3)) → (
    ∀ (r4 : Bool), r4 = quoinlaw20_same_F r2 r3 → (
    wfR (.one (.v (.bool) r4)) → (
    bif (!r4) then
      K (.one (.v (.bool) false)) []
    else
      ∀ (r5 : Int), r5 = typing_Check_F base0 y1 → (
      wfR (.one (.v (.int .i64) r5)) → (
      ∀ (r6 : Int), r6 = quoinref20_Check_F base0 y1 → (
      wfR (.one (.v (.int .i64) r6)) → (
      bif (!decide (r5 = r6)) then
        K (.one (.v (.bool) false)) []
      else
        quoinref20_Press_P base0 y1 key2 ∧ (
        ∀ (r7 : (Int × Int × List Int × Int × Int) × Bool × Int), r7 = quoinref20_Press_F base0 y1 key2 → (
        wfR (.tup [.v (.st (.pair (.int .u8) (.pair (.int .i64) (.pair (.sl (.int .u8)) (.pair (.int .i64) (.int .i64)))))) r7.1, .v (.bool) r7.2.1, .v (.int .i64) r7.2.2]) → (
        typing_Press_P base0 y1 key2 ∧ (
        ∀ (r8 : (Int × Int × List Int × Int × Int) × Bool × Int), r8 = typing_Press_F base0 y1 key2 → (
        wfR (.tup [.v (.st (.pair (.int .u8) (.pair (.int .i64) (.pair (.sl (.int .u8)) (.pair (.int .i64) (.int .i64)))))) r8.1, .v (.bool) r8.2.1, .v (.int .i64) r8.2.2]) → (
        ∀ (r9 : Bool), r9 = quoinlaw20_same_F r8.1 r7.1 → (
        wfR (.one (.v (.bool) r9)) → (
        bif r9 then
          bif (r8.2.1 == r7.2.1) then
            K (.one (.v (.bool) (decide (r8.2.2 = r7.2.2)))) []
          else
            K (.one (.v (.bool) false)) []
        else
          K (.one (.v (.bool) false)) []))))))))))))))))))))
def quoinlaw20_TypingPresses_A : List AS := [.v (.sl (.int .u8)), .v (.st (.pair (.int .u8) (.pair (.int .i64) (.pair (.sl (.int .u8)) (.pair (.int .i64) (.int .i64)))))), .v (.int .u8)]
theorem quoinlaw20_TypingPresses_walk (base0 : List Int) (y1 : (Int × Int × List Int × Int × Int)) (key2 : Int) (K : Res → List Cell → Prop) : runF tb (getG quoinlaw20_TypingPresses_G) [] Try.f3 [true] (mkA quoinlaw20_TypingPresses_A (base0, y1, key2, ())) K = quoinlaw20_TypingPresses_raw base0 y1 key2 K := by kernel_rfl
--! law 1

def quoinlaw20_TypingPresses_R : App := runF tb (getG quoinlaw20_TypingPresses_G) [] Try.f3 [true]
theorem quoinlaw20_TypingPresses_ok : AppOk Try.prog 3 quoinlaw20_TypingPresses_R := runF_ok tb_M tb_ok quoinlaw20_TypingPresses_Gok (LabsOk.nil) (f := 3) (fn := Try.f3) (by kernel_rfl) (by kernel_rfl) (by kernel_rfl) [true]
end Go.VE
namespace Go.VE
open Go Go.Proofs

theorem with_P {base : List Int} {y : Ty20} {p : List Int} (hp : p.length ≤ 4294967296) (h : 0 ≤ y.2.1 ∧ y.2.1 ≤ base.length) : quoinref20_with_P base y p := by
  unfold quoinref20_with_P
  have hlim : lim = 1099511627776 := rfl
  refine ⟨by simp only [List.length_nil]; omega, ?_⟩
  cases decide (y.1 = 82)
  · trivial
  · exact h

theorem press_P {base : List Int} {y : Ty20} {key : Int} (hy : okB y.2.2.1) (hl : y.2.2.1.length ≤ 1048576) : quoinref20_Press_P base y key := by
  unfold quoinref20_Press_P
  dsimp only
  have hlim : lim = 1099511627776 := rfl
  cases hf : quoinref20_fits_F base y
  · trivial
  have h := fits_iff.1 hf
  have hs := And.intro h.lo h.hi
  have hj : ∀ k, quoinref20_Press_J0_P base k y.2.2.1 y ((0 : Int), (0 : Int), ([] : List Int), (0 : Int), (0 : Int)) := by
    intro k
    unfold quoinref20_Press_J0_P
    refine ⟨by simp only [List.length_nil]; omega, by simp only [List.nil_append, List.length_cons, List.length_nil]; omega, with_P (by simp only [List.nil_append, List.length_append, List.length_cons, List.length_nil]; omega) hs⟩
  have tk : ∀ n, quoinref20_with_P base y (y.2.2.1.take n) := fun n => with_P (by rw [List.length_take]; omega) hs
  have bk : bif decide ((List.length y.2.2.1 : Int) = 0) then True else (0 ≤ IntKind.wrap .i64 ((List.length y.2.2.1 : Int) - 1) ∧ IntKind.wrap .i64 ((List.length y.2.2.1 : Int) - 1) ≤ (List.length y.2.2.1 : Int)) ∧ quoinref20_with_P base y (List.take (Int.toNat (IntKind.wrap .i64 ((List.length y.2.2.1 : Int) - 1))) y.2.2.1) := by
    by_cases cz : (List.length y.2.2.1 : Int) = 0
    · rw [decide_eq_true cz]; trivial
    · rw [decide_eq_false cz]
      refine ⟨?_, tk _⟩
      rw [wrap_i64 (by omega) (by omega)]; omega
  show bif decide (key = 27) then _ else _
  cases decide (key = 27)
  rotate_left
  · exact with_P (by omega) hs
  show bif decide (key = 8) then _ else _
  cases decide (key = 8)
  rotate_left
  · exact bk
  show bif decide (key = 127) then _ else _
  cases decide (key = 127)
  rotate_left
  · exact bk
  show bif decide (key = 21) then _ else _
  cases decide (key = 21)
  rotate_left
  · show bif decide ((List.length y.2.2.1 : Int) = 0) then _ else _
    by_cases cz : (List.length y.2.2.1 : Int) = 0
    · rw [decide_eq_true cz]; trivial
    · rw [decide_eq_false cz]
      refine ⟨?_, ?_⟩
      · rw [wrap_i64 (by omega) (by omega)]; omega
      · cases decide (rd (0 : Int) y.2.2.1 (IntKind.wrap .i64 ((List.length y.2.2.1 : Int) - 1)) = 10)
        · exact tk _
        · trivial
  show bif decide (key = 23) then _ else _
  cases decide (key = 23)
  rotate_left
  · show bif decide ((List.length y.2.2.1 : Int) = 0) then _ else _
    by_cases cz : (List.length y.2.2.1 : Int) = 0
    · rw [decide_eq_true cz]; trivial
    · rw [decide_eq_false cz]
      exact ⟨by show 0 < y.2.2.1.length; omega, tk _⟩
  show bif decide (key = 13) then _ else _
  cases decide (key = 13)
  rotate_left
  · exact hj 10
  show bif !quoinref20_text_F key then _ else _
  cases quoinref20_text_F key
  · trivial
  · exact hj key

theorem same_self (y : Ty20) : quoinlaw20_same_F y y = true := by
  unfold quoinlaw20_same_F
  simp

/-- what a law is to answer -/
abbrev yes : Res → List Cell → Prop := fun r _ => r = .one (.v .bool true)

theorem check_eq {base : List Int} {y : Ty20} (hb : base.length ≤ 4294967296) (hy : okB y.2.2.1) : typing_Check_F base y = quoinref20_Check_F base y := by
  unfold typing_Check_F quoinref20_Check_F
  rw [fits_eq hb hy]

theorem presses_true {base : List Int} {y : Ty20} {key : Int} (hb : base.length ≤ 1048576) (hy : okB y.2.2.1) (hl : y.2.2.1.length ≤ 1048576) (h0 : 0 ≤ key) (h1 : key ≤ 255) : quoinlaw20_TypingPresses_raw base y key yes := by
  unfold quoinlaw20_TypingPresses_raw
  intro r1 hr1 _
  obtain rfl : r1 = true := hr1
  show ∀ r2 : Ty20, _
  intro r2 hr2 _ r3 hr3 _ r4 hr4 _
  have e23 : r2 = r3 := hr2.trans hr3.symm
  subst e23
  rw [same_self] at hr4
  subst hr4
  show ∀ r5 : Int, _
  intro r5 hr5 _ r6 hr6 _
  have e56 : r5 = r6 := by rw [hr5, hr6, check_eq (by omega) hy]
  subst e56
  rw [decide_eq_true rfl]
  refine ⟨press_P hy hl, fun r7 hr7 _ => ⟨by show y.2.2.1.length < 1099511627776; omega, fun r8 hr8 _ => ?_⟩⟩
  have e78 : r8 = r7 := by rw [hr7, hr8, press_eq (by omega) hy (by omega) h0 h1]
  subst e78
  intro r9 hr9 _
  rw [same_self] at hr9
  subst hr9
  show bif (r8.2.1 == r8.2.1) then _ else _
  rw [beq_self_eq_true]
  show Res.one (RVal.v .bool (decide (r8.2.2 = r8.2.2))) = _
  rw [decide_eq_true rfl]

/-! ### what the bound says -/
theorem bulk_ints (k : IntKind) : ∀ xs : List Int, bulk (.sl (.int k)) xs = xs.length + 1 := by
  intro xs
  show (xs.map (bulk (.int k))).sum + 1 = _
  congr 1
  induction xs with
  | nil => rfl
  | cons x xs ih => rw [List.map_cons, List.sum_cons, ih, List.length_cons]; show 1 + xs.length = _; omega

theorem okB_of {xs : List Int} (hw : VE.wf (.sl (.int .u8)) xs) (hl : xs.length ≤ 1048576) : okB xs := ⟨by omega, fun x hx => hw.2 x hx⟩

theorem presses_law (v : valsA quoinlaw20_TypingPresses_A) (hw : wfA quoinlaw20_TypingPresses_A v) (hb : bulkA quoinlaw20_TypingPresses_A v ≤ 1048576) : quoinlaw20_TypingPresses_R (mkA quoinlaw20_TypingPresses_A v) yes := by
  obtain ⟨base, y, key, ⟨⟩⟩ := v
  refine (quoinlaw20_TypingPresses_walk base y key yes).mpr ?_
  obtain ⟨h1, h2, h3, _⟩ := hw
  obtain ⟨_, _, ht, _, _⟩ := h2
  have hb : bulk (.sl (.int .u8)) base + ((1 + (1 + (bulk (.sl (.int .u8)) y.2.2.1 + (1 + 1)))) + (1 + 0)) ≤ 1048576 := hb
  rw [bulk_ints, bulk_ints] at hb
  exact presses_true (by omega) (okB_of ht (by omega)) (by omega) h3.1 h3.2
end Go.VE
namespace Go.VE
open Go Go.Proofs
/-! ### quoin/quoinref05.begin -/
def quoinref05_begin_G : List (Nat × App) := []
theorem quoinref05_begin_Gok : GOk Try.prog (getG quoinref05_begin_G) := GOk.nil
theorem quoinref05_begin_st : storesC (bodyOf Try.f47) = true := by kernel_rfl
def quoinref05_begin_d0 : List LS := [.v 0 (.sl (.int .u8)), .v 1 (.int .i64)]
def quoinref05_begin_d0x0 : List LS := [.v 1 (.int .i64)]
def quoinref05_begin_dx0 : DX := ⟨none, none, [(0, quoinref05_begin_d0x0)]⟩
def quoinref05_begin_T0 (Y : List Int → Int → Prop) (kx0 : Int → Prop) (t0 : List Int) (at1 : Int) : Prop :=
  bif (decide ((0 : Int) < at1)) then
    bif decide (0 ≤ (IntKind.wrap .i64 (at1 - (1 : Int))) ∧ (IntKind.wrap .i64 (at1 - (1 : Int))) < (List.length t0 : Int)) then
    bif (!decide ((rd (0 : Int) t0 (IntKind.wrap .i64 (at1 - (1 : Int)))) = (10 : Int))) then
      Y t0 (IntKind.wrap .i64 (at1 - (1 : Int)))
    else
      kx0 at1
    else False
  else
    kx0 at1
def quoinref05_begin_L0 (kx0 : Int → Prop) : Nat → List Int → Int → Prop
  | 0, _, _ => False
  | n + 1, t0, at1 => wfD quoinref05_begin_d0 (t0, at1, ()) → quoinref05_begin_T0 (quoinref05_begin_L0 kx0 n) kx0 t0 at1
theorem quoinref05_begin_s0 (k : Ex → St → Prop) (Y : vals quoinref05_begin_d0 → Prop) (t0 : List Int) (at1 : Int) :
    ex tb (getG quoinref05_begin_G) [] (at' (bodyOf Try.f47) [0, 0, 0, 1]) [0, 0, 0, 1] (mkD 18 quoinref05_begin_d0 (t0, at1, ())) (lpK 18 quoinref05_begin_d0 quoinref05_begin_dx0 k Y) =
    quoinref05_begin_T0 (fun t0 at1 => Y (t0, at1, ())) (fun at1 => wfD quoinref05_begin_d0x0 (at1, ()) → k (.exit 0) (mkD 18 quoinref05_begin_d0x0 (at1, ()))) t0 at1 := by kernel_rfl
theorem quoinref05_begin_e0 (k : Ex → St → Prop) : ∀ (n : Nat) (t0 : List Int) (at1 : Int), lpD 18 quoinref05_begin_d0 quoinref05_begin_dx0 (ex tb (getG quoinref05_begin_G) [] (at' (bodyOf Try.f47) [0, 0, 0, 1]) [0, 0, 0, 1]) k n (t0, at1, ()) = quoinref05_begin_L0 (fun at1 => wfD quoinref05_begin_d0x0 (at1, ()) → k (.exit 0) (mkD 18 quoinref05_begin_d0x0 (at1, ()))) n t0 at1
  | 0, _, _ => rfl
  | n + 1, t0, at1 => congrArg (fun Z : Prop => wfD quoinref05_begin_d0 (t0, at1, ()) → Z) ((quoinref05_begin_s0 k (lpD 18 quoinref05_begin_d0 quoinref05_begin_dx0 (ex tb (getG quoinref05_begin_G) [] (at' (bodyOf Try.f47) [0, 0, 0, 1]) [0, 0, 0, 1]) k n) t0 at1).trans (congrArg (fun Y => quoinref05_begin_T0 Y (fun at1 => wfD quoinref05_begin_d0x0 (at1, ()) → k (.exit 0) (mkD 18 quoinref05_begin_d0x0 (at1, ()))) t0 at1) (funext fun t0 => funext fun at1 => quoinref05_begin_e0 k n t0 at1)))
theorem quoinref05_begin_v0 (k : Ex → St → Prop) (n : Nat) : ∀ v : vals quoinref05_begin_d0, lpD 18 quoinref05_begin_d0 quoinref05_begin_dx0 (ex tb (getG quoinref05_begin_G) [] (at' (bodyOf Try.f47) [0, 0, 0, 1]) [0, 0, 0, 1]) k n v = quoinref05_begin_L0 (fun at1 => wfD quoinref05_begin_d0x0 (at1, ()) → k (.exit 0) (mkD 18 quoinref05_begin_d0x0 (at1, ()))) n v.1 v.2.1
  | (t0, at1, ()) => quoinref05_begin_e0 k n t0 at1
def quoinref05_begin_X0 : Pce := fun st k => ckD 18 quoinref05_begin_d0 st fun v => wfD quoinref05_begin_d0 v → ∃ n, quoinref05_begin_L0 (fun at1 => wfD quoinref05_begin_d0x0 (at1, ()) → k (.exit 0) (mkD 18 quoinref05_begin_d0x0 (at1, ()))) n v.1 v.2.1
set_option maxRecDepth 20000 in
theorem quoinref05_begin_x0 : SemOk Try.prog (at' (bodyOf Try.f47) [0, 0, 1]) quoinref05_begin_X0 :=
  (SemOk.loop (ex_sound tb_M tb_ok quoinref05_begin_Gok (LabsOk.nil) (at' (bodyOf Try.f47) [0, 0, 0, 1]) [0, 0, 0, 1] rfl (storesC_at quoinref05_begin_st [0, 0, 0, 1])) 18 quoinref05_begin_d0 quoinref05_begin_dx0).mono fun st k h => ckD_mono h fun v hv hw => (hv hw).elim fun n hn => ⟨n, Eq.mpr (quoinref05_begin_v0 k n v) hn⟩
def quoinref05_begin_B0 : Labs := ([0, 0, 1], quoinref05_begin_X0) :: []
theorem quoinref05_begin_b0 : LabsOk Try.prog (bodyOf Try.f47) quoinref05_begin_B0 := LabsOk.cons quoinref05_begin_x0 (LabsOk.nil)
def quoinref05_begin_raw (t0 : List Int) (at1 : Int) (K : Res → List Cell → Prop) : Prop :=
  (wfD quoinref05_begin_d0 (t0, at1, ()) → ∃ n, quoinref05_begin_L0 (fun (at1 : Int) => wfD quoinref05_begin_d0x0 (at1, ()) → (
      K (.one (.v (.int .i64) at1)) [])) n t0 at1)
def quoinref05_begin_A : List AS := [.v (.sl (.int .u8)), .v (.int .i64)]
theorem quoinref05_begin_walk (t0 : List Int) (at1 : Int) (K : Res → List Cell → Prop) : runF tb (getG quoinref05_begin_G) quoinref05_begin_B0 Try.f47 [true] (mkA quoinref05_begin_A (t0, at1, ())) K = quoinref05_begin_raw t0 at1 K := by kernel_rfl
--! pre 1
/-- where the line begins in which a place lies -/
def lineUp (t : List Int) : Nat → Nat
  | 0 => 0
  | n + 1 => if rd (0 : Int) t n = 10 then n + 1 else lineUp t n
def quoinref05_begin_P (t : List Int) (p : Int) : Prop := p ≤ t.length
def quoinref05_begin_F (t : List Int) (p : Int) : Int := if 0 ≤ p then (lineUp t p.toNat : Int) else p
theorem quoinref05_begin_l0 (kx0 : Int → Prop) (t : List Int) (ht : t.length ≤ 9223372036854775807) : ∀ (n m : Nat), n ≤ t.length → n < m → kx0 (lineUp t n : Int) → quoinref05_begin_L0 kx0 m t (n : Int)
  | _, 0, _, h, _ => absurd h (Nat.not_lt_zero _)
  | 0, m + 1, _, _, h => by
    intro _
    unfold quoinref05_begin_T0
    exact brn (fun h => absurd h (by omega)) (fun _ => h)
  | n + 1, m + 1, hn, hm, h => by
    intro _
    unfold quoinref05_begin_T0
    rw [wrap_i64 (by omega) (by omega), show ((n + 1 : Nat) : Int) - 1 = (n : Int) by omega]
    refine brn (fun _ => asrt (by omega) (brb (fun hb => ?_) (fun hb => ?_))) (fun h => absurd (by omega) h)
    · have hb : ¬ rd (0 : Int) t n = 10 := by simpa using hb
      exact quoinref05_begin_l0 kx0 t ht n m (by omega) (by omega) (by unfold lineUp at h; rw [if_neg hb] at h; exact h)
    · have hb : rd (0 : Int) t n = 10 := by simpa using hb
      unfold lineUp at h; rw [if_pos hb] at h; exact h
theorem quoinref05_begin_sp (t : List Int) (p : Int) (K : Res → List Cell → Prop) (hw : wfA quoinref05_begin_A (t, p, ())) (hp : quoinref05_begin_P t p) (h : ∀ r : Int, r = quoinref05_begin_F t p → K (.one (.v (.int .i64) r)) []) : quoinref05_begin_raw t p K := by
  have ht : t.length ≤ 9223372036854775807 := hw.1.1
  unfold quoinref05_begin_P at hp
  intro _
  by_cases h0 : 0 ≤ p
  · obtain ⟨q, rfl⟩ : ∃ q : Nat, p = q := ⟨p.toNat, by omega⟩
    exact ⟨q + 1, quoinref05_begin_l0 _ t ht q _ (by omega) (by omega) (fun _ => h _ (by unfold quoinref05_begin_F; simp))⟩
  · refine ⟨1, fun _ => ?_⟩
    unfold quoinref05_begin_T0
    exact brn (fun hc => absurd hc (by omega)) (fun _ _ => h _ (by unfold quoinref05_begin_F; rw [if_neg h0]))

def quoinref05_begin_C (v : valsA quoinref05_begin_A) (K : Res → List Cell → Prop) : Prop := quoinref05_begin_P v.1 v.2.1 ∧ ∀ r : Int, r = quoinref05_begin_F v.1 v.2.1 → K (.one (.v (.int .i64) r)) []
def quoinref05_begin_S : App := specW quoinref05_begin_A quoinref05_begin_C
theorem quoinref05_begin_wv (K : Res → List Cell → Prop) : ∀ v : valsA quoinref05_begin_A, runF tb (getG quoinref05_begin_G) quoinref05_begin_B0 Try.f47 [true] (mkA quoinref05_begin_A v) K = quoinref05_begin_raw v.1 v.2.1 K
  | (t0, at1, ()) => quoinref05_begin_walk t0 at1 K
set_option maxRecDepth 20000 in
theorem quoinref05_begin_ok : AppOk Try.prog 47 quoinref05_begin_S :=
  AppOk.specW (spec_ok (runF_ok tb_M tb_ok quoinref05_begin_Gok (quoinref05_begin_b0) (f := 47) (fn := Try.f47) (by kernel_rfl) (by kernel_rfl) quoinref05_begin_st [true]) fun v K hw h => (quoinref05_begin_wv K v).mpr (quoinref05_begin_sp v.1 v.2.1 K hw h.1 h.2))

end Go.VE
namespace Go.VE
open Go Go.Proofs
/-! ### quoin/quoinref05.Column -/
def quoinref05_Column_G : List (Nat × App) := [(47, quoinref05_begin_S)]
theorem quoinref05_Column_Gok : GOk Try.prog (getG quoinref05_Column_G) := GOk.cons quoinref05_begin_ok (GOk.nil)
def quoinref05_Column_raw (t0 : List Int) (at1 : Int) (K : Res → List Cell → Prop) : Prop :=
  bif (decide (at1 < (0 : Int))) then
    K (.tup [.v (.int .i64) (0 : Int), .v (.int .i64) (2 : Int)]) []
  else
  bif (decide ((List.length t0 : Int) < at1)) then
    K (.tup [.v (.int .i64) (0 : Int), .v (.int .i64) (2 : Int)]) []
  else
    quoinref05_begin_P t0 at1 ∧ (
    ∀ (r1 : Int), r1 = quoinref05_begin_F t0 at1 → (
    wfR (.one (.v (.int .i64) r1)) → (
    K (.tup [.v (.int .i64) (IntKind.wrap .i64 (at1 - r1)), .v (.int .i64) (0 : Int)]) [])))
def quoinref05_Column_A : List AS := [.v (.sl (.int .u8)), .v (.int .i64)]
theorem quoinref05_Column_walk (t0 : List Int) (at1 : Int) (K : Res → List Cell → Prop) : runF tb (getG quoinref05_Column_G) [] Try.f35 [true, true] (mkA quoinref05_Column_A (t0, at1, ())) K = quoinref05_Column_raw t0 at1 K := by kernel_rfl

def quoinref05_Column_P (t0 : List Int) (at1 : Int) : Prop :=
  bif (decide (at1 < (0 : Int))) then
    True
  else
    bif (decide ((List.length t0 : Int) < at1)) then
      True
    else
      quoinref05_begin_P t0 at1
def quoinref05_Column_F (t0 : List Int) (at1 : Int) : Int × Int :=
  bif (decide (at1 < (0 : Int))) then
    ((0 : Int), (2 : Int))
  else
    bif (decide ((List.length t0 : Int) < at1)) then
      ((0 : Int), (2 : Int))
    else
      let r1 : Int := quoinref05_begin_F t0 at1
      ((IntKind.wrap .i64 (at1 - r1)), (0 : Int))
set_option maxRecDepth 20000 in
theorem quoinref05_Column_sp (t0 : List Int) (at1 : Int) (K : Res → List Cell → Prop) (_ : wfA quoinref05_Column_A (t0, at1, ())) (hp : quoinref05_Column_P t0 at1) (h : ∀ r : Int × Int, r = quoinref05_Column_F t0 at1 → K (.tup [.v (.int .i64) r.1, .v (.int .i64) r.2]) []) : quoinref05_Column_raw t0 at1 K := by
  unfold quoinref05_Column_raw
  unfold quoinref05_Column_P at hp
  refine brb (fun c1 => ?_) (fun c1 => ?_)
  ·
    clear hp
    have e := h _ ((ctrue c1) : quoinref05_Column_F t0 at1 = _).symm
    exact e
  ·
    replace hp := cF c1 hp
    refine brb (fun c2 => ?_) (fun c2 => ?_)
    ·
      clear hp
      have e := h _ ((Eq.trans (cfalse c1) (ctrue c2)) : quoinref05_Column_F t0 at1 = _).symm
      exact e
    ·
      replace hp := cF c2 hp
      refine ⟨hp, ?_⟩
      intro r1 hr1
      subst hr1
      intro _
      have e := h _ ((Eq.trans (cfalse c1) (cfalse c2)) : quoinref05_Column_F t0 at1 = _).symm
      exact e
def quoinref05_Column_C (v : valsA quoinref05_Column_A) (K : Res → List Cell → Prop) : Prop := quoinref05_Column_P v.1 v.2.1 ∧ ∀ r : Int × Int, r = quoinref05_Column_F v.1 v.2.1 → K (.tup [.v (.int .i64) r.1, .v (.int .i64) r.2]) []
def quoinref05_Column_S : App := specW quoinref05_Column_A quoinref05_Column_C
theorem quoinref05_Column_wv (K : Res → List Cell → Prop) : ∀ v : valsA quoinref05_Column_A, runF tb (getG quoinref05_Column_G) [] Try.f35 [true, true] (mkA quoinref05_Column_A v) K = quoinref05_Column_raw v.1 v.2.1 K
  | (t0, at1, ()) => quoinref05_Column_walk t0 at1 K
set_option maxRecDepth 20000 in
theorem quoinref05_Column_ok : AppOk Try.prog 35 quoinref05_Column_S :=
  AppOk.specW (spec_ok (runF_ok tb_M tb_ok quoinref05_Column_Gok (LabsOk.nil) (f := 35) (fn := Try.f35) (by kernel_rfl) (by kernel_rfl) (by kernel_rfl) [true, true]) fun v K hw h => (quoinref05_Column_wv K v).mpr (quoinref05_Column_sp v.1 v.2.1 K hw h.1 h.2))

end Go.VE
