/- KeysNames: whatever the input, up to the bulk that the statement names, the law answers true, and what was handed in reads as it did. Its conditions: the bound of the given statement and the tables that its card ties, no other. -/
import Derived.Test.YtdmgfabppaffkaaDoorA13
set_option linter.unusedVariables false
set_option linter.unusedSectionVars false
set_option linter.unusedSimpArgs false
namespace Go.VE
open Go Go.Proofs
/-! ### quoin/quoinref21.known -/
def qr_known_G : List (Nat × App) := [(26, qr_found_S)]
theorem qr_known_Gok : GOk Tryd.prog (getG qr_known_G) := GOk.cons qr_found_ok (GOk.nil)
theorem qr_known_st : storesC (bodyOf Tryd.f25) = true := by kernel_rfl
def qr_known_d0 : List LS := [.v 9 (.int .i64), .v 10 (.str), .v 11 (.int .i64)]
def qr_known_d0r : List LS := [.v 6 (.int .i64), .v 7 (.str), .v 8 (.int .u8)]
def qr_known_dx0 : DX := ⟨none, some qr_known_d0r, []⟩
def qr_known_J0 (kr : Int → List Int → Int → Prop) (state9 : Int) (k10 : List Int) (other11 : Int) : Prop :=
 bif (decide (state9 < other11)) then
 kr other11 k10 (0 : Int)
 else
 kr state9 k10 (0 : Int)
theorem qr_known_s0 (k : Ex → St → Prop) (state9 : Int) (k10 : List Int) (other11 : Int) :
    ex tb (getG qr_known_G) [] (at' (bodyOf Tryd.f25) [1, 1, 1, 1, 1, 1, 1]) [1, 1, 1, 1, 1, 1, 1] (mkD 65 qr_known_d0 (state9, k10, other11, ())) (wk 65 qr_known_dx0 k) =
    qr_known_J0 (fun x6 x7 x8 => wfD qr_known_d0r (x6, x7, x8, ()) → k .ret (mkD 65 qr_known_d0r (x6, x7, x8, ()))) state9 k10 other11 := by kernel_rfl
theorem qr_known_v0 (k : Ex → St → Prop) : ∀ v : vals qr_known_d0, ex tb (getG qr_known_G) [] (at' (bodyOf Tryd.f25) [1, 1, 1, 1, 1, 1, 1]) [1, 1, 1, 1, 1, 1, 1] (mkD 65 qr_known_d0 v) (wk 65 qr_known_dx0 k) = qr_known_J0 (fun x6 x7 x8 => wfD qr_known_d0r (x6, x7, x8, ()) → k .ret (mkD 65 qr_known_d0r (x6, x7, x8, ()))) v.1 v.2.1 v.2.2.1
  | (state9, k10, other11, ()) => qr_known_s0 k state9 k10 other11
def qr_known_X0 : Pce := fun st k => ckD 65 qr_known_d0 st fun v => wfD qr_known_d0 v → qr_known_J0 (fun x6 x7 x8 => wfD qr_known_d0r (x6, x7, x8, ()) → k .ret (mkD 65 qr_known_d0r (x6, x7, x8, ()))) v.1 v.2.1 v.2.2.1
set_option maxRecDepth 20000 in
theorem qr_known_x0 : SemOk Tryd.prog (at' (bodyOf Tryd.f25) [1, 1, 1, 1, 1, 1, 1]) qr_known_X0 :=
  (SemOk.wk (N := 65) (ds := qr_known_d0) (dx := qr_known_dx0) (ex_sound tb_M tb_ok qr_known_Gok (LabsOk.nil) (at' (bodyOf Tryd.f25) [1, 1, 1, 1, 1, 1, 1]) [1, 1, 1, 1, 1, 1, 1] rfl (storesC_at qr_known_st [1, 1, 1, 1, 1, 1, 1]))).mono fun st k h => ckD_mono h fun v hv hw => Eq.mpr (qr_known_v0 k v) (hv hw)
def qr_known_B0 : Labs := ([1, 1, 1, 1, 1, 1, 1], qr_known_X0) :: []
theorem qr_known_b0 : LabsOk Tryd.prog (bodyOf Tryd.f25) qr_known_B0 := LabsOk.cons qr_known_x0 (LabsOk.nil)
def qr_known_raw (keys0 : List Int) (bare1 : List (List Int)) (with2 : List (List Int)) (K : Res → List Cell → Prop) : Prop :=
 ∀ (r1 : Int × List Int), r1 = qr_found_F keys0 bare1 → (
 wfR (.tup [.v (.int .i64) r1.1, .v (.str) r1.2]) → (
 bif (decide (r1.1 = (2 : Int))) then
 K (.tup [.v (.int .i64) (2 : Int), .v (.str) r1.2, .v (.int .u8) (0 : Int)]) []
 else
 ∀ (r2 : Int × List Int), r2 = qr_found_F keys0 with2 → (
 wfR (.tup [.v (.int .i64) r2.1, .v (.str) r2.2]) → (
 bif (decide (r2.1 = (2 : Int))) then
 K (.tup [.v (.int .i64) (1 : Int), .v (.str) ([] : List Int), .v (.int .u8) (0 : Int)]) []
 else
 bif (decide ((0 : Int) < (List.length keys0 : Int))) then
 bif decide (0 ≤ (IntKind.wrap .i64 ((List.length keys0 : Int) - (1 : Int))) ∧ (IntKind.wrap .i64 ((List.length keys0 : Int) - (1 : Int))) < (List.length keys0 : Int)) then
 bif (!decide ((rd (0 : Int) keys0 (IntKind.wrap .i64 ((List.length keys0 : Int) - (1 : Int)))) = (27 : Int))) then
 bif decide (0 ≤ (IntKind.wrap .i64 ((List.length keys0 : Int) - (1 : Int))) ∧ (IntKind.wrap .i64 ((List.length keys0 : Int) - (1 : Int))) ≤ (List.length keys0 : Int)) then
 ∀ (r3 : Int × List Int), r3 = qr_found_F (List.take (Int.toNat (IntKind.wrap .i64 ((List.length keys0 : Int) - (1 : Int)))) keys0) with2 → (
 wfR (.tup [.v (.int .i64) r3.1, .v (.str) r3.2]) → (
 bif (decide (r3.1 = (2 : Int))) then
 bif decide (0 ≤ (IntKind.wrap .i64 ((List.length keys0 : Int) - (1 : Int))) ∧ (IntKind.wrap .i64 ((List.length keys0 : Int) - (1 : Int))) < (List.length keys0 : Int)) then
 K (.tup [.v (.int .i64) (2 : Int), .v (.str) r3.2, .v (.int .u8) (rd (0 : Int) keys0 (IntKind.wrap .i64 ((List.length keys0 : Int) - (1 : Int))))]) []
 else False
 else
 (wfD qr_known_d0 (r1.1, r2.2, r2.1, ()) → qr_known_J0 (fun (x6 : Int) (x7 : List Int) (x8 : Int) => wfD qr_known_d0r (x6, x7, x8, ()) → (
 K (.tup [.v (.int .i64) x6, .v (.str) x7, .v (.int .u8) x8]) [])) r1.1 r2.2 r2.1)))
 else False
 else
 (wfD qr_known_d0 (r1.1, r2.2, r2.1, ()) → qr_known_J0 (fun (x6 : Int) (x7 : List Int) (x8 : Int) => wfD qr_known_d0r (x6, x7, x8, ()) → (
 K (.tup [.v (.int .i64) x6, .v (.str) x7, .v (.int .u8) x8]) [])) r1.1 r2.2 r2.1)
 else False
 else
 (wfD qr_known_d0 (r1.1, r2.2, r2.1, ()) → qr_known_J0 (fun (x6 : Int) (x7 : List Int) (x8 : Int) => wfD qr_known_d0r (x6, x7, x8, ()) → (
 K (.tup [.v (.int .i64) x6, .v (.str) x7, .v (.int .u8) x8]) [])) r1.1 r2.2 r2.1)))))
def qr_known_A : List AS := [.v (.str), .v (.sl (.str)), .v (.sl (.str))]
theorem qr_known_walk (keys0 : List Int) (bare1 : List (List Int)) (with2 : List (List Int)) (K : Res → List Cell → Prop) : runF tb (getG qr_known_G) qr_known_B0 Tryd.f25 [true, true, true] (mkA qr_known_A (keys0, bare1, with2, ())) K = qr_known_raw keys0 bare1 with2 K := by kernel_rfl

def qr_known_J0_F (state9 : Int) (k10 : List Int) (other11 : Int) : Int × List Int × Int :=
 bif (decide (state9 < other11)) then
 (other11, k10, (0 : Int))
 else
 (state9, k10, (0 : Int))
set_option maxRecDepth 20000 in
theorem qr_known_J0_sp (kr : Int → List Int → Int → Prop) (state9 : Int) (k10 : List Int) (other11 : Int) (hr : ∀ q : Int × List Int × Int, q = qr_known_J0_F state9 k10 other11 → kr q.1 q.2.1 q.2.2) : qr_known_J0 kr state9 k10 other11 := by
  unfold qr_known_J0
  refine brb (fun c_1 => ?_) (fun c_1 => ?_)
  ·
    have e := hr _ ((ctrue c_1) : qr_known_J0_F state9 k10 other11 = _).symm
    exact e
  ·
    have e := hr _ ((cfalse c_1) : qr_known_J0_F state9 k10 other11 = _).symm
    exact e
def qr_known_P (keys0 : List Int) (bare1 : List (List Int)) (with2 : List (List Int)) : Prop :=
 let r1 : Int × List Int := qr_found_F keys0 bare1
 bif (decide (r1.1 = (2 : Int))) then
 True
 else
 let r2 : Int × List Int := qr_found_F keys0 with2
 bif (decide (r2.1 = (2 : Int))) then
 True
 else
 bif (decide ((0 : Int) < (List.length keys0 : Int))) then
 (0 ≤ (IntKind.wrap .i64 ((List.length keys0 : Int) - (1 : Int))) ∧ (IntKind.wrap .i64 ((List.length keys0 : Int) - (1 : Int))) < (List.length keys0 : Int)) ∧ (
 bif (!decide ((rd (0 : Int) keys0 (IntKind.wrap .i64 ((List.length keys0 : Int) - (1 : Int)))) = (27 : Int))) then
 (0 ≤ (IntKind.wrap .i64 ((List.length keys0 : Int) - (1 : Int))) ∧ (IntKind.wrap .i64 ((List.length keys0 : Int) - (1 : Int))) ≤ (List.length keys0 : Int)) ∧ (
 let r3 : Int × List Int := qr_found_F (List.take (Int.toNat (IntKind.wrap .i64 ((List.length keys0 : Int) - (1 : Int)))) keys0) with2
 bif (decide (r3.1 = (2 : Int))) then
 (0 ≤ (IntKind.wrap .i64 ((List.length keys0 : Int) - (1 : Int))) ∧ (IntKind.wrap .i64 ((List.length keys0 : Int) - (1 : Int))) < (List.length keys0 : Int))
 else
 True)
 else
 True)
 else
 True
def qr_known_F (keys0 : List Int) (bare1 : List (List Int)) (with2 : List (List Int)) : Int × List Int × Int :=
 let r1 : Int × List Int := qr_found_F keys0 bare1
 bif (decide (r1.1 = (2 : Int))) then
 ((2 : Int), r1.2, (0 : Int))
 else
 let r2 : Int × List Int := qr_found_F keys0 with2
 bif (decide (r2.1 = (2 : Int))) then
 ((1 : Int), ([] : List Int), (0 : Int))
 else
 bif (decide ((0 : Int) < (List.length keys0 : Int))) then
 bif (!decide ((rd (0 : Int) keys0 (IntKind.wrap .i64 ((List.length keys0 : Int) - (1 : Int)))) = (27 : Int))) then
 let r3 : Int × List Int := qr_found_F (List.take (Int.toNat (IntKind.wrap .i64 ((List.length keys0 : Int) - (1 : Int)))) keys0) with2
 bif (decide (r3.1 = (2 : Int))) then
 ((2 : Int), r3.2, (rd (0 : Int) keys0 (IntKind.wrap .i64 ((List.length keys0 : Int) - (1 : Int)))))
 else
 let q0r : Int × List Int × Int := qr_known_J0_F r1.1 r2.2 r2.1
 let x6 : Int := q0r.1
 let x7 : List Int := q0r.2.1
 let x8 : Int := q0r.2.2
 (x6, x7, x8)
 else
 let q0r : Int × List Int × Int := qr_known_J0_F r1.1 r2.2 r2.1
 let x6 : Int := q0r.1
 let x7 : List Int := q0r.2.1
 let x8 : Int := q0r.2.2
 (x6, x7, x8)
 else
 let q0r : Int × List Int × Int := qr_known_J0_F r1.1 r2.2 r2.1
 let x6 : Int := q0r.1
 let x7 : List Int := q0r.2.1
 let x8 : Int := q0r.2.2
 (x6, x7, x8)
set_option maxRecDepth 20000 in
theorem qr_known_sp (keys0 : List Int) (bare1 : List (List Int)) (with2 : List (List Int)) (K : Res → List Cell → Prop) (_ : wfA qr_known_A (keys0, bare1, with2, ())) (hp : qr_known_P keys0 bare1 with2) (h : ∀ r : Int × List Int × Int, r = qr_known_F keys0 bare1 with2 → K (.tup [.v (.int .i64) r.1, .v (.str) r.2.1, .v (.int .u8) r.2.2]) []) : qr_known_raw keys0 bare1 with2 K := by
  unfold qr_known_raw
  unfold qr_known_P at hp
  intro r1 hr1
  subst hr1
  intro _
  refine brb (fun c_2 => ?_) (fun c_2 => ?_)
  ·
    clear hp
    have e := h _ ((ctrue c_2) : qr_known_F keys0 bare1 with2 = _).symm
    exact e
  ·
    replace hp := cF c_2 hp
    intro r2 hr2
    subst hr2
    intro _
    refine brb (fun c_3 => ?_) (fun c_3 => ?_)
    ·
      clear hp
      have e := h _ ((Eq.trans (cfalse c_2) (ctrue c_3)) : qr_known_F keys0 bare1 with2 = _).symm
      exact e
    ·
      replace hp := cF c_3 hp
      refine brb (fun c_4 => ?_) (fun c_4 => ?_)
      ·
        replace hp := cT c_4 hp
        refine asrt hp.1 ?_
        replace hp := hp.2
        refine brb (fun c_5 => ?_) (fun c_5 => ?_)
        ·
          replace hp := cT c_5 hp
          refine asrt hp.1 ?_
          replace hp := hp.2
          intro r3 hr3
          subst hr3
          intro _
          refine brb (fun c_6 => ?_) (fun c_6 => ?_)
          ·
            replace hp := cT c_6 hp
            refine asrt hp ?_
            have e := h _ ((Eq.trans (cfalse c_2) (Eq.trans (cfalse c_3) (Eq.trans (ctrue c_4) (Eq.trans (ctrue c_5) (ctrue c_6))))) : qr_known_F keys0 bare1 with2 = _).symm
            exact e
          ·
            clear hp
            refine fun _ => qr_known_J0_sp _ _ _ _ (fun q hq => ?_)
            subst hq
            intro _
            have e := h _ ((Eq.trans (cfalse c_2) (Eq.trans (cfalse c_3) (Eq.trans (ctrue c_4) (Eq.trans (ctrue c_5) (cfalse c_6))))) : qr_known_F keys0 bare1 with2 = _).symm
            exact e
        ·
          clear hp
          refine fun _ => qr_known_J0_sp _ _ _ _ (fun q hq => ?_)
          subst hq
          intro _
          have e := h _ ((Eq.trans (cfalse c_2) (Eq.trans (cfalse c_3) (Eq.trans (ctrue c_4) (cfalse c_5)))) : qr_known_F keys0 bare1 with2 = _).symm
          exact e
      ·
        clear hp
        refine fun _ => qr_known_J0_sp _ _ _ _ (fun q hq => ?_)
        subst hq
        intro _
        have e := h _ ((Eq.trans (cfalse c_2) (Eq.trans (cfalse c_3) (cfalse c_4))) : qr_known_F keys0 bare1 with2 = _).symm
        exact e
def qr_known_C (v : valsA qr_known_A) (K : Res → List Cell → Prop) : Prop := qr_known_P v.1 v.2.1 v.2.2.1 ∧ ∀ r : Int × List Int × Int, r = qr_known_F v.1 v.2.1 v.2.2.1 → K (.tup [.v (.int .i64) r.1, .v (.str) r.2.1, .v (.int .u8) r.2.2]) []
def qr_known_S : App := specW qr_known_A qr_known_C
theorem qr_known_wv (K : Res → List Cell → Prop) : ∀ v : valsA qr_known_A, runF tb (getG qr_known_G) qr_known_B0 Tryd.f25 [true, true, true] (mkA qr_known_A v) K = qr_known_raw v.1 v.2.1 v.2.2.1 K
  | (keys0, bare1, with2, ()) => qr_known_walk keys0 bare1 with2 K
set_option maxRecDepth 20000 in
theorem qr_known_ok : AppOk Tryd.prog 25 qr_known_S :=
  AppOk.specW (spec_ok (runF_ok tb_M tb_ok qr_known_Gok (qr_known_b0) (f := 25) (fn := Tryd.f25) (by kernel_rfl) (by kernel_rfl) qr_known_st [true, true, true]) fun v K hw h => (qr_known_wv K v).mpr (qr_known_sp v.1 v.2.1 v.2.2.1 K hw h.1 h.2))

end Go.VE
namespace Go.VE
open Go Go.Proofs
/-! ### quoin/quoinref21.told -/
def qr_told_G : List (Nat × App) := []
theorem qr_told_Gok : GOk Tryd.prog (getG qr_told_G) := GOk.nil
def qr_told_raw (c0 : CmT) (state1 : Int) (k2 : List Int) (arg3 : Int) (K : Res → List Cell → Prop) : Prop :=
 bif (decide (state1 = (0 : Int))) then
 K (.tup [.v (.st (.pair (.int .u8) (.pair (.int .i64) (.pair (.str) (.pair (.str) (.pair (.int .u8) (.sl (.int .u8)))))))) ((0 : Int), (0 : Int), ([] : List Int), ([] : List Int), (0 : Int), ([] : List Int)), .v (.int .i64) (2 : Int)]) []
 else
 bif (decide (state1 = (1 : Int))) then
 K (.tup [.v (.st (.pair (.int .u8) (.pair (.int .i64) (.pair (.str) (.pair (.str) (.pair (.int .u8) (.sl (.int .u8)))))))) ((0 : Int), (0 : Int), ([] : List Int), ([] : List Int), (0 : Int), ([] : List Int)), .v (.int .i64) (0 : Int)]) []
 else
 bif (decide (k2 = ([47] : List Int))) then
 K (.tup [.v (.st (.pair (.int .u8) (.pair (.int .i64) (.pair (.str) (.pair (.str) (.pair (.int .u8) (.sl (.int .u8)))))))) (c0.1, c0.2.1, c0.2.2.1, k2, arg3, c0.2.2.2.2.2), .v (.int .i64) (3 : Int)]) []
 else
 bif (decide (k2 = ([63] : List Int))) then
 K (.tup [.v (.st (.pair (.int .u8) (.pair (.int .i64) (.pair (.str) (.pair (.str) (.pair (.int .u8) (.sl (.int .u8)))))))) (c0.1, c0.2.1, c0.2.2.1, k2, arg3, c0.2.2.2.2.2), .v (.int .i64) (3 : Int)]) []
 else
 bif (decide (k2 = ([58] : List Int))) then
 K (.tup [.v (.st (.pair (.int .u8) (.pair (.int .i64) (.pair (.str) (.pair (.str) (.pair (.int .u8) (.sl (.int .u8)))))))) (c0.1, c0.2.1, c0.2.2.1, k2, arg3, c0.2.2.2.2.2), .v (.int .i64) (3 : Int)]) []
 else
 K (.tup [.v (.st (.pair (.int .u8) (.pair (.int .i64) (.pair (.str) (.pair (.str) (.pair (.int .u8) (.sl (.int .u8)))))))) (c0.1, c0.2.1, c0.2.2.1, k2, arg3, c0.2.2.2.2.2), .v (.int .i64) (1 : Int)]) []
def qr_told_A : List AS := [.v (.st (.pair (.int .u8) (.pair (.int .i64) (.pair (.str) (.pair (.str) (.pair (.int .u8) (.sl (.int .u8)))))))), .v (.int .i64), .v (.str), .v (.int .u8)]
theorem qr_told_walk (c0 : CmT) (state1 : Int) (k2 : List Int) (arg3 : Int) (K : Res → List Cell → Prop) : runF tb (getG qr_told_G) [] Tryd.f27 [true, true] (mkA qr_told_A (c0, state1, k2, arg3, ())) K = qr_told_raw c0 state1 k2 arg3 K := by kernel_rfl

def qr_told_F (c0 : CmT) (state1 : Int) (k2 : List Int) (arg3 : Int) : CmT × Int :=
 bif (decide (state1 = (0 : Int))) then
 (((0 : Int), (0 : Int), ([] : List Int), ([] : List Int), (0 : Int), ([] : List Int)), (2 : Int))
 else
 bif (decide (state1 = (1 : Int))) then
 (((0 : Int), (0 : Int), ([] : List Int), ([] : List Int), (0 : Int), ([] : List Int)), (0 : Int))
 else
 bif (decide (k2 = ([47] : List Int))) then
 ((c0.1, c0.2.1, c0.2.2.1, k2, arg3, c0.2.2.2.2.2), (3 : Int))
 else
 bif (decide (k2 = ([63] : List Int))) then
 ((c0.1, c0.2.1, c0.2.2.1, k2, arg3, c0.2.2.2.2.2), (3 : Int))
 else
 bif (decide (k2 = ([58] : List Int))) then
 ((c0.1, c0.2.1, c0.2.2.1, k2, arg3, c0.2.2.2.2.2), (3 : Int))
 else
 ((c0.1, c0.2.1, c0.2.2.1, k2, arg3, c0.2.2.2.2.2), (1 : Int))
set_option maxRecDepth 20000 in
theorem qr_told_sp (c0 : CmT) (state1 : Int) (k2 : List Int) (arg3 : Int) (K : Res → List Cell → Prop) (_ : wfA qr_told_A (c0, state1, k2, arg3, ())) (h : ∀ r : CmT × Int, r = qr_told_F c0 state1 k2 arg3 → K (.tup [.v (.st (.pair (.int .u8) (.pair (.int .i64) (.pair (.str) (.pair (.str) (.pair (.int .u8) (.sl (.int .u8)))))))) r.1, .v (.int .i64) r.2]) []) : qr_told_raw c0 state1 k2 arg3 K := by
  unfold qr_told_raw
  refine brb (fun c_1 => ?_) (fun c_1 => ?_)
  ·
    have e := h _ ((ctrue c_1) : qr_told_F c0 state1 k2 arg3 = _).symm
    exact e
  ·
    refine brb (fun c_2 => ?_) (fun c_2 => ?_)
    ·
      have e := h _ ((Eq.trans (cfalse c_1) (ctrue c_2)) : qr_told_F c0 state1 k2 arg3 = _).symm
      exact e
    ·
      refine brb (fun c_3 => ?_) (fun c_3 => ?_)
      ·
        have e := h _ ((Eq.trans (cfalse c_1) (Eq.trans (cfalse c_2) (ctrue c_3))) : qr_told_F c0 state1 k2 arg3 = _).symm
        exact e
      ·
        refine brb (fun c_4 => ?_) (fun c_4 => ?_)
        ·
          have e := h _ ((Eq.trans (cfalse c_1) (Eq.trans (cfalse c_2) (Eq.trans (cfalse c_3) (ctrue c_4)))) : qr_told_F c0 state1 k2 arg3 = _).symm
          exact e
        ·
          refine brb (fun c_5 => ?_) (fun c_5 => ?_)
          ·
            have e := h _ ((Eq.trans (cfalse c_1) (Eq.trans (cfalse c_2) (Eq.trans (cfalse c_3) (Eq.trans (cfalse c_4) (ctrue c_5))))) : qr_told_F c0 state1 k2 arg3 = _).symm
            exact e
          ·
            have e := h _ ((Eq.trans (cfalse c_1) (Eq.trans (cfalse c_2) (Eq.trans (cfalse c_3) (Eq.trans (cfalse c_4) (cfalse c_5))))) : qr_told_F c0 state1 k2 arg3 = _).symm
            exact e
def qr_told_C (v : valsA qr_told_A) (K : Res → List Cell → Prop) : Prop := ∀ r : CmT × Int, r = qr_told_F v.1 v.2.1 v.2.2.1 v.2.2.2.1 → K (.tup [.v (.st (.pair (.int .u8) (.pair (.int .i64) (.pair (.str) (.pair (.str) (.pair (.int .u8) (.sl (.int .u8)))))))) r.1, .v (.int .i64) r.2]) []
def qr_told_S : App := specW qr_told_A qr_told_C
theorem qr_told_wv (K : Res → List Cell → Prop) : ∀ v : valsA qr_told_A, runF tb (getG qr_told_G) [] Tryd.f27 [true, true] (mkA qr_told_A v) K = qr_told_raw v.1 v.2.1 v.2.2.1 v.2.2.2.1 K
  | (c0, state1, k2, arg3, ()) => qr_told_walk c0 state1 k2 arg3 K
set_option maxRecDepth 20000 in
theorem qr_told_ok : AppOk Tryd.prog 27 qr_told_S :=
  AppOk.specW (spec_ok (runF_ok tb_M tb_ok qr_told_Gok (LabsOk.nil) (f := 27) (fn := Tryd.f27) (by kernel_rfl) (by kernel_rfl) (by kernel_rfl) [true, true]) fun v K hw h => (qr_told_wv K v).mpr (qr_told_sp v.1 v.2.1 v.2.2.1 v.2.2.2.1 K hw h))

end Go.VE
namespace Go.VE
open Go Go.Proofs
/-! ### quoin/quoinref21.behind -/
def qr_behind_G : List (Nat × App) := [(20, qr_number_S), (39, qr_times_S), (32, qr_doubles_S), (26, qr_found_S), (40, qr_objects_S), (25, qr_known_S), (27, qr_told_S)]
theorem qr_behind_Gok : GOk Tryd.prog (getG qr_behind_G) := GOk.cons qr_number_ok (GOk.cons qr_times_ok (GOk.cons qr_doubles_ok (GOk.cons qr_found_ok (GOk.cons qr_objects_ok (GOk.cons qr_known_ok (GOk.cons qr_told_ok (GOk.nil)))))))
def qr_behind_raw (c0 : CmT) (op1 : List Int) (keys2 : List Int) (bare3 : List (List Int)) (with4 : List (List Int)) (K : Res → List Cell → Prop) : Prop :=
 qr_number_P keys2 ∧ (
 ∀ (r1 : Int × Int), r1 = qr_number_F keys2 → (
 wfR (.tup [.v (.int .i64) r1.1, .v (.int .i64) r1.2]) → (
 ∀ (r2 : Int), r2 = qr_times_F c0.2.1 r1.1 → (
 wfR (.one (.v (.int .i64) r2)) → (
 bif decide (0 ≤ r1.2 ∧ r1.2 ≤ (List.length keys2 : Int)) then
 bif (decide ((List.drop (Int.toNat r1.2) keys2) = ([] : List Int))) then
 K (.tup [.v (.st (.pair (.int .u8) (.pair (.int .i64) (.pair (.str) (.pair (.str) (.pair (.int .u8) (.sl (.int .u8)))))))) ((0 : Int), (0 : Int), ([] : List Int), ([] : List Int), (0 : Int), ([] : List Int)), .v (.int .i64) (0 : Int)]) []
 else
 qr_doubles_P op1 ∧ (
 ∀ (r3 : List (List Int)), r3 = qr_doubles_F op1 → (
 wfR (.one (.fr 9 (.str) r3)) → (
 ∀ (r4 : Int × List Int), r4 = qr_found_F (List.drop (Int.toNat r1.2) keys2) r3 → (
 wfR (.tup [.v (.int .i64) r4.1, .v (.str) r4.2]) → (
 bif (decide (r4.1 = (2 : Int))) then
 K (.tup [.v (.st (.pair (.int .u8) (.pair (.int .i64) (.pair (.str) (.pair (.str) (.pair (.int .u8) (.sl (.int .u8)))))))) (c0.1, r2, op1, op1, c0.2.2.2.2.1, c0.2.2.2.2.2), .v (.int .i64) (1 : Int)]) []
 else
 qr_objects_P  ∧ (
 ∀ (r5 : List (List Int)), r5 = qr_objects_F → (
 wfR (.one (.fr 9 (.str) r5)) → (
 bif decide (List.length bare3 + List.length r5 ≤ lim) then
 qr_known_P (List.drop (Int.toNat r1.2) keys2) (bare3 ++ r5) with4 ∧ (
 ∀ (r6 : Int × List Int × Int), r6 = qr_known_F (List.drop (Int.toNat r1.2) keys2) (bare3 ++ r5) with4 → (
 wfR (.tup [.v (.int .i64) r6.1, .v (.str) r6.2.1, .v (.int .u8) r6.2.2]) → (
 bif (decide (r6.1 < r4.1)) then
 ∀ (r7 : CmT × Int), r7 = qr_told_F (c0.1, r2, op1, c0.2.2.2.1, c0.2.2.2.2.1, c0.2.2.2.2.2) r4.1 r6.2.1 r6.2.2 → (
 wfR (.tup [.v (.st (.pair (.int .u8) (.pair (.int .i64) (.pair (.str) (.pair (.str) (.pair (.int .u8) (.sl (.int .u8)))))))) r7.1, .v (.int .i64) r7.2]) → (
 K (.tup [.v (.st (.pair (.int .u8) (.pair (.int .i64) (.pair (.str) (.pair (.str) (.pair (.int .u8) (.sl (.int .u8)))))))) r7.1, .v (.int .i64) r7.2]) []))
 else
 ∀ (r8 : CmT × Int), r8 = qr_told_F (c0.1, r2, op1, c0.2.2.2.1, c0.2.2.2.2.1, c0.2.2.2.2.2) r6.1 r6.2.1 r6.2.2 → (
 wfR (.tup [.v (.st (.pair (.int .u8) (.pair (.int .i64) (.pair (.str) (.pair (.str) (.pair (.int .u8) (.sl (.int .u8)))))))) r8.1, .v (.int .i64) r8.2]) → (
 K (.tup [.v (.st (.pair (.int .u8) (.pair (.int .i64) (.pair (.str) (.pair (.str) (.pair (.int .u8) (.sl (.int .u8)))))))) r8.1, .v (.int .i64) r8.2]) [])))))
 else False))))))))
 else False)))))
def qr_behind_A : List AS := [.v (.st (.pair (.int .u8) (.pair (.int .i64) (.pair (.str) (.pair (.str) (.pair (.int .u8) (.sl (.int .u8)))))))), .v (.str), .v (.str), .o 9 (.str), .v (.sl (.str))]
theorem qr_behind_walk (c0 : CmT) (op1 : List Int) (keys2 : List Int) (bare3 : List (List Int)) (with4 : List (List Int)) (K : Res → List Cell → Prop) : runF tb (getG qr_behind_G) [] Tryd.f23 [true, true] (mkA qr_behind_A (c0, op1, keys2, bare3, with4, ())) K = qr_behind_raw c0 op1 keys2 bare3 with4 K := by kernel_rfl
--! own 3

def qr_behind_P (c0 : CmT) (op1 : List Int) (keys2 : List Int) (bare3 : List (List Int)) (with4 : List (List Int)) : Prop :=
 qr_number_P keys2 ∧ (
 let r1 : Int × Int := qr_number_F keys2
 let r2 : Int := qr_times_F c0.2.1 r1.1
 (0 ≤ r1.2 ∧ r1.2 ≤ (List.length keys2 : Int)) ∧ (
 bif (decide ((List.drop (Int.toNat r1.2) keys2) = ([] : List Int))) then
 True
 else
 qr_doubles_P op1 ∧ (
 let r3 : List (List Int) := qr_doubles_F op1
 let r4 : Int × List Int := qr_found_F (List.drop (Int.toNat r1.2) keys2) r3
 bif (decide (r4.1 = (2 : Int))) then
 True
 else
 qr_objects_P  ∧ (
 let r5 : List (List Int) := qr_objects_F
 (List.length bare3 + List.length r5 ≤ lim) ∧ (
 qr_known_P (List.drop (Int.toNat r1.2) keys2) (bare3 ++ r5) with4)))))
def qr_behind_F (c0 : CmT) (op1 : List Int) (keys2 : List Int) (bare3 : List (List Int)) (with4 : List (List Int)) : CmT × Int :=
 let r1 : Int × Int := qr_number_F keys2
 let r2 : Int := qr_times_F c0.2.1 r1.1
 bif (decide ((List.drop (Int.toNat r1.2) keys2) = ([] : List Int))) then
 (((0 : Int), (0 : Int), ([] : List Int), ([] : List Int), (0 : Int), ([] : List Int)), (0 : Int))
 else
 let r3 : List (List Int) := qr_doubles_F op1
 let r4 : Int × List Int := qr_found_F (List.drop (Int.toNat r1.2) keys2) r3
 bif (decide (r4.1 = (2 : Int))) then
 ((c0.1, r2, op1, op1, c0.2.2.2.2.1, c0.2.2.2.2.2), (1 : Int))
 else
 let r5 : List (List Int) := qr_objects_F
 let r6 : Int × List Int × Int := qr_known_F (List.drop (Int.toNat r1.2) keys2) (bare3 ++ r5) with4
 bif (decide (r6.1 < r4.1)) then
 let r7 : CmT × Int := qr_told_F (c0.1, r2, op1, c0.2.2.2.1, c0.2.2.2.2.1, c0.2.2.2.2.2) r4.1 r6.2.1 r6.2.2
 (r7.1, r7.2)
 else
 let r8 : CmT × Int := qr_told_F (c0.1, r2, op1, c0.2.2.2.1, c0.2.2.2.2.1, c0.2.2.2.2.2) r6.1 r6.2.1 r6.2.2
 (r8.1, r8.2)
set_option maxRecDepth 20000 in
theorem qr_behind_sp (c0 : CmT) (op1 : List Int) (keys2 : List Int) (bare3 : List (List Int)) (with4 : List (List Int)) (K : Res → List Cell → Prop) (_ : wfA qr_behind_A (c0, op1, keys2, bare3, with4, ())) (hp : qr_behind_P c0 op1 keys2 bare3 with4) (h : ∀ r : CmT × Int, r = qr_behind_F c0 op1 keys2 bare3 with4 → K (.tup [.v (.st (.pair (.int .u8) (.pair (.int .i64) (.pair (.str) (.pair (.str) (.pair (.int .u8) (.sl (.int .u8)))))))) r.1, .v (.int .i64) r.2]) []) : qr_behind_raw c0 op1 keys2 bare3 with4 K := by
  unfold qr_behind_raw
  unfold qr_behind_P at hp
  refine ⟨hp.1, ?_⟩
  replace hp := hp.2
  intro r1 hr1
  subst hr1
  intro _
  intro r2 hr2
  subst hr2
  intro _
  refine asrt hp.1 ?_
  replace hp := hp.2
  refine brb (fun c_1 => ?_) (fun c_1 => ?_)
  ·
    clear hp
    have e := h _ ((ctrue c_1) : qr_behind_F c0 op1 keys2 bare3 with4 = _).symm
    exact e
  ·
    replace hp := cF c_1 hp
    refine ⟨hp.1, ?_⟩
    replace hp := hp.2
    intro r3 hr3
    subst hr3
    intro _
    intro r4 hr4
    subst hr4
    intro _
    refine brb (fun c_2 => ?_) (fun c_2 => ?_)
    ·
      clear hp
      have e := h _ ((Eq.trans (cfalse c_1) (ctrue c_2)) : qr_behind_F c0 op1 keys2 bare3 with4 = _).symm
      exact e
    ·
      replace hp := cF c_2 hp
      refine ⟨hp.1, ?_⟩
      replace hp := hp.2
      intro r5 hr5
      subst hr5
      intro _
      refine asrt hp.1 ?_
      replace hp := hp.2
      refine ⟨hp, ?_⟩
      intro r6 hr6
      subst hr6
      intro _
      refine brb (fun c_3 => ?_) (fun c_3 => ?_)
      ·
        intro r7 hr7
        subst hr7
        intro _
        have e := h _ ((Eq.trans (cfalse c_1) (Eq.trans (cfalse c_2) (ctrue c_3))) : qr_behind_F c0 op1 keys2 bare3 with4 = _).symm
        exact e
      ·
        intro r8 hr8
        subst hr8
        intro _
        have e := h _ ((Eq.trans (cfalse c_1) (Eq.trans (cfalse c_2) (cfalse c_3))) : qr_behind_F c0 op1 keys2 bare3 with4 = _).symm
        exact e
def qr_behind_C (v : valsA qr_behind_A) (K : Res → List Cell → Prop) : Prop := qr_behind_P v.1 v.2.1 v.2.2.1 v.2.2.2.1 v.2.2.2.2.1 ∧ ∀ r : CmT × Int, r = qr_behind_F v.1 v.2.1 v.2.2.1 v.2.2.2.1 v.2.2.2.2.1 → K (.tup [.v (.st (.pair (.int .u8) (.pair (.int .i64) (.pair (.str) (.pair (.str) (.pair (.int .u8) (.sl (.int .u8)))))))) r.1, .v (.int .i64) r.2]) []
def qr_behind_S : App := specW qr_behind_A qr_behind_C
theorem qr_behind_wv (K : Res → List Cell → Prop) : ∀ v : valsA qr_behind_A, runF tb (getG qr_behind_G) [] Tryd.f23 [true, true] (mkA qr_behind_A v) K = qr_behind_raw v.1 v.2.1 v.2.2.1 v.2.2.2.1 v.2.2.2.2.1 K
  | (c0, op1, keys2, bare3, with4, ()) => qr_behind_walk c0 op1 keys2 bare3 with4 K
set_option maxRecDepth 20000 in
theorem qr_behind_ok : AppOk Tryd.prog 23 qr_behind_S :=
  AppOk.specW (spec_ok (runF_ok tb_M tb_ok qr_behind_Gok (LabsOk.nil) (f := 23) (fn := Tryd.f23) (by kernel_rfl) (by kernel_rfl) (by kernel_rfl) [true, true]) fun v K hw h => (qr_behind_wv K v).mpr (qr_behind_sp v.1 v.2.1 v.2.2.1 v.2.2.2.1 v.2.2.2.2.1 K hw h.1 h.2))

end Go.VE
namespace Go.VE
open Go Go.Proofs
/-! ### quoin/quoinref21.plains -/
def qr_plains_G : List (Nat × App) := [(38, qr_words_S)]
theorem qr_plains_Gok : GOk Tryd.prog (getG qr_plains_G) := GOk.cons qr_words_ok (GOk.nil)
def qr_plains_raw  (K : Res → List Cell → Prop) : Prop :=
 qr_words_P ([120, 32, 88, 32, 68, 32, 67, 32, 89, 32, 83, 32, 115, 32, 112, 32, 80, 32, 126, 32, 74, 32, 105, 32, 97, 32, 73, 32, 65, 32, 111, 32, 79, 32, 82, 32, 117, 32, 46, 32, 58, 32, 18, 32, 103, 45, 32, 103, 43] : List Int) ∧ (
 ∀ (r1 : List (List Int)), r1 = qr_words_F ([120, 32, 88, 32, 68, 32, 67, 32, 89, 32, 83, 32, 115, 32, 112, 32, 80, 32, 126, 32, 74, 32, 105, 32, 97, 32, 73, 32, 65, 32, 111, 32, 79, 32, 82, 32, 117, 32, 46, 32, 58, 32, 18, 32, 103, 45, 32, 103, 43] : List Int) → (
 wfR (.one (.fr 9 (.str) r1)) → (
 qr_words_P ([114, 32, 109] : List Int) ∧ (
 ∀ (r2 : List (List Int)), r2 = qr_words_F ([114, 32, 109] : List Int) → (
 wfR (.one (.fr 9 (.str) r2)) → (
 K (.tup [.fr 9 (.str) r1, .fr 9 (.str) r2]) []))))))
def qr_plains_A : List AS := []
theorem qr_plains_walk  (K : Res → List Cell → Prop) : runF tb (getG qr_plains_G) [] Tryd.f24 [true, true] (mkA qr_plains_A ()) K = qr_plains_raw  K := by kernel_rfl

def qr_plains_P  : Prop :=
 qr_words_P ([120, 32, 88, 32, 68, 32, 67, 32, 89, 32, 83, 32, 115, 32, 112, 32, 80, 32, 126, 32, 74, 32, 105, 32, 97, 32, 73, 32, 65, 32, 111, 32, 79, 32, 82, 32, 117, 32, 46, 32, 58, 32, 18, 32, 103, 45, 32, 103, 43] : List Int) ∧ (
 let r1 : List (List Int) := qr_words_F ([120, 32, 88, 32, 68, 32, 67, 32, 89, 32, 83, 32, 115, 32, 112, 32, 80, 32, 126, 32, 74, 32, 105, 32, 97, 32, 73, 32, 65, 32, 111, 32, 79, 32, 82, 32, 117, 32, 46, 32, 58, 32, 18, 32, 103, 45, 32, 103, 43] : List Int)
 qr_words_P ([114, 32, 109] : List Int))
def qr_plains_F  : List (List Int) × List (List Int) :=
 let r1 : List (List Int) := qr_words_F ([120, 32, 88, 32, 68, 32, 67, 32, 89, 32, 83, 32, 115, 32, 112, 32, 80, 32, 126, 32, 74, 32, 105, 32, 97, 32, 73, 32, 65, 32, 111, 32, 79, 32, 82, 32, 117, 32, 46, 32, 58, 32, 18, 32, 103, 45, 32, 103, 43] : List Int)
 let r2 : List (List Int) := qr_words_F ([114, 32, 109] : List Int)
 (r1, r2)
set_option maxRecDepth 20000 in
theorem qr_plains_sp  (K : Res → List Cell → Prop) (_ : wfA qr_plains_A ()) (hp : qr_plains_P ) (h : ∀ r : List (List Int) × List (List Int), r = qr_plains_F  → K (.tup [.fr 9 (.str) r.1, .fr 9 (.str) r.2]) []) : qr_plains_raw  K := by
  unfold qr_plains_raw
  unfold qr_plains_P at hp
  refine ⟨hp.1, ?_⟩
  replace hp := hp.2
  intro r1 hr1
  subst hr1
  intro _
  refine ⟨hp, ?_⟩
  intro r2 hr2
  subst hr2
  intro _
  exact h _ rfl
def qr_plains_C (v : valsA qr_plains_A) (K : Res → List Cell → Prop) : Prop := qr_plains_P  ∧ ∀ r : List (List Int) × List (List Int), r = qr_plains_F → K (.tup [.fr 9 (.str) r.1, .fr 9 (.str) r.2]) []
def qr_plains_S : App := specW qr_plains_A qr_plains_C
theorem qr_plains_wv (K : Res → List Cell → Prop) : ∀ v : valsA qr_plains_A, runF tb (getG qr_plains_G) [] Tryd.f24 [true, true] (mkA qr_plains_A v) K = qr_plains_raw  K
  | () => qr_plains_walk  K
set_option maxRecDepth 20000 in
theorem qr_plains_ok : AppOk Tryd.prog 24 qr_plains_S :=
  AppOk.specW (spec_ok (runF_ok tb_M tb_ok qr_plains_Gok (LabsOk.nil) (f := 24) (fn := Tryd.f24) (by kernel_rfl) (by kernel_rfl) (by kernel_rfl) [true, true]) fun v K hw h => (qr_plains_wv K v).mpr (qr_plains_sp  K hw h.1 h.2))

end Go.VE
namespace Go.VE
open Go Go.Proofs
/-! ### quoin/quoinref21.Parse -/
def qr_Parse_G : List (Nat × App) := [(19, qr_isReg_S), (20, qr_number_S), (21, qr_motions_S), (22, qr_operators_S), (23, qr_behind_S), (24, qr_plains_S), (25, qr_known_S), (26, qr_found_S), (27, qr_told_S)]
theorem qr_Parse_Gok : GOk Tryd.prog (getG qr_Parse_G) := GOk.cons qr_isReg_ok (GOk.cons qr_number_ok (GOk.cons qr_motions_ok (GOk.cons qr_operators_ok (GOk.cons qr_behind_ok (GOk.cons qr_plains_ok (GOk.cons qr_known_ok (GOk.cons qr_found_ok (GOk.cons qr_told_ok (GOk.nil)))))))))
theorem qr_Parse_st : storesC (bodyOf Tryd.f11) = true := by kernel_rfl
def qr_Parse_d0 : List LS := [.b 2 16 [], .v 4 (.str), .b 5 40 [], .o 8 69 9 (.str), .o 9 77 9 (.str), .o 10 85 9 (.str), .v 11 (.int .i64), .c 16 (.st (.pair (.int .u8) (.pair (.int .i64) (.pair (.str) (.pair (.str) (.pair (.int .u8) (.sl (.int .u8)))))))), .c 40 (.st (.pair (.int .u8) (.pair (.int .i64) (.pair (.str) (.pair (.str) (.pair (.int .u8) (.sl (.int .u8))))))))]
def qr_Parse_d0r : List LS := [.b 2 16 [], .v 3 (.int .i64), .c 16 (.st (.pair (.int .u8) (.pair (.int .i64) (.pair (.str) (.pair (.str) (.pair (.int .u8) (.sl (.int .u8))))))))]
def qr_Parse_d0x0 : List LS := [.b 2 16 [], .v 4 (.str), .b 5 40 [], .o 8 69 9 (.str), .o 9 77 9 (.str), .o 10 85 9 (.str), .c 16 (.st (.pair (.int .u8) (.pair (.int .i64) (.pair (.str) (.pair (.str) (.pair (.int .u8) (.sl (.int .u8)))))))), .c 40 (.st (.pair (.int .u8) (.pair (.int .i64) (.pair (.str) (.pair (.str) (.pair (.int .u8) (.sl (.int .u8))))))))]
def qr_Parse_dx0 : DX := ⟨none, some qr_Parse_d0r, [(0, qr_Parse_d0x0)]⟩
def qr_Parse_T0 (Y : List Int → List (List Int) → List (List Int) → List (List Int) → Int → CmT → CmT → Prop) (kr : Int → CmT → Prop) (kx0 : List Int → List (List Int) → List (List Int) → List (List Int) → CmT → CmT → Prop) (keys4 : List Int) (bare8 : List (List Int)) (with9 : List (List Int)) (ops10 : List (List Int)) (i11 : Int) (x2b : CmT) (c5b : CmT) : Prop :=
 bif (decide (i11 < (List.length ops10 : Int))) then
 bif decide (0 ≤ i11 ∧ i11 < (List.length ops10 : Int)) then
 bif (decide ((List.length (rd ([] : List Int) ops10 i11) : Int) ≤ (List.length keys4 : Int))) then
 (
 bif decide (0 ≤ i11 ∧ i11 < (List.length ops10 : Int)) then
 (
 bif decide (0 ≤ (List.length (rd ([] : List Int) ops10 i11) : Int) ∧ (List.length (rd ([] : List Int) ops10 i11) : Int) ≤ (List.length keys4 : Int)) then
 bif decide (0 ≤ i11 ∧ i11 < (List.length ops10 : Int)) then
 bif (decide ((List.take (Int.toNat (List.length (rd ([] : List Int) ops10 i11) : Int)) keys4) = (rd ([] : List Int) ops10 i11))) then
 (
 bif decide (0 ≤ i11 ∧ i11 < (List.length ops10 : Int)) then
 (
 bif decide (0 ≤ i11 ∧ i11 < (List.length ops10 : Int)) then
 bif decide (0 ≤ (List.length (rd ([] : List Int) ops10 i11) : Int) ∧ (List.length (rd ([] : List Int) ops10 i11) : Int) ≤ (List.length keys4 : Int)) then
 qr_behind_P c5b (rd ([] : List Int) ops10 i11) (List.drop (Int.toNat (List.length (rd ([] : List Int) ops10 i11) : Int)) keys4) bare8 with9 ∧ (
 ∀ (r5 : CmT × Int), r5 = qr_behind_F c5b (rd ([] : List Int) ops10 i11) (List.drop (Int.toNat (List.length (rd ([] : List Int) ops10 i11) : Int)) keys4) bare8 with9 → (
 wfR (.tup [.v (.st (.pair (.int .u8) (.pair (.int .i64) (.pair (.str) (.pair (.str) (.pair (.int .u8) (.sl (.int .u8)))))))) r5.1, .v (.int .i64) r5.2]) → (
 kr r5.2 r5.1)))
 else False
 else False) ∧ (
 bif decide (0 ≤ i11 ∧ i11 < (List.length ops10 : Int)) then
 (
 bif decide (0 ≤ (List.length (rd ([] : List Int) ops10 i11) : Int) ∧ (List.length (rd ([] : List Int) ops10 i11) : Int) ≤ (List.length keys4 : Int)) then
 qr_behind_P c5b (rd ([] : List Int) ops10 i11) (List.drop (Int.toNat (List.length (rd ([] : List Int) ops10 i11) : Int)) keys4) bare8 with9 ∧ (
 ∀ (r6 : CmT × Int), r6 = qr_behind_F c5b (rd ([] : List Int) ops10 i11) (List.drop (Int.toNat (List.length (rd ([] : List Int) ops10 i11) : Int)) keys4) bare8 with9 → (
 wfR (.tup [.v (.st (.pair (.int .u8) (.pair (.int .i64) (.pair (.str) (.pair (.str) (.pair (.int .u8) (.sl (.int .u8)))))))) r6.1, .v (.int .i64) r6.2]) → (
 kr r6.2 r6.1)))
 else False) ∧ (
 bif decide (0 ≤ (List.length (rd ([] : List Int) ops10 i11) : Int) ∧ (List.length (rd ([] : List Int) ops10 i11) : Int) ≤ (List.length keys4 : Int)) then
 qr_behind_P c5b (rd ([] : List Int) ops10 i11) (List.drop (Int.toNat (List.length (rd ([] : List Int) ops10 i11) : Int)) keys4) bare8 with9 ∧ (
 ∀ (r7 : CmT × Int), r7 = qr_behind_F c5b (rd ([] : List Int) ops10 i11) (List.drop (Int.toNat (List.length (rd ([] : List Int) ops10 i11) : Int)) keys4) bare8 with9 → (
 wfR (.tup [.v (.st (.pair (.int .u8) (.pair (.int .i64) (.pair (.str) (.pair (.str) (.pair (.int .u8) (.sl (.int .u8)))))))) r7.1, .v (.int .i64) r7.2]) → (
 kr r7.2 r7.1)))
 else False) ∧ True
 else False) ∧ True
 else False) ∧ (
 bif decide (0 ≤ i11 ∧ i11 < (List.length ops10 : Int)) then
 (
 bif decide (0 ≤ i11 ∧ i11 < (List.length ops10 : Int)) then
 (
 bif decide (0 ≤ (List.length (rd ([] : List Int) ops10 i11) : Int) ∧ (List.length (rd ([] : List Int) ops10 i11) : Int) ≤ (List.length keys4 : Int)) then
 qr_behind_P c5b (rd ([] : List Int) ops10 i11) (List.drop (Int.toNat (List.length (rd ([] : List Int) ops10 i11) : Int)) keys4) bare8 with9 ∧ (
 ∀ (r8 : CmT × Int), r8 = qr_behind_F c5b (rd ([] : List Int) ops10 i11) (List.drop (Int.toNat (List.length (rd ([] : List Int) ops10 i11) : Int)) keys4) bare8 with9 → (
 wfR (.tup [.v (.st (.pair (.int .u8) (.pair (.int .i64) (.pair (.str) (.pair (.str) (.pair (.int .u8) (.sl (.int .u8)))))))) r8.1, .v (.int .i64) r8.2]) → (
 kr r8.2 r8.1)))
 else False) ∧ (
 bif decide (0 ≤ (List.length (rd ([] : List Int) ops10 i11) : Int) ∧ (List.length (rd ([] : List Int) ops10 i11) : Int) ≤ (List.length keys4 : Int)) then
 qr_behind_P c5b (rd ([] : List Int) ops10 i11) (List.drop (Int.toNat (List.length (rd ([] : List Int) ops10 i11) : Int)) keys4) bare8 with9 ∧ (
 ∀ (r9 : CmT × Int), r9 = qr_behind_F c5b (rd ([] : List Int) ops10 i11) (List.drop (Int.toNat (List.length (rd ([] : List Int) ops10 i11) : Int)) keys4) bare8 with9 → (
 wfR (.tup [.v (.st (.pair (.int .u8) (.pair (.int .i64) (.pair (.str) (.pair (.str) (.pair (.int .u8) (.sl (.int .u8)))))))) r9.1, .v (.int .i64) r9.2]) → (
 kr r9.2 r9.1)))
 else False) ∧ True
 else False) ∧ (
 bif decide (0 ≤ (List.length (rd ([] : List Int) ops10 i11) : Int) ∧ (List.length (rd ([] : List Int) ops10 i11) : Int) ≤ (List.length keys4 : Int)) then
 bif decide (0 ≤ i11 ∧ i11 < (List.length ops10 : Int)) then
 qr_behind_P c5b (rd ([] : List Int) ops10 i11) (List.drop (Int.toNat (List.length (rd ([] : List Int) ops10 i11) : Int)) keys4) bare8 with9 ∧ (
 ∀ (r10 : CmT × Int), r10 = qr_behind_F c5b (rd ([] : List Int) ops10 i11) (List.drop (Int.toNat (List.length (rd ([] : List Int) ops10 i11) : Int)) keys4) bare8 with9 → (
 wfR (.tup [.v (.st (.pair (.int .u8) (.pair (.int .i64) (.pair (.str) (.pair (.str) (.pair (.int .u8) (.sl (.int .u8)))))))) r10.1, .v (.int .i64) r10.2]) → (
 kr r10.2 r10.1)))
 else False
 else False) ∧ True
 else False) ∧ True
 else
 Y keys4 bare8 with9 ops10 (IntKind.wrap .i64 (i11 + (1 : Int))) x2b c5b
 else False
 else False) ∧ (
 bif decide (0 ≤ i11 ∧ i11 < (List.length ops10 : Int)) then
 (
 bif decide (0 ≤ (List.length (rd ([] : List Int) ops10 i11) : Int) ∧ (List.length (rd ([] : List Int) ops10 i11) : Int) ≤ (List.length keys4 : Int)) then
 bif (decide ((List.take (Int.toNat (List.length (rd ([] : List Int) ops10 i11) : Int)) keys4) = (rd ([] : List Int) ops10 i11))) then
 (
 bif decide (0 ≤ i11 ∧ i11 < (List.length ops10 : Int)) then
 (
 bif decide (0 ≤ i11 ∧ i11 < (List.length ops10 : Int)) then
 bif decide (0 ≤ (List.length (rd ([] : List Int) ops10 i11) : Int) ∧ (List.length (rd ([] : List Int) ops10 i11) : Int) ≤ (List.length keys4 : Int)) then
 qr_behind_P c5b (rd ([] : List Int) ops10 i11) (List.drop (Int.toNat (List.length (rd ([] : List Int) ops10 i11) : Int)) keys4) bare8 with9 ∧ (
 ∀ (r11 : CmT × Int), r11 = qr_behind_F c5b (rd ([] : List Int) ops10 i11) (List.drop (Int.toNat (List.length (rd ([] : List Int) ops10 i11) : Int)) keys4) bare8 with9 → (
 wfR (.tup [.v (.st (.pair (.int .u8) (.pair (.int .i64) (.pair (.str) (.pair (.str) (.pair (.int .u8) (.sl (.int .u8)))))))) r11.1, .v (.int .i64) r11.2]) → (
 kr r11.2 r11.1)))
 else False
 else False) ∧ (
 bif decide (0 ≤ i11 ∧ i11 < (List.length ops10 : Int)) then
 (
 bif decide (0 ≤ (List.length (rd ([] : List Int) ops10 i11) : Int) ∧ (List.length (rd ([] : List Int) ops10 i11) : Int) ≤ (List.length keys4 : Int)) then
 qr_behind_P c5b (rd ([] : List Int) ops10 i11) (List.drop (Int.toNat (List.length (rd ([] : List Int) ops10 i11) : Int)) keys4) bare8 with9 ∧ (
 ∀ (r12 : CmT × Int), r12 = qr_behind_F c5b (rd ([] : List Int) ops10 i11) (List.drop (Int.toNat (List.length (rd ([] : List Int) ops10 i11) : Int)) keys4) bare8 with9 → (
 wfR (.tup [.v (.st (.pair (.int .u8) (.pair (.int .i64) (.pair (.str) (.pair (.str) (.pair (.int .u8) (.sl (.int .u8)))))))) r12.1, .v (.int .i64) r12.2]) → (
 kr r12.2 r12.1)))
 else False) ∧ (
 bif decide (0 ≤ (List.length (rd ([] : List Int) ops10 i11) : Int) ∧ (List.length (rd ([] : List Int) ops10 i11) : Int) ≤ (List.length keys4 : Int)) then
 qr_behind_P c5b (rd ([] : List Int) ops10 i11) (List.drop (Int.toNat (List.length (rd ([] : List Int) ops10 i11) : Int)) keys4) bare8 with9 ∧ (
 ∀ (r13 : CmT × Int), r13 = qr_behind_F c5b (rd ([] : List Int) ops10 i11) (List.drop (Int.toNat (List.length (rd ([] : List Int) ops10 i11) : Int)) keys4) bare8 with9 → (
 wfR (.tup [.v (.st (.pair (.int .u8) (.pair (.int .i64) (.pair (.str) (.pair (.str) (.pair (.int .u8) (.sl (.int .u8)))))))) r13.1, .v (.int .i64) r13.2]) → (
 kr r13.2 r13.1)))
 else False) ∧ True
 else False) ∧ True
 else False) ∧ (
 bif decide (0 ≤ i11 ∧ i11 < (List.length ops10 : Int)) then
 (
 bif decide (0 ≤ i11 ∧ i11 < (List.length ops10 : Int)) then
 (
 bif decide (0 ≤ (List.length (rd ([] : List Int) ops10 i11) : Int) ∧ (List.length (rd ([] : List Int) ops10 i11) : Int) ≤ (List.length keys4 : Int)) then
 qr_behind_P c5b (rd ([] : List Int) ops10 i11) (List.drop (Int.toNat (List.length (rd ([] : List Int) ops10 i11) : Int)) keys4) bare8 with9 ∧ (
 ∀ (r14 : CmT × Int), r14 = qr_behind_F c5b (rd ([] : List Int) ops10 i11) (List.drop (Int.toNat (List.length (rd ([] : List Int) ops10 i11) : Int)) keys4) bare8 with9 → (
 wfR (.tup [.v (.st (.pair (.int .u8) (.pair (.int .i64) (.pair (.str) (.pair (.str) (.pair (.int .u8) (.sl (.int .u8)))))))) r14.1, .v (.int .i64) r14.2]) → (
 kr r14.2 r14.1)))
 else False) ∧ (
 bif decide (0 ≤ (List.length (rd ([] : List Int) ops10 i11) : Int) ∧ (List.length (rd ([] : List Int) ops10 i11) : Int) ≤ (List.length keys4 : Int)) then
 qr_behind_P c5b (rd ([] : List Int) ops10 i11) (List.drop (Int.toNat (List.length (rd ([] : List Int) ops10 i11) : Int)) keys4) bare8 with9 ∧ (
 ∀ (r15 : CmT × Int), r15 = qr_behind_F c5b (rd ([] : List Int) ops10 i11) (List.drop (Int.toNat (List.length (rd ([] : List Int) ops10 i11) : Int)) keys4) bare8 with9 → (
 wfR (.tup [.v (.st (.pair (.int .u8) (.pair (.int .i64) (.pair (.str) (.pair (.str) (.pair (.int .u8) (.sl (.int .u8)))))))) r15.1, .v (.int .i64) r15.2]) → (
 kr r15.2 r15.1)))
 else False) ∧ True
 else False) ∧ (
 bif decide (0 ≤ (List.length (rd ([] : List Int) ops10 i11) : Int) ∧ (List.length (rd ([] : List Int) ops10 i11) : Int) ≤ (List.length keys4 : Int)) then
 bif decide (0 ≤ i11 ∧ i11 < (List.length ops10 : Int)) then
 qr_behind_P c5b (rd ([] : List Int) ops10 i11) (List.drop (Int.toNat (List.length (rd ([] : List Int) ops10 i11) : Int)) keys4) bare8 with9 ∧ (
 ∀ (r16 : CmT × Int), r16 = qr_behind_F c5b (rd ([] : List Int) ops10 i11) (List.drop (Int.toNat (List.length (rd ([] : List Int) ops10 i11) : Int)) keys4) bare8 with9 → (
 wfR (.tup [.v (.st (.pair (.int .u8) (.pair (.int .i64) (.pair (.str) (.pair (.str) (.pair (.int .u8) (.sl (.int .u8)))))))) r16.1, .v (.int .i64) r16.2]) → (
 kr r16.2 r16.1)))
 else False
 else False) ∧ True
 else False) ∧ True
 else
 Y keys4 bare8 with9 ops10 (IntKind.wrap .i64 (i11 + (1 : Int))) x2b c5b
 else False) ∧ (
 bif decide (0 ≤ (List.length (rd ([] : List Int) ops10 i11) : Int) ∧ (List.length (rd ([] : List Int) ops10 i11) : Int) ≤ (List.length keys4 : Int)) then
 bif (decide ((List.take (Int.toNat (List.length (rd ([] : List Int) ops10 i11) : Int)) keys4) = (rd ([] : List Int) ops10 i11))) then
 (
 bif decide (0 ≤ i11 ∧ i11 < (List.length ops10 : Int)) then
 (
 bif decide (0 ≤ i11 ∧ i11 < (List.length ops10 : Int)) then
 bif decide (0 ≤ (List.length (rd ([] : List Int) ops10 i11) : Int) ∧ (List.length (rd ([] : List Int) ops10 i11) : Int) ≤ (List.length keys4 : Int)) then
 qr_behind_P c5b (rd ([] : List Int) ops10 i11) (List.drop (Int.toNat (List.length (rd ([] : List Int) ops10 i11) : Int)) keys4) bare8 with9 ∧ (
 ∀ (r17 : CmT × Int), r17 = qr_behind_F c5b (rd ([] : List Int) ops10 i11) (List.drop (Int.toNat (List.length (rd ([] : List Int) ops10 i11) : Int)) keys4) bare8 with9 → (
 wfR (.tup [.v (.st (.pair (.int .u8) (.pair (.int .i64) (.pair (.str) (.pair (.str) (.pair (.int .u8) (.sl (.int .u8)))))))) r17.1, .v (.int .i64) r17.2]) → (
 kr r17.2 r17.1)))
 else False
 else False) ∧ (
 bif decide (0 ≤ i11 ∧ i11 < (List.length ops10 : Int)) then
 (
 bif decide (0 ≤ (List.length (rd ([] : List Int) ops10 i11) : Int) ∧ (List.length (rd ([] : List Int) ops10 i11) : Int) ≤ (List.length keys4 : Int)) then
 qr_behind_P c5b (rd ([] : List Int) ops10 i11) (List.drop (Int.toNat (List.length (rd ([] : List Int) ops10 i11) : Int)) keys4) bare8 with9 ∧ (
 ∀ (r18 : CmT × Int), r18 = qr_behind_F c5b (rd ([] : List Int) ops10 i11) (List.drop (Int.toNat (List.length (rd ([] : List Int) ops10 i11) : Int)) keys4) bare8 with9 → (
 wfR (.tup [.v (.st (.pair (.int .u8) (.pair (.int .i64) (.pair (.str) (.pair (.str) (.pair (.int .u8) (.sl (.int .u8)))))))) r18.1, .v (.int .i64) r18.2]) → (
 kr r18.2 r18.1)))
 else False) ∧ (
 bif decide (0 ≤ (List.length (rd ([] : List Int) ops10 i11) : Int) ∧ (List.length (rd ([] : List Int) ops10 i11) : Int) ≤ (List.length keys4 : Int)) then
 qr_behind_P c5b (rd ([] : List Int) ops10 i11) (List.drop (Int.toNat (List.length (rd ([] : List Int) ops10 i11) : Int)) keys4) bare8 with9 ∧ (
 ∀ (r19 : CmT × Int), r19 = qr_behind_F c5b (rd ([] : List Int) ops10 i11) (List.drop (Int.toNat (List.length (rd ([] : List Int) ops10 i11) : Int)) keys4) bare8 with9 → (
 wfR (.tup [.v (.st (.pair (.int .u8) (.pair (.int .i64) (.pair (.str) (.pair (.str) (.pair (.int .u8) (.sl (.int .u8)))))))) r19.1, .v (.int .i64) r19.2]) → (
 kr r19.2 r19.1)))
 else False) ∧ True
 else False) ∧ True
 else False) ∧ (
 bif decide (0 ≤ i11 ∧ i11 < (List.length ops10 : Int)) then
 (
 bif decide (0 ≤ i11 ∧ i11 < (List.length ops10 : Int)) then
 (
 bif decide (0 ≤ (List.length (rd ([] : List Int) ops10 i11) : Int) ∧ (List.length (rd ([] : List Int) ops10 i11) : Int) ≤ (List.length keys4 : Int)) then
 qr_behind_P c5b (rd ([] : List Int) ops10 i11) (List.drop (Int.toNat (List.length (rd ([] : List Int) ops10 i11) : Int)) keys4) bare8 with9 ∧ (
 ∀ (r20 : CmT × Int), r20 = qr_behind_F c5b (rd ([] : List Int) ops10 i11) (List.drop (Int.toNat (List.length (rd ([] : List Int) ops10 i11) : Int)) keys4) bare8 with9 → (
 wfR (.tup [.v (.st (.pair (.int .u8) (.pair (.int .i64) (.pair (.str) (.pair (.str) (.pair (.int .u8) (.sl (.int .u8)))))))) r20.1, .v (.int .i64) r20.2]) → (
 kr r20.2 r20.1)))
 else False) ∧ (
 bif decide (0 ≤ (List.length (rd ([] : List Int) ops10 i11) : Int) ∧ (List.length (rd ([] : List Int) ops10 i11) : Int) ≤ (List.length keys4 : Int)) then
 qr_behind_P c5b (rd ([] : List Int) ops10 i11) (List.drop (Int.toNat (List.length (rd ([] : List Int) ops10 i11) : Int)) keys4) bare8 with9 ∧ (
 ∀ (r21 : CmT × Int), r21 = qr_behind_F c5b (rd ([] : List Int) ops10 i11) (List.drop (Int.toNat (List.length (rd ([] : List Int) ops10 i11) : Int)) keys4) bare8 with9 → (
 wfR (.tup [.v (.st (.pair (.int .u8) (.pair (.int .i64) (.pair (.str) (.pair (.str) (.pair (.int .u8) (.sl (.int .u8)))))))) r21.1, .v (.int .i64) r21.2]) → (
 kr r21.2 r21.1)))
 else False) ∧ True
 else False) ∧ (
 bif decide (0 ≤ (List.length (rd ([] : List Int) ops10 i11) : Int) ∧ (List.length (rd ([] : List Int) ops10 i11) : Int) ≤ (List.length keys4 : Int)) then
 bif decide (0 ≤ i11 ∧ i11 < (List.length ops10 : Int)) then
 qr_behind_P c5b (rd ([] : List Int) ops10 i11) (List.drop (Int.toNat (List.length (rd ([] : List Int) ops10 i11) : Int)) keys4) bare8 with9 ∧ (
 ∀ (r22 : CmT × Int), r22 = qr_behind_F c5b (rd ([] : List Int) ops10 i11) (List.drop (Int.toNat (List.length (rd ([] : List Int) ops10 i11) : Int)) keys4) bare8 with9 → (
 wfR (.tup [.v (.st (.pair (.int .u8) (.pair (.int .i64) (.pair (.str) (.pair (.str) (.pair (.int .u8) (.sl (.int .u8)))))))) r22.1, .v (.int .i64) r22.2]) → (
 kr r22.2 r22.1)))
 else False
 else False) ∧ True
 else False) ∧ True
 else
 Y keys4 bare8 with9 ops10 (IntKind.wrap .i64 (i11 + (1 : Int))) x2b c5b
 else False) ∧ True
 else False) ∧ True
 else False) ∧ (
 bif decide (0 ≤ i11 ∧ i11 < (List.length ops10 : Int)) then
 (
 bif decide (0 ≤ i11 ∧ i11 < (List.length ops10 : Int)) then
 (
 bif decide (0 ≤ (List.length (rd ([] : List Int) ops10 i11) : Int) ∧ (List.length (rd ([] : List Int) ops10 i11) : Int) ≤ (List.length keys4 : Int)) then
 bif (decide ((List.take (Int.toNat (List.length (rd ([] : List Int) ops10 i11) : Int)) keys4) = (rd ([] : List Int) ops10 i11))) then
 (
 bif decide (0 ≤ i11 ∧ i11 < (List.length ops10 : Int)) then
 (
 bif decide (0 ≤ i11 ∧ i11 < (List.length ops10 : Int)) then
 bif decide (0 ≤ (List.length (rd ([] : List Int) ops10 i11) : Int) ∧ (List.length (rd ([] : List Int) ops10 i11) : Int) ≤ (List.length keys4 : Int)) then
 qr_behind_P c5b (rd ([] : List Int) ops10 i11) (List.drop (Int.toNat (List.length (rd ([] : List Int) ops10 i11) : Int)) keys4) bare8 with9 ∧ (
 ∀ (r23 : CmT × Int), r23 = qr_behind_F c5b (rd ([] : List Int) ops10 i11) (List.drop (Int.toNat (List.length (rd ([] : List Int) ops10 i11) : Int)) keys4) bare8 with9 → (
 wfR (.tup [.v (.st (.pair (.int .u8) (.pair (.int .i64) (.pair (.str) (.pair (.str) (.pair (.int .u8) (.sl (.int .u8)))))))) r23.1, .v (.int .i64) r23.2]) → (
 kr r23.2 r23.1)))
 else False
 else False) ∧ (
 bif decide (0 ≤ i11 ∧ i11 < (List.length ops10 : Int)) then
 (
 bif decide (0 ≤ (List.length (rd ([] : List Int) ops10 i11) : Int) ∧ (List.length (rd ([] : List Int) ops10 i11) : Int) ≤ (List.length keys4 : Int)) then
 qr_behind_P c5b (rd ([] : List Int) ops10 i11) (List.drop (Int.toNat (List.length (rd ([] : List Int) ops10 i11) : Int)) keys4) bare8 with9 ∧ (
 ∀ (r24 : CmT × Int), r24 = qr_behind_F c5b (rd ([] : List Int) ops10 i11) (List.drop (Int.toNat (List.length (rd ([] : List Int) ops10 i11) : Int)) keys4) bare8 with9 → (
 wfR (.tup [.v (.st (.pair (.int .u8) (.pair (.int .i64) (.pair (.str) (.pair (.str) (.pair (.int .u8) (.sl (.int .u8)))))))) r24.1, .v (.int .i64) r24.2]) → (
 kr r24.2 r24.1)))
 else False) ∧ (
 bif decide (0 ≤ (List.length (rd ([] : List Int) ops10 i11) : Int) ∧ (List.length (rd ([] : List Int) ops10 i11) : Int) ≤ (List.length keys4 : Int)) then
 qr_behind_P c5b (rd ([] : List Int) ops10 i11) (List.drop (Int.toNat (List.length (rd ([] : List Int) ops10 i11) : Int)) keys4) bare8 with9 ∧ (
 ∀ (r25 : CmT × Int), r25 = qr_behind_F c5b (rd ([] : List Int) ops10 i11) (List.drop (Int.toNat (List.length (rd ([] : List Int) ops10 i11) : Int)) keys4) bare8 with9 → (
 wfR (.tup [.v (.st (.pair (.int .u8) (.pair (.int .i64) (.pair (.str) (.pair (.str) (.pair (.int .u8) (.sl (.int .u8)))))))) r25.1, .v (.int .i64) r25.2]) → (
 kr r25.2 r25.1)))
 else False) ∧ True
 else False) ∧ True
 else False) ∧ (
 bif decide (0 ≤ i11 ∧ i11 < (List.length ops10 : Int)) then
 (
 bif decide (0 ≤ i11 ∧ i11 < (List.length ops10 : Int)) then
 (
 bif decide (0 ≤ (List.length (rd ([] : List Int) ops10 i11) : Int) ∧ (List.length (rd ([] : List Int) ops10 i11) : Int) ≤ (List.length keys4 : Int)) then
 qr_behind_P c5b (rd ([] : List Int) ops10 i11) (List.drop (Int.toNat (List.length (rd ([] : List Int) ops10 i11) : Int)) keys4) bare8 with9 ∧ (
 ∀ (r26 : CmT × Int), r26 = qr_behind_F c5b (rd ([] : List Int) ops10 i11) (List.drop (Int.toNat (List.length (rd ([] : List Int) ops10 i11) : Int)) keys4) bare8 with9 → (
 wfR (.tup [.v (.st (.pair (.int .u8) (.pair (.int .i64) (.pair (.str) (.pair (.str) (.pair (.int .u8) (.sl (.int .u8)))))))) r26.1, .v (.int .i64) r26.2]) → (
 kr r26.2 r26.1)))
 else False) ∧ (
 bif decide (0 ≤ (List.length (rd ([] : List Int) ops10 i11) : Int) ∧ (List.length (rd ([] : List Int) ops10 i11) : Int) ≤ (List.length keys4 : Int)) then
 qr_behind_P c5b (rd ([] : List Int) ops10 i11) (List.drop (Int.toNat (List.length (rd ([] : List Int) ops10 i11) : Int)) keys4) bare8 with9 ∧ (
 ∀ (r27 : CmT × Int), r27 = qr_behind_F c5b (rd ([] : List Int) ops10 i11) (List.drop (Int.toNat (List.length (rd ([] : List Int) ops10 i11) : Int)) keys4) bare8 with9 → (
 wfR (.tup [.v (.st (.pair (.int .u8) (.pair (.int .i64) (.pair (.str) (.pair (.str) (.pair (.int .u8) (.sl (.int .u8)))))))) r27.1, .v (.int .i64) r27.2]) → (
 kr r27.2 r27.1)))
 else False) ∧ True
 else False) ∧ (
 bif decide (0 ≤ (List.length (rd ([] : List Int) ops10 i11) : Int) ∧ (List.length (rd ([] : List Int) ops10 i11) : Int) ≤ (List.length keys4 : Int)) then
 bif decide (0 ≤ i11 ∧ i11 < (List.length ops10 : Int)) then
 qr_behind_P c5b (rd ([] : List Int) ops10 i11) (List.drop (Int.toNat (List.length (rd ([] : List Int) ops10 i11) : Int)) keys4) bare8 with9 ∧ (
 ∀ (r28 : CmT × Int), r28 = qr_behind_F c5b (rd ([] : List Int) ops10 i11) (List.drop (Int.toNat (List.length (rd ([] : List Int) ops10 i11) : Int)) keys4) bare8 with9 → (
 wfR (.tup [.v (.st (.pair (.int .u8) (.pair (.int .i64) (.pair (.str) (.pair (.str) (.pair (.int .u8) (.sl (.int .u8)))))))) r28.1, .v (.int .i64) r28.2]) → (
 kr r28.2 r28.1)))
 else False
 else False) ∧ True
 else False) ∧ True
 else
 Y keys4 bare8 with9 ops10 (IntKind.wrap .i64 (i11 + (1 : Int))) x2b c5b
 else False) ∧ (
 bif decide (0 ≤ (List.length (rd ([] : List Int) ops10 i11) : Int) ∧ (List.length (rd ([] : List Int) ops10 i11) : Int) ≤ (List.length keys4 : Int)) then
 bif (decide ((List.take (Int.toNat (List.length (rd ([] : List Int) ops10 i11) : Int)) keys4) = (rd ([] : List Int) ops10 i11))) then
 (
 bif decide (0 ≤ i11 ∧ i11 < (List.length ops10 : Int)) then
 (
 bif decide (0 ≤ i11 ∧ i11 < (List.length ops10 : Int)) then
 bif decide (0 ≤ (List.length (rd ([] : List Int) ops10 i11) : Int) ∧ (List.length (rd ([] : List Int) ops10 i11) : Int) ≤ (List.length keys4 : Int)) then
 qr_behind_P c5b (rd ([] : List Int) ops10 i11) (List.drop (Int.toNat (List.length (rd ([] : List Int) ops10 i11) : Int)) keys4) bare8 with9 ∧ (
 ∀ (r29 : CmT × Int), r29 = qr_behind_F c5b (rd ([] : List Int) ops10 i11) (List.drop (Int.toNat (List.length (rd ([] : List Int) ops10 i11) : Int)) keys4) bare8 with9 → (
 wfR (.tup [.v (.st (.pair (.int .u8) (.pair (.int .i64) (.pair (.str) (.pair (.str) (.pair (.int .u8) (.sl (.int .u8)))))))) r29.1, .v (.int .i64) r29.2]) → (
 kr r29.2 r29.1)))
 else False
 else False) ∧ (
 bif decide (0 ≤ i11 ∧ i11 < (List.length ops10 : Int)) then
 (
 bif decide (0 ≤ (List.length (rd ([] : List Int) ops10 i11) : Int) ∧ (List.length (rd ([] : List Int) ops10 i11) : Int) ≤ (List.length keys4 : Int)) then
 qr_behind_P c5b (rd ([] : List Int) ops10 i11) (List.drop (Int.toNat (List.length (rd ([] : List Int) ops10 i11) : Int)) keys4) bare8 with9 ∧ (
 ∀ (r30 : CmT × Int), r30 = qr_behind_F c5b (rd ([] : List Int) ops10 i11) (List.drop (Int.toNat (List.length (rd ([] : List Int) ops10 i11) : Int)) keys4) bare8 with9 → (
 wfR (.tup [.v (.st (.pair (.int .u8) (.pair (.int .i64) (.pair (.str) (.pair (.str) (.pair (.int .u8) (.sl (.int .u8)))))))) r30.1, .v (.int .i64) r30.2]) → (
 kr r30.2 r30.1)))
 else False) ∧ (
 bif decide (0 ≤ (List.length (rd ([] : List Int) ops10 i11) : Int) ∧ (List.length (rd ([] : List Int) ops10 i11) : Int) ≤ (List.length keys4 : Int)) then
 qr_behind_P c5b (rd ([] : List Int) ops10 i11) (List.drop (Int.toNat (List.length (rd ([] : List Int) ops10 i11) : Int)) keys4) bare8 with9 ∧ (
 ∀ (r31 : CmT × Int), r31 = qr_behind_F c5b (rd ([] : List Int) ops10 i11) (List.drop (Int.toNat (List.length (rd ([] : List Int) ops10 i11) : Int)) keys4) bare8 with9 → (
 wfR (.tup [.v (.st (.pair (.int .u8) (.pair (.int .i64) (.pair (.str) (.pair (.str) (.pair (.int .u8) (.sl (.int .u8)))))))) r31.1, .v (.int .i64) r31.2]) → (
 kr r31.2 r31.1)))
 else False) ∧ True
 else False) ∧ True
 else False) ∧ (
 bif decide (0 ≤ i11 ∧ i11 < (List.length ops10 : Int)) then
 (
 bif decide (0 ≤ i11 ∧ i11 < (List.length ops10 : Int)) then
 (
 bif decide (0 ≤ (List.length (rd ([] : List Int) ops10 i11) : Int) ∧ (List.length (rd ([] : List Int) ops10 i11) : Int) ≤ (List.length keys4 : Int)) then
 qr_behind_P c5b (rd ([] : List Int) ops10 i11) (List.drop (Int.toNat (List.length (rd ([] : List Int) ops10 i11) : Int)) keys4) bare8 with9 ∧ (
 ∀ (r32 : CmT × Int), r32 = qr_behind_F c5b (rd ([] : List Int) ops10 i11) (List.drop (Int.toNat (List.length (rd ([] : List Int) ops10 i11) : Int)) keys4) bare8 with9 → (
 wfR (.tup [.v (.st (.pair (.int .u8) (.pair (.int .i64) (.pair (.str) (.pair (.str) (.pair (.int .u8) (.sl (.int .u8)))))))) r32.1, .v (.int .i64) r32.2]) → (
 kr r32.2 r32.1)))
 else False) ∧ (
 bif decide (0 ≤ (List.length (rd ([] : List Int) ops10 i11) : Int) ∧ (List.length (rd ([] : List Int) ops10 i11) : Int) ≤ (List.length keys4 : Int)) then
 qr_behind_P c5b (rd ([] : List Int) ops10 i11) (List.drop (Int.toNat (List.length (rd ([] : List Int) ops10 i11) : Int)) keys4) bare8 with9 ∧ (
 ∀ (r33 : CmT × Int), r33 = qr_behind_F c5b (rd ([] : List Int) ops10 i11) (List.drop (Int.toNat (List.length (rd ([] : List Int) ops10 i11) : Int)) keys4) bare8 with9 → (
 wfR (.tup [.v (.st (.pair (.int .u8) (.pair (.int .i64) (.pair (.str) (.pair (.str) (.pair (.int .u8) (.sl (.int .u8)))))))) r33.1, .v (.int .i64) r33.2]) → (
 kr r33.2 r33.1)))
 else False) ∧ True
 else False) ∧ (
 bif decide (0 ≤ (List.length (rd ([] : List Int) ops10 i11) : Int) ∧ (List.length (rd ([] : List Int) ops10 i11) : Int) ≤ (List.length keys4 : Int)) then
 bif decide (0 ≤ i11 ∧ i11 < (List.length ops10 : Int)) then
 qr_behind_P c5b (rd ([] : List Int) ops10 i11) (List.drop (Int.toNat (List.length (rd ([] : List Int) ops10 i11) : Int)) keys4) bare8 with9 ∧ (
 ∀ (r34 : CmT × Int), r34 = qr_behind_F c5b (rd ([] : List Int) ops10 i11) (List.drop (Int.toNat (List.length (rd ([] : List Int) ops10 i11) : Int)) keys4) bare8 with9 → (
 wfR (.tup [.v (.st (.pair (.int .u8) (.pair (.int .i64) (.pair (.str) (.pair (.str) (.pair (.int .u8) (.sl (.int .u8)))))))) r34.1, .v (.int .i64) r34.2]) → (
 kr r34.2 r34.1)))
 else False
 else False) ∧ True
 else False) ∧ True
 else
 Y keys4 bare8 with9 ops10 (IntKind.wrap .i64 (i11 + (1 : Int))) x2b c5b
 else False) ∧ True
 else False) ∧ (
 bif decide (0 ≤ i11 ∧ i11 < (List.length ops10 : Int)) then
 bif decide (0 ≤ (List.length (rd ([] : List Int) ops10 i11) : Int) ∧ (List.length (rd ([] : List Int) ops10 i11) : Int) ≤ (List.length keys4 : Int)) then
 bif (decide ((List.take (Int.toNat (List.length (rd ([] : List Int) ops10 i11) : Int)) keys4) = (rd ([] : List Int) ops10 i11))) then
 (
 bif decide (0 ≤ i11 ∧ i11 < (List.length ops10 : Int)) then
 (
 bif decide (0 ≤ i11 ∧ i11 < (List.length ops10 : Int)) then
 bif decide (0 ≤ (List.length (rd ([] : List Int) ops10 i11) : Int) ∧ (List.length (rd ([] : List Int) ops10 i11) : Int) ≤ (List.length keys4 : Int)) then
 qr_behind_P c5b (rd ([] : List Int) ops10 i11) (List.drop (Int.toNat (List.length (rd ([] : List Int) ops10 i11) : Int)) keys4) bare8 with9 ∧ (
 ∀ (r35 : CmT × Int), r35 = qr_behind_F c5b (rd ([] : List Int) ops10 i11) (List.drop (Int.toNat (List.length (rd ([] : List Int) ops10 i11) : Int)) keys4) bare8 with9 → (
 wfR (.tup [.v (.st (.pair (.int .u8) (.pair (.int .i64) (.pair (.str) (.pair (.str) (.pair (.int .u8) (.sl (.int .u8)))))))) r35.1, .v (.int .i64) r35.2]) → (
 kr r35.2 r35.1)))
 else False
 else False) ∧ (
 bif decide (0 ≤ i11 ∧ i11 < (List.length ops10 : Int)) then
 (
 bif decide (0 ≤ (List.length (rd ([] : List Int) ops10 i11) : Int) ∧ (List.length (rd ([] : List Int) ops10 i11) : Int) ≤ (List.length keys4 : Int)) then
 qr_behind_P c5b (rd ([] : List Int) ops10 i11) (List.drop (Int.toNat (List.length (rd ([] : List Int) ops10 i11) : Int)) keys4) bare8 with9 ∧ (
 ∀ (r36 : CmT × Int), r36 = qr_behind_F c5b (rd ([] : List Int) ops10 i11) (List.drop (Int.toNat (List.length (rd ([] : List Int) ops10 i11) : Int)) keys4) bare8 with9 → (
 wfR (.tup [.v (.st (.pair (.int .u8) (.pair (.int .i64) (.pair (.str) (.pair (.str) (.pair (.int .u8) (.sl (.int .u8)))))))) r36.1, .v (.int .i64) r36.2]) → (
 kr r36.2 r36.1)))
 else False) ∧ (
 bif decide (0 ≤ (List.length (rd ([] : List Int) ops10 i11) : Int) ∧ (List.length (rd ([] : List Int) ops10 i11) : Int) ≤ (List.length keys4 : Int)) then
 qr_behind_P c5b (rd ([] : List Int) ops10 i11) (List.drop (Int.toNat (List.length (rd ([] : List Int) ops10 i11) : Int)) keys4) bare8 with9 ∧ (
 ∀ (r37 : CmT × Int), r37 = qr_behind_F c5b (rd ([] : List Int) ops10 i11) (List.drop (Int.toNat (List.length (rd ([] : List Int) ops10 i11) : Int)) keys4) bare8 with9 → (
 wfR (.tup [.v (.st (.pair (.int .u8) (.pair (.int .i64) (.pair (.str) (.pair (.str) (.pair (.int .u8) (.sl (.int .u8)))))))) r37.1, .v (.int .i64) r37.2]) → (
 kr r37.2 r37.1)))
 else False) ∧ True
 else False) ∧ True
 else False) ∧ (
 bif decide (0 ≤ i11 ∧ i11 < (List.length ops10 : Int)) then
 (
 bif decide (0 ≤ i11 ∧ i11 < (List.length ops10 : Int)) then
 (
 bif decide (0 ≤ (List.length (rd ([] : List Int) ops10 i11) : Int) ∧ (List.length (rd ([] : List Int) ops10 i11) : Int) ≤ (List.length keys4 : Int)) then
 qr_behind_P c5b (rd ([] : List Int) ops10 i11) (List.drop (Int.toNat (List.length (rd ([] : List Int) ops10 i11) : Int)) keys4) bare8 with9 ∧ (
 ∀ (r38 : CmT × Int), r38 = qr_behind_F c5b (rd ([] : List Int) ops10 i11) (List.drop (Int.toNat (List.length (rd ([] : List Int) ops10 i11) : Int)) keys4) bare8 with9 → (
 wfR (.tup [.v (.st (.pair (.int .u8) (.pair (.int .i64) (.pair (.str) (.pair (.str) (.pair (.int .u8) (.sl (.int .u8)))))))) r38.1, .v (.int .i64) r38.2]) → (
 kr r38.2 r38.1)))
 else False) ∧ (
 bif decide (0 ≤ (List.length (rd ([] : List Int) ops10 i11) : Int) ∧ (List.length (rd ([] : List Int) ops10 i11) : Int) ≤ (List.length keys4 : Int)) then
 qr_behind_P c5b (rd ([] : List Int) ops10 i11) (List.drop (Int.toNat (List.length (rd ([] : List Int) ops10 i11) : Int)) keys4) bare8 with9 ∧ (
 ∀ (r39 : CmT × Int), r39 = qr_behind_F c5b (rd ([] : List Int) ops10 i11) (List.drop (Int.toNat (List.length (rd ([] : List Int) ops10 i11) : Int)) keys4) bare8 with9 → (
 wfR (.tup [.v (.st (.pair (.int .u8) (.pair (.int .i64) (.pair (.str) (.pair (.str) (.pair (.int .u8) (.sl (.int .u8)))))))) r39.1, .v (.int .i64) r39.2]) → (
 kr r39.2 r39.1)))
 else False) ∧ True
 else False) ∧ (
 bif decide (0 ≤ (List.length (rd ([] : List Int) ops10 i11) : Int) ∧ (List.length (rd ([] : List Int) ops10 i11) : Int) ≤ (List.length keys4 : Int)) then
 bif decide (0 ≤ i11 ∧ i11 < (List.length ops10 : Int)) then
 qr_behind_P c5b (rd ([] : List Int) ops10 i11) (List.drop (Int.toNat (List.length (rd ([] : List Int) ops10 i11) : Int)) keys4) bare8 with9 ∧ (
 ∀ (r40 : CmT × Int), r40 = qr_behind_F c5b (rd ([] : List Int) ops10 i11) (List.drop (Int.toNat (List.length (rd ([] : List Int) ops10 i11) : Int)) keys4) bare8 with9 → (
 wfR (.tup [.v (.st (.pair (.int .u8) (.pair (.int .i64) (.pair (.str) (.pair (.str) (.pair (.int .u8) (.sl (.int .u8)))))))) r40.1, .v (.int .i64) r40.2]) → (
 kr r40.2 r40.1)))
 else False
 else False) ∧ True
 else False) ∧ True
 else
 Y keys4 bare8 with9 ops10 (IntKind.wrap .i64 (i11 + (1 : Int))) x2b c5b
 else False
 else False) ∧ True
 else False) ∧ True
 else
 Y keys4 bare8 with9 ops10 (IntKind.wrap .i64 (i11 + (1 : Int))) x2b c5b
 else False
 else
 kx0 keys4 bare8 with9 ops10 x2b c5b
def qr_Parse_L0 (kr : Int → CmT → Prop) (kx0 : List Int → List (List Int) → List (List Int) → List (List Int) → CmT → CmT → Prop) : Nat → List Int → List (List Int) → List (List Int) → List (List Int) → Int → CmT → CmT → Prop
  | 0, _, _, _, _, _, _, _ => False
  | n + 1, keys4, bare8, with9, ops10, i11, x2b, c5b => wfD qr_Parse_d0 (keys4, bare8, with9, ops10, i11, x2b, c5b, ()) → qr_Parse_T0 (qr_Parse_L0 kr kx0 n) kr kx0 keys4 bare8 with9 ops10 i11 x2b c5b
theorem qr_Parse_s0 (k : Ex → St → Prop) (Y : vals qr_Parse_d0 → Prop) (keys4 : List Int) (bare8 : List (List Int)) (with9 : List (List Int)) (ops10 : List (List Int)) (i11 : Int) (x2b : CmT) (c5b : CmT) :
    ex tb (getG qr_Parse_G) [] (at' (bodyOf Tryd.f11) [0, 0, 1, 0, 1, 1, 1, 1, 1, 1, 1, 1, 1, 1]) [0, 0, 1, 0, 1, 1, 1, 1, 1, 1, 1, 1, 1, 1] (mkD 134 qr_Parse_d0 (keys4, bare8, with9, ops10, i11, x2b, c5b, ())) (lpK 134 qr_Parse_d0 qr_Parse_dx0 k Y) =
    qr_Parse_T0 (fun keys4 bare8 with9 ops10 i11 x2b c5b => Y (keys4, bare8, with9, ops10, i11, x2b, c5b, ())) (fun x3 x2b => wfD qr_Parse_d0r (x3, x2b, ()) → k .ret (mkD 134 qr_Parse_d0r (x3, x2b, ()))) (fun keys4 bare8 with9 ops10 x2b c5b => wfD qr_Parse_d0x0 (keys4, bare8, with9, ops10, x2b, c5b, ()) → k (.exit 0) (mkD 134 qr_Parse_d0x0 (keys4, bare8, with9, ops10, x2b, c5b, ()))) keys4 bare8 with9 ops10 i11 x2b c5b := by kernel_rfl
theorem qr_Parse_e0 (k : Ex → St → Prop) : ∀ (n : Nat) (keys4 : List Int) (bare8 : List (List Int)) (with9 : List (List Int)) (ops10 : List (List Int)) (i11 : Int) (x2b : CmT) (c5b : CmT), lpD 134 qr_Parse_d0 qr_Parse_dx0 (ex tb (getG qr_Parse_G) [] (at' (bodyOf Tryd.f11) [0, 0, 1, 0, 1, 1, 1, 1, 1, 1, 1, 1, 1, 1]) [0, 0, 1, 0, 1, 1, 1, 1, 1, 1, 1, 1, 1, 1]) k n (keys4, bare8, with9, ops10, i11, x2b, c5b, ()) = qr_Parse_L0 (fun x3 x2b => wfD qr_Parse_d0r (x3, x2b, ()) → k .ret (mkD 134 qr_Parse_d0r (x3, x2b, ()))) (fun keys4 bare8 with9 ops10 x2b c5b => wfD qr_Parse_d0x0 (keys4, bare8, with9, ops10, x2b, c5b, ()) → k (.exit 0) (mkD 134 qr_Parse_d0x0 (keys4, bare8, with9, ops10, x2b, c5b, ()))) n keys4 bare8 with9 ops10 i11 x2b c5b
  | 0, _, _, _, _, _, _, _ => rfl
  | n + 1, keys4, bare8, with9, ops10, i11, x2b, c5b => congrArg (fun Z : Prop => wfD qr_Parse_d0 (keys4, bare8, with9, ops10, i11, x2b, c5b, ()) → Z) ((qr_Parse_s0 k (lpD 134 qr_Parse_d0 qr_Parse_dx0 (ex tb (getG qr_Parse_G) [] (at' (bodyOf Tryd.f11) [0, 0, 1, 0, 1, 1, 1, 1, 1, 1, 1, 1, 1, 1]) [0, 0, 1, 0, 1, 1, 1, 1, 1, 1, 1, 1, 1, 1]) k n) keys4 bare8 with9 ops10 i11 x2b c5b).trans (congrArg (fun Y => qr_Parse_T0 Y (fun x3 x2b => wfD qr_Parse_d0r (x3, x2b, ()) → k .ret (mkD 134 qr_Parse_d0r (x3, x2b, ()))) (fun keys4 bare8 with9 ops10 x2b c5b => wfD qr_Parse_d0x0 (keys4, bare8, with9, ops10, x2b, c5b, ()) → k (.exit 0) (mkD 134 qr_Parse_d0x0 (keys4, bare8, with9, ops10, x2b, c5b, ()))) keys4 bare8 with9 ops10 i11 x2b c5b) (funext fun keys4 => funext fun bare8 => funext fun with9 => funext fun ops10 => funext fun i11 => funext fun x2b => funext fun c5b => qr_Parse_e0 k n keys4 bare8 with9 ops10 i11 x2b c5b)))
theorem qr_Parse_v0 (k : Ex → St → Prop) (n : Nat) : ∀ v : vals qr_Parse_d0, lpD 134 qr_Parse_d0 qr_Parse_dx0 (ex tb (getG qr_Parse_G) [] (at' (bodyOf Tryd.f11) [0, 0, 1, 0, 1, 1, 1, 1, 1, 1, 1, 1, 1, 1]) [0, 0, 1, 0, 1, 1, 1, 1, 1, 1, 1, 1, 1, 1]) k n v = qr_Parse_L0 (fun x3 x2b => wfD qr_Parse_d0r (x3, x2b, ()) → k .ret (mkD 134 qr_Parse_d0r (x3, x2b, ()))) (fun keys4 bare8 with9 ops10 x2b c5b => wfD qr_Parse_d0x0 (keys4, bare8, with9, ops10, x2b, c5b, ()) → k (.exit 0) (mkD 134 qr_Parse_d0x0 (keys4, bare8, with9, ops10, x2b, c5b, ()))) n v.1 v.2.1 v.2.2.1 v.2.2.2.1 v.2.2.2.2.1 v.2.2.2.2.2.1 v.2.2.2.2.2.2.1
  | (keys4, bare8, with9, ops10, i11, x2b, c5b, ()) => qr_Parse_e0 k n keys4 bare8 with9 ops10 i11 x2b c5b
def qr_Parse_X0 : Pce := fun st k => ckD 134 qr_Parse_d0 st fun v => wfD qr_Parse_d0 v → ∃ n, qr_Parse_L0 (fun x3 x2b => wfD qr_Parse_d0r (x3, x2b, ()) → k .ret (mkD 134 qr_Parse_d0r (x3, x2b, ()))) (fun keys4 bare8 with9 ops10 x2b c5b => wfD qr_Parse_d0x0 (keys4, bare8, with9, ops10, x2b, c5b, ()) → k (.exit 0) (mkD 134 qr_Parse_d0x0 (keys4, bare8, with9, ops10, x2b, c5b, ()))) n v.1 v.2.1 v.2.2.1 v.2.2.2.1 v.2.2.2.2.1 v.2.2.2.2.2.1 v.2.2.2.2.2.2.1
set_option maxRecDepth 20000 in
theorem qr_Parse_x0 : SemOk Tryd.prog (at' (bodyOf Tryd.f11) [0, 1, 0, 1, 1, 1, 1, 1, 1, 1, 1, 1, 1]) qr_Parse_X0 :=
  (SemOk.loop (ex_sound tb_M tb_ok qr_Parse_Gok (LabsOk.nil) (at' (bodyOf Tryd.f11) [0, 0, 1, 0, 1, 1, 1, 1, 1, 1, 1, 1, 1, 1]) [0, 0, 1, 0, 1, 1, 1, 1, 1, 1, 1, 1, 1, 1] rfl (storesC_at qr_Parse_st [0, 0, 1, 0, 1, 1, 1, 1, 1, 1, 1, 1, 1, 1])) 134 qr_Parse_d0 qr_Parse_dx0).mono fun st k h => ckD_mono h fun v hv hw => (hv hw).elim fun n hn => ⟨n, Eq.mpr (qr_Parse_v0 k n v) hn⟩
def qr_Parse_B0 : Labs := ([0, 1, 0, 1, 1, 1, 1, 1, 1, 1, 1, 1, 1], qr_Parse_X0) :: []
theorem qr_Parse_b0 : LabsOk Tryd.prog (bodyOf Tryd.f11) qr_Parse_B0 := LabsOk.cons qr_Parse_x0 (LabsOk.nil)
def qr_Parse_d1 : List LS := [.b 2 16 [], .v 4 (.str), .b 5 40 [], .c 16 (.st (.pair (.int .u8) (.pair (.int .i64) (.pair (.str) (.pair (.str) (.pair (.int .u8) (.sl (.int .u8)))))))), .c 40 (.st (.pair (.int .u8) (.pair (.int .i64) (.pair (.str) (.pair (.str) (.pair (.int .u8) (.sl (.int .u8))))))))]
def qr_Parse_d1r : List LS := [.b 2 16 [], .v 3 (.int .i64), .c 16 (.st (.pair (.int .u8) (.pair (.int .i64) (.pair (.str) (.pair (.str) (.pair (.int .u8) (.sl (.int .u8))))))))]
def qr_Parse_dx1 : DX := ⟨none, some qr_Parse_d1r, []⟩
def qr_Parse_J1 (kr : Int → CmT → Prop) (keys4 : List Int) (x2b : CmT) (c5b : CmT) : Prop :=
 qr_number_P keys4 ∧ (
 ∀ (r2 : Int × Int), r2 = qr_number_F keys4 → (
 wfR (.tup [.v (.int .i64) r2.1, .v (.int .i64) r2.2]) → (
 bif decide (0 ≤ r2.2 ∧ r2.2 ≤ (List.length keys4 : Int)) then
 bif (decide ((List.drop (Int.toNat r2.2) keys4) = ([] : List Int))) then
 kr (0 : Int) ((0 : Int), (0 : Int), ([] : List Int), ([] : List Int), (0 : Int), ([] : List Int))
 else
 qr_motions_P  ∧ (
 ∀ (r3 : List (List Int) × List (List Int)), r3 = qr_motions_F → (
 wfR (.tup [.fr 9 (.str) r3.1, .fr 9 (.str) r3.2]) → (
 qr_operators_P  ∧ (
 ∀ (r4 : List (List Int)), r4 = qr_operators_F → (
 wfR (.one (.fr 9 (.str) r4)) → (
 (wfD qr_Parse_d0 ((List.drop (Int.toNat r2.2) keys4), r3.1, r3.2, r4, (0 : Int), x2b, (c5b.1, r2.1, c5b.2.2.1, c5b.2.2.2.1, c5b.2.2.2.2.1, c5b.2.2.2.2.2), ()) → ∃ n, qr_Parse_L0 (fun (x3 : Int) (x2b : CmT) => wfD qr_Parse_d0r (x3, x2b, ()) → (
 kr x3 x2b)) (fun (keys4 : List Int) (bare8 : List (List Int)) (with9 : List (List Int)) (ops10 : List (List Int)) (x2b : CmT) (c5b : CmT) => wfD qr_Parse_d0x0 (keys4, bare8, with9, ops10, x2b, c5b, ()) → (
 qr_plains_P  ∧ (
 ∀ (r41 : List (List Int) × List (List Int)), r41 = qr_plains_F → (
 wfR (.tup [.fr 9 (.str) r41.1, .fr 9 (.str) r41.2]) → (
 bif decide (List.length bare8 + List.length r41.1 ≤ lim) then
 bif decide (List.length with9 + List.length r41.2 ≤ lim) then
 qr_known_P keys4 (bare8 ++ r41.1) (with9 ++ r41.2) ∧ (
 ∀ (r42 : Int × List Int × Int), r42 = qr_known_F keys4 (bare8 ++ r41.1) (with9 ++ r41.2) → (
 wfR (.tup [.v (.int .i64) r42.1, .v (.str) r42.2.1, .v (.int .u8) r42.2.2]) → (
 bif (decide (r42.1 = (0 : Int))) then
 ∀ (r43 : Int × List Int), r43 = qr_found_F keys4 ops10 → (
 wfR (.tup [.v (.int .i64) r43.1, .v (.str) r43.2]) → (
 ∀ (r44 : CmT × Int), r44 = qr_told_F c5b r43.1 r42.2.1 r42.2.2 → (
 wfR (.tup [.v (.st (.pair (.int .u8) (.pair (.int .i64) (.pair (.str) (.pair (.str) (.pair (.int .u8) (.sl (.int .u8)))))))) r44.1, .v (.int .i64) r44.2]) → (
 kr r44.2 r44.1))))
 else
 ∀ (r45 : CmT × Int), r45 = qr_told_F c5b r42.1 r42.2.1 r42.2.2 → (
 wfR (.tup [.v (.st (.pair (.int .u8) (.pair (.int .i64) (.pair (.str) (.pair (.str) (.pair (.int .u8) (.sl (.int .u8)))))))) r45.1, .v (.int .i64) r45.2]) → (
 kr r45.2 r45.1)))))
 else False
 else False))))) n (List.drop (Int.toNat r2.2) keys4) r3.1 r3.2 r4 (0 : Int) x2b (c5b.1, r2.1, c5b.2.2.1, c5b.2.2.2.1, c5b.2.2.2.2.1, c5b.2.2.2.2.2))))))))
 else False)))
theorem qr_Parse_s1 (k : Ex → St → Prop) (keys4 : List Int) (x2b : CmT) (c5b : CmT) :
    ex tb (getG qr_Parse_G) qr_Parse_B0 (at' (bodyOf Tryd.f11) [1, 1, 1, 1]) [1, 1, 1, 1] (mkD 134 qr_Parse_d1 (keys4, x2b, c5b, ())) (wk 134 qr_Parse_dx1 k) =
    qr_Parse_J1 (fun x3 x2b => wfD qr_Parse_d1r (x3, x2b, ()) → k .ret (mkD 134 qr_Parse_d1r (x3, x2b, ()))) keys4 x2b c5b := by kernel_rfl
theorem qr_Parse_v1 (k : Ex → St → Prop) : ∀ v : vals qr_Parse_d1, ex tb (getG qr_Parse_G) qr_Parse_B0 (at' (bodyOf Tryd.f11) [1, 1, 1, 1]) [1, 1, 1, 1] (mkD 134 qr_Parse_d1 v) (wk 134 qr_Parse_dx1 k) = qr_Parse_J1 (fun x3 x2b => wfD qr_Parse_d1r (x3, x2b, ()) → k .ret (mkD 134 qr_Parse_d1r (x3, x2b, ()))) v.1 v.2.1 v.2.2.1
  | (keys4, x2b, c5b, ()) => qr_Parse_s1 k keys4 x2b c5b
def qr_Parse_X1 : Pce := fun st k => ckD 134 qr_Parse_d1 st fun v => wfD qr_Parse_d1 v → qr_Parse_J1 (fun x3 x2b => wfD qr_Parse_d1r (x3, x2b, ()) → k .ret (mkD 134 qr_Parse_d1r (x3, x2b, ()))) v.1 v.2.1 v.2.2.1
set_option maxRecDepth 20000 in
theorem qr_Parse_x1 : SemOk Tryd.prog (at' (bodyOf Tryd.f11) [1, 1, 1, 1]) qr_Parse_X1 :=
  (SemOk.wk (N := 134) (ds := qr_Parse_d1) (dx := qr_Parse_dx1) (ex_sound tb_M tb_ok qr_Parse_Gok (qr_Parse_b0) (at' (bodyOf Tryd.f11) [1, 1, 1, 1]) [1, 1, 1, 1] rfl (storesC_at qr_Parse_st [1, 1, 1, 1]))).mono fun st k h => ckD_mono h fun v hv hw => Eq.mpr (qr_Parse_v1 k v) (hv hw)
def qr_Parse_B1 : Labs := ([1, 1, 1, 1], qr_Parse_X1) :: qr_Parse_B0
theorem qr_Parse_b1 : LabsOk Tryd.prog (bodyOf Tryd.f11) qr_Parse_B1 := LabsOk.cons qr_Parse_x1 (qr_Parse_b0)
def qr_Parse_raw (all0 : List Int) (K : Res → List Cell → Prop) : Prop :=
 bif (!decide (all0 = ([] : List Int))) then
 bif decide (0 ≤ (0 : Int) ∧ (0 : Int) < (List.length all0 : Int)) then
 bif (decide ((rd (0 : Int) all0 (0 : Int)) = (34 : Int))) then
 bif (decide ((List.length all0 : Int) = (1 : Int))) then
 K (.tup [.v (.st (.pair (.int .u8) (.pair (.int .i64) (.pair (.str) (.pair (.str) (.pair (.int .u8) (.sl (.int .u8)))))))) ((0 : Int), (0 : Int), ([] : List Int), ([] : List Int), (0 : Int), ([] : List Int)), .v (.int .i64) (0 : Int)]) []
 else
 bif decide (0 ≤ (1 : Int) ∧ (1 : Int) < (List.length all0 : Int)) then
 ∀ (r1 : Bool), r1 = qr_isReg_F (rd (0 : Int) all0 (1 : Int)) → (
 wfR (.one (.v (.bool) r1)) → (
 bif (!r1) then
 K (.tup [.v (.st (.pair (.int .u8) (.pair (.int .i64) (.pair (.str) (.pair (.str) (.pair (.int .u8) (.sl (.int .u8)))))))) ((0 : Int), (0 : Int), ([] : List Int), ([] : List Int), (0 : Int), ([] : List Int)), .v (.int .i64) (2 : Int)]) []
 else
 bif decide (0 ≤ (1 : Int) ∧ (1 : Int) < (List.length all0 : Int)) then
 bif decide (0 ≤ (2 : Int) ∧ (2 : Int) ≤ (List.length all0 : Int)) then
 (wfD qr_Parse_d1 ((List.drop (Int.toNat (2 : Int)) all0), ((0 : Int), (0 : Int), ([] : List Int), ([] : List Int), (0 : Int), ([] : List Int)), ((rd (0 : Int) all0 (1 : Int)), (0 : Int), ([] : List Int), ([] : List Int), (0 : Int), ([] : List Int)), ()) → qr_Parse_J1 (fun (x3 : Int) (x2b : CmT) => wfD qr_Parse_d1r (x3, x2b, ()) → (
 K (.tup [.v (.st (.pair (.int .u8) (.pair (.int .i64) (.pair (.str) (.pair (.str) (.pair (.int .u8) (.sl (.int .u8)))))))) x2b, .v (.int .i64) x3]) [])) (List.drop (Int.toNat (2 : Int)) all0) ((0 : Int), (0 : Int), ([] : List Int), ([] : List Int), (0 : Int), ([] : List Int)) ((rd (0 : Int) all0 (1 : Int)), (0 : Int), ([] : List Int), ([] : List Int), (0 : Int), ([] : List Int)))
 else False
 else False))
 else False
 else
 (wfD qr_Parse_d1 (all0, ((0 : Int), (0 : Int), ([] : List Int), ([] : List Int), (0 : Int), ([] : List Int)), ((0 : Int), (0 : Int), ([] : List Int), ([] : List Int), (0 : Int), ([] : List Int)), ()) → qr_Parse_J1 (fun (x3 : Int) (x2b : CmT) => wfD qr_Parse_d1r (x3, x2b, ()) → (
 K (.tup [.v (.st (.pair (.int .u8) (.pair (.int .i64) (.pair (.str) (.pair (.str) (.pair (.int .u8) (.sl (.int .u8)))))))) x2b, .v (.int .i64) x3]) [])) all0 ((0 : Int), (0 : Int), ([] : List Int), ([] : List Int), (0 : Int), ([] : List Int)) ((0 : Int), (0 : Int), ([] : List Int), ([] : List Int), (0 : Int), ([] : List Int)))
 else False
 else
 (wfD qr_Parse_d1 (all0, ((0 : Int), (0 : Int), ([] : List Int), ([] : List Int), (0 : Int), ([] : List Int)), ((0 : Int), (0 : Int), ([] : List Int), ([] : List Int), (0 : Int), ([] : List Int)), ()) → qr_Parse_J1 (fun (x3 : Int) (x2b : CmT) => wfD qr_Parse_d1r (x3, x2b, ()) → (
 K (.tup [.v (.st (.pair (.int .u8) (.pair (.int .i64) (.pair (.str) (.pair (.str) (.pair (.int .u8) (.sl (.int .u8)))))))) x2b, .v (.int .i64) x3]) [])) all0 ((0 : Int), (0 : Int), ([] : List Int), ([] : List Int), (0 : Int), ([] : List Int)) ((0 : Int), (0 : Int), ([] : List Int), ([] : List Int), (0 : Int), ([] : List Int)))
def qr_Parse_A : List AS := [.v (.sl (.int .u8))]
theorem qr_Parse_walk (all0 : List Int) (K : Res → List Cell → Prop) : runF tb (getG qr_Parse_G) qr_Parse_B1 Tryd.f11 [true, true] (mkA qr_Parse_A (all0, ())) K = qr_Parse_raw all0 K := by kernel_rfl
/-- the operator that stands at the head -/
def opOf (keys : List Int) : List (List Int) → Option (List Int)
  | [] => none
  | o :: r => if o.length ≤ keys.length ∧ keys.take o.length = o then some o else opOf keys r
abbrev Cmd' := Int × Int × List Int × List Int × Int × List Int
def qr_Parse_L0_P (keys : List Int) (bare wth ops : List (List Int)) (i : Int) (_ c : Cmd') : Prop :=
 i = 0 ∧ ops.length ≤ 100 ∧ ∀ o, opOf keys ops = some o → qr_behind_P c o (keys.drop o.length) bare wth
def qr_Parse_L0_F (keys : List Int) (bare wth ops : List (List Int)) (_ : Int) (x c : Cmd') : (Int × Cmd') ⊕ (List Int × List (List Int) × List (List Int) × List (List Int) × Cmd' × Cmd') :=
 match opOf keys ops with
 | some o => .inl ((qr_behind_F c o (keys.drop o.length) bare wth).2, (qr_behind_F c o (keys.drop o.length) bare wth).1)
 | none => .inr (keys, bare, wth, ops, x, c)
theorem qr_Parse_l0 (kr : Int → Cmd' → Prop) (kx0 : List Int → List (List Int) → List (List Int) → List (List Int) → Cmd' → Cmd' → Prop) (keys : List Int) (bare wth ops : List (List Int)) (x c : Cmd') (ho : ops.length ≤ 100) :
    ∀ (m i : Nat), i ≤ ops.length → ops.length - i < m → (∀ o, opOf keys (ops.drop i) = some o → qr_behind_P c o (keys.drop o.length) bare wth) →
      (∀ o, opOf keys (ops.drop i) = some o → kr (qr_behind_F c o (keys.drop o.length) bare wth).2 (qr_behind_F c o (keys.drop o.length) bare wth).1) →
      (opOf keys (ops.drop i) = none → kx0 keys bare wth ops x c) → qr_Parse_L0 kr kx0 m keys bare wth ops (i : Int) x c
  | 0, _, _, h, _, _, _ => absurd h (Nat.not_lt_zero _)
  | m + 1, i, hi, hm, hP, hr, hn => by
    intro _
    unfold qr_Parse_T0
    refine brn (fun hlt => ?_) (fun hge => ?_)
    · have hil : i < ops.length := by omega
      have hd : ops.drop i = ops[i] :: ops.drop (i + 1) := List.drop_eq_getElem_cons hil
      rw [rd_nat [] ops i hil, wrap_i64 (n := (i : Int) + 1) (by omega) (by omega), show (i : Int) + 1 = ((i + 1 : Nat) : Int) by omega]
      rw [hd] at hP hr hn
      generalize ops[i] = o at hP hr hn
      unfold opOf at hP hr hn
      have A1 : 0 ≤ (i : Int) ∧ (i : Int) < (List.length ops : Int) := ⟨by omega, by omega⟩
      have tk : Int.toNat (List.length o : Int) = o.length := by omega
      rw [tk]
      refine asrt A1 (brn (fun hle => ?_) (fun hgt => ?_))
      · have A2 : 0 ≤ (List.length o : Int) ∧ (List.length o : Int) ≤ (List.length keys : Int) := ⟨by omega, hle⟩
        by_cases ht : keys.take o.length = o
        · have hc : o.length ≤ keys.length ∧ keys.take o.length = o := ⟨by omega, ht⟩
          rw [if_pos hc] at hP hr
          have hP := hP o rfl
          have hr := hr o rfl
          have hdt : decide (keys.take o.length = o) = true := by simpa using ht
          rw [hdt]
          simp only [cond_true]
          repeat' (first | exact trivial | refine asrt A1 ?_ | refine asrt A2 ?_ | exact ⟨hP, fun r hrr _ => by rw [hrr]; exact hr⟩ | refine ⟨?_, ?_⟩)
        · have hc : ¬ (o.length ≤ keys.length ∧ keys.take o.length = o) := fun hh => ht hh.2
          rw [if_neg hc] at hP hr hn
          have hdt : decide (keys.take o.length = o) = false := by simpa using ht
          rw [hdt]
          simp only [cond_false]
          have leaf : qr_Parse_L0 kr kx0 m keys bare wth ops ((i + 1 : Nat) : Int) x c := qr_Parse_l0 kr kx0 keys bare wth ops x c ho m (i + 1) (by omega) (by omega) hP hr hn
          repeat' (first | exact trivial | exact leaf | refine asrt A1 ?_ | refine asrt A2 ?_ | refine ⟨?_, ?_⟩)
      · have hc : ¬ (o.length ≤ keys.length ∧ keys.take o.length = o) := fun hh => hgt (by omega)
        rw [if_neg hc] at hP hr hn
        exact qr_Parse_l0 kr kx0 keys bare wth ops x c ho m (i + 1) (by omega) (by omega) hP hr hn
    · have : i = ops.length := by omega
      subst this
      exact hn (by simp [opOf])
theorem qr_Parse_L0_sp (kr : Int → Cmd' → Prop) (kx0 : List Int → List (List Int) → List (List Int) → List (List Int) → Cmd' → Cmd' → Prop) (keys4 : List Int) (bare8 with9 ops10 : List (List Int)) (i11 : Int) (x2b c5b : Cmd')
    (hp : qr_Parse_L0_P keys4 bare8 with9 ops10 i11 x2b c5b)
    (hr : ∀ q : Int × Cmd', qr_Parse_L0_F keys4 bare8 with9 ops10 i11 x2b c5b = .inl q → kr q.1 q.2)
    (hx : ∀ q : List Int × List (List Int) × List (List Int) × List (List Int) × Cmd' × Cmd', qr_Parse_L0_F keys4 bare8 with9 ops10 i11 x2b c5b = .inr q → kx0 q.1 q.2.1 q.2.2.1 q.2.2.2.1 q.2.2.2.2.1 q.2.2.2.2.2) :
    ∃ n, qr_Parse_L0 kr kx0 n keys4 bare8 with9 ops10 i11 x2b c5b := by
  obtain ⟨rfl, ho, hP⟩ := hp
  refine ⟨ops10.length + 1, qr_Parse_l0 kr kx0 keys4 bare8 with9 ops10 x2b c5b ho (ops10.length + 1) 0 (Nat.zero_le _) (by omega) hP (fun o h => hr (_, _) ?_) (fun h => hx (_, _, _, _, _, _) ?_)⟩
  · unfold qr_Parse_L0_F
    rw [List.drop_zero] at h
    rw [h]
  · unfold qr_Parse_L0_F
    rw [List.drop_zero] at h
    rw [h]

def qr_Parse_J1_P (keys4 : List Int) (x2b : CmT) (c5b : CmT) : Prop :=
 qr_number_P keys4 ∧ (
 let r2 : Int × Int := qr_number_F keys4
 (0 ≤ r2.2 ∧ r2.2 ≤ (List.length keys4 : Int)) ∧ (
 bif (decide ((List.drop (Int.toNat r2.2) keys4) = ([] : List Int))) then
 True
 else
 qr_motions_P  ∧ (
 let r3 : List (List Int) × List (List Int) := qr_motions_F
 qr_operators_P  ∧ (
 let r4 : List (List Int) := qr_operators_F
 qr_Parse_L0_P (List.drop (Int.toNat r2.2) keys4) r3.1 r3.2 r4 (0 : Int) x2b (c5b.1, r2.1, c5b.2.2.1, c5b.2.2.2.1, c5b.2.2.2.2.1, c5b.2.2.2.2.2) ∧ (
 Sum.elim (fun q0r =>
 True) (fun q0x0 =>
 let keys4 : List Int := q0x0.1
 let bare8 : List (List Int) := q0x0.2.1
 let with9 : List (List Int) := q0x0.2.2.1
 let ops10 : List (List Int) := q0x0.2.2.2.1
 let x2b : CmT := q0x0.2.2.2.2.1
 let c5b : CmT := q0x0.2.2.2.2.2
 qr_plains_P  ∧ (
 let r41 : List (List Int) × List (List Int) := qr_plains_F
 (List.length bare8 + List.length r41.1 ≤ lim) ∧ (
 (List.length with9 + List.length r41.2 ≤ lim) ∧ (
 qr_known_P keys4 (bare8 ++ r41.1) (with9 ++ r41.2))))) (qr_Parse_L0_F (List.drop (Int.toNat r2.2) keys4) r3.1 r3.2 r4 (0 : Int) x2b (c5b.1, r2.1, c5b.2.2.1, c5b.2.2.2.1, c5b.2.2.2.2.1, c5b.2.2.2.2.2)))))))
def qr_Parse_J1_F (keys4 : List Int) (x2b : CmT) (c5b : CmT) : Int × CmT :=
 let r2 : Int × Int := qr_number_F keys4
 bif (decide ((List.drop (Int.toNat r2.2) keys4) = ([] : List Int))) then
 ((0 : Int), ((0 : Int), (0 : Int), ([] : List Int), ([] : List Int), (0 : Int), ([] : List Int)))
 else
 let r3 : List (List Int) × List (List Int) := qr_motions_F
 let r4 : List (List Int) := qr_operators_F
 Sum.elim (fun q0r =>
 let x3 : Int := q0r.1
 let x2b : CmT := q0r.2
 (x3, x2b)) (fun q0x0 =>
 let keys4 : List Int := q0x0.1
 let bare8 : List (List Int) := q0x0.2.1
 let with9 : List (List Int) := q0x0.2.2.1
 let ops10 : List (List Int) := q0x0.2.2.2.1
 let x2b : CmT := q0x0.2.2.2.2.1
 let c5b : CmT := q0x0.2.2.2.2.2
 let r41 : List (List Int) × List (List Int) := qr_plains_F
 let r42 : Int × List Int × Int := qr_known_F keys4 (bare8 ++ r41.1) (with9 ++ r41.2)
 bif (decide (r42.1 = (0 : Int))) then
 let r43 : Int × List Int := qr_found_F keys4 ops10
 let r44 : CmT × Int := qr_told_F c5b r43.1 r42.2.1 r42.2.2
 (r44.2, r44.1)
 else
 let r45 : CmT × Int := qr_told_F c5b r42.1 r42.2.1 r42.2.2
 (r45.2, r45.1)) (qr_Parse_L0_F (List.drop (Int.toNat r2.2) keys4) r3.1 r3.2 r4 (0 : Int) x2b (c5b.1, r2.1, c5b.2.2.1, c5b.2.2.2.1, c5b.2.2.2.2.1, c5b.2.2.2.2.2))
set_option maxRecDepth 20000 in
theorem qr_Parse_J1_sp (kr : Int → CmT → Prop) (keys4 : List Int) (x2b : CmT) (c5b : CmT) (hp : qr_Parse_J1_P keys4 x2b c5b) (hr : ∀ q : Int × CmT, q = qr_Parse_J1_F keys4 x2b c5b → kr q.1 q.2) : qr_Parse_J1 kr keys4 x2b c5b := by
  unfold qr_Parse_J1
  unfold qr_Parse_J1_P at hp
  refine ⟨hp.1, ?_⟩
  replace hp := hp.2
  intro r2 hr2
  subst hr2
  intro _
  refine asrt hp.1 ?_
  replace hp := hp.2
  refine brb (fun c_1 => ?_) (fun c_1 => ?_)
  ·
    clear hp
    have e := hr _ ((ctrue c_1) : qr_Parse_J1_F keys4 x2b c5b = _).symm
    exact e
  ·
    replace hp := cF c_1 hp
    refine ⟨hp.1, ?_⟩
    replace hp := hp.2
    intro r3 hr3
    subst hr3
    intro _
    refine ⟨hp.1, ?_⟩
    replace hp := hp.2
    intro r4 hr4
    subst hr4
    intro _
    refine fun _ => qr_Parse_L0_sp _ _ _ _ _ _ _ _ _ hp.1 (fun q hq => ?_) (fun q hq => ?_)
    ·
      have e_2 := hq
      intro _
      clear hp
      have e := hr _ ((Eq.trans (cfalse c_1) (selL e_2)) : qr_Parse_J1_F keys4 x2b c5b = _).symm
      exact e
    ·
      have e_3 := hq
      intro _
      replace hp := hp.2
      replace hp := cR e_3 hp
      refine ⟨hp.1, ?_⟩
      replace hp := hp.2
      intro r41 hr41
      subst hr41
      intro _
      refine asrt hp.1 ?_
      replace hp := hp.2
      refine asrt hp.1 ?_
      replace hp := hp.2
      refine ⟨hp, ?_⟩
      intro r42 hr42
      subst hr42
      intro _
      refine brb (fun c_4 => ?_) (fun c_4 => ?_)
      ·
        intro r43 hr43
        subst hr43
        intro _
        intro r44 hr44
        subst hr44
        intro _
        have e := hr _ ((Eq.trans (cfalse c_1) (Eq.trans (selR e_3) (ctrue c_4))) : qr_Parse_J1_F keys4 x2b c5b = _).symm
        exact e
      ·
        intro r45 hr45
        subst hr45
        intro _
        have e := hr _ ((Eq.trans (cfalse c_1) (Eq.trans (selR e_3) (cfalse c_4))) : qr_Parse_J1_F keys4 x2b c5b = _).symm
        exact e
def qr_Parse_P (all0 : List Int) : Prop :=
 bif (!decide (all0 = ([] : List Int))) then
 (0 ≤ (0 : Int) ∧ (0 : Int) < (List.length all0 : Int)) ∧ (
 bif (decide ((rd (0 : Int) all0 (0 : Int)) = (34 : Int))) then
 bif (decide ((List.length all0 : Int) = (1 : Int))) then
 True
 else
 (0 ≤ (1 : Int) ∧ (1 : Int) < (List.length all0 : Int)) ∧ (
 let r1 : Bool := qr_isReg_F (rd (0 : Int) all0 (1 : Int))
 bif (!r1) then
 True
 else
 (0 ≤ (1 : Int) ∧ (1 : Int) < (List.length all0 : Int)) ∧ (
 (0 ≤ (2 : Int) ∧ (2 : Int) ≤ (List.length all0 : Int)) ∧ (
 qr_Parse_J1_P (List.drop (Int.toNat (2 : Int)) all0) ((0 : Int), (0 : Int), ([] : List Int), ([] : List Int), (0 : Int), ([] : List Int)) ((rd (0 : Int) all0 (1 : Int)), (0 : Int), ([] : List Int), ([] : List Int), (0 : Int), ([] : List Int)))))
 else
 qr_Parse_J1_P all0 ((0 : Int), (0 : Int), ([] : List Int), ([] : List Int), (0 : Int), ([] : List Int)) ((0 : Int), (0 : Int), ([] : List Int), ([] : List Int), (0 : Int), ([] : List Int)))
 else
 qr_Parse_J1_P all0 ((0 : Int), (0 : Int), ([] : List Int), ([] : List Int), (0 : Int), ([] : List Int)) ((0 : Int), (0 : Int), ([] : List Int), ([] : List Int), (0 : Int), ([] : List Int))
def qr_Parse_F (all0 : List Int) : CmT × Int :=
 bif (!decide (all0 = ([] : List Int))) then
 bif (decide ((rd (0 : Int) all0 (0 : Int)) = (34 : Int))) then
 bif (decide ((List.length all0 : Int) = (1 : Int))) then
 (((0 : Int), (0 : Int), ([] : List Int), ([] : List Int), (0 : Int), ([] : List Int)), (0 : Int))
 else
 let r1 : Bool := qr_isReg_F (rd (0 : Int) all0 (1 : Int))
 bif (!r1) then
 (((0 : Int), (0 : Int), ([] : List Int), ([] : List Int), (0 : Int), ([] : List Int)), (2 : Int))
 else
 let q1r : Int × CmT := qr_Parse_J1_F (List.drop (Int.toNat (2 : Int)) all0) ((0 : Int), (0 : Int), ([] : List Int), ([] : List Int), (0 : Int), ([] : List Int)) ((rd (0 : Int) all0 (1 : Int)), (0 : Int), ([] : List Int), ([] : List Int), (0 : Int), ([] : List Int))
 let x3 : Int := q1r.1
 let x2b : CmT := q1r.2
 (x2b, x3)
 else
 let q1r : Int × CmT := qr_Parse_J1_F all0 ((0 : Int), (0 : Int), ([] : List Int), ([] : List Int), (0 : Int), ([] : List Int)) ((0 : Int), (0 : Int), ([] : List Int), ([] : List Int), (0 : Int), ([] : List Int))
 let x3 : Int := q1r.1
 let x2b : CmT := q1r.2
 (x2b, x3)
 else
 let q1r : Int × CmT := qr_Parse_J1_F all0 ((0 : Int), (0 : Int), ([] : List Int), ([] : List Int), (0 : Int), ([] : List Int)) ((0 : Int), (0 : Int), ([] : List Int), ([] : List Int), (0 : Int), ([] : List Int))
 let x3 : Int := q1r.1
 let x2b : CmT := q1r.2
 (x2b, x3)
set_option maxRecDepth 20000 in
theorem qr_Parse_sp (all0 : List Int) (K : Res → List Cell → Prop) (_ : wfA qr_Parse_A (all0, ())) (hp : qr_Parse_P all0) (h : ∀ r : CmT × Int, r = qr_Parse_F all0 → K (.tup [.v (.st (.pair (.int .u8) (.pair (.int .i64) (.pair (.str) (.pair (.str) (.pair (.int .u8) (.sl (.int .u8)))))))) r.1, .v (.int .i64) r.2]) []) : qr_Parse_raw all0 K := by
  unfold qr_Parse_raw
  unfold qr_Parse_P at hp
  refine brb (fun c_5 => ?_) (fun c_5 => ?_)
  ·
    replace hp := cT c_5 hp
    refine asrt hp.1 ?_
    replace hp := hp.2
    refine brb (fun c_6 => ?_) (fun c_6 => ?_)
    ·
      replace hp := cT c_6 hp
      refine brb (fun c_7 => ?_) (fun c_7 => ?_)
      ·
        clear hp
        have e := h _ ((Eq.trans (ctrue c_5) (Eq.trans (ctrue c_6) (ctrue c_7))) : qr_Parse_F all0 = _).symm
        exact e
      ·
        replace hp := cF c_7 hp
        refine asrt hp.1 ?_
        replace hp := hp.2
        intro r1 hr1
        subst hr1
        intro _
        refine brb (fun c_8 => ?_) (fun c_8 => ?_)
        ·
          clear hp
          have e := h _ ((Eq.trans (ctrue c_5) (Eq.trans (ctrue c_6) (Eq.trans (cfalse c_7) (ctrue c_8)))) : qr_Parse_F all0 = _).symm
          exact e
        ·
          replace hp := cF c_8 hp
          refine asrt hp.1 ?_
          replace hp := hp.2
          refine asrt hp.1 ?_
          replace hp := hp.2
          refine fun _ => qr_Parse_J1_sp _ _ _ _ hp (fun q hq => ?_)
          subst hq
          intro _
          clear hp
          have e := h _ ((Eq.trans (ctrue c_5) (Eq.trans (ctrue c_6) (Eq.trans (cfalse c_7) (cfalse c_8)))) : qr_Parse_F all0 = _).symm
          exact e
    ·
      replace hp := cF c_6 hp
      refine fun _ => qr_Parse_J1_sp _ _ _ _ hp (fun q hq => ?_)
      subst hq
      intro _
      clear hp
      have e := h _ ((Eq.trans (ctrue c_5) (cfalse c_6)) : qr_Parse_F all0 = _).symm
      exact e
  ·
    replace hp := cF c_5 hp
    refine fun _ => qr_Parse_J1_sp _ _ _ _ hp (fun q hq => ?_)
    subst hq
    intro _
    clear hp
    have e := h _ ((cfalse c_5) : qr_Parse_F all0 = _).symm
    exact e
def qr_Parse_C (v : valsA qr_Parse_A) (K : Res → List Cell → Prop) : Prop := qr_Parse_P v.1 ∧ ∀ r : CmT × Int, r = qr_Parse_F v.1 → K (.tup [.v (.st (.pair (.int .u8) (.pair (.int .i64) (.pair (.str) (.pair (.str) (.pair (.int .u8) (.sl (.int .u8)))))))) r.1, .v (.int .i64) r.2]) []
def qr_Parse_S : App := specW qr_Parse_A qr_Parse_C
theorem qr_Parse_wv (K : Res → List Cell → Prop) : ∀ v : valsA qr_Parse_A, runF tb (getG qr_Parse_G) qr_Parse_B1 Tryd.f11 [true, true] (mkA qr_Parse_A v) K = qr_Parse_raw v.1 K
  | (all0, ()) => qr_Parse_walk all0 K
set_option maxRecDepth 20000 in
theorem qr_Parse_ok : AppOk Tryd.prog 11 qr_Parse_S :=
  AppOk.specW (spec_ok (runF_ok tb_M tb_ok qr_Parse_Gok (qr_Parse_b1) (f := 11) (fn := Tryd.f11) (by kernel_rfl) (by kernel_rfl) qr_Parse_st [true, true]) fun v K hw h => (qr_Parse_wv K v).mpr (qr_Parse_sp v.1 K hw h.1 h.2))

end Go.VE
namespace Go.VE
open Go Go.Proofs

def bareL : List (List Int) := qr_motions_F.1
def withL : List (List Int) := qr_motions_F.2
def plainB : List (List Int) := qr_plains_F.1
def plainW : List (List Int) := qr_plains_F.2
def opsL : List (List Int) := qr_operators_F
def objsL : List (List Int) := qr_objects_F

theorem ops_eq : opsL = [[100], [99], [121], [62], [60], [103, 126], [103, 117], [103, 85]] := by kernel_rfl
theorem with_eq : withL = [[102], [70], [116], [84], [39], [96]] := by kernel_rfl
theorem plainW_eq : plainW = [[114], [109]] := by kernel_rfl

/-- names are short -/
theorem bare_short : ∀ n ∈ bareL ++ plainB, 1 ≤ n.length ∧ n.length ≤ 2 := by decide +kernel
theorem bare1_short : ∀ n ∈ bareL ++ objsL, 1 ≤ n.length ∧ n.length ≤ 2 := by decide +kernel
theorem with_one : ∀ n ∈ withL ++ plainW, n.length = 1 := by decide +kernel

/-- keys that are as long as any name: they are one, or nothing -/
theorem found_long (keys : List Int) : ∀ (N : List (List Int)) (st : Int), (∀ n ∈ N, n.length ≤ keys.length) → foundL keys st N = if keys ∈ N then (2, qr_key_F keys) else (st, [])
  | [], st, _ => by simp [foundL]
  | n :: r, st, h => by
    unfold foundL
    by_cases he : n = keys
    · rw [if_pos he, if_pos (by simp [he]), he]
    · rw [if_neg he, if_neg (fun hh => by have := h n List.mem_cons_self; omega), found_long keys r st (fun x hx => h x (List.mem_cons_of_mem _ hx))]
      have : keys ∈ n :: r ↔ keys ∈ r := by simp [Ne.symm he]
      simp only [this]

theorem key_two (b d : Int) : qr_key_F [b, d] = [b, d] := by
  unfold qr_key_F
  simp
theorem key_one {b : Int} (h1 : b ≠ 127) (h2 : b ≠ 10) : qr_key_F [b] = [b] := by
  unfold qr_key_F
  simp [h1, h2]

/-! ### known, by the keys' length -/
theorem lastI (s : List Int) (h : 0 < s.length) (hl : s.length ≤ 1099511627776) : IntKind.wrap .i64 ((List.length s : Int) - (1 : Int)) = ((s.length - 1 : Nat) : Int) := by
  rw [wrap_i64 (by omega) (by omega)]; omega

theorem known3 {s : List Int} (hs : 3 ≤ s.length) (hl : s.length ≤ 1099511627776) {N W : List (List Int)} (hN : ∀ n ∈ N, n.length ≤ 2) (hW : ∀ n ∈ W, n.length = 1) : qr_known_F s N W = (0, [], 0) := by
  have f1 : qr_found_F s N = (0, []) := by
    unfold qr_found_F
    rw [found_long s N 0 (fun n hn => by have := hN n hn; omega), if_neg (fun hm => by have := hN _ hm; omega)]
  have f2 : qr_found_F s W = (0, []) := by
    unfold qr_found_F
    rw [found_long s W 0 (fun n hn => by have := hW n hn; omega), if_neg (fun hm => by have := hW _ hm; omega)]
  have f3 : qr_found_F (s.take (s.length - 1)) W = (0, []) := by
    have hlen : (s.take (s.length - 1)).length = s.length - 1 := by rw [List.length_take]; omega
    unfold qr_found_F
    rw [found_long _ W 0 (fun n hn => by have := hW n hn; omega), if_neg (fun hm => by have := hW _ hm; omega)]
  unfold qr_known_F
  rw [f1, f2, lastI s (by omega) hl, Int.toNat_natCast, f3]
  have hp : decide ((0 : Int) < (s.length : Int)) = true := by simp; omega
  rw [hp]
  simp only [cond_true]
  cases (!decide (rd 0 s ((s.length - 1 : Nat) : Int) = 27)) <;> rfl

theorem known2 {b d : Int} {N W : List (List Int)} (hN : ∀ n ∈ N, n.length ≤ 2) (hW : ∀ n ∈ W, n.length = 1) (hk : [b] ∈ W → b ≠ 127 ∧ b ≠ 10) :
    qr_known_F [b, d] N W = if [b, d] ∈ N then (2, [b, d], 0) else if [b] ∈ W ∧ d ≠ 27 then (2, [b], d) else (0, [], 0) := by
  have f1 : qr_found_F [b, d] N = if [b, d] ∈ N then (2, [b, d]) else (0, []) := by
    unfold qr_found_F
    rw [found_long [b, d] N 0 (fun n hn => hN n hn), key_two]
  have f2 : qr_found_F [b, d] W = (0, []) := by
    unfold qr_found_F
    rw [found_long [b, d] W 0 (fun n hn => by have := hW n hn; simp; omega), if_neg (fun hm => by have := hW _ hm; simp at this)]
  have f3 : qr_found_F [b] W = if [b] ∈ W then (2, [b]) else (0, []) := by
    unfold qr_found_F
    rw [found_long [b] W 0 (fun n hn => by have := hW n hn; simp; omega)]
    by_cases hm : [b] ∈ W
    · rw [if_pos hm, if_pos hm, key_one (hk hm).1 (hk hm).2]
    · rw [if_neg hm, if_neg hm]
  unfold qr_known_F
  rw [f1, f2]
  by_cases h1 : [b, d] ∈ N
  · rw [if_pos h1, if_pos h1]; rfl
  · rw [if_neg h1, if_neg h1]
    have e1 : IntKind.wrap .i64 ((List.length [b, d] : Int) - (1 : Int)) = 1 := by
      show IntKind.wrap .i64 ((2 : Int) - 1) = 1
      decide
    rw [e1]
    show (bif (!decide (d = 27)) then (bif decide ((qr_found_F [b] W).1 = 2) then ((2 : Int), (qr_found_F [b] W).2, d) else (0, [], 0)) else (0, [], 0)) = _
    rw [f3]
    by_cases h2 : [b] ∈ W
    · by_cases h3 : d = 27
      · simp [h2, h3]
      · simp [h2, h3]
    · simp [h2]
end Go.VE
namespace Go.VE
open Go Go.Proofs

theorem mem_len {s : List Int} {N : List (List Int)} : s ∈ N ↔ s ∈ N.filter fun n => n.length == s.length := by
  rw [List.mem_filter]; simp

theorem mem2_0 (b d : Int) : [b, d] ∈ bareL ++ plainB ↔ b = 103 ∧ (d = 103 ∨ d = 101 ∨ d = 69 ∨ d = 45 ∨ d = 43) := by
  rw [mem_len]
  have e : ((bareL ++ plainB).filter fun n => n.length == [b, d].length) = [[103, 103], [103, 101], [103, 69], [103, 45], [103, 43]] := by
    show ((bareL ++ plainB).filter fun n => n.length == 2) = _
    kernel_rfl
  rw [e]
  simp only [List.mem_cons, List.not_mem_nil, or_false, List.cons.injEq, and_true]
  omega

theorem mem2_1 (b d : Int) : [b, d] ∈ bareL ++ objsL ↔ b = 103 ∧ (d = 103 ∨ d = 101 ∨ d = 69) ∨ (b = 105 ∨ b = 97) ∧ d ∈ objectsL := by
  rw [mem_len]
  have e : ((bareL ++ objsL).filter fun n => n.length == [b, d].length) = [[103, 103], [103, 101], [103, 69]] ++ objL (objectsL.map fun x => [x]) := by
    show ((bareL ++ objsL).filter fun n => n.length == 2) = _
    kernel_rfl
  have o : ∀ l : List Int, [b, d] ∈ objL (l.map fun x => [x]) ↔ (b = 105 ∨ b = 97) ∧ d ∈ l := by
    intro l
    induction l with
    | nil => simp [objL]
    | cons x l ih =>
      simp only [List.map_cons, objL, List.mem_cons, ih, List.cons_append, List.nil_append, List.cons.injEq, and_true]
      constructor
      · rintro (⟨h1, h2⟩ | ⟨h1, h2⟩ | ⟨h1, h2⟩)
        · exact ⟨.inl h1, .inl h2⟩
        · exact ⟨.inr h1, .inl h2⟩
        · exact ⟨h1, .inr h2⟩
      · rintro ⟨h1 | h1, h2 | h2⟩
        · exact .inl ⟨h1, h2⟩
        · exact .inr (.inr ⟨.inl h1, h2⟩)
        · exact .inr (.inl ⟨h1, h2⟩)
        · exact .inr (.inr ⟨.inr h1, h2⟩)
  rw [e, List.mem_append, o]
  simp only [List.mem_cons, List.not_mem_nil, or_false, List.cons.injEq, and_true]
  constructor
  · rintro (h | h)
    · left; omega
    · exact .inr h
  · rintro (h | h)
    · left; omega
    · exact .inr h

theorem memW (b : Int) : [b] ∈ withL ↔ b ∈ markedL := by
  rw [with_eq]
  simp only [markedL, List.mem_cons, List.not_mem_nil, or_false, List.cons.injEq, and_true]
  omega
theorem memW0 (b : Int) : [b] ∈ withL ++ plainW ↔ b ∈ markedL ∨ b = 114 ∨ b = 109 := by
  rw [List.mem_append, memW, plainW_eq]
  simp

/-! ### one key -/
def tabM (b : Int) : Int × List Int × Int :=
  if b = 127 then (2, [8], 0) else if b = 10 then (2, [13], 0) else if b = 8 ∨ b = 13 ∨ b ∈ singlesL then (2, [b], 0) else if b = 47 ∨ b = 63 then (2, [b], 0)
  else if b ∈ markedL then (1, [], 0) else if b = 103 then (1, [], 0) else (0, [], 0)
def tab0 (b : Int) : Int × List Int × Int :=
  if b = 58 then (2, [58], 0) else if b = 114 ∨ b = 109 then (1, [], 0) else if b = 103 then (1, [], 0) else if b ∈ plainsL then (2, [b], 0) else tabM b
def tab1 (b : Int) : Int × List Int × Int := if b = 105 ∨ b = 97 then (1, [], 0) else tabM b

theorem byte_of {p : Int → Bool} (h : ∀ n : Fin 256, p (n.val : Int) = true) {b : Int} (h0 : 0 ≤ b) (h1 : b ≤ 255) : p b = true := by
  have := h ⟨b.toNat, by omega⟩
  rw [show ((⟨b.toNat, by omega⟩ : Fin 256).val : Int) = b by show (b.toNat : Int) = b; omega] at this
  exact this

theorem one_0 {b : Int} (h0 : 0 ≤ b) (h1 : b ≤ 255) : qr_known_F [b] (bareL ++ plainB) (withL ++ plainW) = tab0 b := by
  have := byte_of (p := fun b => decide (qr_known_F [b] (bareL ++ plainB) (withL ++ plainW) = tab0 b)) (by decide +kernel) h0 h1
  simpa using this
theorem one_1 {b : Int} (h0 : 0 ≤ b) (h1 : b ≤ 255) : qr_known_F [b] (bareL ++ objsL) withL = tab1 b := by
  have := byte_of (p := fun b => decide (qr_known_F [b] (bareL ++ objsL) withL = tab1 b)) (by decide +kernel) h0 h1
  simpa using this
end Go.VE
namespace Go.VE
open Go Go.Proofs

def finR (m : MR) : Cmd × Int := if m.1 = 0 ∨ m.1 = 2 then (zC, m.1) else if m.2.1 ≠ [] then (zC, 2) else (m.2.2, m.1)
theorem finM_eq (s : List Int) (c : Cmd) : finM s c = finR (namedM (s.drop (cntL s 0).2) (setCnt c (cntL s 0).1)) := rfl

def toldF (c : Cmd) (t : Int × List Int × Int) : Cmd × Int := qr_told_F c t.1 t.2.1 t.2.2
theorem told_0 (c : Cmd) (k : List Int) (a : Int) : toldF c (0, k, a) = (zC, 2) := rfl
theorem told_1 (c : Cmd) (k : List Int) (a : Int) : toldF c (1, k, a) = (zC, 0) := rfl
theorem told_2 (c : Cmd) {k : List Int} (a : Int) (h1 : k ≠ [47]) (h2 : k ≠ [63]) (h3 : k ≠ [58]) : toldF c (2, k, a) = ((c.1, c.2.1, c.2.2.1, k, a, c.2.2.2.2.2), 1) := by
  unfold toldF qr_told_F
  simp [h1, h2, h3]
theorem told_3 (c : Cmd) {k : List Int} (a : Int) (h : k = [47] ∨ k = [63] ∨ k = [58]) : toldF c (2, k, a) = ((c.1, c.2.1, c.2.2.1, k, a, c.2.2.2.2.2), 3) := by
  rcases h with rfl | rfl | rfl <;> rfl

theorem key_set {c : Cmd} (hc : c.2.2.2.2.1 = 0) (k : List Int) : setKey c k = (c.1, c.2.1, c.2.2.1, k, 0, c.2.2.2.2.2) := by
  unfold setKey; rw [hc]

theorem fin_whole (c : Cmd) : finR (1, [], c) = (c, 1) := rfl
theorem fin_ask (c : Cmd) : finR (3, [], c) = (c, 3) := rfl
theorem fin_more (s : List Int) (c : Cmd) : finR (0, s, c) = (zC, 0) := rfl
theorem fin_bad (s : List Int) (c : Cmd) : finR (2, s, c) = (zC, 2) := rfl
theorem fin_left {w : Int} (hw : w = 1 ∨ w = 3) {s : List Int} (hs : s ≠ []) (c : Cmd) : finR (w, s, c) = (zC, 2) := by
  unfold finR
  rw [if_neg (by omega), if_pos hs]

theorem singles_not {b : Int} (h : b ∈ singlesL) : b ≠ 47 ∧ b ≠ 63 ∧ b ≠ 58 ∧ b ∉ markedL ∧ b ≠ 103 := by
  have : ∀ x ∈ singlesL, x ≠ 47 ∧ x ≠ 63 ∧ x ≠ 58 ∧ x ∉ markedL ∧ x ≠ 103 := by decide
  exact this b h
theorem marked_not {b : Int} (h : b ∈ markedL) : b ≠ 47 ∧ b ≠ 63 ∧ b ≠ 58 ∧ b ≠ 103 := by
  have : ∀ x ∈ markedL, x ≠ 47 ∧ x ≠ 63 ∧ x ≠ 58 ∧ x ≠ 103 := by decide
  exact this b h
theorem plains_not {b : Int} (h : b ∈ plainsL) : b ≠ 47 ∧ b ≠ 63 ∧ b ≠ 58 ∧ b ∉ markedL ∧ b ≠ 103 ∧ b ≠ 114 ∧ b ≠ 109 := by
  have : ∀ x ∈ plainsL, x ≠ 47 ∧ x ≠ 63 ∧ x ≠ 58 ∧ x ∉ markedL ∧ x ≠ 103 ∧ x ≠ 114 ∧ x ≠ 109 := by decide
  exact this b h
theorem ne1 {b x : Int} (h : b ≠ x) : ([b] : List Int) ≠ [x] := by simpa using h

/-! ### a motion -/
theorem mot1 {c : Cmd} (hc : c.2.2.2.2.1 = 0) (b : Int) : finR (motM [] c b) = toldF c (tabM b) := by
  unfold motM tabM
  by_cases h1 : b = 127
  · rw [if_pos h1, if_pos h1, fin_whole, key_set hc, told_2 c 0 (by decide) (by decide) (by decide)]
  rw [if_neg h1, if_neg h1]
  by_cases h2 : b = 10
  · rw [if_pos h2, if_pos h2, fin_whole, key_set hc, told_2 c 0 (by decide) (by decide) (by decide)]
  rw [if_neg h2, if_neg h2]
  by_cases h3 : b = 8 ∨ b = 13 ∨ b ∈ singlesL
  · have hn : b ≠ 47 ∧ b ≠ 63 ∧ b ≠ 58 := by
      rcases h3 with h3 | h3 | h3
      · omega
      · omega
      · have := singles_not h3; exact ⟨this.1, this.2.1, this.2.2.1⟩
    rw [if_pos h3, if_pos h3, fin_whole, key_set hc, told_2 c 0 (ne1 hn.1) (ne1 hn.2.1) (ne1 hn.2.2)]
  rw [if_neg h3, if_neg h3]
  by_cases h4 : b = 47 ∨ b = 63
  · rw [if_pos h4, if_pos h4, fin_ask, key_set hc, told_3 c 0 (by rcases h4 with rfl | rfl <;> simp)]
  rw [if_neg h4, if_neg h4]
  by_cases h5 : b ∈ markedL
  · rw [if_pos h5, if_pos h5, told_1]; rfl
  rw [if_neg h5, if_neg h5]
  by_cases h6 : b = 103
  · rw [if_pos h6, if_pos h6, told_1]; rfl
  rw [if_neg h6, if_neg h6, fin_bad, told_0]

/-- what two keys come to, as motions -/
def pairM (c : Cmd) (b d : Int) : Cmd × Int :=
  if b = 103 ∧ (d = 103 ∨ d = 101 ∨ d = 69) then ((c.1, c.2.1, c.2.2.1, [b, d], 0, c.2.2.2.2.2), 1) else if b ∈ markedL ∧ d ≠ 27 then ((c.1, c.2.1, c.2.2.1, [b], d, c.2.2.2.2.2), 1) else (zC, 2)

theorem mot2 {c : Cmd} (hc : c.2.2.2.2.1 = 0) (b d : Int) : finR (motM [d] c b) = pairM c b d := by
  unfold motM pairM
  have no : b ≠ 103 → b ∉ markedL → (zC, (2 : Int)) = if b = 103 ∧ (d = 103 ∨ d = 101 ∨ d = 69) then ((c.1, c.2.1, c.2.2.1, [b, d], 0, c.2.2.2.2.2), 1) else if b ∈ markedL ∧ d ≠ 27 then ((c.1, c.2.1, c.2.2.1, [b], d, c.2.2.2.2.2), 1) else (zC, 2) := fun h1 h2 => by
    rw [if_neg (fun h => h1 h.1), if_neg (fun h => h2 h.1)]
  by_cases h1 : b = 127
  · rw [if_pos h1, fin_left (.inl rfl) (by simp)]; exact no (by omega) (by subst h1; decide)
  rw [if_neg h1]
  by_cases h2 : b = 10
  · rw [if_pos h2, fin_left (.inl rfl) (by simp)]; exact no (by omega) (by subst h2; decide)
  rw [if_neg h2]
  by_cases h3 : b = 8 ∨ b = 13 ∨ b ∈ singlesL
  · rw [if_pos h3, fin_left (.inl rfl) (by simp)]
    rcases h3 with h3 | h3 | h3
    · exact no (by omega) (by subst h3; decide)
    · exact no (by omega) (by subst h3; decide)
    · have := singles_not h3; exact no this.2.2.2.2 this.2.2.2.1
  rw [if_neg h3]
  by_cases h4 : b = 47 ∨ b = 63
  · rw [if_pos h4, fin_left (.inr rfl) (by simp)]; exact no (by omega) (by rcases h4 with rfl | rfl <;> decide)
  rw [if_neg h4]
  by_cases h5 : b ∈ markedL
  · rw [if_pos h5, if_neg (fun h => (marked_not h5).2.2.2 h.1)]
    simp only [argM]
    by_cases hd : d = 27
    · rw [if_pos hd, if_neg (fun h => h.2 hd), fin_bad]
    · rw [if_neg hd, if_pos ⟨h5, hd⟩, fin_whole]; rfl
  rw [if_neg h5]
  by_cases h6 : b = 103
  · rw [if_pos h6]
    simp only [gM]
    by_cases hd : d = 103 ∨ d = 101 ∨ d = 69
    · rw [if_pos hd, if_pos ⟨h6, hd⟩, fin_whole, h6]
      unfold setKey; rw [hc]
    · rw [if_neg hd, if_neg (fun h => hd h.2), if_neg (fun h => h5 h.1), fin_bad]
  rw [if_neg h6, fin_bad]; exact no h6 h5

theorem arg3 {r : List Int} (hr : 2 ≤ r.length) (c : Cmd) : finR (argM r c) = (zC, 2) := by
  cases r with
  | nil => simp at hr
  | cons d r' =>
    cases r' with
    | nil => simp at hr
    | cons e r'' =>
      simp only [argM]
      split
      · exact fin_bad _ _
      · exact fin_left (.inl rfl) (by simp) _

theorem mot3 {r : List Int} (hr : 2 ≤ r.length) (c : Cmd) (b : Int) : finR (motM r c b) = (zC, 2) := by
  have hne : r ≠ [] := fun e => by rw [e] at hr; simp at hr
  unfold motM
  split
  · exact fin_left (.inl rfl) hne _
  · split
    · exact fin_left (.inl rfl) hne _
    · split
      · exact fin_left (.inl rfl) hne _
      · split
        · exact fin_left (.inr rfl) hne _
        · split
          · exact arg3 hr _
          · split
            · cases r with
              | nil => exact absurd rfl hne
              | cons d r' =>
                cases r' with
                | nil => simp at hr
                | cons e r'' =>
                  simp only [gM]
                  split
                  · exact fin_left (.inl rfl) (by simp) _
                  · exact fin_bad _ _
            · exact fin_bad _ _

/-! ### behind an operator -/
def IsOp (op : List Int) (l : Int) : Prop := op = [l] ∧ (l = 100 ∨ l = 99 ∨ l = 121 ∨ l = 62 ∨ l = 60) ∨ op = [103, l] ∧ (l = 126 ∨ l = 117 ∨ l = 85)

theorem op_marked {op : List Int} {l : Int} (h : IsOp op l) : l ∉ markedL ∧ l ≠ 103 ∧ l ≠ 105 ∧ l ≠ 97 ∧ l ≠ 101 ∧ l ≠ 69 := by
  have : ∀ x ∈ ([100, 99, 121, 62, 60, 126, 117, 85] : List Int), x ∉ markedL ∧ x ≠ 103 ∧ x ≠ 105 ∧ x ≠ 97 ∧ x ≠ 101 ∧ x ≠ 69 := by decide
  refine this l ?_
  simp only [List.mem_cons, List.not_mem_nil, or_false]
  rcases h with ⟨_, h⟩ | ⟨_, h⟩ <;> omega

theorem op_head {op : List Int} {l : Int} (h : IsOp op l) : rd 0 op 0 = 103 ↔ op = [103, l] := by
  rcases h with ⟨rfl, h⟩ | ⟨rfl, h⟩
  · show l = 103 ↔ _
    simp; omega
  · simp [rd]

/-- what the document says of the keys behind an operator and its count -/
def refW (op s : List Int) (c : Cmd) : Cmd × Int :=
  if (foundL s 0 (qr_doubles_F op)).1 = 2 then (setKey c op, 1)
  else toldF c (if (qr_known_F s (bareL ++ objsL) withL).1 < (foundL s 0 (qr_doubles_F op)).1 then ((foundL s 0 (qr_doubles_F op)).1, (qr_known_F s (bareL ++ objsL) withL).2) else qr_known_F s (bareL ++ objsL) withL)

theorem dbl1 (l : Int) : qr_doubles_F [l] = [[l]] := rfl
theorem dbl2 (l : Int) : qr_doubles_F [103, l] = [[l], [103, l]] := rfl

theorem wrk_ref1 {op : List Int} {l b : Int} (ho : IsOp op l) (h0 : 0 ≤ b) (h1 : b ≤ 255) {c : Cmd} (hc : c.2.2.2.2.1 = 0) (hco : c.2.2.1 = op) : refW op [b] c = finR (wrkM l [b] c) := by
  unfold refW
  rw [one_1 h0 h1]
  simp only [wrkM]
  by_cases hb : b = l
  · have : (foundL [b] 0 (qr_doubles_F op)).1 = 2 := by
      rcases ho with ⟨rfl, _⟩ | ⟨rfl, _⟩
      · rw [dbl1]; unfold foundL; rw [if_pos (by rw [hb])]
      · rw [dbl2]; unfold foundL; rw [if_pos (by rw [hb])]
    rw [if_pos this, if_pos hb, fin_whole, hco]
  rw [if_neg hb]
  have hf : (foundL [b] 0 (qr_doubles_F op)).1 = 0 ∨ (foundL [b] 0 (qr_doubles_F op)).1 = 1 ∧ b = 103 := by
    rcases ho with ⟨rfl, _⟩ | ⟨rfl, _⟩
    · left; rw [dbl1]; unfold foundL; rw [if_neg (fun h => hb (by simpa using h.symm))]; simp [foundL]
    · rw [dbl2]
      unfold foundL; rw [if_neg (fun h => hb (by simpa using h.symm))]
      unfold foundL; rw [if_neg (by simp)]
      by_cases h103 : b = 103
      · right; subst h103; simp [foundL]
      · left; simp [foundL, Ne.symm h103]
  rw [if_neg (by omega)]
  unfold tab1
  have key : toldF c (if (if b = 105 ∨ b = 97 then ((1 : Int), ([] : List Int), (0 : Int)) else tabM b).1 < (foundL [b] 0 (qr_doubles_F op)).1 then ((foundL [b] 0 (qr_doubles_F op)).1, (if b = 105 ∨ b = 97 then ((1 : Int), ([] : List Int), (0 : Int)) else tabM b).2) else (if b = 105 ∨ b = 97 then ((1 : Int), ([] : List Int), (0 : Int)) else tabM b)) = toldF c (if b = 105 ∨ b = 97 then ((1 : Int), ([] : List Int), (0 : Int)) else tabM b) := by
    rcases hf with hf | ⟨hf, h103⟩
    · rw [hf, if_neg]
      have : ∀ x : Int, 0 ≤ (tabM x).1 := fun x => by
        simp only [tabM, apply_ite Prod.fst]
        repeat' split
        all_goals decide
      split
      · decide
      · have := this b; omega
    · subst h103
      rw [hf]
      rfl
  rw [key]
  by_cases h2 : b = 105 ∨ b = 97
  · rw [if_pos h2, if_pos h2, told_1]; rfl
  · rw [if_neg h2, if_neg h2, if_neg (by simp)]
    exact (mot1 hc b).symm

theorem wrk_ref2 {op : List Int} {l b d : Int} (ho : IsOp op l) {c : Cmd} (hc : c.2.2.2.2.1 = 0) (hco : c.2.2.1 = op) : refW op [b, d] c = finR (wrkM l [b, d] c) := by
  have hm := op_marked ho
  have hk : qr_known_F [b, d] (bareL ++ objsL) withL = if [b, d] ∈ bareL ++ objsL then (2, [b, d], 0) else if [b] ∈ withL ∧ d ≠ 27 then (2, [b], d) else (0, [], 0) :=
    known2 (fun n hn => (bare1_short n hn).2) (fun n hn => with_one n (List.mem_append_left _ hn)) (fun h => by
      have := (memW b).1 h
      constructor
      · intro e; subst e; revert this; decide
      · intro e; subst e; revert this; decide)
  simp only [mem2_1, memW] at hk
  have hf : (foundL [b, d] 0 (qr_doubles_F op)).1 = if b = 103 ∧ d = l ∧ op = [103, l] then 2 else 0 := by
    rw [found_long _ _ 0 (fun n hn => by
      rcases ho with ⟨rfl, _⟩ | ⟨rfl, _⟩
      · rw [dbl1] at hn; simp at hn; subst hn; simp
      · rw [dbl2] at hn; simp at hn; rcases hn with rfl | rfl <;> simp)]
    have : [b, d] ∈ qr_doubles_F op ↔ b = 103 ∧ d = l ∧ op = [103, l] := by
      rcases ho with ⟨rfl, _⟩ | ⟨rfl, _⟩
      · rw [dbl1]; simp
      · rw [dbl2]; simp
    by_cases h : [b, d] ∈ qr_doubles_F op
    · rw [if_pos h, if_pos (this.1 h)]
    · rw [if_neg h, if_neg (fun hh => h (this.2 hh))]
  unfold refW
  rw [hf]
  simp only [wrkM, List.head?_cons, List.tail_cons, Option.some.injEq]
  by_cases h1 : b = 103 ∧ d = l ∧ op = [103, l]
  · rw [if_pos h1, if_pos rfl, if_neg (fun h => hm.2.1 (by omega)), if_neg (by omega), if_pos ⟨h1.1, by rw [hco]; exact (op_head ho).2 h1.2.2, h1.2.1⟩, fin_whole, hco]
  rw [if_neg h1, if_neg (by omega)]
  have hlt : ¬ (qr_known_F [b, d] (bareL ++ objsL) withL).1 < 0 := by
    rw [hk]
    simp only [apply_ite Prod.fst]
    repeat' split
    all_goals decide
  rw [if_neg hlt, hk]
  have hno : ¬ (b = 103 ∧ rd 0 c.2.2.1 0 = 103 ∧ d = l) := fun h => h1 ⟨h.1, h.2.2, by rw [hco] at h; exact (op_head ho).1 h.2.1⟩
  by_cases hb : b = l
  · rw [if_pos hb, fin_left (.inl rfl) (by simp), if_neg (by omega), if_neg (fun h => hm.1 (by rw [← hb]; exact h.1)), told_0]
  rw [if_neg hb]
  by_cases h2 : b = 105 ∨ b = 97
  · rw [if_pos h2]
    simp only [objM]
    by_cases hd : d ∈ objectsL
    · rw [if_pos hd, fin_whole, if_pos (.inr ⟨h2, hd⟩), told_2 c 0 (by simp) (by simp) (by simp)]
      rw [key_set hc]
    · rw [if_neg hd, fin_bad, if_neg (by rintro (h | h); omega; exact hd h.2), if_neg (fun h => by rcases h2 with rfl | rfl <;> exact absurd h.1 (by decide)), told_0]
  rw [if_neg h2, if_neg hno, mot2 hc]
  unfold pairM
  by_cases h3 : b = 103 ∧ (d = 103 ∨ d = 101 ∨ d = 69)
  · rw [if_pos h3, if_pos (.inl h3), told_2 c 0 (by simp) (by simp) (by simp)]
  rw [if_neg h3, if_neg (by rintro (h | h); exact h3 h; exact h2 h.1)]
  by_cases h4 : b ∈ markedL ∧ d ≠ 27
  · have := marked_not h4.1
    rw [if_pos h4, if_pos h4, told_2 c d (ne1 this.1) (ne1 this.2.1) (ne1 this.2.2.1)]
  · rw [if_neg h4, if_neg h4, told_0]

theorem wrk_ref3 {op : List Int} {l : Int} (ho : IsOp op l) {s : List Int} (hs : 3 ≤ s.length) (hl : s.length ≤ 1099511627776) (c : Cmd) : refW op s c = finR (wrkM l s c) := by
  have hk := known3 (N := bareL ++ objsL) (W := withL) hs hl (fun n hn => (bare1_short n hn).2) (fun n hn => with_one n (List.mem_append_left _ hn))
  have hf : (foundL s 0 (qr_doubles_F op)).1 = 0 := by
    have hd : ∀ n ∈ qr_doubles_F op, n.length ≤ 2 := fun n hn => by
      rcases ho with ⟨rfl, _⟩ | ⟨rfl, _⟩
      · rw [dbl1] at hn; simp at hn; subst hn; simp
      · rw [dbl2] at hn; simp at hn; rcases hn with rfl | rfl <;> simp
    rw [found_long _ _ 0 (fun n hn => by have := hd n hn; omega), if_neg (fun h => by have := hd _ h; omega)]
  unfold refW
  rw [hf, hk, if_neg (by omega), if_neg (by decide), told_0]
  cases s with
  | nil => simp at hs
  | cons b r =>
    have hr : 2 ≤ r.length := by simp at hs; omega
    have hne : r ≠ [] := fun e => by rw [e] at hr; simp at hr
    simp only [wrkM]
    split
    · exact (fin_left (.inl rfl) hne _).symm
    · split
      · cases r with
        | nil => exact absurd rfl hne
        | cons d r' =>
          cases r' with
          | nil => simp at hr
          | cons e r'' =>
            simp only [objM]
            split
            · exact (fin_left (.inl rfl) (by simp) _).symm
            · exact (fin_bad _ _).symm
      · split
        · cases r with
          | nil => exact absurd rfl hne
          | cons d r' =>
            cases r' with
            | nil => simp at hr
            | cons e r'' => exact (fin_left (.inl rfl) (by simp) _).symm
        · exact (mot3 hr _ _).symm

/-- behind an operator and its count -/
theorem wrk_ref {op : List Int} {l : Int} (ho : IsOp op l) {s : List Int} (hs : s ≠ []) (hl : s.length ≤ 1099511627776) (h255 : ∀ x ∈ s, 0 ≤ x ∧ x ≤ 255) {c : Cmd} (hc : c.2.2.2.2.1 = 0) (hco : c.2.2.1 = op) : refW op s c = finR (wrkM l s c) := by
  match s, hs, hl, h255 with
  | [b], _, _, h255 => exact wrk_ref1 ho (h255 b (by simp)).1 (h255 b (by simp)).2 hc hco
  | [b, d], _, _, _ => exact wrk_ref2 ho hc hco
  | b :: d :: e :: r, _, hl, _ => exact wrk_ref3 ho (by simp) hl c
end Go.VE
namespace Go.VE
open Go Go.Proofs
/-! ### quoin/quoinlaw21.KeysParse -/
def ql_KeysParse_G : List (Nat × App) := [(10, ql_awake_S), (11, qr_Parse_S), (12, keys_Parse_S), (13, qr_Same_S)]
theorem ql_KeysParse_Gok : GOk Tryd.prog (getG ql_KeysParse_G) := GOk.cons ql_awake_ok (GOk.cons qr_Parse_ok (GOk.cons keys_Parse_ok (GOk.cons qr_Same_ok (GOk.nil))))
def ql_KeysParse_raw (all0 : List Int) (K : Res → List Cell → Prop) : Prop :=
 ∀ (r1 : Bool), r1 = ql_awake_F → (
 wfR (.one (.v (.bool) r1)) → (
 bif (!r1) then
 K (.one (.v (.bool) false)) []
 else
 qr_Parse_P all0 ∧ (
 ∀ (r2 : CmT × Int), r2 = qr_Parse_F all0 → (
 wfR (.tup [.v (.st (.pair (.int .u8) (.pair (.int .i64) (.pair (.str) (.pair (.str) (.pair (.int .u8) (.sl (.int .u8)))))))) r2.1, .v (.int .i64) r2.2]) → (
 keys_Parse_P all0 ∧ (
 ∀ (r3 : CmT × Int), r3 = keys_Parse_F all0 → (
 wfR (.tup [.v (.st (.pair (.int .u8) (.pair (.int .i64) (.pair (.str) (.pair (.str) (.pair (.int .u8) (.sl (.int .u8)))))))) r3.1, .v (.int .i64) r3.2]) → (
 bif (decide (r3.2 = r2.2)) then
 ∀ (r4 : Bool), r4 = qr_Same_F r3.1 r2.1 → (
 wfR (.one (.v (.bool) r4)) → (
 K (.one (.v (.bool) r4)) []))
 else
 K (.one (.v (.bool) false)) []))))))))
def ql_KeysParse_A : List AS := [.v (.sl (.int .u8))]
theorem ql_KeysParse_walk (all0 : List Int) (K : Res → List Cell → Prop) : runF tb (getG ql_KeysParse_G) [] Tryd.f3 [true] (mkA ql_KeysParse_A (all0, ())) K = ql_KeysParse_raw all0 K := by kernel_rfl
--! law 1

def ql_KeysParse_R : App := runF tb (getG ql_KeysParse_G) [] Tryd.f3 [true]
theorem ql_KeysParse_ok : AppOk Tryd.prog 3 ql_KeysParse_R := runF_ok tb_M tb_ok ql_KeysParse_Gok (LabsOk.nil) (f := 3) (fn := Tryd.f3) (by kernel_rfl) (by kernel_rfl) (by kernel_rfl) [true]
end Go.VE
namespace Go.VE
open Go Go.Proofs

/-! ### without an operator -/
/-- what the document says of keys that begin with no operator -/
def refN (s : List Int) (c : Cmd) : Cmd × Int :=
  if (qr_known_F s (bareL ++ plainB) (withL ++ plainW)).1 = 0 then toldF c ((foundL s 0 opsL).1, (qr_known_F s (bareL ++ plainB) (withL ++ plainW)).2)
  else toldF c (qr_known_F s (bareL ++ plainB) (withL ++ plainW))

def NoOp (s : List Int) : Prop := opOf s opsL = none

theorem noOp_head {b : Int} {r : List Int} (h : NoOp (b :: r)) : ¬ (b = 100 ∨ b = 99 ∨ b = 121 ∨ b = 62 ∨ b = 60) ∧ (b = 103 → ∀ d r', r = d :: r' → ¬ (d = 126 ∨ d = 117 ∨ d = 85)) := by
  unfold NoOp at h
  rw [ops_eq] at h
  constructor
  · rintro (rfl | rfl | rfl | rfl | rfl) <;> simp [opOf] at h
  · rintro rfl d r' rfl (rfl | rfl | rfl) <;> simp [opOf] at h

theorem named_ref1 {b : Int} (hn : NoOp [b]) (h0 : 0 ≤ b) (h1 : b ≤ 255) {c : Cmd} (hc : c.2.2.2.2.1 = 0) : refN [b] c = finR (namedM [b] c) := by
  have hno := (noOp_head hn).1
  unfold refN
  rw [one_0 h0 h1]
  have hf : (foundL [b] 0 opsL).1 = 0 ∨ b = 103 := by
    by_cases h103 : b = 103
    · exact .inr h103
    · left
      rw [ops_eq]
      have e : ∀ x : Int, [x] = [b] ↔ x = b := fun x => by simp
      have g : ∀ x : Int, ¬ (103 = b) := fun x => by omega
      simp only [foundL, e]
      rw [if_neg (by omega), if_neg (by omega), if_neg (by omega), if_neg (by omega), if_neg (by omega)]
      simp [Ne.symm h103]
  simp only [namedM]
  rw [if_neg hno]
  unfold tab0
  by_cases h2 : b = 58
  · rw [if_pos h2, if_pos h2, if_neg (by decide), fin_ask, key_set hc, told_3 c 0 (by simp)]
  rw [if_neg h2, if_neg h2]
  by_cases h3 : b = 114 ∨ b = 109
  · rw [if_pos h3, if_pos h3, if_neg (by decide), told_1]; rfl
  rw [if_neg h3, if_neg h3]
  by_cases h4 : b = 103
  · rw [if_pos h4, if_pos h4, if_neg (by decide), told_1]; rfl
  rw [if_neg h4, if_neg h4]
  by_cases h5 : b ∈ plainsL
  · have := plains_not h5
    rw [if_pos h5, if_pos h5, if_neg (by show ¬ (2 : Int) = 0; decide), fin_whole, key_set hc, told_2 c 0 (ne1 this.1) (ne1 this.2.1) (ne1 this.2.2.1)]
  rw [if_neg h5, if_neg h5, mot1 hc]
  have hf := hf.resolve_right h4
  rw [hf]
  by_cases h6 : (tabM b).1 = 0
  · rw [if_pos h6]
    show (zC, (2 : Int)) = toldF c ((tabM b).1, (tabM b).2)
    rw [h6]; rfl
  · rw [if_neg h6]

theorem named_ref2 {b d : Int} (hn : NoOp [b, d]) {c : Cmd} (hc : c.2.2.2.2.1 = 0) : refN [b, d] c = finR (namedM [b, d] c) := by
  obtain ⟨hno, hg⟩ := noOp_head hn
  have hk : qr_known_F [b, d] (bareL ++ plainB) (withL ++ plainW) = if [b, d] ∈ bareL ++ plainB then (2, [b, d], 0) else if [b] ∈ withL ++ plainW ∧ d ≠ 27 then (2, [b], d) else (0, [], 0) :=
    known2 (fun n hn => (bare_short n hn).2) with_one (fun h => by
      rcases (memW0 b).1 h with h | h | h
      · constructor
        · intro e; subst e; revert h; decide
        · intro e; subst e; revert h; decide
      · omega
      · omega)
  simp only [mem2_0, memW0] at hk
  have hf : (foundL [b, d] 0 opsL).1 = 0 := by
    have hl : ∀ n ∈ opsL, n.length ≤ 2 := by rw [ops_eq]; decide
    rw [found_long [b, d] opsL 0 (fun n hn => hl n hn), if_neg]
    rw [ops_eq]
    simp only [List.mem_cons, List.not_mem_nil, or_false, List.cons.injEq, and_true, and_false, false_or, reduceCtorEq]
    rintro (h | h | h) <;> exact hg h.1 d [] rfl (by omega)
  have R0 : qr_known_F [b, d] (bareL ++ plainB) (withL ++ plainW) = (0, [], 0) → refN [b, d] c = (zC, 2) := fun h => by
    unfold refN; rw [h, hf, if_pos rfl, told_0]
  have R2 : ∀ (k : List Int) (a : Int), qr_known_F [b, d] (bareL ++ plainB) (withL ++ plainW) = (2, k, a) → k ≠ [47] → k ≠ [63] → k ≠ [58] → refN [b, d] c = ((c.1, c.2.1, c.2.2.1, k, a, c.2.2.2.2.2), 1) := fun k a h q1 q2 q3 => by
    unfold refN; rw [h, if_neg (by show ¬ (2 : Int) = 0; decide), told_2 c a q1 q2 q3]
  have N2 : ¬ (b ∈ markedL ∨ b = 114 ∨ b = 109) → b ≠ 103 → refN [b, d] c = (zC, 2) := fun q1 q2 => R0 (by rw [hk, if_neg (fun h => q2 h.1), if_neg (fun h => q1 h.1)])
  simp only [namedM]
  rw [if_neg hno]
  by_cases h2 : b = 58
  · rw [if_pos h2, fin_left (.inr rfl) (by simp)]
    exact N2 (by rintro (h | h | h); subst h2; revert h; decide; omega; omega) (by omega)
  rw [if_neg h2]
  by_cases h3 : b = 114 ∨ b = 109
  · rw [if_pos h3]
    simp only [argM]
    by_cases hd : d = 27
    · rw [if_pos hd, fin_bad]
      exact R0 (by rw [hk, if_neg (fun h => by omega), if_neg (fun h => h.2 hd)])
    · rw [if_neg hd, fin_whole]
      exact R2 [b] d (by rw [hk, if_neg (fun h => by omega), if_pos ⟨.inr h3, hd⟩]) (ne1 (by omega)) (ne1 (by omega)) (ne1 (by omega))
  rw [if_neg h3]
  by_cases h4 : b = 103
  · rw [if_pos h4]
    simp only [g2M]
    rw [if_neg (hg h4 d [] rfl)]
    have h103 : (103 : Int) ∉ markedL := by decide
    by_cases h5 : d = 45 ∨ d = 43
    · rw [if_pos h5, fin_whole, R2 [b, d] 0 (by rw [hk, if_pos ⟨h4, by omega⟩]) (by simp) (by simp) (by simp), key_set hc, h4]
    · rw [if_neg h5, mot2 hc]
      unfold pairM
      by_cases h6 : d = 103 ∨ d = 101 ∨ d = 69
      · rw [if_pos ⟨rfl, h6⟩, R2 [b, d] 0 (by rw [hk, if_pos ⟨h4, by omega⟩]) (by simp) (by simp) (by simp), h4]
      · rw [if_neg (fun h => h6 h.2), if_neg (fun h => h103 h.1)]
        exact R0 (by rw [hk, if_neg (fun h => by omega), if_neg (by rintro ⟨h | h | h, _⟩; rw [h4] at h; exact h103 h; omega; omega)])
  rw [if_neg h4]
  by_cases h5 : b ∈ plainsL
  · have := plains_not h5
    rw [if_pos h5, fin_left (.inl rfl) (by simp)]
    exact N2 (by rintro (h | h | h); exact this.2.2.2.1 h; omega; omega) h4
  rw [if_neg h5, mot2 hc]
  unfold pairM
  rw [if_neg (fun h => h4 h.1)]
  by_cases h6 : b ∈ markedL ∧ d ≠ 27
  · have := marked_not h6.1
    rw [if_pos h6]
    exact R2 [b] d (by rw [hk, if_neg (fun h => h4 h.1), if_pos ⟨.inl h6.1, h6.2⟩]) (ne1 this.1) (ne1 this.2.1) (ne1 this.2.2.1)
  · rw [if_neg h6]
    exact R0 (by rw [hk, if_neg (fun h => h4 h.1), if_neg (by rintro ⟨h | h, h7⟩; exact h6 ⟨h, h7⟩; exact h3 h)])

theorem named_ref3 {s : List Int} (hn : NoOp s) (hs : 3 ≤ s.length) (hl : s.length ≤ 1099511627776) (c : Cmd) : refN s c = finR (namedM s c) := by
  have hk := known3 (N := bareL ++ plainB) (W := withL ++ plainW) hs hl (fun n hn => (bare_short n hn).2) with_one
  have hf : (foundL s 0 opsL).1 = 0 := by
    have hl : ∀ n ∈ opsL, n.length ≤ 2 := by rw [ops_eq]; decide
    rw [found_long s opsL 0 (fun n hn => by have := hl n hn; omega), if_neg (fun h => by have := hl _ h; omega)]
  unfold refN
  rw [hf, hk, if_pos rfl, told_0]
  cases s with
  | nil => simp at hs
  | cons b r =>
    obtain ⟨hno, hg⟩ := noOp_head hn
    have hr : 2 ≤ r.length := by simp at hs; omega
    have hne : r ≠ [] := fun e => by rw [e] at hr; simp at hr
    simp only [namedM]
    rw [if_neg hno]
    split
    · exact (fin_left (.inr rfl) hne _).symm
    · split
      · exact (arg3 hr _).symm
      · split
        · rename_i h103
          cases r with
          | nil => exact absurd rfl hne
          | cons d r' =>
            simp only [g2M]
            rw [if_neg (hg h103 d r' rfl)]
            split
            · cases r' with
              | nil => simp at hr
              | cons e r'' => exact (fin_left (.inl rfl) (by simp) _).symm
            · exact (mot3 hr _ _).symm
        · split
          · exact (fin_left (.inl rfl) hne _).symm
          · exact (mot3 hr _ _).symm

theorem named_ref {s : List Int} (hn : NoOp s) (hs : s ≠ []) (hl : s.length ≤ 1099511627776) (h255 : ∀ x ∈ s, 0 ≤ x ∧ x ≤ 255) {c : Cmd} (hc : c.2.2.2.2.1 = 0) : refN s c = finR (namedM s c) := by
  match s, hs, hl, h255, hn with
  | [b], _, _, h255, hn => exact named_ref1 hn (h255 b (by simp)).1 (h255 b (by simp)).2 hc
  | [b, d], _, _, _, hn => exact named_ref2 hn hc
  | b :: d :: e :: r, _, hl, _, hn => exact named_ref3 hn (by simp) hl c

/-! ### with one -/
theorem op_is {s op : List Int} (h : opOf s opsL = some op) : ∃ l r, IsOp op l ∧ s = op ++ r ∧ ∀ c, namedM s c = workM l r (setOp c op) := by
  rw [ops_eq] at h
  have go : ∀ (L : List (List Int)), opOf s L = some op → op ∈ L ∧ op.length ≤ s.length ∧ s.take op.length = op := by
    intro L
    induction L with
    | nil => intro h; cases h
    | cons o L ih =>
      intro h
      unfold opOf at h
      split at h
      · rename_i hc
        injection h with h; subst h
        exact ⟨List.mem_cons_self, hc.1, hc.2⟩
      · obtain ⟨h1, h2⟩ := ih h
        exact ⟨List.mem_cons_of_mem _ h1, h2⟩
  obtain ⟨hm, hle, ht⟩ := go _ h
  have hs : s = op ++ s.drop op.length := by
    conv => lhs; rw [← List.take_append_drop op.length s, ht]
  have one : ∀ x : Int, (x = 100 ∨ x = 99 ∨ x = 121 ∨ x = 62 ∨ x = 60) → op = [x] → ∃ l r, IsOp op l ∧ s = op ++ r ∧ ∀ c, namedM s c = workM l r (setOp c op) := fun x hx e => by
    subst e
    refine ⟨x, s.drop 1, .inl ⟨rfl, hx⟩, hs, fun c => ?_⟩
    rw [hs]
    show (if x = 100 ∨ x = 99 ∨ x = 121 ∨ x = 62 ∨ x = 60 then _ else _ : MR) = _
    rw [if_pos hx]; rfl
  have two : ∀ x : Int, (x = 126 ∨ x = 117 ∨ x = 85) → op = [103, x] → ∃ l r, IsOp op l ∧ s = op ++ r ∧ ∀ c, namedM s c = workM l r (setOp c op) := fun x hx e => by
    subst e
    refine ⟨x, s.drop 2, .inr ⟨rfl, hx⟩, hs, fun c => ?_⟩
    rw [hs]
    show g2M (x :: _) c = _
    simp only [g2M]
    rw [if_pos hx]; rfl
  simp only [List.mem_cons, List.not_mem_nil, or_false] at hm
  rcases hm with h | h | h | h | h | h | h | h
  · exact one _ (by omega) h
  · exact one _ (by omega) h
  · exact one _ (by omega) h
  · exact one _ (by omega) h
  · exact one _ (by omega) h
  · exact two _ (by omega) h
  · exact two _ (by omega) h
  · exact two _ (by omega) h

theorem mnE (a b : Int) : mn a b = if b < a then b else a := by
  unfold mn; by_cases h : b < a <;> simp [h]
theorem mxE (a b : Int) : mx a b = if a < b then b else a := by
  unfold mx; by_cases h : a < b <;> simp [h]

theorem times_eq {a b : Int} (ha : 0 ≤ a ∧ a ≤ 9999) (hb : 0 ≤ b ∧ b ≤ 9999) : qr_times_F a b = if 0 < b ∨ 0 < a then mn (mx a 1 * mx b 1) 9999 else a := by
  have p1 : 0 ≤ a * b := Int.mul_nonneg ha.1 hb.1
  have p2 : a * b ≤ 9999 * 9999 := Int.mul_le_mul ha.2 hb.2 hb.1 (by omega)
  unfold qr_times_F
  rw [wrap_i64 (by omega) (by omega)]
  simp only [Bool.cond_decide]
  by_cases h1 : a = 0
  · rw [if_pos h1]
    have e : mx a 1 = 1 := by rw [h1]; decide
    rw [e, Int.one_mul]
    by_cases h2 : b = 0
    · rw [if_neg (show ¬ (0 < b ∨ 0 < a) by omega)]; omega
    · rw [if_pos (show 0 < b ∨ 0 < a by omega), mxE, if_neg (show ¬ b < 1 by omega), mnE, if_neg (show ¬ 9999 < b by omega)]
  · rw [if_neg h1]
    have ea : mx a 1 = a := by rw [mxE, if_neg (show ¬ a < 1 by omega)]
    rw [if_pos (show 0 < b ∨ 0 < a by omega), ea]
    by_cases h2 : b = 0
    · rw [if_pos h2]
      have e : mx b 1 = 1 := by rw [h2]; decide
      rw [e, Int.mul_one, mnE, if_neg (show ¬ 9999 < a by omega)]
    · rw [if_neg h2]
      have eb : mx b 1 = b := by rw [mxE, if_neg (show ¬ b < 1 by omega)]
      rw [eb, mnE]

def tailF (op s : List Int) (c : Cmd) : Cmd × Int :=
  bif (decide ((qr_found_F s (qr_doubles_F op)).1 = (2 : Int))) then ((c.1, c.2.1, c.2.2.1, op, c.2.2.2.2.1, c.2.2.2.2.2), (1 : Int))
  else bif (decide ((qr_known_F s (bareL ++ objsL) withL).1 < (qr_found_F s (qr_doubles_F op)).1)) then
      toldF c ((qr_found_F s (qr_doubles_F op)).1, (qr_known_F s (bareL ++ objsL) withL).2)
    else toldF c (qr_known_F s (bareL ++ objsL) withL)

theorem tail_ref (op s : List Int) (c : Cmd) : tailF op s c = refW op s c := by
  unfold tailF refW
  have e1 : qr_found_F s (qr_doubles_F op) = foundL s 0 (qr_doubles_F op) := rfl
  rw [e1]
  simp only [Bool.cond_decide]
  by_cases h2 : (foundL s 0 (qr_doubles_F op)).1 = 2
  · rw [if_pos h2, if_pos h2]; rfl
  · rw [if_neg h2, if_neg h2]
    by_cases h3 : (qr_known_F s (bareL ++ objsL) withL).1 < (foundL s 0 (qr_doubles_F op)).1
    · rw [if_pos h3, if_pos h3]
    · rw [if_neg h3, if_neg h3]

theorem behind_tail (c : Cmd) (op r : List Int) : qr_behind_F c op r bareL withL = bif decide (r.drop (cntL r 0).2 = []) then (zC, 0) else tailF op (r.drop (cntL r 0).2) (c.1, qr_times_F c.2.1 (cntL r 0).1, op, c.2.2.2.1, c.2.2.2.2.1, c.2.2.2.2.2) := by kernel_rfl

theorem behind_ref {op : List Int} {l : Int} (ho : IsOp op l) {r : List Int} (hl : r.length ≤ 1099511627776) (h255 : ∀ x ∈ r, 0 ≤ x ∧ x ≤ 255) {c : Cmd} (hc : c.2.2.2.2.1 = 0) (hn : 0 ≤ c.2.1 ∧ c.2.1 ≤ 9999) :
    qr_behind_F c op r bareL withL = finR (workM l r (setOp c op)) := by
  have hb := cntL_bound r 0 (by omega) (by omega)
  rw [behind_tail]
  unfold workM
  have hct : (c.1, qr_times_F c.2.1 (cntL r 0).1, op, c.2.2.2.1, c.2.2.2.2.1, c.2.2.2.2.2) = cntC (cntL r 0).1 (setOp c op) := by
    rw [times_eq hn hb]
    unfold cntC
    show _ = if 0 < (cntL r 0).1 ∨ 0 < c.2.1 then setCnt (setOp c op) (mn (mx c.2.1 1 * mx (cntL r 0).1 1) 9999) else setOp c op
    by_cases h : 0 < (cntL r 0).1 ∨ 0 < c.2.1
    · rw [if_pos h, if_pos h]; rfl
    · rw [if_neg h, if_neg h]; rfl
  rw [hct]
  have hco : (cntC (cntL r 0).1 (setOp c op)).2.2.1 = op := by unfold cntC; split <;> rfl
  have hca : (cntC (cntL r 0).1 (setOp c op)).2.2.2.2.1 = 0 := by unfold cntC; split <;> exact hc
  generalize cntC (cntL r 0).1 (setOp c op) = c2 at hco hca
  have hsl : (r.drop (cntL r 0).2).length ≤ 1099511627776 := by rw [List.length_drop]; omega
  have hs255 : ∀ x ∈ r.drop (cntL r 0).2, 0 ≤ x ∧ x ≤ 255 := fun x hx => h255 x (List.mem_of_mem_drop hx)
  generalize r.drop (cntL r 0).2 = s at hsl hs255
  cases s with
  | nil => rfl
  | cons b s =>
    show tailF op (b :: s) c2 = _
    rw [tail_ref]
    exact wrk_ref ho (by simp) hsl hs255 hca hco

/-! ### the whole -/
theorem J1_tail (s : List Int) (x c : Cmd) : qr_Parse_J1_F s x c = bif decide (s.drop (cntL s 0).2 = []) then (0, zC) else
    (match opOf (s.drop (cntL s 0).2) opsL with
    | some o => ((qr_behind_F (setCnt c (cntL s 0).1) o ((s.drop (cntL s 0).2).drop o.length) bareL withL).2, (qr_behind_F (setCnt c (cntL s 0).1) o ((s.drop (cntL s 0).2).drop o.length) bareL withL).1)
    | none => ((refN (s.drop (cntL s 0).2) (setCnt c (cntL s 0).1)).2, (refN (s.drop (cntL s 0).2) (setCnt c (cntL s 0).1)).1)) := by
  have e : qr_Parse_J1_F s x c = bif decide (s.drop (cntL s 0).2 = []) then (0, zC) else
      Sum.elim (fun q0r : Int × Cmd => ((q0r.1, q0r.2) : Int × Cmd)) (fun q0x0 : List Int × List (List Int) × List (List Int) × List (List Int) × Cmd × Cmd =>
        bif (decide ((qr_known_F q0x0.1 (q0x0.2.1 ++ plainB) (q0x0.2.2.1 ++ plainW)).1 = (0 : Int))) then
          ((toldF q0x0.2.2.2.2.2 ((foundL q0x0.1 0 q0x0.2.2.2.1).1, (qr_known_F q0x0.1 (q0x0.2.1 ++ plainB) (q0x0.2.2.1 ++ plainW)).2)).2, (toldF q0x0.2.2.2.2.2 ((foundL q0x0.1 0 q0x0.2.2.2.1).1, (qr_known_F q0x0.1 (q0x0.2.1 ++ plainB) (q0x0.2.2.1 ++ plainW)).2)).1)
        else
          ((toldF q0x0.2.2.2.2.2 (qr_known_F q0x0.1 (q0x0.2.1 ++ plainB) (q0x0.2.2.1 ++ plainW))).2, (toldF q0x0.2.2.2.2.2 (qr_known_F q0x0.1 (q0x0.2.1 ++ plainB) (q0x0.2.2.1 ++ plainW))).1))
        (qr_Parse_L0_F (s.drop (cntL s 0).2) bareL withL opsL 0 x (setCnt c (cntL s 0).1)) := by kernel_rfl
  rw [e]
  unfold qr_Parse_L0_F
  cases decide (s.drop (cntL s 0).2 = [])
  · simp only [cond_false]
    cases opOf (s.drop (cntL s 0).2) opsL with
    | some o => rfl
    | none =>
      simp only [Sum.elim_inr, Bool.cond_decide]
      unfold refN
      split <;> rfl
  · rfl

theorem J1_ref {s : List Int} (hl : s.length ≤ 1099511627776) (h255 : ∀ x ∈ s, 0 ≤ x ∧ x ≤ 255) (x : Cmd) {c : Cmd} (hc : c.2.2.2.2.1 = 0) : qr_Parse_J1_F s x c = ((finM s c).2, (finM s c).1) := by
  have hb := cntL_bound s 0 (by omega) (by omega)
  rw [J1_tail, finM_eq]
  have hsl : (s.drop (cntL s 0).2).length ≤ 1099511627776 := by rw [List.length_drop]; omega
  have hs255 : ∀ x ∈ s.drop (cntL s 0).2, 0 ≤ x ∧ x ≤ 255 := fun x hx => h255 x (List.mem_of_mem_drop hx)
  have hca : (setCnt c (cntL s 0).1).2.2.2.2.1 = 0 := hc
  have hcb : 0 ≤ (setCnt c (cntL s 0).1).2.1 ∧ (setCnt c (cntL s 0).1).2.1 ≤ 9999 := hb
  generalize setCnt c (cntL s 0).1 = c2 at hca hcb
  generalize s.drop (cntL s 0).2 = t at hsl hs255
  cases t with
  | nil => rfl
  | cons b t =>
    show (match opOf (b :: t) opsL with
      | some o => ((qr_behind_F c2 o ((b :: t).drop o.length) bareL withL).2, (qr_behind_F c2 o ((b :: t).drop o.length) bareL withL).1)
      | none => ((refN (b :: t) c2).2, (refN (b :: t) c2).1)) = _
    cases ho : opOf (b :: t) opsL with
    | none =>
      show ((refN (b :: t) c2).2, (refN (b :: t) c2).1) = _
      rw [named_ref (s := b :: t) ho (by simp) hsl hs255 hca]
    | some o =>
      obtain ⟨l, r, hop, hs, hn⟩ := op_is ho
      show ((qr_behind_F c2 o ((b :: t).drop o.length) bareL withL).2, (qr_behind_F c2 o ((b :: t).drop o.length) bareL withL).1) = _
      rw [hn, hs]
      simp only [List.drop_left]
      have hrl : r.length ≤ 1099511627776 := by rw [hs, List.length_append] at hsl; omega
      have hr255 : ∀ x ∈ r, 0 ≤ x ∧ x ≤ 255 := fun x hx => hs255 x (by rw [hs]; exact List.mem_append_right _ hx)
      rw [behind_ref hop hrl hr255 hca hcb]

theorem reg_eq {b : Int} (h0 : 0 ≤ b) (h1 : b ≤ 255) : qr_isReg_F b = (!decide (b = 0) && bank_Valid_F b) := by
  have := byte_of (p := fun b => decide (qr_isReg_F b = (!decide (b = 0) && bank_Valid_F b))) (by decide +kernel) h0 h1
  simpa using this

theorem ref_eq {ks : List Int} (hl : ks.length ≤ 1099511627776) (h255 : ∀ x ∈ ks, 0 ≤ x ∧ x ≤ 255) : qr_Parse_F ks = parseM ks := by
  have whole : qr_Parse_J1_F ks zC zC = ((finM ks zC).2, (finM ks zC).1) := J1_ref hl h255 zC rfl
  unfold qr_Parse_F parseM
  cases hk : ks with
  | nil =>
    rw [hk] at whole
    show ((qr_Parse_J1_F [] zC zC).2, (qr_Parse_J1_F [] zC zC).1) = finM [] zC
    rw [whole]
  | cons b r =>
    rw [hk] at whole h255 hl
    have hd : (!decide (b :: r = [])) = true := by simp
    rw [hd]
    have hrd : rd (0 : Int) (b :: r) 0 = b := rfl
    simp only [cond_true, hrd, Bool.cond_decide, List.head?_cons, Option.some.injEq, List.tail_cons]
    by_cases hb : b = 34
    · rw [if_pos hb, if_pos hb]
      cases r with
      | nil => rfl
      | cons n r' =>
        have hln : ¬ ((b :: n :: r').length : Int) = 1 := by simp only [List.length_cons]; omega
        rw [if_neg hln]
        have hrn : rd (0 : Int) (b :: n :: r') 1 = n := rfl
        have hnb := h255 n (by simp)
        rw [hrn, reg_eq hnb.1 hnb.2]
        have hJ : qr_Parse_J1_F r' zC (n, 0, [], [], 0, []) = ((finM r' (n, 0, [], [], 0, [])).2, (finM r' (n, 0, [], [], 0, [])).1) :=
          J1_ref (by simp only [List.length_cons] at hl; omega) (fun x hx => h255 x (by simp [hx])) zC rfl
        show (bif !(!decide (n = 0) && bank_Valid_F n) then (zC, (2 : Int)) else ((qr_Parse_J1_F r' zC (n, 0, [], [], 0, [])).2, (qr_Parse_J1_F r' zC (n, 0, [], [], 0, [])).1)) = if n = 0 ∨ bank_Valid_F n = false then (zC, 2) else finM r' (n, 0, [], [], 0, [])
        by_cases hn0 : n = 0
        · rw [if_pos (Or.inl hn0)]
          simp [hn0]
        · cases hv : bank_Valid_F n with
          | false => simp
          | true =>
            rw [if_neg (show ¬ (n = 0 ∨ true = false) from by rintro (h | h); exact hn0 h; cases h)]
            have : (!(!decide (n = 0) && true)) = false := by simp [hn0]
            rw [this, cond_false, hJ]
    · rw [if_neg hb, if_neg hb]
      show ((qr_Parse_J1_F (b :: r) zC zC).2, (qr_Parse_J1_F (b :: r) zC zC).1) = finM (b :: r) zC
      rw [whole]
end Go.VE
namespace Go.VE
open Go Go.Proofs

/-- what a motion's keys begin with -/
def First (b : Int) (r : List Int) : Prop := b ∉ ([100, 99, 121, 62, 60, 126, 117, 85, 105, 97, 58, 114, 109, 34] : List Int) ∧ b ∉ plainsL ∧ (b < 48 ∨ 57 < b ∨ b = 48) ∧ (b = 103 → ∃ d, r = [d] ∧ (d = 103 ∨ d = 101 ∨ d = 69))

def asksB (k : List Int) : Int := if k = [47] ∨ k = [63] ∨ k = [58] then 3 else 1

theorem mot_back {k : List Int} (hk : Motion k) {arg : Int} {w : Bool} (hwm : w = true ↔ ∃ b ∈ markedL, k = [b]) (hw : w = true → arg ≠ 27) (hn : w = false → arg = 0) {c1 : Cmd} (hc : c1.2.2.2.2.1 = 0) :
    ∃ b r, k ++ (if w then [arg] else []) = b :: r ∧ motM r c1 b = (asksB k, [], (c1.1, c1.2.1, c1.2.2.1, k, arg, c1.2.2.2.2.2)) ∧ First b r := by
  have conc : ∀ (b : Int), k = [b] → w = false → (∀ c, motM [] c b = (asksB [b], [], setKey c [b])) → (b ∉ ([100, 99, 121, 62, 60, 126, 117, 85, 105, 97, 58, 114, 109, 34] : List Int) ∧ b ∉ plainsL ∧ (b < 48 ∨ 57 < b ∨ b = 48) ∧ b ≠ 103) →
      ∃ b r, k ++ (if w then [arg] else []) = b :: r ∧ motM r c1 b = (asksB k, [], (c1.1, c1.2.1, c1.2.2.1, k, arg, c1.2.2.2.2.2)) ∧ First b r := fun b hkb hwf hm hf => by
    subst hkb
    refine ⟨b, [], by simp [hwf], ?_, hf.1, hf.2.1, hf.2.2.1, fun h => absurd h hf.2.2.2⟩
    rw [hm, key_set hc, hn hwf]
  have two : ∀ (d : Int), k = [103, d] → (d = 103 ∨ d = 101 ∨ d = 69) → ∃ b r, k ++ (if w then [arg] else []) = b :: r ∧ motM r c1 b = (asksB k, [], (c1.1, c1.2.1, c1.2.2.1, k, arg, c1.2.2.2.2.2)) ∧ First b r := fun d hkd hd => by
    subst hkd
    have hwf : w = false := by
      cases hh : w with
      | false => rfl
      | true =>
        obtain ⟨b, _, hb⟩ := hwm.1 hh
        simp at hb
    refine ⟨103, [d], by simp [hwf], ?_, by decide, by decide, by decide, fun _ => ⟨d, rfl, hd⟩⟩
    show gM [d] (setKey c1 [103]) = _
    simp only [gM]
    rw [if_pos hd]
    have : asksB [103, d] = 1 := by unfold asksB; rw [if_neg (by simp)]
    rw [this, hn hwf]
    show (1, [], setKey (setKey c1 [103]) [103, d]) = _
    unfold setKey; rw [hc]
  have wf : ∀ b : Int, k = [b] → b ∉ markedL → w = false := fun b hb hm => by
    cases hh : w with
    | false => rfl
    | true =>
      obtain ⟨b', h1, h2⟩ := hwm.1 hh
      rw [hb] at h2; simp at h2; subst h2; exact absurd h1 hm
  rcases hk with h | h | h | h | h | h | h | ⟨b, hb, h⟩ | ⟨b, hb, h⟩
  · exact conc 8 h (wf 8 h (by decide)) (fun c => rfl) (by decide)
  · exact conc 13 h (wf 13 h (by decide)) (fun c => rfl) (by decide)
  · exact conc 47 h (wf 47 h (by decide)) (fun c => rfl) (by decide)
  · exact conc 63 h (wf 63 h (by decide)) (fun c => rfl) (by decide)
  · exact two 103 h (by omega)
  · exact two 101 h (by omega)
  · exact two 69 h (by omega)
  · have hs := singles_not hb
    have hs2 : ∀ x ∈ singlesL, x ≠ 127 ∧ x ≠ 10 ∧ x ∉ ([100, 99, 121, 62, 60, 126, 117, 85, 105, 97, 58, 114, 109, 34] : List Int) ∧ x ∉ plainsL ∧ (x < 48 ∨ 57 < x ∨ x = 48) := by decide
    obtain ⟨q1, q2, q3, q4, q5⟩ := hs2 b hb
    refine conc b h (wf b h hs.2.2.2.1) (fun c => ?_) ⟨q3, q4, q5, hs.2.2.2.2⟩
    unfold motM
    rw [if_neg q1, if_neg q2, if_pos (.inr (.inr hb))]
    have : asksB [b] = 1 := by unfold asksB; rw [if_neg (by simp; omega)]
    rw [this]
  · have hwt : w = true := hwm.2 ⟨b, hb, h⟩
    subst h
    have hs2 : ∀ x ∈ markedL, x ≠ 127 ∧ x ≠ 10 ∧ x ≠ 8 ∧ x ≠ 13 ∧ x ∉ singlesL ∧ x ∉ ([100, 99, 121, 62, 60, 126, 117, 85, 105, 97, 58, 114, 109, 34] : List Int) ∧ x ∉ plainsL ∧ (x < 48 ∨ 57 < x ∨ x = 48) := by decide
    obtain ⟨q1, q2, q3, q4, q5, q6, q7, q8⟩ := hs2 b hb
    have hm := marked_not hb
    refine ⟨b, [arg], by simp [hwt], ?_, q6, q7, q8, fun e => absurd e hm.2.2.2⟩
    unfold motM
    rw [if_neg q1, if_neg q2, if_neg (by rintro (h | h | h); exact q3 h; exact q4 h; exact q5 h), if_neg (by rintro (h | h); exact hm.1 h; exact hm.2.1 h), if_pos hb]
    simp only [argM]
    rw [if_neg (hw hwt)]
    have : asksB [b] = 1 := by unfold asksB; rw [if_neg (by simp; exact ⟨hm.1, hm.2.1, hm.2.2.1⟩)]
    rw [this]
    rfl

/-- the command that the keys of its name make -/
def backC (c : Cmd) : Cmd := (c.1, c.2.1, c.2.2.1, c.2.2.2.1, c.2.2.2.2.1, [])
def headC (c : Cmd) : Cmd := (c.1, c.2.1, [], [], 0, [])

theorem cntC0 {c : Cmd} (h : 0 ≤ c.2.1 ∧ c.2.1 ≤ 9999) : cntC 0 c = c := by
  unfold cntC
  by_cases h0 : 0 < c.2.1
  · rw [if_pos (show 0 < (0 : Int) ∨ 0 < c.2.1 from .inr h0)]
    have e1 : mx c.2.1 1 = c.2.1 := by rw [mxE, if_neg (show ¬ c.2.1 < 1 by omega)]
    have e2 : mx 0 1 = 1 := by decide
    rw [e1, e2, Int.mul_one]
    have e3 : mn c.2.1 9999 = c.2.1 := by rw [mnE, if_neg (show ¬ 9999 < c.2.1 by omega)]
    rw [e3]; rfl
  · rw [if_neg (show ¬ (0 < (0 : Int) ∨ 0 < c.2.1) by omega)]

theorem work0 {l b : Int} {r : List Int} {c : Cmd} (hb : b < 48 ∨ 57 < b ∨ b = 48) (h : 0 ≤ c.2.1 ∧ c.2.1 ≤ 9999) : workM l (b :: r) c = wrkM l (b :: r) c := by
  have e : cntL (b :: r) 0 = (0, 0) := by unfold cntL; rw [if_pos (by omega)]
  unfold workM
  rw [e]
  show wrkM l (b :: r) (cntC 0 c) = _
  rw [cntC0 h]

theorem named_back {c : Cmd} (h : Is c) : ∃ b r, keys_Name_F c = b :: r ∧ (b < 48 ∨ 57 < b ∨ b = 48 ∧ c.2.1 = 0) ∧ b ≠ 34 ∧ namedM (b :: r) (headC c) = (asksB c.2.2.2.1, [], backC c) := by
  obtain ⟨hv, hcnt, hkn, hw1, hw2, h48, hline⟩ := id h
  rw [name_eq h]
  rcases hkn with ⟨ho, hm | hp⟩ | ⟨ho, hk⟩
  · -- a motion
    have hwm : keys_wants_F c = true ↔ ∃ b ∈ markedL, c.2.2.2.1 = [b] := by
      rw [wants_iff]
      constructor
      · rintro (hh | ⟨_, b, hb, hh⟩)
        · exact hh
        · exfalso
          rw [hh] at hm
          have hb : b = 114 ∨ b = 109 := by simpa using hb
          rcases hm with q | q | q | q | q | q | q | ⟨x, hx, q⟩ | ⟨x, hx, q⟩ <;> simp at q
          · omega
          · omega
          · omega
          · omega
          · subst q; rcases hb with rfl | rfl <;> revert hx <;> decide
          · subst q; rcases hb with rfl | rfl <;> revert hx <;> decide
      · exact fun hh => .inl hh
    obtain ⟨b, r, e, hmo, hf⟩ := mot_back hm (arg := c.2.2.2.2.1) hwm (fun hh => hw1 (wants_iff.1 hh)) (fun hh => hw2 (fun hw => by rw [wants_iff.2 hw] at hh; cases hh)) (c1 := headC c) rfl
    refine ⟨b, r, ?_, ?_, ?_, ?_⟩
    · rw [if_neg (fun hh => hh.1 ho), ho]; exact e
    · rcases hf.2.2.1 with q | q | q
      · exact .inl q
      · exact .inr (.inl q)
      · refine .inr (.inr ⟨q, ?_⟩)
        have hk48 : c.2.2.2.1 = [48] := by
          cases hww : keys_wants_F c with
          | false => 
            rw [hww] at e
            simp at e
            rcases hm with q2 | q2 | q2 | q2 | q2 | q2 | q2 | ⟨x, hx, q2⟩ | ⟨x, hx, q2⟩ <;> rw [q2] at e <;> simp at e <;> first | omega | (rw [q2, e.1, q])
          | true =>
            obtain ⟨x, hx, q2⟩ := hwm.1 hww
            rw [q2, hww] at e
            simp at e
            rw [q2, e.1, q]
        by_cases hz : 0 < c.2.1
        · exact absurd ⟨ho, hk48, hz⟩ h48
        · omega
    · intro e34; exact hf.1 (by rw [e34]; decide)
    · have nb : b ∉ ([100, 99, 121, 62, 60, 126, 117, 85, 105, 97, 58, 114, 109, 34] : List Int) := hf.1
      simp only [List.mem_cons, List.not_mem_nil, or_false, not_or] at nb
      have key : namedM (b :: r) (headC c) = motM r (headC c) b := by
        simp only [namedM]
        rw [if_neg (by omega), if_neg (by omega), if_neg (by omega)]
        by_cases h103 : b = 103
        · obtain ⟨d, rfl, hd⟩ := hf.2.2.2 h103
          rw [if_pos h103]
          simp only [g2M]
          rw [if_neg (by omega), if_neg (by omega), h103]
        · rw [if_neg h103, if_neg hf.2.1]
      rw [key, hmo]
      unfold backC headC
      rw [ho]
  · -- a plain command
    have wf : ¬ WantsA c → keys_wants_F c = false ∧ c.2.2.2.2.1 = 0 := fun hn => ⟨by
      cases hh : keys_wants_F c with
      | false => rfl
      | true => exact absurd (wants_iff.1 hh) hn, hw2 hn⟩
    rw [if_neg (fun hh => hh.1 ho), ho, List.nil_append]
    rcases hp with ⟨b, hb, hk⟩ | ⟨b, hb, hk⟩ | hk | hk | hk
    · have hn : ¬ WantsA c := by
        have := plains_not hb
        rintro (⟨x, hx, q⟩ | ⟨_, x, hx, q⟩) <;> rw [hk] at q <;> simp at q <;> subst q
        · exact this.2.2.2.1 hx
        · have hx : b = 114 ∨ b = 109 := by simpa using hx
          omega
      obtain ⟨w1, w2⟩ := wf hn
      have hs : ∀ x ∈ plainsL, ¬ (x = 100 ∨ x = 99 ∨ x = 121 ∨ x = 62 ∨ x = 60) ∧ x ≠ 58 ∧ ¬ (x = 114 ∨ x = 109) ∧ x ≠ 103 ∧ (x < 48 ∨ 57 < x) ∧ x ≠ 34 := by decide
      obtain ⟨q1, q2, q3, q4, q5, q6⟩ := hs b hb
      have hpn := plains_not hb
      refine ⟨b, [], by rw [hk, w1]; rfl, by omega, q6, ?_⟩
      simp only [namedM]
      rw [if_neg q1, if_neg q2, if_neg q3, if_neg q4, if_pos hb]
      have : asksB c.2.2.2.1 = 1 := by unfold asksB; rw [hk, if_neg (by simp; exact ⟨hpn.1, hpn.2.1, hpn.2.2.1⟩)]
      rw [this]
      unfold backC headC setKey
      rw [ho, hk, w2]
    · have hb : b = 114 ∨ b = 109 := by simpa using hb
      have hw : WantsA c := .inr ⟨ho, b, by simpa using hb, hk⟩
      refine ⟨b, [c.2.2.2.2.1], by rw [hk, wants_iff.2 hw]; rfl, by omega, by omega, ?_⟩
      simp only [namedM]
      rw [if_neg (by omega), if_neg (by omega), if_pos hb]
      simp only [argM]
      rw [if_neg (hw1 hw)]
      have : asksB c.2.2.2.1 = 1 := by unfold asksB; rw [hk, if_neg (by simp; omega)]
      rw [this]
      unfold backC headC setArg setKey
      rw [ho, hk]
    · have hn : ¬ WantsA c := by
        rintro (⟨x, hx, q⟩ | ⟨_, x, hx, q⟩) <;> rw [hk] at q <;> simp at q <;> subst q <;> revert hx <;> decide
      obtain ⟨w1, w2⟩ := wf hn
      refine ⟨58, [], by rw [hk, w1]; rfl, by omega, by omega, ?_⟩
      have : asksB c.2.2.2.1 = 3 := by unfold asksB; rw [hk]; rfl
      rw [this]
      show (3, [], setKey (headC c) [58]) = _
      unfold backC headC setKey
      rw [ho, hk, w2]
    · have hn : ¬ WantsA c := by
        rintro (⟨x, hx, q⟩ | ⟨_, x, hx, q⟩) <;> rw [hk] at q <;> simp at q
      obtain ⟨w1, w2⟩ := wf hn
      refine ⟨103, [45], by rw [hk, w1]; rfl, by omega, by omega, ?_⟩
      have : asksB c.2.2.2.1 = 1 := by unfold asksB; rw [hk]; rfl
      rw [this]
      show (1, [], setKey (headC c) [103, 45]) = _
      unfold backC headC setKey
      rw [ho, hk, w2]
    · have hn : ¬ WantsA c := by
        rintro (⟨x, hx, q⟩ | ⟨_, x, hx, q⟩) <;> rw [hk] at q <;> simp at q
      obtain ⟨w1, w2⟩ := wf hn
      refine ⟨103, [43], by rw [hk, w1]; rfl, by omega, by omega, ?_⟩
      have : asksB c.2.2.2.1 = 1 := by unfold asksB; rw [hk]; rfl
      rw [this]
      show (1, [], setKey (headC c) [103, 43]) = _
      unfold backC headC setKey
      rw [ho, hk, w2]
  · -- behind an operator
    have hne : c.2.2.1 ≠ [] := fun e => by rw [e] at ho; revert ho; decide
    obtain ⟨l, hop⟩ : ∃ l, IsOp c.2.2.1 l := by
      simp only [opList, List.mem_cons, List.not_mem_nil, or_false] at ho
      rcases ho with q | q | q | q | q | q | q | q
      · exact ⟨100, .inl ⟨q, by omega⟩⟩
      · exact ⟨99, .inl ⟨q, by omega⟩⟩
      · exact ⟨121, .inl ⟨q, by omega⟩⟩
      · exact ⟨62, .inl ⟨q, by omega⟩⟩
      · exact ⟨60, .inl ⟨q, by omega⟩⟩
      · exact ⟨126, .inr ⟨q, by omega⟩⟩
      · exact ⟨117, .inr ⟨q, by omega⟩⟩
      · exact ⟨85, .inr ⟨q, by omega⟩⟩
    have hlm := op_marked hop
    have hlast : rd 0 c.2.2.1 ((c.2.2.1.length : Int) - 1) = l := by
      rcases hop with ⟨q, _⟩ | ⟨q, _⟩ <;> rw [q] <;> rfl
    -- what stands behind it, and what it comes to
    have go : ∀ X : List Int, (if c.2.2.1 ≠ [] ∧ c.2.2.2.1 = c.2.2.1 then c.2.2.1 ++ [rd 0 c.2.2.1 ((c.2.2.1.length : Int) - 1)] else (c.2.2.1 ++ c.2.2.2.1) ++ (if keys_wants_F c then [c.2.2.2.2.1] else [])) = c.2.2.1 ++ X →
        workM l X (setOp (headC c) c.2.2.1) = (asksB c.2.2.2.1, [], backC c) → ∃ b r, (if c.2.2.1 ≠ [] ∧ c.2.2.2.1 = c.2.2.1 then c.2.2.1 ++ [rd 0 c.2.2.1 ((c.2.2.1.length : Int) - 1)] else (c.2.2.1 ++ c.2.2.2.1) ++ (if keys_wants_F c then [c.2.2.2.2.1] else [])) = b :: r ∧ (b < 48 ∨ 57 < b ∨ b = 48 ∧ c.2.1 = 0) ∧ b ≠ 34 ∧ namedM (b :: r) (headC c) = (asksB c.2.2.2.1, [], backC c) := fun X e hX => by
      rw [e]
      rcases hop with ⟨q, hl⟩ | ⟨q, hl⟩
      · refine ⟨l, X, by rw [q]; rfl, by omega, by omega, ?_⟩
        simp only [namedM]
        rw [if_pos hl, ← hX, q]
      · refine ⟨103, l :: X, by rw [q]; rfl, by omega, by omega, ?_⟩
        show g2M (l :: X) (headC c) = _
        simp only [g2M]
        rw [if_pos hl, ← hX, q]
    have hcb : 0 ≤ (setOp (headC c) c.2.2.1).2.1 ∧ (setOp (headC c) c.2.2.1).2.1 ≤ 9999 := hcnt
    have wf : ¬ WantsA c → keys_wants_F c = false ∧ c.2.2.2.2.1 = 0 := fun hn => ⟨by
      cases hh : keys_wants_F c with
      | false => rfl
      | true => exact absurd (wants_iff.1 hh) hn, hw2 hn⟩
    have hdig : l < 48 ∨ 57 < l := by rcases hop with ⟨_, q⟩ | ⟨_, q⟩ <;> omega
    by_cases hko : c.2.2.2.1 = c.2.2.1
    · have hn : ¬ WantsA c := by
        rintro (⟨x, hx, q⟩ | ⟨q, _⟩)
        · rw [hko] at q
          rcases hop with ⟨q2, _⟩ | ⟨q2, _⟩ <;> rw [q2] at q <;> simp at q
          subst q; exact hlm.1 hx
        · exact hne q
      obtain ⟨w1, w2⟩ := wf hn
      refine go [l] (by rw [if_pos ⟨hne, hko⟩, hlast]) ?_
      rw [work0 (by omega) hcb]
      simp only [wrkM]
      rw [if_pos trivial]
      have : asksB c.2.2.2.1 = 1 := by
        unfold asksB
        rw [hko, if_neg]
        rcases hop with ⟨q2, q3⟩ | ⟨q2, q3⟩ <;> rw [q2] <;> simp
        omega
      rw [this]
      show (1, [], setKey (setOp (headC c) c.2.2.1) c.2.2.1) = _
      unfold backC setKey setOp headC
      rw [hko, w2]
    · rcases hk with hk | ⟨a, d, had, hd, hk⟩ | hm
      · exact absurd hk hko
      · have hn : ¬ WantsA c := by
          rintro (⟨x, hx, q⟩ | ⟨q, _⟩)
          · rw [hk] at q; simp at q
          · exact hne q
        obtain ⟨w1, w2⟩ := wf hn
        refine go [a, d] (by rw [if_neg (fun hh => hko hh.2), w1, hk]; simp) ?_
        rw [work0 (by omega) hcb]
        simp only [wrkM]
        rw [if_neg (fun e => by rcases had with rfl | rfl; exact hlm.2.2.1 e.symm; exact hlm.2.2.2.1 e.symm), if_pos had]
        simp only [objM]
        rw [if_pos hd]
        have : asksB c.2.2.2.1 = 1 := by unfold asksB; rw [hk, if_neg (by simp)]
        rw [this]
        unfold backC setKey setOp headC
        rw [hk, w2]
      · have hwm : keys_wants_F c = true ↔ ∃ b ∈ markedL, c.2.2.2.1 = [b] := by
          rw [wants_iff]
          constructor
          · rintro (hh | ⟨q, _⟩)
            · exact hh
            · exact absurd q hne
          · exact fun hh => .inl hh
        obtain ⟨b, r, e, hmo, hf⟩ := mot_back hm (arg := c.2.2.2.2.1) hwm (fun hh => hw1 (wants_iff.1 hh)) (fun hh => hw2 (fun hw => by rw [wants_iff.2 hw] at hh; cases hh)) (c1 := setOp (headC c) c.2.2.1) rfl
        refine go (b :: r) (by rw [if_neg (fun hh => hko hh.2), List.append_assoc, e]) ?_
        rw [work0 hf.2.2.1 hcb]
        have nb := hf.1
        simp only [List.mem_cons, List.not_mem_nil, or_false, not_or] at nb
        simp only [wrkM]
        have hbl : b ≠ l := fun e => by
          rcases hop with ⟨_, q⟩ | ⟨_, q⟩ <;> omega
        rw [if_neg hbl, if_neg (by omega), if_neg (by
          rintro ⟨q1, _, q3⟩
          obtain ⟨d, rfl, hd⟩ := hf.2.2.2 q1
          simp at q3
          omega), hmo]
        rfl
end Go.VE
namespace Go.VE
open Go Go.Proofs

theorem decI_cnt0 : ∀ a b : Fin 100, 1 ≤ 100 * a.val + b.val → cntL (decI (100 * a.val + b.val)) 0 = (((100 * a.val + b.val : Nat) : Int), (decI (100 * a.val + b.val)).length) := by decide +kernel
theorem decI_head0 : ∀ a b : Fin 100, (decI (100 * a.val + b.val)).head? ≠ some 34 ∧ decI (100 * a.val + b.val) ≠ [] := by decide +kernel
theorem decI_cnt {n : Nat} (hn : n < 10000) (h1 : 1 ≤ n) : cntL (decI n) 0 = ((n : Int), (decI n).length) := by
  have e : 100 * (n / 100) + n % 100 = n := by omega
  have := decI_cnt0 ⟨n / 100, by omega⟩ ⟨n % 100, by omega⟩
  dsimp only at this
  rw [e] at this
  exact this h1
theorem decI_head {n : Nat} (hn : n < 10000) : (decI n).head? ≠ some 34 ∧ decI n ≠ [] := by
  have e : 100 * (n / 100) + n % 100 = n := by omega
  have := decI_head0 ⟨n / 100, by omega⟩ ⟨n % 100, by omega⟩
  dsimp only at this
  rw [e] at this
  exact this

/-- the keys of a count -/
def cntK (n : Int) : List Int := if n = 0 then [] else decI n.toNat

theorem spell_eq {c : Cmd} (h : Is c) : keys_Spell_F c = (if c.1 = 0 then [] else [34, c.1]) ++ (cntK c.2.1 ++ keys_Name_F c) := by
  have hi := is_iff.2 h
  have hc := h.2.1
  have J : ∀ p : List Int, keys_Spell_J0_F p c = p ++ (cntK c.2.1 ++ keys_Name_F c) := fun p => by
    unfold keys_Spell_J0_F cntK
    rw [appendInt_len hc.1 (by omega)]
    by_cases h0 : c.2.1 = 0
    · have e : (!decide (c.2.1 = 0)) = false := by simpa using h0
      rw [e, if_pos h0]; rfl
    · have e : (!decide (c.2.1 = 0)) = true := by simpa using h0
      rw [e, if_neg h0]
      simp only [cond_true, List.append_assoc]
  unfold keys_Spell_F
  rw [hi]
  simp only [Bool.not_true, cond_false, J]
  by_cases h0 : c.1 = 0
  · have e : (!decide (c.1 = 0)) = false := by simpa using h0
    rw [e, if_pos h0]; rfl
  · have e : (!decide (c.1 = 0)) = true := by simpa using h0
    rw [e, if_neg h0]; rfl

theorem asks13 (k : List Int) : asksB k = 1 ∨ asksB k = 3 := by unfold asksB; split <;> simp

theorem fin_back {c : Cmd} (h : Is c) : finM (cntK c.2.1 ++ keys_Name_F c) (c.1, 0, [], [], 0, []) = (backC c, asksB c.2.2.2.1) := by
  obtain ⟨b, r, hn, hb, _, hm⟩ := named_back h
  have hc := h.2.1
  have fin : finR (asksB c.2.2.2.1, [], backC c) = (backC c, asksB c.2.2.2.1) := by
    unfold finR
    have := asks13 c.2.2.2.1
    rw [if_neg (by dsimp only; omega), if_neg (by simp)]
  rw [finM_eq, hn]
  unfold cntK
  by_cases h0 : c.2.1 = 0
  · rw [if_pos h0, List.nil_append]
    have e : cntL (b :: r) 0 = (0, 0) := by unfold cntL; rw [if_pos (by omega)]
    rw [e]
    show finR (namedM (b :: r) (c.1, 0, [], [], 0, [])) = _
    have : (c.1, (0 : Int), ([] : List Int), ([] : List Int), (0 : Int), ([] : List Int)) = headC c := by unfold headC; rw [h0]
    rw [this, hm, fin]
  · rw [if_neg h0]
    have e1' : cntL (decI c.2.1.toNat) 0 = ((c.2.1.toNat : Int), (decI c.2.1.toNat).length) := decI_cnt (by omega) (by omega)
    have e2 : cntL (decI c.2.1.toNat ++ b :: r) 0 = ((c.2.1.toNat : Int), (decI c.2.1.toNat).length) := by
      rw [cntL_tail (by omega), e1']
    rw [e2]
    simp only [List.drop_left]
    have : setCnt (c.1, 0, [], [], 0, []) (c.2.1.toNat : Int) = headC c := by
      unfold setCnt headC
      rw [show (c.2.1.toNat : Int) = c.2.1 by omega]
    rw [this, hm, fin]

theorem parse_spell {c : Cmd} (h : Is c) : parseM (keys_Spell_F c) = (backC c, asksB c.2.2.2.1) := by
  obtain ⟨b, r, hn, hb, h34, hm⟩ := named_back h
  have hc := h.2.1
  rw [spell_eq h, ← fin_back h]
  by_cases h0 : c.1 = 0
  · rw [if_pos h0, List.nil_append]
    have hh : (cntK c.2.1 ++ keys_Name_F c).head? ≠ some 34 := by
      unfold cntK
      by_cases hz : c.2.1 = 0
      · rw [if_pos hz, hn]; simpa using h34
      · rw [if_neg hz]
        have q' : (decI c.2.1.toNat).head? ≠ some 34 ∧ decI c.2.1.toNat ≠ [] := decI_head (by omega)
        cases hd : decI c.2.1.toNat with
        | nil => exact absurd hd q'.2
        | cons x l => 
          rw [hd] at q'
          exact q'.1
    unfold parseM
    rw [if_neg hh, h0]
    rfl
  · rw [if_neg h0]
    unfold parseM
    rw [if_pos (show ([34, c.1] ++ (cntK c.2.1 ++ keys_Name_F c)).head? = some 34 from rfl)]
    show (if c.1 = 0 ∨ bank_Valid_F c.1 = false then (zC, 2) else finM (cntK c.2.1 ++ keys_Name_F c) (c.1, 0, [], [], 0, [])) = _
    rw [if_neg]
    rintro (q | q)
    · exact h0 q
    · rw [h.1] at q; cases q
end Go.VE
namespace Go.VE
open Go Go.Proofs

/-- key and argument of what was read -/
def Read (k : List Int) (a : Int) : Prop := ((∃ b ∈ markedL, k = [b]) → a ≠ 27) ∧ (¬ (∃ b ∈ markedL, k = [b]) → a = 0)

theorem read0 {k : List Int} (h : ¬ ∃ b ∈ markedL, k = [b]) : Read k 0 := ⟨fun hh => absurd hh h, fun _ => rfl⟩
theorem unm {b : Int} (h : b ∉ markedL) : ¬ ∃ x ∈ markedL, ([b] : List Int) = [x] := by
  rintro ⟨x, hx, e⟩; simp at e; subst e; exact h hx

theorem mot_is {r : List Int} {c1 c' : Cmd} {b w : Int} (hc : c1.2.2.2.2.1 = 0) (h : motM r c1 b = (w, [], c')) (hw : w = 1 ∨ w = 3) :
    ∃ k a, c' = (c1.1, c1.2.1, c1.2.2.1, k, a, c1.2.2.2.2.2) ∧ Motion k ∧ Read k a ∧ w = asksB k ∧ (k = [48] → b = 48) := by
  unfold motM at h
  have fin : ∀ (k : List Int) (w' : Int), (w', r, setKey c1 k) = (w, [], c') → Motion k → (¬ ∃ x ∈ markedL, k = [x]) → w' = asksB k → (k = [48] → b = 48) →
      ∃ k a, c' = (c1.1, c1.2.1, c1.2.2.1, k, a, c1.2.2.2.2.2) ∧ Motion k ∧ Read k a ∧ w = asksB k ∧ (k = [48] → b = 48) := fun k w' e h1 h2 h3 h4 => by
    simp only [Prod.mk.injEq] at e
    obtain ⟨e1, _, e3⟩ := e
    refine ⟨k, 0, ?_, h1, read0 h2, by rw [← e1]; exact h3, h4⟩
    rw [← key_set hc]
    exact e3.symm
  split at h
  · exact fin [8] 1 h (.inl rfl) (unm (by decide)) rfl (by simp)
  · split at h
    · exact fin [13] 1 h (.inr (.inl rfl)) (unm (by decide)) rfl (by simp)
    · split at h
      · rename_i h3
        have hm : Motion [b] ∧ b ∉ markedL ∧ asksB [b] = 1 := by
          rcases h3 with rfl | rfl | h3
          · exact ⟨.inl rfl, by decide, rfl⟩
          · exact ⟨.inr (.inl rfl), by decide, rfl⟩
          · have := singles_not h3
            refine ⟨.inr (.inr (.inr (.inr (.inr (.inr (.inr (.inl ⟨b, h3, rfl⟩))))))), this.2.2.2.1, ?_⟩
            unfold asksB; rw [if_neg (by simp; omega)]
        exact fin [b] 1 h hm.1 (unm hm.2.1) hm.2.2.symm (by simp)
      · split at h
        · rename_i h4
          have hm : Motion [b] ∧ b ∉ markedL ∧ asksB [b] = 3 := by
            rcases h4 with rfl | rfl
            · exact ⟨.inr (.inr (.inl rfl)), by decide, rfl⟩
            · exact ⟨.inr (.inr (.inr (.inl rfl))), by decide, rfl⟩
          exact fin [b] 3 h hm.1 (unm hm.2.1) hm.2.2.symm (by simp)
        · split at h
          · rename_i h5
            have hm := marked_not h5
            cases r with
            | nil => simp [argM] at h; omega
            | cons d r' =>
              simp only [argM] at h
              split at h
              · simp at h; omega
              · rename_i hd
                simp only [Prod.mk.injEq] at h
                obtain ⟨e1, _, e3⟩ := h
                refine ⟨[b], d, ?_, .inr (.inr (.inr (.inr (.inr (.inr (.inr (.inr ⟨b, h5, rfl⟩))))))), ⟨fun _ => hd, fun hn => absurd ⟨b, h5, rfl⟩ hn⟩, ?_, by simp⟩
                · have : c' = setArg (setKey c1 [b]) d := by simp_all
                  rw [this]; rfl
                · rw [← e1]; unfold asksB; rw [if_neg (by simp; omega)]
          · split at h
            · rename_i h6
              cases r with
              | nil => simp [gM] at h; omega
              | cons d r' =>
                simp only [gM] at h
                split at h
                · rename_i hd
                  simp only [Prod.mk.injEq] at h
                  obtain ⟨e1, _, e3⟩ := h
                  refine ⟨[103, d], 0, ?_, ?_, read0 (by rintro ⟨x, _, e⟩; simp at e), ?_, by simp⟩
                  · have : c' = setKey (setKey c1 [b]) [103, d] := by simp_all
                    rw [this]; unfold setKey; rw [hc]
                  · rcases hd with rfl | rfl | rfl
                    · exact .inr (.inr (.inr (.inr (.inl rfl))))
                    · exact .inr (.inr (.inr (.inr (.inr (.inl rfl)))))
                    · exact .inr (.inr (.inr (.inr (.inr (.inr (.inl rfl))))))
                  · rw [← e1]; unfold asksB; rw [if_neg (by simp)]
                · simp at h; omega
            · simp at h; omega

/-- what is read without an error is a command that keys make -/
theorem wrk_is {op : List Int} {l : Int} (ho : IsOp op l) {s : List Int} {c1 c' : Cmd} {w : Int} (hc : c1.2.2.2.2.1 = 0) (hco : c1.2.2.1 = op) (h : wrkM l s c1 = (w, [], c')) (hw : w = 1 ∨ w = 3) :
    ∃ k a, c' = (c1.1, c1.2.1, op, k, a, c1.2.2.2.2.2) ∧ (k = op ∨ Object k ∨ Motion k) ∧ Read k a ∧ w = asksB k := by
  have hlm := op_marked ho
  have opk : Read op 0 ∧ asksB op = 1 := by
    refine ⟨read0 ?_, ?_⟩
    · rintro ⟨x, hx, e⟩
      rcases ho with ⟨q, _⟩ | ⟨q, _⟩ <;> rw [q] at e <;> simp at e
      subst e; exact hlm.1 hx
    · unfold asksB
      rw [if_neg]
      rcases ho with ⟨q2, q3⟩ | ⟨q2, q3⟩ <;> rw [q2] <;> simp
      omega
  have own : ∀ (w' : Int) (s' : List Int), (w', s', setKey c1 c1.2.2.1) = (w, [], c') → w' = 1 → ∃ k a, c' = (c1.1, c1.2.1, op, k, a, c1.2.2.2.2.2) ∧ (k = op ∨ Object k ∨ Motion k) ∧ Read k a ∧ w = asksB k := fun w' s' e hw' => by
    simp only [Prod.mk.injEq] at e
    obtain ⟨e1, _, e3⟩ := e
    refine ⟨op, 0, ?_, .inl rfl, opk.1, by rw [opk.2]; omega⟩
    rw [← e3, key_set hc, hco]
  cases s with
  | nil => simp [wrkM] at h; omega
  | cons b r =>
    simp only [wrkM] at h
    split at h
    · exact own 1 r h rfl
    · split at h
      · rename_i hb
        cases r with
        | nil => simp [objM] at h; omega
        | cons d r' =>
          simp only [objM] at h
          split at h
          · rename_i hd
            simp only [Prod.mk.injEq] at h
            obtain ⟨e1, _, e3⟩ := h
            refine ⟨[b, d], 0, ?_, .inr (.inl ⟨b, d, hb, hd, rfl⟩), read0 (by rintro ⟨x, _, e⟩; simp at e), ?_⟩
            · rw [← e3, key_set hc, hco]
            · rw [← e1]; unfold asksB; rw [if_neg (by simp)]
          · simp at h; omega
      · split at h
        · exact own 1 r.tail h rfl
        · obtain ⟨k, a, e1, e2, e3, e4, _⟩ := mot_is hc h hw
          refine ⟨k, a, ?_, .inr (.inr e2), e3, e4⟩
          rw [e1, hco]

theorem head_is {s : List Int} {c0 c' : Cmd} {w : Int} (hz : c0 = headC c0) (hv : bank_Valid_F c0.1 = true) (hn : 0 ≤ c0.2.1 ∧ c0.2.1 ≤ 9999) (h48 : 0 < c0.2.1 → s.head? ≠ some 48) (h : namedM s c0 = (w, [], c')) (hw : w = 1 ∨ w = 3) :
    Is c' ∧ w = asksB c'.2.2.2.1 ∧ c'.2.2.2.2.2 = [] := by
  have hc : c0.2.2.2.2.1 = 0 := by rw [hz]; rfl
  have ho0 : c0.2.2.1 = [] := by rw [hz]; rfl
  have hl0 : c0.2.2.2.2.2 = [] := by rw [hz]; rfl
  -- without an operator
  have bare : ∀ (k : List Int) (a : Int), c' = (c0.1, c0.2.1, [], k, a, []) → (Motion k ∨ Plain0 k) → ((∃ b ∈ markedL, k = [b]) ∨ (∃ b ∈ ([114, 109] : List Int), k = [b]) → a ≠ 27) → (¬ ((∃ b ∈ markedL, k = [b]) ∨ (∃ b ∈ ([114, 109] : List Int), k = [b])) → a = 0) → w = asksB k → (k = [48] → s.head? = some 48) → Is c' ∧ w = asksB c'.2.2.2.1 ∧ c'.2.2.2.2.2 = [] := fun k a e h1 h2 h3 h4 h5 => by
    subst e
    refine ⟨⟨hv, hn, .inl ⟨rfl, h1⟩, fun hh => h2 ?_, fun hh => h3 (fun q => hh ?_), fun q => h48 q.2.2 (h5 q.2.1), .inl rfl⟩, h4, rfl⟩
    · rcases hh with hh | ⟨_, hh⟩
      · exact .inl hh
      · exact .inr hh
    · rcases q with q | q
      · exact .inl q
      · exact .inr ⟨rfl, q⟩
  have no2 : ∀ {k : List Int}, Motion k → ¬ ∃ b ∈ ([114, 109] : List Int), k = [b] := fun hm => by
    rintro ⟨b, hb, e⟩
    subst e
    have hb : b = 114 ∨ b = 109 := by simpa using hb
    rcases hm with q | q | q | q | q | q | q | ⟨x, hx, q⟩ | ⟨x, hx, q⟩ <;> simp at q
    · omega
    · omega
    · omega
    · omega
    · subst q; rcases hb with rfl | rfl <;> revert hx <;> decide
    · subst q; rcases hb with rfl | rfl <;> revert hx <;> decide
  have mot : ∀ (b : Int) (r : List Int), motM r c0 b = (w, [], c') → (b = 48 → s.head? = some 48) → Is c' ∧ w = asksB c'.2.2.2.1 ∧ c'.2.2.2.2.2 = [] := fun b r hm hb => by
    obtain ⟨k, a, e1, e2, e3, e4, e5⟩ := mot_is hc hm hw
    rw [ho0, hl0] at e1
    refine bare k a e1 (.inl e2) (fun q => e3.1 (q.resolve_right (no2 e2))) (fun q => e3.2 (fun q2 => q (.inl q2))) e4 (fun q => hb (e5 q))
  have work : ∀ (op : List Int) (l : Int) (r : List Int), IsOp op l → op ∈ opList → workM l r (setOp c0 op) = (w, [], c') → Is c' ∧ w = asksB c'.2.2.2.1 ∧ c'.2.2.2.2.2 = [] := fun op l r hop hin hm => by
    have hb := cntL_bound r 0 (by omega) (by omega)
    unfold workM at hm
    have ct : ∀ n : Int, 0 ≤ n ∧ n ≤ 9999 → (cntC n (setOp c0 op)).2.2.2.2.1 = 0 ∧ (cntC n (setOp c0 op)).2.2.1 = op ∧ (cntC n (setOp c0 op)).1 = c0.1 ∧ (cntC n (setOp c0 op)).2.2.2.2.2 = [] ∧ 0 ≤ (cntC n (setOp c0 op)).2.1 ∧ (cntC n (setOp c0 op)).2.1 ≤ 9999 := fun n hnn => by
      unfold cntC
      split
      · refine ⟨hc, rfl, rfl, hl0, ?_⟩
        show 0 ≤ mn (mx c0.2.1 1 * mx n 1) 9999 ∧ mn (mx c0.2.1 1 * mx n 1) 9999 ≤ 9999
        have m1 : ∀ a : Int, 1 ≤ mx a 1 := fun a => by rw [mxE]; split <;> omega
        have := mn_le' (mx c0.2.1 1 * mx n 1) 9999
        have hp : 0 ≤ mx c0.2.1 1 * mx n 1 := Int.mul_nonneg (by have := m1 c0.2.1; omega) (by have := m1 n; omega)
        exact ⟨this.2.2 hp (by omega), this.1⟩
      · exact ⟨hc, rfl, rfl, hl0, hn⟩
    obtain ⟨t1, t2, t3, t4, t5⟩ := ct _ hb
    obtain ⟨k, a, e1, e2, e3, e4⟩ := wrk_is hop t1 t2 hm hw
    subst e1
    refine ⟨⟨by show bank_Valid_F (cntC _ _).1 = true; rw [t3]; exact hv, t5, .inr ⟨hin, e2⟩, fun hh => e3.1 ?_, fun hh => e3.2 (fun q => hh (.inl q)), fun q => ?_, .inl t4⟩, e4, t4⟩
    · rcases hh with hh | ⟨q, _⟩
      · exact hh
      · have : op = [] := q
        rw [this] at hin; exact absurd hin (by decide)
    · have : op = [] := q.1
      rw [this] at hin; exact absurd hin (by decide)
  cases s with
  | nil => simp [namedM] at h; omega
  | cons b r =>
    simp only [namedM] at h
    split at h
    · rename_i hb
      refine work [b] b r (.inl ⟨rfl, hb⟩) ?_ h
      rcases hb with rfl | rfl | rfl | rfl | rfl <;> decide
    · split at h
      · rename_i hb
        simp only [Prod.mk.injEq] at h
        obtain ⟨e1, _, e3⟩ := h
        refine bare [58] 0 ?_ (.inr (.inr (.inr (.inl rfl)))) (fun q => ?_) (fun _ => rfl) (by rw [← e1]; rfl) (by simp)
        · rw [← e3, key_set hc, ho0, hl0]
        · exfalso
          rcases q with ⟨x, hx, e⟩ | ⟨x, hx, e⟩ <;> simp at e <;> subst e <;> revert hx <;> decide
      · split at h
        · rename_i hb
          cases r with
          | nil => simp [argM] at h; omega
          | cons d r' =>
            simp only [argM] at h
            split at h
            · simp at h; omega
            · rename_i hd
              simp only [Prod.mk.injEq] at h
              obtain ⟨e1, _, e3⟩ := h
              refine bare [b] d ?_ (.inr (.inr (.inl ⟨b, by simpa using hb, rfl⟩))) (fun _ => hd) (fun q => absurd (.inr ⟨b, by simpa using hb, rfl⟩) q) (by rw [← e1]; unfold asksB; rw [if_neg (by simp; omega)]) (fun e => by simp at e; simp [e])
              rw [← e3]
              unfold setArg setKey
              rw [ho0, hl0]
        · split at h
          · rename_i h103
            cases r with
            | nil => simp [g2M] at h; omega
            | cons d r' =>
              simp only [g2M] at h
              split at h
              · rename_i hd
                refine work [103, d] d r' (.inr ⟨rfl, hd⟩) ?_ h
                rcases hd with rfl | rfl | rfl <;> decide
              · split at h
                · rename_i hd
                  simp only [Prod.mk.injEq] at h
                  obtain ⟨e1, _, e3⟩ := h
                  refine bare [103, d] 0 ?_ (.inr ?_) (fun q => ?_) (fun _ => rfl) (by rw [← e1]; unfold asksB; rw [if_neg (by simp)]) (by simp)
                  · rw [← e3, key_set hc, ho0, hl0]
                  · rcases hd with rfl | rfl
                    · exact .inr (.inr (.inr (.inl rfl)))
                    · exact .inr (.inr (.inr (.inr rfl)))
                  · exfalso
                    rcases q with ⟨x, hx, e⟩ | ⟨x, hx, e⟩ <;> simp at e
                · exact mot 103 (d :: r') h (by omega)
          · split at h
            · rename_i hb
              have hp := plains_not hb
              simp only [Prod.mk.injEq] at h
              obtain ⟨e1, _, e3⟩ := h
              refine bare [b] 0 ?_ (.inr (.inl ⟨b, hb, rfl⟩)) (fun q => ?_) (fun _ => rfl) (by rw [← e1]; unfold asksB; rw [if_neg (by simp; omega)]) (fun e => by simp at e; simp [e])
              · rw [← e3, key_set hc, ho0, hl0]
              · exfalso
                rcases q with ⟨x, hx, e⟩ | ⟨x, hx, e⟩ <;> simp at e <;> subst e
                · exact hp.2.2.2.1 hx
                · have hx : b = 114 ∨ b = 109 := by simpa using hx
                  omega
            · exact mot b r h (fun e => by simp [e])
end Go.VE
namespace Go.VE
open Go Go.Proofs
/-! ### quoin/quoinlaw21.KeysBack -/
def ql_KeysBack_G : List (Nat × App) := [(10, ql_awake_S), (17, keys_Spell_S), (12, keys_Parse_S), (13, qr_Same_S)]
theorem ql_KeysBack_Gok : GOk Tryd.prog (getG ql_KeysBack_G) := GOk.cons ql_awake_ok (GOk.cons keys_Spell_ok (GOk.cons keys_Parse_ok (GOk.cons qr_Same_ok (GOk.nil))))
theorem ql_KeysBack_st : storesC (bodyOf Tryd.f5) = true := by kernel_rfl
def ql_KeysBack_d0 : List LS := [.v 1 (.sl (.int .u8))]
def ql_KeysBack_d0r : List LS := [.v 4 (.bool)]
def ql_KeysBack_dx0 : DX := ⟨none, some ql_KeysBack_d0r, []⟩
def ql_KeysBack_J0 (kr : Bool → Prop) (all1 : List Int) : Prop :=
 keys_Parse_P all1 ∧ (
 ∀ (r5 : CmT × Int), r5 = keys_Parse_F all1 → (
 wfR (.tup [.v (.st (.pair (.int .u8) (.pair (.int .i64) (.pair (.str) (.pair (.str) (.pair (.int .u8) (.sl (.int .u8)))))))) r5.1, .v (.int .i64) r5.2]) → (
 bif (!decide (r5.2 = (1 : Int))) then
 bif (!decide (r5.2 = (3 : Int))) then
 ∀ (r6 : Bool), r6 = qr_Same_F r5.1 ((0 : Int), (0 : Int), ([] : List Int), ([] : List Int), (0 : Int), ([] : List Int)) → (
 wfR (.one (.v (.bool) r6)) → (
 kr r6))
 else
 keys_Spell_P r5.1 ∧ (
 ∀ (r7 : List Int), r7 = keys_Spell_F r5.1 → (
 wfR (.one (.fr 5 (.int .u8) r7)) → (
 keys_Parse_P r7 ∧ (
 ∀ (r8 : CmT × Int), r8 = keys_Parse_F r7 → (
 wfR (.tup [.v (.st (.pair (.int .u8) (.pair (.int .i64) (.pair (.str) (.pair (.str) (.pair (.int .u8) (.sl (.int .u8)))))))) r8.1, .v (.int .i64) r8.2]) → (
 bif (decide (r8.2 = r5.2)) then
 ∀ (r9 : Bool), r9 = qr_Same_F r8.1 r5.1 → (
 wfR (.one (.v (.bool) r9)) → (
 kr r9))
 else
 kr false))))))
 else
 keys_Spell_P r5.1 ∧ (
 ∀ (r10 : List Int), r10 = keys_Spell_F r5.1 → (
 wfR (.one (.fr 5 (.int .u8) r10)) → (
 keys_Parse_P r10 ∧ (
 ∀ (r11 : CmT × Int), r11 = keys_Parse_F r10 → (
 wfR (.tup [.v (.st (.pair (.int .u8) (.pair (.int .i64) (.pair (.str) (.pair (.str) (.pair (.int .u8) (.sl (.int .u8)))))))) r11.1, .v (.int .i64) r11.2]) → (
 bif (decide (r11.2 = r5.2)) then
 ∀ (r12 : Bool), r12 = qr_Same_F r11.1 r5.1 → (
 wfR (.one (.v (.bool) r12)) → (
 kr r12))
 else
 kr false)))))))))
theorem ql_KeysBack_s0 (k : Ex → St → Prop) (all1 : List Int) :
    ex tb (getG ql_KeysBack_G) [] (at' (bodyOf Tryd.f5) [1, 1, 1]) [1, 1, 1] (mkD 87 ql_KeysBack_d0 (all1, ())) (wk 87 ql_KeysBack_dx0 k) =
    ql_KeysBack_J0 (fun x4 => wfD ql_KeysBack_d0r (x4, ()) → k .ret (mkD 87 ql_KeysBack_d0r (x4, ()))) all1 := by kernel_rfl
theorem ql_KeysBack_v0 (k : Ex → St → Prop) : ∀ v : vals ql_KeysBack_d0, ex tb (getG ql_KeysBack_G) [] (at' (bodyOf Tryd.f5) [1, 1, 1]) [1, 1, 1] (mkD 87 ql_KeysBack_d0 v) (wk 87 ql_KeysBack_dx0 k) = ql_KeysBack_J0 (fun x4 => wfD ql_KeysBack_d0r (x4, ()) → k .ret (mkD 87 ql_KeysBack_d0r (x4, ()))) v.1
  | (all1, ()) => ql_KeysBack_s0 k all1
def ql_KeysBack_X0 : Pce := fun st k => ckD 87 ql_KeysBack_d0 st fun v => wfD ql_KeysBack_d0 v → ql_KeysBack_J0 (fun x4 => wfD ql_KeysBack_d0r (x4, ()) → k .ret (mkD 87 ql_KeysBack_d0r (x4, ()))) v.1
set_option maxRecDepth 20000 in
theorem ql_KeysBack_x0 : SemOk Tryd.prog (at' (bodyOf Tryd.f5) [1, 1, 1]) ql_KeysBack_X0 :=
  (SemOk.wk (N := 87) (ds := ql_KeysBack_d0) (dx := ql_KeysBack_dx0) (ex_sound tb_M tb_ok ql_KeysBack_Gok (LabsOk.nil) (at' (bodyOf Tryd.f5) [1, 1, 1]) [1, 1, 1] rfl (storesC_at ql_KeysBack_st [1, 1, 1]))).mono fun st k h => ckD_mono h fun v hv hw => Eq.mpr (ql_KeysBack_v0 k v) (hv hw)
def ql_KeysBack_B0 : Labs := ([1, 1, 1], ql_KeysBack_X0) :: []
theorem ql_KeysBack_b0 : LabsOk Tryd.prog (bodyOf Tryd.f5) ql_KeysBack_B0 := LabsOk.cons ql_KeysBack_x0 (LabsOk.nil)
def ql_KeysBack_raw (c0 : CmT) (all1 : List Int) (K : Res → List Cell → Prop) : Prop :=
 ∀ (r1 : Bool), r1 = ql_awake_F → (
 wfR (.one (.v (.bool) r1)) → (
 bif (!r1) then
 K (.one (.v (.bool) false)) []
 else
 keys_Spell_P c0 ∧ (
 ∀ (r2 : List Int), r2 = keys_Spell_F c0 → (
 wfR (.one (.fr 5 (.int .u8) r2)) → (
 bif (decide ((0 : Int) < (List.length r2 : Int))) then
 keys_Parse_P r2 ∧ (
 ∀ (r3 : CmT × Int), r3 = keys_Parse_F r2 → (
 wfR (.tup [.v (.st (.pair (.int .u8) (.pair (.int .i64) (.pair (.str) (.pair (.str) (.pair (.int .u8) (.sl (.int .u8)))))))) r3.1, .v (.int .i64) r3.2]) → (
 bif (decide (c0.2.2.2.1 = ([47] : List Int))) then
 bif (!decide (r3.2 = (1 : Int))) then
 bif (!decide (r3.2 = (3 : Int))) then
 K (.one (.v (.bool) false)) []
 else
 bif ((decide (r3.2 = (3 : Int))) != true) then
 K (.one (.v (.bool) false)) []
 else
 ∀ (r4 : Bool), r4 = qr_Same_F (r3.1.1, r3.1.2.1, r3.1.2.2.1, r3.1.2.2.2.1, r3.1.2.2.2.2.1, c0.2.2.2.2.2) c0 → (
 wfR (.one (.v (.bool) r4)) → (
 bif (!r4) then
 K (.one (.v (.bool) false)) []
 else
 (wfD ql_KeysBack_d0 (all1, ()) → ql_KeysBack_J0 (fun (x4 : Bool) => wfD ql_KeysBack_d0r (x4, ()) → (
 K (.one (.v (.bool) x4)) [])) all1)))
 else
 bif ((decide (r3.2 = (3 : Int))) != true) then
 K (.one (.v (.bool) false)) []
 else
 ∀ (r13 : Bool), r13 = qr_Same_F (r3.1.1, r3.1.2.1, r3.1.2.2.1, r3.1.2.2.2.1, r3.1.2.2.2.2.1, c0.2.2.2.2.2) c0 → (
 wfR (.one (.v (.bool) r13)) → (
 bif (!r13) then
 K (.one (.v (.bool) false)) []
 else
 (wfD ql_KeysBack_d0 (all1, ()) → ql_KeysBack_J0 (fun (x4 : Bool) => wfD ql_KeysBack_d0r (x4, ()) → (
 K (.one (.v (.bool) x4)) [])) all1)))
 else
 bif (decide (c0.2.2.2.1 = ([63] : List Int))) then
 bif (!decide (r3.2 = (1 : Int))) then
 bif (!decide (r3.2 = (3 : Int))) then
 K (.one (.v (.bool) false)) []
 else
 bif ((decide (r3.2 = (3 : Int))) != true) then
 K (.one (.v (.bool) false)) []
 else
 ∀ (r14 : Bool), r14 = qr_Same_F (r3.1.1, r3.1.2.1, r3.1.2.2.1, r3.1.2.2.2.1, r3.1.2.2.2.2.1, c0.2.2.2.2.2) c0 → (
 wfR (.one (.v (.bool) r14)) → (
 bif (!r14) then
 K (.one (.v (.bool) false)) []
 else
 (wfD ql_KeysBack_d0 (all1, ()) → ql_KeysBack_J0 (fun (x4 : Bool) => wfD ql_KeysBack_d0r (x4, ()) → (
 K (.one (.v (.bool) x4)) [])) all1)))
 else
 bif ((decide (r3.2 = (3 : Int))) != true) then
 K (.one (.v (.bool) false)) []
 else
 ∀ (r15 : Bool), r15 = qr_Same_F (r3.1.1, r3.1.2.1, r3.1.2.2.1, r3.1.2.2.2.1, r3.1.2.2.2.2.1, c0.2.2.2.2.2) c0 → (
 wfR (.one (.v (.bool) r15)) → (
 bif (!r15) then
 K (.one (.v (.bool) false)) []
 else
 (wfD ql_KeysBack_d0 (all1, ()) → ql_KeysBack_J0 (fun (x4 : Bool) => wfD ql_KeysBack_d0r (x4, ()) → (
 K (.one (.v (.bool) x4)) [])) all1)))
 else
 bif (!decide (r3.2 = (1 : Int))) then
 bif (!decide (r3.2 = (3 : Int))) then
 K (.one (.v (.bool) false)) []
 else
 bif ((decide (r3.2 = (3 : Int))) != (decide (c0.2.2.2.1 = ([58] : List Int)))) then
 K (.one (.v (.bool) false)) []
 else
 ∀ (r16 : Bool), r16 = qr_Same_F (r3.1.1, r3.1.2.1, r3.1.2.2.1, r3.1.2.2.2.1, r3.1.2.2.2.2.1, c0.2.2.2.2.2) c0 → (
 wfR (.one (.v (.bool) r16)) → (
 bif (!r16) then
 K (.one (.v (.bool) false)) []
 else
 (wfD ql_KeysBack_d0 (all1, ()) → ql_KeysBack_J0 (fun (x4 : Bool) => wfD ql_KeysBack_d0r (x4, ()) → (
 K (.one (.v (.bool) x4)) [])) all1)))
 else
 bif ((decide (r3.2 = (3 : Int))) != (decide (c0.2.2.2.1 = ([58] : List Int)))) then
 K (.one (.v (.bool) false)) []
 else
 ∀ (r17 : Bool), r17 = qr_Same_F (r3.1.1, r3.1.2.1, r3.1.2.2.1, r3.1.2.2.2.1, r3.1.2.2.2.2.1, c0.2.2.2.2.2) c0 → (
 wfR (.one (.v (.bool) r17)) → (
 bif (!r17) then
 K (.one (.v (.bool) false)) []
 else
 (wfD ql_KeysBack_d0 (all1, ()) → ql_KeysBack_J0 (fun (x4 : Bool) => wfD ql_KeysBack_d0r (x4, ()) → (
 K (.one (.v (.bool) x4)) [])) all1))))))
 else
 (wfD ql_KeysBack_d0 (all1, ()) → ql_KeysBack_J0 (fun (x4 : Bool) => wfD ql_KeysBack_d0r (x4, ()) → (
 K (.one (.v (.bool) x4)) [])) all1))))))
def ql_KeysBack_A : List AS := [.v (.st (.pair (.int .u8) (.pair (.int .i64) (.pair (.str) (.pair (.str) (.pair (.int .u8) (.sl (.int .u8)))))))), .v (.sl (.int .u8))]
theorem ql_KeysBack_walk (c0 : CmT) (all1 : List Int) (K : Res → List Cell → Prop) : runF tb (getG ql_KeysBack_G) ql_KeysBack_B0 Tryd.f5 [true] (mkA ql_KeysBack_A (c0, all1, ())) K = ql_KeysBack_raw c0 all1 K := by kernel_rfl
--! law 1

def ql_KeysBack_R : App := runF tb (getG ql_KeysBack_G) ql_KeysBack_B0 Tryd.f5 [true]
theorem ql_KeysBack_ok : AppOk Tryd.prog 5 ql_KeysBack_R := runF_ok tb_M tb_ok ql_KeysBack_Gok (ql_KeysBack_b0) (f := 5) (fn := Tryd.f5) (by kernel_rfl) (by kernel_rfl) ql_KeysBack_st [true]
end Go.VE
namespace Go.VE
open Go Go.Proofs

theorem cntL_stop : ∀ (s : List Int) (n : Int), 0 ≤ n → n ≤ 9999 → 0 < (cntL s n).1 → (s.drop (cntL s n).2).head? ≠ some 48
  | [], n, _, _, _ => by simp [cntL]
  | b :: r, n, h0, h1, h => by
    unfold cntL at h ⊢
    split
    · rename_i hb
      rw [if_pos hb] at h
      dsimp only at h
      simp; omega
    · rename_i hb
      rw [if_neg hb] at h
      have := mn_le' (n * 10 + (b - 48)) 9999
      exact cntL_stop r _ (this.2.2 (by omega) (by omega)) this.1 h

def W4 (m : MR) : Prop := m.1 = 0 ∨ m.1 = 1 ∨ m.1 = 2 ∨ m.1 = 3
theorem arg_w (s : List Int) (c : Cmd) : W4 (argM s c) := by
  cases s with
  | nil => exact .inl rfl
  | cons b r => simp only [argM]; split <;> simp [W4]
theorem g_w (s : List Int) (c : Cmd) : W4 (gM s c) := by
  cases s with
  | nil => exact .inl rfl
  | cons b r => simp only [gM]; split <;> simp [W4]
theorem obj_w (b : Int) (s : List Int) (c : Cmd) : W4 (objM b s c) := by
  cases s with
  | nil => exact .inl rfl
  | cons d r => simp only [objM]; split <;> simp [W4]
theorem mot_w (s : List Int) (c : Cmd) (b : Int) : W4 (motM s c b) := by
  unfold motM
  split
  · simp [W4]
  · split
    · simp [W4]
    · split
      · simp [W4]
      · split
        · simp [W4]
        · split
          · exact arg_w _ _
          · split
            · exact g_w _ _
            · simp [W4]
theorem wrk_w4 (l : Int) (s : List Int) (c : Cmd) : W4 (wrkM l s c) := by
  cases s with
  | nil => exact .inl rfl
  | cons b r =>
    simp only [wrkM]
    split
    · simp [W4]
    · split
      · exact obj_w _ _ _
      · split
        · simp [W4]
        · exact mot_w _ _ _
theorem named_w (s : List Int) (c : Cmd) : W4 (namedM s c) := by
  cases s with
  | nil => exact .inl rfl
  | cons b r =>
    simp only [namedM]
    split
    · exact wrk_w4 _ _ _
    · split
      · simp [W4]
      · split
        · exact arg_w _ _
        · split
          · cases r with
            | nil => exact .inl rfl
            | cons d r' =>
              simp only [g2M]
              split
              · exact wrk_w4 _ _ _
              · split
                · simp [W4]
                · exact mot_w _ _ _
          · split
            · simp [W4]
            · exact mot_w _ _ _

/-- what a parse answers -/
def Fine (p : Cmd × Int) : Prop := ((p.2 = 1 ∨ p.2 = 3) → Is p.1 ∧ p.2 = asksB p.1.2.2.2.1 ∧ p.1.2.2.2.2.2 = []) ∧ (¬ (p.2 = 1 ∨ p.2 = 3) → p.1 = zC)

theorem fin_fine (s : List Int) (reg : Int) (hv : bank_Valid_F reg = true) : Fine (finM s (reg, 0, [], [], 0, [])) := by
  have hb := cntL_bound s 0 (by omega) (by omega)
  rw [finM_eq]
  have hw := named_w (s.drop (cntL s 0).2) (setCnt (reg, 0, [], [], 0, []) (cntL s 0).1)
  have hi : ∀ w c', namedM (s.drop (cntL s 0).2) (setCnt (reg, 0, [], [], 0, []) (cntL s 0).1) = (w, [], c') → (w = 1 ∨ w = 3) → Is c' ∧ w = asksB c'.2.2.2.1 ∧ c'.2.2.2.2.2 = [] :=
    fun w c' e hw => head_is (c0 := setCnt (reg, 0, [], [], 0, []) (cntL s 0).1) rfl hv hb (fun hp => cntL_stop s 0 (by omega) (by omega) hp) e hw
  generalize namedM (s.drop (cntL s 0).2) (setCnt (reg, 0, [], [], 0, []) (cntL s 0).1) = m at hw hi
  obtain ⟨w, t, c'⟩ := m
  unfold finR
  split
  · rename_i h
    dsimp only at h
    refine ⟨fun q => ?_, fun _ => rfl⟩
    dsimp only at q; omega
  · rename_i h
    dsimp only at h
    split
    · refine ⟨fun q => ?_, fun _ => rfl⟩
      dsimp only at q; omega
    · rename_i ht
      have ht : t = [] := by simpa using ht
      subst ht
      have h13 : w = 1 ∨ w = 3 := by
        unfold W4 at hw; dsimp only at hw; omega
      exact ⟨fun _ => hi w c' rfl h13, fun q => absurd h13 q⟩

theorem parse_fine (s : List Int) : Fine (parseM s) := by
  have z : ∀ k : Int, (k = 0 ∨ k = 2) → Fine (zC, k) := fun k hk => ⟨fun q => by dsimp only at q; omega, fun _ => rfl⟩
  unfold parseM
  split
  · split
    · exact z 0 (.inl rfl)
    · split
      · exact z 2 (.inr rfl)
      · rename_i n r _ hn
        refine fin_fine r n ?_
        cases hv : bank_Valid_F n with
        | true => rfl
        | false => exact absurd (.inr hv) hn
  · exact fin_fine s 0 (by kernel_rfl)

theorem is_short {c : Cmd} (h : Is c) : c.2.2.1.length ≤ 1048576 ∧ c.2.2.2.1.length ≤ 1048576 := by
  have mo : ∀ k : List Int, Motion k → k.length ≤ 2 := fun k hm => by
    rcases hm with q | q | q | q | q | q | q | ⟨x, _, q⟩ | ⟨x, _, q⟩ <;> rw [q] <;> simp
  have ol : ∀ o ∈ opList, o.length ≤ 2 := by decide
  rcases h.2.2.1 with ⟨ho, hk⟩ | ⟨ho, hk⟩
  · refine ⟨by rw [ho]; simp, ?_⟩
    rcases hk with hk | hk
    · have := mo _ hk; omega
    · rcases hk with ⟨x, _, q⟩ | ⟨x, _, q⟩ | q | q | q <;> rw [q] <;> simp
  · have h1 := ol _ ho
    refine ⟨by omega, ?_⟩
    rcases hk with hk | ⟨a, d, _, _, q⟩ | hk
    · rw [hk]; omega
    · rw [q]; simp
    · have := mo _ hk; omega

theorem back_J0 {kr : Bool → Prop} (hk : kr true) {all : List Int} (ha : all.length ≤ 1048576) (h255 : ∀ x ∈ all, 0 ≤ x ∧ x ≤ 255) : ql_KeysBack_J0 kr all := by
  have hf := parse_fine all
  have there : ∀ {k : Int}, (parseM all).2 = k → (k = 1 ∨ k = 3) → keys_Spell_P (parseM all).1 ∧ (∀ (r7 : List Int), r7 = keys_Spell_F (parseM all).1 → (wfR (.one (.fr 5 (.int .u8) r7)) → (
      keys_Parse_P r7 ∧ (∀ (r8 : Cmd × Int), r8 = keys_Parse_F r7 → (wfR (.tup [.v (.st (.pair (.int .u8) (.pair (.int .i64) (.pair (.str) (.pair (.str) (.pair (.int .u8) (.sl (.int .u8)))))))) r8.1, .v (.int .i64) r8.2]) → (
      bif (decide (r8.2 = (parseM all).2)) then ∀ (r9 : Bool), r9 = qr_Same_F r8.1 (parseM all).1 → (wfR (.one (.v (.bool) r9)) → (kr r9)) else kr false)))))) := fun {k} hk2 h13 => by
    obtain ⟨hi, hka, hl⟩ := hf.1 (by rw [hk2]; exact h13)
    obtain ⟨s1, s2⟩ := is_short hi
    refine ⟨(spell_P s1 s2).1, fun r7 h7 hwf => ?_⟩
    have hb : ∀ x ∈ r7, 0 ≤ x ∧ x ≤ 255 := hwf.2
    have hlen : r7.length ≤ 1099511627776 := by have := (spell_P s1 s2).2; rw [h7]; omega
    refine ⟨parse_P hlen hb, fun r8 h8 _ => ?_⟩
    rw [parse_F hlen hb, h7, parse_spell hi] at h8
    subst h8
    have hbk : backC (parseM all).1 = (parseM all).1 := by
      unfold backC
      rw [← hl]
    refine brn (fun _ => fun r9 h9 _ => ?_) (fun h => absurd hka.symm h)
    rw [hbk, same_self'] at h9
    subst h9; exact hk
  unfold ql_KeysBack_J0
  refine ⟨parse_P (by omega) h255, fun r5 h5 _ => ?_⟩
  rw [parse_F (by omega) h255] at h5
  subst h5
  refine brb (fun q1 => brb (fun q2 => fun r6 h6 _ => ?_) (fun q2 => ?_)) (fun q1 => ?_)
  · have q1 : (parseM all).2 ≠ 1 := by simpa using q1
    have q2 : (parseM all).2 ≠ 3 := by simpa using q2
    have := hf.2 (by rintro (h | h); exact q1 h; exact q2 h)
    have e : qr_Same_F (parseM all).1 zC = true := by rw [this]; exact same_self' _
    rw [show r6 = true from h6.trans e]
    exact hk
  · have q2 : (parseM all).2 = 3 := by simpa using q2
    exact there q2 (.inr rfl)
  · have q1 : (parseM all).2 = 1 := by simpa using q1
    exact there q1 (.inl rfl)

theorem back_raw {c : Cmd} {all : List Int} (ha : all.length ≤ 1048576) (h255 : ∀ x ∈ all, 0 ≤ x ∧ x ≤ 255) (h1 : c.2.2.1.length ≤ 1048576) (h2 : c.2.2.2.1.length ≤ 1048576) : ql_KeysBack_raw c all yesK := by
  have rest : (wfD ql_KeysBack_d0 (all, ()) → ql_KeysBack_J0 (fun (x4 : Bool) => wfD ql_KeysBack_d0r (x4, ()) → (yesK (.one (.v (.bool) x4)) [])) all) := fun _ => back_J0 (fun _ => rfl) ha h255
  unfold ql_KeysBack_raw
  intro r1 hr1 _
  subst hr1
  refine brb (fun h => by cases h) (fun _ => ?_)
  obtain ⟨pS, lS⟩ := spell_P h1 h2
  refine ⟨pS, fun r2 h_2 hwf => brn (fun hpos => ?_) (fun _ => rest)⟩
  have hb : ∀ x ∈ r2, 0 ≤ x ∧ x ≤ 255 := hwf.2
  have hlen : r2.length ≤ 1099511627776 := by rw [h_2]; omega
  have hi : Is c := by
    apply is_iff.1
    cases hh : keys_is_F c with
    | true => rfl
    | false =>
      exfalso
      have : keys_Spell_F c = [] := by unfold keys_Spell_F; rw [hh]; rfl
      rw [h_2, this] at hpos
      simp at hpos
  refine ⟨parse_P hlen hb, fun r3 h_3 _ => ?_⟩
  rw [parse_F hlen hb, h_2, parse_spell hi] at h_3
  subst h_3
  have same : ∀ r4 : Bool, r4 = qr_Same_F ((backC c).1, (backC c).2.1, (backC c).2.2.1, (backC c).2.2.2.1, (backC c).2.2.2.2.1, c.2.2.2.2.2) c → (wfR (.one (.v (.bool) r4)) → (
      bif (!r4) then yesK (.one (.v (.bool) false)) [] else (wfD ql_KeysBack_d0 (all, ()) → ql_KeysBack_J0 (fun (x4 : Bool) => wfD ql_KeysBack_d0r (x4, ()) → (yesK (.one (.v (.bool) x4)) [])) all))) := fun r4 h4 _ => by
    have e : qr_Same_F ((backC c).1, (backC c).2.1, (backC c).2.2.1, (backC c).2.2.2.1, (backC c).2.2.2.2.1, c.2.2.2.2.2) c = true := same_self' c
    rw [e] at h4
    subst h4
    exact rest
  have a47 : c.2.2.2.1 = [47] → asksB c.2.2.2.1 = 3 := fun h => by unfold asksB; rw [if_pos (.inl h)]
  have a63 : c.2.2.2.1 = [63] → asksB c.2.2.2.1 = 3 := fun h => by unfold asksB; rw [if_pos (.inr (.inl h))]
  dsimp only
  refine brn (fun q => ?_) (fun q47 => brn (fun q => ?_) (fun q63 => ?_))
  · rw [a47 q]
    exact brb (fun _ => brb (fun h => by simp at h) (fun _ => brb (fun h => by simp at h) (fun _ => same))) (fun h => by simp at h)
  · rw [a63 q]
    exact brb (fun _ => brb (fun h => by simp at h) (fun _ => brb (fun h => by simp at h) (fun _ => same))) (fun h => by simp at h)
  · by_cases q58 : c.2.2.2.1 = [58]
    · have e : asksB c.2.2.2.1 = 3 := by unfold asksB; rw [if_pos (.inr (.inr q58))]
      have e2 : decide (c.2.2.2.1 = [58]) = true := by simpa using q58
      rw [e, e2]
      exact brb (fun _ => brb (fun h => by simp at h) (fun _ => brb (fun h => by simp at h) (fun _ => same))) (fun h => by simp at h)
    · have e : asksB c.2.2.2.1 = 1 := by unfold asksB; rw [if_neg (by rintro (h | h | h); exact q47 h; exact q63 h; exact q58 h)]
      have e2 : decide (c.2.2.2.1 = [58]) = false := by simpa using q58
      rw [e, e2]
      exact brb (fun h => by simp at h) (fun _ => brb (fun h => by simp at h) (fun _ => same))

set_option maxRecDepth 100000 in
theorem back_law (v : valsA ql_KeysBack_A) (hw : wfA ql_KeysBack_A v) (hb : bulkA ql_KeysBack_A v ≤ 1048576) : ql_KeysBack_R (mkA ql_KeysBack_A v) yesK := by
  obtain ⟨c, all, ⟨⟩⟩ := v
  refine (ql_KeysBack_walk c all yesK).mpr ?_
  obtain ⟨_, h1, _⟩ := hw
  obtain ⟨r, n, o, k, a, l⟩ := c
  have hb' : (1 + (1 + ((List.length o + 1) + ((List.length k + 1) + (1 + bulk (.sl (.int .u8)) l))))) + (bulk (.sl (.int .u8)) all + 0) ≤ 1048576 := hb
  rw [bulk_bytes, bulk_bytes] at hb'
  exact back_raw (by omega) h1.2 (by show List.length o ≤ _; omega) (by show List.length k ≤ _; omega)
end Go.VE
namespace Go.VE
open Go Go.Proofs
/-! ### quoin/quoinlaw21.digits -/
def ql_digits_A : List AS := [.v (.int .i64)]
--! rec 1
--! res S
/-- the decimal digits of n (k digits at most are looked at) -/
def decL : Nat → Nat → List Int
  | 0, _ => []
  | k + 1, n => if n < 10 then [48 + (n : Int)] else decL k (n / 10) ++ [48 + ((n % 10 : Nat) : Int)]
def ql_digits_Pk (k : Nat) (n : Int) : Prop := 0 ≤ n ∧ n < 1000000 ∧ n.toNat < 10 ^ k ∧ 0 < k
def ql_digits_F (n : Int) : List Int := decL 7 n.toNat
theorem ql_digits_0 (n : Int) : ¬ ql_digits_Pk 0 n := fun h => absurd h.2.2.2 (Nat.lt_irrefl 0)

def ql_digits_Ck (k : Nat) (v : valsA ql_digits_A) (K : Res → List Cell → Prop) : Prop := ql_digits_Pk k v.1 ∧ ∀ r : List Int, r = ql_digits_F v.1 → K (.one (.v (.str) r)) []
def ql_digits_Sk (k : Nat) : App := specW ql_digits_A (ql_digits_Ck k)
def ql_digits_G (k : Nat) : List (Nat × App) := [(18, ql_digits_Sk k)]
theorem ql_digits_Gok (k : Nat) (h : AppOk Tryd.prog 18 (ql_digits_Sk k)) : GOk Tryd.prog (getG (ql_digits_G k)) := GOk.cons h (GOk.nil)
def ql_digits_raw (k : Nat) (n0 : Int) (K : Res → List Cell → Prop) : Prop :=
 bif (decide (n0 < (10 : Int))) then
 K (.one (.v (.str) ([(IntKind.wrap .u8 (IntKind.wrap .i64 ((48 : Int) + n0)))] : List Int))) []
 else
 ql_digits_Pk k (IntKind.wrap .i64 (Int.tdiv n0 (10 : Int))) ∧ (
 ∀ (r1 : List Int), r1 = ql_digits_F (IntKind.wrap .i64 (Int.tdiv n0 (10 : Int))) → (
 wfR (.one (.v (.str) r1)) → (
 ql_digits_Pk k (Int.tmod n0 (10 : Int)) ∧ (
 ∀ (r2 : List Int), r2 = ql_digits_F (Int.tmod n0 (10 : Int)) → (
 wfR (.one (.v (.str) r2)) → (
 bif decide (List.length r1 + List.length r2 ≤ lim) then
 K (.one (.v (.str) (r1 ++ r2))) []
 else False))))))
theorem ql_digits_walk (k : Nat) (n0 : Int) (K : Res → List Cell → Prop) : runF tb (getG (ql_digits_G k)) [] Tryd.f18 [true] (mkA ql_digits_A (n0, ())) K = ql_digits_raw k n0 K := by kernel_rfl
theorem ql_digits_wv (k : Nat) (K : Res → List Cell → Prop) : ∀ v : valsA ql_digits_A, runF tb (getG (ql_digits_G k)) [] Tryd.f18 [true] (mkA ql_digits_A v) K = ql_digits_raw k v.1 K
  | (n0, ()) => ql_digits_walk k n0 K

theorem decL_len : ∀ (k n : Nat), (decL k n).length ≤ k
  | 0, _ => Nat.le_refl 0
  | k + 1, n => by
    unfold decL
    split
    · simp
    · have := decL_len k (n / 10); rw [List.length_append]; simp only [List.length_cons, List.length_nil]; omega
theorem decL_more : ∀ (k n : Nat), n < 10 ^ k → 0 < k → decL (k + 1) n = decL k n
  | 0, n, h, h0 => absurd h0 (Nat.lt_irrefl 0)
  | 1, n, h, _ => by
    unfold decL
    rw [if_pos (by omega), if_pos (by omega)]
  | k + 2, n, h, _ => by
    rw [show decL (k + 2 + 1) n = if n < 10 then [48 + (n : Int)] else decL (k + 2) (n / 10) ++ [48 + ((n % 10 : Nat) : Int)] from rfl,
      show decL (k + 2) n = if n < 10 then [48 + (n : Int)] else decL (k + 1) (n / 10) ++ [48 + ((n % 10 : Nat) : Int)] from rfl]
    split
    · rfl
    · rw [decL_more (k + 1) (n / 10) (by rw [Nat.pow_succ] at h; omega) (by omega)]
theorem ql_digits_sp (k : Nat) (n0 : Int) (K : Res → List Cell → Prop) (hw : wfA ql_digits_A (n0, ())) (hp : ql_digits_Pk (k + 1) n0) (h : ∀ r : List Int, r = ql_digits_F n0 → K (.one (.v .str r)) []) : ql_digits_raw k n0 K := by
  obtain ⟨h0, h1, h2, _⟩ := hp
  unfold ql_digits_raw
  have e : n0 = (n0.toNat : Int) := by omega
  generalize n0.toNat = m at *
  subst e
  refine brn (fun hlt => ?_) (fun hge => ?_)
  · rw [wrap_i64 (n := 48 + (m : Int)) (by omega) (by omega), wrap_u8 (n := 48 + (m : Int)) (by omega) (by omega)]
    refine h _ ?_
    unfold ql_digits_F
    rw [Int.toNat_natCast]
    unfold decL
    rw [if_pos (by omega)]
  · have q1 : Int.tdiv (m : Int) 10 = ((m / 10 : Nat) : Int) := rfl
    have q2 : Int.tmod (m : Int) 10 = ((m % 10 : Nat) : Int) := rfl
    have hk : 0 < k := by
      cases k with
      | zero => simp at h2; omega
      | succ k => omega
    rw [q1, q2, wrap_i64 (by omega) (by omega)]
    have e1 : ql_digits_F ((m / 10 : Nat) : Int) ++ ql_digits_F ((m % 10 : Nat) : Int) = ql_digits_F (m : Int) := by
      unfold ql_digits_F
      simp only [Int.toNat_natCast]
      rw [decL_more 6 (m / 10) (by omega) (by omega)]
      rw [show decL 7 m = if m < 10 then [48 + (m : Int)] else decL 6 (m / 10) ++ [48 + ((m % 10 : Nat) : Int)] from rfl]
      rw [if_neg (by omega)]
      congr 1
      rw [show decL 7 (m % 10) = if m % 10 < 10 then [48 + ((m % 10 : Nat) : Int)] else decL 6 (m % 10 / 10) ++ [48 + ((m % 10 % 10 : Nat) : Int)] from rfl]
      rw [if_pos (by omega)]
    have len : ∀ n : Int, (ql_digits_F n).length ≤ 7 := fun n => decL_len 7 _
    have p1 : ql_digits_Pk k ((m / 10 : Nat) : Int) := ⟨by omega, by omega, by rw [Int.toNat_natCast]; rw [Nat.pow_succ] at h2; omega, hk⟩
    have p2 : ql_digits_Pk k ((m % 10 : Nat) : Int) := ⟨by omega, by omega, by
      rw [Int.toNat_natCast]
      have : 10 ^ 1 ≤ 10 ^ k := Nat.pow_le_pow_right (by omega) hk
      omega, hk⟩
    refine ⟨p1, fun r1 hr1 _ => ⟨p2, fun r2 hr2 _ => ?_⟩⟩
    subst hr1; subst hr2
    have l1 := len ((m / 10 : Nat) : Int)
    have l2 := len ((m % 10 : Nat) : Int)
    exact asrt (by unfold lim; omega) (h _ e1)

theorem ql_digits_okk : ∀ k, AppOk Tryd.prog 18 (ql_digits_Sk k)
  | 0 => AppOk.none fun v K h => ql_digits_0 v.1 h.1
  | k + 1 => AppOk.specW (spec_ok (runF_ok tb_M tb_ok (ql_digits_Gok k (ql_digits_okk k)) LabsOk.nil (f := 18) (fn := Tryd.f18) (by kernel_rfl) (by kernel_rfl) (by kernel_rfl) [true]) fun v K hw h => (ql_digits_wv k K v).mpr (ql_digits_sp k v.1 K hw h.1 h.2))
def ql_digits_P (n0 : Int) : Prop := ∃ k, ql_digits_Pk k n0
def ql_digits_C (v : valsA ql_digits_A) (K : Res → List Cell → Prop) : Prop := ql_digits_P v.1 ∧ ∀ r : List Int, r = ql_digits_F v.1 → K (.one (.v (.str) r)) []
def ql_digits_S : App := specW ql_digits_A ql_digits_C
theorem ql_digits_ok : AppOk Tryd.prog 18 ql_digits_S := fun ags K hs => (AppOk.any (b := ql_digits_Ck) ql_digits_okk) ags K (by
  obtain ⟨v, rfl, hb⟩ := rdA_of _ ags _ hs
  exact rdA_mk ql_digits_A v (fun v => ∃ k, ql_digits_Ck k v fun r o => wfR r → K r o) (hb.1.elim fun k hk => ⟨k, hk, hb.2⟩))
end Go.VE
namespace Go.VE
open Go Go.Proofs
/-! ### quoin/quoinref21.decimal -/
def qr_decimal_A : List AS := [.v (.int .i64)]
--! rec 1
--! res S
--! import F_ql_digits
def qr_decimal_Pk (k : Nat) (n : Int) : Prop := 0 ≤ n ∧ n < 1000000 ∧ n.toNat < 10 ^ k ∧ 0 < k
def qr_decimal_F (n : Int) : List Int := decL 7 n.toNat
theorem qr_decimal_0 (n : Int) : ¬ qr_decimal_Pk 0 n := fun h => absurd h.2.2.2 (Nat.lt_irrefl 0)

def qr_decimal_Ck (k : Nat) (v : valsA qr_decimal_A) (K : Res → List Cell → Prop) : Prop := qr_decimal_Pk k v.1 ∧ ∀ r : List Int, r = qr_decimal_F v.1 → K (.one (.v (.str) r)) []
def qr_decimal_Sk (k : Nat) : App := specW qr_decimal_A (qr_decimal_Ck k)
def qr_decimal_G (k : Nat) : List (Nat × App) := [(47, qr_decimal_Sk k)]
theorem qr_decimal_Gok (k : Nat) (h : AppOk Tryd.prog 47 (qr_decimal_Sk k)) : GOk Tryd.prog (getG (qr_decimal_G k)) := GOk.cons h (GOk.nil)
def qr_decimal_raw (k : Nat) (n0 : Int) (K : Res → List Cell → Prop) : Prop :=
 bif (decide (n0 < (10 : Int))) then
 K (.one (.v (.str) ([(IntKind.wrap .u8 (IntKind.wrap .i64 ((48 : Int) + n0)))] : List Int))) []
 else
 qr_decimal_Pk k (IntKind.wrap .i64 (Int.tdiv n0 (10 : Int))) ∧ (
 ∀ (r1 : List Int), r1 = qr_decimal_F (IntKind.wrap .i64 (Int.tdiv n0 (10 : Int))) → (
 wfR (.one (.v (.str) r1)) → (
 qr_decimal_Pk k (Int.tmod n0 (10 : Int)) ∧ (
 ∀ (r2 : List Int), r2 = qr_decimal_F (Int.tmod n0 (10 : Int)) → (
 wfR (.one (.v (.str) r2)) → (
 bif decide (List.length r1 + List.length r2 ≤ lim) then
 K (.one (.v (.str) (r1 ++ r2))) []
 else False))))))
theorem qr_decimal_walk (k : Nat) (n0 : Int) (K : Res → List Cell → Prop) : runF tb (getG (qr_decimal_G k)) [] Tryd.f47 [true] (mkA qr_decimal_A (n0, ())) K = qr_decimal_raw k n0 K := by kernel_rfl
theorem qr_decimal_wv (k : Nat) (K : Res → List Cell → Prop) : ∀ v : valsA qr_decimal_A, runF tb (getG (qr_decimal_G k)) [] Tryd.f47 [true] (mkA qr_decimal_A v) K = qr_decimal_raw k v.1 K
  | (n0, ()) => qr_decimal_walk k n0 K

theorem qr_decimal_sp (k : Nat) (n0 : Int) (K : Res → List Cell → Prop) (hw : wfA qr_decimal_A (n0, ())) (hp : qr_decimal_Pk (k + 1) n0) (h : ∀ r : List Int, r = qr_decimal_F n0 → K (.one (.v .str r)) []) : qr_decimal_raw k n0 K := by
  obtain ⟨h0, h1, h2, _⟩ := hp
  unfold qr_decimal_raw
  have e : n0 = (n0.toNat : Int) := by omega
  generalize n0.toNat = m at *
  subst e
  refine brn (fun hlt => ?_) (fun hge => ?_)
  · rw [wrap_i64 (n := 48 + (m : Int)) (by omega) (by omega), wrap_u8 (n := 48 + (m : Int)) (by omega) (by omega)]
    refine h _ ?_
    unfold qr_decimal_F
    rw [Int.toNat_natCast]
    unfold decL
    rw [if_pos (by omega)]
  · have q1 : Int.tdiv (m : Int) 10 = ((m / 10 : Nat) : Int) := rfl
    have q2 : Int.tmod (m : Int) 10 = ((m % 10 : Nat) : Int) := rfl
    have hk : 0 < k := by
      cases k with
      | zero => simp at h2; omega
      | succ k => omega
    rw [q1, q2, wrap_i64 (by omega) (by omega)]
    have e1 : qr_decimal_F ((m / 10 : Nat) : Int) ++ qr_decimal_F ((m % 10 : Nat) : Int) = qr_decimal_F (m : Int) := by
      unfold qr_decimal_F
      simp only [Int.toNat_natCast]
      rw [decL_more 6 (m / 10) (by omega) (by omega)]
      rw [show decL 7 m = if m < 10 then [48 + (m : Int)] else decL 6 (m / 10) ++ [48 + ((m % 10 : Nat) : Int)] from rfl]
      rw [if_neg (by omega)]
      congr 1
      rw [show decL 7 (m % 10) = if m % 10 < 10 then [48 + ((m % 10 : Nat) : Int)] else decL 6 (m % 10 / 10) ++ [48 + ((m % 10 % 10 : Nat) : Int)] from rfl]
      rw [if_pos (by omega)]
    have len : ∀ n : Int, (qr_decimal_F n).length ≤ 7 := fun n => decL_len 7 _
    have p1 : qr_decimal_Pk k ((m / 10 : Nat) : Int) := ⟨by omega, by omega, by rw [Int.toNat_natCast]; rw [Nat.pow_succ] at h2; omega, hk⟩
    have p2 : qr_decimal_Pk k ((m % 10 : Nat) : Int) := ⟨by omega, by omega, by
      rw [Int.toNat_natCast]
      have : 10 ^ 1 ≤ 10 ^ k := Nat.pow_le_pow_right (by omega) hk
      omega, hk⟩
    refine ⟨p1, fun r1 hr1 _ => ⟨p2, fun r2 hr2 _ => ?_⟩⟩
    subst hr1; subst hr2
    have l1 := len ((m / 10 : Nat) : Int)
    have l2 := len ((m % 10 : Nat) : Int)
    exact asrt (by unfold lim; omega) (h _ e1)

theorem qr_decimal_okk : ∀ k, AppOk Tryd.prog 47 (qr_decimal_Sk k)
  | 0 => AppOk.none fun v K h => qr_decimal_0 v.1 h.1
  | k + 1 => AppOk.specW (spec_ok (runF_ok tb_M tb_ok (qr_decimal_Gok k (qr_decimal_okk k)) LabsOk.nil (f := 47) (fn := Tryd.f47) (by kernel_rfl) (by kernel_rfl) (by kernel_rfl) [true]) fun v K hw h => (qr_decimal_wv k K v).mpr (qr_decimal_sp k v.1 K hw h.1 h.2))
def qr_decimal_P (n0 : Int) : Prop := ∃ k, qr_decimal_Pk k n0
def qr_decimal_C (v : valsA qr_decimal_A) (K : Res → List Cell → Prop) : Prop := qr_decimal_P v.1 ∧ ∀ r : List Int, r = qr_decimal_F v.1 → K (.one (.v (.str) r)) []
def qr_decimal_S : App := specW qr_decimal_A qr_decimal_C
theorem qr_decimal_ok : AppOk Tryd.prog 47 qr_decimal_S := fun ags K hs => (AppOk.any (b := qr_decimal_Ck) qr_decimal_okk) ags K (by
  obtain ⟨v, rfl, hb⟩ := rdA_of _ ags _ hs
  exact rdA_mk qr_decimal_A v (fun v => ∃ k, qr_decimal_Ck k v fun r o => wfR r → K r o) (hb.1.elim fun k hk => ⟨k, hk, hb.2⟩))
end Go.VE
namespace Go.VE
open Go Go.Proofs
/-! ### quoin/quoinref21.ahead -/
def qr_ahead_G : List (Nat × App) := [(47, qr_decimal_S)]
theorem qr_ahead_Gok : GOk Tryd.prog (getG qr_ahead_G) := GOk.cons qr_decimal_ok (GOk.nil)
theorem qr_ahead_st : storesC (bodyOf Tryd.f34) = true := by kernel_rfl
def qr_ahead_d0 : List LS := [.b 1 8 [], .v 3 (.str), .c 8 (.st (.pair (.int .u8) (.pair (.int .i64) (.pair (.str) (.pair (.str) (.pair (.int .u8) (.sl (.int .u8))))))))]
def qr_ahead_d0r : List LS := [.v 2 (.str)]
def qr_ahead_dx0 : DX := ⟨none, some qr_ahead_d0r, []⟩
def qr_ahead_J0 (kr : List Int → Prop) (s3 : List Int) (c1b : CmT) : Prop :=
 bif (!decide (c1b.2.1 = (0 : Int))) then
 qr_decimal_P c1b.2.1 ∧ (
 ∀ (r1 : List Int), r1 = qr_decimal_F c1b.2.1 → (
 wfR (.one (.v (.str) r1)) → (
 bif decide (List.length s3 + List.length r1 ≤ lim) then
 kr (s3 ++ r1)
 else False)))
 else
 kr s3
theorem qr_ahead_s0 (k : Ex → St → Prop) (s3 : List Int) (c1b : CmT) :
    ex tb (getG qr_ahead_G) [] (at' (bodyOf Tryd.f34) [1, 1, 1]) [1, 1, 1] (mkD 21 qr_ahead_d0 (s3, c1b, ())) (wk 21 qr_ahead_dx0 k) =
    qr_ahead_J0 (fun x2 => wfD qr_ahead_d0r (x2, ()) → k .ret (mkD 21 qr_ahead_d0r (x2, ()))) s3 c1b := by kernel_rfl
theorem qr_ahead_v0 (k : Ex → St → Prop) : ∀ v : vals qr_ahead_d0, ex tb (getG qr_ahead_G) [] (at' (bodyOf Tryd.f34) [1, 1, 1]) [1, 1, 1] (mkD 21 qr_ahead_d0 v) (wk 21 qr_ahead_dx0 k) = qr_ahead_J0 (fun x2 => wfD qr_ahead_d0r (x2, ()) → k .ret (mkD 21 qr_ahead_d0r (x2, ()))) v.1 v.2.1
  | (s3, c1b, ()) => qr_ahead_s0 k s3 c1b
def qr_ahead_X0 : Pce := fun st k => ckD 21 qr_ahead_d0 st fun v => wfD qr_ahead_d0 v → qr_ahead_J0 (fun x2 => wfD qr_ahead_d0r (x2, ()) → k .ret (mkD 21 qr_ahead_d0r (x2, ()))) v.1 v.2.1
set_option maxRecDepth 20000 in
theorem qr_ahead_x0 : SemOk Tryd.prog (at' (bodyOf Tryd.f34) [1, 1, 1]) qr_ahead_X0 :=
  (SemOk.wk (N := 21) (ds := qr_ahead_d0) (dx := qr_ahead_dx0) (ex_sound tb_M tb_ok qr_ahead_Gok (LabsOk.nil) (at' (bodyOf Tryd.f34) [1, 1, 1]) [1, 1, 1] rfl (storesC_at qr_ahead_st [1, 1, 1]))).mono fun st k h => ckD_mono h fun v hv hw => Eq.mpr (qr_ahead_v0 k v) (hv hw)
def qr_ahead_B0 : Labs := ([1, 1, 1], qr_ahead_X0) :: []
theorem qr_ahead_b0 : LabsOk Tryd.prog (bodyOf Tryd.f34) qr_ahead_B0 := LabsOk.cons qr_ahead_x0 (LabsOk.nil)
def qr_ahead_raw (c0 : CmT) (K : Res → List Cell → Prop) : Prop :=
 bif (!decide (c0.1 = (0 : Int))) then
 bif decide (List.length ([34] : List Int) + List.length ([c0.1] : List Int) ≤ lim) then
 (wfD qr_ahead_d0 ((([34] : List Int) ++ ([c0.1] : List Int)), c0, ()) → qr_ahead_J0 (fun (x2 : List Int) => wfD qr_ahead_d0r (x2, ()) → (
 K (.one (.v (.str) x2)) [])) (([34] : List Int) ++ ([c0.1] : List Int)) c0)
 else False
 else
 (wfD qr_ahead_d0 (([] : List Int), c0, ()) → qr_ahead_J0 (fun (x2 : List Int) => wfD qr_ahead_d0r (x2, ()) → (
 K (.one (.v (.str) x2)) [])) ([] : List Int) c0)
def qr_ahead_A : List AS := [.v (.st (.pair (.int .u8) (.pair (.int .i64) (.pair (.str) (.pair (.str) (.pair (.int .u8) (.sl (.int .u8))))))))]
theorem qr_ahead_walk (c0 : CmT) (K : Res → List Cell → Prop) : runF tb (getG qr_ahead_G) qr_ahead_B0 Tryd.f34 [true] (mkA qr_ahead_A (c0, ())) K = qr_ahead_raw c0 K := by kernel_rfl

def qr_ahead_J0_P (s3 : List Int) (c1b : CmT) : Prop :=
 bif (!decide (c1b.2.1 = (0 : Int))) then
 qr_decimal_P c1b.2.1 ∧ (
 let r1 : List Int := qr_decimal_F c1b.2.1
 (List.length s3 + List.length r1 ≤ lim))
 else
 True
def qr_ahead_J0_F (s3 : List Int) (c1b : CmT) : List Int :=
 bif (!decide (c1b.2.1 = (0 : Int))) then
 let r1 : List Int := qr_decimal_F c1b.2.1
 ((s3 ++ r1))
 else
 (s3)
set_option maxRecDepth 20000 in
theorem qr_ahead_J0_sp (kr : List Int → Prop) (s3 : List Int) (c1b : CmT) (hp : qr_ahead_J0_P s3 c1b) (hr : ∀ q : List Int, q = qr_ahead_J0_F s3 c1b → kr q) : qr_ahead_J0 kr s3 c1b := by
  unfold qr_ahead_J0
  unfold qr_ahead_J0_P at hp
  refine brb (fun c_1 => ?_) (fun c_1 => ?_)
  ·
    replace hp := cT c_1 hp
    refine ⟨hp.1, ?_⟩
    replace hp := hp.2
    intro r1 hr1
    subst hr1
    intro _
    refine asrt hp ?_
    have e := hr _ ((ctrue c_1) : qr_ahead_J0_F s3 c1b = _).symm
    exact e
  ·
    clear hp
    have e := hr _ ((cfalse c_1) : qr_ahead_J0_F s3 c1b = _).symm
    exact e
def qr_ahead_P (c0 : CmT) : Prop :=
 bif (!decide (c0.1 = (0 : Int))) then
 (List.length ([34] : List Int) + List.length ([c0.1] : List Int) ≤ lim) ∧ (
 qr_ahead_J0_P (([34] : List Int) ++ ([c0.1] : List Int)) c0)
 else
 qr_ahead_J0_P ([] : List Int) c0
def qr_ahead_F (c0 : CmT) : List Int :=
 bif (!decide (c0.1 = (0 : Int))) then
 let q0r : List Int := qr_ahead_J0_F (([34] : List Int) ++ ([c0.1] : List Int)) c0
 let x2 : List Int := q0r
 x2
 else
 let q0r : List Int := qr_ahead_J0_F ([] : List Int) c0
 let x2 : List Int := q0r
 x2
set_option maxRecDepth 20000 in
theorem qr_ahead_sp (c0 : CmT) (K : Res → List Cell → Prop) (_ : wfA qr_ahead_A (c0, ())) (hp : qr_ahead_P c0) (h : ∀ r : List Int, r = qr_ahead_F c0 → K (.one (.v (.str) r)) []) : qr_ahead_raw c0 K := by
  unfold qr_ahead_raw
  unfold qr_ahead_P at hp
  refine brb (fun c_2 => ?_) (fun c_2 => ?_)
  ·
    replace hp := cT c_2 hp
    refine asrt hp.1 ?_
    replace hp := hp.2
    refine fun _ => qr_ahead_J0_sp _ _ _ hp (fun q hq => ?_)
    subst hq
    intro _
    clear hp
    exact h _ ((ctrue c_2) : qr_ahead_F c0 = _).symm
  ·
    replace hp := cF c_2 hp
    refine fun _ => qr_ahead_J0_sp _ _ _ hp (fun q hq => ?_)
    subst hq
    intro _
    clear hp
    exact h _ ((cfalse c_2) : qr_ahead_F c0 = _).symm
def qr_ahead_C (v : valsA qr_ahead_A) (K : Res → List Cell → Prop) : Prop := qr_ahead_P v.1 ∧ ∀ r : List Int, r = qr_ahead_F v.1 → K (.one (.v (.str) r)) []
def qr_ahead_S : App := specW qr_ahead_A qr_ahead_C
theorem qr_ahead_wv (K : Res → List Cell → Prop) : ∀ v : valsA qr_ahead_A, runF tb (getG qr_ahead_G) qr_ahead_B0 Tryd.f34 [true] (mkA qr_ahead_A v) K = qr_ahead_raw v.1 K
  | (c0, ()) => qr_ahead_walk c0 K
set_option maxRecDepth 20000 in
theorem qr_ahead_ok : AppOk Tryd.prog 34 qr_ahead_S :=
  AppOk.specW (spec_ok (runF_ok tb_M tb_ok qr_ahead_Gok (qr_ahead_b0) (f := 34) (fn := Tryd.f34) (by kernel_rfl) (by kernel_rfl) qr_ahead_st [true]) fun v K hw h => (qr_ahead_wv K v).mpr (qr_ahead_sp v.1 K hw h.1 h.2))

end Go.VE
namespace Go.VE
open Go Go.Proofs
/-! ### quoin/quoinref21.takes -/
def qr_takes_G : List (Nat × App) := [(21, qr_motions_S), (24, qr_plains_S), (26, qr_found_S)]
theorem qr_takes_Gok : GOk Tryd.prog (getG qr_takes_G) := GOk.cons qr_motions_ok (GOk.cons qr_plains_ok (GOk.cons qr_found_ok (GOk.nil)))
def qr_takes_raw (k0 : List Int) (K : Res → List Cell → Prop) : Prop :=
 qr_motions_P  ∧ (
 ∀ (r1 : List (List Int) × List (List Int)), r1 = qr_motions_F → (
 wfR (.tup [.fr 9 (.str) r1.1, .fr 9 (.str) r1.2]) → (
 qr_plains_P  ∧ (
 ∀ (r2 : List (List Int) × List (List Int)), r2 = qr_plains_F → (
 wfR (.tup [.fr 9 (.str) r2.1, .fr 9 (.str) r2.2]) → (
 ∀ (r3 : Int × List Int), r3 = qr_found_F k0 r1.2 → (
 wfR (.tup [.v (.int .i64) r3.1, .v (.str) r3.2]) → (
 ∀ (r4 : Int × List Int), r4 = qr_found_F k0 r2.2 → (
 wfR (.tup [.v (.int .i64) r4.1, .v (.str) r4.2]) → (
 bif (decide (r3.1 = (2 : Int))) then
 K (.one (.v (.bool) true)) []
 else
 K (.one (.v (.bool) (decide (r4.1 = (2 : Int))))) []))))))))))
def qr_takes_A : List AS := [.v (.str)]
theorem qr_takes_walk (k0 : List Int) (K : Res → List Cell → Prop) : runF tb (getG qr_takes_G) [] Tryd.f33 [true] (mkA qr_takes_A (k0, ())) K = qr_takes_raw k0 K := by kernel_rfl

def qr_takes_P (k0 : List Int) : Prop :=
 qr_motions_P  ∧ (
 let r1 : List (List Int) × List (List Int) := qr_motions_F
 qr_plains_P )
def qr_takes_F (k0 : List Int) : Bool :=
 let r1 : List (List Int) × List (List Int) := qr_motions_F
 let r2 : List (List Int) × List (List Int) := qr_plains_F
 let r3 : Int × List Int := qr_found_F k0 r1.2
 let r4 : Int × List Int := qr_found_F k0 r2.2
 bif (decide (r3.1 = (2 : Int))) then
 true
 else
 (decide (r4.1 = (2 : Int)))
set_option maxRecDepth 20000 in
theorem qr_takes_sp (k0 : List Int) (K : Res → List Cell → Prop) (_ : wfA qr_takes_A (k0, ())) (hp : qr_takes_P k0) (h : ∀ r : Bool, r = qr_takes_F k0 → K (.one (.v (.bool) r)) []) : qr_takes_raw k0 K := by
  unfold qr_takes_raw
  unfold qr_takes_P at hp
  refine ⟨hp.1, ?_⟩
  replace hp := hp.2
  intro r1 hr1
  subst hr1
  intro _
  refine ⟨hp, ?_⟩
  intro r2 hr2
  subst hr2
  intro _
  intro r3 hr3
  subst hr3
  intro _
  intro r4 hr4
  subst hr4
  intro _
  refine brb (fun c_1 => ?_) (fun c_1 => ?_)
  ·
    exact h _ ((ctrue c_1) : qr_takes_F k0 = _).symm
  ·
    exact h _ ((cfalse c_1) : qr_takes_F k0 = _).symm
def qr_takes_C (v : valsA qr_takes_A) (K : Res → List Cell → Prop) : Prop := qr_takes_P v.1 ∧ ∀ r : Bool, r = qr_takes_F v.1 → K (.one (.v (.bool) r)) []
def qr_takes_S : App := specW qr_takes_A qr_takes_C
theorem qr_takes_wv (K : Res → List Cell → Prop) : ∀ v : valsA qr_takes_A, runF tb (getG qr_takes_G) [] Tryd.f33 [true] (mkA qr_takes_A v) K = qr_takes_raw v.1 K
  | (k0, ()) => qr_takes_walk k0 K
set_option maxRecDepth 20000 in
theorem qr_takes_ok : AppOk Tryd.prog 33 qr_takes_S :=
  AppOk.specW (spec_ok (runF_ok tb_M tb_ok qr_takes_Gok (LabsOk.nil) (f := 33) (fn := Tryd.f33) (by kernel_rfl) (by kernel_rfl) (by kernel_rfl) [true]) fun v K hw h => (qr_takes_wv K v).mpr (qr_takes_sp v.1 K hw h.1 h.2))

end Go.VE
namespace Go.VE
open Go Go.Proofs
/-! ### quoin/quoinref21.Name -/
def qr_Name_G : List (Nat × App) := [(32, qr_doubles_S), (34, qr_ahead_S), (11, qr_Parse_S), (33, qr_takes_S)]
theorem qr_Name_Gok : GOk Tryd.prog (getG qr_Name_G) := GOk.cons qr_doubles_ok (GOk.cons qr_ahead_ok (GOk.cons qr_Parse_ok (GOk.cons qr_takes_ok (GOk.nil))))
theorem qr_Name_st : storesC (bodyOf Tryd.f14) = true := by kernel_rfl
def qr_Name_d0 : List LS := [.b 1 8 [], .v 3 (.str), .c 8 (.st (.pair (.int .u8) (.pair (.int .i64) (.pair (.str) (.pair (.str) (.pair (.int .u8) (.sl (.int .u8))))))))]
def qr_Name_d0r : List LS := [.o 2 21 5 (.int .u8)]
def qr_Name_dx0 : DX := ⟨none, some qr_Name_d0r, []⟩
def qr_Name_J0 (kr : List Int → Prop) (name3 : List Int) (c1b : CmT) : Prop :=
 bif (decide (c1b.2.1 < (0 : Int))) then
 kr ([] : List Int)
 else
 bif (decide ((9999 : Int) < c1b.2.1)) then
 kr ([] : List Int)
 else
 qr_ahead_P c1b ∧ (
 ∀ (r2 : List Int), r2 = qr_ahead_F c1b → (
 wfR (.one (.v (.str) r2)) → (
 bif decide (List.length r2 + List.length name3 ≤ lim) then
 qr_Parse_P (r2 ++ name3) ∧ (
 ∀ (r3 : CmT × Int), r3 = qr_Parse_F (r2 ++ name3) → (
 wfR (.tup [.v (.st (.pair (.int .u8) (.pair (.int .i64) (.pair (.str) (.pair (.str) (.pair (.int .u8) (.sl (.int .u8)))))))) r3.1, .v (.int .i64) r3.2]) → (
 bif (!decide (r3.2 = (1 : Int))) then
 bif (!decide (r3.2 = (3 : Int))) then
 kr ([] : List Int)
 else
 bif (!decide (r3.1.1 = c1b.1)) then
 kr ([] : List Int)
 else
 bif (!decide (r3.1.2.1 = c1b.2.1)) then
 kr ([] : List Int)
 else
 bif (!decide (r3.1.2.2.1 = c1b.2.2.1)) then
 kr ([] : List Int)
 else
 bif (!decide (r3.1.2.2.2.1 = c1b.2.2.2.1)) then
 kr ([] : List Int)
 else
 bif (!decide (r3.1.2.2.2.2.1 = c1b.2.2.2.2.1)) then
 kr ([] : List Int)
 else
 bif (decide (r3.2 = (1 : Int))) then
 bif (decide ((0 : Int) < (List.length c1b.2.2.2.2.2 : Int))) then
 kr ([] : List Int)
 else
 kr name3
 else
 kr name3
 else
 bif (!decide (r3.1.1 = c1b.1)) then
 kr ([] : List Int)
 else
 bif (!decide (r3.1.2.1 = c1b.2.1)) then
 kr ([] : List Int)
 else
 bif (!decide (r3.1.2.2.1 = c1b.2.2.1)) then
 kr ([] : List Int)
 else
 bif (!decide (r3.1.2.2.2.1 = c1b.2.2.2.1)) then
 kr ([] : List Int)
 else
 bif (!decide (r3.1.2.2.2.2.1 = c1b.2.2.2.2.1)) then
 kr ([] : List Int)
 else
 bif (decide (r3.2 = (1 : Int))) then
 bif (decide ((0 : Int) < (List.length c1b.2.2.2.2.2 : Int))) then
 kr ([] : List Int)
 else
 kr name3
 else
 kr name3)))
 else False)))
theorem qr_Name_s0 (k : Ex → St → Prop) (name3 : List Int) (c1b : CmT) :
    ex tb (getG qr_Name_G) [] (at' (bodyOf Tryd.f14) [1, 1, 1, 1]) [1, 1, 1, 1] (mkD 113 qr_Name_d0 (name3, c1b, ())) (wk 113 qr_Name_dx0 k) =
    qr_Name_J0 (fun x2 => wfD qr_Name_d0r (x2, ()) → k .ret (mkD 113 qr_Name_d0r (x2, ()))) name3 c1b := by kernel_rfl
theorem qr_Name_v0 (k : Ex → St → Prop) : ∀ v : vals qr_Name_d0, ex tb (getG qr_Name_G) [] (at' (bodyOf Tryd.f14) [1, 1, 1, 1]) [1, 1, 1, 1] (mkD 113 qr_Name_d0 v) (wk 113 qr_Name_dx0 k) = qr_Name_J0 (fun x2 => wfD qr_Name_d0r (x2, ()) → k .ret (mkD 113 qr_Name_d0r (x2, ()))) v.1 v.2.1
  | (name3, c1b, ()) => qr_Name_s0 k name3 c1b
def qr_Name_X0 : Pce := fun st k => ckD 113 qr_Name_d0 st fun v => wfD qr_Name_d0 v → qr_Name_J0 (fun x2 => wfD qr_Name_d0r (x2, ()) → k .ret (mkD 113 qr_Name_d0r (x2, ()))) v.1 v.2.1
set_option maxRecDepth 20000 in
theorem qr_Name_x0 : SemOk Tryd.prog (at' (bodyOf Tryd.f14) [1, 1, 1, 1]) qr_Name_X0 :=
  (SemOk.wk (N := 113) (ds := qr_Name_d0) (dx := qr_Name_dx0) (ex_sound tb_M tb_ok qr_Name_Gok (LabsOk.nil) (at' (bodyOf Tryd.f14) [1, 1, 1, 1]) [1, 1, 1, 1] rfl (storesC_at qr_Name_st [1, 1, 1, 1]))).mono fun st k h => ckD_mono h fun v hv hw => Eq.mpr (qr_Name_v0 k v) (hv hw)
def qr_Name_B0 : Labs := ([1, 1, 1, 1], qr_Name_X0) :: []
theorem qr_Name_b0 : LabsOk Tryd.prog (bodyOf Tryd.f14) qr_Name_B0 := LabsOk.cons qr_Name_x0 (LabsOk.nil)
def qr_Name_d1 : List LS := [.b 1 8 [], .v 3 (.str), .c 8 (.st (.pair (.int .u8) (.pair (.int .i64) (.pair (.str) (.pair (.str) (.pair (.int .u8) (.sl (.int .u8))))))))]
def qr_Name_d1r : List LS := [.o 2 21 5 (.int .u8)]
def qr_Name_dx1 : DX := ⟨none, some qr_Name_d1r, []⟩
def qr_Name_J1 (kr : List Int → Prop) (name3 : List Int) (c1b : CmT) : Prop :=
 bif (!decide (c1b.2.2.2.2.1 = (0 : Int))) then
 bif decide (List.length name3 + List.length ([c1b.2.2.2.2.1] : List Int) ≤ lim) then
 (wfD qr_Name_d0 ((name3 ++ ([c1b.2.2.2.2.1] : List Int)), c1b, ()) → qr_Name_J0 (fun (x2 : List Int) => wfD qr_Name_d0r (x2, ()) → (
 kr x2)) (name3 ++ ([c1b.2.2.2.2.1] : List Int)) c1b)
 else False
 else
 qr_takes_P c1b.2.2.2.1 ∧ (
 ∀ (r4 : Bool), r4 = qr_takes_F c1b.2.2.2.1 → (
 wfR (.one (.v (.bool) r4)) → (
 bif r4 then
 bif decide (List.length name3 + List.length ([c1b.2.2.2.2.1] : List Int) ≤ lim) then
 (wfD qr_Name_d0 ((name3 ++ ([c1b.2.2.2.2.1] : List Int)), c1b, ()) → qr_Name_J0 (fun (x2 : List Int) => wfD qr_Name_d0r (x2, ()) → (
 kr x2)) (name3 ++ ([c1b.2.2.2.2.1] : List Int)) c1b)
 else False
 else
 (wfD qr_Name_d0 (name3, c1b, ()) → qr_Name_J0 (fun (x2 : List Int) => wfD qr_Name_d0r (x2, ()) → (
 kr x2)) name3 c1b))))
theorem qr_Name_s1 (k : Ex → St → Prop) (name3 : List Int) (c1b : CmT) :
    ex tb (getG qr_Name_G) qr_Name_B0 (at' (bodyOf Tryd.f14) [1, 1, 1]) [1, 1, 1] (mkD 113 qr_Name_d1 (name3, c1b, ())) (wk 113 qr_Name_dx1 k) =
    qr_Name_J1 (fun x2 => wfD qr_Name_d1r (x2, ()) → k .ret (mkD 113 qr_Name_d1r (x2, ()))) name3 c1b := by kernel_rfl
theorem qr_Name_v1 (k : Ex → St → Prop) : ∀ v : vals qr_Name_d1, ex tb (getG qr_Name_G) qr_Name_B0 (at' (bodyOf Tryd.f14) [1, 1, 1]) [1, 1, 1] (mkD 113 qr_Name_d1 v) (wk 113 qr_Name_dx1 k) = qr_Name_J1 (fun x2 => wfD qr_Name_d1r (x2, ()) → k .ret (mkD 113 qr_Name_d1r (x2, ()))) v.1 v.2.1
  | (name3, c1b, ()) => qr_Name_s1 k name3 c1b
def qr_Name_X1 : Pce := fun st k => ckD 113 qr_Name_d1 st fun v => wfD qr_Name_d1 v → qr_Name_J1 (fun x2 => wfD qr_Name_d1r (x2, ()) → k .ret (mkD 113 qr_Name_d1r (x2, ()))) v.1 v.2.1
set_option maxRecDepth 20000 in
theorem qr_Name_x1 : SemOk Tryd.prog (at' (bodyOf Tryd.f14) [1, 1, 1]) qr_Name_X1 :=
  (SemOk.wk (N := 113) (ds := qr_Name_d1) (dx := qr_Name_dx1) (ex_sound tb_M tb_ok qr_Name_Gok (qr_Name_b0) (at' (bodyOf Tryd.f14) [1, 1, 1]) [1, 1, 1] rfl (storesC_at qr_Name_st [1, 1, 1]))).mono fun st k h => ckD_mono h fun v hv hw => Eq.mpr (qr_Name_v1 k v) (hv hw)
def qr_Name_B1 : Labs := ([1, 1, 1], qr_Name_X1) :: qr_Name_B0
theorem qr_Name_b1 : LabsOk Tryd.prog (bodyOf Tryd.f14) qr_Name_B1 := LabsOk.cons qr_Name_x1 (qr_Name_b0)
def qr_Name_raw (c0 : CmT) (K : Res → List Cell → Prop) : Prop :=
 bif decide (List.length c0.2.2.1 + List.length c0.2.2.2.1 ≤ lim) then
 bif (!decide (c0.2.2.1 = ([] : List Int))) then
 bif (decide (c0.2.2.1 = c0.2.2.2.1)) then
 qr_doubles_P c0.2.2.1 ∧ (
 ∀ (r1 : List (List Int)), r1 = qr_doubles_F c0.2.2.1 → (
 wfR (.one (.fr 9 (.str) r1)) → (
 bif decide (0 ≤ (0 : Int) ∧ (0 : Int) < (List.length r1 : Int)) then
 bif decide (List.length c0.2.2.1 + List.length (rd ([] : List Int) r1 (0 : Int)) ≤ lim) then
 (wfD qr_Name_d1 ((c0.2.2.1 ++ (rd ([] : List Int) r1 (0 : Int))), c0, ()) → qr_Name_J1 (fun (x2 : List Int) => wfD qr_Name_d1r (x2, ()) → (
 K (.one (.fr 5 (.int .u8) x2)) [])) (c0.2.2.1 ++ (rd ([] : List Int) r1 (0 : Int))) c0)
 else False
 else False)))
 else
 (wfD qr_Name_d1 ((c0.2.2.1 ++ c0.2.2.2.1), c0, ()) → qr_Name_J1 (fun (x2 : List Int) => wfD qr_Name_d1r (x2, ()) → (
 K (.one (.fr 5 (.int .u8) x2)) [])) (c0.2.2.1 ++ c0.2.2.2.1) c0)
 else
 (wfD qr_Name_d1 ((c0.2.2.1 ++ c0.2.2.2.1), c0, ()) → qr_Name_J1 (fun (x2 : List Int) => wfD qr_Name_d1r (x2, ()) → (
 K (.one (.fr 5 (.int .u8) x2)) [])) (c0.2.2.1 ++ c0.2.2.2.1) c0)
 else False
def qr_Name_A : List AS := [.v (.st (.pair (.int .u8) (.pair (.int .i64) (.pair (.str) (.pair (.str) (.pair (.int .u8) (.sl (.int .u8))))))))]
theorem qr_Name_walk (c0 : CmT) (K : Res → List Cell → Prop) : runF tb (getG qr_Name_G) qr_Name_B1 Tryd.f14 [true] (mkA qr_Name_A (c0, ())) K = qr_Name_raw c0 K := by kernel_rfl

def qr_Name_J0_P (name3 : List Int) (c1b : CmT) : Prop :=
 bif (decide (c1b.2.1 < (0 : Int))) then
 True
 else
 bif (decide ((9999 : Int) < c1b.2.1)) then
 True
 else
 qr_ahead_P c1b ∧ (
 let r2 : List Int := qr_ahead_F c1b
 (List.length r2 + List.length name3 ≤ lim) ∧ (
 qr_Parse_P (r2 ++ name3)))
def qr_Name_J0_F (name3 : List Int) (c1b : CmT) : List Int :=
 bif (decide (c1b.2.1 < (0 : Int))) then
 (([] : List Int))
 else
 bif (decide ((9999 : Int) < c1b.2.1)) then
 (([] : List Int))
 else
 let r2 : List Int := qr_ahead_F c1b
 let r3 : CmT × Int := qr_Parse_F (r2 ++ name3)
 bif (!decide (r3.2 = (1 : Int))) then
 bif (!decide (r3.2 = (3 : Int))) then
 (([] : List Int))
 else
 bif (!decide (r3.1.1 = c1b.1)) then
 (([] : List Int))
 else
 bif (!decide (r3.1.2.1 = c1b.2.1)) then
 (([] : List Int))
 else
 bif (!decide (r3.1.2.2.1 = c1b.2.2.1)) then
 (([] : List Int))
 else
 bif (!decide (r3.1.2.2.2.1 = c1b.2.2.2.1)) then
 (([] : List Int))
 else
 bif (!decide (r3.1.2.2.2.2.1 = c1b.2.2.2.2.1)) then
 (([] : List Int))
 else
 (name3)
 else
 bif (!decide (r3.1.1 = c1b.1)) then
 (([] : List Int))
 else
 bif (!decide (r3.1.2.1 = c1b.2.1)) then
 (([] : List Int))
 else
 bif (!decide (r3.1.2.2.1 = c1b.2.2.1)) then
 (([] : List Int))
 else
 bif (!decide (r3.1.2.2.2.1 = c1b.2.2.2.1)) then
 (([] : List Int))
 else
 bif (!decide (r3.1.2.2.2.2.1 = c1b.2.2.2.2.1)) then
 (([] : List Int))
 else
 bif (decide ((0 : Int) < (List.length c1b.2.2.2.2.2 : Int))) then
 (([] : List Int))
 else
 (name3)
set_option maxRecDepth 20000 in
theorem qr_Name_J0_sp (kr : List Int → Prop) (name3 : List Int) (c1b : CmT) (hp : qr_Name_J0_P name3 c1b) (hr : ∀ q : List Int, q = qr_Name_J0_F name3 c1b → kr q) : qr_Name_J0 kr name3 c1b := by
  unfold qr_Name_J0
  unfold qr_Name_J0_P at hp
  refine brb (fun c_1 => ?_) (fun c_1 => ?_)
  ·
    clear hp
    have e := hr _ ((ctrue c_1) : qr_Name_J0_F name3 c1b = _).symm
    exact e
  ·
    replace hp := cF c_1 hp
    refine brb (fun c_2 => ?_) (fun c_2 => ?_)
    ·
      clear hp
      have e := hr _ ((Eq.trans (cfalse c_1) (ctrue c_2)) : qr_Name_J0_F name3 c1b = _).symm
      exact e
    ·
      replace hp := cF c_2 hp
      refine ⟨hp.1, ?_⟩
      replace hp := hp.2
      intro r2 hr2
      subst hr2
      intro _
      refine asrt hp.1 ?_
      replace hp := hp.2
      refine ⟨hp, ?_⟩
      intro r3 hr3
      subst hr3
      intro _
      refine brb (fun c_3 => ?_) (fun c_3 => ?_)
      ·
        refine brb (fun c_4 => ?_) (fun c_4 => ?_)
        ·
          have e := hr _ ((Eq.trans (cfalse c_1) (Eq.trans (cfalse c_2) (Eq.trans (ctrue c_3) (ctrue c_4)))) : qr_Name_J0_F name3 c1b = _).symm
          exact e
        ·
          refine brb (fun c_5 => ?_) (fun c_5 => ?_)
          ·
            have e := hr _ ((Eq.trans (cfalse c_1) (Eq.trans (cfalse c_2) (Eq.trans (ctrue c_3) (Eq.trans (cfalse c_4) (ctrue c_5))))) : qr_Name_J0_F name3 c1b = _).symm
            exact e
          ·
            refine brb (fun c_6 => ?_) (fun c_6 => ?_)
            ·
              have e := hr _ ((Eq.trans (cfalse c_1) (Eq.trans (cfalse c_2) (Eq.trans (ctrue c_3) (Eq.trans (cfalse c_4) (Eq.trans (cfalse c_5) (ctrue c_6)))))) : qr_Name_J0_F name3 c1b = _).symm
              exact e
            ·
              refine brb (fun c_7 => ?_) (fun c_7 => ?_)
              ·
                have e := hr _ ((Eq.trans (cfalse c_1) (Eq.trans (cfalse c_2) (Eq.trans (ctrue c_3) (Eq.trans (cfalse c_4) (Eq.trans (cfalse c_5) (Eq.trans (cfalse c_6) (ctrue c_7))))))) : qr_Name_J0_F name3 c1b = _).symm
                exact e
              ·
                refine brb (fun c_8 => ?_) (fun c_8 => ?_)
                ·
                  have e := hr _ ((Eq.trans (cfalse c_1) (Eq.trans (cfalse c_2) (Eq.trans (ctrue c_3) (Eq.trans (cfalse c_4) (Eq.trans (cfalse c_5) (Eq.trans (cfalse c_6) (Eq.trans (cfalse c_7) (ctrue c_8)))))))) : qr_Name_J0_F name3 c1b = _).symm
                  exact e
                ·
                  refine brb (fun c_9 => ?_) (fun c_9 => ?_)
                  ·
                    have e := hr _ ((Eq.trans (cfalse c_1) (Eq.trans (cfalse c_2) (Eq.trans (ctrue c_3) (Eq.trans (cfalse c_4) (Eq.trans (cfalse c_5) (Eq.trans (cfalse c_6) (Eq.trans (cfalse c_7) (Eq.trans (cfalse c_8) (ctrue c_9))))))))) : qr_Name_J0_F name3 c1b = _).symm
                    exact e
                  ·
                    refine brb (fun c_10 => ?_) (fun c_10 => ?_)
                    ·
                      exact absurd c_4 (by simp only [decide_eq_true_eq, decide_eq_false_iff_not, Bool.not_eq_eq_eq_not, Bool.not_true, Bool.not_false, Bool.not_eq_true, Bool.not_eq_false] at c_10 ⊢; first | exact c_10 | omega)
                    ·
                      have e := hr _ ((Eq.trans (cfalse c_1) (Eq.trans (cfalse c_2) (Eq.trans (ctrue c_3) (Eq.trans (cfalse c_4) (Eq.trans (cfalse c_5) (Eq.trans (cfalse c_6) (Eq.trans (cfalse c_7) (Eq.trans (cfalse c_8) (cfalse c_9))))))))) : qr_Name_J0_F name3 c1b = _).symm
                      exact e
      ·
        refine brb (fun c_11 => ?_) (fun c_11 => ?_)
        ·
          have e := hr _ ((Eq.trans (cfalse c_1) (Eq.trans (cfalse c_2) (Eq.trans (cfalse c_3) (ctrue c_11)))) : qr_Name_J0_F name3 c1b = _).symm
          exact e
        ·
          refine brb (fun c_12 => ?_) (fun c_12 => ?_)
          ·
            have e := hr _ ((Eq.trans (cfalse c_1) (Eq.trans (cfalse c_2) (Eq.trans (cfalse c_3) (Eq.trans (cfalse c_11) (ctrue c_12))))) : qr_Name_J0_F name3 c1b = _).symm
            exact e
          ·
            refine brb (fun c_13 => ?_) (fun c_13 => ?_)
            ·
              have e := hr _ ((Eq.trans (cfalse c_1) (Eq.trans (cfalse c_2) (Eq.trans (cfalse c_3) (Eq.trans (cfalse c_11) (Eq.trans (cfalse c_12) (ctrue c_13)))))) : qr_Name_J0_F name3 c1b = _).symm
              exact e
            ·
              refine brb (fun c_14 => ?_) (fun c_14 => ?_)
              ·
                have e := hr _ ((Eq.trans (cfalse c_1) (Eq.trans (cfalse c_2) (Eq.trans (cfalse c_3) (Eq.trans (cfalse c_11) (Eq.trans (cfalse c_12) (Eq.trans (cfalse c_13) (ctrue c_14))))))) : qr_Name_J0_F name3 c1b = _).symm
                exact e
              ·
                refine brb (fun c_15 => ?_) (fun c_15 => ?_)
                ·
                  have e := hr _ ((Eq.trans (cfalse c_1) (Eq.trans (cfalse c_2) (Eq.trans (cfalse c_3) (Eq.trans (cfalse c_11) (Eq.trans (cfalse c_12) (Eq.trans (cfalse c_13) (Eq.trans (cfalse c_14) (ctrue c_15)))))))) : qr_Name_J0_F name3 c1b = _).symm
                  exact e
                ·
                  refine brb (fun c_16 => ?_) (fun c_16 => ?_)
                  ·
                    refine brb (fun c_17 => ?_) (fun c_17 => ?_)
                    ·
                      have e := hr _ ((Eq.trans (cfalse c_1) (Eq.trans (cfalse c_2) (Eq.trans (cfalse c_3) (Eq.trans (cfalse c_11) (Eq.trans (cfalse c_12) (Eq.trans (cfalse c_13) (Eq.trans (cfalse c_14) (Eq.trans (cfalse c_15) (ctrue c_17))))))))) : qr_Name_J0_F name3 c1b = _).symm
                      exact e
                    ·
                      have e := hr _ ((Eq.trans (cfalse c_1) (Eq.trans (cfalse c_2) (Eq.trans (cfalse c_3) (Eq.trans (cfalse c_11) (Eq.trans (cfalse c_12) (Eq.trans (cfalse c_13) (Eq.trans (cfalse c_14) (Eq.trans (cfalse c_15) (cfalse c_17))))))))) : qr_Name_J0_F name3 c1b = _).symm
                      exact e
                  ·
                    exact absurd c_3 (by simp only [decide_eq_true_eq, decide_eq_false_iff_not, Bool.not_eq_eq_eq_not, Bool.not_true, Bool.not_false, Bool.not_eq_true, Bool.not_eq_false] at c_16 ⊢; first | exact c_16 | omega)
def qr_Name_J1_P (name3 : List Int) (c1b : CmT) : Prop :=
 bif (!decide (c1b.2.2.2.2.1 = (0 : Int))) then
 (List.length name3 + List.length ([c1b.2.2.2.2.1] : List Int) ≤ lim) ∧ (
 qr_Name_J0_P (name3 ++ ([c1b.2.2.2.2.1] : List Int)) c1b)
 else
 qr_takes_P c1b.2.2.2.1 ∧ (
 let r4 : Bool := qr_takes_F c1b.2.2.2.1
 bif r4 then
 (List.length name3 + List.length ([c1b.2.2.2.2.1] : List Int) ≤ lim) ∧ (
 qr_Name_J0_P (name3 ++ ([c1b.2.2.2.2.1] : List Int)) c1b)
 else
 qr_Name_J0_P name3 c1b)
def qr_Name_J1_F (name3 : List Int) (c1b : CmT) : List Int :=
 bif (!decide (c1b.2.2.2.2.1 = (0 : Int))) then
 let q0r : List Int := qr_Name_J0_F (name3 ++ ([c1b.2.2.2.2.1] : List Int)) c1b
 let x2 : List Int := q0r
 (x2)
 else
 let r4 : Bool := qr_takes_F c1b.2.2.2.1
 bif r4 then
 let q0r : List Int := qr_Name_J0_F (name3 ++ ([c1b.2.2.2.2.1] : List Int)) c1b
 let x2 : List Int := q0r
 (x2)
 else
 let q0r : List Int := qr_Name_J0_F name3 c1b
 let x2 : List Int := q0r
 (x2)
set_option maxRecDepth 20000 in
theorem qr_Name_J1_sp (kr : List Int → Prop) (name3 : List Int) (c1b : CmT) (hp : qr_Name_J1_P name3 c1b) (hr : ∀ q : List Int, q = qr_Name_J1_F name3 c1b → kr q) : qr_Name_J1 kr name3 c1b := by
  unfold qr_Name_J1
  unfold qr_Name_J1_P at hp
  refine brb (fun c_18 => ?_) (fun c_18 => ?_)
  ·
    replace hp := cT c_18 hp
    refine asrt hp.1 ?_
    replace hp := hp.2
    refine fun _ => qr_Name_J0_sp _ _ _ hp (fun q hq => ?_)
    subst hq
    intro _
    clear hp
    have e := hr _ ((ctrue c_18) : qr_Name_J1_F name3 c1b = _).symm
    exact e
  ·
    replace hp := cF c_18 hp
    refine ⟨hp.1, ?_⟩
    replace hp := hp.2
    intro r4 hr4
    subst hr4
    intro _
    refine brb (fun c_19 => ?_) (fun c_19 => ?_)
    ·
      replace hp := cT c_19 hp
      refine asrt hp.1 ?_
      replace hp := hp.2
      refine fun _ => qr_Name_J0_sp _ _ _ hp (fun q hq => ?_)
      subst hq
      intro _
      clear hp
      have e := hr _ ((Eq.trans (cfalse c_18) (ctrue c_19)) : qr_Name_J1_F name3 c1b = _).symm
      exact e
    ·
      replace hp := cF c_19 hp
      refine fun _ => qr_Name_J0_sp _ _ _ hp (fun q hq => ?_)
      subst hq
      intro _
      clear hp
      have e := hr _ ((Eq.trans (cfalse c_18) (cfalse c_19)) : qr_Name_J1_F name3 c1b = _).symm
      exact e
def qr_Name_P (c0 : CmT) : Prop :=
 (List.length c0.2.2.1 + List.length c0.2.2.2.1 ≤ lim) ∧ (
 bif (!decide (c0.2.2.1 = ([] : List Int))) then
 bif (decide (c0.2.2.1 = c0.2.2.2.1)) then
 qr_doubles_P c0.2.2.1 ∧ (
 let r1 : List (List Int) := qr_doubles_F c0.2.2.1
 (0 ≤ (0 : Int) ∧ (0 : Int) < (List.length r1 : Int)) ∧ (
 (List.length c0.2.2.1 + List.length (rd ([] : List Int) r1 (0 : Int)) ≤ lim) ∧ (
 qr_Name_J1_P (c0.2.2.1 ++ (rd ([] : List Int) r1 (0 : Int))) c0)))
 else
 qr_Name_J1_P (c0.2.2.1 ++ c0.2.2.2.1) c0
 else
 qr_Name_J1_P (c0.2.2.1 ++ c0.2.2.2.1) c0)
def qr_Name_F (c0 : CmT) : List Int :=
 bif (!decide (c0.2.2.1 = ([] : List Int))) then
 bif (decide (c0.2.2.1 = c0.2.2.2.1)) then
 let r1 : List (List Int) := qr_doubles_F c0.2.2.1
 let q1r : List Int := qr_Name_J1_F (c0.2.2.1 ++ (rd ([] : List Int) r1 (0 : Int))) c0
 let x2 : List Int := q1r
 x2
 else
 let q1r : List Int := qr_Name_J1_F (c0.2.2.1 ++ c0.2.2.2.1) c0
 let x2 : List Int := q1r
 x2
 else
 let q1r : List Int := qr_Name_J1_F (c0.2.2.1 ++ c0.2.2.2.1) c0
 let x2 : List Int := q1r
 x2
set_option maxRecDepth 20000 in
theorem qr_Name_sp (c0 : CmT) (K : Res → List Cell → Prop) (_ : wfA qr_Name_A (c0, ())) (hp : qr_Name_P c0) (h : ∀ r : List Int, r = qr_Name_F c0 → K (.one (.fr 5 (.int .u8) r)) []) : qr_Name_raw c0 K := by
  unfold qr_Name_raw
  unfold qr_Name_P at hp
  refine asrt hp.1 ?_
  replace hp := hp.2
  refine brb (fun c_20 => ?_) (fun c_20 => ?_)
  ·
    replace hp := cT c_20 hp
    refine brb (fun c_21 => ?_) (fun c_21 => ?_)
    ·
      replace hp := cT c_21 hp
      refine ⟨hp.1, ?_⟩
      replace hp := hp.2
      intro r1 hr1
      subst hr1
      intro _
      refine asrt hp.1 ?_
      replace hp := hp.2
      refine asrt hp.1 ?_
      replace hp := hp.2
      refine fun _ => qr_Name_J1_sp _ _ _ hp (fun q hq => ?_)
      subst hq
      intro _
      clear hp
      exact h _ ((Eq.trans (ctrue c_20) (ctrue c_21)) : qr_Name_F c0 = _).symm
    ·
      replace hp := cF c_21 hp
      refine fun _ => qr_Name_J1_sp _ _ _ hp (fun q hq => ?_)
      subst hq
      intro _
      clear hp
      exact h _ ((Eq.trans (ctrue c_20) (cfalse c_21)) : qr_Name_F c0 = _).symm
  ·
    replace hp := cF c_20 hp
    refine fun _ => qr_Name_J1_sp _ _ _ hp (fun q hq => ?_)
    subst hq
    intro _
    clear hp
    exact h _ ((cfalse c_20) : qr_Name_F c0 = _).symm
def qr_Name_C (v : valsA qr_Name_A) (K : Res → List Cell → Prop) : Prop := qr_Name_P v.1 ∧ ∀ r : List Int, r = qr_Name_F v.1 → K (.one (.fr 5 (.int .u8) r)) []
def qr_Name_S : App := specW qr_Name_A qr_Name_C
theorem qr_Name_wv (K : Res → List Cell → Prop) : ∀ v : valsA qr_Name_A, runF tb (getG qr_Name_G) qr_Name_B1 Tryd.f14 [true] (mkA qr_Name_A v) K = qr_Name_raw v.1 K
  | (c0, ()) => qr_Name_walk c0 K
set_option maxRecDepth 20000 in
theorem qr_Name_ok : AppOk Tryd.prog 14 qr_Name_S :=
  AppOk.specW (spec_ok (runF_ok tb_M tb_ok qr_Name_Gok (qr_Name_b1) (f := 14) (fn := Tryd.f14) (by kernel_rfl) (by kernel_rfl) qr_Name_st [true]) fun v K hw h => (qr_Name_wv K v).mpr (qr_Name_sp v.1 K hw h.1 h.2))

end Go.VE
namespace Go.VE
open Go Go.Proofs
/-! ### quoin/quoinref21.Spell -/
def qr_Spell_G : List (Nat × App) := [(14, qr_Name_S), (34, qr_ahead_S)]
theorem qr_Spell_Gok : GOk Tryd.prog (getG qr_Spell_G) := GOk.cons qr_Name_ok (GOk.cons qr_ahead_ok (GOk.nil))
def qr_Spell_raw (c0 : CmT) (K : Res → List Cell → Prop) : Prop :=
 qr_Name_P c0 ∧ (
 ∀ (r1 : List Int), r1 = qr_Name_F c0 → (
 wfR (.one (.fr 5 (.int .u8) r1)) → (
 bif (decide ((List.length r1 : Int) = (0 : Int))) then
 K (.one (.fr 5 (.int .u8) ([] : List Int))) []
 else
 qr_ahead_P c0 ∧ (
 ∀ (r2 : List Int), r2 = qr_ahead_F c0 → (
 wfR (.one (.v (.str) r2)) → (
 bif decide (List.length r2 + List.length r1 ≤ lim) then
 K (.one (.fr 5 (.int .u8) (r2 ++ r1))) []
 else False))))))
def qr_Spell_A : List AS := [.v (.st (.pair (.int .u8) (.pair (.int .i64) (.pair (.str) (.pair (.str) (.pair (.int .u8) (.sl (.int .u8))))))))]
theorem qr_Spell_walk (c0 : CmT) (K : Res → List Cell → Prop) : runF tb (getG qr_Spell_G) [] Tryd.f15 [true] (mkA qr_Spell_A (c0, ())) K = qr_Spell_raw c0 K := by kernel_rfl

def qr_Spell_P (c0 : CmT) : Prop :=
 qr_Name_P c0 ∧ (
 let r1 : List Int := qr_Name_F c0
 bif (decide ((List.length r1 : Int) = (0 : Int))) then
 True
 else
 qr_ahead_P c0 ∧ (
 let r2 : List Int := qr_ahead_F c0
 (List.length r2 + List.length r1 ≤ lim)))
def qr_Spell_F (c0 : CmT) : List Int :=
 let r1 : List Int := qr_Name_F c0
 bif (decide ((List.length r1 : Int) = (0 : Int))) then
 ([] : List Int)
 else
 let r2 : List Int := qr_ahead_F c0
 (r2 ++ r1)
set_option maxRecDepth 20000 in
theorem qr_Spell_sp (c0 : CmT) (K : Res → List Cell → Prop) (_ : wfA qr_Spell_A (c0, ())) (hp : qr_Spell_P c0) (h : ∀ r : List Int, r = qr_Spell_F c0 → K (.one (.fr 5 (.int .u8) r)) []) : qr_Spell_raw c0 K := by
  unfold qr_Spell_raw
  unfold qr_Spell_P at hp
  refine ⟨hp.1, ?_⟩
  replace hp := hp.2
  intro r1 hr1
  subst hr1
  intro _
  refine brb (fun c_1 => ?_) (fun c_1 => ?_)
  ·
    clear hp
    exact h _ ((ctrue c_1) : qr_Spell_F c0 = _).symm
  ·
    replace hp := cF c_1 hp
    refine ⟨hp.1, ?_⟩
    replace hp := hp.2
    intro r2 hr2
    subst hr2
    intro _
    refine asrt hp ?_
    exact h _ ((cfalse c_1) : qr_Spell_F c0 = _).symm
def qr_Spell_C (v : valsA qr_Spell_A) (K : Res → List Cell → Prop) : Prop := qr_Spell_P v.1 ∧ ∀ r : List Int, r = qr_Spell_F v.1 → K (.one (.fr 5 (.int .u8) r)) []
def qr_Spell_S : App := specW qr_Spell_A qr_Spell_C
theorem qr_Spell_wv (K : Res → List Cell → Prop) : ∀ v : valsA qr_Spell_A, runF tb (getG qr_Spell_G) [] Tryd.f15 [true] (mkA qr_Spell_A v) K = qr_Spell_raw v.1 K
  | (c0, ()) => qr_Spell_walk c0 K
set_option maxRecDepth 20000 in
theorem qr_Spell_ok : AppOk Tryd.prog 15 qr_Spell_S :=
  AppOk.specW (spec_ok (runF_ok tb_M tb_ok qr_Spell_Gok (LabsOk.nil) (f := 15) (fn := Tryd.f15) (by kernel_rfl) (by kernel_rfl) (by kernel_rfl) [true]) fun v K hw h => (qr_Spell_wv K v).mpr (qr_Spell_sp v.1 K hw h.1 h.2))

end Go.VE
namespace Go.VE
open Go Go.Proofs
theorem decL_decI0 : ∀ a b : Fin 100, decL 7 (100 * a.val + b.val) = decI (100 * a.val + b.val) := by decide +kernel
theorem decL_decI {n : Nat} (hn : n < 10000) : decL 7 n = decI n := by
  have := decL_decI0 ⟨n / 100, by omega⟩ ⟨n % 100, by omega⟩
  rw [show 100 * (n / 100) + n % 100 = n from by omega] at this
  exact this
def regL (c : Cmd) : List Int := if c.1 = 0 then [] else [34, c.1]
theorem aheadF {c : Cmd} (h0 : 0 ≤ c.2.1) (h1 : c.2.1 ≤ 9999) : qr_ahead_F c = regL c ++ cntK c.2.1 := by
  unfold qr_ahead_F qr_ahead_J0_F regL cntK qr_decimal_F
  rw [decL_decI (n := c.2.1.toNat) (by omega)]
  by_cases a : c.1 = 0 <;> by_cases b : c.2.1 = 0 <;> simp [a, b]
end Go.VE
namespace Go.VE
open Go Go.Proofs
def TakesL (k : List Int) : Prop := ∃ b, k = [b] ∧ (b ∈ markedL ∨ b = 114 ∨ b = 109)
theorem found_with {k : List Int} (hk : k ≠ []) {N : List (List Int)} (hN : ∀ n ∈ N, n.length = 1) : (qr_found_F k N).1 = 2 ↔ k ∈ N := by
  have hl : 0 < k.length := List.length_pos_iff.2 hk
  have e : qr_found_F k N = foundL k 0 N := rfl
  rw [e, found_long k N 0 (fun n hn => by have := hN n hn; omega)]
  split
  · rename_i h; simp [h]
  · rename_i h; simp [h]
theorem takes_nil : qr_takes_F [] = false := by decide +kernel
theorem takes_iff {k : List Int} : qr_takes_F k = true ↔ TakesL k := by
  by_cases hk : k = []
  · subst hk
    rw [takes_nil]
    refine ⟨fun h => (by cases h), fun ⟨b, hb, _⟩ => by cases hb⟩
  have m : ∀ n, n ∈ withL → n.length = 1 := fun n hn => with_one n (List.mem_append_left _ hn)
  have p : ∀ n, n ∈ plainW → n.length = 1 := fun n hn => with_one n (List.mem_append_right _ hn)
  have a1 := found_with hk m
  have a2 := found_with hk p
  have e : qr_takes_F k = (bif (decide ((qr_found_F k withL).1 = (2 : Int))) then true else decide ((qr_found_F k plainW).1 = (2 : Int))) := rfl
  rw [e]
  have q : (k ∈ withL ∨ k ∈ plainW) ↔ TakesL k := by
    constructor
    · intro h
      have hl : k.length = 1 := by rcases h with h | h; exact m _ h; exact p _ h
      match k, hl with
      | [b], _ =>
        refine ⟨b, rfl, ?_⟩
        rcases h with h | h
        · exact Or.inl ((memW b).1 h)
        · rw [plainW_eq] at h; simp at h; exact Or.inr h
    · rintro ⟨b, rfl, h | h | h⟩
      · exact Or.inl ((memW b).2 h)
      · right; rw [plainW_eq, h]; simp
      · right; rw [plainW_eq, h]; simp
  rw [← q, ← a1, ← a2]
  by_cases x : (qr_found_F k withL).1 = 2 <;> simp [x]
end Go.VE
namespace Go.VE
open Go Go.Proofs
def KeepsN (c d : Cmd) (st : Int) : Prop := (st = 1 ∧ c.2.2.2.2.2 = [] ∨ st = 3) ∧ d.1 = c.1 ∧ d.2.1 = c.2.1 ∧ d.2.2.1 = c.2.2.1 ∧ d.2.2.2.1 = c.2.2.2.1 ∧ d.2.2.2.2.1 = c.2.2.2.2.1
theorem nameJ0_in {n : List Int} {c : Cmd} (h0 : 0 ≤ c.2.1) (h1 : c.2.1 ≤ 9999)
    (h : KeepsN c (qr_Parse_F (qr_ahead_F c ++ n)).1 (qr_Parse_F (qr_ahead_F c ++ n)).2) : qr_Name_J0_F n c = n := by
  unfold qr_Name_J0_F
  obtain ⟨hs, a1, a2, a3, a4, a5⟩ := h
  dsimp only
  rw [a1, a2, a3, a4, a5]
  have x0 : ¬ c.2.1 < 0 := by omega
  have x1 : ¬ 9999 < c.2.1 := by omega
  rcases hs with ⟨hs, hl⟩ | hs
  · rw [hs, hl]; simp [x0, x1]
  · rw [hs]; simp [x0, x1]
theorem nameJ0_out {n : List Int} {c : Cmd} (hn : n ≠ []) (h : qr_Name_J0_F n c = n) : 0 ≤ c.2.1 ∧ c.2.1 ≤ 9999 ∧ KeepsN c (qr_Parse_F (qr_ahead_F c ++ n)).1 (qr_Parse_F (qr_ahead_F c ++ n)).2 := by
  unfold qr_Name_J0_F at h
  dsimp only at h
  generalize qr_Parse_F (qr_ahead_F c ++ n) = d at h ⊢
  unfold KeepsN
  have e : ([] : List Int) ≠ n := fun e => hn e.symm
  by_cases x0 : c.2.1 < 0
  · rw [decide_eq_true x0] at h; exact absurd h e
  by_cases x1 : 9999 < c.2.1
  · rw [decide_eq_false x0, decide_eq_true x1] at h; exact absurd h e
  rw [decide_eq_false x0, decide_eq_false x1] at h
  by_cases s1 : d.2 = 1 <;> by_cases s3 : d.2 = 3 <;> by_cases a1 : d.1.1 = c.1 <;> by_cases a2 : d.1.2.1 = c.2.1 <;> by_cases a3 : d.1.2.2.1 = c.2.2.1 <;> by_cases a4 : d.1.2.2.2.1 = c.2.2.2.1 <;> by_cases a5 : d.1.2.2.2.2.1 = c.2.2.2.2.1 <;> by_cases l : c.2.2.2.2.2 = [] <;> simp [s1, s3, a1, a2, a3, a4, a5, l, e] at h ⊢ <;> first | omega | exact absurd ((decide_eq_true (List.length_pos_iff.2 l) ▸ h : (bif true then [] else n) = n)) e
end Go.VE
