/- AgainDots: whatever the input, up to the bulk that the statement names, the law answers true, and what was handed in reads as it did. Its conditions: the bound of the given statement and the tables that its card ties, no other. -/
import Derived.Test.YtmnhjhamgacdnaaDoorC11
set_option linter.unusedVariables false
set_option linter.unusedSectionVars false
set_option linter.unusedSimpArgs false
namespace Go.VE
open Go Go.Proofs
/-! ### quoin/keys.motion -/
def keys_motion_G : List (Nat × App) := [(128, keys_one_S)]
theorem keys_motion_Gok : GOk Tryd.prog (getG keys_motion_G) := GOk.cons keys_one_ok (GOk.nil)
theorem keys_motion_st : storesC (bodyOf Tryd.f156) = true := by kernel_rfl
def keys_motion_d0 : List LS := [.v 0 (.str), .v 4 (.bool)]
def keys_motion_d0r : List LS := [.v 2 (.bool)]
def keys_motion_d0n : List LS := [.v 0 (.str)]
def keys_motion_dx0 : DX := ⟨some keys_motion_d0n, some keys_motion_d0r, []⟩
def keys_motion_J0 (kr : Bool → Prop) (kn : List Int → Prop) (key0 : List Int) (x4 : Bool) : Prop :=
 bif x4 then
 kr true
 else
 kn key0
theorem keys_motion_s0 (k : Ex → St → Prop) (key0 : List Int) (x4 : Bool) :
    ex tb (getG keys_motion_G) [] (at' (bodyOf Tryd.f156) [1, 0, 1, 0, 1]) [1, 0, 1, 0, 1] (mkD 18 keys_motion_d0 (key0, x4, ())) (wk 18 keys_motion_dx0 k) =
    keys_motion_J0 (fun x2 => wfD keys_motion_d0r (x2, ()) → k .ret (mkD 18 keys_motion_d0r (x2, ()))) (fun key0 => wfD keys_motion_d0n (key0, ()) → k .nrm (mkD 18 keys_motion_d0n (key0, ()))) key0 x4 := by kernel_rfl
theorem keys_motion_v0 (k : Ex → St → Prop) : ∀ v : vals keys_motion_d0, ex tb (getG keys_motion_G) [] (at' (bodyOf Tryd.f156) [1, 0, 1, 0, 1]) [1, 0, 1, 0, 1] (mkD 18 keys_motion_d0 v) (wk 18 keys_motion_dx0 k) = keys_motion_J0 (fun x2 => wfD keys_motion_d0r (x2, ()) → k .ret (mkD 18 keys_motion_d0r (x2, ()))) (fun key0 => wfD keys_motion_d0n (key0, ()) → k .nrm (mkD 18 keys_motion_d0n (key0, ()))) v.1 v.2.1
  | (key0, x4, ()) => keys_motion_s0 k key0 x4
def keys_motion_X0 : Pce := fun st k => ckD 18 keys_motion_d0 st fun v => wfD keys_motion_d0 v → keys_motion_J0 (fun x2 => wfD keys_motion_d0r (x2, ()) → k .ret (mkD 18 keys_motion_d0r (x2, ()))) (fun key0 => wfD keys_motion_d0n (key0, ()) → k .nrm (mkD 18 keys_motion_d0n (key0, ()))) v.1 v.2.1
set_option maxRecDepth 20000 in
theorem keys_motion_x0 : SemOk Tryd.prog (at' (bodyOf Tryd.f156) [1, 0, 1, 0, 1]) keys_motion_X0 :=
  (SemOk.wk (N := 18) (ds := keys_motion_d0) (dx := keys_motion_dx0) (ex_sound tb_M tb_ok keys_motion_Gok (LabsOk.nil) (at' (bodyOf Tryd.f156) [1, 0, 1, 0, 1]) [1, 0, 1, 0, 1] rfl (storesC_at keys_motion_st [1, 0, 1, 0, 1]))).mono fun st k h => ckD_mono h fun v hv hw => Eq.mpr (keys_motion_v0 k v) (hv hw)
def keys_motion_B0 : Labs := ([1, 0, 1, 0, 1], keys_motion_X0) :: []
theorem keys_motion_b0 : LabsOk Tryd.prog (bodyOf Tryd.f156) keys_motion_B0 := LabsOk.cons keys_motion_x0 (LabsOk.nil)
def keys_motion_d1 : List LS := [.v 0 (.str)]
def keys_motion_d1r : List LS := [.v 2 (.bool)]
def keys_motion_dx1 : DX := ⟨none, some keys_motion_d1r, []⟩
def keys_motion_J1 (kr : Bool → Prop) (key0 : List Int) : Prop :=
 keys_one_P key0 ([104, 108, 106, 107, 43, 45, 95, 48, 94, 36, 124, 71, 119, 98, 101, 87, 66, 69, 59, 44, 123, 125, 40, 41, 37, 110, 78, 42, 32] : List Int) ∧ (
 ∀ (r1 : Bool), r1 = keys_one_F key0 ([104, 108, 106, 107, 43, 45, 95, 48, 94, 36, 124, 71, 119, 98, 101, 87, 66, 69, 59, 44, 123, 125, 40, 41, 37, 110, 78, 42, 32] : List Int) → (
 wfR (.one (.v (.bool) r1)) → (
 bif r1 then
 kr true
 else
 keys_one_P key0 ([102, 70, 116, 84, 96, 39] : List Int) ∧ (
 ∀ (r2 : Bool), r2 = keys_one_F key0 ([102, 70, 116, 84, 96, 39] : List Int) → (
 wfR (.one (.v (.bool) r2)) → (
 kr r2))))))
theorem keys_motion_s1 (k : Ex → St → Prop) (key0 : List Int) :
    ex tb (getG keys_motion_G) keys_motion_B0 (at' (bodyOf Tryd.f156) [1, 1]) [1, 1] (mkD 18 keys_motion_d1 (key0, ())) (wk 18 keys_motion_dx1 k) =
    keys_motion_J1 (fun x2 => wfD keys_motion_d1r (x2, ()) → k .ret (mkD 18 keys_motion_d1r (x2, ()))) key0 := by kernel_rfl
theorem keys_motion_v1 (k : Ex → St → Prop) : ∀ v : vals keys_motion_d1, ex tb (getG keys_motion_G) keys_motion_B0 (at' (bodyOf Tryd.f156) [1, 1]) [1, 1] (mkD 18 keys_motion_d1 v) (wk 18 keys_motion_dx1 k) = keys_motion_J1 (fun x2 => wfD keys_motion_d1r (x2, ()) → k .ret (mkD 18 keys_motion_d1r (x2, ()))) v.1
  | (key0, ()) => keys_motion_s1 k key0
def keys_motion_X1 : Pce := fun st k => ckD 18 keys_motion_d1 st fun v => wfD keys_motion_d1 v → keys_motion_J1 (fun x2 => wfD keys_motion_d1r (x2, ()) → k .ret (mkD 18 keys_motion_d1r (x2, ()))) v.1
set_option maxRecDepth 20000 in
theorem keys_motion_x1 : SemOk Tryd.prog (at' (bodyOf Tryd.f156) [1, 1]) keys_motion_X1 :=
  (SemOk.wk (N := 18) (ds := keys_motion_d1) (dx := keys_motion_dx1) (ex_sound tb_M tb_ok keys_motion_Gok (keys_motion_b0) (at' (bodyOf Tryd.f156) [1, 1]) [1, 1] rfl (storesC_at keys_motion_st [1, 1]))).mono fun st k h => ckD_mono h fun v hv hw => Eq.mpr (keys_motion_v1 k v) (hv hw)
def keys_motion_B1 : Labs := ([1, 1], keys_motion_X1) :: keys_motion_B0
theorem keys_motion_b1 : LabsOk Tryd.prog (bodyOf Tryd.f156) keys_motion_B1 := LabsOk.cons keys_motion_x1 (keys_motion_b0)
def keys_motion_raw (key0 : List Int) (K : Res → List Cell → Prop) : Prop :=
 bif (decide (key0 = ([8] : List Int))) then
 (wfD keys_motion_d0 (key0, (decide (key0 = ([8] : List Int))), ()) → keys_motion_J0 (fun (x2 : Bool) => wfD keys_motion_d0r (x2, ()) → (
 K (.one (.v (.bool) x2)) [])) (fun (key0 : List Int) => wfD keys_motion_d0n (key0, ()) → (
 (wfD keys_motion_d1 (key0, ()) → keys_motion_J1 (fun (x2 : Bool) => wfD keys_motion_d1r (x2, ()) → (
 K (.one (.v (.bool) x2)) [])) key0))) key0 (decide (key0 = ([8] : List Int))))
 else
 bif (decide (key0 = ([13] : List Int))) then
 (wfD keys_motion_d0 (key0, (decide (key0 = ([13] : List Int))), ()) → keys_motion_J0 (fun (x2 : Bool) => wfD keys_motion_d0r (x2, ()) → (
 K (.one (.v (.bool) x2)) [])) (fun (key0 : List Int) => wfD keys_motion_d0n (key0, ()) → (
 (wfD keys_motion_d1 (key0, ()) → keys_motion_J1 (fun (x2 : Bool) => wfD keys_motion_d1r (x2, ()) → (
 K (.one (.v (.bool) x2)) [])) key0))) key0 (decide (key0 = ([13] : List Int))))
 else
 bif (decide (key0 = ([47] : List Int))) then
 (wfD keys_motion_d0 (key0, (decide (key0 = ([47] : List Int))), ()) → keys_motion_J0 (fun (x2 : Bool) => wfD keys_motion_d0r (x2, ()) → (
 K (.one (.v (.bool) x2)) [])) (fun (key0 : List Int) => wfD keys_motion_d0n (key0, ()) → (
 (wfD keys_motion_d1 (key0, ()) → keys_motion_J1 (fun (x2 : Bool) => wfD keys_motion_d1r (x2, ()) → (
 K (.one (.v (.bool) x2)) [])) key0))) key0 (decide (key0 = ([47] : List Int))))
 else
 bif (decide (key0 = ([63] : List Int))) then
 (wfD keys_motion_d0 (key0, (decide (key0 = ([63] : List Int))), ()) → keys_motion_J0 (fun (x2 : Bool) => wfD keys_motion_d0r (x2, ()) → (
 K (.one (.v (.bool) x2)) [])) (fun (key0 : List Int) => wfD keys_motion_d0n (key0, ()) → (
 (wfD keys_motion_d1 (key0, ()) → keys_motion_J1 (fun (x2 : Bool) => wfD keys_motion_d1r (x2, ()) → (
 K (.one (.v (.bool) x2)) [])) key0))) key0 (decide (key0 = ([63] : List Int))))
 else
 bif (decide (key0 = ([103, 103] : List Int))) then
 (wfD keys_motion_d0 (key0, (decide (key0 = ([103, 103] : List Int))), ()) → keys_motion_J0 (fun (x2 : Bool) => wfD keys_motion_d0r (x2, ()) → (
 K (.one (.v (.bool) x2)) [])) (fun (key0 : List Int) => wfD keys_motion_d0n (key0, ()) → (
 (wfD keys_motion_d1 (key0, ()) → keys_motion_J1 (fun (x2 : Bool) => wfD keys_motion_d1r (x2, ()) → (
 K (.one (.v (.bool) x2)) [])) key0))) key0 (decide (key0 = ([103, 103] : List Int))))
 else
 bif (decide (key0 = ([103, 101] : List Int))) then
 (wfD keys_motion_d0 (key0, (decide (key0 = ([103, 101] : List Int))), ()) → keys_motion_J0 (fun (x2 : Bool) => wfD keys_motion_d0r (x2, ()) → (
 K (.one (.v (.bool) x2)) [])) (fun (key0 : List Int) => wfD keys_motion_d0n (key0, ()) → (
 (wfD keys_motion_d1 (key0, ()) → keys_motion_J1 (fun (x2 : Bool) => wfD keys_motion_d1r (x2, ()) → (
 K (.one (.v (.bool) x2)) [])) key0))) key0 (decide (key0 = ([103, 101] : List Int))))
 else
 (wfD keys_motion_d0 (key0, (decide (key0 = ([103, 69] : List Int))), ()) → keys_motion_J0 (fun (x2 : Bool) => wfD keys_motion_d0r (x2, ()) → (
 K (.one (.v (.bool) x2)) [])) (fun (key0 : List Int) => wfD keys_motion_d0n (key0, ()) → (
 (wfD keys_motion_d1 (key0, ()) → keys_motion_J1 (fun (x2 : Bool) => wfD keys_motion_d1r (x2, ()) → (
 K (.one (.v (.bool) x2)) [])) key0))) key0 (decide (key0 = ([103, 69] : List Int))))
def keys_motion_A : List AS := [.v (.str)]
theorem keys_motion_walk (key0 : List Int) (K : Res → List Cell → Prop) : runF tb (getG keys_motion_G) keys_motion_B1 Tryd.f156 [true] (mkA keys_motion_A (key0, ())) K = keys_motion_raw key0 K := by kernel_rfl

def keys_motion_J0_F (key0 : List Int) (x4 : Bool) : (Bool) ⊕ (List Int) :=
 bif x4 then
 .inl (true)
 else
 .inr (key0)
set_option maxRecDepth 20000 in
theorem keys_motion_J0_sp (kr : Bool → Prop) (kn : List Int → Prop) (key0 : List Int) (x4 : Bool) (hr : ∀ q : Bool, keys_motion_J0_F key0 x4 = .inl q → kr q) (hn : ∀ q : List Int, keys_motion_J0_F key0 x4 = .inr q → kn q) : keys_motion_J0 kr kn key0 x4 := by
  unfold keys_motion_J0
  refine brb (fun c_1 => ?_) (fun c_1 => ?_)
  ·
    have e := hr _ ((ctrue c_1) : keys_motion_J0_F key0 x4 = _)
    exact e
  ·
    have e := hn _ ((cfalse c_1) : keys_motion_J0_F key0 x4 = _)
    exact e
def keys_motion_J1_P (key0 : List Int) : Prop :=
 keys_one_P key0 ([104, 108, 106, 107, 43, 45, 95, 48, 94, 36, 124, 71, 119, 98, 101, 87, 66, 69, 59, 44, 123, 125, 40, 41, 37, 110, 78, 42, 32] : List Int) ∧ (
 let r1 : Bool := keys_one_F key0 ([104, 108, 106, 107, 43, 45, 95, 48, 94, 36, 124, 71, 119, 98, 101, 87, 66, 69, 59, 44, 123, 125, 40, 41, 37, 110, 78, 42, 32] : List Int)
 bif r1 then
 True
 else
 keys_one_P key0 ([102, 70, 116, 84, 96, 39] : List Int))
def keys_motion_J1_F (key0 : List Int) : Bool :=
 let r1 : Bool := keys_one_F key0 ([104, 108, 106, 107, 43, 45, 95, 48, 94, 36, 124, 71, 119, 98, 101, 87, 66, 69, 59, 44, 123, 125, 40, 41, 37, 110, 78, 42, 32] : List Int)
 bif r1 then
 (true)
 else
 let r2 : Bool := keys_one_F key0 ([102, 70, 116, 84, 96, 39] : List Int)
 (r2)
set_option maxRecDepth 20000 in
theorem keys_motion_J1_sp (kr : Bool → Prop) (key0 : List Int) (hp : keys_motion_J1_P key0) (hr : ∀ q : Bool, q = keys_motion_J1_F key0 → kr q) : keys_motion_J1 kr key0 := by
  unfold keys_motion_J1
  unfold keys_motion_J1_P at hp
  refine ⟨hp.1, ?_⟩
  replace hp := hp.2
  intro r1 hr1
  subst hr1
  intro _
  refine brb (fun c_2 => ?_) (fun c_2 => ?_)
  ·
    clear hp
    have e := hr _ ((ctrue c_2) : keys_motion_J1_F key0 = _).symm
    exact e
  ·
    replace hp := cF c_2 hp
    refine ⟨hp, ?_⟩
    intro r2 hr2
    subst hr2
    intro _
    have e := hr _ ((cfalse c_2) : keys_motion_J1_F key0 = _).symm
    exact e
def keys_motion_P (key0 : List Int) : Prop :=
 bif (decide (key0 = ([8] : List Int))) then
 Sum.elim (fun q0r =>
 True) (fun q0n =>
 let key0 : List Int := q0n
 keys_motion_J1_P key0) (keys_motion_J0_F key0 (decide (key0 = ([8] : List Int))))
 else
 bif (decide (key0 = ([13] : List Int))) then
 Sum.elim (fun q0r =>
 True) (fun q0n =>
 let key0 : List Int := q0n
 keys_motion_J1_P key0) (keys_motion_J0_F key0 (decide (key0 = ([13] : List Int))))
 else
 bif (decide (key0 = ([47] : List Int))) then
 Sum.elim (fun q0r =>
 True) (fun q0n =>
 let key0 : List Int := q0n
 keys_motion_J1_P key0) (keys_motion_J0_F key0 (decide (key0 = ([47] : List Int))))
 else
 bif (decide (key0 = ([63] : List Int))) then
 Sum.elim (fun q0r =>
 True) (fun q0n =>
 let key0 : List Int := q0n
 keys_motion_J1_P key0) (keys_motion_J0_F key0 (decide (key0 = ([63] : List Int))))
 else
 bif (decide (key0 = ([103, 103] : List Int))) then
 Sum.elim (fun q0r =>
 True) (fun q0n =>
 let key0 : List Int := q0n
 keys_motion_J1_P key0) (keys_motion_J0_F key0 (decide (key0 = ([103, 103] : List Int))))
 else
 bif (decide (key0 = ([103, 101] : List Int))) then
 Sum.elim (fun q0r =>
 True) (fun q0n =>
 let key0 : List Int := q0n
 keys_motion_J1_P key0) (keys_motion_J0_F key0 (decide (key0 = ([103, 101] : List Int))))
 else
 Sum.elim (fun q0r =>
 True) (fun q0n =>
 let key0 : List Int := q0n
 keys_motion_J1_P key0) (keys_motion_J0_F key0 (decide (key0 = ([103, 69] : List Int))))
def keys_motion_F (key0 : List Int) : Bool :=
 bif (decide (key0 = ([8] : List Int))) then
 Sum.elim (fun q0r =>
 let x2 : Bool := q0r
 x2) (fun q0n =>
 let key0 : List Int := q0n
 let q1r : Bool := keys_motion_J1_F key0
 let x2 : Bool := q1r
 x2) (keys_motion_J0_F key0 (decide (key0 = ([8] : List Int))))
 else
 bif (decide (key0 = ([13] : List Int))) then
 Sum.elim (fun q0r =>
 let x2 : Bool := q0r
 x2) (fun q0n =>
 let key0 : List Int := q0n
 let q1r : Bool := keys_motion_J1_F key0
 let x2 : Bool := q1r
 x2) (keys_motion_J0_F key0 (decide (key0 = ([13] : List Int))))
 else
 bif (decide (key0 = ([47] : List Int))) then
 Sum.elim (fun q0r =>
 let x2 : Bool := q0r
 x2) (fun q0n =>
 let key0 : List Int := q0n
 let q1r : Bool := keys_motion_J1_F key0
 let x2 : Bool := q1r
 x2) (keys_motion_J0_F key0 (decide (key0 = ([47] : List Int))))
 else
 bif (decide (key0 = ([63] : List Int))) then
 Sum.elim (fun q0r =>
 let x2 : Bool := q0r
 x2) (fun q0n =>
 let key0 : List Int := q0n
 let q1r : Bool := keys_motion_J1_F key0
 let x2 : Bool := q1r
 x2) (keys_motion_J0_F key0 (decide (key0 = ([63] : List Int))))
 else
 bif (decide (key0 = ([103, 103] : List Int))) then
 Sum.elim (fun q0r =>
 let x2 : Bool := q0r
 x2) (fun q0n =>
 let key0 : List Int := q0n
 let q1r : Bool := keys_motion_J1_F key0
 let x2 : Bool := q1r
 x2) (keys_motion_J0_F key0 (decide (key0 = ([103, 103] : List Int))))
 else
 bif (decide (key0 = ([103, 101] : List Int))) then
 Sum.elim (fun q0r =>
 let x2 : Bool := q0r
 x2) (fun q0n =>
 let key0 : List Int := q0n
 let q1r : Bool := keys_motion_J1_F key0
 let x2 : Bool := q1r
 x2) (keys_motion_J0_F key0 (decide (key0 = ([103, 101] : List Int))))
 else
 Sum.elim (fun q0r =>
 let x2 : Bool := q0r
 x2) (fun q0n =>
 let key0 : List Int := q0n
 let q1r : Bool := keys_motion_J1_F key0
 let x2 : Bool := q1r
 x2) (keys_motion_J0_F key0 (decide (key0 = ([103, 69] : List Int))))
set_option maxRecDepth 20000 in
theorem keys_motion_sp (key0 : List Int) (K : Res → List Cell → Prop) (_ : wfA keys_motion_A (key0, ())) (hp : keys_motion_P key0) (h : ∀ r : Bool, r = keys_motion_F key0 → K (.one (.v (.bool) r)) []) : keys_motion_raw key0 K := by
  unfold keys_motion_raw
  unfold keys_motion_P at hp
  refine brb (fun c_3 => ?_) (fun c_3 => ?_)
  ·
    replace hp := cT c_3 hp
    refine fun _ => keys_motion_J0_sp _ _ _ _ (fun q hq => ?_) (fun q hq => ?_)
    ·
      have e_4 := hq
      intro _
      clear hp
      exact h _ ((Eq.trans (ctrue c_3) (selL e_4)) : keys_motion_F key0 = _).symm
    ·
      have e_5 := hq
      intro _
      replace hp := cR e_5 hp
      refine fun _ => keys_motion_J1_sp _ _ hp (fun q hq => ?_)
      subst hq
      intro _
      clear hp
      exact h _ ((Eq.trans (ctrue c_3) (selR e_5)) : keys_motion_F key0 = _).symm
  ·
    replace hp := cF c_3 hp
    refine brb (fun c_6 => ?_) (fun c_6 => ?_)
    ·
      replace hp := cT c_6 hp
      refine fun _ => keys_motion_J0_sp _ _ _ _ (fun q hq => ?_) (fun q hq => ?_)
      ·
        have e_7 := hq
        intro _
        clear hp
        exact h _ ((Eq.trans (cfalse c_3) (Eq.trans (ctrue c_6) (selL e_7))) : keys_motion_F key0 = _).symm
      ·
        have e_8 := hq
        intro _
        replace hp := cR e_8 hp
        refine fun _ => keys_motion_J1_sp _ _ hp (fun q hq => ?_)
        subst hq
        intro _
        clear hp
        exact h _ ((Eq.trans (cfalse c_3) (Eq.trans (ctrue c_6) (selR e_8))) : keys_motion_F key0 = _).symm
    ·
      replace hp := cF c_6 hp
      refine brb (fun c_9 => ?_) (fun c_9 => ?_)
      ·
        replace hp := cT c_9 hp
        refine fun _ => keys_motion_J0_sp _ _ _ _ (fun q hq => ?_) (fun q hq => ?_)
        ·
          have e_10 := hq
          intro _
          clear hp
          exact h _ ((Eq.trans (cfalse c_3) (Eq.trans (cfalse c_6) (Eq.trans (ctrue c_9) (selL e_10)))) : keys_motion_F key0 = _).symm
        ·
          have e_11 := hq
          intro _
          replace hp := cR e_11 hp
          refine fun _ => keys_motion_J1_sp _ _ hp (fun q hq => ?_)
          subst hq
          intro _
          clear hp
          exact h _ ((Eq.trans (cfalse c_3) (Eq.trans (cfalse c_6) (Eq.trans (ctrue c_9) (selR e_11)))) : keys_motion_F key0 = _).symm
      ·
        replace hp := cF c_9 hp
        refine brb (fun c_12 => ?_) (fun c_12 => ?_)
        ·
          replace hp := cT c_12 hp
          refine fun _ => keys_motion_J0_sp _ _ _ _ (fun q hq => ?_) (fun q hq => ?_)
          ·
            have e_13 := hq
            intro _
            clear hp
            exact h _ ((Eq.trans (cfalse c_3) (Eq.trans (cfalse c_6) (Eq.trans (cfalse c_9) (Eq.trans (ctrue c_12) (selL e_13))))) : keys_motion_F key0 = _).symm
          ·
            have e_14 := hq
            intro _
            replace hp := cR e_14 hp
            refine fun _ => keys_motion_J1_sp _ _ hp (fun q hq => ?_)
            subst hq
            intro _
            clear hp
            exact h _ ((Eq.trans (cfalse c_3) (Eq.trans (cfalse c_6) (Eq.trans (cfalse c_9) (Eq.trans (ctrue c_12) (selR e_14))))) : keys_motion_F key0 = _).symm
        ·
          replace hp := cF c_12 hp
          refine brb (fun c_15 => ?_) (fun c_15 => ?_)
          ·
            replace hp := cT c_15 hp
            refine fun _ => keys_motion_J0_sp _ _ _ _ (fun q hq => ?_) (fun q hq => ?_)
            ·
              have e_16 := hq
              intro _
              clear hp
              exact h _ ((Eq.trans (cfalse c_3) (Eq.trans (cfalse c_6) (Eq.trans (cfalse c_9) (Eq.trans (cfalse c_12) (Eq.trans (ctrue c_15) (selL e_16)))))) : keys_motion_F key0 = _).symm
            ·
              have e_17 := hq
              intro _
              replace hp := cR e_17 hp
              refine fun _ => keys_motion_J1_sp _ _ hp (fun q hq => ?_)
              subst hq
              intro _
              clear hp
              exact h _ ((Eq.trans (cfalse c_3) (Eq.trans (cfalse c_6) (Eq.trans (cfalse c_9) (Eq.trans (cfalse c_12) (Eq.trans (ctrue c_15) (selR e_17)))))) : keys_motion_F key0 = _).symm
          ·
            replace hp := cF c_15 hp
            refine brb (fun c_18 => ?_) (fun c_18 => ?_)
            ·
              replace hp := cT c_18 hp
              refine fun _ => keys_motion_J0_sp _ _ _ _ (fun q hq => ?_) (fun q hq => ?_)
              ·
                have e_19 := hq
                intro _
                clear hp
                exact h _ ((Eq.trans (cfalse c_3) (Eq.trans (cfalse c_6) (Eq.trans (cfalse c_9) (Eq.trans (cfalse c_12) (Eq.trans (cfalse c_15) (Eq.trans (ctrue c_18) (selL e_19))))))) : keys_motion_F key0 = _).symm
              ·
                have e_20 := hq
                intro _
                replace hp := cR e_20 hp
                refine fun _ => keys_motion_J1_sp _ _ hp (fun q hq => ?_)
                subst hq
                intro _
                clear hp
                exact h _ ((Eq.trans (cfalse c_3) (Eq.trans (cfalse c_6) (Eq.trans (cfalse c_9) (Eq.trans (cfalse c_12) (Eq.trans (cfalse c_15) (Eq.trans (ctrue c_18) (selR e_20))))))) : keys_motion_F key0 = _).symm
            ·
              replace hp := cF c_18 hp
              refine fun _ => keys_motion_J0_sp _ _ _ _ (fun q hq => ?_) (fun q hq => ?_)
              ·
                have e_21 := hq
                intro _
                clear hp
                exact h _ ((Eq.trans (cfalse c_3) (Eq.trans (cfalse c_6) (Eq.trans (cfalse c_9) (Eq.trans (cfalse c_12) (Eq.trans (cfalse c_15) (Eq.trans (cfalse c_18) (selL e_21))))))) : keys_motion_F key0 = _).symm
              ·
                have e_22 := hq
                intro _
                replace hp := cR e_22 hp
                refine fun _ => keys_motion_J1_sp _ _ hp (fun q hq => ?_)
                subst hq
                intro _
                clear hp
                exact h _ ((Eq.trans (cfalse c_3) (Eq.trans (cfalse c_6) (Eq.trans (cfalse c_9) (Eq.trans (cfalse c_12) (Eq.trans (cfalse c_15) (Eq.trans (cfalse c_18) (selR e_22))))))) : keys_motion_F key0 = _).symm
def keys_motion_C (v : valsA keys_motion_A) (K : Res → List Cell → Prop) : Prop := keys_motion_P v.1 ∧ ∀ r : Bool, r = keys_motion_F v.1 → K (.one (.v (.bool) r)) []
def keys_motion_S : App := specW keys_motion_A keys_motion_C
theorem keys_motion_wv (K : Res → List Cell → Prop) : ∀ v : valsA keys_motion_A, runF tb (getG keys_motion_G) keys_motion_B1 Tryd.f156 [true] (mkA keys_motion_A v) K = keys_motion_raw v.1 K
  | (key0, ()) => keys_motion_walk key0 K
set_option maxRecDepth 20000 in
theorem keys_motion_ok : AppOk Tryd.prog 156 keys_motion_S :=
  AppOk.specW (spec_ok ((runF_ok tb_M tb_ok keys_motion_Gok (keys_motion_b1) (f := 156) (fn := Tryd.f156) (by kernel_rfl) (by kernel_rfl) keys_motion_st [true])) fun v K hw h => (keys_motion_wv K v).mpr (keys_motion_sp v.1 K hw h.1 h.2))

end Go.VE
namespace Go.VE
open Go Go.Proofs
/-! ### quoin/keys.known -/
def keys_known_G : List (Nat × App) := [(156, keys_motion_S), (128, keys_one_S)]
theorem keys_known_Gok : GOk Tryd.prog (getG keys_known_G) := GOk.cons keys_motion_ok (GOk.cons keys_one_ok (GOk.nil))
theorem keys_known_st : storesC (bodyOf Tryd.f127) = true := by kernel_rfl
def keys_known_d0 : List LS := [.b 1 8 [], .v 36 (.bool), .c 8 (.st (.pair (.int .u8) (.pair (.int .i64) (.pair (.str) (.pair (.str) (.pair (.int .u8) (.sl (.int .u8))))))))]
def keys_known_d0r : List LS := [.v 2 (.bool)]
def keys_known_d0n : List LS := []
def keys_known_dx0 : DX := ⟨some keys_known_d0n, some keys_known_d0r, []⟩
def keys_known_J0 (kr : Bool → Prop) (kn : Prop) (x36 : Bool) (c1b : CmT) : Prop :=
 bif x36 then
 bif (decide ((List.length c1b.2.2.2.1 : Int) = (2 : Int))) then
 bif decide (0 ≤ (0 : Int) ∧ (0 : Int) < (List.length c1b.2.2.2.1 : Int)) then
 bif (decide ((rd (0 : Int) c1b.2.2.2.1 (0 : Int)) = (105 : Int))) then
 bif decide (0 ≤ (1 : Int) ∧ (1 : Int) ≤ (List.length c1b.2.2.2.1 : Int)) then
 keys_one_P (List.drop (Int.toNat (1 : Int)) c1b.2.2.2.1) ([119, 87, 112, 40, 41, 98, 123, 125, 66, 91, 93, 34, 39, 96] : List Int) ∧ (
 ∀ (r4 : Bool), r4 = keys_one_F (List.drop (Int.toNat (1 : Int)) c1b.2.2.2.1) ([119, 87, 112, 40, 41, 98, 123, 125, 66, 91, 93, 34, 39, 96] : List Int) → (
 wfR (.one (.v (.bool) r4)) → (
 bif (decide (c1b.2.2.2.1 = c1b.2.2.1)) then
 kr true
 else
 bif r4 then
 kr true
 else
 keys_motion_P c1b.2.2.2.1 ∧ (
 ∀ (r5 : Bool), r5 = keys_motion_F c1b.2.2.2.1 → (
 wfR (.one (.v (.bool) r5)) → (
 kr r5))))))
 else False
 else
 bif decide (0 ≤ (0 : Int) ∧ (0 : Int) < (List.length c1b.2.2.2.1 : Int)) then
 bif (decide ((rd (0 : Int) c1b.2.2.2.1 (0 : Int)) = (97 : Int))) then
 bif decide (0 ≤ (1 : Int) ∧ (1 : Int) ≤ (List.length c1b.2.2.2.1 : Int)) then
 keys_one_P (List.drop (Int.toNat (1 : Int)) c1b.2.2.2.1) ([119, 87, 112, 40, 41, 98, 123, 125, 66, 91, 93, 34, 39, 96] : List Int) ∧ (
 ∀ (r6 : Bool), r6 = keys_one_F (List.drop (Int.toNat (1 : Int)) c1b.2.2.2.1) ([119, 87, 112, 40, 41, 98, 123, 125, 66, 91, 93, 34, 39, 96] : List Int) → (
 wfR (.one (.v (.bool) r6)) → (
 bif (decide (c1b.2.2.2.1 = c1b.2.2.1)) then
 kr true
 else
 bif r6 then
 kr true
 else
 keys_motion_P c1b.2.2.2.1 ∧ (
 ∀ (r7 : Bool), r7 = keys_motion_F c1b.2.2.2.1 → (
 wfR (.one (.v (.bool) r7)) → (
 kr r7))))))
 else False
 else
 bif (decide (c1b.2.2.2.1 = c1b.2.2.1)) then
 kr true
 else
 keys_motion_P c1b.2.2.2.1 ∧ (
 ∀ (r8 : Bool), r8 = keys_motion_F c1b.2.2.2.1 → (
 wfR (.one (.v (.bool) r8)) → (
 kr r8)))
 else False
 else False
 else
 bif (decide (c1b.2.2.2.1 = c1b.2.2.1)) then
 kr true
 else
 keys_motion_P c1b.2.2.2.1 ∧ (
 ∀ (r9 : Bool), r9 = keys_motion_F c1b.2.2.2.1 → (
 wfR (.one (.v (.bool) r9)) → (
 kr r9)))
 else
 kn
theorem keys_known_s0 (k : Ex → St → Prop) (x36 : Bool) (c1b : CmT) :
    ex tb (getG keys_known_G) [] (at' (bodyOf Tryd.f127) [1, 1, 1, 0, 1, 0, 1]) [1, 1, 1, 0, 1, 0, 1] (mkD 80 keys_known_d0 (x36, c1b, ())) (wk 80 keys_known_dx0 k) =
    keys_known_J0 (fun x2 => wfD keys_known_d0r (x2, ()) → k .ret (mkD 80 keys_known_d0r (x2, ()))) (wfD keys_known_d0n () → k .nrm (mkD 80 keys_known_d0n ())) x36 c1b := by kernel_rfl
theorem keys_known_v0 (k : Ex → St → Prop) : ∀ v : vals keys_known_d0, ex tb (getG keys_known_G) [] (at' (bodyOf Tryd.f127) [1, 1, 1, 0, 1, 0, 1]) [1, 1, 1, 0, 1, 0, 1] (mkD 80 keys_known_d0 v) (wk 80 keys_known_dx0 k) = keys_known_J0 (fun x2 => wfD keys_known_d0r (x2, ()) → k .ret (mkD 80 keys_known_d0r (x2, ()))) (wfD keys_known_d0n () → k .nrm (mkD 80 keys_known_d0n ())) v.1 v.2.1
  | (x36, c1b, ()) => keys_known_s0 k x36 c1b
def keys_known_X0 : Pce := fun st k => ckD 80 keys_known_d0 st fun v => wfD keys_known_d0 v → keys_known_J0 (fun x2 => wfD keys_known_d0r (x2, ()) → k .ret (mkD 80 keys_known_d0r (x2, ()))) (wfD keys_known_d0n () → k .nrm (mkD 80 keys_known_d0n ())) v.1 v.2.1
set_option maxRecDepth 20000 in
theorem keys_known_x0 : SemOk Tryd.prog (at' (bodyOf Tryd.f127) [1, 1, 1, 0, 1, 0, 1]) keys_known_X0 :=
  (SemOk.wk (N := 80) (ds := keys_known_d0) (dx := keys_known_dx0) (ex_sound tb_M tb_ok keys_known_Gok (LabsOk.nil) (at' (bodyOf Tryd.f127) [1, 1, 1, 0, 1, 0, 1]) [1, 1, 1, 0, 1, 0, 1] rfl (storesC_at keys_known_st [1, 1, 1, 0, 1, 0, 1]))).mono fun st k h => ckD_mono h fun v hv hw => Eq.mpr (keys_known_v0 k v) (hv hw)
def keys_known_B0 : Labs := ([1, 1, 1, 0, 1, 0, 1], keys_known_X0) :: []
theorem keys_known_b0 : LabsOk Tryd.prog (bodyOf Tryd.f127) keys_known_B0 := LabsOk.cons keys_known_x0 (LabsOk.nil)
def keys_known_d1 : List LS := []
def keys_known_d1r : List LS := [.v 2 (.bool)]
def keys_known_dx1 : DX := ⟨none, some keys_known_d1r, []⟩
def keys_known_J1 (kr : Bool → Prop)  : Prop :=
 kr false
theorem keys_known_s1 (k : Ex → St → Prop)  :
    ex tb (getG keys_known_G) keys_known_B0 (at' (bodyOf Tryd.f127) [1, 1]) [1, 1] (mkD 80 keys_known_d1 ()) (wk 80 keys_known_dx1 k) =
    keys_known_J1 (fun x2 => wfD keys_known_d1r (x2, ()) → k .ret (mkD 80 keys_known_d1r (x2, ())))  := by kernel_rfl
theorem keys_known_v1 (k : Ex → St → Prop) : ∀ v : vals keys_known_d1, ex tb (getG keys_known_G) keys_known_B0 (at' (bodyOf Tryd.f127) [1, 1]) [1, 1] (mkD 80 keys_known_d1 v) (wk 80 keys_known_dx1 k) = keys_known_J1 (fun x2 => wfD keys_known_d1r (x2, ()) → k .ret (mkD 80 keys_known_d1r (x2, ()))) 
  | () => keys_known_s1 k 
def keys_known_X1 : Pce := fun st k => ckD 80 keys_known_d1 st fun v => wfD keys_known_d1 v → keys_known_J1 (fun x2 => wfD keys_known_d1r (x2, ()) → k .ret (mkD 80 keys_known_d1r (x2, ()))) 
set_option maxRecDepth 20000 in
theorem keys_known_x1 : SemOk Tryd.prog (at' (bodyOf Tryd.f127) [1, 1]) keys_known_X1 :=
  (SemOk.wk (N := 80) (ds := keys_known_d1) (dx := keys_known_dx1) (ex_sound tb_M tb_ok keys_known_Gok (keys_known_b0) (at' (bodyOf Tryd.f127) [1, 1]) [1, 1] rfl (storesC_at keys_known_st [1, 1]))).mono fun st k h => ckD_mono h fun v hv hw => Eq.mpr (keys_known_v1 k v) (hv hw)
def keys_known_B1 : Labs := ([1, 1], keys_known_X1) :: keys_known_B0
theorem keys_known_b1 : LabsOk Tryd.prog (bodyOf Tryd.f127) keys_known_B1 := LabsOk.cons keys_known_x1 (keys_known_b0)
def keys_known_raw (c0 : CmT) (K : Res → List Cell → Prop) : Prop :=
 bif (decide (c0.2.2.1 = ([] : List Int))) then
 keys_motion_P c0.2.2.2.1 ∧ (
 ∀ (r1 : Bool), r1 = keys_motion_F c0.2.2.2.1 → (
 wfR (.one (.v (.bool) r1)) → (
 bif r1 then
 K (.one (.v (.bool) true)) []
 else
 keys_one_P c0.2.2.2.1 ([120, 88, 68, 67, 89, 83, 115, 112, 80, 126, 74, 105, 97, 73, 65, 111, 79, 82, 117, 46, 18] : List Int) ∧ (
 ∀ (r2 : Bool), r2 = keys_one_F c0.2.2.2.1 ([120, 88, 68, 67, 89, 83, 115, 112, 80, 126, 74, 105, 97, 73, 65, 111, 79, 82, 117, 46, 18] : List Int) → (
 wfR (.one (.v (.bool) r2)) → (
 bif r2 then
 K (.one (.v (.bool) true)) []
 else
 keys_one_P c0.2.2.2.1 ([114, 109] : List Int) ∧ (
 ∀ (r3 : Bool), r3 = keys_one_F c0.2.2.2.1 ([114, 109] : List Int) → (
 wfR (.one (.v (.bool) r3)) → (
 bif r3 then
 K (.one (.v (.bool) true)) []
 else
 bif (decide (c0.2.2.2.1 = ([58] : List Int))) then
 K (.one (.v (.bool) true)) []
 else
 bif (decide (c0.2.2.2.1 = ([103, 45] : List Int))) then
 K (.one (.v (.bool) true)) []
 else
 K (.one (.v (.bool) (decide (c0.2.2.2.1 = ([103, 43] : List Int))))) [])))))))))
 else
 bif (decide (c0.2.2.1 = ([100] : List Int))) then
 (wfD keys_known_d0 ((decide (c0.2.2.1 = ([100] : List Int))), c0, ()) → keys_known_J0 (fun (x2 : Bool) => wfD keys_known_d0r (x2, ()) → (
 K (.one (.v (.bool) x2)) [])) (wfD keys_known_d0n () → (
 (wfD keys_known_d1 () → keys_known_J1 (fun (x2 : Bool) => wfD keys_known_d1r (x2, ()) → (
 K (.one (.v (.bool) x2)) [])) ))) (decide (c0.2.2.1 = ([100] : List Int))) c0)
 else
 bif (decide (c0.2.2.1 = ([99] : List Int))) then
 (wfD keys_known_d0 ((decide (c0.2.2.1 = ([99] : List Int))), c0, ()) → keys_known_J0 (fun (x2 : Bool) => wfD keys_known_d0r (x2, ()) → (
 K (.one (.v (.bool) x2)) [])) (wfD keys_known_d0n () → (
 (wfD keys_known_d1 () → keys_known_J1 (fun (x2 : Bool) => wfD keys_known_d1r (x2, ()) → (
 K (.one (.v (.bool) x2)) [])) ))) (decide (c0.2.2.1 = ([99] : List Int))) c0)
 else
 bif (decide (c0.2.2.1 = ([121] : List Int))) then
 (wfD keys_known_d0 ((decide (c0.2.2.1 = ([121] : List Int))), c0, ()) → keys_known_J0 (fun (x2 : Bool) => wfD keys_known_d0r (x2, ()) → (
 K (.one (.v (.bool) x2)) [])) (wfD keys_known_d0n () → (
 (wfD keys_known_d1 () → keys_known_J1 (fun (x2 : Bool) => wfD keys_known_d1r (x2, ()) → (
 K (.one (.v (.bool) x2)) [])) ))) (decide (c0.2.2.1 = ([121] : List Int))) c0)
 else
 bif (decide (c0.2.2.1 = ([62] : List Int))) then
 (wfD keys_known_d0 ((decide (c0.2.2.1 = ([62] : List Int))), c0, ()) → keys_known_J0 (fun (x2 : Bool) => wfD keys_known_d0r (x2, ()) → (
 K (.one (.v (.bool) x2)) [])) (wfD keys_known_d0n () → (
 (wfD keys_known_d1 () → keys_known_J1 (fun (x2 : Bool) => wfD keys_known_d1r (x2, ()) → (
 K (.one (.v (.bool) x2)) [])) ))) (decide (c0.2.2.1 = ([62] : List Int))) c0)
 else
 bif (decide (c0.2.2.1 = ([60] : List Int))) then
 (wfD keys_known_d0 ((decide (c0.2.2.1 = ([60] : List Int))), c0, ()) → keys_known_J0 (fun (x2 : Bool) => wfD keys_known_d0r (x2, ()) → (
 K (.one (.v (.bool) x2)) [])) (wfD keys_known_d0n () → (
 (wfD keys_known_d1 () → keys_known_J1 (fun (x2 : Bool) => wfD keys_known_d1r (x2, ()) → (
 K (.one (.v (.bool) x2)) [])) ))) (decide (c0.2.2.1 = ([60] : List Int))) c0)
 else
 bif (decide (c0.2.2.1 = ([103, 126] : List Int))) then
 (wfD keys_known_d0 ((decide (c0.2.2.1 = ([103, 126] : List Int))), c0, ()) → keys_known_J0 (fun (x2 : Bool) => wfD keys_known_d0r (x2, ()) → (
 K (.one (.v (.bool) x2)) [])) (wfD keys_known_d0n () → (
 (wfD keys_known_d1 () → keys_known_J1 (fun (x2 : Bool) => wfD keys_known_d1r (x2, ()) → (
 K (.one (.v (.bool) x2)) [])) ))) (decide (c0.2.2.1 = ([103, 126] : List Int))) c0)
 else
 bif (decide (c0.2.2.1 = ([103, 117] : List Int))) then
 (wfD keys_known_d0 ((decide (c0.2.2.1 = ([103, 117] : List Int))), c0, ()) → keys_known_J0 (fun (x2 : Bool) => wfD keys_known_d0r (x2, ()) → (
 K (.one (.v (.bool) x2)) [])) (wfD keys_known_d0n () → (
 (wfD keys_known_d1 () → keys_known_J1 (fun (x2 : Bool) => wfD keys_known_d1r (x2, ()) → (
 K (.one (.v (.bool) x2)) [])) ))) (decide (c0.2.2.1 = ([103, 117] : List Int))) c0)
 else
 (wfD keys_known_d0 ((decide (c0.2.2.1 = ([103, 85] : List Int))), c0, ()) → keys_known_J0 (fun (x2 : Bool) => wfD keys_known_d0r (x2, ()) → (
 K (.one (.v (.bool) x2)) [])) (wfD keys_known_d0n () → (
 (wfD keys_known_d1 () → keys_known_J1 (fun (x2 : Bool) => wfD keys_known_d1r (x2, ()) → (
 K (.one (.v (.bool) x2)) [])) ))) (decide (c0.2.2.1 = ([103, 85] : List Int))) c0)
def keys_known_A : List AS := [.v (.st (.pair (.int .u8) (.pair (.int .i64) (.pair (.str) (.pair (.str) (.pair (.int .u8) (.sl (.int .u8))))))))]
theorem keys_known_walk (c0 : CmT) (K : Res → List Cell → Prop) : runF tb (getG keys_known_G) keys_known_B1 Tryd.f127 [true] (mkA keys_known_A (c0, ())) K = keys_known_raw c0 K := by kernel_rfl

def keys_known_J0_P (x36 : Bool) (c1b : CmT) : Prop :=
 bif x36 then
 bif (decide ((List.length c1b.2.2.2.1 : Int) = (2 : Int))) then
 (0 ≤ (0 : Int) ∧ (0 : Int) < (List.length c1b.2.2.2.1 : Int)) ∧ (
 bif (decide ((rd (0 : Int) c1b.2.2.2.1 (0 : Int)) = (105 : Int))) then
 (0 ≤ (1 : Int) ∧ (1 : Int) ≤ (List.length c1b.2.2.2.1 : Int)) ∧ (
 keys_one_P (List.drop (Int.toNat (1 : Int)) c1b.2.2.2.1) ([119, 87, 112, 40, 41, 98, 123, 125, 66, 91, 93, 34, 39, 96] : List Int) ∧ (
 let r4 : Bool := keys_one_F (List.drop (Int.toNat (1 : Int)) c1b.2.2.2.1) ([119, 87, 112, 40, 41, 98, 123, 125, 66, 91, 93, 34, 39, 96] : List Int)
 bif (decide (c1b.2.2.2.1 = c1b.2.2.1)) then
 True
 else
 bif r4 then
 True
 else
 keys_motion_P c1b.2.2.2.1))
 else
 (0 ≤ (0 : Int) ∧ (0 : Int) < (List.length c1b.2.2.2.1 : Int)) ∧ (
 bif (decide ((rd (0 : Int) c1b.2.2.2.1 (0 : Int)) = (97 : Int))) then
 (0 ≤ (1 : Int) ∧ (1 : Int) ≤ (List.length c1b.2.2.2.1 : Int)) ∧ (
 keys_one_P (List.drop (Int.toNat (1 : Int)) c1b.2.2.2.1) ([119, 87, 112, 40, 41, 98, 123, 125, 66, 91, 93, 34, 39, 96] : List Int) ∧ (
 let r6 : Bool := keys_one_F (List.drop (Int.toNat (1 : Int)) c1b.2.2.2.1) ([119, 87, 112, 40, 41, 98, 123, 125, 66, 91, 93, 34, 39, 96] : List Int)
 bif (decide (c1b.2.2.2.1 = c1b.2.2.1)) then
 True
 else
 bif r6 then
 True
 else
 keys_motion_P c1b.2.2.2.1))
 else
 bif (decide (c1b.2.2.2.1 = c1b.2.2.1)) then
 True
 else
 keys_motion_P c1b.2.2.2.1))
 else
 bif (decide (c1b.2.2.2.1 = c1b.2.2.1)) then
 True
 else
 keys_motion_P c1b.2.2.2.1
 else
 True
def keys_known_J0_F (x36 : Bool) (c1b : CmT) : (Bool) ⊕ (Unit) :=
 bif x36 then
 bif (decide ((List.length c1b.2.2.2.1 : Int) = (2 : Int))) then
 bif (decide ((rd (0 : Int) c1b.2.2.2.1 (0 : Int)) = (105 : Int))) then
 let r4 : Bool := keys_one_F (List.drop (Int.toNat (1 : Int)) c1b.2.2.2.1) ([119, 87, 112, 40, 41, 98, 123, 125, 66, 91, 93, 34, 39, 96] : List Int)
 bif (decide (c1b.2.2.2.1 = c1b.2.2.1)) then
 .inl (true)
 else
 bif r4 then
 .inl (true)
 else
 let r5 : Bool := keys_motion_F c1b.2.2.2.1
 .inl (r5)
 else
 bif (decide ((rd (0 : Int) c1b.2.2.2.1 (0 : Int)) = (97 : Int))) then
 let r6 : Bool := keys_one_F (List.drop (Int.toNat (1 : Int)) c1b.2.2.2.1) ([119, 87, 112, 40, 41, 98, 123, 125, 66, 91, 93, 34, 39, 96] : List Int)
 bif (decide (c1b.2.2.2.1 = c1b.2.2.1)) then
 .inl (true)
 else
 bif r6 then
 .inl (true)
 else
 let r7 : Bool := keys_motion_F c1b.2.2.2.1
 .inl (r7)
 else
 bif (decide (c1b.2.2.2.1 = c1b.2.2.1)) then
 .inl (true)
 else
 let r8 : Bool := keys_motion_F c1b.2.2.2.1
 .inl (r8)
 else
 bif (decide (c1b.2.2.2.1 = c1b.2.2.1)) then
 .inl (true)
 else
 let r9 : Bool := keys_motion_F c1b.2.2.2.1
 .inl (r9)
 else
 .inr ()
set_option maxRecDepth 20000 in
theorem keys_known_J0_sp (kr : Bool → Prop) (kn : Prop) (x36 : Bool) (c1b : CmT) (hp : keys_known_J0_P x36 c1b) (hr : ∀ q : Bool, keys_known_J0_F x36 c1b = .inl q → kr q) (hn : ∀ q : Unit, keys_known_J0_F x36 c1b = .inr q → kn) : keys_known_J0 kr kn x36 c1b := by
  unfold keys_known_J0
  unfold keys_known_J0_P at hp
  refine brb (fun c_1 => ?_) (fun c_1 => ?_)
  ·
    replace hp := cT c_1 hp
    refine brb (fun c_2 => ?_) (fun c_2 => ?_)
    ·
      replace hp := cT c_2 hp
      refine asrt hp.1 ?_
      replace hp := hp.2
      refine brb (fun c_3 => ?_) (fun c_3 => ?_)
      ·
        replace hp := cT c_3 hp
        refine asrt hp.1 ?_
        replace hp := hp.2
        refine ⟨hp.1, ?_⟩
        replace hp := hp.2
        intro r4 hr4
        subst hr4
        intro _
        refine brb (fun c_4 => ?_) (fun c_4 => ?_)
        ·
          clear hp
          have e := hr _ ((Eq.trans (ctrue c_1) (Eq.trans (ctrue c_2) (Eq.trans (ctrue c_3) (ctrue c_4)))) : keys_known_J0_F x36 c1b = _)
          exact e
        ·
          replace hp := cF c_4 hp
          refine brb (fun c_5 => ?_) (fun c_5 => ?_)
          ·
            clear hp
            have e := hr _ ((Eq.trans (ctrue c_1) (Eq.trans (ctrue c_2) (Eq.trans (ctrue c_3) (Eq.trans (cfalse c_4) (ctrue c_5))))) : keys_known_J0_F x36 c1b = _)
            exact e
          ·
            replace hp := cF c_5 hp
            refine ⟨hp, ?_⟩
            intro r5 hr5
            subst hr5
            intro _
            have e := hr _ ((Eq.trans (ctrue c_1) (Eq.trans (ctrue c_2) (Eq.trans (ctrue c_3) (Eq.trans (cfalse c_4) (cfalse c_5))))) : keys_known_J0_F x36 c1b = _)
            exact e
      ·
        replace hp := cF c_3 hp
        refine asrt hp.1 ?_
        replace hp := hp.2
        refine brb (fun c_6 => ?_) (fun c_6 => ?_)
        ·
          replace hp := cT c_6 hp
          refine asrt hp.1 ?_
          replace hp := hp.2
          refine ⟨hp.1, ?_⟩
          replace hp := hp.2
          intro r6 hr6
          subst hr6
          intro _
          refine brb (fun c_7 => ?_) (fun c_7 => ?_)
          ·
            clear hp
            have e := hr _ ((Eq.trans (ctrue c_1) (Eq.trans (ctrue c_2) (Eq.trans (cfalse c_3) (Eq.trans (ctrue c_6) (ctrue c_7))))) : keys_known_J0_F x36 c1b = _)
            exact e
          ·
            replace hp := cF c_7 hp
            refine brb (fun c_8 => ?_) (fun c_8 => ?_)
            ·
              clear hp
              have e := hr _ ((Eq.trans (ctrue c_1) (Eq.trans (ctrue c_2) (Eq.trans (cfalse c_3) (Eq.trans (ctrue c_6) (Eq.trans (cfalse c_7) (ctrue c_8)))))) : keys_known_J0_F x36 c1b = _)
              exact e
            ·
              replace hp := cF c_8 hp
              refine ⟨hp, ?_⟩
              intro r7 hr7
              subst hr7
              intro _
              have e := hr _ ((Eq.trans (ctrue c_1) (Eq.trans (ctrue c_2) (Eq.trans (cfalse c_3) (Eq.trans (ctrue c_6) (Eq.trans (cfalse c_7) (cfalse c_8)))))) : keys_known_J0_F x36 c1b = _)
              exact e
        ·
          replace hp := cF c_6 hp
          refine brb (fun c_9 => ?_) (fun c_9 => ?_)
          ·
            clear hp
            have e := hr _ ((Eq.trans (ctrue c_1) (Eq.trans (ctrue c_2) (Eq.trans (cfalse c_3) (Eq.trans (cfalse c_6) (ctrue c_9))))) : keys_known_J0_F x36 c1b = _)
            exact e
          ·
            replace hp := cF c_9 hp
            refine ⟨hp, ?_⟩
            intro r8 hr8
            subst hr8
            intro _
            have e := hr _ ((Eq.trans (ctrue c_1) (Eq.trans (ctrue c_2) (Eq.trans (cfalse c_3) (Eq.trans (cfalse c_6) (cfalse c_9))))) : keys_known_J0_F x36 c1b = _)
            exact e
    ·
      replace hp := cF c_2 hp
      refine brb (fun c_10 => ?_) (fun c_10 => ?_)
      ·
        clear hp
        have e := hr _ ((Eq.trans (ctrue c_1) (Eq.trans (cfalse c_2) (ctrue c_10))) : keys_known_J0_F x36 c1b = _)
        exact e
      ·
        replace hp := cF c_10 hp
        refine ⟨hp, ?_⟩
        intro r9 hr9
        subst hr9
        intro _
        have e := hr _ ((Eq.trans (ctrue c_1) (Eq.trans (cfalse c_2) (cfalse c_10))) : keys_known_J0_F x36 c1b = _)
        exact e
  ·
    clear hp
    have e := hn _ ((cfalse c_1) : keys_known_J0_F x36 c1b = _)
    exact e
def keys_known_J1_F  : Bool :=
 (false)
set_option maxRecDepth 20000 in
theorem keys_known_J1_sp (kr : Bool → Prop)  (hr : ∀ q : Bool, q = keys_known_J1_F  → kr q) : keys_known_J1 kr  := by
  unfold keys_known_J1
  exact hr _ rfl
def keys_known_P (c0 : CmT) : Prop :=
 bif (decide (c0.2.2.1 = ([] : List Int))) then
 keys_motion_P c0.2.2.2.1 ∧ (
 let r1 : Bool := keys_motion_F c0.2.2.2.1
 bif r1 then
 True
 else
 keys_one_P c0.2.2.2.1 ([120, 88, 68, 67, 89, 83, 115, 112, 80, 126, 74, 105, 97, 73, 65, 111, 79, 82, 117, 46, 18] : List Int) ∧ (
 let r2 : Bool := keys_one_F c0.2.2.2.1 ([120, 88, 68, 67, 89, 83, 115, 112, 80, 126, 74, 105, 97, 73, 65, 111, 79, 82, 117, 46, 18] : List Int)
 bif r2 then
 True
 else
 keys_one_P c0.2.2.2.1 ([114, 109] : List Int)))
 else
 bif (decide (c0.2.2.1 = ([100] : List Int))) then
 keys_known_J0_P (decide (c0.2.2.1 = ([100] : List Int))) c0
 else
 bif (decide (c0.2.2.1 = ([99] : List Int))) then
 keys_known_J0_P (decide (c0.2.2.1 = ([99] : List Int))) c0
 else
 bif (decide (c0.2.2.1 = ([121] : List Int))) then
 keys_known_J0_P (decide (c0.2.2.1 = ([121] : List Int))) c0
 else
 bif (decide (c0.2.2.1 = ([62] : List Int))) then
 keys_known_J0_P (decide (c0.2.2.1 = ([62] : List Int))) c0
 else
 bif (decide (c0.2.2.1 = ([60] : List Int))) then
 keys_known_J0_P (decide (c0.2.2.1 = ([60] : List Int))) c0
 else
 bif (decide (c0.2.2.1 = ([103, 126] : List Int))) then
 keys_known_J0_P (decide (c0.2.2.1 = ([103, 126] : List Int))) c0
 else
 bif (decide (c0.2.2.1 = ([103, 117] : List Int))) then
 keys_known_J0_P (decide (c0.2.2.1 = ([103, 117] : List Int))) c0
 else
 keys_known_J0_P (decide (c0.2.2.1 = ([103, 85] : List Int))) c0
def keys_known_F (c0 : CmT) : Bool :=
 bif (decide (c0.2.2.1 = ([] : List Int))) then
 let r1 : Bool := keys_motion_F c0.2.2.2.1
 bif r1 then
 true
 else
 let r2 : Bool := keys_one_F c0.2.2.2.1 ([120, 88, 68, 67, 89, 83, 115, 112, 80, 126, 74, 105, 97, 73, 65, 111, 79, 82, 117, 46, 18] : List Int)
 bif r2 then
 true
 else
 let r3 : Bool := keys_one_F c0.2.2.2.1 ([114, 109] : List Int)
 bif r3 then
 true
 else
 bif (decide (c0.2.2.2.1 = ([58] : List Int))) then
 true
 else
 bif (decide (c0.2.2.2.1 = ([103, 45] : List Int))) then
 true
 else
 (decide (c0.2.2.2.1 = ([103, 43] : List Int)))
 else
 bif (decide (c0.2.2.1 = ([100] : List Int))) then
 Sum.elim (fun q0r =>
 let x2 : Bool := q0r
 x2) (fun q0n =>
 let q1r : Bool := keys_known_J1_F 
 let x2 : Bool := q1r
 x2) (keys_known_J0_F (decide (c0.2.2.1 = ([100] : List Int))) c0)
 else
 bif (decide (c0.2.2.1 = ([99] : List Int))) then
 Sum.elim (fun q0r =>
 let x2 : Bool := q0r
 x2) (fun q0n =>
 let q1r : Bool := keys_known_J1_F 
 let x2 : Bool := q1r
 x2) (keys_known_J0_F (decide (c0.2.2.1 = ([99] : List Int))) c0)
 else
 bif (decide (c0.2.2.1 = ([121] : List Int))) then
 Sum.elim (fun q0r =>
 let x2 : Bool := q0r
 x2) (fun q0n =>
 let q1r : Bool := keys_known_J1_F 
 let x2 : Bool := q1r
 x2) (keys_known_J0_F (decide (c0.2.2.1 = ([121] : List Int))) c0)
 else
 bif (decide (c0.2.2.1 = ([62] : List Int))) then
 Sum.elim (fun q0r =>
 let x2 : Bool := q0r
 x2) (fun q0n =>
 let q1r : Bool := keys_known_J1_F 
 let x2 : Bool := q1r
 x2) (keys_known_J0_F (decide (c0.2.2.1 = ([62] : List Int))) c0)
 else
 bif (decide (c0.2.2.1 = ([60] : List Int))) then
 Sum.elim (fun q0r =>
 let x2 : Bool := q0r
 x2) (fun q0n =>
 let q1r : Bool := keys_known_J1_F 
 let x2 : Bool := q1r
 x2) (keys_known_J0_F (decide (c0.2.2.1 = ([60] : List Int))) c0)
 else
 bif (decide (c0.2.2.1 = ([103, 126] : List Int))) then
 Sum.elim (fun q0r =>
 let x2 : Bool := q0r
 x2) (fun q0n =>
 let q1r : Bool := keys_known_J1_F 
 let x2 : Bool := q1r
 x2) (keys_known_J0_F (decide (c0.2.2.1 = ([103, 126] : List Int))) c0)
 else
 bif (decide (c0.2.2.1 = ([103, 117] : List Int))) then
 Sum.elim (fun q0r =>
 let x2 : Bool := q0r
 x2) (fun q0n =>
 let q1r : Bool := keys_known_J1_F 
 let x2 : Bool := q1r
 x2) (keys_known_J0_F (decide (c0.2.2.1 = ([103, 117] : List Int))) c0)
 else
 Sum.elim (fun q0r =>
 let x2 : Bool := q0r
 x2) (fun q0n =>
 let q1r : Bool := keys_known_J1_F 
 let x2 : Bool := q1r
 x2) (keys_known_J0_F (decide (c0.2.2.1 = ([103, 85] : List Int))) c0)
set_option maxRecDepth 20000 in
theorem keys_known_sp (c0 : CmT) (K : Res → List Cell → Prop) (_ : wfA keys_known_A (c0, ())) (hp : keys_known_P c0) (h : ∀ r : Bool, r = keys_known_F c0 → K (.one (.v (.bool) r)) []) : keys_known_raw c0 K := by
  unfold keys_known_raw
  unfold keys_known_P at hp
  refine brb (fun c_11 => ?_) (fun c_11 => ?_)
  ·
    replace hp := cT c_11 hp
    refine ⟨hp.1, ?_⟩
    replace hp := hp.2
    intro r1 hr1
    subst hr1
    intro _
    refine brb (fun c_12 => ?_) (fun c_12 => ?_)
    ·
      clear hp
      exact h _ ((Eq.trans (ctrue c_11) (ctrue c_12)) : keys_known_F c0 = _).symm
    ·
      replace hp := cF c_12 hp
      refine ⟨hp.1, ?_⟩
      replace hp := hp.2
      intro r2 hr2
      subst hr2
      intro _
      refine brb (fun c_13 => ?_) (fun c_13 => ?_)
      ·
        clear hp
        exact h _ ((Eq.trans (ctrue c_11) (Eq.trans (cfalse c_12) (ctrue c_13))) : keys_known_F c0 = _).symm
      ·
        replace hp := cF c_13 hp
        refine ⟨hp, ?_⟩
        intro r3 hr3
        subst hr3
        intro _
        refine brb (fun c_14 => ?_) (fun c_14 => ?_)
        ·
          exact h _ ((Eq.trans (ctrue c_11) (Eq.trans (cfalse c_12) (Eq.trans (cfalse c_13) (ctrue c_14)))) : keys_known_F c0 = _).symm
        ·
          refine brb (fun c_15 => ?_) (fun c_15 => ?_)
          ·
            exact h _ ((Eq.trans (ctrue c_11) (Eq.trans (cfalse c_12) (Eq.trans (cfalse c_13) (Eq.trans (cfalse c_14) (ctrue c_15))))) : keys_known_F c0 = _).symm
          ·
            refine brb (fun c_16 => ?_) (fun c_16 => ?_)
            ·
              exact h _ ((Eq.trans (ctrue c_11) (Eq.trans (cfalse c_12) (Eq.trans (cfalse c_13) (Eq.trans (cfalse c_14) (Eq.trans (cfalse c_15) (ctrue c_16)))))) : keys_known_F c0 = _).symm
            ·
              exact h _ ((Eq.trans (ctrue c_11) (Eq.trans (cfalse c_12) (Eq.trans (cfalse c_13) (Eq.trans (cfalse c_14) (Eq.trans (cfalse c_15) (cfalse c_16)))))) : keys_known_F c0 = _).symm
  ·
    replace hp := cF c_11 hp
    refine brb (fun c_17 => ?_) (fun c_17 => ?_)
    ·
      replace hp := cT c_17 hp
      refine fun _ => keys_known_J0_sp _ _ _ _ hp (fun q hq => ?_) (fun q hq => ?_)
      ·
        have e_18 := hq
        intro _
        clear hp
        exact h _ ((Eq.trans (cfalse c_11) (Eq.trans (ctrue c_17) (selL e_18))) : keys_known_F c0 = _).symm
      ·
        have e_19 := hq
        intro _
        clear hp
        refine fun _ => keys_known_J1_sp _  (fun q hq => ?_)
        subst hq
        intro _
        exact h _ ((Eq.trans (cfalse c_11) (Eq.trans (ctrue c_17) (selR e_19))) : keys_known_F c0 = _).symm
    ·
      replace hp := cF c_17 hp
      refine brb (fun c_20 => ?_) (fun c_20 => ?_)
      ·
        replace hp := cT c_20 hp
        refine fun _ => keys_known_J0_sp _ _ _ _ hp (fun q hq => ?_) (fun q hq => ?_)
        ·
          have e_21 := hq
          intro _
          clear hp
          exact h _ ((Eq.trans (cfalse c_11) (Eq.trans (cfalse c_17) (Eq.trans (ctrue c_20) (selL e_21)))) : keys_known_F c0 = _).symm
        ·
          have e_22 := hq
          intro _
          clear hp
          refine fun _ => keys_known_J1_sp _  (fun q hq => ?_)
          subst hq
          intro _
          exact h _ ((Eq.trans (cfalse c_11) (Eq.trans (cfalse c_17) (Eq.trans (ctrue c_20) (selR e_22)))) : keys_known_F c0 = _).symm
      ·
        replace hp := cF c_20 hp
        refine brb (fun c_23 => ?_) (fun c_23 => ?_)
        ·
          replace hp := cT c_23 hp
          refine fun _ => keys_known_J0_sp _ _ _ _ hp (fun q hq => ?_) (fun q hq => ?_)
          ·
            have e_24 := hq
            intro _
            clear hp
            exact h _ ((Eq.trans (cfalse c_11) (Eq.trans (cfalse c_17) (Eq.trans (cfalse c_20) (Eq.trans (ctrue c_23) (selL e_24))))) : keys_known_F c0 = _).symm
          ·
            have e_25 := hq
            intro _
            clear hp
            refine fun _ => keys_known_J1_sp _  (fun q hq => ?_)
            subst hq
            intro _
            exact h _ ((Eq.trans (cfalse c_11) (Eq.trans (cfalse c_17) (Eq.trans (cfalse c_20) (Eq.trans (ctrue c_23) (selR e_25))))) : keys_known_F c0 = _).symm
        ·
          replace hp := cF c_23 hp
          refine brb (fun c_26 => ?_) (fun c_26 => ?_)
          ·
            replace hp := cT c_26 hp
            refine fun _ => keys_known_J0_sp _ _ _ _ hp (fun q hq => ?_) (fun q hq => ?_)
            ·
              have e_27 := hq
              intro _
              clear hp
              exact h _ ((Eq.trans (cfalse c_11) (Eq.trans (cfalse c_17) (Eq.trans (cfalse c_20) (Eq.trans (cfalse c_23) (Eq.trans (ctrue c_26) (selL e_27)))))) : keys_known_F c0 = _).symm
            ·
              have e_28 := hq
              intro _
              clear hp
              refine fun _ => keys_known_J1_sp _  (fun q hq => ?_)
              subst hq
              intro _
              exact h _ ((Eq.trans (cfalse c_11) (Eq.trans (cfalse c_17) (Eq.trans (cfalse c_20) (Eq.trans (cfalse c_23) (Eq.trans (ctrue c_26) (selR e_28)))))) : keys_known_F c0 = _).symm
          ·
            replace hp := cF c_26 hp
            refine brb (fun c_29 => ?_) (fun c_29 => ?_)
            ·
              replace hp := cT c_29 hp
              refine fun _ => keys_known_J0_sp _ _ _ _ hp (fun q hq => ?_) (fun q hq => ?_)
              ·
                have e_30 := hq
                intro _
                clear hp
                exact h _ ((Eq.trans (cfalse c_11) (Eq.trans (cfalse c_17) (Eq.trans (cfalse c_20) (Eq.trans (cfalse c_23) (Eq.trans (cfalse c_26) (Eq.trans (ctrue c_29) (selL e_30))))))) : keys_known_F c0 = _).symm
              ·
                have e_31 := hq
                intro _
                clear hp
                refine fun _ => keys_known_J1_sp _  (fun q hq => ?_)
                subst hq
                intro _
                exact h _ ((Eq.trans (cfalse c_11) (Eq.trans (cfalse c_17) (Eq.trans (cfalse c_20) (Eq.trans (cfalse c_23) (Eq.trans (cfalse c_26) (Eq.trans (ctrue c_29) (selR e_31))))))) : keys_known_F c0 = _).symm
            ·
              replace hp := cF c_29 hp
              refine brb (fun c_32 => ?_) (fun c_32 => ?_)
              ·
                replace hp := cT c_32 hp
                refine fun _ => keys_known_J0_sp _ _ _ _ hp (fun q hq => ?_) (fun q hq => ?_)
                ·
                  have e_33 := hq
                  intro _
                  clear hp
                  exact h _ ((Eq.trans (cfalse c_11) (Eq.trans (cfalse c_17) (Eq.trans (cfalse c_20) (Eq.trans (cfalse c_23) (Eq.trans (cfalse c_26) (Eq.trans (cfalse c_29) (Eq.trans (ctrue c_32) (selL e_33)))))))) : keys_known_F c0 = _).symm
                ·
                  have e_34 := hq
                  intro _
                  clear hp
                  refine fun _ => keys_known_J1_sp _  (fun q hq => ?_)
                  subst hq
                  intro _
                  exact h _ ((Eq.trans (cfalse c_11) (Eq.trans (cfalse c_17) (Eq.trans (cfalse c_20) (Eq.trans (cfalse c_23) (Eq.trans (cfalse c_26) (Eq.trans (cfalse c_29) (Eq.trans (ctrue c_32) (selR e_34)))))))) : keys_known_F c0 = _).symm
              ·
                replace hp := cF c_32 hp
                refine brb (fun c_35 => ?_) (fun c_35 => ?_)
                ·
                  replace hp := cT c_35 hp
                  refine fun _ => keys_known_J0_sp _ _ _ _ hp (fun q hq => ?_) (fun q hq => ?_)
                  ·
                    have e_36 := hq
                    intro _
                    clear hp
                    exact h _ ((Eq.trans (cfalse c_11) (Eq.trans (cfalse c_17) (Eq.trans (cfalse c_20) (Eq.trans (cfalse c_23) (Eq.trans (cfalse c_26) (Eq.trans (cfalse c_29) (Eq.trans (cfalse c_32) (Eq.trans (ctrue c_35) (selL e_36))))))))) : keys_known_F c0 = _).symm
                  ·
                    have e_37 := hq
                    intro _
                    clear hp
                    refine fun _ => keys_known_J1_sp _  (fun q hq => ?_)
                    subst hq
                    intro _
                    exact h _ ((Eq.trans (cfalse c_11) (Eq.trans (cfalse c_17) (Eq.trans (cfalse c_20) (Eq.trans (cfalse c_23) (Eq.trans (cfalse c_26) (Eq.trans (cfalse c_29) (Eq.trans (cfalse c_32) (Eq.trans (ctrue c_35) (selR e_37))))))))) : keys_known_F c0 = _).symm
                ·
                  replace hp := cF c_35 hp
                  refine fun _ => keys_known_J0_sp _ _ _ _ hp (fun q hq => ?_) (fun q hq => ?_)
                  ·
                    have e_38 := hq
                    intro _
                    clear hp
                    exact h _ ((Eq.trans (cfalse c_11) (Eq.trans (cfalse c_17) (Eq.trans (cfalse c_20) (Eq.trans (cfalse c_23) (Eq.trans (cfalse c_26) (Eq.trans (cfalse c_29) (Eq.trans (cfalse c_32) (Eq.trans (cfalse c_35) (selL e_38))))))))) : keys_known_F c0 = _).symm
                  ·
                    have e_39 := hq
                    intro _
                    clear hp
                    refine fun _ => keys_known_J1_sp _  (fun q hq => ?_)
                    subst hq
                    intro _
                    exact h _ ((Eq.trans (cfalse c_11) (Eq.trans (cfalse c_17) (Eq.trans (cfalse c_20) (Eq.trans (cfalse c_23) (Eq.trans (cfalse c_26) (Eq.trans (cfalse c_29) (Eq.trans (cfalse c_32) (Eq.trans (cfalse c_35) (selR e_39))))))))) : keys_known_F c0 = _).symm
def keys_known_C (v : valsA keys_known_A) (K : Res → List Cell → Prop) : Prop := keys_known_P v.1 ∧ ∀ r : Bool, r = keys_known_F v.1 → K (.one (.v (.bool) r)) []
def keys_known_S : App := specW keys_known_A keys_known_C
theorem keys_known_wv (K : Res → List Cell → Prop) : ∀ v : valsA keys_known_A, runF tb (getG keys_known_G) keys_known_B1 Tryd.f127 [true] (mkA keys_known_A v) K = keys_known_raw v.1 K
  | (c0, ()) => keys_known_walk c0 K
set_option maxRecDepth 20000 in
theorem keys_known_ok : AppOk Tryd.prog 127 keys_known_S :=
  AppOk.specW (spec_ok ((runF_ok tb_M tb_ok keys_known_Gok (keys_known_b1) (f := 127) (fn := Tryd.f127) (by kernel_rfl) (by kernel_rfl) keys_known_st [true])) fun v K hw h => (keys_known_wv K v).mpr (keys_known_sp v.1 K hw h.1 h.2))

end Go.VE
namespace Go.VE
open Go Go.Proofs
/-! ### quoin/keys.wants -/
def keys_wants_G : List (Nat × App) := [(128, keys_one_S)]
theorem keys_wants_Gok : GOk Tryd.prog (getG keys_wants_G) := GOk.cons keys_one_ok (GOk.nil)
def keys_wants_raw (c0 : CmT) (K : Res → List Cell → Prop) : Prop :=
 keys_one_P c0.2.2.2.1 ([102, 70, 116, 84, 96, 39] : List Int) ∧ (
 ∀ (r1 : Bool), r1 = keys_one_F c0.2.2.2.1 ([102, 70, 116, 84, 96, 39] : List Int) → (
 wfR (.one (.v (.bool) r1)) → (
 bif r1 then
 K (.one (.v (.bool) true)) []
 else
 bif (decide (c0.2.2.1 = ([] : List Int))) then
 keys_one_P c0.2.2.2.1 ([114, 109] : List Int) ∧ (
 ∀ (r2 : Bool), r2 = keys_one_F c0.2.2.2.1 ([114, 109] : List Int) → (
 wfR (.one (.v (.bool) r2)) → (
 K (.one (.v (.bool) r2)) [])))
 else
 K (.one (.v (.bool) false)) [])))
def keys_wants_A : List AS := [.v (.st (.pair (.int .u8) (.pair (.int .i64) (.pair (.str) (.pair (.str) (.pair (.int .u8) (.sl (.int .u8))))))))]
theorem keys_wants_walk (c0 : CmT) (K : Res → List Cell → Prop) : runF tb (getG keys_wants_G) [] Tryd.f90 [true] (mkA keys_wants_A (c0, ())) K = keys_wants_raw c0 K := by kernel_rfl

def keys_wants_P (c0 : CmT) : Prop :=
 keys_one_P c0.2.2.2.1 ([102, 70, 116, 84, 96, 39] : List Int) ∧ (
 let r1 : Bool := keys_one_F c0.2.2.2.1 ([102, 70, 116, 84, 96, 39] : List Int)
 bif r1 then
 True
 else
 bif (decide (c0.2.2.1 = ([] : List Int))) then
 keys_one_P c0.2.2.2.1 ([114, 109] : List Int)
 else
 True)
def keys_wants_F (c0 : CmT) : Bool :=
 let r1 : Bool := keys_one_F c0.2.2.2.1 ([102, 70, 116, 84, 96, 39] : List Int)
 bif r1 then
 true
 else
 bif (decide (c0.2.2.1 = ([] : List Int))) then
 let r2 : Bool := keys_one_F c0.2.2.2.1 ([114, 109] : List Int)
 r2
 else
 false
set_option maxRecDepth 20000 in
theorem keys_wants_sp (c0 : CmT) (K : Res → List Cell → Prop) (_ : wfA keys_wants_A (c0, ())) (hp : keys_wants_P c0) (h : ∀ r : Bool, r = keys_wants_F c0 → K (.one (.v (.bool) r)) []) : keys_wants_raw c0 K := by
  unfold keys_wants_raw
  unfold keys_wants_P at hp
  refine ⟨hp.1, ?_⟩
  replace hp := hp.2
  intro r1 hr1
  subst hr1
  intro _
  refine brb (fun c_1 => ?_) (fun c_1 => ?_)
  ·
    clear hp
    exact h _ ((ctrue c_1) : keys_wants_F c0 = _).symm
  ·
    replace hp := cF c_1 hp
    refine brb (fun c_2 => ?_) (fun c_2 => ?_)
    ·
      replace hp := cT c_2 hp
      refine ⟨hp, ?_⟩
      intro r2 hr2
      subst hr2
      intro _
      exact h _ ((Eq.trans (cfalse c_1) (ctrue c_2)) : keys_wants_F c0 = _).symm
    ·
      clear hp
      exact h _ ((Eq.trans (cfalse c_1) (cfalse c_2)) : keys_wants_F c0 = _).symm
def keys_wants_C (v : valsA keys_wants_A) (K : Res → List Cell → Prop) : Prop := keys_wants_P v.1 ∧ ∀ r : Bool, r = keys_wants_F v.1 → K (.one (.v (.bool) r)) []
def keys_wants_S : App := specW keys_wants_A keys_wants_C
theorem keys_wants_wv (K : Res → List Cell → Prop) : ∀ v : valsA keys_wants_A, runF tb (getG keys_wants_G) [] Tryd.f90 [true] (mkA keys_wants_A v) K = keys_wants_raw v.1 K
  | (c0, ()) => keys_wants_walk c0 K
set_option maxRecDepth 20000 in
theorem keys_wants_ok : AppOk Tryd.prog 90 keys_wants_S :=
  AppOk.specW (spec_ok ((runF_ok tb_M tb_ok keys_wants_Gok (LabsOk.nil) (f := 90) (fn := Tryd.f90) (by kernel_rfl) (by kernel_rfl) (by kernel_rfl) [true])) fun v K hw h => (keys_wants_wv K v).mpr (keys_wants_sp v.1 K hw h.1 h.2))

end Go.VE
namespace Go.VE
open Go Go.Proofs
/-! ### quoin/keys.is -/
def keys_is_G : List (Nat × App) := [(82, bank_Valid_S), (127, keys_known_S), (90, keys_wants_S)]
theorem keys_is_Gok : GOk Tryd.prog (getG keys_is_G) := GOk.cons bank_Valid_ok (GOk.cons keys_known_ok (GOk.cons keys_wants_ok (GOk.nil)))
def keys_is_raw (c0 : CmT) (K : Res → List Cell → Prop) : Prop :=
 ∀ (r1 : Bool), r1 = bank_Valid_F c0.1 → (
 wfR (.one (.v (.bool) r1)) → (
 bif (!r1) then
 K (.one (.v (.bool) false)) []
 else
 bif (decide (c0.2.1 < (0 : Int))) then
 K (.one (.v (.bool) false)) []
 else
 bif (decide ((9999 : Int) < c0.2.1)) then
 K (.one (.v (.bool) false)) []
 else
 keys_known_P c0 ∧ (
 ∀ (r2 : Bool), r2 = keys_known_F c0 → (
 wfR (.one (.v (.bool) r2)) → (
 bif (!r2) then
 K (.one (.v (.bool) false)) []
 else
 keys_wants_P c0 ∧ (
 ∀ (r3 : Bool), r3 = keys_wants_F c0 → (
 wfR (.one (.v (.bool) r3)) → (
 bif r3 then
 bif (decide (c0.2.2.2.2.1 = (27 : Int))) then
 K (.one (.v (.bool) false)) []
 else
 keys_wants_P c0 ∧ (
 ∀ (r4 : Bool), r4 = keys_wants_F c0 → (
 wfR (.one (.v (.bool) r4)) → (
 bif (!r4) then
 bif (!decide (c0.2.2.2.2.1 = (0 : Int))) then
 K (.one (.v (.bool) false)) []
 else
 bif (decide (c0.2.2.1 = ([] : List Int))) then
 bif (decide (c0.2.2.2.1 = ([48] : List Int))) then
 bif (decide ((0 : Int) < c0.2.1)) then
 K (.one (.v (.bool) false)) []
 else
 bif (decide ((List.length c0.2.2.2.2.2 : Int) = (0 : Int))) then
 K (.one (.v (.bool) true)) []
 else
 bif (decide (c0.2.2.2.1 = ([47] : List Int))) then
 K (.one (.v (.bool) true)) []
 else
 bif (decide (c0.2.2.2.1 = ([63] : List Int))) then
 K (.one (.v (.bool) true)) []
 else
 K (.one (.v (.bool) (decide (c0.2.2.2.1 = ([58] : List Int))))) []
 else
 bif (decide ((List.length c0.2.2.2.2.2 : Int) = (0 : Int))) then
 K (.one (.v (.bool) true)) []
 else
 bif (decide (c0.2.2.2.1 = ([47] : List Int))) then
 K (.one (.v (.bool) true)) []
 else
 bif (decide (c0.2.2.2.1 = ([63] : List Int))) then
 K (.one (.v (.bool) true)) []
 else
 K (.one (.v (.bool) (decide (c0.2.2.2.1 = ([58] : List Int))))) []
 else
 bif (decide ((List.length c0.2.2.2.2.2 : Int) = (0 : Int))) then
 K (.one (.v (.bool) true)) []
 else
 bif (decide (c0.2.2.2.1 = ([47] : List Int))) then
 K (.one (.v (.bool) true)) []
 else
 bif (decide (c0.2.2.2.1 = ([63] : List Int))) then
 K (.one (.v (.bool) true)) []
 else
 K (.one (.v (.bool) (decide (c0.2.2.2.1 = ([58] : List Int))))) []
 else
 bif (decide (c0.2.2.1 = ([] : List Int))) then
 bif (decide (c0.2.2.2.1 = ([48] : List Int))) then
 bif (decide ((0 : Int) < c0.2.1)) then
 K (.one (.v (.bool) false)) []
 else
 bif (decide ((List.length c0.2.2.2.2.2 : Int) = (0 : Int))) then
 K (.one (.v (.bool) true)) []
 else
 bif (decide (c0.2.2.2.1 = ([47] : List Int))) then
 K (.one (.v (.bool) true)) []
 else
 bif (decide (c0.2.2.2.1 = ([63] : List Int))) then
 K (.one (.v (.bool) true)) []
 else
 K (.one (.v (.bool) (decide (c0.2.2.2.1 = ([58] : List Int))))) []
 else
 bif (decide ((List.length c0.2.2.2.2.2 : Int) = (0 : Int))) then
 K (.one (.v (.bool) true)) []
 else
 bif (decide (c0.2.2.2.1 = ([47] : List Int))) then
 K (.one (.v (.bool) true)) []
 else
 bif (decide (c0.2.2.2.1 = ([63] : List Int))) then
 K (.one (.v (.bool) true)) []
 else
 K (.one (.v (.bool) (decide (c0.2.2.2.1 = ([58] : List Int))))) []
 else
 bif (decide ((List.length c0.2.2.2.2.2 : Int) = (0 : Int))) then
 K (.one (.v (.bool) true)) []
 else
 bif (decide (c0.2.2.2.1 = ([47] : List Int))) then
 K (.one (.v (.bool) true)) []
 else
 bif (decide (c0.2.2.2.1 = ([63] : List Int))) then
 K (.one (.v (.bool) true)) []
 else
 K (.one (.v (.bool) (decide (c0.2.2.2.1 = ([58] : List Int))))) [])))
 else
 keys_wants_P c0 ∧ (
 ∀ (r5 : Bool), r5 = keys_wants_F c0 → (
 wfR (.one (.v (.bool) r5)) → (
 bif (!r5) then
 bif (!decide (c0.2.2.2.2.1 = (0 : Int))) then
 K (.one (.v (.bool) false)) []
 else
 bif (decide (c0.2.2.1 = ([] : List Int))) then
 bif (decide (c0.2.2.2.1 = ([48] : List Int))) then
 bif (decide ((0 : Int) < c0.2.1)) then
 K (.one (.v (.bool) false)) []
 else
 bif (decide ((List.length c0.2.2.2.2.2 : Int) = (0 : Int))) then
 K (.one (.v (.bool) true)) []
 else
 bif (decide (c0.2.2.2.1 = ([47] : List Int))) then
 K (.one (.v (.bool) true)) []
 else
 bif (decide (c0.2.2.2.1 = ([63] : List Int))) then
 K (.one (.v (.bool) true)) []
 else
 K (.one (.v (.bool) (decide (c0.2.2.2.1 = ([58] : List Int))))) []
 else
 bif (decide ((List.length c0.2.2.2.2.2 : Int) = (0 : Int))) then
 K (.one (.v (.bool) true)) []
 else
 bif (decide (c0.2.2.2.1 = ([47] : List Int))) then
 K (.one (.v (.bool) true)) []
 else
 bif (decide (c0.2.2.2.1 = ([63] : List Int))) then
 K (.one (.v (.bool) true)) []
 else
 K (.one (.v (.bool) (decide (c0.2.2.2.1 = ([58] : List Int))))) []
 else
 bif (decide ((List.length c0.2.2.2.2.2 : Int) = (0 : Int))) then
 K (.one (.v (.bool) true)) []
 else
 bif (decide (c0.2.2.2.1 = ([47] : List Int))) then
 K (.one (.v (.bool) true)) []
 else
 bif (decide (c0.2.2.2.1 = ([63] : List Int))) then
 K (.one (.v (.bool) true)) []
 else
 K (.one (.v (.bool) (decide (c0.2.2.2.1 = ([58] : List Int))))) []
 else
 bif (decide (c0.2.2.1 = ([] : List Int))) then
 bif (decide (c0.2.2.2.1 = ([48] : List Int))) then
 bif (decide ((0 : Int) < c0.2.1)) then
 K (.one (.v (.bool) false)) []
 else
 bif (decide ((List.length c0.2.2.2.2.2 : Int) = (0 : Int))) then
 K (.one (.v (.bool) true)) []
 else
 bif (decide (c0.2.2.2.1 = ([47] : List Int))) then
 K (.one (.v (.bool) true)) []
 else
 bif (decide (c0.2.2.2.1 = ([63] : List Int))) then
 K (.one (.v (.bool) true)) []
 else
 K (.one (.v (.bool) (decide (c0.2.2.2.1 = ([58] : List Int))))) []
 else
 bif (decide ((List.length c0.2.2.2.2.2 : Int) = (0 : Int))) then
 K (.one (.v (.bool) true)) []
 else
 bif (decide (c0.2.2.2.1 = ([47] : List Int))) then
 K (.one (.v (.bool) true)) []
 else
 bif (decide (c0.2.2.2.1 = ([63] : List Int))) then
 K (.one (.v (.bool) true)) []
 else
 K (.one (.v (.bool) (decide (c0.2.2.2.1 = ([58] : List Int))))) []
 else
 bif (decide ((List.length c0.2.2.2.2.2 : Int) = (0 : Int))) then
 K (.one (.v (.bool) true)) []
 else
 bif (decide (c0.2.2.2.1 = ([47] : List Int))) then
 K (.one (.v (.bool) true)) []
 else
 bif (decide (c0.2.2.2.1 = ([63] : List Int))) then
 K (.one (.v (.bool) true)) []
 else
 K (.one (.v (.bool) (decide (c0.2.2.2.1 = ([58] : List Int))))) [])))))))))))
def keys_is_A : List AS := [.v (.st (.pair (.int .u8) (.pair (.int .i64) (.pair (.str) (.pair (.str) (.pair (.int .u8) (.sl (.int .u8))))))))]
theorem keys_is_walk (c0 : CmT) (K : Res → List Cell → Prop) : runF tb (getG keys_is_G) [] Tryd.f89 [true] (mkA keys_is_A (c0, ())) K = keys_is_raw c0 K := by kernel_rfl

def keys_is_P (c0 : CmT) : Prop :=
 let r1 : Bool := bank_Valid_F c0.1
 bif (!r1) then
 True
 else
 bif (decide (c0.2.1 < (0 : Int))) then
 True
 else
 bif (decide ((9999 : Int) < c0.2.1)) then
 True
 else
 keys_known_P c0 ∧ (
 let r2 : Bool := keys_known_F c0
 bif (!r2) then
 True
 else
 keys_wants_P c0 ∧ (
 let r3 : Bool := keys_wants_F c0
 bif r3 then
 bif (decide (c0.2.2.2.2.1 = (27 : Int))) then
 True
 else
 keys_wants_P c0
 else
 keys_wants_P c0))
def keys_is_F (c0 : CmT) : Bool :=
 let r1 : Bool := bank_Valid_F c0.1
 bif (!r1) then
 false
 else
 bif (decide (c0.2.1 < (0 : Int))) then
 false
 else
 bif (decide ((9999 : Int) < c0.2.1)) then
 false
 else
 let r2 : Bool := keys_known_F c0
 bif (!r2) then
 false
 else
 let r3 : Bool := keys_wants_F c0
 bif r3 then
 bif (decide (c0.2.2.2.2.1 = (27 : Int))) then
 false
 else
 let r4 : Bool := keys_wants_F c0
 bif (!r4) then
 bif (!decide (c0.2.2.2.2.1 = (0 : Int))) then
 false
 else
 bif (decide (c0.2.2.1 = ([] : List Int))) then
 bif (decide (c0.2.2.2.1 = ([48] : List Int))) then
 bif (decide ((0 : Int) < c0.2.1)) then
 false
 else
 bif (decide ((List.length c0.2.2.2.2.2 : Int) = (0 : Int))) then
 true
 else
 bif (decide (c0.2.2.2.1 = ([47] : List Int))) then
 true
 else
 bif (decide (c0.2.2.2.1 = ([63] : List Int))) then
 true
 else
 (decide (c0.2.2.2.1 = ([58] : List Int)))
 else
 bif (decide ((List.length c0.2.2.2.2.2 : Int) = (0 : Int))) then
 true
 else
 bif (decide (c0.2.2.2.1 = ([47] : List Int))) then
 true
 else
 bif (decide (c0.2.2.2.1 = ([63] : List Int))) then
 true
 else
 (decide (c0.2.2.2.1 = ([58] : List Int)))
 else
 bif (decide ((List.length c0.2.2.2.2.2 : Int) = (0 : Int))) then
 true
 else
 bif (decide (c0.2.2.2.1 = ([47] : List Int))) then
 true
 else
 bif (decide (c0.2.2.2.1 = ([63] : List Int))) then
 true
 else
 (decide (c0.2.2.2.1 = ([58] : List Int)))
 else
 bif (decide (c0.2.2.1 = ([] : List Int))) then
 bif (decide (c0.2.2.2.1 = ([48] : List Int))) then
 bif (decide ((0 : Int) < c0.2.1)) then
 false
 else
 bif (decide ((List.length c0.2.2.2.2.2 : Int) = (0 : Int))) then
 true
 else
 bif (decide (c0.2.2.2.1 = ([47] : List Int))) then
 true
 else
 bif (decide (c0.2.2.2.1 = ([63] : List Int))) then
 true
 else
 (decide (c0.2.2.2.1 = ([58] : List Int)))
 else
 bif (decide ((List.length c0.2.2.2.2.2 : Int) = (0 : Int))) then
 true
 else
 bif (decide (c0.2.2.2.1 = ([47] : List Int))) then
 true
 else
 bif (decide (c0.2.2.2.1 = ([63] : List Int))) then
 true
 else
 (decide (c0.2.2.2.1 = ([58] : List Int)))
 else
 bif (decide ((List.length c0.2.2.2.2.2 : Int) = (0 : Int))) then
 true
 else
 bif (decide (c0.2.2.2.1 = ([47] : List Int))) then
 true
 else
 bif (decide (c0.2.2.2.1 = ([63] : List Int))) then
 true
 else
 (decide (c0.2.2.2.1 = ([58] : List Int)))
 else
 let r5 : Bool := keys_wants_F c0
 bif (!r5) then
 bif (!decide (c0.2.2.2.2.1 = (0 : Int))) then
 false
 else
 bif (decide (c0.2.2.1 = ([] : List Int))) then
 bif (decide (c0.2.2.2.1 = ([48] : List Int))) then
 bif (decide ((0 : Int) < c0.2.1)) then
 false
 else
 bif (decide ((List.length c0.2.2.2.2.2 : Int) = (0 : Int))) then
 true
 else
 bif (decide (c0.2.2.2.1 = ([47] : List Int))) then
 true
 else
 bif (decide (c0.2.2.2.1 = ([63] : List Int))) then
 true
 else
 (decide (c0.2.2.2.1 = ([58] : List Int)))
 else
 bif (decide ((List.length c0.2.2.2.2.2 : Int) = (0 : Int))) then
 true
 else
 bif (decide (c0.2.2.2.1 = ([47] : List Int))) then
 true
 else
 bif (decide (c0.2.2.2.1 = ([63] : List Int))) then
 true
 else
 (decide (c0.2.2.2.1 = ([58] : List Int)))
 else
 bif (decide ((List.length c0.2.2.2.2.2 : Int) = (0 : Int))) then
 true
 else
 bif (decide (c0.2.2.2.1 = ([47] : List Int))) then
 true
 else
 bif (decide (c0.2.2.2.1 = ([63] : List Int))) then
 true
 else
 (decide (c0.2.2.2.1 = ([58] : List Int)))
 else
 bif (decide (c0.2.2.1 = ([] : List Int))) then
 bif (decide (c0.2.2.2.1 = ([48] : List Int))) then
 bif (decide ((0 : Int) < c0.2.1)) then
 false
 else
 bif (decide ((List.length c0.2.2.2.2.2 : Int) = (0 : Int))) then
 true
 else
 bif (decide (c0.2.2.2.1 = ([47] : List Int))) then
 true
 else
 bif (decide (c0.2.2.2.1 = ([63] : List Int))) then
 true
 else
 (decide (c0.2.2.2.1 = ([58] : List Int)))
 else
 bif (decide ((List.length c0.2.2.2.2.2 : Int) = (0 : Int))) then
 true
 else
 bif (decide (c0.2.2.2.1 = ([47] : List Int))) then
 true
 else
 bif (decide (c0.2.2.2.1 = ([63] : List Int))) then
 true
 else
 (decide (c0.2.2.2.1 = ([58] : List Int)))
 else
 bif (decide ((List.length c0.2.2.2.2.2 : Int) = (0 : Int))) then
 true
 else
 bif (decide (c0.2.2.2.1 = ([47] : List Int))) then
 true
 else
 bif (decide (c0.2.2.2.1 = ([63] : List Int))) then
 true
 else
 (decide (c0.2.2.2.1 = ([58] : List Int)))
set_option maxRecDepth 20000 in
theorem keys_is_sp (c0 : CmT) (K : Res → List Cell → Prop) (_ : wfA keys_is_A (c0, ())) (hp : keys_is_P c0) (h : ∀ r : Bool, r = keys_is_F c0 → K (.one (.v (.bool) r)) []) : keys_is_raw c0 K := by
  unfold keys_is_raw
  unfold keys_is_P at hp
  intro r1 hr1
  subst hr1
  intro _
  refine brb (fun c_1 => ?_) (fun c_1 => ?_)
  ·
    clear hp
    exact h _ ((ctrue c_1) : keys_is_F c0 = _).symm
  ·
    replace hp := cF c_1 hp
    refine brb (fun c_2 => ?_) (fun c_2 => ?_)
    ·
      clear hp
      exact h _ ((Eq.trans (cfalse c_1) (ctrue c_2)) : keys_is_F c0 = _).symm
    ·
      replace hp := cF c_2 hp
      refine brb (fun c_3 => ?_) (fun c_3 => ?_)
      ·
        clear hp
        exact h _ ((Eq.trans (cfalse c_1) (Eq.trans (cfalse c_2) (ctrue c_3))) : keys_is_F c0 = _).symm
      ·
        replace hp := cF c_3 hp
        refine ⟨hp.1, ?_⟩
        replace hp := hp.2
        intro r2 hr2
        subst hr2
        intro _
        refine brb (fun c_4 => ?_) (fun c_4 => ?_)
        ·
          clear hp
          exact h _ ((Eq.trans (cfalse c_1) (Eq.trans (cfalse c_2) (Eq.trans (cfalse c_3) (ctrue c_4)))) : keys_is_F c0 = _).symm
        ·
          replace hp := cF c_4 hp
          refine ⟨hp.1, ?_⟩
          replace hp := hp.2
          intro r3 hr3
          subst hr3
          intro _
          refine brb (fun c_5 => ?_) (fun c_5 => ?_)
          ·
            replace hp := cT c_5 hp
            refine brb (fun c_6 => ?_) (fun c_6 => ?_)
            ·
              clear hp
              exact h _ ((Eq.trans (cfalse c_1) (Eq.trans (cfalse c_2) (Eq.trans (cfalse c_3) (Eq.trans (cfalse c_4) (Eq.trans (ctrue c_5) (ctrue c_6)))))) : keys_is_F c0 = _).symm
            ·
              replace hp := cF c_6 hp
              refine ⟨hp, ?_⟩
              intro r4 hr4
              subst hr4
              intro _
              refine brb (fun c_7 => ?_) (fun c_7 => ?_)
              ·
                refine brb (fun c_8 => ?_) (fun c_8 => ?_)
                ·
                  exact h _ ((Eq.trans (cfalse c_1) (Eq.trans (cfalse c_2) (Eq.trans (cfalse c_3) (Eq.trans (cfalse c_4) (Eq.trans (ctrue c_5) (Eq.trans (cfalse c_6) (Eq.trans (ctrue c_7) (ctrue c_8)))))))) : keys_is_F c0 = _).symm
                ·
                  refine brb (fun c_9 => ?_) (fun c_9 => ?_)
                  ·
                    refine brb (fun c_10 => ?_) (fun c_10 => ?_)
                    ·
                      refine brb (fun c_11 => ?_) (fun c_11 => ?_)
                      ·
                        exact h _ ((Eq.trans (cfalse c_1) (Eq.trans (cfalse c_2) (Eq.trans (cfalse c_3) (Eq.trans (cfalse c_4) (Eq.trans (ctrue c_5) (Eq.trans (cfalse c_6) (Eq.trans (ctrue c_7) (Eq.trans (cfalse c_8) (Eq.trans (ctrue c_9) (Eq.trans (ctrue c_10) (ctrue c_11))))))))))) : keys_is_F c0 = _).symm
                      ·
                        refine brb (fun c_12 => ?_) (fun c_12 => ?_)
                        ·
                          exact h _ ((Eq.trans (cfalse c_1) (Eq.trans (cfalse c_2) (Eq.trans (cfalse c_3) (Eq.trans (cfalse c_4) (Eq.trans (ctrue c_5) (Eq.trans (cfalse c_6) (Eq.trans (ctrue c_7) (Eq.trans (cfalse c_8) (Eq.trans (ctrue c_9) (Eq.trans (ctrue c_10) (Eq.trans (cfalse c_11) (ctrue c_12)))))))))))) : keys_is_F c0 = _).symm
                        ·
                          refine brb (fun c_13 => ?_) (fun c_13 => ?_)
                          ·
                            exact h _ ((Eq.trans (cfalse c_1) (Eq.trans (cfalse c_2) (Eq.trans (cfalse c_3) (Eq.trans (cfalse c_4) (Eq.trans (ctrue c_5) (Eq.trans (cfalse c_6) (Eq.trans (ctrue c_7) (Eq.trans (cfalse c_8) (Eq.trans (ctrue c_9) (Eq.trans (ctrue c_10) (Eq.trans (cfalse c_11) (Eq.trans (cfalse c_12) (ctrue c_13))))))))))))) : keys_is_F c0 = _).symm
                          ·
                            refine brb (fun c_14 => ?_) (fun c_14 => ?_)
                            ·
                              exact h _ ((Eq.trans (cfalse c_1) (Eq.trans (cfalse c_2) (Eq.trans (cfalse c_3) (Eq.trans (cfalse c_4) (Eq.trans (ctrue c_5) (Eq.trans (cfalse c_6) (Eq.trans (ctrue c_7) (Eq.trans (cfalse c_8) (Eq.trans (ctrue c_9) (Eq.trans (ctrue c_10) (Eq.trans (cfalse c_11) (Eq.trans (cfalse c_12) (Eq.trans (cfalse c_13) (ctrue c_14)))))))))))))) : keys_is_F c0 = _).symm
                            ·
                              exact h _ ((Eq.trans (cfalse c_1) (Eq.trans (cfalse c_2) (Eq.trans (cfalse c_3) (Eq.trans (cfalse c_4) (Eq.trans (ctrue c_5) (Eq.trans (cfalse c_6) (Eq.trans (ctrue c_7) (Eq.trans (cfalse c_8) (Eq.trans (ctrue c_9) (Eq.trans (ctrue c_10) (Eq.trans (cfalse c_11) (Eq.trans (cfalse c_12) (Eq.trans (cfalse c_13) (cfalse c_14)))))))))))))) : keys_is_F c0 = _).symm
                    ·
                      refine brb (fun c_15 => ?_) (fun c_15 => ?_)
                      ·
                        exact h _ ((Eq.trans (cfalse c_1) (Eq.trans (cfalse c_2) (Eq.trans (cfalse c_3) (Eq.trans (cfalse c_4) (Eq.trans (ctrue c_5) (Eq.trans (cfalse c_6) (Eq.trans (ctrue c_7) (Eq.trans (cfalse c_8) (Eq.trans (ctrue c_9) (Eq.trans (cfalse c_10) (ctrue c_15))))))))))) : keys_is_F c0 = _).symm
                      ·
                        refine brb (fun c_16 => ?_) (fun c_16 => ?_)
                        ·
                          exact h _ ((Eq.trans (cfalse c_1) (Eq.trans (cfalse c_2) (Eq.trans (cfalse c_3) (Eq.trans (cfalse c_4) (Eq.trans (ctrue c_5) (Eq.trans (cfalse c_6) (Eq.trans (ctrue c_7) (Eq.trans (cfalse c_8) (Eq.trans (ctrue c_9) (Eq.trans (cfalse c_10) (Eq.trans (cfalse c_15) (ctrue c_16)))))))))))) : keys_is_F c0 = _).symm
                        ·
                          refine brb (fun c_17 => ?_) (fun c_17 => ?_)
                          ·
                            exact h _ ((Eq.trans (cfalse c_1) (Eq.trans (cfalse c_2) (Eq.trans (cfalse c_3) (Eq.trans (cfalse c_4) (Eq.trans (ctrue c_5) (Eq.trans (cfalse c_6) (Eq.trans (ctrue c_7) (Eq.trans (cfalse c_8) (Eq.trans (ctrue c_9) (Eq.trans (cfalse c_10) (Eq.trans (cfalse c_15) (Eq.trans (cfalse c_16) (ctrue c_17))))))))))))) : keys_is_F c0 = _).symm
                          ·
                            exact h _ ((Eq.trans (cfalse c_1) (Eq.trans (cfalse c_2) (Eq.trans (cfalse c_3) (Eq.trans (cfalse c_4) (Eq.trans (ctrue c_5) (Eq.trans (cfalse c_6) (Eq.trans (ctrue c_7) (Eq.trans (cfalse c_8) (Eq.trans (ctrue c_9) (Eq.trans (cfalse c_10) (Eq.trans (cfalse c_15) (Eq.trans (cfalse c_16) (cfalse c_17))))))))))))) : keys_is_F c0 = _).symm
                  ·
                    refine brb (fun c_18 => ?_) (fun c_18 => ?_)
                    ·
                      exact h _ ((Eq.trans (cfalse c_1) (Eq.trans (cfalse c_2) (Eq.trans (cfalse c_3) (Eq.trans (cfalse c_4) (Eq.trans (ctrue c_5) (Eq.trans (cfalse c_6) (Eq.trans (ctrue c_7) (Eq.trans (cfalse c_8) (Eq.trans (cfalse c_9) (ctrue c_18)))))))))) : keys_is_F c0 = _).symm
                    ·
                      refine brb (fun c_19 => ?_) (fun c_19 => ?_)
                      ·
                        exact h _ ((Eq.trans (cfalse c_1) (Eq.trans (cfalse c_2) (Eq.trans (cfalse c_3) (Eq.trans (cfalse c_4) (Eq.trans (ctrue c_5) (Eq.trans (cfalse c_6) (Eq.trans (ctrue c_7) (Eq.trans (cfalse c_8) (Eq.trans (cfalse c_9) (Eq.trans (cfalse c_18) (ctrue c_19))))))))))) : keys_is_F c0 = _).symm
                      ·
                        refine brb (fun c_20 => ?_) (fun c_20 => ?_)
                        ·
                          exact h _ ((Eq.trans (cfalse c_1) (Eq.trans (cfalse c_2) (Eq.trans (cfalse c_3) (Eq.trans (cfalse c_4) (Eq.trans (ctrue c_5) (Eq.trans (cfalse c_6) (Eq.trans (ctrue c_7) (Eq.trans (cfalse c_8) (Eq.trans (cfalse c_9) (Eq.trans (cfalse c_18) (Eq.trans (cfalse c_19) (ctrue c_20)))))))))))) : keys_is_F c0 = _).symm
                        ·
                          exact h _ ((Eq.trans (cfalse c_1) (Eq.trans (cfalse c_2) (Eq.trans (cfalse c_3) (Eq.trans (cfalse c_4) (Eq.trans (ctrue c_5) (Eq.trans (cfalse c_6) (Eq.trans (ctrue c_7) (Eq.trans (cfalse c_8) (Eq.trans (cfalse c_9) (Eq.trans (cfalse c_18) (Eq.trans (cfalse c_19) (cfalse c_20)))))))))))) : keys_is_F c0 = _).symm
              ·
                refine brb (fun c_21 => ?_) (fun c_21 => ?_)
                ·
                  refine brb (fun c_22 => ?_) (fun c_22 => ?_)
                  ·
                    refine brb (fun c_23 => ?_) (fun c_23 => ?_)
                    ·
                      exact h _ ((Eq.trans (cfalse c_1) (Eq.trans (cfalse c_2) (Eq.trans (cfalse c_3) (Eq.trans (cfalse c_4) (Eq.trans (ctrue c_5) (Eq.trans (cfalse c_6) (Eq.trans (cfalse c_7) (Eq.trans (ctrue c_21) (Eq.trans (ctrue c_22) (ctrue c_23)))))))))) : keys_is_F c0 = _).symm
                    ·
                      refine brb (fun c_24 => ?_) (fun c_24 => ?_)
                      ·
                        exact h _ ((Eq.trans (cfalse c_1) (Eq.trans (cfalse c_2) (Eq.trans (cfalse c_3) (Eq.trans (cfalse c_4) (Eq.trans (ctrue c_5) (Eq.trans (cfalse c_6) (Eq.trans (cfalse c_7) (Eq.trans (ctrue c_21) (Eq.trans (ctrue c_22) (Eq.trans (cfalse c_23) (ctrue c_24))))))))))) : keys_is_F c0 = _).symm
                      ·
                        refine brb (fun c_25 => ?_) (fun c_25 => ?_)
                        ·
                          exact h _ ((Eq.trans (cfalse c_1) (Eq.trans (cfalse c_2) (Eq.trans (cfalse c_3) (Eq.trans (cfalse c_4) (Eq.trans (ctrue c_5) (Eq.trans (cfalse c_6) (Eq.trans (cfalse c_7) (Eq.trans (ctrue c_21) (Eq.trans (ctrue c_22) (Eq.trans (cfalse c_23) (Eq.trans (cfalse c_24) (ctrue c_25)))))))))))) : keys_is_F c0 = _).symm
                        ·
                          refine brb (fun c_26 => ?_) (fun c_26 => ?_)
                          ·
                            exact h _ ((Eq.trans (cfalse c_1) (Eq.trans (cfalse c_2) (Eq.trans (cfalse c_3) (Eq.trans (cfalse c_4) (Eq.trans (ctrue c_5) (Eq.trans (cfalse c_6) (Eq.trans (cfalse c_7) (Eq.trans (ctrue c_21) (Eq.trans (ctrue c_22) (Eq.trans (cfalse c_23) (Eq.trans (cfalse c_24) (Eq.trans (cfalse c_25) (ctrue c_26))))))))))))) : keys_is_F c0 = _).symm
                          ·
                            exact h _ ((Eq.trans (cfalse c_1) (Eq.trans (cfalse c_2) (Eq.trans (cfalse c_3) (Eq.trans (cfalse c_4) (Eq.trans (ctrue c_5) (Eq.trans (cfalse c_6) (Eq.trans (cfalse c_7) (Eq.trans (ctrue c_21) (Eq.trans (ctrue c_22) (Eq.trans (cfalse c_23) (Eq.trans (cfalse c_24) (Eq.trans (cfalse c_25) (cfalse c_26))))))))))))) : keys_is_F c0 = _).symm
                  ·
                    refine brb (fun c_27 => ?_) (fun c_27 => ?_)
                    ·
                      exact h _ ((Eq.trans (cfalse c_1) (Eq.trans (cfalse c_2) (Eq.trans (cfalse c_3) (Eq.trans (cfalse c_4) (Eq.trans (ctrue c_5) (Eq.trans (cfalse c_6) (Eq.trans (cfalse c_7) (Eq.trans (ctrue c_21) (Eq.trans (cfalse c_22) (ctrue c_27)))))))))) : keys_is_F c0 = _).symm
                    ·
                      refine brb (fun c_28 => ?_) (fun c_28 => ?_)
                      ·
                        exact h _ ((Eq.trans (cfalse c_1) (Eq.trans (cfalse c_2) (Eq.trans (cfalse c_3) (Eq.trans (cfalse c_4) (Eq.trans (ctrue c_5) (Eq.trans (cfalse c_6) (Eq.trans (cfalse c_7) (Eq.trans (ctrue c_21) (Eq.trans (cfalse c_22) (Eq.trans (cfalse c_27) (ctrue c_28))))))))))) : keys_is_F c0 = _).symm
                      ·
                        refine brb (fun c_29 => ?_) (fun c_29 => ?_)
                        ·
                          exact h _ ((Eq.trans (cfalse c_1) (Eq.trans (cfalse c_2) (Eq.trans (cfalse c_3) (Eq.trans (cfalse c_4) (Eq.trans (ctrue c_5) (Eq.trans (cfalse c_6) (Eq.trans (cfalse c_7) (Eq.trans (ctrue c_21) (Eq.trans (cfalse c_22) (Eq.trans (cfalse c_27) (Eq.trans (cfalse c_28) (ctrue c_29)))))))))))) : keys_is_F c0 = _).symm
                        ·
                          exact h _ ((Eq.trans (cfalse c_1) (Eq.trans (cfalse c_2) (Eq.trans (cfalse c_3) (Eq.trans (cfalse c_4) (Eq.trans (ctrue c_5) (Eq.trans (cfalse c_6) (Eq.trans (cfalse c_7) (Eq.trans (ctrue c_21) (Eq.trans (cfalse c_22) (Eq.trans (cfalse c_27) (Eq.trans (cfalse c_28) (cfalse c_29)))))))))))) : keys_is_F c0 = _).symm
                ·
                  refine brb (fun c_30 => ?_) (fun c_30 => ?_)
                  ·
                    exact h _ ((Eq.trans (cfalse c_1) (Eq.trans (cfalse c_2) (Eq.trans (cfalse c_3) (Eq.trans (cfalse c_4) (Eq.trans (ctrue c_5) (Eq.trans (cfalse c_6) (Eq.trans (cfalse c_7) (Eq.trans (cfalse c_21) (ctrue c_30))))))))) : keys_is_F c0 = _).symm
                  ·
                    refine brb (fun c_31 => ?_) (fun c_31 => ?_)
                    ·
                      exact h _ ((Eq.trans (cfalse c_1) (Eq.trans (cfalse c_2) (Eq.trans (cfalse c_3) (Eq.trans (cfalse c_4) (Eq.trans (ctrue c_5) (Eq.trans (cfalse c_6) (Eq.trans (cfalse c_7) (Eq.trans (cfalse c_21) (Eq.trans (cfalse c_30) (ctrue c_31)))))))))) : keys_is_F c0 = _).symm
                    ·
                      refine brb (fun c_32 => ?_) (fun c_32 => ?_)
                      ·
                        exact h _ ((Eq.trans (cfalse c_1) (Eq.trans (cfalse c_2) (Eq.trans (cfalse c_3) (Eq.trans (cfalse c_4) (Eq.trans (ctrue c_5) (Eq.trans (cfalse c_6) (Eq.trans (cfalse c_7) (Eq.trans (cfalse c_21) (Eq.trans (cfalse c_30) (Eq.trans (cfalse c_31) (ctrue c_32))))))))))) : keys_is_F c0 = _).symm
                      ·
                        exact h _ ((Eq.trans (cfalse c_1) (Eq.trans (cfalse c_2) (Eq.trans (cfalse c_3) (Eq.trans (cfalse c_4) (Eq.trans (ctrue c_5) (Eq.trans (cfalse c_6) (Eq.trans (cfalse c_7) (Eq.trans (cfalse c_21) (Eq.trans (cfalse c_30) (Eq.trans (cfalse c_31) (cfalse c_32))))))))))) : keys_is_F c0 = _).symm
          ·
            replace hp := cF c_5 hp
            refine ⟨hp, ?_⟩
            intro r5 hr5
            subst hr5
            intro _
            refine brb (fun c_33 => ?_) (fun c_33 => ?_)
            ·
              refine brb (fun c_34 => ?_) (fun c_34 => ?_)
              ·
                exact h _ ((Eq.trans (cfalse c_1) (Eq.trans (cfalse c_2) (Eq.trans (cfalse c_3) (Eq.trans (cfalse c_4) (Eq.trans (cfalse c_5) (Eq.trans (ctrue c_33) (ctrue c_34))))))) : keys_is_F c0 = _).symm
              ·
                refine brb (fun c_35 => ?_) (fun c_35 => ?_)
                ·
                  refine brb (fun c_36 => ?_) (fun c_36 => ?_)
                  ·
                    refine brb (fun c_37 => ?_) (fun c_37 => ?_)
                    ·
                      exact h _ ((Eq.trans (cfalse c_1) (Eq.trans (cfalse c_2) (Eq.trans (cfalse c_3) (Eq.trans (cfalse c_4) (Eq.trans (cfalse c_5) (Eq.trans (ctrue c_33) (Eq.trans (cfalse c_34) (Eq.trans (ctrue c_35) (Eq.trans (ctrue c_36) (ctrue c_37)))))))))) : keys_is_F c0 = _).symm
                    ·
                      refine brb (fun c_38 => ?_) (fun c_38 => ?_)
                      ·
                        exact h _ ((Eq.trans (cfalse c_1) (Eq.trans (cfalse c_2) (Eq.trans (cfalse c_3) (Eq.trans (cfalse c_4) (Eq.trans (cfalse c_5) (Eq.trans (ctrue c_33) (Eq.trans (cfalse c_34) (Eq.trans (ctrue c_35) (Eq.trans (ctrue c_36) (Eq.trans (cfalse c_37) (ctrue c_38))))))))))) : keys_is_F c0 = _).symm
                      ·
                        refine brb (fun c_39 => ?_) (fun c_39 => ?_)
                        ·
                          exact h _ ((Eq.trans (cfalse c_1) (Eq.trans (cfalse c_2) (Eq.trans (cfalse c_3) (Eq.trans (cfalse c_4) (Eq.trans (cfalse c_5) (Eq.trans (ctrue c_33) (Eq.trans (cfalse c_34) (Eq.trans (ctrue c_35) (Eq.trans (ctrue c_36) (Eq.trans (cfalse c_37) (Eq.trans (cfalse c_38) (ctrue c_39)))))))))))) : keys_is_F c0 = _).symm
                        ·
                          refine brb (fun c_40 => ?_) (fun c_40 => ?_)
                          ·
                            exact h _ ((Eq.trans (cfalse c_1) (Eq.trans (cfalse c_2) (Eq.trans (cfalse c_3) (Eq.trans (cfalse c_4) (Eq.trans (cfalse c_5) (Eq.trans (ctrue c_33) (Eq.trans (cfalse c_34) (Eq.trans (ctrue c_35) (Eq.trans (ctrue c_36) (Eq.trans (cfalse c_37) (Eq.trans (cfalse c_38) (Eq.trans (cfalse c_39) (ctrue c_40))))))))))))) : keys_is_F c0 = _).symm
                          ·
                            exact h _ ((Eq.trans (cfalse c_1) (Eq.trans (cfalse c_2) (Eq.trans (cfalse c_3) (Eq.trans (cfalse c_4) (Eq.trans (cfalse c_5) (Eq.trans (ctrue c_33) (Eq.trans (cfalse c_34) (Eq.trans (ctrue c_35) (Eq.trans (ctrue c_36) (Eq.trans (cfalse c_37) (Eq.trans (cfalse c_38) (Eq.trans (cfalse c_39) (cfalse c_40))))))))))))) : keys_is_F c0 = _).symm
                  ·
                    refine brb (fun c_41 => ?_) (fun c_41 => ?_)
                    ·
                      exact h _ ((Eq.trans (cfalse c_1) (Eq.trans (cfalse c_2) (Eq.trans (cfalse c_3) (Eq.trans (cfalse c_4) (Eq.trans (cfalse c_5) (Eq.trans (ctrue c_33) (Eq.trans (cfalse c_34) (Eq.trans (ctrue c_35) (Eq.trans (cfalse c_36) (ctrue c_41)))))))))) : keys_is_F c0 = _).symm
                    ·
                      refine brb (fun c_42 => ?_) (fun c_42 => ?_)
                      ·
                        exact h _ ((Eq.trans (cfalse c_1) (Eq.trans (cfalse c_2) (Eq.trans (cfalse c_3) (Eq.trans (cfalse c_4) (Eq.trans (cfalse c_5) (Eq.trans (ctrue c_33) (Eq.trans (cfalse c_34) (Eq.trans (ctrue c_35) (Eq.trans (cfalse c_36) (Eq.trans (cfalse c_41) (ctrue c_42))))))))))) : keys_is_F c0 = _).symm
                      ·
                        refine brb (fun c_43 => ?_) (fun c_43 => ?_)
                        ·
                          exact h _ ((Eq.trans (cfalse c_1) (Eq.trans (cfalse c_2) (Eq.trans (cfalse c_3) (Eq.trans (cfalse c_4) (Eq.trans (cfalse c_5) (Eq.trans (ctrue c_33) (Eq.trans (cfalse c_34) (Eq.trans (ctrue c_35) (Eq.trans (cfalse c_36) (Eq.trans (cfalse c_41) (Eq.trans (cfalse c_42) (ctrue c_43)))))))))))) : keys_is_F c0 = _).symm
                        ·
                          exact h _ ((Eq.trans (cfalse c_1) (Eq.trans (cfalse c_2) (Eq.trans (cfalse c_3) (Eq.trans (cfalse c_4) (Eq.trans (cfalse c_5) (Eq.trans (ctrue c_33) (Eq.trans (cfalse c_34) (Eq.trans (ctrue c_35) (Eq.trans (cfalse c_36) (Eq.trans (cfalse c_41) (Eq.trans (cfalse c_42) (cfalse c_43)))))))))))) : keys_is_F c0 = _).symm
                ·
                  refine brb (fun c_44 => ?_) (fun c_44 => ?_)
                  ·
                    exact h _ ((Eq.trans (cfalse c_1) (Eq.trans (cfalse c_2) (Eq.trans (cfalse c_3) (Eq.trans (cfalse c_4) (Eq.trans (cfalse c_5) (Eq.trans (ctrue c_33) (Eq.trans (cfalse c_34) (Eq.trans (cfalse c_35) (ctrue c_44))))))))) : keys_is_F c0 = _).symm
                  ·
                    refine brb (fun c_45 => ?_) (fun c_45 => ?_)
                    ·
                      exact h _ ((Eq.trans (cfalse c_1) (Eq.trans (cfalse c_2) (Eq.trans (cfalse c_3) (Eq.trans (cfalse c_4) (Eq.trans (cfalse c_5) (Eq.trans (ctrue c_33) (Eq.trans (cfalse c_34) (Eq.trans (cfalse c_35) (Eq.trans (cfalse c_44) (ctrue c_45)))))))))) : keys_is_F c0 = _).symm
                    ·
                      refine brb (fun c_46 => ?_) (fun c_46 => ?_)
                      ·
                        exact h _ ((Eq.trans (cfalse c_1) (Eq.trans (cfalse c_2) (Eq.trans (cfalse c_3) (Eq.trans (cfalse c_4) (Eq.trans (cfalse c_5) (Eq.trans (ctrue c_33) (Eq.trans (cfalse c_34) (Eq.trans (cfalse c_35) (Eq.trans (cfalse c_44) (Eq.trans (cfalse c_45) (ctrue c_46))))))))))) : keys_is_F c0 = _).symm
                      ·
                        exact h _ ((Eq.trans (cfalse c_1) (Eq.trans (cfalse c_2) (Eq.trans (cfalse c_3) (Eq.trans (cfalse c_4) (Eq.trans (cfalse c_5) (Eq.trans (ctrue c_33) (Eq.trans (cfalse c_34) (Eq.trans (cfalse c_35) (Eq.trans (cfalse c_44) (Eq.trans (cfalse c_45) (cfalse c_46))))))))))) : keys_is_F c0 = _).symm
            ·
              refine brb (fun c_47 => ?_) (fun c_47 => ?_)
              ·
                refine brb (fun c_48 => ?_) (fun c_48 => ?_)
                ·
                  refine brb (fun c_49 => ?_) (fun c_49 => ?_)
                  ·
                    exact h _ ((Eq.trans (cfalse c_1) (Eq.trans (cfalse c_2) (Eq.trans (cfalse c_3) (Eq.trans (cfalse c_4) (Eq.trans (cfalse c_5) (Eq.trans (cfalse c_33) (Eq.trans (ctrue c_47) (Eq.trans (ctrue c_48) (ctrue c_49))))))))) : keys_is_F c0 = _).symm
                  ·
                    refine brb (fun c_50 => ?_) (fun c_50 => ?_)
                    ·
                      exact h _ ((Eq.trans (cfalse c_1) (Eq.trans (cfalse c_2) (Eq.trans (cfalse c_3) (Eq.trans (cfalse c_4) (Eq.trans (cfalse c_5) (Eq.trans (cfalse c_33) (Eq.trans (ctrue c_47) (Eq.trans (ctrue c_48) (Eq.trans (cfalse c_49) (ctrue c_50)))))))))) : keys_is_F c0 = _).symm
                    ·
                      refine brb (fun c_51 => ?_) (fun c_51 => ?_)
                      ·
                        exact h _ ((Eq.trans (cfalse c_1) (Eq.trans (cfalse c_2) (Eq.trans (cfalse c_3) (Eq.trans (cfalse c_4) (Eq.trans (cfalse c_5) (Eq.trans (cfalse c_33) (Eq.trans (ctrue c_47) (Eq.trans (ctrue c_48) (Eq.trans (cfalse c_49) (Eq.trans (cfalse c_50) (ctrue c_51))))))))))) : keys_is_F c0 = _).symm
                      ·
                        refine brb (fun c_52 => ?_) (fun c_52 => ?_)
                        ·
                          exact h _ ((Eq.trans (cfalse c_1) (Eq.trans (cfalse c_2) (Eq.trans (cfalse c_3) (Eq.trans (cfalse c_4) (Eq.trans (cfalse c_5) (Eq.trans (cfalse c_33) (Eq.trans (ctrue c_47) (Eq.trans (ctrue c_48) (Eq.trans (cfalse c_49) (Eq.trans (cfalse c_50) (Eq.trans (cfalse c_51) (ctrue c_52)))))))))))) : keys_is_F c0 = _).symm
                        ·
                          exact h _ ((Eq.trans (cfalse c_1) (Eq.trans (cfalse c_2) (Eq.trans (cfalse c_3) (Eq.trans (cfalse c_4) (Eq.trans (cfalse c_5) (Eq.trans (cfalse c_33) (Eq.trans (ctrue c_47) (Eq.trans (ctrue c_48) (Eq.trans (cfalse c_49) (Eq.trans (cfalse c_50) (Eq.trans (cfalse c_51) (cfalse c_52)))))))))))) : keys_is_F c0 = _).symm
                ·
                  refine brb (fun c_53 => ?_) (fun c_53 => ?_)
                  ·
                    exact h _ ((Eq.trans (cfalse c_1) (Eq.trans (cfalse c_2) (Eq.trans (cfalse c_3) (Eq.trans (cfalse c_4) (Eq.trans (cfalse c_5) (Eq.trans (cfalse c_33) (Eq.trans (ctrue c_47) (Eq.trans (cfalse c_48) (ctrue c_53))))))))) : keys_is_F c0 = _).symm
                  ·
                    refine brb (fun c_54 => ?_) (fun c_54 => ?_)
                    ·
                      exact h _ ((Eq.trans (cfalse c_1) (Eq.trans (cfalse c_2) (Eq.trans (cfalse c_3) (Eq.trans (cfalse c_4) (Eq.trans (cfalse c_5) (Eq.trans (cfalse c_33) (Eq.trans (ctrue c_47) (Eq.trans (cfalse c_48) (Eq.trans (cfalse c_53) (ctrue c_54)))))))))) : keys_is_F c0 = _).symm
                    ·
                      refine brb (fun c_55 => ?_) (fun c_55 => ?_)
                      ·
                        exact h _ ((Eq.trans (cfalse c_1) (Eq.trans (cfalse c_2) (Eq.trans (cfalse c_3) (Eq.trans (cfalse c_4) (Eq.trans (cfalse c_5) (Eq.trans (cfalse c_33) (Eq.trans (ctrue c_47) (Eq.trans (cfalse c_48) (Eq.trans (cfalse c_53) (Eq.trans (cfalse c_54) (ctrue c_55))))))))))) : keys_is_F c0 = _).symm
                      ·
                        exact h _ ((Eq.trans (cfalse c_1) (Eq.trans (cfalse c_2) (Eq.trans (cfalse c_3) (Eq.trans (cfalse c_4) (Eq.trans (cfalse c_5) (Eq.trans (cfalse c_33) (Eq.trans (ctrue c_47) (Eq.trans (cfalse c_48) (Eq.trans (cfalse c_53) (Eq.trans (cfalse c_54) (cfalse c_55))))))))))) : keys_is_F c0 = _).symm
              ·
                refine brb (fun c_56 => ?_) (fun c_56 => ?_)
                ·
                  exact h _ ((Eq.trans (cfalse c_1) (Eq.trans (cfalse c_2) (Eq.trans (cfalse c_3) (Eq.trans (cfalse c_4) (Eq.trans (cfalse c_5) (Eq.trans (cfalse c_33) (Eq.trans (cfalse c_47) (ctrue c_56)))))))) : keys_is_F c0 = _).symm
                ·
                  refine brb (fun c_57 => ?_) (fun c_57 => ?_)
                  ·
                    exact h _ ((Eq.trans (cfalse c_1) (Eq.trans (cfalse c_2) (Eq.trans (cfalse c_3) (Eq.trans (cfalse c_4) (Eq.trans (cfalse c_5) (Eq.trans (cfalse c_33) (Eq.trans (cfalse c_47) (Eq.trans (cfalse c_56) (ctrue c_57))))))))) : keys_is_F c0 = _).symm
                  ·
                    refine brb (fun c_58 => ?_) (fun c_58 => ?_)
                    ·
                      exact h _ ((Eq.trans (cfalse c_1) (Eq.trans (cfalse c_2) (Eq.trans (cfalse c_3) (Eq.trans (cfalse c_4) (Eq.trans (cfalse c_5) (Eq.trans (cfalse c_33) (Eq.trans (cfalse c_47) (Eq.trans (cfalse c_56) (Eq.trans (cfalse c_57) (ctrue c_58)))))))))) : keys_is_F c0 = _).symm
                    ·
                      exact h _ ((Eq.trans (cfalse c_1) (Eq.trans (cfalse c_2) (Eq.trans (cfalse c_3) (Eq.trans (cfalse c_4) (Eq.trans (cfalse c_5) (Eq.trans (cfalse c_33) (Eq.trans (cfalse c_47) (Eq.trans (cfalse c_56) (Eq.trans (cfalse c_57) (cfalse c_58)))))))))) : keys_is_F c0 = _).symm
def keys_is_C (v : valsA keys_is_A) (K : Res → List Cell → Prop) : Prop := keys_is_P v.1 ∧ ∀ r : Bool, r = keys_is_F v.1 → K (.one (.v (.bool) r)) []
def keys_is_S : App := specW keys_is_A keys_is_C
theorem keys_is_wv (K : Res → List Cell → Prop) : ∀ v : valsA keys_is_A, runF tb (getG keys_is_G) [] Tryd.f89 [true] (mkA keys_is_A v) K = keys_is_raw v.1 K
  | (c0, ()) => keys_is_walk c0 K
set_option maxRecDepth 20000 in
theorem keys_is_ok : AppOk Tryd.prog 89 keys_is_S :=
  AppOk.specW (spec_ok ((runF_ok tb_M tb_ok keys_is_Gok (LabsOk.nil) (f := 89) (fn := Tryd.f89) (by kernel_rfl) (by kernel_rfl) (by kernel_rfl) [true])) fun v K hw h => (keys_is_wv K v).mpr (keys_is_sp v.1 K hw h.1 h.2))

end Go.VE
namespace Go.VE
open Go Go.Proofs
/-! ### quoin/keys.Name -/
def keys_Name_G : List (Nat × App) := [(89, keys_is_S), (90, keys_wants_S)]
theorem keys_Name_Gok : GOk Tryd.prog (getG keys_Name_G) := GOk.cons keys_is_ok (GOk.cons keys_wants_ok (GOk.nil))
def keys_Name_raw (c0 : CmT) (K : Res → List Cell → Prop) : Prop :=
 keys_is_P c0 ∧ (
 ∀ (r1 : Bool), r1 = keys_is_F c0 → (
 wfR (.one (.v (.bool) r1)) → (
 bif (!r1) then
 K (.one (.fr 4294967301 (.int .u8) ([] : List Int))) []
 else
 bif (!decide (c0.2.2.1 = ([] : List Int))) then
 bif (decide (c0.2.2.2.1 = c0.2.2.1)) then
 bif decide (0 ≤ (IntKind.wrap .i64 ((List.length c0.2.2.1 : Int) - (1 : Int))) ∧ (IntKind.wrap .i64 ((List.length c0.2.2.1 : Int) - (1 : Int))) < (List.length c0.2.2.1 : Int)) then
 bif decide (List.length c0.2.2.1 + List.length ([(rd (0 : Int) c0.2.2.1 (IntKind.wrap .i64 ((List.length c0.2.2.1 : Int) - (1 : Int))))] : List Int) ≤ lim) then
 K (.one (.fr 4294967301 (.int .u8) (c0.2.2.1 ++ ([(rd (0 : Int) c0.2.2.1 (IntKind.wrap .i64 ((List.length c0.2.2.1 : Int) - (1 : Int))))] : List Int)))) []
 else False
 else False
 else
 bif decide (List.length c0.2.2.1 + List.length c0.2.2.2.1 ≤ lim) then
 keys_wants_P c0 ∧ (
 ∀ (r2 : Bool), r2 = keys_wants_F c0 → (
 wfR (.one (.v (.bool) r2)) → (
 bif r2 then
 bif decide (List.length (c0.2.2.1 ++ c0.2.2.2.1) + List.length ([c0.2.2.2.2.1] : List Int) ≤ lim) then
 K (.one (.fr 4294967301 (.int .u8) ((c0.2.2.1 ++ c0.2.2.2.1) ++ ([c0.2.2.2.2.1] : List Int)))) []
 else False
 else
 K (.one (.fr 4294967301 (.int .u8) (c0.2.2.1 ++ c0.2.2.2.1))) [])))
 else False
 else
 bif decide (List.length c0.2.2.1 + List.length c0.2.2.2.1 ≤ lim) then
 keys_wants_P c0 ∧ (
 ∀ (r3 : Bool), r3 = keys_wants_F c0 → (
 wfR (.one (.v (.bool) r3)) → (
 bif r3 then
 bif decide (List.length (c0.2.2.1 ++ c0.2.2.2.1) + List.length ([c0.2.2.2.2.1] : List Int) ≤ lim) then
 K (.one (.fr 4294967301 (.int .u8) ((c0.2.2.1 ++ c0.2.2.2.1) ++ ([c0.2.2.2.2.1] : List Int)))) []
 else False
 else
 K (.one (.fr 4294967301 (.int .u8) (c0.2.2.1 ++ c0.2.2.2.1))) [])))
 else False)))
def keys_Name_A : List AS := [.v (.st (.pair (.int .u8) (.pair (.int .i64) (.pair (.str) (.pair (.str) (.pair (.int .u8) (.sl (.int .u8))))))))]
theorem keys_Name_walk (c0 : CmT) (K : Res → List Cell → Prop) : markA (runF tb (getG keys_Name_G) [] Tryd.f48 [true]) (mkA keys_Name_A (c0, ())) K = keys_Name_raw c0 K := by kernel_rfl
--! mark 1

def keys_Name_P (c0 : CmT) : Prop :=
 keys_is_P c0 ∧ (
 let r1 : Bool := keys_is_F c0
 bif (!r1) then
 True
 else
 bif (!decide (c0.2.2.1 = ([] : List Int))) then
 bif (decide (c0.2.2.2.1 = c0.2.2.1)) then
 (0 ≤ (IntKind.wrap .i64 ((List.length c0.2.2.1 : Int) - (1 : Int))) ∧ (IntKind.wrap .i64 ((List.length c0.2.2.1 : Int) - (1 : Int))) < (List.length c0.2.2.1 : Int)) ∧ (
 (List.length c0.2.2.1 + List.length ([(rd (0 : Int) c0.2.2.1 (IntKind.wrap .i64 ((List.length c0.2.2.1 : Int) - (1 : Int))))] : List Int) ≤ lim))
 else
 (List.length c0.2.2.1 + List.length c0.2.2.2.1 ≤ lim) ∧ (
 keys_wants_P c0 ∧ (
 let r2 : Bool := keys_wants_F c0
 bif r2 then
 (List.length (c0.2.2.1 ++ c0.2.2.2.1) + List.length ([c0.2.2.2.2.1] : List Int) ≤ lim)
 else
 True))
 else
 (List.length c0.2.2.1 + List.length c0.2.2.2.1 ≤ lim) ∧ (
 keys_wants_P c0 ∧ (
 let r3 : Bool := keys_wants_F c0
 bif r3 then
 (List.length (c0.2.2.1 ++ c0.2.2.2.1) + List.length ([c0.2.2.2.2.1] : List Int) ≤ lim)
 else
 True)))
def keys_Name_F (c0 : CmT) : List Int :=
 let r1 : Bool := keys_is_F c0
 bif (!r1) then
 ([] : List Int)
 else
 bif (!decide (c0.2.2.1 = ([] : List Int))) then
 bif (decide (c0.2.2.2.1 = c0.2.2.1)) then
 (c0.2.2.1 ++ ([(rd (0 : Int) c0.2.2.1 (IntKind.wrap .i64 ((List.length c0.2.2.1 : Int) - (1 : Int))))] : List Int))
 else
 let r2 : Bool := keys_wants_F c0
 bif r2 then
 ((c0.2.2.1 ++ c0.2.2.2.1) ++ ([c0.2.2.2.2.1] : List Int))
 else
 (c0.2.2.1 ++ c0.2.2.2.1)
 else
 let r3 : Bool := keys_wants_F c0
 bif r3 then
 ((c0.2.2.1 ++ c0.2.2.2.1) ++ ([c0.2.2.2.2.1] : List Int))
 else
 (c0.2.2.1 ++ c0.2.2.2.1)
set_option maxRecDepth 20000 in
theorem keys_Name_sp (c0 : CmT) (K : Res → List Cell → Prop) (_ : wfA keys_Name_A (c0, ())) (hp : keys_Name_P c0) (h : ∀ r : List Int, r = keys_Name_F c0 → K (.one (.fr 4294967301 (.int .u8) r)) []) : keys_Name_raw c0 K := by
  unfold keys_Name_raw
  unfold keys_Name_P at hp
  refine ⟨hp.1, ?_⟩
  replace hp := hp.2
  intro r1 hr1
  subst hr1
  intro _
  refine brb (fun c_1 => ?_) (fun c_1 => ?_)
  ·
    clear hp
    exact h _ ((ctrue c_1) : keys_Name_F c0 = _).symm
  ·
    replace hp := cF c_1 hp
    refine brb (fun c_2 => ?_) (fun c_2 => ?_)
    ·
      replace hp := cT c_2 hp
      refine brb (fun c_3 => ?_) (fun c_3 => ?_)
      ·
        replace hp := cT c_3 hp
        refine asrt hp.1 ?_
        replace hp := hp.2
        refine asrt hp ?_
        exact h _ ((Eq.trans (cfalse c_1) (Eq.trans (ctrue c_2) (ctrue c_3))) : keys_Name_F c0 = _).symm
      ·
        replace hp := cF c_3 hp
        refine asrt hp.1 ?_
        replace hp := hp.2
        refine ⟨hp.1, ?_⟩
        replace hp := hp.2
        intro r2 hr2
        subst hr2
        intro _
        refine brb (fun c_4 => ?_) (fun c_4 => ?_)
        ·
          replace hp := cT c_4 hp
          refine asrt hp ?_
          exact h _ ((Eq.trans (cfalse c_1) (Eq.trans (ctrue c_2) (Eq.trans (cfalse c_3) (ctrue c_4)))) : keys_Name_F c0 = _).symm
        ·
          clear hp
          exact h _ ((Eq.trans (cfalse c_1) (Eq.trans (ctrue c_2) (Eq.trans (cfalse c_3) (cfalse c_4)))) : keys_Name_F c0 = _).symm
    ·
      replace hp := cF c_2 hp
      refine asrt hp.1 ?_
      replace hp := hp.2
      refine ⟨hp.1, ?_⟩
      replace hp := hp.2
      intro r3 hr3
      subst hr3
      intro _
      refine brb (fun c_5 => ?_) (fun c_5 => ?_)
      ·
        replace hp := cT c_5 hp
        refine asrt hp ?_
        exact h _ ((Eq.trans (cfalse c_1) (Eq.trans (cfalse c_2) (ctrue c_5))) : keys_Name_F c0 = _).symm
      ·
        clear hp
        exact h _ ((Eq.trans (cfalse c_1) (Eq.trans (cfalse c_2) (cfalse c_5))) : keys_Name_F c0 = _).symm
def keys_Name_C (v : valsA keys_Name_A) (K : Res → List Cell → Prop) : Prop := keys_Name_P v.1 ∧ ∀ r : List Int, r = keys_Name_F v.1 → K (.one (.fr 4294967301 (.int .u8) r)) []
def keys_Name_S : App := specW keys_Name_A keys_Name_C
theorem keys_Name_wv (K : Res → List Cell → Prop) : ∀ v : valsA keys_Name_A, markA (runF tb (getG keys_Name_G) [] Tryd.f48 [true]) (mkA keys_Name_A v) K = keys_Name_raw v.1 K
  | (c0, ()) => keys_Name_walk c0 K
set_option maxRecDepth 20000 in
theorem keys_Name_ok : AppOk Tryd.prog 48 keys_Name_S :=
  AppOk.specW (spec_ok (AppOk.mark (runF_ok tb_M tb_ok keys_Name_Gok (LabsOk.nil) (f := 48) (fn := Tryd.f48) (by kernel_rfl) (by kernel_rfl) (by kernel_rfl) [true])) fun v K hw h => (keys_Name_wv K v).mpr (keys_Name_sp v.1 K hw h.1 h.2))

end Go.VE
namespace Go.VE
open Go Go.Proofs

theorem bif_both {b : Bool} {A B : Prop} (hA : A) (hB : B) : bif b then A else B := by cases b <;> assumption
theorem elim_both {α β : Type} {f : α → Prop} {g : β → Prop} (hf : ∀ a, f a) (hg : ∀ b, g b) (x : α ⊕ β) : Sum.elim f g x := by cases x; exact hf _; exact hg _

theorem one_P (k l : List Int) : keys_one_P k l := by
  unfold keys_one_P
  by_cases h : (k.length : Int) = 1
  · have : decide ((k.length : Int) = 1) = true := by simpa using h
    rw [this]
    show internal_stringslite_Index_P l k
    unfold internal_stringslite_Index_P
    have h0 : decide ((k.length : Int) = 0) = false := by rw [decide_eq_false_iff_not]; omega
    rw [h0, this]
    simp only [cond_true, cond_false]
    exact bif_both trivial ⟨by omega, by omega⟩
  · have : decide ((k.length : Int) = 1) = false := by simpa using h
    rw [this]; trivial

theorem motionJ1_P (k : List Int) : keys_motion_J1_P k := ⟨one_P _ _, bif_both trivial (one_P _ _)⟩

theorem motion_P (k : List Int) : keys_motion_P k := by
  unfold keys_motion_P
  repeat' (first | exact trivial | refine bif_both ?_ ?_ | exact elim_both (fun _ => trivial) (fun q => motionJ1_P q) _)

theorem wants_P (c : Cmd) : keys_wants_P c := ⟨one_P _ _, bif_both trivial (bif_both (one_P _ _) trivial)⟩

theorem knownJ0_P (x : Bool) (c : Cmd) : keys_known_J0_P x c := by
  unfold keys_known_J0_P
  refine bif_both ?_ trivial
  by_cases h : (c.2.2.2.1.length : Int) = 2
  · have e : decide ((c.2.2.2.1.length : Int) = 2) = true := by simpa using h
    rw [e]
    simp only [cond_true, cond_false]
    refine ⟨⟨by omega, by omega⟩, bif_both ⟨⟨by omega, by omega⟩, one_P _ _, bif_both trivial (bif_both trivial (motion_P _))⟩ ⟨⟨by omega, by omega⟩, bif_both ⟨⟨by omega, by omega⟩, one_P _ _, bif_both trivial (bif_both trivial (motion_P _))⟩ (bif_both trivial (motion_P _))⟩⟩
  · have e : decide ((c.2.2.2.1.length : Int) = 2) = false := by simpa using h
    rw [e]
    simp only [cond_true, cond_false]
    exact bif_both trivial (motion_P _)

theorem known_P (c : Cmd) : keys_known_P c := by
  unfold keys_known_P
  refine bif_both ⟨motion_P _, bif_both trivial ⟨one_P _ _, bif_both trivial (one_P _ _)⟩⟩ ?_
  repeat' (first | exact knownJ0_P _ _ | refine bif_both ?_ ?_)

theorem is_P (c : Cmd) : keys_is_P c := by
  unfold keys_is_P
  exact bif_both trivial (bif_both trivial (bif_both trivial ⟨known_P _, bif_both trivial ⟨wants_P _, bif_both (bif_both trivial (wants_P _)) (wants_P _)⟩⟩))

theorem name_P (c : Cmd) (h1 : c.2.2.1.length ≤ 1099511) (h2 : c.2.2.2.1.length ≤ 1099511) : keys_Name_P c := by
  unfold keys_Name_P
  refine ⟨is_P c, bif_both trivial ?_⟩
  have L1 : c.2.2.1.length + c.2.2.2.1.length ≤ lim := by unfold lim; omega
  have L2 : (c.2.2.1 ++ c.2.2.2.1).length + List.length ([c.2.2.2.2.1] : List Int) ≤ lim := by unfold lim; simp only [List.length_append, List.length_cons, List.length_nil]; omega
  by_cases h : c.2.2.1 = []
  · have e : (!decide (c.2.2.1 = [])) = false := by simpa using h
    rw [e]
    simp only [cond_true, cond_false]
    exact ⟨L1, wants_P c, bif_both L2 trivial⟩
  · have e : (!decide (c.2.2.1 = [])) = true := by simpa using h
    rw [e]
    simp only [cond_true, cond_false]
    have hp : 0 < c.2.2.1.length := List.length_pos_iff.2 h
    rw [wrap_i64 (by omega) (by omega)]
    refine bif_both ⟨⟨by omega, by omega⟩, ?_⟩ ⟨L1, wants_P c, bif_both L2 trivial⟩
    simp only [List.length_cons, List.length_nil]; unfold lim; omega

end Go.VE
namespace Go.VE
open Go Go.Proofs
/-! ### internal/strconv.small -/
def internal_strconv_small_G : List (Nat × App) := []
theorem internal_strconv_small_Gok : GOk Tryd.prog (getG internal_strconv_small_G) := GOk.nil
def internal_strconv_small_raw (i0 : Int) (K : Res → List Cell → Prop) : Prop :=
 bif (decide (i0 < (10 : Int))) then
 bif decide (0 ≤ i0 ∧ i0 ≤ (IntKind.wrap .i64 (i0 + (1 : Int))) ∧ (IntKind.wrap .i64 (i0 + (1 : Int))) ≤ (List.length ([48, 49, 50, 51, 52, 53, 54, 55, 56, 57, 97, 98, 99, 100, 101, 102, 103, 104, 105, 106, 107, 108, 109, 110, 111, 112, 113, 114, 115, 116, 117, 118, 119, 120, 121, 122] : List Int) : Int)) then
 K (.one (.v (.str) (slc ([48, 49, 50, 51, 52, 53, 54, 55, 56, 57, 97, 98, 99, 100, 101, 102, 103, 104, 105, 106, 107, 108, 109, 110, 111, 112, 113, 114, 115, 116, 117, 118, 119, 120, 121, 122] : List Int) i0 (IntKind.wrap .i64 (i0 + (1 : Int)))))) []
 else False
 else
 bif decide (0 ≤ (IntKind.wrap .i64 (i0 * (2 : Int))) ∧ (IntKind.wrap .i64 (i0 * (2 : Int))) ≤ (IntKind.wrap .i64 ((IntKind.wrap .i64 (i0 * (2 : Int))) + (2 : Int))) ∧ (IntKind.wrap .i64 ((IntKind.wrap .i64 (i0 * (2 : Int))) + (2 : Int))) ≤ (List.length ([48, 48, 48, 49, 48, 50, 48, 51, 48, 52, 48, 53, 48, 54, 48, 55, 48, 56, 48, 57, 49, 48, 49, 49, 49, 50, 49, 51, 49, 52, 49, 53, 49, 54, 49, 55, 49, 56, 49, 57, 50, 48, 50, 49, 50, 50, 50, 51, 50, 52, 50, 53, 50, 54, 50, 55, 50, 56, 50, 57, 51, 48, 51, 49, 51, 50, 51, 51, 51, 52, 51, 53, 51, 54, 51, 55, 51, 56, 51, 57, 52, 48, 52, 49, 52, 50, 52, 51, 52, 52, 52, 53, 52, 54, 52, 55, 52, 56, 52, 57, 53, 48, 53, 49, 53, 50, 53, 51, 53, 52, 53, 53, 53, 54, 53, 55, 53, 56, 53, 57, 54, 48, 54, 49, 54, 50, 54, 51, 54, 52, 54, 53, 54, 54, 54, 55, 54, 56, 54, 57, 55, 48, 55, 49, 55, 50, 55, 51, 55, 52, 55, 53, 55, 54, 55, 55, 55, 56, 55, 57, 56, 48, 56, 49, 56, 50, 56, 51, 56, 52, 56, 53, 56, 54, 56, 55, 56, 56, 56, 57, 57, 48, 57, 49, 57, 50, 57, 51, 57, 52, 57, 53, 57, 54, 57, 55, 57, 56, 57, 57] : List Int) : Int)) then
 K (.one (.v (.str) (slc ([48, 48, 48, 49, 48, 50, 48, 51, 48, 52, 48, 53, 48, 54, 48, 55, 48, 56, 48, 57, 49, 48, 49, 49, 49, 50, 49, 51, 49, 52, 49, 53, 49, 54, 49, 55, 49, 56, 49, 57, 50, 48, 50, 49, 50, 50, 50, 51, 50, 52, 50, 53, 50, 54, 50, 55, 50, 56, 50, 57, 51, 48, 51, 49, 51, 50, 51, 51, 51, 52, 51, 53, 51, 54, 51, 55, 51, 56, 51, 57, 52, 48, 52, 49, 52, 50, 52, 51, 52, 52, 52, 53, 52, 54, 52, 55, 52, 56, 52, 57, 53, 48, 53, 49, 53, 50, 53, 51, 53, 52, 53, 53, 53, 54, 53, 55, 53, 56, 53, 57, 54, 48, 54, 49, 54, 50, 54, 51, 54, 52, 54, 53, 54, 54, 54, 55, 54, 56, 54, 57, 55, 48, 55, 49, 55, 50, 55, 51, 55, 52, 55, 53, 55, 54, 55, 55, 55, 56, 55, 57, 56, 48, 56, 49, 56, 50, 56, 51, 56, 52, 56, 53, 56, 54, 56, 55, 56, 56, 56, 57, 57, 48, 57, 49, 57, 50, 57, 51, 57, 52, 57, 53, 57, 54, 57, 55, 57, 56, 57, 57] : List Int) (IntKind.wrap .i64 (i0 * (2 : Int))) (IntKind.wrap .i64 ((IntKind.wrap .i64 (i0 * (2 : Int))) + (2 : Int)))))) []
 else False
def internal_strconv_small_A : List AS := [.v (.int .i64)]
theorem internal_strconv_small_walk (i0 : Int) (K : Res → List Cell → Prop) : runF tb (getG internal_strconv_small_G) [] Tryd.f151 [true] (mkA internal_strconv_small_A (i0, ())) K = internal_strconv_small_raw i0 K := by kernel_rfl

def internal_strconv_small_P (i0 : Int) : Prop :=
 bif (decide (i0 < (10 : Int))) then
 (0 ≤ i0 ∧ i0 ≤ (IntKind.wrap .i64 (i0 + (1 : Int))) ∧ (IntKind.wrap .i64 (i0 + (1 : Int))) ≤ (List.length ([48, 49, 50, 51, 52, 53, 54, 55, 56, 57, 97, 98, 99, 100, 101, 102, 103, 104, 105, 106, 107, 108, 109, 110, 111, 112, 113, 114, 115, 116, 117, 118, 119, 120, 121, 122] : List Int) : Int))
 else
 (0 ≤ (IntKind.wrap .i64 (i0 * (2 : Int))) ∧ (IntKind.wrap .i64 (i0 * (2 : Int))) ≤ (IntKind.wrap .i64 ((IntKind.wrap .i64 (i0 * (2 : Int))) + (2 : Int))) ∧ (IntKind.wrap .i64 ((IntKind.wrap .i64 (i0 * (2 : Int))) + (2 : Int))) ≤ (List.length ([48, 48, 48, 49, 48, 50, 48, 51, 48, 52, 48, 53, 48, 54, 48, 55, 48, 56, 48, 57, 49, 48, 49, 49, 49, 50, 49, 51, 49, 52, 49, 53, 49, 54, 49, 55, 49, 56, 49, 57, 50, 48, 50, 49, 50, 50, 50, 51, 50, 52, 50, 53, 50, 54, 50, 55, 50, 56, 50, 57, 51, 48, 51, 49, 51, 50, 51, 51, 51, 52, 51, 53, 51, 54, 51, 55, 51, 56, 51, 57, 52, 48, 52, 49, 52, 50, 52, 51, 52, 52, 52, 53, 52, 54, 52, 55, 52, 56, 52, 57, 53, 48, 53, 49, 53, 50, 53, 51, 53, 52, 53, 53, 53, 54, 53, 55, 53, 56, 53, 57, 54, 48, 54, 49, 54, 50, 54, 51, 54, 52, 54, 53, 54, 54, 54, 55, 54, 56, 54, 57, 55, 48, 55, 49, 55, 50, 55, 51, 55, 52, 55, 53, 55, 54, 55, 55, 55, 56, 55, 57, 56, 48, 56, 49, 56, 50, 56, 51, 56, 52, 56, 53, 56, 54, 56, 55, 56, 56, 56, 57, 57, 48, 57, 49, 57, 50, 57, 51, 57, 52, 57, 53, 57, 54, 57, 55, 57, 56, 57, 57] : List Int) : Int))
def internal_strconv_small_F (i0 : Int) : List Int :=
 bif (decide (i0 < (10 : Int))) then
 (slc ([48, 49, 50, 51, 52, 53, 54, 55, 56, 57, 97, 98, 99, 100, 101, 102, 103, 104, 105, 106, 107, 108, 109, 110, 111, 112, 113, 114, 115, 116, 117, 118, 119, 120, 121, 122] : List Int) i0 (IntKind.wrap .i64 (i0 + (1 : Int))))
 else
 (slc ([48, 48, 48, 49, 48, 50, 48, 51, 48, 52, 48, 53, 48, 54, 48, 55, 48, 56, 48, 57, 49, 48, 49, 49, 49, 50, 49, 51, 49, 52, 49, 53, 49, 54, 49, 55, 49, 56, 49, 57, 50, 48, 50, 49, 50, 50, 50, 51, 50, 52, 50, 53, 50, 54, 50, 55, 50, 56, 50, 57, 51, 48, 51, 49, 51, 50, 51, 51, 51, 52, 51, 53, 51, 54, 51, 55, 51, 56, 51, 57, 52, 48, 52, 49, 52, 50, 52, 51, 52, 52, 52, 53, 52, 54, 52, 55, 52, 56, 52, 57, 53, 48, 53, 49, 53, 50, 53, 51, 53, 52, 53, 53, 53, 54, 53, 55, 53, 56, 53, 57, 54, 48, 54, 49, 54, 50, 54, 51, 54, 52, 54, 53, 54, 54, 54, 55, 54, 56, 54, 57, 55, 48, 55, 49, 55, 50, 55, 51, 55, 52, 55, 53, 55, 54, 55, 55, 55, 56, 55, 57, 56, 48, 56, 49, 56, 50, 56, 51, 56, 52, 56, 53, 56, 54, 56, 55, 56, 56, 56, 57, 57, 48, 57, 49, 57, 50, 57, 51, 57, 52, 57, 53, 57, 54, 57, 55, 57, 56, 57, 57] : List Int) (IntKind.wrap .i64 (i0 * (2 : Int))) (IntKind.wrap .i64 ((IntKind.wrap .i64 (i0 * (2 : Int))) + (2 : Int))))
set_option maxRecDepth 20000 in
theorem internal_strconv_small_sp (i0 : Int) (K : Res → List Cell → Prop) (_ : wfA internal_strconv_small_A (i0, ())) (hp : internal_strconv_small_P i0) (h : ∀ r : List Int, r = internal_strconv_small_F i0 → K (.one (.v (.str) r)) []) : internal_strconv_small_raw i0 K := by
  unfold internal_strconv_small_raw
  unfold internal_strconv_small_P at hp
  refine brb (fun c_1 => ?_) (fun c_1 => ?_)
  ·
    replace hp := cT c_1 hp
    refine asrt hp ?_
    exact h _ ((ctrue c_1) : internal_strconv_small_F i0 = _).symm
  ·
    replace hp := cF c_1 hp
    refine asrt hp ?_
    exact h _ ((cfalse c_1) : internal_strconv_small_F i0 = _).symm
def internal_strconv_small_C (v : valsA internal_strconv_small_A) (K : Res → List Cell → Prop) : Prop := internal_strconv_small_P v.1 ∧ ∀ r : List Int, r = internal_strconv_small_F v.1 → K (.one (.v (.str) r)) []
def internal_strconv_small_S : App := specW internal_strconv_small_A internal_strconv_small_C
theorem internal_strconv_small_wv (K : Res → List Cell → Prop) : ∀ v : valsA internal_strconv_small_A, runF tb (getG internal_strconv_small_G) [] Tryd.f151 [true] (mkA internal_strconv_small_A v) K = internal_strconv_small_raw v.1 K
  | (i0, ()) => internal_strconv_small_walk i0 K
set_option maxRecDepth 20000 in
theorem internal_strconv_small_ok : AppOk Tryd.prog 151 internal_strconv_small_S :=
  AppOk.specW (spec_ok ((runF_ok tb_M tb_ok internal_strconv_small_Gok (LabsOk.nil) (f := 151) (fn := Tryd.f151) (by kernel_rfl) (by kernel_rfl) (by kernel_rfl) [true])) fun v K hw h => (internal_strconv_small_wv K v).mpr (internal_strconv_small_sp v.1 K hw h.1 h.2))

end Go.VE
namespace Go.VE
open Go Go.Proofs
def internal_strconv_formatBits_A : List AS := []
def internal_strconv_formatBits_S : App := specW internal_strconv_formatBits_A fun _ _ => False
theorem internal_strconv_formatBits_ok : AppOk Tryd.prog 154 internal_strconv_formatBits_S := AppOk.never
end Go.VE
namespace Go.VE
open Go Go.Proofs
/-! ### internal/strconv.AppendUint -/
def internal_strconv_AppendUint0_G : List (Nat × App) := [(151, internal_strconv_small_S), (154, internal_strconv_formatBits_S)]
theorem internal_strconv_AppendUint0_Gok : GOk Tryd.prog (getG internal_strconv_AppendUint0_G) := GOk.cons internal_strconv_small_ok (GOk.cons internal_strconv_formatBits_ok (GOk.nil))
def internal_strconv_AppendUint0_raw (dst0 : List Int) (i1 : Int) (base2 : Int) (K : Res → List Cell → Prop) : Prop :=
 bif (decide (base2 = (10 : Int))) then
 bif (decide (i1 < (100 : Int))) then
 internal_strconv_small_P (IntKind.wrap .i64 i1) ∧ (
 ∀ (r1 : List Int), r1 = internal_strconv_small_F (IntKind.wrap .i64 i1) → (
 wfR (.one (.v (.str) r1)) → (
 bif decide (List.length dst0 + List.length r1 ≤ lim) then
 K (.one (.fr 5 (.int .u8) (dst0 ++ r1))) []
 else False)))
 else
 False
 else
 False
def internal_strconv_AppendUint0_A : List AS := [.o 5 (.int .u8), .v (.int .u64), .v (.int .i64)]
theorem internal_strconv_AppendUint0_walk (dst0 : List Int) (i1 : Int) (base2 : Int) (K : Res → List Cell → Prop) : runF tb (getG internal_strconv_AppendUint0_G) [] Tryd.f122 [true] (mkA internal_strconv_AppendUint0_A (dst0, i1, base2, ())) K = internal_strconv_AppendUint0_raw dst0 i1 base2 K := by kernel_rfl
--! own 0
--! soft 1

def internal_strconv_AppendUint0_P (dst0 : List Int) (i1 : Int) (base2 : Int) : Prop :=
 bif (decide (base2 = (10 : Int))) then
 bif (decide (i1 < (100 : Int))) then
 internal_strconv_small_P (IntKind.wrap .i64 i1) ∧ (
 let r1 : List Int := internal_strconv_small_F (IntKind.wrap .i64 i1)
 (List.length dst0 + List.length r1 ≤ lim))
 else
 False
 else
 False
def internal_strconv_AppendUint0_F (dst0 : List Int) (i1 : Int) (base2 : Int) : List Int :=
 bif (decide (base2 = (10 : Int))) then
 bif (decide (i1 < (100 : Int))) then
 let r1 : List Int := internal_strconv_small_F (IntKind.wrap .i64 i1)
 (dst0 ++ r1)
 else
 default
 else
 default
set_option maxRecDepth 20000 in
theorem internal_strconv_AppendUint0_sp (dst0 : List Int) (i1 : Int) (base2 : Int) (K : Res → List Cell → Prop) (_ : wfA internal_strconv_AppendUint0_A (dst0, i1, base2, ())) (hp : internal_strconv_AppendUint0_P dst0 i1 base2) (h : ∀ r : List Int, r = internal_strconv_AppendUint0_F dst0 i1 base2 → K (.one (.fr 5 (.int .u8) r)) []) : internal_strconv_AppendUint0_raw dst0 i1 base2 K := by
  unfold internal_strconv_AppendUint0_raw
  unfold internal_strconv_AppendUint0_P at hp
  refine brb (fun c_1 => ?_) (fun c_1 => ?_)
  ·
    replace hp := cT c_1 hp
    refine brb (fun c_2 => ?_) (fun c_2 => ?_)
    ·
      replace hp := cT c_2 hp
      refine ⟨hp.1, ?_⟩
      replace hp := hp.2
      intro r1 hr1
      subst hr1
      intro _
      refine asrt hp ?_
      exact h _ ((Eq.trans (ctrue c_1) (ctrue c_2)) : internal_strconv_AppendUint0_F dst0 i1 base2 = _).symm
    ·
      replace hp := cF c_2 hp
      exact hp.elim
  ·
    replace hp := cF c_1 hp
    exact hp.elim
def internal_strconv_AppendUint0_C (v : valsA internal_strconv_AppendUint0_A) (K : Res → List Cell → Prop) : Prop := internal_strconv_AppendUint0_P v.1 v.2.1 v.2.2.1 ∧ ∀ r : List Int, r = internal_strconv_AppendUint0_F v.1 v.2.1 v.2.2.1 → K (.one (.fr 5 (.int .u8) r)) []
def internal_strconv_AppendUint0_S : App := specW internal_strconv_AppendUint0_A internal_strconv_AppendUint0_C
theorem internal_strconv_AppendUint0_wv (K : Res → List Cell → Prop) : ∀ v : valsA internal_strconv_AppendUint0_A, runF tb (getG internal_strconv_AppendUint0_G) [] Tryd.f122 [true] (mkA internal_strconv_AppendUint0_A v) K = internal_strconv_AppendUint0_raw v.1 v.2.1 v.2.2.1 K
  | (dst0, i1, base2, ()) => internal_strconv_AppendUint0_walk dst0 i1 base2 K
set_option maxRecDepth 20000 in
theorem internal_strconv_AppendUint0_ok : AppOk Tryd.prog 122 internal_strconv_AppendUint0_S :=
  AppOk.specW (spec_ok ((runF_ok tb_M tb_ok internal_strconv_AppendUint0_Gok (LabsOk.nil) (f := 122) (fn := Tryd.f122) (by kernel_rfl) (by kernel_rfl) (by kernel_rfl) [true])) fun v K hw h => (internal_strconv_AppendUint0_wv K v).mpr (internal_strconv_AppendUint0_sp v.1 v.2.1 v.2.2.1 K hw h.1 h.2))
end Go.VE
