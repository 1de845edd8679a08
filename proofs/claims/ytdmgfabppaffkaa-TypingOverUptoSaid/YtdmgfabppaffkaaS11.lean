/- TypingOver: whatever the input, up to the bulk that the statement names, the law answers true, and what was handed in reads as it did. Its conditions: the bound of the given statement, no other. -/
import Derived.Test.YtdmgfabppaffkaaS10
import Derived.Test.YtdmgfabppaffkaaProg
set_option linter.unusedVariables false
namespace Go.VE
open Go Go.Proofs
def tb : Tab := [(3, ⟨.int .i64, 0, [], 8⟩), (4, ⟨.bool, 0, [], 1⟩), (5, ⟨.int .u8, 0, [], 1⟩), (9, ⟨.str, 0, [], 16⟩), (22, ⟨.sl (.int .u8), 5, [], 24⟩), (24, ⟨.st (.pair (.int .u8) (.pair (.int .i64) (.pair (.sl (.int .u8)) (.pair (.int .i64) (.int .i64))))), 0, [], 56⟩), (28, ⟨.int .i64, 0, [], 8⟩), (38, ⟨.sl (.st (.pair (.int .i64) (.pair (.sl (.int .u8)) (.sl (.int .u8))))), 46, [], 24⟩), (46, ⟨.st (.pair (.int .i64) (.pair (.sl (.int .u8)) (.sl (.int .u8)))), 0, [], 56⟩), (64, ⟨.int .u64, 0, [], 8⟩), (70, ⟨.int .u32, 0, [], 4⟩), (73, ⟨.int .u64, 0, [], 8⟩)]
theorem tb_M : Try.prog.follows .mixedOrders = true := by kernel_rfl
theorem ty_3 : TySem Try.prog tb 3 ⟨.int .i64, 0, [], 8⟩ := TySem.ofInt (by kernel_rfl) (by kernel_rfl) rfl
theorem ty_4 : TySem Try.prog tb 4 ⟨.bool, 0, [], 1⟩ := TySem.ofBool (by kernel_rfl) (by kernel_rfl) rfl
theorem ty_5 : TySem Try.prog tb 5 ⟨.int .u8, 0, [], 1⟩ := TySem.ofInt (by kernel_rfl) (by kernel_rfl) rfl
theorem ty_9 : TySem Try.prog tb 9 ⟨.str, 0, [], 16⟩ := TySem.ofStr (by kernel_rfl) (by kernel_rfl) rfl
theorem ty_22 : TySem Try.prog tb 22 ⟨.sl (.int .u8), 5, [], 24⟩ := TySem.ofSl (by kernel_rfl) (by kernel_rfl) rfl (by kernel_rfl)
theorem ty_24 : TySem Try.prog tb 24 ⟨.st (.pair (.int .u8) (.pair (.int .i64) (.pair (.sl (.int .u8)) (.pair (.int .i64) (.int .i64))))), 0, [], 56⟩ := TySem.ofSt (c := 5) (by kernel_rfl) (by kernel_rfl) (by kernel_rfl) rfl (by kernel_rfl)
theorem ty_28 : TySem Try.prog tb 28 ⟨.int .i64, 0, [], 8⟩ := TySem.ofInt (by kernel_rfl) (by kernel_rfl) rfl
theorem ty_38 : TySem Try.prog tb 38 ⟨.sl (.st (.pair (.int .i64) (.pair (.sl (.int .u8)) (.sl (.int .u8))))), 46, [], 24⟩ := TySem.ofSl (by kernel_rfl) (by kernel_rfl) rfl (by kernel_rfl)
theorem ty_46 : TySem Try.prog tb 46 ⟨.st (.pair (.int .i64) (.pair (.sl (.int .u8)) (.sl (.int .u8)))), 0, [], 56⟩ := TySem.ofSt (c := 3) (by kernel_rfl) (by kernel_rfl) (by kernel_rfl) rfl (by kernel_rfl)
theorem ty_64 : TySem Try.prog tb 64 ⟨.int .u64, 0, [], 8⟩ := TySem.ofInt (by kernel_rfl) (by kernel_rfl) rfl
theorem ty_70 : TySem Try.prog tb 70 ⟨.int .u32, 0, [], 4⟩ := TySem.ofInt (by kernel_rfl) (by kernel_rfl) rfl
theorem ty_73 : TySem Try.prog tb 73 ⟨.int .u64, 0, [], 8⟩ := TySem.ofInt (by kernel_rfl) (by kernel_rfl) rfl
theorem tb_ok : TabOk Try.prog tb := TabOk.of (all_cons ty_3 (all_cons ty_4 (all_cons ty_5 (all_cons ty_9 (all_cons ty_22 (all_cons ty_24 (all_cons ty_28 (all_cons ty_38 (all_cons ty_46 (all_cons ty_64 (all_cons ty_70 (all_cons ty_73 (all_nil)))))))))))))
end Go.VE
namespace Go.VE
open Go Go.Proofs
/-! ### quoin/quoinref20.text -/
def quoinref20_text_G : List (Nat × App) := []
theorem quoinref20_text_Gok : GOk Try.prog (getG quoinref20_text_G) := GOk.nil
def quoinref20_text_raw (b0 : Int) (K : Res → List Cell → Prop) : Prop :=
  bif (decide (b0 = (9 : Int))) then
    K (.one (.v (.bool) true)) []
  else
  bif (decide (b0 = (10 : Int))) then
    K (.one (.v (.bool) true)) []
  else
  bif (decide ((32 : Int) ≤ b0)) then
    K (.one (.v (.bool) (!decide (b0 = (127 : Int))))) []
  else
    K (.one (.v (.bool) false)) []
def quoinref20_text_A : List AS := [.v (.int .u8)]
theorem quoinref20_text_walk (b0 : Int) (K : Res → List Cell → Prop) : runF tb (getG quoinref20_text_G) [] Try.f27 [true] (mkA quoinref20_text_A (b0, ())) K = quoinref20_text_raw b0 K := by kernel_rfl

def quoinref20_text_F (b0 : Int) : Bool :=
  bif (decide (b0 = (9 : Int))) then
    true
  else
    bif (decide (b0 = (10 : Int))) then
      true
    else
      bif (decide ((32 : Int) ≤ b0)) then
        (!decide (b0 = (127 : Int)))
      else
        false
set_option maxRecDepth 20000 in
theorem quoinref20_text_sp (b0 : Int) (K : Res → List Cell → Prop) (_ : wfA quoinref20_text_A (b0, ())) (h : ∀ r : Bool, r = quoinref20_text_F b0 → K (.one (.v (.bool) r)) []) : quoinref20_text_raw b0 K := by
  unfold quoinref20_text_raw
  refine brb (fun c1 => ?_) (fun c1 => ?_)
  ·
    exact h _ ((ctrue c1) : quoinref20_text_F b0 = _).symm
  ·
    refine brb (fun c2 => ?_) (fun c2 => ?_)
    ·
      exact h _ ((Eq.trans (cfalse c1) (ctrue c2)) : quoinref20_text_F b0 = _).symm
    ·
      refine brb (fun c3 => ?_) (fun c3 => ?_)
      ·
        exact h _ ((Eq.trans (cfalse c1) (Eq.trans (cfalse c2) (ctrue c3))) : quoinref20_text_F b0 = _).symm
      ·
        exact h _ ((Eq.trans (cfalse c1) (Eq.trans (cfalse c2) (cfalse c3))) : quoinref20_text_F b0 = _).symm
def quoinref20_text_C (v : valsA quoinref20_text_A) (K : Res → List Cell → Prop) : Prop := ∀ r : Bool, r = quoinref20_text_F v.1 → K (.one (.v (.bool) r)) []
def quoinref20_text_S : App := specW quoinref20_text_A quoinref20_text_C
theorem quoinref20_text_wv (K : Res → List Cell → Prop) : ∀ v : valsA quoinref20_text_A, runF tb (getG quoinref20_text_G) [] Try.f27 [true] (mkA quoinref20_text_A v) K = quoinref20_text_raw v.1 K
  | (b0, ()) => quoinref20_text_walk b0 K
set_option maxRecDepth 20000 in
theorem quoinref20_text_ok : AppOk Try.prog 27 quoinref20_text_S :=
  AppOk.specW (spec_ok (runF_ok tb_M tb_ok quoinref20_text_Gok (LabsOk.nil) (f := 27) (fn := Try.f27) (by kernel_rfl) (by kernel_rfl) (by kernel_rfl) [true]) fun v K hw h => (quoinref20_text_wv K v).mpr (quoinref20_text_sp v.1 K hw h))

end Go.VE
namespace Go.VE
open Go Go.Proofs
/-! ### quoin/quoinref20.others -/
def quoinref20_others_G : List (Nat × App) := []
theorem quoinref20_others_Gok : GOk Try.prog (getG quoinref20_others_G) := GOk.nil
theorem quoinref20_others_st : storesC (bodyOf Try.f33) = true := by kernel_rfl
def quoinref20_others_d0 : List LS := [.v 0 (.sl (.int .u8)), .v 3 (.int .i64), .v 4 (.int .i64)]
def quoinref20_others_d0x0 : List LS := [.v 3 (.int .i64)]
def quoinref20_others_dx0 : DX := ⟨none, none, [(0, quoinref20_others_d0x0)]⟩
def quoinref20_others_T0 (Y : List Int → Int → Int → Prop) (kx0 : Int → Prop) (p0 : List Int) (n3 : Int) (i4 : Int) : Prop :=
  bif (decide (i4 < (List.length p0 : Int))) then
    bif decide (0 ≤ i4 ∧ i4 < (List.length p0 : Int)) then
    bif (!decide ((rd (0 : Int) p0 i4) = (10 : Int))) then
      Y p0 (IntKind.wrap .i64 (n3 + (1 : Int))) (IntKind.wrap .i64 (i4 + (1 : Int)))
    else
      Y p0 n3 (IntKind.wrap .i64 (i4 + (1 : Int)))
    else False
  else
    kx0 n3
def quoinref20_others_L0 (kx0 : Int → Prop) : Nat → List Int → Int → Int → Prop
  | 0, _, _, _ => False
  | n + 1, p0, n3, i4 => wfD quoinref20_others_d0 (p0, n3, i4, ()) → quoinref20_others_T0 (quoinref20_others_L0 kx0 n) kx0 p0 n3 i4
theorem quoinref20_others_s0 (k : Ex → St → Prop) (Y : vals quoinref20_others_d0 → Prop) (p0 : List Int) (n3 : Int) (i4 : Int) :
    ex tb (getG quoinref20_others_G) [] (at' (bodyOf Try.f33) [0, 0, 1, 0, 1, 1]) [0, 0, 1, 0, 1, 1] (mkD 19 quoinref20_others_d0 (p0, n3, i4, ())) (lpK 19 quoinref20_others_d0 quoinref20_others_dx0 k Y) =
    quoinref20_others_T0 (fun p0 n3 i4 => Y (p0, n3, i4, ())) (fun n3 => wfD quoinref20_others_d0x0 (n3, ()) → k (.exit 0) (mkD 19 quoinref20_others_d0x0 (n3, ()))) p0 n3 i4 := by kernel_rfl
theorem quoinref20_others_e0 (k : Ex → St → Prop) : ∀ (n : Nat) (p0 : List Int) (n3 : Int) (i4 : Int), lpD 19 quoinref20_others_d0 quoinref20_others_dx0 (ex tb (getG quoinref20_others_G) [] (at' (bodyOf Try.f33) [0, 0, 1, 0, 1, 1]) [0, 0, 1, 0, 1, 1]) k n (p0, n3, i4, ()) = quoinref20_others_L0 (fun n3 => wfD quoinref20_others_d0x0 (n3, ()) → k (.exit 0) (mkD 19 quoinref20_others_d0x0 (n3, ()))) n p0 n3 i4
  | 0, _, _, _ => rfl
  | n + 1, p0, n3, i4 => congrArg (fun Z : Prop => wfD quoinref20_others_d0 (p0, n3, i4, ()) → Z) ((quoinref20_others_s0 k (lpD 19 quoinref20_others_d0 quoinref20_others_dx0 (ex tb (getG quoinref20_others_G) [] (at' (bodyOf Try.f33) [0, 0, 1, 0, 1, 1]) [0, 0, 1, 0, 1, 1]) k n) p0 n3 i4).trans (congrArg (fun Y => quoinref20_others_T0 Y (fun n3 => wfD quoinref20_others_d0x0 (n3, ()) → k (.exit 0) (mkD 19 quoinref20_others_d0x0 (n3, ()))) p0 n3 i4) (funext fun p0 => funext fun n3 => funext fun i4 => quoinref20_others_e0 k n p0 n3 i4)))
theorem quoinref20_others_v0 (k : Ex → St → Prop) (n : Nat) : ∀ v : vals quoinref20_others_d0, lpD 19 quoinref20_others_d0 quoinref20_others_dx0 (ex tb (getG quoinref20_others_G) [] (at' (bodyOf Try.f33) [0, 0, 1, 0, 1, 1]) [0, 0, 1, 0, 1, 1]) k n v = quoinref20_others_L0 (fun n3 => wfD quoinref20_others_d0x0 (n3, ()) → k (.exit 0) (mkD 19 quoinref20_others_d0x0 (n3, ()))) n v.1 v.2.1 v.2.2.1
  | (p0, n3, i4, ()) => quoinref20_others_e0 k n p0 n3 i4
def quoinref20_others_X0 : Pce := fun st k => ckD 19 quoinref20_others_d0 st fun v => wfD quoinref20_others_d0 v → ∃ n, quoinref20_others_L0 (fun n3 => wfD quoinref20_others_d0x0 (n3, ()) → k (.exit 0) (mkD 19 quoinref20_others_d0x0 (n3, ()))) n v.1 v.2.1 v.2.2.1
set_option maxRecDepth 20000 in
theorem quoinref20_others_x0 : SemOk Try.prog (at' (bodyOf Try.f33) [0, 1, 0, 1, 1]) quoinref20_others_X0 :=
  (SemOk.loop (ex_sound tb_M tb_ok quoinref20_others_Gok (LabsOk.nil) (at' (bodyOf Try.f33) [0, 0, 1, 0, 1, 1]) [0, 0, 1, 0, 1, 1] rfl (storesC_at quoinref20_others_st [0, 0, 1, 0, 1, 1])) 19 quoinref20_others_d0 quoinref20_others_dx0).mono fun st k h => ckD_mono h fun v hv hw => (hv hw).elim fun n hn => ⟨n, Eq.mpr (quoinref20_others_v0 k n v) hn⟩
def quoinref20_others_B0 : Labs := ([0, 1, 0, 1, 1], quoinref20_others_X0) :: []
theorem quoinref20_others_b0 : LabsOk Try.prog (bodyOf Try.f33) quoinref20_others_B0 := LabsOk.cons quoinref20_others_x0 (LabsOk.nil)
def quoinref20_others_raw (p0 : List Int) (K : Res → List Cell → Prop) : Prop :=
  (wfD quoinref20_others_d0 (p0, (0 : Int), (0 : Int), ()) → ∃ n, quoinref20_others_L0 (fun (n3 : Int) => wfD quoinref20_others_d0x0 (n3, ()) → (
      K (.one (.v (.int .i64) n3)) [])) n p0 (0 : Int) (0 : Int))
def quoinref20_others_A : List AS := [.v (.sl (.int .u8))]
theorem quoinref20_others_walk (p0 : List Int) (K : Res → List Cell → Prop) : runF tb (getG quoinref20_others_G) quoinref20_others_B0 Try.f33 [true] (mkA quoinref20_others_A (p0, ())) K = quoinref20_others_raw p0 K := by kernel_rfl
--! pre 0
def quoinref20_others_F (p : List Int) : Int := (p.countP (fun b => !decide (b = 10)) : Int)
theorem quoinref20_others_l0 (kx0 : Int → Prop) (xs : List Int) (hx : xs.length ≤ 9223372036854775807) : ∀ (d m i n : Nat), i + d = xs.length → n ≤ i → d < m →
    kx0 ((n + (xs.drop i).countP (fun b => !decide (b = 10)) : Nat) : Int) → quoinref20_others_L0 kx0 m xs (n : Int) (i : Int)
  | _, 0, _, _, _, _, h, _ => absurd h (Nat.not_lt_zero _)
  | d, m + 1, i, n, hd, hn, hm, h => by
    intro _
    unfold quoinref20_others_T0
    refine brn (fun hlt => asrt (by omega) ?_) (fun hge => ?_)
    · have hi : i < xs.length := by omega
      have hrd : rd (0 : Int) xs (i : Int) = xs[i] := by have := rd_get (0 : Int) xs (i : Int) (by simpa using hi); simpa using this
      obtain ⟨d', rfl⟩ : ∃ d', d = d' + 1 := ⟨d - 1, by omega⟩
      rw [hrd, wrap_i64 (n := (n : Int) + 1) (by omega) (by omega), wrap_i64 (by omega) (by omega)]
      rw [List.drop_eq_getElem_cons hi, List.countP_cons] at h
      refine brb (fun hb => ?_) (fun hb => ?_)
      · exact quoinref20_others_l0 kx0 xs hx d' m (i + 1) (n + 1) (by omega) (by omega) (by omega) (by rw [if_pos hb] at h; rw [show n + 1 + List.countP (fun b => !decide (b = 10)) (xs.drop (i + 1)) = n + (List.countP (fun b => !decide (b = 10)) (xs.drop (i + 1)) + 1) by omega]; exact h)
      · exact quoinref20_others_l0 kx0 xs hx d' m (i + 1) n (by omega) (by omega) (by omega) (by rw [if_neg (by rw [hb]; simp)] at h; exact h)
    · rw [List.drop_eq_nil_of_le (by omega)] at h
      exact h
theorem quoinref20_others_sp (p : List Int) (K : Res → List Cell → Prop) (hw : wfA quoinref20_others_A (p, ())) (h : ∀ r : Int, r = quoinref20_others_F p → K (.one (.v (.int .i64) r)) []) : quoinref20_others_raw p K := by
  have hx : p.length ≤ 9223372036854775807 := hw.1.1
  intro _
  exact ⟨p.length + 1, quoinref20_others_l0 _ p hx p.length _ 0 0 (by omega) (Nat.le_refl _) (by omega) (fun _ => h _ (by unfold quoinref20_others_F; simp))⟩

def quoinref20_others_C (v : valsA quoinref20_others_A) (K : Res → List Cell → Prop) : Prop := ∀ r : Int, r = quoinref20_others_F v.1 → K (.one (.v (.int .i64) r)) []
def quoinref20_others_S : App := specW quoinref20_others_A quoinref20_others_C
theorem quoinref20_others_wv (K : Res → List Cell → Prop) : ∀ v : valsA quoinref20_others_A, runF tb (getG quoinref20_others_G) quoinref20_others_B0 Try.f33 [true] (mkA quoinref20_others_A v) K = quoinref20_others_raw v.1 K
  | (p0, ()) => quoinref20_others_walk p0 K
set_option maxRecDepth 20000 in
theorem quoinref20_others_ok : AppOk Try.prog 33 quoinref20_others_S :=
  AppOk.specW (spec_ok (runF_ok tb_M tb_ok quoinref20_others_Gok (quoinref20_others_b0) (f := 33) (fn := Try.f33) (by kernel_rfl) (by kernel_rfl) quoinref20_others_st [true]) fun v K hw h => (quoinref20_others_wv K v).mpr (quoinref20_others_sp v.1 K hw h))

end Go.VE
namespace Go.VE
open Go Go.Proofs
/-! ### quoin/quoinref20.room -/
def quoinref20_room_G : List (Nat × App) := []
theorem quoinref20_room_Gok : GOk Try.prog (getG quoinref20_room_G) := GOk.nil
theorem quoinref20_room_st : storesC (bodyOf Try.f34) = true := by kernel_rfl
def quoinref20_room_d0 : List LS := [.v 0 (.sl (.int .u8)), .v 1 (.int .i64), .v 5 (.int .i64)]
def quoinref20_room_d0x0 : List LS := [.v 5 (.int .i64)]
def quoinref20_room_dx0 : DX := ⟨none, none, [(0, quoinref20_room_d0x0)]⟩
def quoinref20_room_T0 (Y : List Int → Int → Int → Prop) (kx0 : Int → Prop) (base0 : List Int) (at1 : Int) (n5 : Int) : Prop :=
  bif (decide ((IntKind.wrap .i64 (at1 + n5)) < (List.length base0 : Int))) then
    bif decide (0 ≤ (IntKind.wrap .i64 (at1 + n5)) ∧ (IntKind.wrap .i64 (at1 + n5)) < (List.length base0 : Int)) then
    bif (!decide ((rd (0 : Int) base0 (IntKind.wrap .i64 (at1 + n5))) = (10 : Int))) then
      Y base0 at1 (IntKind.wrap .i64 (n5 + (1 : Int)))
    else
      kx0 n5
    else False
  else
    kx0 n5
def quoinref20_room_L0 (kx0 : Int → Prop) : Nat → List Int → Int → Int → Prop
  | 0, _, _, _ => False
  | n + 1, base0, at1, n5 => wfD quoinref20_room_d0 (base0, at1, n5, ()) → quoinref20_room_T0 (quoinref20_room_L0 kx0 n) kx0 base0 at1 n5
theorem quoinref20_room_s0 (k : Ex → St → Prop) (Y : vals quoinref20_room_d0 → Prop) (base0 : List Int) (at1 : Int) (n5 : Int) :
    ex tb (getG quoinref20_room_G) [] (at' (bodyOf Try.f34) [0, 0, 0, 1, 1]) [0, 0, 0, 1, 1] (mkD 24 quoinref20_room_d0 (base0, at1, n5, ())) (lpK 24 quoinref20_room_d0 quoinref20_room_dx0 k Y) =
    quoinref20_room_T0 (fun base0 at1 n5 => Y (base0, at1, n5, ())) (fun n5 => wfD quoinref20_room_d0x0 (n5, ()) → k (.exit 0) (mkD 24 quoinref20_room_d0x0 (n5, ()))) base0 at1 n5 := by kernel_rfl
theorem quoinref20_room_e0 (k : Ex → St → Prop) : ∀ (n : Nat) (base0 : List Int) (at1 : Int) (n5 : Int), lpD 24 quoinref20_room_d0 quoinref20_room_dx0 (ex tb (getG quoinref20_room_G) [] (at' (bodyOf Try.f34) [0, 0, 0, 1, 1]) [0, 0, 0, 1, 1]) k n (base0, at1, n5, ()) = quoinref20_room_L0 (fun n5 => wfD quoinref20_room_d0x0 (n5, ()) → k (.exit 0) (mkD 24 quoinref20_room_d0x0 (n5, ()))) n base0 at1 n5
  | 0, _, _, _ => rfl
  | n + 1, base0, at1, n5 => congrArg (fun Z : Prop => wfD quoinref20_room_d0 (base0, at1, n5, ()) → Z) ((quoinref20_room_s0 k (lpD 24 quoinref20_room_d0 quoinref20_room_dx0 (ex tb (getG quoinref20_room_G) [] (at' (bodyOf Try.f34) [0, 0, 0, 1, 1]) [0, 0, 0, 1, 1]) k n) base0 at1 n5).trans (congrArg (fun Y => quoinref20_room_T0 Y (fun n5 => wfD quoinref20_room_d0x0 (n5, ()) → k (.exit 0) (mkD 24 quoinref20_room_d0x0 (n5, ()))) base0 at1 n5) (funext fun base0 => funext fun at1 => funext fun n5 => quoinref20_room_e0 k n base0 at1 n5)))
theorem quoinref20_room_v0 (k : Ex → St → Prop) (n : Nat) : ∀ v : vals quoinref20_room_d0, lpD 24 quoinref20_room_d0 quoinref20_room_dx0 (ex tb (getG quoinref20_room_G) [] (at' (bodyOf Try.f34) [0, 0, 0, 1, 1]) [0, 0, 0, 1, 1]) k n v = quoinref20_room_L0 (fun n5 => wfD quoinref20_room_d0x0 (n5, ()) → k (.exit 0) (mkD 24 quoinref20_room_d0x0 (n5, ()))) n v.1 v.2.1 v.2.2.1
  | (base0, at1, n5, ()) => quoinref20_room_e0 k n base0 at1 n5
def quoinref20_room_X0 : Pce := fun st k => ckD 24 quoinref20_room_d0 st fun v => wfD quoinref20_room_d0 v → ∃ n, quoinref20_room_L0 (fun n5 => wfD quoinref20_room_d0x0 (n5, ()) → k (.exit 0) (mkD 24 quoinref20_room_d0x0 (n5, ()))) n v.1 v.2.1 v.2.2.1
set_option maxRecDepth 20000 in
theorem quoinref20_room_x0 : SemOk Try.prog (at' (bodyOf Try.f34) [0, 0, 1, 1]) quoinref20_room_X0 :=
  (SemOk.loop (ex_sound tb_M tb_ok quoinref20_room_Gok (LabsOk.nil) (at' (bodyOf Try.f34) [0, 0, 0, 1, 1]) [0, 0, 0, 1, 1] rfl (storesC_at quoinref20_room_st [0, 0, 0, 1, 1])) 24 quoinref20_room_d0 quoinref20_room_dx0).mono fun st k h => ckD_mono h fun v hv hw => (hv hw).elim fun n hn => ⟨n, Eq.mpr (quoinref20_room_v0 k n v) hn⟩
def quoinref20_room_B0 : Labs := ([0, 0, 1, 1], quoinref20_room_X0) :: []
theorem quoinref20_room_b0 : LabsOk Try.prog (bodyOf Try.f34) quoinref20_room_B0 := LabsOk.cons quoinref20_room_x0 (LabsOk.nil)
def quoinref20_room_raw (base0 : List Int) (at1 : Int) (K : Res → List Cell → Prop) : Prop :=
  (wfD quoinref20_room_d0 (base0, at1, (0 : Int), ()) → ∃ n, quoinref20_room_L0 (fun (n5 : Int) => wfD quoinref20_room_d0x0 (n5, ()) → (
      K (.one (.v (.int .i64) n5)) [])) n base0 at1 (0 : Int))
def quoinref20_room_A : List AS := [.v (.sl (.int .u8)), .v (.int .i64)]
theorem quoinref20_room_walk (base0 : List Int) (at1 : Int) (K : Res → List Cell → Prop) : runF tb (getG quoinref20_room_G) quoinref20_room_B0 Try.f34 [true] (mkA quoinref20_room_A (base0, at1, ())) K = quoinref20_room_raw base0 at1 K := by kernel_rfl
--! pre 1
def quoinref20_room_P (base : List Int) (p : Int) : Prop := 0 ≤ p ∧ p ≤ base.length
def quoinref20_room_F (base : List Int) (p : Int) : Int := (((base.drop p.toNat).takeWhile (fun b => !decide (b = 10))).length : Int)
theorem quoinref20_room_l0 (kx0 : Int → Prop) (xs : List Int) (hx : xs.length ≤ 9223372036854775807) (p : Nat) : ∀ (d m n : Nat), p + n + d = xs.length → d < m →
    kx0 ((n + ((xs.drop (p + n)).takeWhile (fun b => !decide (b = 10))).length : Nat) : Int) → quoinref20_room_L0 kx0 m xs (p : Int) (n : Int)
  | _, 0, _, _, h, _ => absurd h (Nat.not_lt_zero _)
  | d, m + 1, n, hd, hm, h => by
    intro _
    unfold quoinref20_room_T0
    rw [wrap_i64 (n := (p : Int) + n) (by omega) (by omega)]
    have e : (p : Int) + n = ((p + n : Nat) : Int) := by omega
    rw [e]
    refine brn (fun hlt => asrt (by omega) ?_) (fun hge => ?_)
    · have hi : p + n < xs.length := by omega
      have hrd : rd (0 : Int) xs ((p + n : Nat) : Int) = xs[p + n] := by
        show xs.getD ((p + n : Nat) : Int).toNat 0 = _
        rw [Int.toNat_natCast]; simp [hi]
      rw [hrd, wrap_i64 (n := (n : Int) + 1) (by omega) (by omega)]
      rw [List.drop_eq_getElem_cons hi, List.takeWhile_cons] at h
      refine brb (fun hb => ?_) (fun hb => ?_)
      · obtain ⟨d', rfl⟩ : ∃ d', d = d' + 1 := ⟨d - 1, by omega⟩
        rw [if_pos hb, List.length_cons] at h
        exact quoinref20_room_l0 kx0 xs hx p d' m (n + 1) (by omega) (by omega) (by
          rw [show p + (n + 1) = p + n + 1 by omega, show n + 1 + (List.takeWhile (fun b => !decide (b = 10)) (xs.drop (p + n + 1))).length = n + ((List.takeWhile (fun b => !decide (b = 10)) (xs.drop (p + n + 1))).length + 1) by omega]; exact h)
      · rw [if_neg (by rw [hb]; simp)] at h; exact h
    · rw [List.drop_eq_nil_of_le (by omega)] at h
      exact h
theorem quoinref20_room_sp (base : List Int) (p : Int) (K : Res → List Cell → Prop) (hw : wfA quoinref20_room_A (base, p, ())) (hp : quoinref20_room_P base p) (h : ∀ r : Int, r = quoinref20_room_F base p → K (.one (.v (.int .i64) r)) []) : quoinref20_room_raw base p K := by
  have hx : base.length ≤ 9223372036854775807 := hw.1.1
  obtain ⟨h0, h1⟩ := hp
  obtain ⟨q, rfl⟩ : ∃ q : Nat, p = q := ⟨p.toNat, by omega⟩
  intro _
  exact ⟨base.length + 1, quoinref20_room_l0 _ base hx q (base.length - q) _ 0 (by omega) (by omega) (fun _ => h _ (by unfold quoinref20_room_F; simp))⟩

def quoinref20_room_C (v : valsA quoinref20_room_A) (K : Res → List Cell → Prop) : Prop := quoinref20_room_P v.1 v.2.1 ∧ ∀ r : Int, r = quoinref20_room_F v.1 v.2.1 → K (.one (.v (.int .i64) r)) []
def quoinref20_room_S : App := specW quoinref20_room_A quoinref20_room_C
theorem quoinref20_room_wv (K : Res → List Cell → Prop) : ∀ v : valsA quoinref20_room_A, runF tb (getG quoinref20_room_G) quoinref20_room_B0 Try.f34 [true] (mkA quoinref20_room_A v) K = quoinref20_room_raw v.1 v.2.1 K
  | (base0, at1, ()) => quoinref20_room_walk base0 at1 K
set_option maxRecDepth 20000 in
theorem quoinref20_room_ok : AppOk Try.prog 34 quoinref20_room_S :=
  AppOk.specW (spec_ok (runF_ok tb_M tb_ok quoinref20_room_Gok (quoinref20_room_b0) (f := 34) (fn := Try.f34) (by kernel_rfl) (by kernel_rfl) quoinref20_room_st [true]) fun v K hw h => (quoinref20_room_wv K v).mpr (quoinref20_room_sp v.1 v.2.1 K hw h.1 h.2))

end Go.VE
namespace Go.VE
open Go Go.Proofs
/-! ### quoin/quoinref20.covers -/
def quoinref20_covers_G : List (Nat × App) := [(33, quoinref20_others_S), (34, quoinref20_room_S)]
theorem quoinref20_covers_Gok : GOk Try.prog (getG quoinref20_covers_G) := GOk.cons quoinref20_others_ok (GOk.cons quoinref20_room_ok (GOk.nil))
def quoinref20_covers_raw (base0 : List Int) (at1 : Int) (p2 : List Int) (K : Res → List Cell → Prop) : Prop :=
  ∀ (r1 : Int), r1 = quoinref20_others_F p2 → (
  wfR (.one (.v (.int .i64) r1)) → (
  quoinref20_room_P base0 at1 ∧ (
  ∀ (r2 : Int), r2 = quoinref20_room_F base0 at1 → (
  wfR (.one (.v (.int .i64) r2)) → (
  K (.one (.v (.int .i64) (mn r1 r2))) [])))))
def quoinref20_covers_A : List AS := [.v (.sl (.int .u8)), .v (.int .i64), .v (.sl (.int .u8))]
theorem quoinref20_covers_walk (base0 : List Int) (at1 : Int) (p2 : List Int) (K : Res → List Cell → Prop) : runF tb (getG quoinref20_covers_G) [] Try.f42 [true] (mkA quoinref20_covers_A (base0, at1, p2, ())) K = quoinref20_covers_raw base0 at1 p2 K := by kernel_rfl

def quoinref20_covers_P (base0 : List Int) (at1 : Int) (p2 : List Int) : Prop :=
  let r1 : Int := quoinref20_others_F p2
  quoinref20_room_P base0 at1
def quoinref20_covers_F (base0 : List Int) (at1 : Int) (p2 : List Int) : Int :=
  let r1 : Int := quoinref20_others_F p2
  let r2 : Int := quoinref20_room_F base0 at1
  (mn r1 r2)
set_option maxRecDepth 20000 in
theorem quoinref20_covers_sp (base0 : List Int) (at1 : Int) (p2 : List Int) (K : Res → List Cell → Prop) (_ : wfA quoinref20_covers_A (base0, at1, p2, ())) (hp : quoinref20_covers_P base0 at1 p2) (h : ∀ r : Int, r = quoinref20_covers_F base0 at1 p2 → K (.one (.v (.int .i64) r)) []) : quoinref20_covers_raw base0 at1 p2 K := by
  unfold quoinref20_covers_raw
  unfold quoinref20_covers_P at hp
  intro r1 hr1
  subst hr1
  intro _
  refine ⟨hp, ?_⟩
  intro r2 hr2
  subst hr2
  intro _
  exact h _ rfl
def quoinref20_covers_C (v : valsA quoinref20_covers_A) (K : Res → List Cell → Prop) : Prop := quoinref20_covers_P v.1 v.2.1 v.2.2.1 ∧ ∀ r : Int, r = quoinref20_covers_F v.1 v.2.1 v.2.2.1 → K (.one (.v (.int .i64) r)) []
def quoinref20_covers_S : App := specW quoinref20_covers_A quoinref20_covers_C
theorem quoinref20_covers_wv (K : Res → List Cell → Prop) : ∀ v : valsA quoinref20_covers_A, runF tb (getG quoinref20_covers_G) [] Try.f42 [true] (mkA quoinref20_covers_A v) K = quoinref20_covers_raw v.1 v.2.1 v.2.2.1 K
  | (base0, at1, p2, ()) => quoinref20_covers_walk base0 at1 p2 K
set_option maxRecDepth 20000 in
theorem quoinref20_covers_ok : AppOk Try.prog 42 quoinref20_covers_S :=
  AppOk.specW (spec_ok (runF_ok tb_M tb_ok quoinref20_covers_Gok (LabsOk.nil) (f := 42) (fn := Try.f42) (by kernel_rfl) (by kernel_rfl) (by kernel_rfl) [true]) fun v K hw h => (quoinref20_covers_wv K v).mpr (quoinref20_covers_sp v.1 v.2.1 v.2.2.1 K hw h.1 h.2))

end Go.VE
namespace Go.VE
open Go Go.Proofs
/-! ### quoin/quoinref20.fits -/
def quoinref20_fits_G : List (Nat × App) := [(27, quoinref20_text_S), (42, quoinref20_covers_S)]
theorem quoinref20_fits_Gok : GOk Try.prog (getG quoinref20_fits_G) := GOk.cons quoinref20_text_ok (GOk.cons quoinref20_covers_ok (GOk.nil))
theorem quoinref20_fits_st : storesC (bodyOf Try.f23) = true := by kernel_rfl
def quoinref20_fits_d0 : List LS := [.v 0 (.sl (.int .u8)), .b 3 24 [], .v 5 (.int .i64), .c 24 (.st (.pair (.int .u8) (.pair (.int .i64) (.pair (.sl (.int .u8)) (.pair (.int .i64) (.int .i64))))))]
def quoinref20_fits_d0r : List LS := [.v 4 (.bool)]
def quoinref20_fits_d0x0 : List LS := [.v 0 (.sl (.int .u8)), .b 3 24 [], .c 24 (.st (.pair (.int .u8) (.pair (.int .i64) (.pair (.sl (.int .u8)) (.pair (.int .i64) (.int .i64))))))]
def quoinref20_fits_dx0 : DX := ⟨none, some quoinref20_fits_d0r, [(0, quoinref20_fits_d0x0)]⟩
def quoinref20_fits_T0 (Y : List Int → Int → (Int × Int × List Int × Int × Int) → Prop) (kr : Bool → Prop) (kx0 : List Int → (Int × Int × List Int × Int × Int) → Prop) (base0 : List Int) (i5 : Int) (y3b : (Int × Int × List Int × Int × Int)) : Prop :=
  bif (decide (i5 < (List.length y3b.2.2.1 : Int))) then
    bif decide (0 ≤ i5 ∧ i5 < (List.length y3b.2.2.1 : Int)) then
    ∀ (r1 : Bool), r1 = quoinref20_text_F (rd (0 : Int) y3b.2.2.1 i5) → (
    wfR (.one (.v (.bool) r1)) → (
    bif (!r1) then
      kr false
    else
      Y base0 (IntKind.wrap .i64 (i5 + (1 : Int))) y3b))
    else False
  else
    kx0 base0 y3b
def quoinref20_fits_L0 (kr : Bool → Prop) (kx0 : List Int → (Int × Int × List Int × Int × Int) → Prop) : Nat → List Int → Int → (Int × Int × List Int × Int × Int) → Prop
  | 0, _, _, _ => False
  | n + 1, base0, i5, y3b => wfD quoinref20_fits_d0 (base0, i5, y3b, ()) → quoinref20_fits_T0 (quoinref20_fits_L0 kr kx0 n) kr kx0 base0 i5 y3b
theorem quoinref20_fits_s0 (k : Ex → St → Prop) (Y : vals quoinref20_fits_d0 → Prop) (base0 : List Int) (i5 : Int) (y3b : (Int × Int × List Int × Int × Int)) :
    ex tb (getG quoinref20_fits_G) [] (at' (bodyOf Try.f23) [0, 0, 1, 0, 1, 1]) [0, 0, 1, 0, 1, 1] (mkD 65 quoinref20_fits_d0 (base0, i5, y3b, ())) (lpK 65 quoinref20_fits_d0 quoinref20_fits_dx0 k Y) =
    quoinref20_fits_T0 (fun base0 i5 y3b => Y (base0, i5, y3b, ())) (fun x4 => wfD quoinref20_fits_d0r (x4, ()) → k .ret (mkD 65 quoinref20_fits_d0r (x4, ()))) (fun base0 y3b => wfD quoinref20_fits_d0x0 (base0, y3b, ()) → k (.exit 0) (mkD 65 quoinref20_fits_d0x0 (base0, y3b, ()))) base0 i5 y3b := by kernel_rfl
theorem quoinref20_fits_e0 (k : Ex → St → Prop) : ∀ (n : Nat) (base0 : List Int) (i5 : Int) (y3b : (Int × Int × List Int × Int × Int)), lpD 65 quoinref20_fits_d0 quoinref20_fits_dx0 (ex tb (getG quoinref20_fits_G) [] (at' (bodyOf Try.f23) [0, 0, 1, 0, 1, 1]) [0, 0, 1, 0, 1, 1]) k n (base0, i5, y3b, ()) = quoinref20_fits_L0 (fun x4 => wfD quoinref20_fits_d0r (x4, ()) → k .ret (mkD 65 quoinref20_fits_d0r (x4, ()))) (fun base0 y3b => wfD quoinref20_fits_d0x0 (base0, y3b, ()) → k (.exit 0) (mkD 65 quoinref20_fits_d0x0 (base0, y3b, ()))) n base0 i5 y3b
  | 0, _, _, _ => rfl
  | n + 1, base0, i5, y3b => congrArg (fun Z : Prop => wfD quoinref20_fits_d0 (base0, i5, y3b, ()) → Z) ((quoinref20_fits_s0 k (lpD 65 quoinref20_fits_d0 quoinref20_fits_dx0 (ex tb (getG quoinref20_fits_G) [] (at' (bodyOf Try.f23) [0, 0, 1, 0, 1, 1]) [0, 0, 1, 0, 1, 1]) k n) base0 i5 y3b).trans (congrArg (fun Y => quoinref20_fits_T0 Y (fun x4 => wfD quoinref20_fits_d0r (x4, ()) → k .ret (mkD 65 quoinref20_fits_d0r (x4, ()))) (fun base0 y3b => wfD quoinref20_fits_d0x0 (base0, y3b, ()) → k (.exit 0) (mkD 65 quoinref20_fits_d0x0 (base0, y3b, ()))) base0 i5 y3b) (funext fun base0 => funext fun i5 => funext fun y3b => quoinref20_fits_e0 k n base0 i5 y3b)))
theorem quoinref20_fits_v0 (k : Ex → St → Prop) (n : Nat) : ∀ v : vals quoinref20_fits_d0, lpD 65 quoinref20_fits_d0 quoinref20_fits_dx0 (ex tb (getG quoinref20_fits_G) [] (at' (bodyOf Try.f23) [0, 0, 1, 0, 1, 1]) [0, 0, 1, 0, 1, 1]) k n v = quoinref20_fits_L0 (fun x4 => wfD quoinref20_fits_d0r (x4, ()) → k .ret (mkD 65 quoinref20_fits_d0r (x4, ()))) (fun base0 y3b => wfD quoinref20_fits_d0x0 (base0, y3b, ()) → k (.exit 0) (mkD 65 quoinref20_fits_d0x0 (base0, y3b, ()))) n v.1 v.2.1 v.2.2.1
  | (base0, i5, y3b, ()) => quoinref20_fits_e0 k n base0 i5 y3b
def quoinref20_fits_X0 : Pce := fun st k => ckD 65 quoinref20_fits_d0 st fun v => wfD quoinref20_fits_d0 v → ∃ n, quoinref20_fits_L0 (fun x4 => wfD quoinref20_fits_d0r (x4, ()) → k .ret (mkD 65 quoinref20_fits_d0r (x4, ()))) (fun base0 y3b => wfD quoinref20_fits_d0x0 (base0, y3b, ()) → k (.exit 0) (mkD 65 quoinref20_fits_d0x0 (base0, y3b, ()))) n v.1 v.2.1 v.2.2.1
set_option maxRecDepth 20000 in
theorem quoinref20_fits_x0 : SemOk Try.prog (at' (bodyOf Try.f23) [0, 1, 0, 1, 1]) quoinref20_fits_X0 :=
  (SemOk.loop (ex_sound tb_M tb_ok quoinref20_fits_Gok (LabsOk.nil) (at' (bodyOf Try.f23) [0, 0, 1, 0, 1, 1]) [0, 0, 1, 0, 1, 1] rfl (storesC_at quoinref20_fits_st [0, 0, 1, 0, 1, 1])) 65 quoinref20_fits_d0 quoinref20_fits_dx0).mono fun st k h => ckD_mono h fun v hv hw => (hv hw).elim fun n hn => ⟨n, Eq.mpr (quoinref20_fits_v0 k n v) hn⟩
def quoinref20_fits_B0 : Labs := ([0, 1, 0, 1, 1], quoinref20_fits_X0) :: []
theorem quoinref20_fits_b0 : LabsOk Try.prog (bodyOf Try.f23) quoinref20_fits_B0 := LabsOk.cons quoinref20_fits_x0 (LabsOk.nil)
def quoinref20_fits_raw (base0 : List Int) (y1 : (Int × Int × List Int × Int × Int)) (K : Res → List Cell → Prop) : Prop :=
  bif (!decide (y1.1 = (105 : Int))) then
    bif (!decide (y1.1 = (82 : Int))) then
      K (.one (.v (.bool) false)) []
    else
    bif (decide (y1.2.1 < (0 : Int))) then
      K (.one (.v (.bool) false)) []
    else
    bif (decide ((List.length base0 : Int) < y1.2.1)) then
      K (.one (.v (.bool) false)) []
    else
    bif (decide (y1.2.2.2.2 < (1 : Int))) then
      K (.one (.v (.bool) false)) []
    else
    bif (decide ((9999 : Int) < y1.2.2.2.2)) then
      K (.one (.v (.bool) false)) []
    else
      (wfD quoinref20_fits_d0 (base0, (0 : Int), y1, ()) → ∃ n, quoinref20_fits_L0 (fun (x4 : Bool) => wfD quoinref20_fits_d0r (x4, ()) → (
          K (.one (.v (.bool) x4)) [])) (fun (base0 : List Int) (y3b : (Int × Int × List Int × Int × Int)) => wfD quoinref20_fits_d0x0 (base0, y3b, ()) → (
          bif (decide (y3b.1 = (105 : Int))) then
            K (.one (.v (.bool) (decide (y3b.2.2.2.1 = (0 : Int))))) []
          else
            quoinref20_covers_P base0 y3b.2.1 y3b.2.2.1 ∧ (
            ∀ (r2 : Int), r2 = quoinref20_covers_F base0 y3b.2.1 y3b.2.2.1 → (
            wfR (.one (.v (.int .i64) r2)) → (
            K (.one (.v (.bool) (decide (y3b.2.2.2.1 = r2)))) []))))) n base0 (0 : Int) y1)
  else
  bif (decide (y1.2.1 < (0 : Int))) then
    K (.one (.v (.bool) false)) []
  else
  bif (decide ((List.length base0 : Int) < y1.2.1)) then
    K (.one (.v (.bool) false)) []
  else
  bif (decide (y1.2.2.2.2 < (1 : Int))) then
    K (.one (.v (.bool) false)) []
  else
  bif (decide ((9999 : Int) < y1.2.2.2.2)) then
    K (.one (.v (.bool) false)) []
  else
    (wfD quoinref20_fits_d0 (base0, (0 : Int), y1, ()) → ∃ n, quoinref20_fits_L0 (fun (x4 : Bool) => wfD quoinref20_fits_d0r (x4, ()) → (
        K (.one (.v (.bool) x4)) [])) (fun (base0 : List Int) (y3b : (Int × Int × List Int × Int × Int)) => wfD quoinref20_fits_d0x0 (base0, y3b, ()) → (
        bif (decide (y3b.1 = (105 : Int))) then
          K (.one (.v (.bool) (decide (y3b.2.2.2.1 = (0 : Int))))) []
        else
          quoinref20_covers_P base0 y3b.2.1 y3b.2.2.1 ∧ (
          ∀ (r3 : Int), r3 = quoinref20_covers_F base0 y3b.2.1 y3b.2.2.1 → (
          wfR (.one (.v (.int .i64) r3)) → (
          K (.one (.v (.bool) (decide (y3b.2.2.2.1 = r3)))) []))))) n base0 (0 : Int) y1)
def quoinref20_fits_A : List AS := [.v (.sl (.int .u8)), .v (.st (.pair (.int .u8) (.pair (.int .i64) (.pair (.sl (.int .u8)) (.pair (.int .i64) (.int .i64))))))]
theorem quoinref20_fits_walk (base0 : List Int) (y1 : (Int × Int × List Int × Int × Int)) (K : Res → List Cell → Prop) : runF tb (getG quoinref20_fits_G) quoinref20_fits_B0 Try.f23 [true] (mkA quoinref20_fits_A (base0, y1, ())) K = quoinref20_fits_raw base0 y1 K := by kernel_rfl
--! pre 0
def quoinref20_under (base : List Int) (y : Int × Int × List Int × Int × Int) : Int := if y.1 = 105 then 0 else quoinref20_covers_F base y.2.1 y.2.2.1
def quoinref20_fits_F (base : List Int) (y : Int × Int × List Int × Int × Int) : Bool :=
  decide ((y.1 = 105 ∨ y.1 = 82) ∧ 0 ≤ y.2.1 ∧ y.2.1 ≤ base.length ∧ 1 ≤ y.2.2.2.2 ∧ y.2.2.2.2 ≤ 9999 ∧ (∀ b ∈ y.2.2.1, quoinref20_text_F b = true) ∧ y.2.2.2.1 = quoinref20_under base y)
theorem quoinref20_fits_l0 (kr : Bool → Prop) (kx0 : List Int → (Int × Int × List Int × Int × Int) → Prop) (base : List Int) (y : Int × Int × List Int × Int × Int) (hx : y.2.2.1.length ≤ 9223372036854775807) : ∀ (d m i : Nat), i + d = y.2.2.1.length → d < m →
    ((∃ b ∈ y.2.2.1, quoinref20_text_F b = false) → kr false) → ((∀ b ∈ y.2.2.1.drop i, quoinref20_text_F b = true) → kx0 base y) → quoinref20_fits_L0 kr kx0 m base (i : Int) y
  | _, 0, _, _, h, _, _ => absurd h (Nat.not_lt_zero _)
  | d, m + 1, i, hd, hm, h1, h2 => by
    intro _
    unfold quoinref20_fits_T0
    refine brn (fun hlt => asrt (by omega) fun r hr _ => ?_) (fun hge => h2 ?_)
    · have hi : i < y.2.2.1.length := by omega
      rw [rd_nat _ _ _ hi] at hr
      refine brb (fun h => h1 ⟨y.2.2.1[i], List.getElem_mem hi, ?_⟩) (fun h => ?_)
      · rw [← hr]; simpa using h
      · rw [wrap_i64 (by omega) (by omega)]
        obtain ⟨d', rfl⟩ : ∃ d', d = d' + 1 := ⟨d - 1, by omega⟩
        have := quoinref20_fits_l0 kr kx0 base y hx d' m (i + 1) (by omega) (by omega) h1 (fun ha => h2 (fun b hb => by
          rw [List.drop_eq_getElem_cons hi] at hb
          rcases List.mem_cons.1 hb with e | hb
          · rw [e, ← hr]; simpa using h
          · exact ha b hb))
        simpa using this
    · rw [List.drop_eq_nil_of_le (by omega)]; intro b hb; cases hb
theorem quoinref20_fits_sp (base : List Int) (y : Int × Int × List Int × Int × Int) (K : Res → List Cell → Prop) (hw : wfA quoinref20_fits_A (base, y, ())) (h : ∀ r : Bool, r = quoinref20_fits_F base y → K (.one (.v .bool r)) []) : quoinref20_fits_raw base y K := by
  have hx : y.2.2.1.length ≤ 9223372036854775807 := hw.2.1.2.2.1.1
  have no : ¬ ((y.1 = 105 ∨ y.1 = 82) ∧ 0 ≤ y.2.1 ∧ y.2.1 ≤ base.length ∧ 1 ≤ y.2.2.2.2 ∧ y.2.2.2.2 ≤ 9999 ∧ (∀ b ∈ y.2.2.1, quoinref20_text_F b = true) ∧ y.2.2.2.1 = quoinref20_under base y) → K (.one (.v .bool false)) [] :=
    fun hn => h false (by unfold quoinref20_fits_F; exact (decide_eq_false hn).symm)
  unfold quoinref20_fits_raw
  have loop : (y.1 = 105 ∨ y.1 = 82) → 0 ≤ y.2.1 → y.2.1 ≤ base.length → 1 ≤ y.2.2.2.2 → y.2.2.2.2 ≤ 9999 → wfD quoinref20_fits_d0 (base, (0 : Int), y, ()) → ∃ n, quoinref20_fits_L0 (fun (x4 : Bool) => wfD quoinref20_fits_d0r (x4, ()) → (
        K (.one (.v (.bool) x4)) [])) (fun (base0 : List Int) (y3b : (Int × Int × List Int × Int × Int)) => wfD quoinref20_fits_d0x0 (base0, y3b, ()) → (
        bif (decide (y3b.1 = (105 : Int))) then
          K (.one (.v (.bool) (decide (y3b.2.2.2.1 = (0 : Int))))) []
        else
          quoinref20_covers_P base0 y3b.2.1 y3b.2.2.1 ∧ (
          ∀ (r3 : Int), r3 = quoinref20_covers_F base0 y3b.2.1 y3b.2.2.1 → (
          wfR (.one (.v (.int .i64) r3)) → (
          K (.one (.v (.bool) (decide (y3b.2.2.2.1 = r3)))) []))))) n base (0 : Int) y := by
    intro h1 h2 h3 h4 h5 _
    refine ⟨y.2.2.1.length + 1, quoinref20_fits_l0 _ _ base y hx y.2.2.1.length _ 0 (by omega) (by omega) (fun ⟨b, hb, hf⟩ _ => no ?_) (fun ha _ => brn (fun hk => h _ ?_) (fun hk => ⟨⟨h2, h3⟩, fun r hr _ => h _ ?_⟩))⟩
    · rintro ⟨_, _, _, _, _, hall, _⟩; rw [hall b hb] at hf; cases hf
    · unfold quoinref20_fits_F quoinref20_under
      rw [decide_eq_decide, if_pos hk]
      exact ⟨fun e => ⟨h1, h2, h3, h4, h5, ha, e⟩, fun e => e.2.2.2.2.2.2⟩
    · unfold quoinref20_fits_F quoinref20_under
      rw [decide_eq_decide, if_neg hk, ← hr]
      exact ⟨fun e => ⟨h1, h2, h3, h4, h5, ha, e⟩, fun e => e.2.2.2.2.2.2⟩
  have rest : (y.1 = 105 ∨ y.1 = 82) → _ := fun h1 => (brn (c := y.2.1 < 0) (fun hc => no (by omega)) (fun h2 => brn (c := (base.length : Int) < y.2.1) (fun hc => no (by omega)) (fun h3 => brn (c := y.2.2.2.2 < 1) (fun hc => no (by omega)) (fun h4 => brn (c := 9999 < y.2.2.2.2) (fun hc => no (by omega)) (fun h5 => loop h1 (by omega) (by omega) (by omega) (by omega))))))
  refine brb (fun ha => brb (fun hb => no ?_) (fun hb => rest (.inr (by simpa using hb)))) (fun ha => rest (.inl (by simpa using ha)))
  rintro ⟨h1 | h1, _⟩
  · simp [h1] at ha
  · simp [h1] at hb

def quoinref20_fits_C (v : valsA quoinref20_fits_A) (K : Res → List Cell → Prop) : Prop := ∀ r : Bool, r = quoinref20_fits_F v.1 v.2.1 → K (.one (.v (.bool) r)) []
def quoinref20_fits_S : App := specW quoinref20_fits_A quoinref20_fits_C
theorem quoinref20_fits_wv (K : Res → List Cell → Prop) : ∀ v : valsA quoinref20_fits_A, runF tb (getG quoinref20_fits_G) quoinref20_fits_B0 Try.f23 [true] (mkA quoinref20_fits_A v) K = quoinref20_fits_raw v.1 v.2.1 K
  | (base0, y1, ()) => quoinref20_fits_walk base0 y1 K
set_option maxRecDepth 20000 in
theorem quoinref20_fits_ok : AppOk Try.prog 23 quoinref20_fits_S :=
  AppOk.specW (spec_ok (runF_ok tb_M tb_ok quoinref20_fits_Gok (quoinref20_fits_b0) (f := 23) (fn := Try.f23) (by kernel_rfl) (by kernel_rfl) quoinref20_fits_st [true]) fun v K hw h => (quoinref20_fits_wv K v).mpr (quoinref20_fits_sp v.1 v.2.1 K hw h))

end Go.VE
namespace Go.VE
open Go Go.Proofs
/-! ### quoin/quoinref20.with -/
def quoinref20_with_G : List (Nat × App) := [(42, quoinref20_covers_S)]
theorem quoinref20_with_Gok : GOk Try.prog (getG quoinref20_with_G) := GOk.cons quoinref20_covers_ok (GOk.nil)
def quoinref20_with_raw (base0 : List Int) (y1 : (Int × Int × List Int × Int × Int)) (p2 : List Int) (K : Res → List Cell → Prop) : Prop :=
  bif decide (List.length ([] : List Int) + List.length p2 ≤ lim) then
  bif (decide (y1.1 = (82 : Int))) then
    quoinref20_covers_P base0 y1.2.1 (([] : List Int) ++ p2) ∧ (
    ∀ (r1 : Int), r1 = quoinref20_covers_F base0 y1.2.1 (([] : List Int) ++ p2) → (
    wfR (.one (.v (.int .i64) r1)) → (
    K (.one (.v (.st (.pair (.int .u8) (.pair (.int .i64) (.pair (.sl (.int .u8)) (.pair (.int .i64) (.int .i64)))))) (y1.1, y1.2.1, (([] : List Int) ++ p2), r1, y1.2.2.2.2))) [])))
  else
    K (.one (.v (.st (.pair (.int .u8) (.pair (.int .i64) (.pair (.sl (.int .u8)) (.pair (.int .i64) (.int .i64)))))) (y1.1, y1.2.1, (([] : List Int) ++ p2), (0 : Int), y1.2.2.2.2))) []
  else False
def quoinref20_with_A : List AS := [.v (.sl (.int .u8)), .v (.st (.pair (.int .u8) (.pair (.int .i64) (.pair (.sl (.int .u8)) (.pair (.int .i64) (.int .i64)))))), .v (.sl (.int .u8))]
theorem quoinref20_with_walk (base0 : List Int) (y1 : (Int × Int × List Int × Int × Int)) (p2 : List Int) (K : Res → List Cell → Prop) : runF tb (getG quoinref20_with_G) [] Try.f24 [true] (mkA quoinref20_with_A (base0, y1, p2, ())) K = quoinref20_with_raw base0 y1 p2 K := by kernel_rfl

def quoinref20_with_P (base0 : List Int) (y1 : (Int × Int × List Int × Int × Int)) (p2 : List Int) : Prop :=
  (List.length ([] : List Int) + List.length p2 ≤ lim) ∧ (
  bif (decide (y1.1 = (82 : Int))) then
    quoinref20_covers_P base0 y1.2.1 (([] : List Int) ++ p2)
  else
    True)
def quoinref20_with_F (base0 : List Int) (y1 : (Int × Int × List Int × Int × Int)) (p2 : List Int) : (Int × Int × List Int × Int × Int) :=
  bif (decide (y1.1 = (82 : Int))) then
    let r1 : Int := quoinref20_covers_F base0 y1.2.1 (([] : List Int) ++ p2)
    (y1.1, y1.2.1, (([] : List Int) ++ p2), r1, y1.2.2.2.2)
  else
    (y1.1, y1.2.1, (([] : List Int) ++ p2), (0 : Int), y1.2.2.2.2)
set_option maxRecDepth 20000 in
theorem quoinref20_with_sp (base0 : List Int) (y1 : (Int × Int × List Int × Int × Int)) (p2 : List Int) (K : Res → List Cell → Prop) (_ : wfA quoinref20_with_A (base0, y1, p2, ())) (hp : quoinref20_with_P base0 y1 p2) (h : ∀ r : (Int × Int × List Int × Int × Int), r = quoinref20_with_F base0 y1 p2 → K (.one (.v (.st (.pair (.int .u8) (.pair (.int .i64) (.pair (.sl (.int .u8)) (.pair (.int .i64) (.int .i64)))))) r)) []) : quoinref20_with_raw base0 y1 p2 K := by
  unfold quoinref20_with_raw
  unfold quoinref20_with_P at hp
  refine asrt hp.1 ?_
  replace hp := hp.2
  refine brb (fun c1 => ?_) (fun c1 => ?_)
  ·
    replace hp := cT c1 hp
    refine ⟨hp, ?_⟩
    intro r1 hr1
    subst hr1
    intro _
    exact h _ ((ctrue c1) : quoinref20_with_F base0 y1 p2 = _).symm
  ·
    clear hp
    exact h _ ((cfalse c1) : quoinref20_with_F base0 y1 p2 = _).symm
def quoinref20_with_C (v : valsA quoinref20_with_A) (K : Res → List Cell → Prop) : Prop := quoinref20_with_P v.1 v.2.1 v.2.2.1 ∧ ∀ r : (Int × Int × List Int × Int × Int), r = quoinref20_with_F v.1 v.2.1 v.2.2.1 → K (.one (.v (.st (.pair (.int .u8) (.pair (.int .i64) (.pair (.sl (.int .u8)) (.pair (.int .i64) (.int .i64)))))) r)) []
def quoinref20_with_S : App := specW quoinref20_with_A quoinref20_with_C
theorem quoinref20_with_wv (K : Res → List Cell → Prop) : ∀ v : valsA quoinref20_with_A, runF tb (getG quoinref20_with_G) [] Try.f24 [true] (mkA quoinref20_with_A v) K = quoinref20_with_raw v.1 v.2.1 v.2.2.1 K
  | (base0, y1, p2, ()) => quoinref20_with_walk base0 y1 p2 K
set_option maxRecDepth 20000 in
theorem quoinref20_with_ok : AppOk Try.prog 24 quoinref20_with_S :=
  AppOk.specW (spec_ok (runF_ok tb_M tb_ok quoinref20_with_Gok (LabsOk.nil) (f := 24) (fn := Try.f24) (by kernel_rfl) (by kernel_rfl) (by kernel_rfl) [true]) fun v K hw h => (quoinref20_with_wv K v).mpr (quoinref20_with_sp v.1 v.2.1 v.2.2.1 K hw h.1 h.2))

end Go.VE
namespace Go.VE
open Go Go.Proofs
/-! ### quoin/quoinref20.line -/
def quoinref20_line_G : List (Nat × App) := []
theorem quoinref20_line_Gok : GOk Try.prog (getG quoinref20_line_G) := GOk.nil
theorem quoinref20_line_st : storesC (bodyOf Try.f25) = true := by kernel_rfl
def quoinref20_line_d0 : List LS := [.v 0 (.sl (.int .u8))]
def quoinref20_line_d0x0 : List LS := [.v 0 (.sl (.int .u8))]
def quoinref20_line_dx0 : DX := ⟨none, none, [(0, quoinref20_line_d0x0)]⟩
def quoinref20_line_T0 (Y : List Int → Prop) (kx0 : List Int → Prop) (p0 : List Int) : Prop :=
  bif (decide ((0 : Int) < (List.length p0 : Int))) then
    bif decide (0 ≤ (IntKind.wrap .i64 ((List.length p0 : Int) - (1 : Int))) ∧ (IntKind.wrap .i64 ((List.length p0 : Int) - (1 : Int))) < (List.length p0 : Int)) then
    bif (!decide ((rd (0 : Int) p0 (IntKind.wrap .i64 ((List.length p0 : Int) - (1 : Int)))) = (10 : Int))) then
      bif decide (0 ≤ (IntKind.wrap .i64 ((List.length p0 : Int) - (1 : Int))) ∧ (IntKind.wrap .i64 ((List.length p0 : Int) - (1 : Int))) ≤ (List.length p0 : Int)) then
      Y (List.take (Int.toNat (IntKind.wrap .i64 ((List.length p0 : Int) - (1 : Int)))) p0)
      else False
    else
      kx0 p0
    else False
  else
    kx0 p0
def quoinref20_line_L0 (kx0 : List Int → Prop) : Nat → List Int → Prop
  | 0, _ => False
  | n + 1, p0 => wfD quoinref20_line_d0 (p0, ()) → quoinref20_line_T0 (quoinref20_line_L0 kx0 n) kx0 p0
theorem quoinref20_line_s0 (k : Ex → St → Prop) (Y : vals quoinref20_line_d0 → Prop) (p0 : List Int) :
    ex tb (getG quoinref20_line_G) [] (at' (bodyOf Try.f25) [0, 0, 0, 1]) [0, 0, 0, 1] (mkD 21 quoinref20_line_d0 (p0, ())) (lpK 21 quoinref20_line_d0 quoinref20_line_dx0 k Y) =
    quoinref20_line_T0 (fun p0 => Y (p0, ())) (fun p0 => wfD quoinref20_line_d0x0 (p0, ()) → k (.exit 0) (mkD 21 quoinref20_line_d0x0 (p0, ()))) p0 := by kernel_rfl
theorem quoinref20_line_e0 (k : Ex → St → Prop) : ∀ (n : Nat) (p0 : List Int), lpD 21 quoinref20_line_d0 quoinref20_line_dx0 (ex tb (getG quoinref20_line_G) [] (at' (bodyOf Try.f25) [0, 0, 0, 1]) [0, 0, 0, 1]) k n (p0, ()) = quoinref20_line_L0 (fun p0 => wfD quoinref20_line_d0x0 (p0, ()) → k (.exit 0) (mkD 21 quoinref20_line_d0x0 (p0, ()))) n p0
  | 0, _ => rfl
  | n + 1, p0 => congrArg (fun Z : Prop => wfD quoinref20_line_d0 (p0, ()) → Z) ((quoinref20_line_s0 k (lpD 21 quoinref20_line_d0 quoinref20_line_dx0 (ex tb (getG quoinref20_line_G) [] (at' (bodyOf Try.f25) [0, 0, 0, 1]) [0, 0, 0, 1]) k n) p0).trans (congrArg (fun Y => quoinref20_line_T0 Y (fun p0 => wfD quoinref20_line_d0x0 (p0, ()) → k (.exit 0) (mkD 21 quoinref20_line_d0x0 (p0, ()))) p0) (funext fun p0 => quoinref20_line_e0 k n p0)))
theorem quoinref20_line_v0 (k : Ex → St → Prop) (n : Nat) : ∀ v : vals quoinref20_line_d0, lpD 21 quoinref20_line_d0 quoinref20_line_dx0 (ex tb (getG quoinref20_line_G) [] (at' (bodyOf Try.f25) [0, 0, 0, 1]) [0, 0, 0, 1]) k n v = quoinref20_line_L0 (fun p0 => wfD quoinref20_line_d0x0 (p0, ()) → k (.exit 0) (mkD 21 quoinref20_line_d0x0 (p0, ()))) n v.1
  | (p0, ()) => quoinref20_line_e0 k n p0
def quoinref20_line_X0 : Pce := fun st k => ckD 21 quoinref20_line_d0 st fun v => wfD quoinref20_line_d0 v → ∃ n, quoinref20_line_L0 (fun p0 => wfD quoinref20_line_d0x0 (p0, ()) → k (.exit 0) (mkD 21 quoinref20_line_d0x0 (p0, ()))) n v.1
set_option maxRecDepth 20000 in
theorem quoinref20_line_x0 : SemOk Try.prog (at' (bodyOf Try.f25) [0, 0, 1]) quoinref20_line_X0 :=
  (SemOk.loop (ex_sound tb_M tb_ok quoinref20_line_Gok (LabsOk.nil) (at' (bodyOf Try.f25) [0, 0, 0, 1]) [0, 0, 0, 1] rfl (storesC_at quoinref20_line_st [0, 0, 0, 1])) 21 quoinref20_line_d0 quoinref20_line_dx0).mono fun st k h => ckD_mono h fun v hv hw => (hv hw).elim fun n hn => ⟨n, Eq.mpr (quoinref20_line_v0 k n v) hn⟩
def quoinref20_line_B0 : Labs := ([0, 0, 1], quoinref20_line_X0) :: []
theorem quoinref20_line_b0 : LabsOk Try.prog (bodyOf Try.f25) quoinref20_line_B0 := LabsOk.cons quoinref20_line_x0 (LabsOk.nil)
def quoinref20_line_raw (p0 : List Int) (K : Res → List Cell → Prop) : Prop :=
  (wfD quoinref20_line_d0 (p0, ()) → ∃ n, quoinref20_line_L0 (fun (p0 : List Int) => wfD quoinref20_line_d0x0 (p0, ()) → (
      K (.one (.v (.sl (.int .u8)) p0)) [])) n p0)
def quoinref20_line_A : List AS := [.v (.sl (.int .u8))]
theorem quoinref20_line_walk (p0 : List Int) (K : Res → List Cell → Prop) : runF tb (getG quoinref20_line_G) quoinref20_line_B0 Try.f25 [true] (mkA quoinref20_line_A (p0, ())) K = quoinref20_line_raw p0 K := by kernel_rfl
--! pre 0
/-- what of the first n stands up to the last line end among them -/
def lineLen (t : List Int) : Nat → Nat
  | 0 => 0
  | n + 1 => if rd (0 : Int) t n = 10 then n + 1 else lineLen t n
theorem lineLen_le (t : List Int) : ∀ n, lineLen t n ≤ n
  | 0 => Nat.le_refl _
  | n + 1 => by have := lineLen_le t n; unfold lineLen; split <;> omega
def quoinref20_line_F (t : List Int) : List Int := t.take (lineLen t t.length)
theorem rd_take (t : List Int) (n i : Nat) (h : i < n) (hn : n ≤ t.length) : rd (0 : Int) (t.take n) (i : Int) = rd (0 : Int) t (i : Int) := by
  rw [rd_nat _ _ _ (by rw [List.length_take]; omega), rd_nat _ _ _ (by omega), List.getElem_take]
theorem quoinref20_line_l0 (kx0 : List Int → Prop) (t : List Int) (ht : t.length ≤ 9223372036854775807) : ∀ (n m : Nat), n ≤ t.length → n < m → kx0 (t.take (lineLen t n)) → quoinref20_line_L0 kx0 m (t.take n)
  | _, 0, _, h, _ => absurd h (Nat.not_lt_zero _)
  | 0, m + 1, _, _, h => by
    intro _
    unfold quoinref20_line_T0
    exact brn (fun h => absurd h (by simp)) (fun _ => h)
  | n + 1, m + 1, hn, hm, h => by
    intro _
    unfold quoinref20_line_T0
    have hl : ((t.take (n + 1)).length : Int) = n + 1 := by rw [List.length_take]; omega
    rw [hl, wrap_i64 (by omega) (by omega), show (n : Int) + 1 - 1 = (n : Int) by omega, rd_take t (n + 1) n (by omega) hn]
    unfold lineLen at h
    refine brn (fun _ => asrt (by omega) (brb (fun hb => asrt (by omega) ?_) (fun hb => ?_))) (fun h => absurd (by omega) h)
    · have hb : ¬ rd (0 : Int) t n = 10 := by simpa using hb
      rw [if_neg hb] at h
      rw [Int.toNat_natCast, List.take_take, show min n (n + 1) = n by omega]
      exact quoinref20_line_l0 kx0 t ht n m (by omega) (by omega) h
    · have hb : rd (0 : Int) t n = 10 := by simpa using hb
      rw [if_pos hb] at h; exact h
theorem quoinref20_line_sp (t : List Int) (K : Res → List Cell → Prop) (hw : wfA quoinref20_line_A (t, ())) (h : ∀ r : List Int, r = quoinref20_line_F t → K (.one (.v (.sl (.int .u8)) r)) []) : quoinref20_line_raw t K := by
  have ht : t.length ≤ 9223372036854775807 := hw.1.1
  intro _
  refine ⟨t.length + 1, ?_⟩
  have := quoinref20_line_l0 (fun (p0 : List Int) => wfD quoinref20_line_d0x0 (p0, ()) → (K (.one (.v (.sl (.int .u8)) p0)) [])) t ht t.length (t.length + 1) (Nat.le_refl _) (by omega) (fun _ => h _ rfl)
  rw [List.take_length] at this
  exact this

def quoinref20_line_C (v : valsA quoinref20_line_A) (K : Res → List Cell → Prop) : Prop := ∀ r : List Int, r = quoinref20_line_F v.1 → K (.one (.v (.sl (.int .u8)) r)) []
def quoinref20_line_S : App := specW quoinref20_line_A quoinref20_line_C
theorem quoinref20_line_wv (K : Res → List Cell → Prop) : ∀ v : valsA quoinref20_line_A, runF tb (getG quoinref20_line_G) quoinref20_line_B0 Try.f25 [true] (mkA quoinref20_line_A v) K = quoinref20_line_raw v.1 K
  | (p0, ()) => quoinref20_line_walk p0 K
set_option maxRecDepth 20000 in
theorem quoinref20_line_ok : AppOk Try.prog 25 quoinref20_line_S :=
  AppOk.specW (spec_ok (runF_ok tb_M tb_ok quoinref20_line_Gok (quoinref20_line_b0) (f := 25) (fn := Try.f25) (by kernel_rfl) (by kernel_rfl) quoinref20_line_st [true]) fun v K hw h => (quoinref20_line_wv K v).mpr (quoinref20_line_sp v.1 K hw h))

end Go.VE
namespace Go.VE
open Go Go.Proofs
/-! ### quoin/quoinref06.small -/
def quoinref06_small_G : List (Nat × App) := []
theorem quoinref06_small_Gok : GOk Try.prog (getG quoinref06_small_G) := GOk.nil
def quoinref06_small_raw (b0 : Int) (K : Res → List Cell → Prop) : Prop :=
  bif (decide ((97 : Int) ≤ b0)) then
    K (.one (.v (.bool) (decide (b0 ≤ (122 : Int))))) []
  else
    K (.one (.v (.bool) false)) []
def quoinref06_small_A : List AS := [.v (.int .u8)]
theorem quoinref06_small_walk (b0 : Int) (K : Res → List Cell → Prop) : runF tb (getG quoinref06_small_G) [] Try.f67 [true] (mkA quoinref06_small_A (b0, ())) K = quoinref06_small_raw b0 K := by kernel_rfl

def quoinref06_small_F (b0 : Int) : Bool :=
  bif (decide ((97 : Int) ≤ b0)) then
    (decide (b0 ≤ (122 : Int)))
  else
    false
set_option maxRecDepth 20000 in
theorem quoinref06_small_sp (b0 : Int) (K : Res → List Cell → Prop) (_ : wfA quoinref06_small_A (b0, ())) (h : ∀ r : Bool, r = quoinref06_small_F b0 → K (.one (.v (.bool) r)) []) : quoinref06_small_raw b0 K := by
  unfold quoinref06_small_raw
  refine brb (fun c1 => ?_) (fun c1 => ?_)
  ·
    exact h _ ((ctrue c1) : quoinref06_small_F b0 = _).symm
  ·
    exact h _ ((cfalse c1) : quoinref06_small_F b0 = _).symm
def quoinref06_small_C (v : valsA quoinref06_small_A) (K : Res → List Cell → Prop) : Prop := ∀ r : Bool, r = quoinref06_small_F v.1 → K (.one (.v (.bool) r)) []
def quoinref06_small_S : App := specW quoinref06_small_A quoinref06_small_C
theorem quoinref06_small_wv (K : Res → List Cell → Prop) : ∀ v : valsA quoinref06_small_A, runF tb (getG quoinref06_small_G) [] Try.f67 [true] (mkA quoinref06_small_A v) K = quoinref06_small_raw v.1 K
  | (b0, ()) => quoinref06_small_walk b0 K
set_option maxRecDepth 20000 in
theorem quoinref06_small_ok : AppOk Try.prog 67 quoinref06_small_S :=
  AppOk.specW (spec_ok (runF_ok tb_M tb_ok quoinref06_small_Gok (LabsOk.nil) (f := 67) (fn := Try.f67) (by kernel_rfl) (by kernel_rfl) (by kernel_rfl) [true]) fun v K hw h => (quoinref06_small_wv K v).mpr (quoinref06_small_sp v.1 K hw h))

end Go.VE
namespace Go.VE
open Go Go.Proofs
/-! ### quoin/quoinref06.great -/
def quoinref06_great_G : List (Nat × App) := []
theorem quoinref06_great_Gok : GOk Try.prog (getG quoinref06_great_G) := GOk.nil
def quoinref06_great_raw (b0 : Int) (K : Res → List Cell → Prop) : Prop :=
  bif (decide ((65 : Int) ≤ b0)) then
    K (.one (.v (.bool) (decide (b0 ≤ (90 : Int))))) []
  else
    K (.one (.v (.bool) false)) []
def quoinref06_great_A : List AS := [.v (.int .u8)]
theorem quoinref06_great_walk (b0 : Int) (K : Res → List Cell → Prop) : runF tb (getG quoinref06_great_G) [] Try.f68 [true] (mkA quoinref06_great_A (b0, ())) K = quoinref06_great_raw b0 K := by kernel_rfl

def quoinref06_great_F (b0 : Int) : Bool :=
  bif (decide ((65 : Int) ≤ b0)) then
    (decide (b0 ≤ (90 : Int)))
  else
    false
set_option maxRecDepth 20000 in
theorem quoinref06_great_sp (b0 : Int) (K : Res → List Cell → Prop) (_ : wfA quoinref06_great_A (b0, ())) (h : ∀ r : Bool, r = quoinref06_great_F b0 → K (.one (.v (.bool) r)) []) : quoinref06_great_raw b0 K := by
  unfold quoinref06_great_raw
  refine brb (fun c1 => ?_) (fun c1 => ?_)
  ·
    exact h _ ((ctrue c1) : quoinref06_great_F b0 = _).symm
  ·
    exact h _ ((cfalse c1) : quoinref06_great_F b0 = _).symm
def quoinref06_great_C (v : valsA quoinref06_great_A) (K : Res → List Cell → Prop) : Prop := ∀ r : Bool, r = quoinref06_great_F v.1 → K (.one (.v (.bool) r)) []
def quoinref06_great_S : App := specW quoinref06_great_A quoinref06_great_C
theorem quoinref06_great_wv (K : Res → List Cell → Prop) : ∀ v : valsA quoinref06_great_A, runF tb (getG quoinref06_great_G) [] Try.f68 [true] (mkA quoinref06_great_A v) K = quoinref06_great_raw v.1 K
  | (b0, ()) => quoinref06_great_walk b0 K
set_option maxRecDepth 20000 in
theorem quoinref06_great_ok : AppOk Try.prog 68 quoinref06_great_S :=
  AppOk.specW (spec_ok (runF_ok tb_M tb_ok quoinref06_great_Gok (LabsOk.nil) (f := 68) (fn := Try.f68) (by kernel_rfl) (by kernel_rfl) (by kernel_rfl) [true]) fun v K hw h => (quoinref06_great_wv K v).mpr (quoinref06_great_sp v.1 K hw h))

end Go.VE
namespace Go.VE
open Go Go.Proofs
/-! ### quoin/quoinref06.Of -/
def quoinref06_Of_G : List (Nat × App) := [(67, quoinref06_small_S), (68, quoinref06_great_S)]
theorem quoinref06_Of_Gok : GOk Try.prog (getG quoinref06_Of_G) := GOk.cons quoinref06_small_ok (GOk.cons quoinref06_great_ok (GOk.nil))
def quoinref06_Of_raw (b0 : Int) (big1 : Bool) (K : Res → List Cell → Prop) : Prop :=
  bif (decide (b0 = (10 : Int))) then
    K (.one (.v (.int .i64) (3 : Int))) []
  else
  bif (decide (b0 = (32 : Int))) then
    K (.one (.v (.int .i64) (0 : Int))) []
  else
  bif (decide (b0 = (9 : Int))) then
    K (.one (.v (.int .i64) (0 : Int))) []
  else
    ∀ (r1 : Bool), r1 = quoinref06_small_F b0 → (
    wfR (.one (.v (.bool) r1)) → (
    bif r1 then
      K (.one (.v (.int .i64) (2 : Int))) []
    else
      ∀ (r2 : Bool), r2 = quoinref06_great_F b0 → (
      wfR (.one (.v (.bool) r2)) → (
      bif r2 then
        K (.one (.v (.int .i64) (2 : Int))) []
      else
      bif (decide ((48 : Int) ≤ b0)) then
        bif (decide (b0 ≤ (57 : Int))) then
          K (.one (.v (.int .i64) (2 : Int))) []
        else
        bif (decide (b0 = (95 : Int))) then
          K (.one (.v (.int .i64) (2 : Int))) []
        else
        bif (decide ((128 : Int) ≤ b0)) then
          K (.one (.v (.int .i64) (2 : Int))) []
        else
        bif big1 then
          K (.one (.v (.int .i64) (2 : Int))) []
        else
          K (.one (.v (.int .i64) (1 : Int))) []
      else
      bif (decide (b0 = (95 : Int))) then
        K (.one (.v (.int .i64) (2 : Int))) []
      else
      bif (decide ((128 : Int) ≤ b0)) then
        K (.one (.v (.int .i64) (2 : Int))) []
      else
      bif big1 then
        K (.one (.v (.int .i64) (2 : Int))) []
      else
        K (.one (.v (.int .i64) (1 : Int))) []))))
def quoinref06_Of_A : List AS := [.v (.int .u8), .v (.bool)]
theorem quoinref06_Of_walk (b0 : Int) (big1 : Bool) (K : Res → List Cell → Prop) : runF tb (getG quoinref06_Of_G) [] Try.f56 [true] (mkA quoinref06_Of_A (b0, big1, ())) K = quoinref06_Of_raw b0 big1 K := by kernel_rfl

def quoinref06_Of_F (b0 : Int) (big1 : Bool) : Int :=
  bif (decide (b0 = (10 : Int))) then
    (3 : Int)
  else
    bif (decide (b0 = (32 : Int))) then
      (0 : Int)
    else
      bif (decide (b0 = (9 : Int))) then
        (0 : Int)
      else
        let r1 : Bool := quoinref06_small_F b0
        bif r1 then
          (2 : Int)
        else
          let r2 : Bool := quoinref06_great_F b0
          bif r2 then
            (2 : Int)
          else
            bif (decide ((48 : Int) ≤ b0)) then
              bif (decide (b0 ≤ (57 : Int))) then
                (2 : Int)
              else
                bif (decide (b0 = (95 : Int))) then
                  (2 : Int)
                else
                  bif (decide ((128 : Int) ≤ b0)) then
                    (2 : Int)
                  else
                    bif big1 then
                      (2 : Int)
                    else
                      (1 : Int)
            else
              bif (decide (b0 = (95 : Int))) then
                (2 : Int)
              else
                bif (decide ((128 : Int) ≤ b0)) then
                  (2 : Int)
                else
                  bif big1 then
                    (2 : Int)
                  else
                    (1 : Int)
set_option maxRecDepth 20000 in
theorem quoinref06_Of_sp (b0 : Int) (big1 : Bool) (K : Res → List Cell → Prop) (_ : wfA quoinref06_Of_A (b0, big1, ())) (h : ∀ r : Int, r = quoinref06_Of_F b0 big1 → K (.one (.v (.int .i64) r)) []) : quoinref06_Of_raw b0 big1 K := by
  unfold quoinref06_Of_raw
  refine brb (fun c1 => ?_) (fun c1 => ?_)
  ·
    exact h _ ((ctrue c1) : quoinref06_Of_F b0 big1 = _).symm
  ·
    refine brb (fun c2 => ?_) (fun c2 => ?_)
    ·
      exact h _ ((Eq.trans (cfalse c1) (ctrue c2)) : quoinref06_Of_F b0 big1 = _).symm
    ·
      refine brb (fun c3 => ?_) (fun c3 => ?_)
      ·
        exact h _ ((Eq.trans (cfalse c1) (Eq.trans (cfalse c2) (ctrue c3))) : quoinref06_Of_F b0 big1 = _).symm
      ·
        intro r1 hr1
        subst hr1
        intro _
        refine brb (fun c4 => ?_) (fun c4 => ?_)
        ·
          exact h _ ((Eq.trans (cfalse c1) (Eq.trans (cfalse c2) (Eq.trans (cfalse c3) (ctrue c4)))) : quoinref06_Of_F b0 big1 = _).symm
        ·
          intro r2 hr2
          subst hr2
          intro _
          refine brb (fun c5 => ?_) (fun c5 => ?_)
          ·
            exact h _ ((Eq.trans (cfalse c1) (Eq.trans (cfalse c2) (Eq.trans (cfalse c3) (Eq.trans (cfalse c4) (ctrue c5))))) : quoinref06_Of_F b0 big1 = _).symm
          ·
            refine brb (fun c6 => ?_) (fun c6 => ?_)
            ·
              refine brb (fun c7 => ?_) (fun c7 => ?_)
              ·
                exact h _ ((Eq.trans (cfalse c1) (Eq.trans (cfalse c2) (Eq.trans (cfalse c3) (Eq.trans (cfalse c4) (Eq.trans (cfalse c5) (Eq.trans (ctrue c6) (ctrue c7))))))) : quoinref06_Of_F b0 big1 = _).symm
              ·
                refine brb (fun c8 => ?_) (fun c8 => ?_)
                ·
                  exact h _ ((Eq.trans (cfalse c1) (Eq.trans (cfalse c2) (Eq.trans (cfalse c3) (Eq.trans (cfalse c4) (Eq.trans (cfalse c5) (Eq.trans (ctrue c6) (Eq.trans (cfalse c7) (ctrue c8)))))))) : quoinref06_Of_F b0 big1 = _).symm
                ·
                  refine brb (fun c9 => ?_) (fun c9 => ?_)
                  ·
                    exact h _ ((Eq.trans (cfalse c1) (Eq.trans (cfalse c2) (Eq.trans (cfalse c3) (Eq.trans (cfalse c4) (Eq.trans (cfalse c5) (Eq.trans (ctrue c6) (Eq.trans (cfalse c7) (Eq.trans (cfalse c8) (ctrue c9))))))))) : quoinref06_Of_F b0 big1 = _).symm
                  ·
                    refine brb (fun c10 => ?_) (fun c10 => ?_)
                    ·
                      exact h _ ((Eq.trans (cfalse c1) (Eq.trans (cfalse c2) (Eq.trans (cfalse c3) (Eq.trans (cfalse c4) (Eq.trans (cfalse c5) (Eq.trans (ctrue c6) (Eq.trans (cfalse c7) (Eq.trans (cfalse c8) (Eq.trans (cfalse c9) (ctrue c10)))))))))) : quoinref06_Of_F b0 big1 = _).symm
                    ·
                      exact h _ ((Eq.trans (cfalse c1) (Eq.trans (cfalse c2) (Eq.trans (cfalse c3) (Eq.trans (cfalse c4) (Eq.trans (cfalse c5) (Eq.trans (ctrue c6) (Eq.trans (cfalse c7) (Eq.trans (cfalse c8) (Eq.trans (cfalse c9) (cfalse c10)))))))))) : quoinref06_Of_F b0 big1 = _).symm
            ·
              refine brb (fun c11 => ?_) (fun c11 => ?_)
              ·
                exact h _ ((Eq.trans (cfalse c1) (Eq.trans (cfalse c2) (Eq.trans (cfalse c3) (Eq.trans (cfalse c4) (Eq.trans (cfalse c5) (Eq.trans (cfalse c6) (ctrue c11))))))) : quoinref06_Of_F b0 big1 = _).symm
              ·
                refine brb (fun c12 => ?_) (fun c12 => ?_)
                ·
                  exact h _ ((Eq.trans (cfalse c1) (Eq.trans (cfalse c2) (Eq.trans (cfalse c3) (Eq.trans (cfalse c4) (Eq.trans (cfalse c5) (Eq.trans (cfalse c6) (Eq.trans (cfalse c11) (ctrue c12)))))))) : quoinref06_Of_F b0 big1 = _).symm
                ·
                  refine brb (fun c13 => ?_) (fun c13 => ?_)
                  ·
                    exact h _ ((Eq.trans (cfalse c1) (Eq.trans (cfalse c2) (Eq.trans (cfalse c3) (Eq.trans (cfalse c4) (Eq.trans (cfalse c5) (Eq.trans (cfalse c6) (Eq.trans (cfalse c11) (Eq.trans (cfalse c12) (ctrue c13))))))))) : quoinref06_Of_F b0 big1 = _).symm
                  ·
                    exact h _ ((Eq.trans (cfalse c1) (Eq.trans (cfalse c2) (Eq.trans (cfalse c3) (Eq.trans (cfalse c4) (Eq.trans (cfalse c5) (Eq.trans (cfalse c6) (Eq.trans (cfalse c11) (Eq.trans (cfalse c12) (cfalse c13))))))))) : quoinref06_Of_F b0 big1 = _).symm
def quoinref06_Of_C (v : valsA quoinref06_Of_A) (K : Res → List Cell → Prop) : Prop := ∀ r : Int, r = quoinref06_Of_F v.1 v.2.1 → K (.one (.v (.int .i64) r)) []
def quoinref06_Of_S : App := specW quoinref06_Of_A quoinref06_Of_C
theorem quoinref06_Of_wv (K : Res → List Cell → Prop) : ∀ v : valsA quoinref06_Of_A, runF tb (getG quoinref06_Of_G) [] Try.f56 [true] (mkA quoinref06_Of_A v) K = quoinref06_Of_raw v.1 v.2.1 K
  | (b0, big1, ()) => quoinref06_Of_walk b0 big1 K
set_option maxRecDepth 20000 in
theorem quoinref06_Of_ok : AppOk Try.prog 56 quoinref06_Of_S :=
  AppOk.specW (spec_ok (runF_ok tb_M tb_ok quoinref06_Of_Gok (LabsOk.nil) (f := 56) (fn := Try.f56) (by kernel_rfl) (by kernel_rfl) (by kernel_rfl) [true]) fun v K hw h => (quoinref06_Of_wv K v).mpr (quoinref06_Of_sp v.1 v.2.1 K hw h))

end Go.VE
namespace Go.VE
open Go Go.Proofs
/-! ### quoin/quoinref20.kind -/
def quoinref20_kind_G : List (Nat × App) := [(56, quoinref06_Of_S)]
theorem quoinref20_kind_Gok : GOk Try.prog (getG quoinref20_kind_G) := GOk.cons quoinref06_Of_ok (GOk.nil)
def quoinref20_kind_raw (p0 : List Int) (K : Res → List Cell → Prop) : Prop :=
  bif (decide ((List.length p0 : Int) = (0 : Int))) then
    K (.one (.v (.int .i64) (-1 : Int))) []
  else
    bif decide (0 ≤ (IntKind.wrap .i64 ((List.length p0 : Int) - (1 : Int))) ∧ (IntKind.wrap .i64 ((List.length p0 : Int) - (1 : Int))) < (List.length p0 : Int)) then
    ∀ (r1 : Int), r1 = quoinref06_Of_F (rd (0 : Int) p0 (IntKind.wrap .i64 ((List.length p0 : Int) - (1 : Int)))) false → (
    wfR (.one (.v (.int .i64) r1)) → (
    K (.one (.v (.int .i64) r1)) []))
    else False
def quoinref20_kind_A : List AS := [.v (.sl (.int .u8))]
theorem quoinref20_kind_walk (p0 : List Int) (K : Res → List Cell → Prop) : runF tb (getG quoinref20_kind_G) [] Try.f43 [true] (mkA quoinref20_kind_A (p0, ())) K = quoinref20_kind_raw p0 K := by kernel_rfl

def quoinref20_kind_P (p0 : List Int) : Prop :=
  bif (decide ((List.length p0 : Int) = (0 : Int))) then
    True
  else
    (0 ≤ (IntKind.wrap .i64 ((List.length p0 : Int) - (1 : Int))) ∧ (IntKind.wrap .i64 ((List.length p0 : Int) - (1 : Int))) < (List.length p0 : Int))
def quoinref20_kind_F (p0 : List Int) : Int :=
  bif (decide ((List.length p0 : Int) = (0 : Int))) then
    (-1 : Int)
  else
    let r1 : Int := quoinref06_Of_F (rd (0 : Int) p0 (IntKind.wrap .i64 ((List.length p0 : Int) - (1 : Int)))) false
    r1
set_option maxRecDepth 20000 in
theorem quoinref20_kind_sp (p0 : List Int) (K : Res → List Cell → Prop) (_ : wfA quoinref20_kind_A (p0, ())) (hp : quoinref20_kind_P p0) (h : ∀ r : Int, r = quoinref20_kind_F p0 → K (.one (.v (.int .i64) r)) []) : quoinref20_kind_raw p0 K := by
  unfold quoinref20_kind_raw
  unfold quoinref20_kind_P at hp
  refine brb (fun c1 => ?_) (fun c1 => ?_)
  ·
    clear hp
    exact h _ ((ctrue c1) : quoinref20_kind_F p0 = _).symm
  ·
    replace hp := cF c1 hp
    refine asrt hp ?_
    intro r1 hr1
    subst hr1
    intro _
    exact h _ ((cfalse c1) : quoinref20_kind_F p0 = _).symm
def quoinref20_kind_C (v : valsA quoinref20_kind_A) (K : Res → List Cell → Prop) : Prop := quoinref20_kind_P v.1 ∧ ∀ r : Int, r = quoinref20_kind_F v.1 → K (.one (.v (.int .i64) r)) []
def quoinref20_kind_S : App := specW quoinref20_kind_A quoinref20_kind_C
theorem quoinref20_kind_wv (K : Res → List Cell → Prop) : ∀ v : valsA quoinref20_kind_A, runF tb (getG quoinref20_kind_G) [] Try.f43 [true] (mkA quoinref20_kind_A v) K = quoinref20_kind_raw v.1 K
  | (p0, ()) => quoinref20_kind_walk p0 K
set_option maxRecDepth 20000 in
theorem quoinref20_kind_ok : AppOk Try.prog 43 quoinref20_kind_S :=
  AppOk.specW (spec_ok (runF_ok tb_M tb_ok quoinref20_kind_Gok (LabsOk.nil) (f := 43) (fn := Try.f43) (by kernel_rfl) (by kernel_rfl) (by kernel_rfl) [true]) fun v K hw h => (quoinref20_kind_wv K v).mpr (quoinref20_kind_sp v.1 K hw h.1 h.2))
/-- the class of the last of the first n bytes -/
def kindAt (t : List Int) : Nat → Int
  | 0 => -1
  | n + 1 => quoinref06_Of_F (rd (0 : Int) t n) false
theorem quoinref20_kind_any (p : List Int) (hp : p.length ≤ 9223372036854775807) : quoinref20_kind_P p := by
  unfold quoinref20_kind_P
  by_cases h : (p.length : Int) = 0
  · rw [decide_eq_true h]; trivial
  · rw [decide_eq_false h, wrap_i64 (by omega) (by omega)]
    show _ ∧ _
    omega
theorem quoinref20_kind_take (t : List Int) (ht : t.length ≤ 9223372036854775807) : ∀ n, n ≤ t.length → quoinref20_kind_F (t.take n) = kindAt t n
  | 0, _ => rfl
  | n + 1, hn => by
    have hl : ((t.take (n + 1)).length : Int) = n + 1 := by rw [List.length_take]; omega
    unfold quoinref20_kind_F
    rw [hl, decide_eq_false (by omega), wrap_i64 (by omega) (by omega), show (n : Int) + 1 - 1 = (n : Int) by omega]
    show quoinref06_Of_F (rd (0 : Int) (t.take (n + 1)) (n : Int)) false = _
    rw [rd_nat _ _ _ (by rw [List.length_take]; omega), List.getElem_take]
    show _ = quoinref06_Of_F (rd (0 : Int) t n) false
    rw [rd_nat _ _ _ (by omega)]

end Go.VE
namespace Go.VE
open Go Go.Proofs
/-! ### quoin/quoinref20.shorter -/
def quoinref20_shorter_G : List (Nat × App) := [(43, quoinref20_kind_S)]
theorem quoinref20_shorter_Gok : GOk Try.prog (getG quoinref20_shorter_G) := GOk.cons quoinref20_kind_ok (GOk.nil)
theorem quoinref20_shorter_st : storesC (bodyOf Try.f26) = true := by kernel_rfl
def quoinref20_shorter_d0 : List LS := [.v 0 (.sl (.int .u8))]
def quoinref20_shorter_d0x0 : List LS := [.v 0 (.sl (.int .u8))]
def quoinref20_shorter_dx0 : DX := ⟨none, none, [(0, quoinref20_shorter_d0x0)]⟩
def quoinref20_shorter_T0 (Y : List Int → Prop) (kx0 : List Int → Prop) (p0 : List Int) : Prop :=
  bif (decide ((0 : Int) < (List.length p0 : Int))) then
    quoinref20_kind_P p0 ∧ (
    ∀ (r1 : Int), r1 = quoinref20_kind_F p0 → (
    wfR (.one (.v (.int .i64) r1)) → (
    bif (decide (r1 = (0 : Int))) then
      bif decide (0 ≤ (IntKind.wrap .i64 ((List.length p0 : Int) - (1 : Int))) ∧ (IntKind.wrap .i64 ((List.length p0 : Int) - (1 : Int))) ≤ (List.length p0 : Int)) then
      Y (List.take (Int.toNat (IntKind.wrap .i64 ((List.length p0 : Int) - (1 : Int)))) p0)
      else False
    else
      kx0 p0)))
  else
    kx0 p0
def quoinref20_shorter_L0 (kx0 : List Int → Prop) : Nat → List Int → Prop
  | 0, _ => False
  | n + 1, p0 => wfD quoinref20_shorter_d0 (p0, ()) → quoinref20_shorter_T0 (quoinref20_shorter_L0 kx0 n) kx0 p0
theorem quoinref20_shorter_s0 (k : Ex → St → Prop) (Y : vals quoinref20_shorter_d0 → Prop) (p0 : List Int) :
    ex tb (getG quoinref20_shorter_G) [] (at' (bodyOf Try.f26) [0, 0, 0, 1, 1]) [0, 0, 0, 1, 1] (mkD 48 quoinref20_shorter_d0 (p0, ())) (lpK 48 quoinref20_shorter_d0 quoinref20_shorter_dx0 k Y) =
    quoinref20_shorter_T0 (fun p0 => Y (p0, ())) (fun p0 => wfD quoinref20_shorter_d0x0 (p0, ()) → k (.exit 0) (mkD 48 quoinref20_shorter_d0x0 (p0, ()))) p0 := by kernel_rfl
theorem quoinref20_shorter_e0 (k : Ex → St → Prop) : ∀ (n : Nat) (p0 : List Int), lpD 48 quoinref20_shorter_d0 quoinref20_shorter_dx0 (ex tb (getG quoinref20_shorter_G) [] (at' (bodyOf Try.f26) [0, 0, 0, 1, 1]) [0, 0, 0, 1, 1]) k n (p0, ()) = quoinref20_shorter_L0 (fun p0 => wfD quoinref20_shorter_d0x0 (p0, ()) → k (.exit 0) (mkD 48 quoinref20_shorter_d0x0 (p0, ()))) n p0
  | 0, _ => rfl
  | n + 1, p0 => congrArg (fun Z : Prop => wfD quoinref20_shorter_d0 (p0, ()) → Z) ((quoinref20_shorter_s0 k (lpD 48 quoinref20_shorter_d0 quoinref20_shorter_dx0 (ex tb (getG quoinref20_shorter_G) [] (at' (bodyOf Try.f26) [0, 0, 0, 1, 1]) [0, 0, 0, 1, 1]) k n) p0).trans (congrArg (fun Y => quoinref20_shorter_T0 Y (fun p0 => wfD quoinref20_shorter_d0x0 (p0, ()) → k (.exit 0) (mkD 48 quoinref20_shorter_d0x0 (p0, ()))) p0) (funext fun p0 => quoinref20_shorter_e0 k n p0)))
theorem quoinref20_shorter_v0 (k : Ex → St → Prop) (n : Nat) : ∀ v : vals quoinref20_shorter_d0, lpD 48 quoinref20_shorter_d0 quoinref20_shorter_dx0 (ex tb (getG quoinref20_shorter_G) [] (at' (bodyOf Try.f26) [0, 0, 0, 1, 1]) [0, 0, 0, 1, 1]) k n v = quoinref20_shorter_L0 (fun p0 => wfD quoinref20_shorter_d0x0 (p0, ()) → k (.exit 0) (mkD 48 quoinref20_shorter_d0x0 (p0, ()))) n v.1
  | (p0, ()) => quoinref20_shorter_e0 k n p0
def quoinref20_shorter_X0 : Pce := fun st k => ckD 48 quoinref20_shorter_d0 st fun v => wfD quoinref20_shorter_d0 v → ∃ n, quoinref20_shorter_L0 (fun p0 => wfD quoinref20_shorter_d0x0 (p0, ()) → k (.exit 0) (mkD 48 quoinref20_shorter_d0x0 (p0, ()))) n v.1
set_option maxRecDepth 20000 in
theorem quoinref20_shorter_x0 : SemOk Try.prog (at' (bodyOf Try.f26) [0, 0, 1, 1]) quoinref20_shorter_X0 :=
  (SemOk.loop (ex_sound tb_M tb_ok quoinref20_shorter_Gok (LabsOk.nil) (at' (bodyOf Try.f26) [0, 0, 0, 1, 1]) [0, 0, 0, 1, 1] rfl (storesC_at quoinref20_shorter_st [0, 0, 0, 1, 1])) 48 quoinref20_shorter_d0 quoinref20_shorter_dx0).mono fun st k h => ckD_mono h fun v hv hw => (hv hw).elim fun n hn => ⟨n, Eq.mpr (quoinref20_shorter_v0 k n v) hn⟩
def quoinref20_shorter_B0 : Labs := ([0, 0, 1, 1], quoinref20_shorter_X0) :: []
theorem quoinref20_shorter_b0 : LabsOk Try.prog (bodyOf Try.f26) quoinref20_shorter_B0 := LabsOk.cons quoinref20_shorter_x0 (LabsOk.nil)
def quoinref20_shorter_d1 : List LS := [.v 0 (.sl (.int .u8)), .v 3 (.int .i64)]
def quoinref20_shorter_d1x2 : List LS := [.v 0 (.sl (.int .u8))]
def quoinref20_shorter_dx1 : DX := ⟨none, none, [(2, quoinref20_shorter_d1x2)]⟩
def quoinref20_shorter_T1 (Y : List Int → Int → Prop) (kx2 : List Int → Prop) (p0 : List Int) (k3 : Int) : Prop :=
  quoinref20_kind_P p0 ∧ (
  ∀ (r3 : Int), r3 = quoinref20_kind_F p0 → (
  wfR (.one (.v (.int .i64) r3)) → (
  bif (decide (r3 = k3)) then
    bif decide (0 ≤ (IntKind.wrap .i64 ((List.length p0 : Int) - (1 : Int))) ∧ (IntKind.wrap .i64 ((List.length p0 : Int) - (1 : Int))) ≤ (List.length p0 : Int)) then
    Y (List.take (Int.toNat (IntKind.wrap .i64 ((List.length p0 : Int) - (1 : Int)))) p0) k3
    else False
  else
    kx2 p0)))
def quoinref20_shorter_L1 (kx2 : List Int → Prop) : Nat → List Int → Int → Prop
  | 0, _, _ => False
  | n + 1, p0, k3 => wfD quoinref20_shorter_d1 (p0, k3, ()) → quoinref20_shorter_T1 (quoinref20_shorter_L1 kx2 n) kx2 p0 k3
theorem quoinref20_shorter_s1 (k : Ex → St → Prop) (Y : vals quoinref20_shorter_d1 → Prop) (p0 : List Int) (k3 : Int) :
    ex tb (getG quoinref20_shorter_G) quoinref20_shorter_B0 (at' (bodyOf Try.f26) [0, 0, 0, 1, 1, 1, 1, 1]) [0, 0, 0, 1, 1, 1, 1, 1] (mkD 48 quoinref20_shorter_d1 (p0, k3, ())) (lpK 48 quoinref20_shorter_d1 quoinref20_shorter_dx1 k Y) =
    quoinref20_shorter_T1 (fun p0 k3 => Y (p0, k3, ())) (fun p0 => wfD quoinref20_shorter_d1x2 (p0, ()) → k (.exit 2) (mkD 48 quoinref20_shorter_d1x2 (p0, ()))) p0 k3 := by kernel_rfl
theorem quoinref20_shorter_e1 (k : Ex → St → Prop) : ∀ (n : Nat) (p0 : List Int) (k3 : Int), lpD 48 quoinref20_shorter_d1 quoinref20_shorter_dx1 (ex tb (getG quoinref20_shorter_G) quoinref20_shorter_B0 (at' (bodyOf Try.f26) [0, 0, 0, 1, 1, 1, 1, 1]) [0, 0, 0, 1, 1, 1, 1, 1]) k n (p0, k3, ()) = quoinref20_shorter_L1 (fun p0 => wfD quoinref20_shorter_d1x2 (p0, ()) → k (.exit 2) (mkD 48 quoinref20_shorter_d1x2 (p0, ()))) n p0 k3
  | 0, _, _ => rfl
  | n + 1, p0, k3 => congrArg (fun Z : Prop => wfD quoinref20_shorter_d1 (p0, k3, ()) → Z) ((quoinref20_shorter_s1 k (lpD 48 quoinref20_shorter_d1 quoinref20_shorter_dx1 (ex tb (getG quoinref20_shorter_G) quoinref20_shorter_B0 (at' (bodyOf Try.f26) [0, 0, 0, 1, 1, 1, 1, 1]) [0, 0, 0, 1, 1, 1, 1, 1]) k n) p0 k3).trans (congrArg (fun Y => quoinref20_shorter_T1 Y (fun p0 => wfD quoinref20_shorter_d1x2 (p0, ()) → k (.exit 2) (mkD 48 quoinref20_shorter_d1x2 (p0, ()))) p0 k3) (funext fun p0 => funext fun k3 => quoinref20_shorter_e1 k n p0 k3)))
theorem quoinref20_shorter_v1 (k : Ex → St → Prop) (n : Nat) : ∀ v : vals quoinref20_shorter_d1, lpD 48 quoinref20_shorter_d1 quoinref20_shorter_dx1 (ex tb (getG quoinref20_shorter_G) quoinref20_shorter_B0 (at' (bodyOf Try.f26) [0, 0, 0, 1, 1, 1, 1, 1]) [0, 0, 0, 1, 1, 1, 1, 1]) k n v = quoinref20_shorter_L1 (fun p0 => wfD quoinref20_shorter_d1x2 (p0, ()) → k (.exit 2) (mkD 48 quoinref20_shorter_d1x2 (p0, ()))) n v.1 v.2.1
  | (p0, k3, ()) => quoinref20_shorter_e1 k n p0 k3
def quoinref20_shorter_X1 : Pce := fun st k => ckD 48 quoinref20_shorter_d1 st fun v => wfD quoinref20_shorter_d1 v → ∃ n, quoinref20_shorter_L1 (fun p0 => wfD quoinref20_shorter_d1x2 (p0, ()) → k (.exit 2) (mkD 48 quoinref20_shorter_d1x2 (p0, ()))) n v.1 v.2.1
set_option maxRecDepth 20000 in
theorem quoinref20_shorter_x1 : SemOk Try.prog (at' (bodyOf Try.f26) [0, 0, 1, 1, 1, 1, 1]) quoinref20_shorter_X1 :=
  (SemOk.loop (ex_sound tb_M tb_ok quoinref20_shorter_Gok (quoinref20_shorter_b0) (at' (bodyOf Try.f26) [0, 0, 0, 1, 1, 1, 1, 1]) [0, 0, 0, 1, 1, 1, 1, 1] rfl (storesC_at quoinref20_shorter_st [0, 0, 0, 1, 1, 1, 1, 1])) 48 quoinref20_shorter_d1 quoinref20_shorter_dx1).mono fun st k h => ckD_mono h fun v hv hw => (hv hw).elim fun n hn => ⟨n, Eq.mpr (quoinref20_shorter_v1 k n v) hn⟩
def quoinref20_shorter_B1 : Labs := ([0, 0, 1, 1, 1, 1, 1], quoinref20_shorter_X1) :: quoinref20_shorter_B0
theorem quoinref20_shorter_b1 : LabsOk Try.prog (bodyOf Try.f26) quoinref20_shorter_B1 := LabsOk.cons quoinref20_shorter_x1 (quoinref20_shorter_b0)
def quoinref20_shorter_raw (p0 : List Int) (K : Res → List Cell → Prop) : Prop :=
  bif decide (0 ≤ (IntKind.wrap .i64 ((List.length p0 : Int) - (1 : Int))) ∧ (IntKind.wrap .i64 ((List.length p0 : Int) - (1 : Int))) < (List.length p0 : Int)) then
  bif (decide ((rd (0 : Int) p0 (IntKind.wrap .i64 ((List.length p0 : Int) - (1 : Int)))) = (10 : Int))) then
    bif decide (0 ≤ (IntKind.wrap .i64 ((List.length p0 : Int) - (1 : Int))) ∧ (IntKind.wrap .i64 ((List.length p0 : Int) - (1 : Int))) ≤ (List.length p0 : Int)) then
    K (.one (.v (.sl (.int .u8)) (List.take (Int.toNat (IntKind.wrap .i64 ((List.length p0 : Int) - (1 : Int)))) p0))) []
    else False
  else
    (wfD quoinref20_shorter_d0 (p0, ()) → ∃ n, quoinref20_shorter_L0 (fun (p0 : List Int) => wfD quoinref20_shorter_d0x0 (p0, ()) → (
        quoinref20_kind_P p0 ∧ (
        ∀ (r2 : Int), r2 = quoinref20_kind_F p0 → (
        wfR (.one (.v (.int .i64) r2)) → (
        bif (!decide (r2 = (1 : Int))) then
          bif (!decide (r2 = (2 : Int))) then
            K (.one (.v (.sl (.int .u8)) p0)) []
          else
            (wfD quoinref20_shorter_d1 (p0, r2, ()) → ∃ n, quoinref20_shorter_L1 (fun (p0 : List Int) => wfD quoinref20_shorter_d1x2 (p0, ()) → (
                K (.one (.v (.sl (.int .u8)) p0)) [])) n p0 r2)
        else
          (wfD quoinref20_shorter_d1 (p0, r2, ()) → ∃ n, quoinref20_shorter_L1 (fun (p0 : List Int) => wfD quoinref20_shorter_d1x2 (p0, ()) → (
              K (.one (.v (.sl (.int .u8)) p0)) [])) n p0 r2)))))) n p0)
  else False
def quoinref20_shorter_A : List AS := [.v (.sl (.int .u8))]
theorem quoinref20_shorter_walk (p0 : List Int) (K : Res → List Cell → Prop) : runF tb (getG quoinref20_shorter_G) quoinref20_shorter_B1 Try.f26 [true] (mkA quoinref20_shorter_A (p0, ())) K = quoinref20_shorter_raw p0 K := by kernel_rfl
--! pre 1
def quoinref20_shorter_P (t : List Int) : Prop := 0 < t.length
def shBlank (t : List Int) : Nat → Nat
  | 0 => 0
  | n + 1 => if kindAt t (n + 1) = 0 then shBlank t n else n + 1
def shKind (t : List Int) (k : Int) : Nat → Nat
  | 0 => 0
  | n + 1 => if kindAt t (n + 1) = k then shKind t k n else n + 1
theorem shBlank_le (t : List Int) : ∀ n, shBlank t n ≤ n
  | 0 => Nat.le_refl _
  | n + 1 => by have := shBlank_le t n; unfold shBlank; split <;> omega
def shLen (t : List Int) : Nat :=
  if rd (0 : Int) t ((t.length - 1 : Nat) : Int) = 10 then t.length - 1 else
    if kindAt t (shBlank t t.length) = 1 ∨ kindAt t (shBlank t t.length) = 2 then shKind t (kindAt t (shBlank t t.length)) (shBlank t t.length) else shBlank t t.length
def quoinref20_shorter_F (t : List Int) : List Int := t.take (shLen t)
theorem quoinref20_shorter_l0 (kx0 : List Int → Prop) (t : List Int) (ht : t.length ≤ 9223372036854775807) : ∀ (n m : Nat), n ≤ t.length → n < m → kx0 (t.take (shBlank t n)) → quoinref20_shorter_L0 kx0 m (t.take n)
  | _, 0, _, h, _ => absurd h (Nat.not_lt_zero _)
  | 0, m + 1, _, _, h => by
    intro _
    unfold quoinref20_shorter_T0
    exact brn (fun h => absurd h (by simp)) (fun _ => h)
  | n + 1, m + 1, hn, hm, h => by
    intro _
    unfold quoinref20_shorter_T0
    have hl : ((t.take (n + 1)).length : Int) = n + 1 := by rw [List.length_take]; omega
    rw [hl, wrap_i64 (by omega) (by omega), show (n : Int) + 1 - 1 = (n : Int) by omega, quoinref20_kind_take t ht _ hn]
    unfold shBlank at h
    refine brn (fun _ => ⟨quoinref20_kind_any _ (by rw [List.length_take]; omega), fun r hr _ => brn (fun hb => asrt (by omega) ?_) (fun hb => ?_)⟩) (fun h => absurd (by omega) h)
    · rw [if_pos (by rw [← hr]; exact hb)] at h
      rw [Int.toNat_natCast, List.take_take, show min n (n + 1) = n by omega]
      exact quoinref20_shorter_l0 kx0 t ht n m (by omega) (by omega) h
    · rw [if_neg (by rw [← hr]; exact hb)] at h; exact h
theorem quoinref20_shorter_l1 (kx : List Int → Prop) (t : List Int) (k : Int) (hk : k ≠ -1) (ht : t.length ≤ 9223372036854775807) : ∀ (n m : Nat), n ≤ t.length → n < m → kx (t.take (shKind t k n)) → quoinref20_shorter_L1 kx m (t.take n) k
  | _, 0, _, h, _ => absurd h (Nat.not_lt_zero _)
  | 0, m + 1, hn, _, h => by
    intro _
    unfold quoinref20_shorter_T1
    rw [quoinref20_kind_take t ht _ hn]
    exact ⟨quoinref20_kind_any _ (by simp), fun r hr _ => brn (fun hb => absurd (hb.symm.trans hr) hk) (fun _ => h)⟩
  | n + 1, m + 1, hn, hm, h => by
    intro _
    unfold quoinref20_shorter_T1
    have hl : ((t.take (n + 1)).length : Int) = n + 1 := by rw [List.length_take]; omega
    rw [hl, wrap_i64 (by omega) (by omega), show (n : Int) + 1 - 1 = (n : Int) by omega, quoinref20_kind_take t ht _ hn]
    unfold shKind at h
    refine ⟨quoinref20_kind_any _ (by rw [List.length_take]; omega), fun r hr _ => brn (fun hb => asrt (by omega) ?_) (fun hb => ?_)⟩
    · rw [if_pos (by rw [← hr]; exact hb)] at h
      rw [Int.toNat_natCast, List.take_take, show min n (n + 1) = n by omega]
      exact quoinref20_shorter_l1 kx t k hk ht n m (by omega) (by omega) h
    · rw [if_neg (by rw [← hr]; exact hb)] at h; exact h
theorem quoinref20_shorter_sp (t : List Int) (K : Res → List Cell → Prop) (hw : wfA quoinref20_shorter_A (t, ())) (hp : quoinref20_shorter_P t) (h : ∀ r : List Int, r = quoinref20_shorter_F t → K (.one (.v (.sl (.int .u8)) r)) []) : quoinref20_shorter_raw t K := by
  have ht : t.length ≤ 9223372036854775807 := hw.1.1
  unfold quoinref20_shorter_P at hp
  unfold quoinref20_shorter_raw
  rw [wrap_i64 (by omega) (by omega), show (t.length : Int) - 1 = ((t.length - 1 : Nat) : Int) by omega]
  have hle := shBlank_le t t.length
  refine asrt (by omega) (brn (fun hb => asrt (by omega) (h _ ?_)) (fun hb _ => ⟨t.length + 1, ?_⟩))
  · unfold quoinref20_shorter_F shLen; rw [if_pos hb, Int.toNat_natCast]
  · have key := fun kx hk => quoinref20_shorter_l0 kx t ht t.length (t.length + 1) (Nat.le_refl _) (by omega) hk
    rw [List.take_length] at key
    refine key _ fun _ => ⟨quoinref20_kind_any _ (by rw [List.length_take]; omega), fun r hr _ => ?_⟩
    rw [quoinref20_kind_take t ht _ hle] at hr
    have go : (r = 1 ∨ r = 2) → ∃ n, quoinref20_shorter_L1 (fun (p0 : List Int) => wfD quoinref20_shorter_d1x2 (p0, ()) → (K (.one (.v (.sl (.int .u8)) p0)) [])) n (t.take (shBlank t t.length)) r := fun hk =>
      ⟨shBlank t t.length + 1, quoinref20_shorter_l1 _ t r (by omega) ht _ _ hle (by omega) fun _ => h _ (by unfold quoinref20_shorter_F shLen; rw [if_neg hb, ← hr, if_pos hk])⟩
    refine brb (fun h1 => brb (fun h2 => h _ ?_) (fun h2 _ => go (.inr (by simpa using h2)))) (fun h1 _ => go (.inl (by simpa using h1)))
    have h1 : ¬ r = 1 := by simpa using h1
    have h2 : ¬ r = 2 := by simpa using h2
    unfold quoinref20_shorter_F shLen; rw [if_neg hb, ← hr, if_neg (by omega)]

def quoinref20_shorter_C (v : valsA quoinref20_shorter_A) (K : Res → List Cell → Prop) : Prop := quoinref20_shorter_P v.1 ∧ ∀ r : List Int, r = quoinref20_shorter_F v.1 → K (.one (.v (.sl (.int .u8)) r)) []
def quoinref20_shorter_S : App := specW quoinref20_shorter_A quoinref20_shorter_C
theorem quoinref20_shorter_wv (K : Res → List Cell → Prop) : ∀ v : valsA quoinref20_shorter_A, runF tb (getG quoinref20_shorter_G) quoinref20_shorter_B1 Try.f26 [true] (mkA quoinref20_shorter_A v) K = quoinref20_shorter_raw v.1 K
  | (p0, ()) => quoinref20_shorter_walk p0 K
set_option maxRecDepth 20000 in
theorem quoinref20_shorter_ok : AppOk Try.prog 26 quoinref20_shorter_S :=
  AppOk.specW (spec_ok (runF_ok tb_M tb_ok quoinref20_shorter_Gok (quoinref20_shorter_b1) (f := 26) (fn := Try.f26) (by kernel_rfl) (by kernel_rfl) quoinref20_shorter_st [true]) fun v K hw h => (quoinref20_shorter_wv K v).mpr (quoinref20_shorter_sp v.1 K hw h.1 h.2))

end Go.VE
namespace Go.VE
open Go Go.Proofs
/-! ### quoin/quoinref20.Press -/
def quoinref20_Press_G : List (Nat × App) := [(23, quoinref20_fits_S), (24, quoinref20_with_S), (25, quoinref20_line_S), (26, quoinref20_shorter_S), (27, quoinref20_text_S)]
theorem quoinref20_Press_Gok : GOk Try.prog (getG quoinref20_Press_G) := GOk.cons quoinref20_fits_ok (GOk.cons quoinref20_with_ok (GOk.cons quoinref20_line_ok (GOk.cons quoinref20_shorter_ok (GOk.cons quoinref20_text_ok (GOk.nil)))))
theorem quoinref20_Press_st : storesC (bodyOf Try.f14) = true := by kernel_rfl
def quoinref20_Press_d0 : List LS := [.v 0 (.sl (.int .u8)), .v 2 (.int .u8), .b 4 32 [], .b 6 48 [], .v 9 (.sl (.int .u8)), .c 32 (.st (.pair (.int .u8) (.pair (.int .i64) (.pair (.sl (.int .u8)) (.pair (.int .i64) (.int .i64)))))), .c 48 (.st (.pair (.int .u8) (.pair (.int .i64) (.pair (.sl (.int .u8)) (.pair (.int .i64) (.int .i64))))))]
def quoinref20_Press_d0r : List LS := [.b 6 48 [], .v 7 (.bool), .v 8 (.int .i64), .c 48 (.st (.pair (.int .u8) (.pair (.int .i64) (.pair (.sl (.int .u8)) (.pair (.int .i64) (.int .i64))))))]
def quoinref20_Press_dx0 : DX := ⟨none, some quoinref20_Press_d0r, []⟩
def quoinref20_Press_J0 (kr : Bool → Int → (Int × Int × List Int × Int × Int) → Prop) (base0 : List Int) (key2 : Int) (p9 : List Int) (y4b : (Int × Int × List Int × Int × Int)) (x6b : (Int × Int × List Int × Int × Int)) : Prop :=
  bif decide (List.length ([] : List Int) + List.length p9 ≤ lim) then
  bif decide (List.length (([] : List Int) ++ p9) + List.length ([key2] : List Int) ≤ lim) then
  quoinref20_with_P base0 y4b ((([] : List Int) ++ p9) ++ ([key2] : List Int)) ∧ (
  ∀ (r9 : (Int × Int × List Int × Int × Int)), r9 = quoinref20_with_F base0 y4b ((([] : List Int) ++ p9) ++ ([key2] : List Int)) → (
  wfR (.one (.v (.st (.pair (.int .u8) (.pair (.int .i64) (.pair (.sl (.int .u8)) (.pair (.int .i64) (.int .i64)))))) r9)) → (
  kr true (0 : Int) r9)))
  else False
  else False
theorem quoinref20_Press_s0 (k : Ex → St → Prop) (base0 : List Int) (key2 : Int) (p9 : List Int) (y4b : (Int × Int × List Int × Int × Int)) (x6b : (Int × Int × List Int × Int × Int)) :
    ex tb (getG quoinref20_Press_G) [] (at' (bodyOf Try.f14) [1, 1, 1, 1, 1]) [1, 1, 1, 1, 1] (mkD 94 quoinref20_Press_d0 (base0, key2, p9, y4b, x6b, ())) (wk 94 quoinref20_Press_dx0 k) =
    quoinref20_Press_J0 (fun x7 x8 x6b => wfD quoinref20_Press_d0r (x7, x8, x6b, ()) → k .ret (mkD 94 quoinref20_Press_d0r (x7, x8, x6b, ()))) base0 key2 p9 y4b x6b := by kernel_rfl
theorem quoinref20_Press_v0 (k : Ex → St → Prop) : ∀ v : vals quoinref20_Press_d0, ex tb (getG quoinref20_Press_G) [] (at' (bodyOf Try.f14) [1, 1, 1, 1, 1]) [1, 1, 1, 1, 1] (mkD 94 quoinref20_Press_d0 v) (wk 94 quoinref20_Press_dx0 k) = quoinref20_Press_J0 (fun x7 x8 x6b => wfD quoinref20_Press_d0r (x7, x8, x6b, ()) → k .ret (mkD 94 quoinref20_Press_d0r (x7, x8, x6b, ()))) v.1 v.2.1 v.2.2.1 v.2.2.2.1 v.2.2.2.2.1
  | (base0, key2, p9, y4b, x6b, ()) => quoinref20_Press_s0 k base0 key2 p9 y4b x6b
def quoinref20_Press_X0 : Pce := fun st k => ckD 94 quoinref20_Press_d0 st fun v => wfD quoinref20_Press_d0 v → quoinref20_Press_J0 (fun x7 x8 x6b => wfD quoinref20_Press_d0r (x7, x8, x6b, ()) → k .ret (mkD 94 quoinref20_Press_d0r (x7, x8, x6b, ()))) v.1 v.2.1 v.2.2.1 v.2.2.2.1 v.2.2.2.2.1
set_option maxRecDepth 20000 in
theorem quoinref20_Press_x0 : SemOk Try.prog (at' (bodyOf Try.f14) [1, 1, 1, 1, 1]) quoinref20_Press_X0 :=
  (SemOk.wk (N := 94) (ds := quoinref20_Press_d0) (dx := quoinref20_Press_dx0) (ex_sound tb_M tb_ok quoinref20_Press_Gok (LabsOk.nil) (at' (bodyOf Try.f14) [1, 1, 1, 1, 1]) [1, 1, 1, 1, 1] rfl (storesC_at quoinref20_Press_st [1, 1, 1, 1, 1]))).mono fun st k h => ckD_mono h fun v hv hw => Eq.mpr (quoinref20_Press_v0 k v) (hv hw)
def quoinref20_Press_B0 : Labs := ([1, 1, 1, 1, 1], quoinref20_Press_X0) :: []
theorem quoinref20_Press_b0 : LabsOk Try.prog (bodyOf Try.f14) quoinref20_Press_B0 := LabsOk.cons quoinref20_Press_x0 (LabsOk.nil)
def quoinref20_Press_raw (base0 : List Int) (y1 : (Int × Int × List Int × Int × Int)) (key2 : Int) (K : Res → List Cell → Prop) : Prop :=
  ∀ (r1 : Bool), r1 = quoinref20_fits_F base0 y1 → (
  wfR (.one (.v (.bool) r1)) → (
  bif (!r1) then
    K (.tup [.v (.st (.pair (.int .u8) (.pair (.int .i64) (.pair (.sl (.int .u8)) (.pair (.int .i64) (.int .i64)))))) ((0 : Int), (0 : Int), ([] : List Int), (0 : Int), (0 : Int)), .v (.bool) false, .v (.int .i64) (2 : Int)]) []
  else
  bif (decide (key2 = (27 : Int))) then
    quoinref20_with_P base0 y1 y1.2.2.1 ∧ (
    ∀ (r2 : (Int × Int × List Int × Int × Int)), r2 = quoinref20_with_F base0 y1 y1.2.2.1 → (
    wfR (.one (.v (.st (.pair (.int .u8) (.pair (.int .i64) (.pair (.sl (.int .u8)) (.pair (.int .i64) (.int .i64)))))) r2)) → (
    K (.tup [.v (.st (.pair (.int .u8) (.pair (.int .i64) (.pair (.sl (.int .u8)) (.pair (.int .i64) (.int .i64)))))) r2, .v (.bool) false, .v (.int .i64) (0 : Int)]) [])))
  else
  bif (decide (key2 = (8 : Int))) then
    bif (decide ((List.length y1.2.2.1 : Int) = (0 : Int))) then
      K (.tup [.v (.st (.pair (.int .u8) (.pair (.int .i64) (.pair (.sl (.int .u8)) (.pair (.int .i64) (.int .i64)))))) ((0 : Int), (0 : Int), ([] : List Int), (0 : Int), (0 : Int)), .v (.bool) false, .v (.int .i64) (200 : Int)]) []
    else
      bif decide (0 ≤ (IntKind.wrap .i64 ((List.length y1.2.2.1 : Int) - (1 : Int))) ∧ (IntKind.wrap .i64 ((List.length y1.2.2.1 : Int) - (1 : Int))) ≤ (List.length y1.2.2.1 : Int)) then
      quoinref20_with_P base0 y1 (List.take (Int.toNat (IntKind.wrap .i64 ((List.length y1.2.2.1 : Int) - (1 : Int)))) y1.2.2.1) ∧ (
      ∀ (r3 : (Int × Int × List Int × Int × Int)), r3 = quoinref20_with_F base0 y1 (List.take (Int.toNat (IntKind.wrap .i64 ((List.length y1.2.2.1 : Int) - (1 : Int)))) y1.2.2.1) → (
      wfR (.one (.v (.st (.pair (.int .u8) (.pair (.int .i64) (.pair (.sl (.int .u8)) (.pair (.int .i64) (.int .i64)))))) r3)) → (
      K (.tup [.v (.st (.pair (.int .u8) (.pair (.int .i64) (.pair (.sl (.int .u8)) (.pair (.int .i64) (.int .i64)))))) r3, .v (.bool) true, .v (.int .i64) (0 : Int)]) [])))
      else False
  else
  bif (decide (key2 = (127 : Int))) then
    bif (decide ((List.length y1.2.2.1 : Int) = (0 : Int))) then
      K (.tup [.v (.st (.pair (.int .u8) (.pair (.int .i64) (.pair (.sl (.int .u8)) (.pair (.int .i64) (.int .i64)))))) ((0 : Int), (0 : Int), ([] : List Int), (0 : Int), (0 : Int)), .v (.bool) false, .v (.int .i64) (200 : Int)]) []
    else
      bif decide (0 ≤ (IntKind.wrap .i64 ((List.length y1.2.2.1 : Int) - (1 : Int))) ∧ (IntKind.wrap .i64 ((List.length y1.2.2.1 : Int) - (1 : Int))) ≤ (List.length y1.2.2.1 : Int)) then
      quoinref20_with_P base0 y1 (List.take (Int.toNat (IntKind.wrap .i64 ((List.length y1.2.2.1 : Int) - (1 : Int)))) y1.2.2.1) ∧ (
      ∀ (r4 : (Int × Int × List Int × Int × Int)), r4 = quoinref20_with_F base0 y1 (List.take (Int.toNat (IntKind.wrap .i64 ((List.length y1.2.2.1 : Int) - (1 : Int)))) y1.2.2.1) → (
      wfR (.one (.v (.st (.pair (.int .u8) (.pair (.int .i64) (.pair (.sl (.int .u8)) (.pair (.int .i64) (.int .i64)))))) r4)) → (
      K (.tup [.v (.st (.pair (.int .u8) (.pair (.int .i64) (.pair (.sl (.int .u8)) (.pair (.int .i64) (.int .i64)))))) r4, .v (.bool) true, .v (.int .i64) (0 : Int)]) [])))
      else False
  else
  bif (decide (key2 = (21 : Int))) then
    bif (decide ((List.length y1.2.2.1 : Int) = (0 : Int))) then
      K (.tup [.v (.st (.pair (.int .u8) (.pair (.int .i64) (.pair (.sl (.int .u8)) (.pair (.int .i64) (.int .i64)))))) ((0 : Int), (0 : Int), ([] : List Int), (0 : Int), (0 : Int)), .v (.bool) false, .v (.int .i64) (200 : Int)]) []
    else
      bif decide (0 ≤ (IntKind.wrap .i64 ((List.length y1.2.2.1 : Int) - (1 : Int))) ∧ (IntKind.wrap .i64 ((List.length y1.2.2.1 : Int) - (1 : Int))) < (List.length y1.2.2.1 : Int)) then
      bif (decide ((rd (0 : Int) y1.2.2.1 (IntKind.wrap .i64 ((List.length y1.2.2.1 : Int) - (1 : Int)))) = (10 : Int))) then
        K (.tup [.v (.st (.pair (.int .u8) (.pair (.int .i64) (.pair (.sl (.int .u8)) (.pair (.int .i64) (.int .i64)))))) ((0 : Int), (0 : Int), ([] : List Int), (0 : Int), (0 : Int)), .v (.bool) false, .v (.int .i64) (200 : Int)]) []
      else
        ∀ (r5 : List Int), r5 = quoinref20_line_F y1.2.2.1 → (
        wfR (.one (.v (.sl (.int .u8)) r5)) → (
        quoinref20_with_P base0 y1 r5 ∧ (
        ∀ (r6 : (Int × Int × List Int × Int × Int)), r6 = quoinref20_with_F base0 y1 r5 → (
        wfR (.one (.v (.st (.pair (.int .u8) (.pair (.int .i64) (.pair (.sl (.int .u8)) (.pair (.int .i64) (.int .i64)))))) r6)) → (
        K (.tup [.v (.st (.pair (.int .u8) (.pair (.int .i64) (.pair (.sl (.int .u8)) (.pair (.int .i64) (.int .i64)))))) r6, .v (.bool) true, .v (.int .i64) (0 : Int)]) [])))))
      else False
  else
  bif (decide (key2 = (23 : Int))) then
    bif (decide ((List.length y1.2.2.1 : Int) = (0 : Int))) then
      K (.tup [.v (.st (.pair (.int .u8) (.pair (.int .i64) (.pair (.sl (.int .u8)) (.pair (.int .i64) (.int .i64)))))) ((0 : Int), (0 : Int), ([] : List Int), (0 : Int), (0 : Int)), .v (.bool) false, .v (.int .i64) (200 : Int)]) []
    else
      quoinref20_shorter_P y1.2.2.1 ∧ (
      ∀ (r7 : List Int), r7 = quoinref20_shorter_F y1.2.2.1 → (
      wfR (.one (.v (.sl (.int .u8)) r7)) → (
      quoinref20_with_P base0 y1 r7 ∧ (
      ∀ (r8 : (Int × Int × List Int × Int × Int)), r8 = quoinref20_with_F base0 y1 r7 → (
      wfR (.one (.v (.st (.pair (.int .u8) (.pair (.int .i64) (.pair (.sl (.int .u8)) (.pair (.int .i64) (.int .i64)))))) r8)) → (
      K (.tup [.v (.st (.pair (.int .u8) (.pair (.int .i64) (.pair (.sl (.int .u8)) (.pair (.int .i64) (.int .i64)))))) r8, .v (.bool) true, .v (.int .i64) (0 : Int)]) []))))))
  else
  bif (decide (key2 = (13 : Int))) then
    (wfD quoinref20_Press_d0 (base0, (10 : Int), y1.2.2.1, y1, ((0 : Int), (0 : Int), ([] : List Int), (0 : Int), (0 : Int)), ()) → quoinref20_Press_J0 (fun (x7 : Bool) (x8 : Int) (x6b : (Int × Int × List Int × Int × Int)) => wfD quoinref20_Press_d0r (x7, x8, x6b, ()) → (
        K (.tup [.v (.st (.pair (.int .u8) (.pair (.int .i64) (.pair (.sl (.int .u8)) (.pair (.int .i64) (.int .i64)))))) x6b, .v (.bool) x7, .v (.int .i64) x8]) [])) base0 (10 : Int) y1.2.2.1 y1 ((0 : Int), (0 : Int), ([] : List Int), (0 : Int), (0 : Int)))
  else
    ∀ (r10 : Bool), r10 = quoinref20_text_F key2 → (
    wfR (.one (.v (.bool) r10)) → (
    bif (!r10) then
      K (.tup [.v (.st (.pair (.int .u8) (.pair (.int .i64) (.pair (.sl (.int .u8)) (.pair (.int .i64) (.int .i64)))))) ((0 : Int), (0 : Int), ([] : List Int), (0 : Int), (0 : Int)), .v (.bool) false, .v (.int .i64) (200 : Int)]) []
    else
      (wfD quoinref20_Press_d0 (base0, key2, y1.2.2.1, y1, ((0 : Int), (0 : Int), ([] : List Int), (0 : Int), (0 : Int)), ()) → quoinref20_Press_J0 (fun (x7 : Bool) (x8 : Int) (x6b : (Int × Int × List Int × Int × Int)) => wfD quoinref20_Press_d0r (x7, x8, x6b, ()) → (
          K (.tup [.v (.st (.pair (.int .u8) (.pair (.int .i64) (.pair (.sl (.int .u8)) (.pair (.int .i64) (.int .i64)))))) x6b, .v (.bool) x7, .v (.int .i64) x8]) [])) base0 key2 y1.2.2.1 y1 ((0 : Int), (0 : Int), ([] : List Int), (0 : Int), (0 : Int)))))))
def quoinref20_Press_A : List AS := [.v (.sl (.int .u8)), .v (.st (.pair (.int .u8) (.pair (.int .i64) (.pair (.sl (.int .u8)) (.pair (.int .i64) (.int .i64)))))), .v (.int .u8)]
theorem quoinref20_Press_walk (base0 : List Int) (y1 : (Int × Int × List Int × Int × Int)) (key2 : Int) (K : Res → List Cell → Prop) : runF tb (getG quoinref20_Press_G) quoinref20_Press_B0 Try.f14 [true, true, true] (mkA quoinref20_Press_A (base0, y1, key2, ())) K = quoinref20_Press_raw base0 y1 key2 K := by kernel_rfl

def quoinref20_Press_J0_P (base0 : List Int) (key2 : Int) (p9 : List Int) (y4b : (Int × Int × List Int × Int × Int)) (x6b : (Int × Int × List Int × Int × Int)) : Prop :=
  (List.length ([] : List Int) + List.length p9 ≤ lim) ∧ (
  (List.length (([] : List Int) ++ p9) + List.length ([key2] : List Int) ≤ lim) ∧ (
  quoinref20_with_P base0 y4b ((([] : List Int) ++ p9) ++ ([key2] : List Int))))
def quoinref20_Press_J0_F (base0 : List Int) (key2 : Int) (p9 : List Int) (y4b : (Int × Int × List Int × Int × Int)) (x6b : (Int × Int × List Int × Int × Int)) : Bool × Int × (Int × Int × List Int × Int × Int) :=
  let r9 : (Int × Int × List Int × Int × Int) := quoinref20_with_F base0 y4b ((([] : List Int) ++ p9) ++ ([key2] : List Int))
  (true, (0 : Int), r9)
set_option maxRecDepth 20000 in
theorem quoinref20_Press_J0_sp (kr : Bool → Int → (Int × Int × List Int × Int × Int) → Prop) (base0 : List Int) (key2 : Int) (p9 : List Int) (y4b : (Int × Int × List Int × Int × Int)) (x6b : (Int × Int × List Int × Int × Int)) (hp : quoinref20_Press_J0_P base0 key2 p9 y4b x6b) (hr : ∀ q : Bool × Int × (Int × Int × List Int × Int × Int), q = quoinref20_Press_J0_F base0 key2 p9 y4b x6b → kr q.1 q.2.1 q.2.2) : quoinref20_Press_J0 kr base0 key2 p9 y4b x6b := by
  unfold quoinref20_Press_J0
  unfold quoinref20_Press_J0_P at hp
  refine asrt hp.1 ?_
  replace hp := hp.2
  refine asrt hp.1 ?_
  replace hp := hp.2
  refine ⟨hp, ?_⟩
  intro r9 hr9
  subst hr9
  intro _
  exact hr _ rfl
def quoinref20_Press_P (base0 : List Int) (y1 : (Int × Int × List Int × Int × Int)) (key2 : Int) : Prop :=
  let r1 : Bool := quoinref20_fits_F base0 y1
  bif (!r1) then
    True
  else
    bif (decide (key2 = (27 : Int))) then
      quoinref20_with_P base0 y1 y1.2.2.1
    else
      bif (decide (key2 = (8 : Int))) then
        bif (decide ((List.length y1.2.2.1 : Int) = (0 : Int))) then
          True
        else
          (0 ≤ (IntKind.wrap .i64 ((List.length y1.2.2.1 : Int) - (1 : Int))) ∧ (IntKind.wrap .i64 ((List.length y1.2.2.1 : Int) - (1 : Int))) ≤ (List.length y1.2.2.1 : Int)) ∧ (
          quoinref20_with_P base0 y1 (List.take (Int.toNat (IntKind.wrap .i64 ((List.length y1.2.2.1 : Int) - (1 : Int)))) y1.2.2.1))
      else
        bif (decide (key2 = (127 : Int))) then
          bif (decide ((List.length y1.2.2.1 : Int) = (0 : Int))) then
            True
          else
            (0 ≤ (IntKind.wrap .i64 ((List.length y1.2.2.1 : Int) - (1 : Int))) ∧ (IntKind.wrap .i64 ((List.length y1.2.2.1 : Int) - (1 : Int))) ≤ (List.length y1.2.2.1 : Int)) ∧ (
            quoinref20_with_P base0 y1 (List.take (Int.toNat (IntKind.wrap .i64 ((List.length y1.2.2.1 : Int) - (1 : Int)))) y1.2.2.1))
        else
          bif (decide (key2 = (21 : Int))) then
            bif (decide ((List.length y1.2.2.1 : Int) = (0 : Int))) then
              True
            else
              (0 ≤ (IntKind.wrap .i64 ((List.length y1.2.2.1 : Int) - (1 : Int))) ∧ (IntKind.wrap .i64 ((List.length y1.2.2.1 : Int) - (1 : Int))) < (List.length y1.2.2.1 : Int)) ∧ (
              bif (decide ((rd (0 : Int) y1.2.2.1 (IntKind.wrap .i64 ((List.length y1.2.2.1 : Int) - (1 : Int)))) = (10 : Int))) then
                True
              else
                let r5 : List Int := quoinref20_line_F y1.2.2.1
                quoinref20_with_P base0 y1 r5)
          else
            bif (decide (key2 = (23 : Int))) then
              bif (decide ((List.length y1.2.2.1 : Int) = (0 : Int))) then
                True
              else
                quoinref20_shorter_P y1.2.2.1 ∧ (
                let r7 : List Int := quoinref20_shorter_F y1.2.2.1
                quoinref20_with_P base0 y1 r7)
            else
              bif (decide (key2 = (13 : Int))) then
                quoinref20_Press_J0_P base0 (10 : Int) y1.2.2.1 y1 ((0 : Int), (0 : Int), ([] : List Int), (0 : Int), (0 : Int))
              else
                let r10 : Bool := quoinref20_text_F key2
                bif (!r10) then
                  True
                else
                  quoinref20_Press_J0_P base0 key2 y1.2.2.1 y1 ((0 : Int), (0 : Int), ([] : List Int), (0 : Int), (0 : Int))
def quoinref20_Press_F (base0 : List Int) (y1 : (Int × Int × List Int × Int × Int)) (key2 : Int) : (Int × Int × List Int × Int × Int) × Bool × Int :=
  let r1 : Bool := quoinref20_fits_F base0 y1
  bif (!r1) then
    (((0 : Int), (0 : Int), ([] : List Int), (0 : Int), (0 : Int)), false, (2 : Int))
  else
    bif (decide (key2 = (27 : Int))) then
      let r2 : (Int × Int × List Int × Int × Int) := quoinref20_with_F base0 y1 y1.2.2.1
      (r2, false, (0 : Int))
    else
      bif (decide (key2 = (8 : Int))) then
        bif (decide ((List.length y1.2.2.1 : Int) = (0 : Int))) then
          (((0 : Int), (0 : Int), ([] : List Int), (0 : Int), (0 : Int)), false, (200 : Int))
        else
          let r3 : (Int × Int × List Int × Int × Int) := quoinref20_with_F base0 y1 (List.take (Int.toNat (IntKind.wrap .i64 ((List.length y1.2.2.1 : Int) - (1 : Int)))) y1.2.2.1)
          (r3, true, (0 : Int))
      else
        bif (decide (key2 = (127 : Int))) then
          bif (decide ((List.length y1.2.2.1 : Int) = (0 : Int))) then
            (((0 : Int), (0 : Int), ([] : List Int), (0 : Int), (0 : Int)), false, (200 : Int))
          else
            let r4 : (Int × Int × List Int × Int × Int) := quoinref20_with_F base0 y1 (List.take (Int.toNat (IntKind.wrap .i64 ((List.length y1.2.2.1 : Int) - (1 : Int)))) y1.2.2.1)
            (r4, true, (0 : Int))
        else
          bif (decide (key2 = (21 : Int))) then
            bif (decide ((List.length y1.2.2.1 : Int) = (0 : Int))) then
              (((0 : Int), (0 : Int), ([] : List Int), (0 : Int), (0 : Int)), false, (200 : Int))
            else
              bif (decide ((rd (0 : Int) y1.2.2.1 (IntKind.wrap .i64 ((List.length y1.2.2.1 : Int) - (1 : Int)))) = (10 : Int))) then
                (((0 : Int), (0 : Int), ([] : List Int), (0 : Int), (0 : Int)), false, (200 : Int))
              else
                let r5 : List Int := quoinref20_line_F y1.2.2.1
                let r6 : (Int × Int × List Int × Int × Int) := quoinref20_with_F base0 y1 r5
                (r6, true, (0 : Int))
          else
            bif (decide (key2 = (23 : Int))) then
              bif (decide ((List.length y1.2.2.1 : Int) = (0 : Int))) then
                (((0 : Int), (0 : Int), ([] : List Int), (0 : Int), (0 : Int)), false, (200 : Int))
              else
                let r7 : List Int := quoinref20_shorter_F y1.2.2.1
                let r8 : (Int × Int × List Int × Int × Int) := quoinref20_with_F base0 y1 r7
                (r8, true, (0 : Int))
            else
              bif (decide (key2 = (13 : Int))) then
                let q0r : Bool × Int × (Int × Int × List Int × Int × Int) := quoinref20_Press_J0_F base0 (10 : Int) y1.2.2.1 y1 ((0 : Int), (0 : Int), ([] : List Int), (0 : Int), (0 : Int))
                let x7 : Bool := q0r.1
                let x8 : Int := q0r.2.1
                let x6b : (Int × Int × List Int × Int × Int) := q0r.2.2
                (x6b, x7, x8)
              else
                let r10 : Bool := quoinref20_text_F key2
                bif (!r10) then
                  (((0 : Int), (0 : Int), ([] : List Int), (0 : Int), (0 : Int)), false, (200 : Int))
                else
                  let q0r : Bool × Int × (Int × Int × List Int × Int × Int) := quoinref20_Press_J0_F base0 key2 y1.2.2.1 y1 ((0 : Int), (0 : Int), ([] : List Int), (0 : Int), (0 : Int))
                  let x7 : Bool := q0r.1
                  let x8 : Int := q0r.2.1
                  let x6b : (Int × Int × List Int × Int × Int) := q0r.2.2
                  (x6b, x7, x8)
set_option maxRecDepth 20000 in
theorem quoinref20_Press_sp (base0 : List Int) (y1 : (Int × Int × List Int × Int × Int)) (key2 : Int) (K : Res → List Cell → Prop) (_ : wfA quoinref20_Press_A (base0, y1, key2, ())) (hp : quoinref20_Press_P base0 y1 key2) (h : ∀ r : (Int × Int × List Int × Int × Int) × Bool × Int, r = quoinref20_Press_F base0 y1 key2 → K (.tup [.v (.st (.pair (.int .u8) (.pair (.int .i64) (.pair (.sl (.int .u8)) (.pair (.int .i64) (.int .i64)))))) r.1, .v (.bool) r.2.1, .v (.int .i64) r.2.2]) []) : quoinref20_Press_raw base0 y1 key2 K := by
  unfold quoinref20_Press_raw
  unfold quoinref20_Press_P at hp
  intro r1 hr1
  subst hr1
  intro _
  refine brb (fun c1 => ?_) (fun c1 => ?_)
  ·
    clear hp
    have e := h _ ((ctrue c1) : quoinref20_Press_F base0 y1 key2 = _).symm
    exact e
  ·
    replace hp := cF c1 hp
    refine brb (fun c2 => ?_) (fun c2 => ?_)
    ·
      replace hp := cT c2 hp
      refine ⟨hp, ?_⟩
      intro r2 hr2
      subst hr2
      intro _
      have e := h _ ((Eq.trans (cfalse c1) (ctrue c2)) : quoinref20_Press_F base0 y1 key2 = _).symm
      exact e
    ·
      replace hp := cF c2 hp
      refine brb (fun c3 => ?_) (fun c3 => ?_)
      ·
        replace hp := cT c3 hp
        refine brb (fun c4 => ?_) (fun c4 => ?_)
        ·
          clear hp
          have e := h _ ((Eq.trans (cfalse c1) (Eq.trans (cfalse c2) (Eq.trans (ctrue c3) (ctrue c4)))) : quoinref20_Press_F base0 y1 key2 = _).symm
          exact e
        ·
          replace hp := cF c4 hp
          refine asrt hp.1 ?_
          replace hp := hp.2
          refine ⟨hp, ?_⟩
          intro r3 hr3
          subst hr3
          intro _
          have e := h _ ((Eq.trans (cfalse c1) (Eq.trans (cfalse c2) (Eq.trans (ctrue c3) (cfalse c4)))) : quoinref20_Press_F base0 y1 key2 = _).symm
          exact e
      ·
        replace hp := cF c3 hp
        refine brb (fun c5 => ?_) (fun c5 => ?_)
        ·
          replace hp := cT c5 hp
          refine brb (fun c6 => ?_) (fun c6 => ?_)
          ·
            clear hp
            have e := h _ ((Eq.trans (cfalse c1) (Eq.trans (cfalse c2) (Eq.trans (cfalse c3) (Eq.trans (ctrue c5) (ctrue c6))))) : quoinref20_Press_F base0 y1 key2 = _).symm
            exact e
          ·
            replace hp := cF c6 hp
            refine asrt hp.1 ?_
            replace hp := hp.2
            refine ⟨hp, ?_⟩
            intro r4 hr4
            subst hr4
            intro _
            have e := h _ ((Eq.trans (cfalse c1) (Eq.trans (cfalse c2) (Eq.trans (cfalse c3) (Eq.trans (ctrue c5) (cfalse c6))))) : quoinref20_Press_F base0 y1 key2 = _).symm
            exact e
        ·
          replace hp := cF c5 hp
          refine brb (fun c7 => ?_) (fun c7 => ?_)
          ·
            replace hp := cT c7 hp
            refine brb (fun c8 => ?_) (fun c8 => ?_)
            ·
              clear hp
              have e := h _ ((Eq.trans (cfalse c1) (Eq.trans (cfalse c2) (Eq.trans (cfalse c3) (Eq.trans (cfalse c5) (Eq.trans (ctrue c7) (ctrue c8)))))) : quoinref20_Press_F base0 y1 key2 = _).symm
              exact e
            ·
              replace hp := cF c8 hp
              refine asrt hp.1 ?_
              replace hp := hp.2
              refine brb (fun c9 => ?_) (fun c9 => ?_)
              ·
                clear hp
                have e := h _ ((Eq.trans (cfalse c1) (Eq.trans (cfalse c2) (Eq.trans (cfalse c3) (Eq.trans (cfalse c5) (Eq.trans (ctrue c7) (Eq.trans (cfalse c8) (ctrue c9))))))) : quoinref20_Press_F base0 y1 key2 = _).symm
                exact e
              ·
                replace hp := cF c9 hp
                intro r5 hr5
                subst hr5
                intro _
                refine ⟨hp, ?_⟩
                intro r6 hr6
                subst hr6
                intro _
                have e := h _ ((Eq.trans (cfalse c1) (Eq.trans (cfalse c2) (Eq.trans (cfalse c3) (Eq.trans (cfalse c5) (Eq.trans (ctrue c7) (Eq.trans (cfalse c8) (cfalse c9))))))) : quoinref20_Press_F base0 y1 key2 = _).symm
                exact e
          ·
            replace hp := cF c7 hp
            refine brb (fun c10 => ?_) (fun c10 => ?_)
            ·
              replace hp := cT c10 hp
              refine brb (fun c11 => ?_) (fun c11 => ?_)
              ·
                clear hp
                have e := h _ ((Eq.trans (cfalse c1) (Eq.trans (cfalse c2) (Eq.trans (cfalse c3) (Eq.trans (cfalse c5) (Eq.trans (cfalse c7) (Eq.trans (ctrue c10) (ctrue c11))))))) : quoinref20_Press_F base0 y1 key2 = _).symm
                exact e
              ·
                replace hp := cF c11 hp
                refine ⟨hp.1, ?_⟩
                replace hp := hp.2
                intro r7 hr7
                subst hr7
                intro _
                refine ⟨hp, ?_⟩
                intro r8 hr8
                subst hr8
                intro _
                have e := h _ ((Eq.trans (cfalse c1) (Eq.trans (cfalse c2) (Eq.trans (cfalse c3) (Eq.trans (cfalse c5) (Eq.trans (cfalse c7) (Eq.trans (ctrue c10) (cfalse c11))))))) : quoinref20_Press_F base0 y1 key2 = _).symm
                exact e
            ·
              replace hp := cF c10 hp
              refine brb (fun c12 => ?_) (fun c12 => ?_)
              ·
                replace hp := cT c12 hp
                refine fun _ => quoinref20_Press_J0_sp _ _ _ _ _ _ hp (fun q hq => ?_)
                subst hq
                intro _
                clear hp
                have e := h _ ((Eq.trans (cfalse c1) (Eq.trans (cfalse c2) (Eq.trans (cfalse c3) (Eq.trans (cfalse c5) (Eq.trans (cfalse c7) (Eq.trans (cfalse c10) (ctrue c12))))))) : quoinref20_Press_F base0 y1 key2 = _).symm
                exact e
              ·
                replace hp := cF c12 hp
                intro r10 hr10
                subst hr10
                intro _
                refine brb (fun c13 => ?_) (fun c13 => ?_)
                ·
                  clear hp
                  have e := h _ ((Eq.trans (cfalse c1) (Eq.trans (cfalse c2) (Eq.trans (cfalse c3) (Eq.trans (cfalse c5) (Eq.trans (cfalse c7) (Eq.trans (cfalse c10) (Eq.trans (cfalse c12) (ctrue c13)))))))) : quoinref20_Press_F base0 y1 key2 = _).symm
                  exact e
                ·
                  replace hp := cF c13 hp
                  refine fun _ => quoinref20_Press_J0_sp _ _ _ _ _ _ hp (fun q hq => ?_)
                  subst hq
                  intro _
                  clear hp
                  have e := h _ ((Eq.trans (cfalse c1) (Eq.trans (cfalse c2) (Eq.trans (cfalse c3) (Eq.trans (cfalse c5) (Eq.trans (cfalse c7) (Eq.trans (cfalse c10) (Eq.trans (cfalse c12) (cfalse c13)))))))) : quoinref20_Press_F base0 y1 key2 = _).symm
                  exact e
def quoinref20_Press_C (v : valsA quoinref20_Press_A) (K : Res → List Cell → Prop) : Prop := quoinref20_Press_P v.1 v.2.1 v.2.2.1 ∧ ∀ r : (Int × Int × List Int × Int × Int) × Bool × Int, r = quoinref20_Press_F v.1 v.2.1 v.2.2.1 → K (.tup [.v (.st (.pair (.int .u8) (.pair (.int .i64) (.pair (.sl (.int .u8)) (.pair (.int .i64) (.int .i64)))))) r.1, .v (.bool) r.2.1, .v (.int .i64) r.2.2]) []
def quoinref20_Press_S : App := specW quoinref20_Press_A quoinref20_Press_C
theorem quoinref20_Press_wv (K : Res → List Cell → Prop) : ∀ v : valsA quoinref20_Press_A, runF tb (getG quoinref20_Press_G) quoinref20_Press_B0 Try.f14 [true, true, true] (mkA quoinref20_Press_A v) K = quoinref20_Press_raw v.1 v.2.1 v.2.2.1 K
  | (base0, y1, key2, ()) => quoinref20_Press_walk base0 y1 key2 K
set_option maxRecDepth 20000 in
theorem quoinref20_Press_ok : AppOk Try.prog 14 quoinref20_Press_S :=
  AppOk.specW (spec_ok (runF_ok tb_M tb_ok quoinref20_Press_Gok (quoinref20_Press_b0) (f := 14) (fn := Try.f14) (by kernel_rfl) (by kernel_rfl) quoinref20_Press_st [true, true, true]) fun v K hw h => (quoinref20_Press_wv K v).mpr (quoinref20_Press_sp v.1 v.2.1 v.2.2.1 K hw h.1 h.2))

end Go.VE
namespace Go.VE
open Go Go.Proofs
/-! ### quoin/typing.isText -/
def typing_isText_G : List (Nat × App) := []
theorem typing_isText_Gok : GOk Try.prog (getG typing_isText_G) := GOk.nil
def typing_isText_raw (b0 : Int) (K : Res → List Cell → Prop) : Prop :=
  bif (decide (b0 = (9 : Int))) then
    K (.one (.v (.bool) true)) []
  else
  bif (decide (b0 = (10 : Int))) then
    K (.one (.v (.bool) true)) []
  else
  bif (decide ((32 : Int) ≤ b0)) then
    bif (decide (b0 ≤ (126 : Int))) then
      K (.one (.v (.bool) true)) []
    else
      K (.one (.v (.bool) (decide ((128 : Int) ≤ b0)))) []
  else
    K (.one (.v (.bool) (decide ((128 : Int) ≤ b0)))) []
def typing_isText_A : List AS := [.v (.int .u8)]
theorem typing_isText_walk (b0 : Int) (K : Res → List Cell → Prop) : runF tb (getG typing_isText_G) [] Try.f30 [true] (mkA typing_isText_A (b0, ())) K = typing_isText_raw b0 K := by kernel_rfl
--! pre 0
def typing_isText_F (b : Int) : Bool := decide (b = 9 ∨ b = 10 ∨ 32 ≤ b ∧ b ≤ 126 ∨ 128 ≤ b)
theorem typing_isText_sp (b : Int) (K : Res → List Cell → Prop) (_ : wfA typing_isText_A (b, ())) (h : ∀ r, r = typing_isText_F b → K (.one (.v .bool r)) []) : typing_isText_raw b K := by
  unfold typing_isText_raw
  refine brn (fun h1 => h _ ?_) (fun h1 => brn (fun h2 => h _ ?_) (fun h2 => brn (fun h3 => brn (fun h4 => h _ ?_) (fun h4 => h _ ?_)) (fun h3 => h _ ?_)))
  all_goals (unfold typing_isText_F; first | (rw [decide_eq_decide]; omega) | (symm; rw [decide_eq_true_eq]; omega))

def typing_isText_C (v : valsA typing_isText_A) (K : Res → List Cell → Prop) : Prop := ∀ r : Bool, r = typing_isText_F v.1 → K (.one (.v (.bool) r)) []
def typing_isText_S : App := specW typing_isText_A typing_isText_C
theorem typing_isText_wv (K : Res → List Cell → Prop) : ∀ v : valsA typing_isText_A, runF tb (getG typing_isText_G) [] Try.f30 [true] (mkA typing_isText_A v) K = typing_isText_raw v.1 K
  | (b0, ()) => typing_isText_walk b0 K
set_option maxRecDepth 20000 in
theorem typing_isText_ok : AppOk Try.prog 30 typing_isText_S :=
  AppOk.specW (spec_ok (runF_ok tb_M tb_ok typing_isText_Gok (LabsOk.nil) (f := 30) (fn := Try.f30) (by kernel_rfl) (by kernel_rfl) (by kernel_rfl) [true]) fun v K hw h => (typing_isText_wv K v).mpr (typing_isText_sp v.1 K hw h))

end Go.VE
namespace Go.VE
open Go Go.Proofs
/-! ### quoin/lines.has -/
def lines_has_G : List (Nat × App) := []
theorem lines_has_Gok : GOk Try.prog (getG lines_has_G) := GOk.nil
def lines_has_raw (t0 : List Int) (at1 : Int) (K : Res → List Cell → Prop) : Prop :=
  bif (decide ((0 : Int) ≤ at1)) then
    K (.one (.v (.bool) (decide (at1 ≤ (List.length t0 : Int))))) []
  else
    K (.one (.v (.bool) false)) []
def lines_has_A : List AS := [.v (.sl (.int .u8)), .v (.int .i64)]
theorem lines_has_walk (t0 : List Int) (at1 : Int) (K : Res → List Cell → Prop) : runF tb (getG lines_has_G) [] Try.f51 [true] (mkA lines_has_A (t0, at1, ())) K = lines_has_raw t0 at1 K := by kernel_rfl

def lines_has_F (t0 : List Int) (at1 : Int) : Bool :=
  bif (decide ((0 : Int) ≤ at1)) then
    (decide (at1 ≤ (List.length t0 : Int)))
  else
    false
set_option maxRecDepth 20000 in
theorem lines_has_sp (t0 : List Int) (at1 : Int) (K : Res → List Cell → Prop) (_ : wfA lines_has_A (t0, at1, ())) (h : ∀ r : Bool, r = lines_has_F t0 at1 → K (.one (.v (.bool) r)) []) : lines_has_raw t0 at1 K := by
  unfold lines_has_raw
  refine brb (fun c1 => ?_) (fun c1 => ?_)
  ·
    exact h _ ((ctrue c1) : lines_has_F t0 at1 = _).symm
  ·
    exact h _ ((cfalse c1) : lines_has_F t0 at1 = _).symm
def lines_has_C (v : valsA lines_has_A) (K : Res → List Cell → Prop) : Prop := ∀ r : Bool, r = lines_has_F v.1 v.2.1 → K (.one (.v (.bool) r)) []
def lines_has_S : App := specW lines_has_A lines_has_C
theorem lines_has_wv (K : Res → List Cell → Prop) : ∀ v : valsA lines_has_A, runF tb (getG lines_has_G) [] Try.f51 [true] (mkA lines_has_A v) K = lines_has_raw v.1 v.2.1 K
  | (t0, at1, ()) => lines_has_walk t0 at1 K
set_option maxRecDepth 20000 in
theorem lines_has_ok : AppOk Try.prog 51 lines_has_S :=
  AppOk.specW (spec_ok (runF_ok tb_M tb_ok lines_has_Gok (LabsOk.nil) (f := 51) (fn := Try.f51) (by kernel_rfl) (by kernel_rfl) (by kernel_rfl) [true]) fun v K hw h => (lines_has_wv K v).mpr (lines_has_sp v.1 v.2.1 K hw h))

end Go.VE
namespace Go.VE
open Go Go.Proofs
def unicode_utf8_RuneCount_A : List AS := [.v (.sl (.int .u8))]
def unicode_utf8_RuneCount_S : App := specW unicode_utf8_RuneCount_A fun _ _ => False
theorem unicode_utf8_RuneCount_ok : AppOk Try.prog 48 unicode_utf8_RuneCount_S := AppOk.never
end Go.VE
namespace Go.VE
open Go Go.Proofs
--! external 1
--! args B U
--! res I
--! pre 0
--! import VEr
def internal_bytealg_Count_F (xs : List Int) (c : Int) : Int := (List.count c xs : Int)
def internal_bytealg_Count_S : App := specW sliceByte_A fun v K => ∀ r : Int, r = internal_bytealg_Count_F v.1 v.2.1 → K (.one (.v (.int .i64) r)) []
theorem internal_bytealg_Count_ok : AppOk Try.prog 49 internal_bytealg_Count_S :=
  ext_count (fn := Try.f49) (by kernel_rfl) (by kernel_rfl) (by kernel_rfl) (by kernel_rfl) (by kernel_rfl)

end Go.VE
namespace Go.VE
open Go Go.Proofs
def bytes_Index_A : List AS := [.v (.sl (.int .u8)), .v (.sl (.int .u8))]
def bytes_Index_S : App := specW bytes_Index_A fun _ _ => False
theorem bytes_Index_ok : AppOk Try.prog 50 bytes_Index_S := AppOk.never
end Go.VE
namespace Go.VE
open Go Go.Proofs
/-! ### bytes.Count -/
def bytes_Count_G : List (Nat × App) := [(48, unicode_utf8_RuneCount_S), (49, internal_bytealg_Count_S), (50, bytes_Index_S)]
theorem bytes_Count_Gok : GOk Try.prog (getG bytes_Count_G) := GOk.cons unicode_utf8_RuneCount_ok (GOk.cons internal_bytealg_Count_ok (GOk.cons bytes_Index_ok (GOk.nil)))
theorem bytes_Count_st : storesC (bodyOf Try.f36) = true := by kernel_rfl
def bytes_Count_d0 : List LS := [.v 0 (.sl (.int .u8)), .v 1 (.sl (.int .u8)), .v 5 (.int .i64)]
def bytes_Count_dx0 : DX := ⟨none, none, []⟩
def bytes_Count_T0 (Y : List Int → List Int → Int → Prop)  (s0 : List Int) (sep1 : List Int) (n5 : Int) : Prop :=
  False
def bytes_Count_L0  : Nat → List Int → List Int → Int → Prop
  | 0, _, _, _ => False
  | n + 1, s0, sep1, n5 => wfD bytes_Count_d0 (s0, sep1, n5, ()) → bytes_Count_T0 (bytes_Count_L0  n)  s0 sep1 n5
theorem bytes_Count_s0 (k : Ex → St → Prop) (Y : vals bytes_Count_d0 → Prop) (s0 : List Int) (sep1 : List Int) (n5 : Int) :
    ex tb (getG bytes_Count_G) [] (at' (bodyOf Try.f36) [0, 0, 1, 1, 1, 1]) [0, 0, 1, 1, 1, 1] (mkD 35 bytes_Count_d0 (s0, sep1, n5, ())) (lpK 35 bytes_Count_d0 bytes_Count_dx0 k Y) =
    bytes_Count_T0 (fun s0 sep1 n5 => Y (s0, sep1, n5, ()))  s0 sep1 n5 := by kernel_rfl
theorem bytes_Count_e0 (k : Ex → St → Prop) : ∀ (n : Nat) (s0 : List Int) (sep1 : List Int) (n5 : Int), lpD 35 bytes_Count_d0 bytes_Count_dx0 (ex tb (getG bytes_Count_G) [] (at' (bodyOf Try.f36) [0, 0, 1, 1, 1, 1]) [0, 0, 1, 1, 1, 1]) k n (s0, sep1, n5, ()) = bytes_Count_L0  n s0 sep1 n5
  | 0, _, _, _ => rfl
  | n + 1, s0, sep1, n5 => congrArg (fun Z : Prop => wfD bytes_Count_d0 (s0, sep1, n5, ()) → Z) ((bytes_Count_s0 k (lpD 35 bytes_Count_d0 bytes_Count_dx0 (ex tb (getG bytes_Count_G) [] (at' (bodyOf Try.f36) [0, 0, 1, 1, 1, 1]) [0, 0, 1, 1, 1, 1]) k n) s0 sep1 n5).trans (congrArg (fun Y => bytes_Count_T0 Y  s0 sep1 n5) (funext fun s0 => funext fun sep1 => funext fun n5 => bytes_Count_e0 k n s0 sep1 n5)))
theorem bytes_Count_v0 (k : Ex → St → Prop) (n : Nat) : ∀ v : vals bytes_Count_d0, lpD 35 bytes_Count_d0 bytes_Count_dx0 (ex tb (getG bytes_Count_G) [] (at' (bodyOf Try.f36) [0, 0, 1, 1, 1, 1]) [0, 0, 1, 1, 1, 1]) k n v = bytes_Count_L0  n v.1 v.2.1 v.2.2.1
  | (s0, sep1, n5, ()) => bytes_Count_e0 k n s0 sep1 n5
def bytes_Count_X0 : Pce := fun st k => ckD 35 bytes_Count_d0 st fun v => wfD bytes_Count_d0 v → ∃ n, bytes_Count_L0  n v.1 v.2.1 v.2.2.1
set_option maxRecDepth 20000 in
theorem bytes_Count_x0 : SemOk Try.prog (at' (bodyOf Try.f36) [0, 1, 1, 1, 1]) bytes_Count_X0 :=
  (SemOk.loop (ex_sound tb_M tb_ok bytes_Count_Gok (LabsOk.nil) (at' (bodyOf Try.f36) [0, 0, 1, 1, 1, 1]) [0, 0, 1, 1, 1, 1] rfl (storesC_at bytes_Count_st [0, 0, 1, 1, 1, 1])) 35 bytes_Count_d0 bytes_Count_dx0).mono fun st k h => ckD_mono h fun v hv hw => (hv hw).elim fun n hn => ⟨n, Eq.mpr (bytes_Count_v0 k n v) hn⟩
def bytes_Count_B0 : Labs := ([0, 1, 1, 1, 1], bytes_Count_X0) :: []
theorem bytes_Count_b0 : LabsOk Try.prog (bodyOf Try.f36) bytes_Count_B0 := LabsOk.cons bytes_Count_x0 (LabsOk.nil)
def bytes_Count_raw (s0 : List Int) (sep1 : List Int) (K : Res → List Cell → Prop) : Prop :=
  bif (decide ((List.length sep1 : Int) = (0 : Int))) then
    False
  else
  bif (decide ((List.length sep1 : Int) = (1 : Int))) then
    bif decide (0 ≤ (0 : Int) ∧ (0 : Int) < (List.length sep1 : Int)) then
    ∀ (r1 : Int), r1 = internal_bytealg_Count_F s0 (rd (0 : Int) sep1 (0 : Int)) → (
    wfR (.one (.v (.int .i64) r1)) → (
    K (.one (.v (.int .i64) r1)) []))
    else False
  else
    (wfD bytes_Count_d0 (s0, sep1, (0 : Int), ()) → ∃ n, bytes_Count_L0  n s0 sep1 (0 : Int))
def bytes_Count_A : List AS := [.v (.sl (.int .u8)), .v (.sl (.int .u8))]
theorem bytes_Count_walk (s0 : List Int) (sep1 : List Int) (K : Res → List Cell → Prop) : runF tb (getG bytes_Count_G) bytes_Count_B0 Try.f36 [true] (mkA bytes_Count_A (s0, sep1, ())) K = bytes_Count_raw s0 sep1 K := by kernel_rfl
--! pre 1
def bytes_Count_P (_ sep : List Int) : Prop := sep.length = 1
def bytes_Count_F (s sep : List Int) : Int := (List.count (rd (0 : Int) sep 0) s : Int)
theorem bytes_Count_sp (s sep : List Int) (K : Res → List Cell → Prop) (_ : wfA bytes_Count_A (s, sep, ())) (hp : bytes_Count_P s sep) (h : ∀ r : Int, r = bytes_Count_F s sep → K (.one (.v (.int .i64) r)) []) : bytes_Count_raw s sep K := by
  unfold bytes_Count_P at hp
  unfold bytes_Count_raw
  exact brn (fun h0 => by omega) (fun _ => brn (fun _ => asrt (by omega) fun r hr _ => h r hr) (fun h1 => absurd (by omega) h1))

def bytes_Count_C (v : valsA bytes_Count_A) (K : Res → List Cell → Prop) : Prop := bytes_Count_P v.1 v.2.1 ∧ ∀ r : Int, r = bytes_Count_F v.1 v.2.1 → K (.one (.v (.int .i64) r)) []
def bytes_Count_S : App := specW bytes_Count_A bytes_Count_C
theorem bytes_Count_wv (K : Res → List Cell → Prop) : ∀ v : valsA bytes_Count_A, runF tb (getG bytes_Count_G) bytes_Count_B0 Try.f36 [true] (mkA bytes_Count_A v) K = bytes_Count_raw v.1 v.2.1 K
  | (s0, sep1, ()) => bytes_Count_walk s0 sep1 K
set_option maxRecDepth 20000 in
theorem bytes_Count_ok : AppOk Try.prog 36 bytes_Count_S :=
  AppOk.specW (spec_ok (runF_ok tb_M tb_ok bytes_Count_Gok (bytes_Count_b0) (f := 36) (fn := Try.f36) (by kernel_rfl) (by kernel_rfl) bytes_Count_st [true]) fun v K hw h => (bytes_Count_wv K v).mpr (bytes_Count_sp v.1 v.2.1 K hw h.1 h.2))

end Go.VE
namespace Go.VE
open Go Go.Proofs
/-! ### quoin/lines.Of -/
def lines_Of_G : List (Nat × App) := [(51, lines_has_S), (36, bytes_Count_S)]
theorem lines_Of_Gok : GOk Try.prog (getG lines_Of_G) := GOk.cons lines_has_ok (GOk.cons bytes_Count_ok (GOk.nil))
def lines_Of_raw (t0 : List Int) (at1 : Int) (K : Res → List Cell → Prop) : Prop :=
  ∀ (r1 : Bool), r1 = lines_has_F t0 at1 → (
  wfR (.one (.v (.bool) r1)) → (
  bif (!r1) then
    K (.tup [.v (.int .i64) (0 : Int), .v (.int .i64) (2 : Int)]) []
  else
    bif decide (0 ≤ at1 ∧ at1 ≤ (List.length t0 : Int)) then
    bytes_Count_P (List.take (Int.toNat at1) t0) ([(10 : Int)] : List Int) ∧ (
    ∀ (r2 : Int), r2 = bytes_Count_F (List.take (Int.toNat at1) t0) ([(10 : Int)] : List Int) → (
    wfR (.one (.v (.int .i64) r2)) → (
    K (.tup [.v (.int .i64) r2, .v (.int .i64) (0 : Int)]) [])))
    else False))
def lines_Of_A : List AS := [.v (.sl (.int .u8)), .v (.int .i64)]
theorem lines_Of_walk (t0 : List Int) (at1 : Int) (K : Res → List Cell → Prop) : runF tb (getG lines_Of_G) [] Try.f38 [true, true] (mkA lines_Of_A (t0, at1, ())) K = lines_Of_raw t0 at1 K := by kernel_rfl

def lines_Of_P (t0 : List Int) (at1 : Int) : Prop :=
  let r1 : Bool := lines_has_F t0 at1
  bif (!r1) then
    True
  else
    (0 ≤ at1 ∧ at1 ≤ (List.length t0 : Int)) ∧ (
    bytes_Count_P (List.take (Int.toNat at1) t0) ([(10 : Int)] : List Int))
def lines_Of_F (t0 : List Int) (at1 : Int) : Int × Int :=
  let r1 : Bool := lines_has_F t0 at1
  bif (!r1) then
    ((0 : Int), (2 : Int))
  else
    let r2 : Int := bytes_Count_F (List.take (Int.toNat at1) t0) ([(10 : Int)] : List Int)
    (r2, (0 : Int))
set_option maxRecDepth 20000 in
theorem lines_Of_sp (t0 : List Int) (at1 : Int) (K : Res → List Cell → Prop) (_ : wfA lines_Of_A (t0, at1, ())) (hp : lines_Of_P t0 at1) (h : ∀ r : Int × Int, r = lines_Of_F t0 at1 → K (.tup [.v (.int .i64) r.1, .v (.int .i64) r.2]) []) : lines_Of_raw t0 at1 K := by
  unfold lines_Of_raw
  unfold lines_Of_P at hp
  intro r1 hr1
  subst hr1
  intro _
  refine brb (fun c1 => ?_) (fun c1 => ?_)
  ·
    clear hp
    have e := h _ ((ctrue c1) : lines_Of_F t0 at1 = _).symm
    exact e
  ·
    replace hp := cF c1 hp
    refine asrt hp.1 ?_
    replace hp := hp.2
    refine ⟨hp, ?_⟩
    intro r2 hr2
    subst hr2
    intro _
    have e := h _ ((cfalse c1) : lines_Of_F t0 at1 = _).symm
    exact e
def lines_Of_C (v : valsA lines_Of_A) (K : Res → List Cell → Prop) : Prop := lines_Of_P v.1 v.2.1 ∧ ∀ r : Int × Int, r = lines_Of_F v.1 v.2.1 → K (.tup [.v (.int .i64) r.1, .v (.int .i64) r.2]) []
def lines_Of_S : App := specW lines_Of_A lines_Of_C
theorem lines_Of_wv (K : Res → List Cell → Prop) : ∀ v : valsA lines_Of_A, runF tb (getG lines_Of_G) [] Try.f38 [true, true] (mkA lines_Of_A v) K = lines_Of_raw v.1 v.2.1 K
  | (t0, at1, ()) => lines_Of_walk t0 at1 K
set_option maxRecDepth 20000 in
theorem lines_Of_ok : AppOk Try.prog 38 lines_Of_S :=
  AppOk.specW (spec_ok (runF_ok tb_M tb_ok lines_Of_Gok (LabsOk.nil) (f := 38) (fn := Try.f38) (by kernel_rfl) (by kernel_rfl) (by kernel_rfl) [true, true]) fun v K hw h => (lines_Of_wv K v).mpr (lines_Of_sp v.1 v.2.1 K hw h.1 h.2))
theorem lines_Of_any (t : List Int) (p : Int) : lines_Of_P t p := by
  unfold lines_Of_P lines_has_F bytes_Count_P
  dsimp only
  by_cases h1 : 0 ≤ p <;> by_cases h2 : p ≤ t.length <;> simp [h1, h2]

end Go.VE
namespace Go.VE
open Go Go.Proofs
--! external 1
--! args B U
--! res I
--! pre 0
--! import VEr
def internal_bytealg_IndexByte_F (xs : List Int) (c : Int) : Int := idxB xs c
def internal_bytealg_IndexByte_S : App := specW sliceByte_A fun v K => ∀ r : Int, r = internal_bytealg_IndexByte_F v.1 v.2.1 → K (.one (.v (.int .i64) r)) []
theorem internal_bytealg_IndexByte_ok : AppOk Try.prog 69 internal_bytealg_IndexByte_S :=
  ext_indexByte (fn := Try.f69) (by kernel_rfl) (by kernel_rfl) (by kernel_rfl) (by kernel_rfl) (by kernel_rfl)

end Go.VE
namespace Go.VE
open Go Go.Proofs
/-! ### bytes.IndexByte -/
def bytes_IndexByte_G : List (Nat × App) := [(69, internal_bytealg_IndexByte_S)]
theorem bytes_IndexByte_Gok : GOk Try.prog (getG bytes_IndexByte_G) := GOk.cons internal_bytealg_IndexByte_ok (GOk.nil)
def bytes_IndexByte_raw (b0 : List Int) (c1 : Int) (K : Res → List Cell → Prop) : Prop :=
  ∀ (r1 : Int), r1 = internal_bytealg_IndexByte_F b0 c1 → (
  wfR (.one (.v (.int .i64) r1)) → (
  K (.one (.v (.int .i64) r1)) []))
def bytes_IndexByte_A : List AS := [.v (.sl (.int .u8)), .v (.int .u8)]
theorem bytes_IndexByte_walk (b0 : List Int) (c1 : Int) (K : Res → List Cell → Prop) : runF tb (getG bytes_IndexByte_G) [] Try.f60 [true] (mkA bytes_IndexByte_A (b0, c1, ())) K = bytes_IndexByte_raw b0 c1 K := by kernel_rfl

def bytes_IndexByte_F (b0 : List Int) (c1 : Int) : Int :=
  let r1 : Int := internal_bytealg_IndexByte_F b0 c1
  r1
set_option maxRecDepth 20000 in
theorem bytes_IndexByte_sp (b0 : List Int) (c1 : Int) (K : Res → List Cell → Prop) (_ : wfA bytes_IndexByte_A (b0, c1, ())) (h : ∀ r : Int, r = bytes_IndexByte_F b0 c1 → K (.one (.v (.int .i64) r)) []) : bytes_IndexByte_raw b0 c1 K := by
  unfold bytes_IndexByte_raw
  intro r1 hr1
  subst hr1
  intro _
  exact h _ rfl
def bytes_IndexByte_C (v : valsA bytes_IndexByte_A) (K : Res → List Cell → Prop) : Prop := ∀ r : Int, r = bytes_IndexByte_F v.1 v.2.1 → K (.one (.v (.int .i64) r)) []
def bytes_IndexByte_S : App := specW bytes_IndexByte_A bytes_IndexByte_C
theorem bytes_IndexByte_wv (K : Res → List Cell → Prop) : ∀ v : valsA bytes_IndexByte_A, runF tb (getG bytes_IndexByte_G) [] Try.f60 [true] (mkA bytes_IndexByte_A v) K = bytes_IndexByte_raw v.1 v.2.1 K
  | (b0, c1, ()) => bytes_IndexByte_walk b0 c1 K
set_option maxRecDepth 20000 in
theorem bytes_IndexByte_ok : AppOk Try.prog 60 bytes_IndexByte_S :=
  AppOk.specW (spec_ok (runF_ok tb_M tb_ok bytes_IndexByte_Gok (LabsOk.nil) (f := 60) (fn := Try.f60) (by kernel_rfl) (by kernel_rfl) (by kernel_rfl) [true]) fun v K hw h => (bytes_IndexByte_wv K v).mpr (bytes_IndexByte_sp v.1 v.2.1 K hw h))

end Go.VE
namespace Go.VE
open Go Go.Proofs
/-! ### quoin/lines.Start -/
def lines_Start_G : List (Nat × App) := [(60, bytes_IndexByte_S)]
theorem lines_Start_Gok : GOk Try.prog (getG lines_Start_G) := GOk.cons bytes_IndexByte_ok (GOk.nil)
theorem lines_Start_st : storesC (bodyOf Try.f52) = true := by kernel_rfl
def lines_Start_d0 : List LS := [.v 0 (.sl (.int .u8)), .v 1 (.int .i64), .v 6 (.int .i64)]
def lines_Start_d0r : List LS := [.v 4 (.int .i64), .v 5 (.int .i64)]
def lines_Start_d0x0 : List LS := [.v 6 (.int .i64)]
def lines_Start_dx0 : DX := ⟨none, some lines_Start_d0r, [(0, lines_Start_d0x0)]⟩
def lines_Start_T0 (Y : List Int → Int → Int → Prop) (kr : Int → Int → Prop) (kx0 : Int → Prop) (t0 : List Int) (line1 : Int) (at6 : Int) : Prop :=
  bif (decide ((0 : Int) < line1)) then
    bif decide (0 ≤ at6 ∧ at6 ≤ (List.length t0 : Int)) then
    ∀ (r1 : Int), r1 = bytes_IndexByte_F (List.drop (Int.toNat at6) t0) (10 : Int) → (
    wfR (.one (.v (.int .i64) r1)) → (
    bif (decide (r1 < (0 : Int))) then
      kr (0 : Int) (2 : Int)
    else
      Y t0 (IntKind.wrap .i64 (line1 - (1 : Int))) (IntKind.wrap .i64 (at6 + (IntKind.wrap .i64 (r1 + (1 : Int)))))))
    else False
  else
    kx0 at6
def lines_Start_L0 (kr : Int → Int → Prop) (kx0 : Int → Prop) : Nat → List Int → Int → Int → Prop
  | 0, _, _, _ => False
  | n + 1, t0, line1, at6 => wfD lines_Start_d0 (t0, line1, at6, ()) → lines_Start_T0 (lines_Start_L0 kr kx0 n) kr kx0 t0 line1 at6
theorem lines_Start_s0 (k : Ex → St → Prop) (Y : vals lines_Start_d0 → Prop) (t0 : List Int) (line1 : Int) (at6 : Int) :
    ex tb (getG lines_Start_G) [] (at' (bodyOf Try.f52) [0, 0, 0, 1, 1, 1]) [0, 0, 0, 1, 1, 1] (mkD 25 lines_Start_d0 (t0, line1, at6, ())) (lpK 25 lines_Start_d0 lines_Start_dx0 k Y) =
    lines_Start_T0 (fun t0 line1 at6 => Y (t0, line1, at6, ())) (fun x4 x5 => wfD lines_Start_d0r (x4, x5, ()) → k .ret (mkD 25 lines_Start_d0r (x4, x5, ()))) (fun at6 => wfD lines_Start_d0x0 (at6, ()) → k (.exit 0) (mkD 25 lines_Start_d0x0 (at6, ()))) t0 line1 at6 := by kernel_rfl
theorem lines_Start_e0 (k : Ex → St → Prop) : ∀ (n : Nat) (t0 : List Int) (line1 : Int) (at6 : Int), lpD 25 lines_Start_d0 lines_Start_dx0 (ex tb (getG lines_Start_G) [] (at' (bodyOf Try.f52) [0, 0, 0, 1, 1, 1]) [0, 0, 0, 1, 1, 1]) k n (t0, line1, at6, ()) = lines_Start_L0 (fun x4 x5 => wfD lines_Start_d0r (x4, x5, ()) → k .ret (mkD 25 lines_Start_d0r (x4, x5, ()))) (fun at6 => wfD lines_Start_d0x0 (at6, ()) → k (.exit 0) (mkD 25 lines_Start_d0x0 (at6, ()))) n t0 line1 at6
  | 0, _, _, _ => rfl
  | n + 1, t0, line1, at6 => congrArg (fun Z : Prop => wfD lines_Start_d0 (t0, line1, at6, ()) → Z) ((lines_Start_s0 k (lpD 25 lines_Start_d0 lines_Start_dx0 (ex tb (getG lines_Start_G) [] (at' (bodyOf Try.f52) [0, 0, 0, 1, 1, 1]) [0, 0, 0, 1, 1, 1]) k n) t0 line1 at6).trans (congrArg (fun Y => lines_Start_T0 Y (fun x4 x5 => wfD lines_Start_d0r (x4, x5, ()) → k .ret (mkD 25 lines_Start_d0r (x4, x5, ()))) (fun at6 => wfD lines_Start_d0x0 (at6, ()) → k (.exit 0) (mkD 25 lines_Start_d0x0 (at6, ()))) t0 line1 at6) (funext fun t0 => funext fun line1 => funext fun at6 => lines_Start_e0 k n t0 line1 at6)))
theorem lines_Start_v0 (k : Ex → St → Prop) (n : Nat) : ∀ v : vals lines_Start_d0, lpD 25 lines_Start_d0 lines_Start_dx0 (ex tb (getG lines_Start_G) [] (at' (bodyOf Try.f52) [0, 0, 0, 1, 1, 1]) [0, 0, 0, 1, 1, 1]) k n v = lines_Start_L0 (fun x4 x5 => wfD lines_Start_d0r (x4, x5, ()) → k .ret (mkD 25 lines_Start_d0r (x4, x5, ()))) (fun at6 => wfD lines_Start_d0x0 (at6, ()) → k (.exit 0) (mkD 25 lines_Start_d0x0 (at6, ()))) n v.1 v.2.1 v.2.2.1
  | (t0, line1, at6, ()) => lines_Start_e0 k n t0 line1 at6
def lines_Start_X0 : Pce := fun st k => ckD 25 lines_Start_d0 st fun v => wfD lines_Start_d0 v → ∃ n, lines_Start_L0 (fun x4 x5 => wfD lines_Start_d0r (x4, x5, ()) → k .ret (mkD 25 lines_Start_d0r (x4, x5, ()))) (fun at6 => wfD lines_Start_d0x0 (at6, ()) → k (.exit 0) (mkD 25 lines_Start_d0x0 (at6, ()))) n v.1 v.2.1 v.2.2.1
set_option maxRecDepth 20000 in
theorem lines_Start_x0 : SemOk Try.prog (at' (bodyOf Try.f52) [0, 0, 1, 1, 1]) lines_Start_X0 :=
  (SemOk.loop (ex_sound tb_M tb_ok lines_Start_Gok (LabsOk.nil) (at' (bodyOf Try.f52) [0, 0, 0, 1, 1, 1]) [0, 0, 0, 1, 1, 1] rfl (storesC_at lines_Start_st [0, 0, 0, 1, 1, 1])) 25 lines_Start_d0 lines_Start_dx0).mono fun st k h => ckD_mono h fun v hv hw => (hv hw).elim fun n hn => ⟨n, Eq.mpr (lines_Start_v0 k n v) hn⟩
def lines_Start_B0 : Labs := ([0, 0, 1, 1, 1], lines_Start_X0) :: []
theorem lines_Start_b0 : LabsOk Try.prog (bodyOf Try.f52) lines_Start_B0 := LabsOk.cons lines_Start_x0 (LabsOk.nil)
def lines_Start_raw (t0 : List Int) (line1 : Int) (K : Res → List Cell → Prop) : Prop :=
  bif (decide (line1 < (0 : Int))) then
    K (.tup [.v (.int .i64) (0 : Int), .v (.int .i64) (2 : Int)]) []
  else
    (wfD lines_Start_d0 (t0, line1, (0 : Int), ()) → ∃ n, lines_Start_L0 (fun (x4 : Int) (x5 : Int) => wfD lines_Start_d0r (x4, x5, ()) → (
        K (.tup [.v (.int .i64) x4, .v (.int .i64) x5]) [])) (fun (at6 : Int) => wfD lines_Start_d0x0 (at6, ()) → (
        K (.tup [.v (.int .i64) at6, .v (.int .i64) (0 : Int)]) [])) n t0 line1 (0 : Int))
def lines_Start_A : List AS := [.v (.sl (.int .u8)), .v (.int .i64)]
theorem lines_Start_walk (t0 : List Int) (line1 : Int) (K : Res → List Cell → Prop) : runF tb (getG lines_Start_G) lines_Start_B0 Try.f52 [true, true] (mkA lines_Start_A (t0, line1, ())) K = lines_Start_raw t0 line1 K := by kernel_rfl
--! pre 0
/-- n line ends on, from a place -/
def goLine (t : List Int) : Nat → Nat → Option Nat
  | 0, p => some p
  | n + 1, p => if idxB (t.drop p) 10 < 0 then none else goLine t n (p + (idxB (t.drop p) 10).toNat + 1)
def lines_Start_F (t : List Int) (line : Int) : Int × Int :=
  if line < 0 then (0, 2) else match goLine t line.toNat 0 with
    | some p => ((p : Int), 0)
    | none => (0, 2)
theorem idxB_lt (xs : List Int) (c : Int) : -1 ≤ idxB xs c ∧ idxB xs c < xs.length ∨ xs = [] ∧ idxB xs c = -1 := by
  unfold idxB
  split
  · rename_i h; have := List.idxOf_lt_length_of_mem h; omega
  · cases xs with
    | nil => exact .inr ⟨rfl, rfl⟩
    | cons a l => left; simp only [List.length_cons]; omega
theorem lines_Start_l0 (kr : Int → Int → Prop) (kx0 : Int → Prop) (t : List Int) (ht : t.length ≤ 9223372036854775807) : ∀ (n m p : Nat), n ≤ 9223372036854775807 → p ≤ t.length → n < m →
    (goLine t n p = none → kr 0 2) → (∀ q, goLine t n p = some q → kx0 (q : Int)) → lines_Start_L0 kr kx0 m t (n : Int) (p : Int)
  | _, 0, _, _, _, h, _, _ => absurd h (Nat.not_lt_zero _)
  | 0, m + 1, p, _, _, _, _, h2 => by
    intro _
    unfold lines_Start_T0
    exact brn (fun h => absurd h (by omega)) (fun _ => h2 p rfl)
  | n + 1, m + 1, p, hn, hp, hm, h1, h2 => by
    intro _
    unfold lines_Start_T0
    refine brn (fun _ => asrt (by omega) fun r hr _ => ?_) (fun h => absurd (by omega) h)
    have hr : r = idxB (t.drop p) 10 := by rw [hr]; simp [bytes_IndexByte_F, internal_bytealg_IndexByte_F]
    have hb := idxB_lt (t.drop p) 10
    rw [List.length_drop] at hb
    rw [← hr] at hb
    refine brn (fun h => h1 ?_) (fun h => ?_)
    · unfold goLine; rw [← hr, if_pos h]
    · have hd : r < (t.length : Int) - p := by
        rcases hb with hb | ⟨_, hb⟩ <;> omega
      rw [wrap_i64 (n := r + 1) (by omega) (by omega), wrap_i64 (by omega) (by omega), wrap_i64 (by omega) (by omega)]
      have e1 : ((n + 1 : Nat) : Int) - 1 = (n : Int) := by omega
      have e2 : (p : Int) + (r + 1) = ((p + r.toNat + 1 : Nat) : Int) := by omega
      rw [e1, e2]
      have e3 : goLine t (n + 1) p = goLine t n (p + r.toNat + 1) := by conv => lhs; unfold goLine; rw [← hr, if_neg h]
      exact lines_Start_l0 kr kx0 t ht n m (p + r.toNat + 1) (by omega) (by omega) (by omega) (fun hh => h1 (by rw [e3]; exact hh)) (fun q hh => h2 q (by rw [e3]; exact hh))
theorem lines_Start_sp (t : List Int) (line : Int) (K : Res → List Cell → Prop) (hw : wfA lines_Start_A (t, line, ())) (h : ∀ r : Int × Int, r = lines_Start_F t line → K (.tup [.v (.int .i64) r.1, .v (.int .i64) r.2]) []) : lines_Start_raw t line K := by
  have ht : t.length ≤ 9223372036854775807 := hw.1.1
  have hl : line ≤ 9223372036854775807 := hw.2.1.2
  unfold lines_Start_raw
  refine brn (fun hn => h (0, 2) (by unfold lines_Start_F; rw [if_pos hn])) (fun hn _ => ?_)
  refine ⟨line.toNat + 1, ?_⟩
  have e : line = (line.toNat : Int) := by omega
  have key := fun kr kx0 h1 h2 => lines_Start_l0 kr kx0 t ht line.toNat (line.toNat + 1) 0 (by omega) (Nat.zero_le _) (Nat.lt_succ_self _) h1 h2
  rw [← e] at key
  refine key _ _ (fun hg _ => h (0, 2) ?_) (fun q hg _ => h ((q : Int), 0) ?_)
  · unfold lines_Start_F; rw [if_neg hn, hg]
  · unfold lines_Start_F; rw [if_neg hn, hg]

def lines_Start_C (v : valsA lines_Start_A) (K : Res → List Cell → Prop) : Prop := ∀ r : Int × Int, r = lines_Start_F v.1 v.2.1 → K (.tup [.v (.int .i64) r.1, .v (.int .i64) r.2]) []
def lines_Start_S : App := specW lines_Start_A lines_Start_C
theorem lines_Start_wv (K : Res → List Cell → Prop) : ∀ v : valsA lines_Start_A, runF tb (getG lines_Start_G) lines_Start_B0 Try.f52 [true, true] (mkA lines_Start_A v) K = lines_Start_raw v.1 v.2.1 K
  | (t0, line1, ()) => lines_Start_walk t0 line1 K
set_option maxRecDepth 20000 in
theorem lines_Start_ok : AppOk Try.prog 52 lines_Start_S :=
  AppOk.specW (spec_ok (runF_ok tb_M tb_ok lines_Start_Gok (lines_Start_b0) (f := 52) (fn := Try.f52) (by kernel_rfl) (by kernel_rfl) lines_Start_st [true, true]) fun v K hw h => (lines_Start_wv K v).mpr (lines_Start_sp v.1 v.2.1 K hw h))

end Go.VE
namespace Go.VE
open Go Go.Proofs
/-! ### quoin/lines.tail -/
def lines_tail_G : List (Nat × App) := [(60, bytes_IndexByte_S)]
theorem lines_tail_Gok : GOk Try.prog (getG lines_tail_G) := GOk.cons bytes_IndexByte_ok (GOk.nil)
def lines_tail_raw (t0 : List Int) (at1 : Int) (K : Res → List Cell → Prop) : Prop :=
  bif decide (0 ≤ at1 ∧ at1 ≤ (List.length t0 : Int)) then
  ∀ (r1 : Int), r1 = bytes_IndexByte_F (List.drop (Int.toNat at1) t0) (10 : Int) → (
  wfR (.one (.v (.int .i64) r1)) → (
  bif (decide ((0 : Int) ≤ r1)) then
    K (.one (.v (.int .i64) (IntKind.wrap .i64 (at1 + r1)))) []
  else
    K (.one (.v (.int .i64) (List.length t0 : Int))) []))
  else False
def lines_tail_A : List AS := [.v (.sl (.int .u8)), .v (.int .i64)]
theorem lines_tail_walk (t0 : List Int) (at1 : Int) (K : Res → List Cell → Prop) : runF tb (getG lines_tail_G) [] Try.f53 [true] (mkA lines_tail_A (t0, at1, ())) K = lines_tail_raw t0 at1 K := by kernel_rfl

def lines_tail_P (t0 : List Int) (at1 : Int) : Prop :=
  (0 ≤ at1 ∧ at1 ≤ (List.length t0 : Int))
def lines_tail_F (t0 : List Int) (at1 : Int) : Int :=
  let r1 : Int := bytes_IndexByte_F (List.drop (Int.toNat at1) t0) (10 : Int)
  bif (decide ((0 : Int) ≤ r1)) then
    (IntKind.wrap .i64 (at1 + r1))
  else
    (List.length t0 : Int)
set_option maxRecDepth 20000 in
theorem lines_tail_sp (t0 : List Int) (at1 : Int) (K : Res → List Cell → Prop) (_ : wfA lines_tail_A (t0, at1, ())) (hp : lines_tail_P t0 at1) (h : ∀ r : Int, r = lines_tail_F t0 at1 → K (.one (.v (.int .i64) r)) []) : lines_tail_raw t0 at1 K := by
  unfold lines_tail_raw
  unfold lines_tail_P at hp
  refine asrt hp ?_
  intro r1 hr1
  subst hr1
  intro _
  refine brb (fun c1 => ?_) (fun c1 => ?_)
  ·
    exact h _ ((ctrue c1) : lines_tail_F t0 at1 = _).symm
  ·
    exact h _ ((cfalse c1) : lines_tail_F t0 at1 = _).symm
def lines_tail_C (v : valsA lines_tail_A) (K : Res → List Cell → Prop) : Prop := lines_tail_P v.1 v.2.1 ∧ ∀ r : Int, r = lines_tail_F v.1 v.2.1 → K (.one (.v (.int .i64) r)) []
def lines_tail_S : App := specW lines_tail_A lines_tail_C
theorem lines_tail_wv (K : Res → List Cell → Prop) : ∀ v : valsA lines_tail_A, runF tb (getG lines_tail_G) [] Try.f53 [true] (mkA lines_tail_A v) K = lines_tail_raw v.1 v.2.1 K
  | (t0, at1, ()) => lines_tail_walk t0 at1 K
set_option maxRecDepth 20000 in
theorem lines_tail_ok : AppOk Try.prog 53 lines_tail_S :=
  AppOk.specW (spec_ok (runF_ok tb_M tb_ok lines_tail_Gok (LabsOk.nil) (f := 53) (fn := Try.f53) (by kernel_rfl) (by kernel_rfl) (by kernel_rfl) [true]) fun v K hw h => (lines_tail_wv K v).mpr (lines_tail_sp v.1 v.2.1 K hw h.1 h.2))

end Go.VE
namespace Go.VE
open Go Go.Proofs
/-! ### quoin/lines.End -/
def lines_End_G : List (Nat × App) := [(52, lines_Start_S), (53, lines_tail_S)]
theorem lines_End_Gok : GOk Try.prog (getG lines_End_G) := GOk.cons lines_Start_ok (GOk.cons lines_tail_ok (GOk.nil))
def lines_End_raw (t0 : List Int) (line1 : Int) (K : Res → List Cell → Prop) : Prop :=
  ∀ (r1 : Int × Int), r1 = lines_Start_F t0 line1 → (
  wfR (.tup [.v (.int .i64) r1.1, .v (.int .i64) r1.2]) → (
  bif (!decide (r1.2 = (0 : Int))) then
    K (.tup [.v (.int .i64) (0 : Int), .v (.int .i64) r1.2]) []
  else
    lines_tail_P t0 r1.1 ∧ (
    ∀ (r2 : Int), r2 = lines_tail_F t0 r1.1 → (
    wfR (.one (.v (.int .i64) r2)) → (
    K (.tup [.v (.int .i64) r2, .v (.int .i64) (0 : Int)]) [])))))
def lines_End_A : List AS := [.v (.sl (.int .u8)), .v (.int .i64)]
theorem lines_End_walk (t0 : List Int) (line1 : Int) (K : Res → List Cell → Prop) : runF tb (getG lines_End_G) [] Try.f39 [true, true] (mkA lines_End_A (t0, line1, ())) K = lines_End_raw t0 line1 K := by kernel_rfl

def lines_End_P (t0 : List Int) (line1 : Int) : Prop :=
  let r1 : Int × Int := lines_Start_F t0 line1
  bif (!decide (r1.2 = (0 : Int))) then
    True
  else
    lines_tail_P t0 r1.1
def lines_End_F (t0 : List Int) (line1 : Int) : Int × Int :=
  let r1 : Int × Int := lines_Start_F t0 line1
  bif (!decide (r1.2 = (0 : Int))) then
    ((0 : Int), r1.2)
  else
    let r2 : Int := lines_tail_F t0 r1.1
    (r2, (0 : Int))
set_option maxRecDepth 20000 in
theorem lines_End_sp (t0 : List Int) (line1 : Int) (K : Res → List Cell → Prop) (_ : wfA lines_End_A (t0, line1, ())) (hp : lines_End_P t0 line1) (h : ∀ r : Int × Int, r = lines_End_F t0 line1 → K (.tup [.v (.int .i64) r.1, .v (.int .i64) r.2]) []) : lines_End_raw t0 line1 K := by
  unfold lines_End_raw
  unfold lines_End_P at hp
  intro r1 hr1
  subst hr1
  intro _
  refine brb (fun c1 => ?_) (fun c1 => ?_)
  ·
    clear hp
    have e := h _ ((ctrue c1) : lines_End_F t0 line1 = _).symm
    exact e
  ·
    replace hp := cF c1 hp
    refine ⟨hp, ?_⟩
    intro r2 hr2
    subst hr2
    intro _
    have e := h _ ((cfalse c1) : lines_End_F t0 line1 = _).symm
    exact e
def lines_End_C (v : valsA lines_End_A) (K : Res → List Cell → Prop) : Prop := lines_End_P v.1 v.2.1 ∧ ∀ r : Int × Int, r = lines_End_F v.1 v.2.1 → K (.tup [.v (.int .i64) r.1, .v (.int .i64) r.2]) []
def lines_End_S : App := specW lines_End_A lines_End_C
theorem lines_End_wv (K : Res → List Cell → Prop) : ∀ v : valsA lines_End_A, runF tb (getG lines_End_G) [] Try.f39 [true, true] (mkA lines_End_A v) K = lines_End_raw v.1 v.2.1 K
  | (t0, line1, ()) => lines_End_walk t0 line1 K
set_option maxRecDepth 20000 in
theorem lines_End_ok : AppOk Try.prog 39 lines_End_S :=
  AppOk.specW (spec_ok (runF_ok tb_M tb_ok lines_End_Gok (LabsOk.nil) (f := 39) (fn := Try.f39) (by kernel_rfl) (by kernel_rfl) (by kernel_rfl) [true, true]) fun v K hw h => (lines_End_wv K v).mpr (lines_End_sp v.1 v.2.1 K hw h.1 h.2))
theorem goLine_le (t : List Int) : ∀ (n p q : Nat), p ≤ t.length → goLine t n p = some q → q ≤ t.length
  | 0, p, q, hp, h => by simp only [goLine, Option.some.injEq] at h; omega
  | n + 1, p, q, hp, h => by
    unfold goLine at h
    have hb := idxB_lt (t.drop p) 10
    rw [List.length_drop] at hb
    split at h
    · cases h
    · exact goLine_le t n _ q (by rcases hb with hb | ⟨_, hb⟩ <;> omega) h
theorem lines_Start_F_le (t : List Int) (n : Int) : 0 ≤ (lines_Start_F t n).1 ∧ (lines_Start_F t n).1 ≤ t.length := by
  unfold lines_Start_F
  split
  · simp
  · split
    · rename_i q hq; have := goLine_le t _ 0 q (Nat.zero_le _) hq; simp only; omega
    · simp
theorem lines_End_any (t : List Int) (n : Int) : lines_End_P t n := by
  unfold lines_End_P lines_tail_P
  dsimp only
  have := lines_Start_F_le t n
  cases !decide ((lines_Start_F t n).2 = 0)
  · exact this
  · trivial

end Go.VE
namespace Go.VE
open Go Go.Proofs
/-! ### quoin/typing.covers -/
def typing_covers_G : List (Nat × App) := [(38, lines_Of_S), (39, lines_End_S), (36, bytes_Count_S)]
theorem typing_covers_Gok : GOk Try.prog (getG typing_covers_G) := GOk.cons lines_Of_ok (GOk.cons lines_End_ok (GOk.cons bytes_Count_ok (GOk.nil)))
def typing_covers_raw (base0 : List Int) (at1 : Int) (typed2 : List Int) (K : Res → List Cell → Prop) : Prop :=
  lines_Of_P base0 at1 ∧ (
  ∀ (r1 : Int × Int), r1 = lines_Of_F base0 at1 → (
  wfR (.tup [.v (.int .i64) r1.1, .v (.int .i64) r1.2]) → (
  lines_End_P base0 r1.1 ∧ (
  ∀ (r2 : Int × Int), r2 = lines_End_F base0 r1.1 → (
  wfR (.tup [.v (.int .i64) r2.1, .v (.int .i64) r2.2]) → (
  bytes_Count_P typed2 ([(10 : Int)] : List Int) ∧ (
  ∀ (r3 : Int), r3 = bytes_Count_F typed2 ([(10 : Int)] : List Int) → (
  wfR (.one (.v (.int .i64) r3)) → (
  K (.one (.v (.int .i64) (mn (IntKind.wrap .i64 ((List.length typed2 : Int) - r3)) (IntKind.wrap .i64 (r2.1 - at1))))) [])))))))))
def typing_covers_A : List AS := [.v (.sl (.int .u8)), .v (.int .i64), .v (.sl (.int .u8))]
theorem typing_covers_walk (base0 : List Int) (at1 : Int) (typed2 : List Int) (K : Res → List Cell → Prop) : runF tb (getG typing_covers_G) [] Try.f46 [true] (mkA typing_covers_A (base0, at1, typed2, ())) K = typing_covers_raw base0 at1 typed2 K := by kernel_rfl

def typing_covers_P (base0 : List Int) (at1 : Int) (typed2 : List Int) : Prop :=
  lines_Of_P base0 at1 ∧ (
  let r1 : Int × Int := lines_Of_F base0 at1
  lines_End_P base0 r1.1 ∧ (
  let r2 : Int × Int := lines_End_F base0 r1.1
  bytes_Count_P typed2 ([(10 : Int)] : List Int)))
def typing_covers_F (base0 : List Int) (at1 : Int) (typed2 : List Int) : Int :=
  let r1 : Int × Int := lines_Of_F base0 at1
  let r2 : Int × Int := lines_End_F base0 r1.1
  let r3 : Int := bytes_Count_F typed2 ([(10 : Int)] : List Int)
  (mn (IntKind.wrap .i64 ((List.length typed2 : Int) - r3)) (IntKind.wrap .i64 (r2.1 - at1)))
set_option maxRecDepth 20000 in
theorem typing_covers_sp (base0 : List Int) (at1 : Int) (typed2 : List Int) (K : Res → List Cell → Prop) (_ : wfA typing_covers_A (base0, at1, typed2, ())) (hp : typing_covers_P base0 at1 typed2) (h : ∀ r : Int, r = typing_covers_F base0 at1 typed2 → K (.one (.v (.int .i64) r)) []) : typing_covers_raw base0 at1 typed2 K := by
  unfold typing_covers_raw
  unfold typing_covers_P at hp
  refine ⟨hp.1, ?_⟩
  replace hp := hp.2
  intro r1 hr1
  subst hr1
  intro _
  refine ⟨hp.1, ?_⟩
  replace hp := hp.2
  intro r2 hr2
  subst hr2
  intro _
  refine ⟨hp, ?_⟩
  intro r3 hr3
  subst hr3
  intro _
  exact h _ rfl
def typing_covers_C (v : valsA typing_covers_A) (K : Res → List Cell → Prop) : Prop := typing_covers_P v.1 v.2.1 v.2.2.1 ∧ ∀ r : Int, r = typing_covers_F v.1 v.2.1 v.2.2.1 → K (.one (.v (.int .i64) r)) []
def typing_covers_S : App := specW typing_covers_A typing_covers_C
theorem typing_covers_wv (K : Res → List Cell → Prop) : ∀ v : valsA typing_covers_A, runF tb (getG typing_covers_G) [] Try.f46 [true] (mkA typing_covers_A v) K = typing_covers_raw v.1 v.2.1 v.2.2.1 K
  | (base0, at1, typed2, ()) => typing_covers_walk base0 at1 typed2 K
set_option maxRecDepth 20000 in
theorem typing_covers_ok : AppOk Try.prog 46 typing_covers_S :=
  AppOk.specW (spec_ok (runF_ok tb_M tb_ok typing_covers_Gok (LabsOk.nil) (f := 46) (fn := Try.f46) (by kernel_rfl) (by kernel_rfl) (by kernel_rfl) [true]) fun v K hw h => (typing_covers_wv K v).mpr (typing_covers_sp v.1 v.2.1 v.2.2.1 K hw h.1 h.2))

end Go.VE
namespace Go.VE
open Go Go.Proofs
/-! ### quoin/typing.under -/
def typing_under_G : List (Nat × App) := [(46, typing_covers_S)]
theorem typing_under_Gok : GOk Try.prog (getG typing_under_G) := GOk.cons typing_covers_ok (GOk.nil)
def typing_under_raw (base0 : List Int) (y1 : (Int × Int × List Int × Int × Int)) (K : Res → List Cell → Prop) : Prop :=
  bif (decide (y1.1 = (105 : Int))) then
    K (.one (.v (.int .i64) (0 : Int))) []
  else
    typing_covers_P base0 y1.2.1 y1.2.2.1 ∧ (
    ∀ (r1 : Int), r1 = typing_covers_F base0 y1.2.1 y1.2.2.1 → (
    wfR (.one (.v (.int .i64) r1)) → (
    K (.one (.v (.int .i64) r1)) [])))
def typing_under_A : List AS := [.v (.sl (.int .u8)), .v (.st (.pair (.int .u8) (.pair (.int .i64) (.pair (.sl (.int .u8)) (.pair (.int .i64) (.int .i64))))))]
theorem typing_under_walk (base0 : List Int) (y1 : (Int × Int × List Int × Int × Int)) (K : Res → List Cell → Prop) : runF tb (getG typing_under_G) [] Try.f31 [true] (mkA typing_under_A (base0, y1, ())) K = typing_under_raw base0 y1 K := by kernel_rfl

def typing_under_P (base0 : List Int) (y1 : (Int × Int × List Int × Int × Int)) : Prop :=
  bif (decide (y1.1 = (105 : Int))) then
    True
  else
    typing_covers_P base0 y1.2.1 y1.2.2.1
def typing_under_F (base0 : List Int) (y1 : (Int × Int × List Int × Int × Int)) : Int :=
  bif (decide (y1.1 = (105 : Int))) then
    (0 : Int)
  else
    let r1 : Int := typing_covers_F base0 y1.2.1 y1.2.2.1
    r1
set_option maxRecDepth 20000 in
theorem typing_under_sp (base0 : List Int) (y1 : (Int × Int × List Int × Int × Int)) (K : Res → List Cell → Prop) (_ : wfA typing_under_A (base0, y1, ())) (hp : typing_under_P base0 y1) (h : ∀ r : Int, r = typing_under_F base0 y1 → K (.one (.v (.int .i64) r)) []) : typing_under_raw base0 y1 K := by
  unfold typing_under_raw
  unfold typing_under_P at hp
  refine brb (fun c1 => ?_) (fun c1 => ?_)
  ·
    clear hp
    exact h _ ((ctrue c1) : typing_under_F base0 y1 = _).symm
  ·
    replace hp := cF c1 hp
    refine ⟨hp, ?_⟩
    intro r1 hr1
    subst hr1
    intro _
    exact h _ ((cfalse c1) : typing_under_F base0 y1 = _).symm
def typing_under_C (v : valsA typing_under_A) (K : Res → List Cell → Prop) : Prop := typing_under_P v.1 v.2.1 ∧ ∀ r : Int, r = typing_under_F v.1 v.2.1 → K (.one (.v (.int .i64) r)) []
def typing_under_S : App := specW typing_under_A typing_under_C
theorem typing_under_wv (K : Res → List Cell → Prop) : ∀ v : valsA typing_under_A, runF tb (getG typing_under_G) [] Try.f31 [true] (mkA typing_under_A v) K = typing_under_raw v.1 v.2.1 K
  | (base0, y1, ()) => typing_under_walk base0 y1 K
set_option maxRecDepth 20000 in
theorem typing_under_ok : AppOk Try.prog 31 typing_under_S :=
  AppOk.specW (spec_ok (runF_ok tb_M tb_ok typing_under_Gok (LabsOk.nil) (f := 31) (fn := Try.f31) (by kernel_rfl) (by kernel_rfl) (by kernel_rfl) [true]) fun v K hw h => (typing_under_wv K v).mpr (typing_under_sp v.1 v.2.1 K hw h.1 h.2))
theorem typing_covers_any (base : List Int) (p : Int) (y : List Int) : typing_covers_P base p y := by
  unfold typing_covers_P
  exact ⟨lines_Of_any _ _, lines_End_any _ _, rfl⟩
theorem typing_under_any (base : List Int) (y : Int × Int × List Int × Int × Int) : typing_under_P base y := by
  unfold typing_under_P
  cases decide (y.1 = 105)
  · exact typing_covers_any _ _ _
  · trivial

end Go.VE
namespace Go.VE
open Go Go.Proofs
/-! ### quoin/typing.fits -/
def typing_fits_G : List (Nat × App) := [(30, typing_isText_S), (31, typing_under_S)]
theorem typing_fits_Gok : GOk Try.prog (getG typing_fits_G) := GOk.cons typing_isText_ok (GOk.cons typing_under_ok (GOk.nil))
theorem typing_fits_st : storesC (bodyOf Try.f22) = true := by kernel_rfl
def typing_fits_d0 : List LS := [.v 0 (.sl (.int .u8)), .b 3 24 [], .v 38 (.sl (.int .u8)), .v 39 (.int .i64), .v 40 (.int .i64), .c 24 (.st (.pair (.int .u8) (.pair (.int .i64) (.pair (.sl (.int .u8)) (.pair (.int .i64) (.int .i64))))))]
def typing_fits_d0r : List LS := [.v 4 (.bool)]
def typing_fits_d0x0 : List LS := [.v 0 (.sl (.int .u8)), .b 3 24 [], .c 24 (.st (.pair (.int .u8) (.pair (.int .i64) (.pair (.sl (.int .u8)) (.pair (.int .i64) (.int .i64))))))]
def typing_fits_dx0 : DX := ⟨none, some typing_fits_d0r, [(0, typing_fits_d0x0)]⟩
def typing_fits_T0 (Y : List Int → List Int → Int → Int → (Int × Int × List Int × Int × Int) → Prop) (kr : Bool → Prop) (kx0 : List Int → (Int × Int × List Int × Int × Int) → Prop) (base0 : List Int) (x38 : List Int) (x39 : Int) (x40 : Int) (y3b : (Int × Int × List Int × Int × Int)) : Prop :=
  bif (decide (x40 < x39)) then
    bif decide (0 ≤ x40 ∧ x40 < (List.length x38 : Int)) then
    ∀ (r1 : Bool), r1 = typing_isText_F (rd (0 : Int) x38 x40) → (
    wfR (.one (.v (.bool) r1)) → (
    bif (!r1) then
      kr false
    else
      Y base0 x38 x39 (IntKind.wrap .i64 (x40 + (1 : Int))) y3b))
    else False
  else
    kx0 base0 y3b
def typing_fits_L0 (kr : Bool → Prop) (kx0 : List Int → (Int × Int × List Int × Int × Int) → Prop) : Nat → List Int → List Int → Int → Int → (Int × Int × List Int × Int × Int) → Prop
  | 0, _, _, _, _, _ => False
  | n + 1, base0, x38, x39, x40, y3b => wfD typing_fits_d0 (base0, x38, x39, x40, y3b, ()) → typing_fits_T0 (typing_fits_L0 kr kx0 n) kr kx0 base0 x38 x39 x40 y3b
theorem typing_fits_s0 (k : Ex → St → Prop) (Y : vals typing_fits_d0 → Prop) (base0 : List Int) (x38 : List Int) (x39 : Int) (x40 : Int) (y3b : (Int × Int × List Int × Int × Int)) :
    ex tb (getG typing_fits_G) [] (at' (bodyOf Try.f22) [0, 0, 1, 0, 1, 1]) [0, 0, 1, 0, 1, 1] (mkD 54 typing_fits_d0 (base0, x38, x39, x40, y3b, ())) (lpK 54 typing_fits_d0 typing_fits_dx0 k Y) =
    typing_fits_T0 (fun base0 x38 x39 x40 y3b => Y (base0, x38, x39, x40, y3b, ())) (fun x4 => wfD typing_fits_d0r (x4, ()) → k .ret (mkD 54 typing_fits_d0r (x4, ()))) (fun base0 y3b => wfD typing_fits_d0x0 (base0, y3b, ()) → k (.exit 0) (mkD 54 typing_fits_d0x0 (base0, y3b, ()))) base0 x38 x39 x40 y3b := by kernel_rfl
theorem typing_fits_e0 (k : Ex → St → Prop) : ∀ (n : Nat) (base0 : List Int) (x38 : List Int) (x39 : Int) (x40 : Int) (y3b : (Int × Int × List Int × Int × Int)), lpD 54 typing_fits_d0 typing_fits_dx0 (ex tb (getG typing_fits_G) [] (at' (bodyOf Try.f22) [0, 0, 1, 0, 1, 1]) [0, 0, 1, 0, 1, 1]) k n (base0, x38, x39, x40, y3b, ()) = typing_fits_L0 (fun x4 => wfD typing_fits_d0r (x4, ()) → k .ret (mkD 54 typing_fits_d0r (x4, ()))) (fun base0 y3b => wfD typing_fits_d0x0 (base0, y3b, ()) → k (.exit 0) (mkD 54 typing_fits_d0x0 (base0, y3b, ()))) n base0 x38 x39 x40 y3b
  | 0, _, _, _, _, _ => rfl
  | n + 1, base0, x38, x39, x40, y3b => congrArg (fun Z : Prop => wfD typing_fits_d0 (base0, x38, x39, x40, y3b, ()) → Z) ((typing_fits_s0 k (lpD 54 typing_fits_d0 typing_fits_dx0 (ex tb (getG typing_fits_G) [] (at' (bodyOf Try.f22) [0, 0, 1, 0, 1, 1]) [0, 0, 1, 0, 1, 1]) k n) base0 x38 x39 x40 y3b).trans (congrArg (fun Y => typing_fits_T0 Y (fun x4 => wfD typing_fits_d0r (x4, ()) → k .ret (mkD 54 typing_fits_d0r (x4, ()))) (fun base0 y3b => wfD typing_fits_d0x0 (base0, y3b, ()) → k (.exit 0) (mkD 54 typing_fits_d0x0 (base0, y3b, ()))) base0 x38 x39 x40 y3b) (funext fun base0 => funext fun x38 => funext fun x39 => funext fun x40 => funext fun y3b => typing_fits_e0 k n base0 x38 x39 x40 y3b)))
theorem typing_fits_v0 (k : Ex → St → Prop) (n : Nat) : ∀ v : vals typing_fits_d0, lpD 54 typing_fits_d0 typing_fits_dx0 (ex tb (getG typing_fits_G) [] (at' (bodyOf Try.f22) [0, 0, 1, 0, 1, 1]) [0, 0, 1, 0, 1, 1]) k n v = typing_fits_L0 (fun x4 => wfD typing_fits_d0r (x4, ()) → k .ret (mkD 54 typing_fits_d0r (x4, ()))) (fun base0 y3b => wfD typing_fits_d0x0 (base0, y3b, ()) → k (.exit 0) (mkD 54 typing_fits_d0x0 (base0, y3b, ()))) n v.1 v.2.1 v.2.2.1 v.2.2.2.1 v.2.2.2.2.1
  | (base0, x38, x39, x40, y3b, ()) => typing_fits_e0 k n base0 x38 x39 x40 y3b
def typing_fits_X0 : Pce := fun st k => ckD 54 typing_fits_d0 st fun v => wfD typing_fits_d0 v → ∃ n, typing_fits_L0 (fun x4 => wfD typing_fits_d0r (x4, ()) → k .ret (mkD 54 typing_fits_d0r (x4, ()))) (fun base0 y3b => wfD typing_fits_d0x0 (base0, y3b, ()) → k (.exit 0) (mkD 54 typing_fits_d0x0 (base0, y3b, ()))) n v.1 v.2.1 v.2.2.1 v.2.2.2.1 v.2.2.2.2.1
set_option maxRecDepth 20000 in
theorem typing_fits_x0 : SemOk Try.prog (at' (bodyOf Try.f22) [0, 1, 0, 1, 1]) typing_fits_X0 :=
  (SemOk.loop (ex_sound tb_M tb_ok typing_fits_Gok (LabsOk.nil) (at' (bodyOf Try.f22) [0, 0, 1, 0, 1, 1]) [0, 0, 1, 0, 1, 1] rfl (storesC_at typing_fits_st [0, 0, 1, 0, 1, 1])) 54 typing_fits_d0 typing_fits_dx0).mono fun st k h => ckD_mono h fun v hv hw => (hv hw).elim fun n hn => ⟨n, Eq.mpr (typing_fits_v0 k n v) hn⟩
def typing_fits_B0 : Labs := ([0, 1, 0, 1, 1], typing_fits_X0) :: []
theorem typing_fits_b0 : LabsOk Try.prog (bodyOf Try.f22) typing_fits_B0 := LabsOk.cons typing_fits_x0 (LabsOk.nil)
def typing_fits_raw (base0 : List Int) (y1 : (Int × Int × List Int × Int × Int)) (K : Res → List Cell → Prop) : Prop :=
  bif (!decide (y1.1 = (105 : Int))) then
    bif (!decide (y1.1 = (82 : Int))) then
      K (.one (.v (.bool) false)) []
    else
    bif (decide (y1.2.1 < (0 : Int))) then
      K (.one (.v (.bool) false)) []
    else
    bif (decide ((List.length base0 : Int) < y1.2.1)) then
      K (.one (.v (.bool) false)) []
    else
    bif (decide (y1.2.2.2.2 < (1 : Int))) then
      K (.one (.v (.bool) false)) []
    else
    bif (decide ((9999 : Int) < y1.2.2.2.2)) then
      K (.one (.v (.bool) false)) []
    else
      (wfD typing_fits_d0 (base0, y1.2.2.1, (List.length y1.2.2.1 : Int), (0 : Int), y1, ()) → ∃ n, typing_fits_L0 (fun (x4 : Bool) => wfD typing_fits_d0r (x4, ()) → (
          K (.one (.v (.bool) x4)) [])) (fun (base0 : List Int) (y3b : (Int × Int × List Int × Int × Int)) => wfD typing_fits_d0x0 (base0, y3b, ()) → (
          typing_under_P base0 y3b ∧ (
          ∀ (r2 : Int), r2 = typing_under_F base0 y3b → (
          wfR (.one (.v (.int .i64) r2)) → (
          K (.one (.v (.bool) (decide (y3b.2.2.2.1 = r2)))) []))))) n base0 y1.2.2.1 (List.length y1.2.2.1 : Int) (0 : Int) y1)
  else
  bif (decide (y1.2.1 < (0 : Int))) then
    K (.one (.v (.bool) false)) []
  else
  bif (decide ((List.length base0 : Int) < y1.2.1)) then
    K (.one (.v (.bool) false)) []
  else
  bif (decide (y1.2.2.2.2 < (1 : Int))) then
    K (.one (.v (.bool) false)) []
  else
  bif (decide ((9999 : Int) < y1.2.2.2.2)) then
    K (.one (.v (.bool) false)) []
  else
    (wfD typing_fits_d0 (base0, y1.2.2.1, (List.length y1.2.2.1 : Int), (0 : Int), y1, ()) → ∃ n, typing_fits_L0 (fun (x4 : Bool) => wfD typing_fits_d0r (x4, ()) → (
        K (.one (.v (.bool) x4)) [])) (fun (base0 : List Int) (y3b : (Int × Int × List Int × Int × Int)) => wfD typing_fits_d0x0 (base0, y3b, ()) → (
        typing_under_P base0 y3b ∧ (
        ∀ (r3 : Int), r3 = typing_under_F base0 y3b → (
        wfR (.one (.v (.int .i64) r3)) → (
        K (.one (.v (.bool) (decide (y3b.2.2.2.1 = r3)))) []))))) n base0 y1.2.2.1 (List.length y1.2.2.1 : Int) (0 : Int) y1)
def typing_fits_A : List AS := [.v (.sl (.int .u8)), .v (.st (.pair (.int .u8) (.pair (.int .i64) (.pair (.sl (.int .u8)) (.pair (.int .i64) (.int .i64))))))]
theorem typing_fits_walk (base0 : List Int) (y1 : (Int × Int × List Int × Int × Int)) (K : Res → List Cell → Prop) : runF tb (getG typing_fits_G) typing_fits_B0 Try.f22 [true] (mkA typing_fits_A (base0, y1, ())) K = typing_fits_raw base0 y1 K := by kernel_rfl
--! pre 0
def typing_fits_F (base : List Int) (y : Int × Int × List Int × Int × Int) : Bool :=
  decide ((y.1 = 105 ∨ y.1 = 82) ∧ 0 ≤ y.2.1 ∧ y.2.1 ≤ base.length ∧ 1 ≤ y.2.2.2.2 ∧ y.2.2.2.2 ≤ 9999 ∧ (∀ b ∈ y.2.2.1, typing_isText_F b = true) ∧ y.2.2.2.1 = typing_under_F base y)
theorem typing_fits_l0 (kr : Bool → Prop) (kx0 : List Int → (Int × Int × List Int × Int × Int) → Prop) (base xs : List Int) (y : Int × Int × List Int × Int × Int) (hx : xs.length ≤ 9223372036854775807) : ∀ (d m i : Nat), i + d = xs.length → d < m →
    ((∃ b ∈ xs, typing_isText_F b = false) → kr false) → ((∀ b ∈ xs.drop i, typing_isText_F b = true) → kx0 base y) → typing_fits_L0 kr kx0 m base xs (xs.length : Int) (i : Int) y
  | _, 0, _, _, h, _, _ => absurd h (Nat.not_lt_zero _)
  | d, m + 1, i, hd, hm, h1, h2 => by
    intro _
    unfold typing_fits_T0
    refine brn (fun hlt => asrt (by omega) fun r hr _ => ?_) (fun hge => h2 ?_)
    · have hi : i < xs.length := by omega
      have hrd : rd (0 : Int) xs (i : Int) = xs[i] := by have := rd_get (0 : Int) xs (i : Int) (by simpa using hi); simpa using this
      rw [hrd] at hr
      refine brb (fun h => h1 ⟨xs[i], List.getElem_mem hi, ?_⟩) (fun h => ?_)
      · rw [← hr]; simpa using h
      · rw [wrap_i64 (by omega) (by omega)]
        obtain ⟨d', rfl⟩ : ∃ d', d = d' + 1 := ⟨d - 1, by omega⟩
        have := typing_fits_l0 kr kx0 base xs y hx d' m (i + 1) (by omega) (by omega) h1 (fun ha => h2 (fun b hb => by
          rw [List.drop_eq_getElem_cons hi] at hb
          rcases List.mem_cons.1 hb with e | hb
          · rw [e, ← hr]; simpa using h
          · exact ha b hb))
        simpa using this
    · rw [List.drop_eq_nil_of_le (by omega)]; intro b hb; cases hb
theorem typing_fits_sp (base : List Int) (y : Int × Int × List Int × Int × Int) (K : Res → List Cell → Prop) (hw : wfA typing_fits_A (base, y, ())) (h : ∀ r : Bool, r = typing_fits_F base y → K (.one (.v .bool r)) []) : typing_fits_raw base y K := by
  have hx : y.2.2.1.length ≤ 9223372036854775807 := hw.2.1.2.2.1.1
  have no : ¬ ((y.1 = 105 ∨ y.1 = 82) ∧ 0 ≤ y.2.1 ∧ y.2.1 ≤ base.length ∧ 1 ≤ y.2.2.2.2 ∧ y.2.2.2.2 ≤ 9999 ∧ (∀ b ∈ y.2.2.1, typing_isText_F b = true) ∧ y.2.2.2.1 = typing_under_F base y) → K (.one (.v .bool false)) [] :=
    fun hn => h false (by unfold typing_fits_F; exact (decide_eq_false hn).symm)
  unfold typing_fits_raw
  have loop : (y.1 = 105 ∨ y.1 = 82) → 0 ≤ y.2.1 → y.2.1 ≤ base.length → 1 ≤ y.2.2.2.2 → y.2.2.2.2 ≤ 9999 → wfD typing_fits_d0 (base, y.2.2.1, (List.length y.2.2.1 : Int), (0 : Int), y, ()) → ∃ n, typing_fits_L0 (fun (x4 : Bool) => wfD typing_fits_d0r (x4, ()) → (
          K (.one (.v (.bool) x4)) [])) (fun (base0 : List Int) (y3b : (Int × Int × List Int × Int × Int)) => wfD typing_fits_d0x0 (base0, y3b, ()) → (
          typing_under_P base0 y3b ∧ (
          ∀ (r2 : Int), r2 = typing_under_F base0 y3b → (
          wfR (.one (.v (.int .i64) r2)) → (
          K (.one (.v (.bool) (decide (y3b.2.2.2.1 = r2)))) []))))) n base y.2.2.1 (List.length y.2.2.1 : Int) (0 : Int) y := by
    intro h1 h2 h3 h4 h5 _
    refine ⟨y.2.2.1.length + 1, typing_fits_l0 _ _ base y.2.2.1 y hx y.2.2.1.length _ 0 (by omega) (by omega) (fun ⟨b, hb, hf⟩ _ => no ?_) (fun ha _ => ⟨typing_under_any _ _, fun r hr _ => h _ ?_⟩)⟩
    · rintro ⟨_, _, _, _, _, hall, _⟩; rw [hall b hb] at hf; cases hf
    · unfold typing_fits_F
      rw [decide_eq_decide, ← hr]
      exact ⟨fun e => ⟨h1, h2, h3, h4, h5, ha, e⟩, fun e => e.2.2.2.2.2.2⟩
  have rest : (y.1 = 105 ∨ y.1 = 82) → _ := fun h1 => (brn (c := y.2.1 < 0) (fun hc => no (by omega)) (fun h2 => brn (c := (base.length : Int) < y.2.1) (fun hc => no (by omega)) (fun h3 => brn (c := y.2.2.2.2 < 1) (fun hc => no (by omega)) (fun h4 => brn (c := 9999 < y.2.2.2.2) (fun hc => no (by omega)) (fun h5 => loop h1 (by omega) (by omega) (by omega) (by omega))))))
  refine brb (fun ha => brb (fun hb => no ?_) (fun hb => rest (.inr (by simpa using hb)))) (fun ha => rest (.inl (by simpa using ha)))
  rintro ⟨h1 | h1, _⟩
  · simp [h1] at ha
  · simp [h1] at hb

def typing_fits_C (v : valsA typing_fits_A) (K : Res → List Cell → Prop) : Prop := ∀ r : Bool, r = typing_fits_F v.1 v.2.1 → K (.one (.v (.bool) r)) []
def typing_fits_S : App := specW typing_fits_A typing_fits_C
theorem typing_fits_wv (K : Res → List Cell → Prop) : ∀ v : valsA typing_fits_A, runF tb (getG typing_fits_G) typing_fits_B0 Try.f22 [true] (mkA typing_fits_A v) K = typing_fits_raw v.1 v.2.1 K
  | (base0, y1, ()) => typing_fits_walk base0 y1 K
set_option maxRecDepth 20000 in
theorem typing_fits_ok : AppOk Try.prog 22 typing_fits_S :=
  AppOk.specW (spec_ok (runF_ok tb_M tb_ok typing_fits_Gok (typing_fits_b0) (f := 22) (fn := Try.f22) (by kernel_rfl) (by kernel_rfl) typing_fits_st [true]) fun v K hw h => (typing_fits_wv K v).mpr (typing_fits_sp v.1 v.2.1 K hw h))

end Go.VE
namespace Go.VE
open Go Go.Proofs
/-! ### internal/bytealg.LastIndexByte -/
def internal_bytealg_LastIndexByte_G : List (Nat × App) := []
theorem internal_bytealg_LastIndexByte_Gok : GOk Try.prog (getG internal_bytealg_LastIndexByte_G) := GOk.nil
theorem internal_bytealg_LastIndexByte_st : storesC (bodyOf Try.f44) = true := by kernel_rfl
def internal_bytealg_LastIndexByte_d0 : List LS := [.v 0 (.sl (.int .u8)), .v 1 (.int .u8), .v 5 (.int .i64)]
def internal_bytealg_LastIndexByte_d0r : List LS := [.v 4 (.int .i64)]
def internal_bytealg_LastIndexByte_d0x0 : List LS := []
def internal_bytealg_LastIndexByte_dx0 : DX := ⟨none, some internal_bytealg_LastIndexByte_d0r, [(0, internal_bytealg_LastIndexByte_d0x0)]⟩
def internal_bytealg_LastIndexByte_T0 (Y : List Int → Int → Int → Prop) (kr : Int → Prop) (kx0 : Prop) (s0 : List Int) (c1 : Int) (i5 : Int) : Prop :=
  bif (decide ((0 : Int) ≤ i5)) then
    bif decide (0 ≤ i5 ∧ i5 < (List.length s0 : Int)) then
    bif (decide ((rd (0 : Int) s0 i5) = c1)) then
      kr i5
    else
      Y s0 c1 (IntKind.wrap .i64 (i5 - (1 : Int)))
    else False
  else
    kx0
def internal_bytealg_LastIndexByte_L0 (kr : Int → Prop) (kx0 : Prop) : Nat → List Int → Int → Int → Prop
  | 0, _, _, _ => False
  | n + 1, s0, c1, i5 => wfD internal_bytealg_LastIndexByte_d0 (s0, c1, i5, ()) → internal_bytealg_LastIndexByte_T0 (internal_bytealg_LastIndexByte_L0 kr kx0 n) kr kx0 s0 c1 i5
theorem internal_bytealg_LastIndexByte_s0 (k : Ex → St → Prop) (Y : vals internal_bytealg_LastIndexByte_d0 → Prop) (s0 : List Int) (c1 : Int) (i5 : Int) :
    ex tb (getG internal_bytealg_LastIndexByte_G) [] (at' (bodyOf Try.f44) [0, 0, 1, 0, 1]) [0, 0, 1, 0, 1] (mkD 20 internal_bytealg_LastIndexByte_d0 (s0, c1, i5, ())) (lpK 20 internal_bytealg_LastIndexByte_d0 internal_bytealg_LastIndexByte_dx0 k Y) =
    internal_bytealg_LastIndexByte_T0 (fun s0 c1 i5 => Y (s0, c1, i5, ())) (fun x4 => wfD internal_bytealg_LastIndexByte_d0r (x4, ()) → k .ret (mkD 20 internal_bytealg_LastIndexByte_d0r (x4, ()))) (wfD internal_bytealg_LastIndexByte_d0x0 () → k (.exit 0) (mkD 20 internal_bytealg_LastIndexByte_d0x0 ())) s0 c1 i5 := by kernel_rfl
theorem internal_bytealg_LastIndexByte_e0 (k : Ex → St → Prop) : ∀ (n : Nat) (s0 : List Int) (c1 : Int) (i5 : Int), lpD 20 internal_bytealg_LastIndexByte_d0 internal_bytealg_LastIndexByte_dx0 (ex tb (getG internal_bytealg_LastIndexByte_G) [] (at' (bodyOf Try.f44) [0, 0, 1, 0, 1]) [0, 0, 1, 0, 1]) k n (s0, c1, i5, ()) = internal_bytealg_LastIndexByte_L0 (fun x4 => wfD internal_bytealg_LastIndexByte_d0r (x4, ()) → k .ret (mkD 20 internal_bytealg_LastIndexByte_d0r (x4, ()))) (wfD internal_bytealg_LastIndexByte_d0x0 () → k (.exit 0) (mkD 20 internal_bytealg_LastIndexByte_d0x0 ())) n s0 c1 i5
  | 0, _, _, _ => rfl
  | n + 1, s0, c1, i5 => congrArg (fun Z : Prop => wfD internal_bytealg_LastIndexByte_d0 (s0, c1, i5, ()) → Z) ((internal_bytealg_LastIndexByte_s0 k (lpD 20 internal_bytealg_LastIndexByte_d0 internal_bytealg_LastIndexByte_dx0 (ex tb (getG internal_bytealg_LastIndexByte_G) [] (at' (bodyOf Try.f44) [0, 0, 1, 0, 1]) [0, 0, 1, 0, 1]) k n) s0 c1 i5).trans (congrArg (fun Y => internal_bytealg_LastIndexByte_T0 Y (fun x4 => wfD internal_bytealg_LastIndexByte_d0r (x4, ()) → k .ret (mkD 20 internal_bytealg_LastIndexByte_d0r (x4, ()))) (wfD internal_bytealg_LastIndexByte_d0x0 () → k (.exit 0) (mkD 20 internal_bytealg_LastIndexByte_d0x0 ())) s0 c1 i5) (funext fun s0 => funext fun c1 => funext fun i5 => internal_bytealg_LastIndexByte_e0 k n s0 c1 i5)))
theorem internal_bytealg_LastIndexByte_v0 (k : Ex → St → Prop) (n : Nat) : ∀ v : vals internal_bytealg_LastIndexByte_d0, lpD 20 internal_bytealg_LastIndexByte_d0 internal_bytealg_LastIndexByte_dx0 (ex tb (getG internal_bytealg_LastIndexByte_G) [] (at' (bodyOf Try.f44) [0, 0, 1, 0, 1]) [0, 0, 1, 0, 1]) k n v = internal_bytealg_LastIndexByte_L0 (fun x4 => wfD internal_bytealg_LastIndexByte_d0r (x4, ()) → k .ret (mkD 20 internal_bytealg_LastIndexByte_d0r (x4, ()))) (wfD internal_bytealg_LastIndexByte_d0x0 () → k (.exit 0) (mkD 20 internal_bytealg_LastIndexByte_d0x0 ())) n v.1 v.2.1 v.2.2.1
  | (s0, c1, i5, ()) => internal_bytealg_LastIndexByte_e0 k n s0 c1 i5
def internal_bytealg_LastIndexByte_X0 : Pce := fun st k => ckD 20 internal_bytealg_LastIndexByte_d0 st fun v => wfD internal_bytealg_LastIndexByte_d0 v → ∃ n, internal_bytealg_LastIndexByte_L0 (fun x4 => wfD internal_bytealg_LastIndexByte_d0r (x4, ()) → k .ret (mkD 20 internal_bytealg_LastIndexByte_d0r (x4, ()))) (wfD internal_bytealg_LastIndexByte_d0x0 () → k (.exit 0) (mkD 20 internal_bytealg_LastIndexByte_d0x0 ())) n v.1 v.2.1 v.2.2.1
set_option maxRecDepth 20000 in
theorem internal_bytealg_LastIndexByte_x0 : SemOk Try.prog (at' (bodyOf Try.f44) [0, 1, 0, 1]) internal_bytealg_LastIndexByte_X0 :=
  (SemOk.loop (ex_sound tb_M tb_ok internal_bytealg_LastIndexByte_Gok (LabsOk.nil) (at' (bodyOf Try.f44) [0, 0, 1, 0, 1]) [0, 0, 1, 0, 1] rfl (storesC_at internal_bytealg_LastIndexByte_st [0, 0, 1, 0, 1])) 20 internal_bytealg_LastIndexByte_d0 internal_bytealg_LastIndexByte_dx0).mono fun st k h => ckD_mono h fun v hv hw => (hv hw).elim fun n hn => ⟨n, Eq.mpr (internal_bytealg_LastIndexByte_v0 k n v) hn⟩
def internal_bytealg_LastIndexByte_B0 : Labs := ([0, 1, 0, 1], internal_bytealg_LastIndexByte_X0) :: []
theorem internal_bytealg_LastIndexByte_b0 : LabsOk Try.prog (bodyOf Try.f44) internal_bytealg_LastIndexByte_B0 := LabsOk.cons internal_bytealg_LastIndexByte_x0 (LabsOk.nil)
def internal_bytealg_LastIndexByte_raw (s0 : List Int) (c1 : Int) (K : Res → List Cell → Prop) : Prop :=
  (wfD internal_bytealg_LastIndexByte_d0 (s0, c1, (IntKind.wrap .i64 ((List.length s0 : Int) - (1 : Int))), ()) → ∃ n, internal_bytealg_LastIndexByte_L0 (fun (x4 : Int) => wfD internal_bytealg_LastIndexByte_d0r (x4, ()) → (
      K (.one (.v (.int .i64) x4)) [])) (wfD internal_bytealg_LastIndexByte_d0x0 () → (
      K (.one (.v (.int .i64) (-1 : Int))) [])) n s0 c1 (IntKind.wrap .i64 ((List.length s0 : Int) - (1 : Int))))
def internal_bytealg_LastIndexByte_A : List AS := [.v (.sl (.int .u8)), .v (.int .u8)]
theorem internal_bytealg_LastIndexByte_walk (s0 : List Int) (c1 : Int) (K : Res → List Cell → Prop) : runF tb (getG internal_bytealg_LastIndexByte_G) internal_bytealg_LastIndexByte_B0 Try.f44 [true] (mkA internal_bytealg_LastIndexByte_A (s0, c1, ())) K = internal_bytealg_LastIndexByte_raw s0 c1 K := by kernel_rfl
--! pre 0
def lastUp (xs : List Int) (c : Int) : Nat → Int
  | 0 => -1
  | n + 1 => if rd (0 : Int) xs n = c then n else lastUp xs c n
theorem lastUp_le (xs : List Int) (c : Int) : ∀ n, -1 ≤ lastUp xs c n ∧ lastUp xs c n < n
  | 0 => by simp [lastUp]
  | n + 1 => by
    have := lastUp_le xs c n
    unfold lastUp
    split <;> omega
def internal_bytealg_LastIndexByte_F (xs : List Int) (c : Int) : Int := lastUp xs c xs.length
theorem internal_bytealg_LastIndexByte_l0 (kr : Int → Prop) (kx0 : Prop) (xs : List Int) (c : Int) (hx : xs.length ≤ 9223372036854775807) : ∀ (n m : Nat), n ≤ xs.length → n < m →
    (∀ i, i = lastUp xs c n → i ≠ -1 → kr i) → (lastUp xs c n = -1 → kx0) → internal_bytealg_LastIndexByte_L0 kr kx0 m xs c ((n : Int) - 1)
  | _, 0, _, h, _, _ => absurd h (Nat.not_lt_zero _)
  | 0, m + 1, _, _, _, h2 => by
    intro _
    unfold internal_bytealg_LastIndexByte_T0
    exact brn (fun h => by omega) (fun _ => h2 rfl)
  | n + 1, m + 1, hn, hm, h1, h2 => by
    intro _
    unfold internal_bytealg_LastIndexByte_T0
    have e : ((n + 1 : Nat) : Int) - 1 = (n : Int) := by omega
    rw [e]
    refine brn (fun _ => asrt (by omega) (brn (fun h => h1 _ ?_ (by omega)) (fun h => ?_))) (fun h => absurd (by omega) h)
    · unfold lastUp; rw [if_pos h]
    · rw [wrap_i64 (by omega) (by omega)]
      have e2 : lastUp xs c (n + 1) = lastUp xs c n := by conv => lhs; unfold lastUp; rw [if_neg h]
      exact internal_bytealg_LastIndexByte_l0 kr kx0 xs c hx n m (by omega) (by omega) (fun i hi => h1 i (by rw [e2]; exact hi)) (fun hi => h2 (by rw [e2]; exact hi))
theorem internal_bytealg_LastIndexByte_sp (s : List Int) (c : Int) (K : Res → List Cell → Prop) (hw : wfA internal_bytealg_LastIndexByte_A (s, c, ())) (h : ∀ r : Int, r = internal_bytealg_LastIndexByte_F s c → K (.one (.v (.int .i64) r)) []) : internal_bytealg_LastIndexByte_raw s c K := by
  have hs : s.length ≤ 9223372036854775807 := hw.1.1
  unfold internal_bytealg_LastIndexByte_raw
  intro _
  rw [wrap_i64 (by omega) (by omega)]
  refine ⟨s.length + 1, internal_bytealg_LastIndexByte_l0 _ _ s c hs s.length (s.length + 1) (Nat.le_refl _) (Nat.lt_succ_self _) (fun i hi _ _ => h i hi) (fun hi _ => h _ hi.symm)⟩

def internal_bytealg_LastIndexByte_C (v : valsA internal_bytealg_LastIndexByte_A) (K : Res → List Cell → Prop) : Prop := ∀ r : Int, r = internal_bytealg_LastIndexByte_F v.1 v.2.1 → K (.one (.v (.int .i64) r)) []
def internal_bytealg_LastIndexByte_S : App := specW internal_bytealg_LastIndexByte_A internal_bytealg_LastIndexByte_C
theorem internal_bytealg_LastIndexByte_wv (K : Res → List Cell → Prop) : ∀ v : valsA internal_bytealg_LastIndexByte_A, runF tb (getG internal_bytealg_LastIndexByte_G) internal_bytealg_LastIndexByte_B0 Try.f44 [true] (mkA internal_bytealg_LastIndexByte_A v) K = internal_bytealg_LastIndexByte_raw v.1 v.2.1 K
  | (s0, c1, ()) => internal_bytealg_LastIndexByte_walk s0 c1 K
set_option maxRecDepth 20000 in
theorem internal_bytealg_LastIndexByte_ok : AppOk Try.prog 44 internal_bytealg_LastIndexByte_S :=
  AppOk.specW (spec_ok (runF_ok tb_M tb_ok internal_bytealg_LastIndexByte_Gok (internal_bytealg_LastIndexByte_b0) (f := 44) (fn := Try.f44) (by kernel_rfl) (by kernel_rfl) internal_bytealg_LastIndexByte_st [true]) fun v K hw h => (internal_bytealg_LastIndexByte_wv K v).mpr (internal_bytealg_LastIndexByte_sp v.1 v.2.1 K hw h))

end Go.VE
namespace Go.VE
open Go Go.Proofs
/-! ### bytes.LastIndexByte -/
def bytes_LastIndexByte_G : List (Nat × App) := [(44, internal_bytealg_LastIndexByte_S)]
theorem bytes_LastIndexByte_Gok : GOk Try.prog (getG bytes_LastIndexByte_G) := GOk.cons internal_bytealg_LastIndexByte_ok (GOk.nil)
def bytes_LastIndexByte_raw (s0 : List Int) (c1 : Int) (K : Res → List Cell → Prop) : Prop :=
  ∀ (r1 : Int), r1 = internal_bytealg_LastIndexByte_F s0 c1 → (
  wfR (.one (.v (.int .i64) r1)) → (
  K (.one (.v (.int .i64) r1)) []))
def bytes_LastIndexByte_A : List AS := [.v (.sl (.int .u8)), .v (.int .u8)]
theorem bytes_LastIndexByte_walk (s0 : List Int) (c1 : Int) (K : Res → List Cell → Prop) : runF tb (getG bytes_LastIndexByte_G) [] Try.f28 [true] (mkA bytes_LastIndexByte_A (s0, c1, ())) K = bytes_LastIndexByte_raw s0 c1 K := by kernel_rfl

def bytes_LastIndexByte_F (s0 : List Int) (c1 : Int) : Int :=
  let r1 : Int := internal_bytealg_LastIndexByte_F s0 c1
  r1
set_option maxRecDepth 20000 in
theorem bytes_LastIndexByte_sp (s0 : List Int) (c1 : Int) (K : Res → List Cell → Prop) (_ : wfA bytes_LastIndexByte_A (s0, c1, ())) (h : ∀ r : Int, r = bytes_LastIndexByte_F s0 c1 → K (.one (.v (.int .i64) r)) []) : bytes_LastIndexByte_raw s0 c1 K := by
  unfold bytes_LastIndexByte_raw
  intro r1 hr1
  subst hr1
  intro _
  exact h _ rfl
def bytes_LastIndexByte_C (v : valsA bytes_LastIndexByte_A) (K : Res → List Cell → Prop) : Prop := ∀ r : Int, r = bytes_LastIndexByte_F v.1 v.2.1 → K (.one (.v (.int .i64) r)) []
def bytes_LastIndexByte_S : App := specW bytes_LastIndexByte_A bytes_LastIndexByte_C
theorem bytes_LastIndexByte_wv (K : Res → List Cell → Prop) : ∀ v : valsA bytes_LastIndexByte_A, runF tb (getG bytes_LastIndexByte_G) [] Try.f28 [true] (mkA bytes_LastIndexByte_A v) K = bytes_LastIndexByte_raw v.1 v.2.1 K
  | (s0, c1, ()) => bytes_LastIndexByte_walk s0 c1 K
set_option maxRecDepth 20000 in
theorem bytes_LastIndexByte_ok : AppOk Try.prog 28 bytes_LastIndexByte_S :=
  AppOk.specW (spec_ok (runF_ok tb_M tb_ok bytes_LastIndexByte_Gok (LabsOk.nil) (f := 28) (fn := Try.f28) (by kernel_rfl) (by kernel_rfl) (by kernel_rfl) [true]) fun v K hw h => (bytes_LastIndexByte_wv K v).mpr (bytes_LastIndexByte_sp v.1 v.2.1 K hw h))

end Go.VE
namespace Go.VE
open Go Go.Proofs
/-! ### quoin/class.small -/
def class_small_G : List (Nat × App) := []
theorem class_small_Gok : GOk Try.prog (getG class_small_G) := GOk.nil
def class_small_raw (b0 : Int) (K : Res → List Cell → Prop) : Prop :=
  bif (decide ((97 : Int) ≤ b0)) then
    K (.one (.v (.bool) (decide (b0 ≤ (122 : Int))))) []
  else
    K (.one (.v (.bool) false)) []
def class_small_A : List AS := [.v (.int .u8)]
theorem class_small_walk (b0 : Int) (K : Res → List Cell → Prop) : runF tb (getG class_small_G) [] Try.f57 [true] (mkA class_small_A (b0, ())) K = class_small_raw b0 K := by kernel_rfl

def class_small_F (b0 : Int) : Bool :=
  bif (decide ((97 : Int) ≤ b0)) then
    (decide (b0 ≤ (122 : Int)))
  else
    false
set_option maxRecDepth 20000 in
theorem class_small_sp (b0 : Int) (K : Res → List Cell → Prop) (_ : wfA class_small_A (b0, ())) (h : ∀ r : Bool, r = class_small_F b0 → K (.one (.v (.bool) r)) []) : class_small_raw b0 K := by
  unfold class_small_raw
  refine brb (fun c1 => ?_) (fun c1 => ?_)
  ·
    exact h _ ((ctrue c1) : class_small_F b0 = _).symm
  ·
    exact h _ ((cfalse c1) : class_small_F b0 = _).symm
def class_small_C (v : valsA class_small_A) (K : Res → List Cell → Prop) : Prop := ∀ r : Bool, r = class_small_F v.1 → K (.one (.v (.bool) r)) []
def class_small_S : App := specW class_small_A class_small_C
theorem class_small_wv (K : Res → List Cell → Prop) : ∀ v : valsA class_small_A, runF tb (getG class_small_G) [] Try.f57 [true] (mkA class_small_A v) K = class_small_raw v.1 K
  | (b0, ()) => class_small_walk b0 K
set_option maxRecDepth 20000 in
theorem class_small_ok : AppOk Try.prog 57 class_small_S :=
  AppOk.specW (spec_ok (runF_ok tb_M tb_ok class_small_Gok (LabsOk.nil) (f := 57) (fn := Try.f57) (by kernel_rfl) (by kernel_rfl) (by kernel_rfl) [true]) fun v K hw h => (class_small_wv K v).mpr (class_small_sp v.1 K hw h))

end Go.VE
namespace Go.VE
open Go Go.Proofs
/-! ### quoin/class.great -/
def class_great_G : List (Nat × App) := []
theorem class_great_Gok : GOk Try.prog (getG class_great_G) := GOk.nil
def class_great_raw (b0 : Int) (K : Res → List Cell → Prop) : Prop :=
  bif (decide ((65 : Int) ≤ b0)) then
    K (.one (.v (.bool) (decide (b0 ≤ (90 : Int))))) []
  else
    K (.one (.v (.bool) false)) []
def class_great_A : List AS := [.v (.int .u8)]
theorem class_great_walk (b0 : Int) (K : Res → List Cell → Prop) : runF tb (getG class_great_G) [] Try.f58 [true] (mkA class_great_A (b0, ())) K = class_great_raw b0 K := by kernel_rfl

def class_great_F (b0 : Int) : Bool :=
  bif (decide ((65 : Int) ≤ b0)) then
    (decide (b0 ≤ (90 : Int)))
  else
    false
set_option maxRecDepth 20000 in
theorem class_great_sp (b0 : Int) (K : Res → List Cell → Prop) (_ : wfA class_great_A (b0, ())) (h : ∀ r : Bool, r = class_great_F b0 → K (.one (.v (.bool) r)) []) : class_great_raw b0 K := by
  unfold class_great_raw
  refine brb (fun c1 => ?_) (fun c1 => ?_)
  ·
    exact h _ ((ctrue c1) : class_great_F b0 = _).symm
  ·
    exact h _ ((cfalse c1) : class_great_F b0 = _).symm
def class_great_C (v : valsA class_great_A) (K : Res → List Cell → Prop) : Prop := ∀ r : Bool, r = class_great_F v.1 → K (.one (.v (.bool) r)) []
def class_great_S : App := specW class_great_A class_great_C
theorem class_great_wv (K : Res → List Cell → Prop) : ∀ v : valsA class_great_A, runF tb (getG class_great_G) [] Try.f58 [true] (mkA class_great_A v) K = class_great_raw v.1 K
  | (b0, ()) => class_great_walk b0 K
set_option maxRecDepth 20000 in
theorem class_great_ok : AppOk Try.prog 58 class_great_S :=
  AppOk.specW (spec_ok (runF_ok tb_M tb_ok class_great_Gok (LabsOk.nil) (f := 58) (fn := Try.f58) (by kernel_rfl) (by kernel_rfl) (by kernel_rfl) [true]) fun v K hw h => (class_great_wv K v).mpr (class_great_sp v.1 K hw h))

end Go.VE
namespace Go.VE
open Go Go.Proofs
/-! ### quoin/class.Of -/
def class_Of_G : List (Nat × App) := [(57, class_small_S), (58, class_great_S)]
theorem class_Of_Gok : GOk Try.prog (getG class_Of_G) := GOk.cons class_small_ok (GOk.cons class_great_ok (GOk.nil))
def class_Of_raw (b0 : Int) (big1 : Bool) (K : Res → List Cell → Prop) : Prop :=
  bif (decide (b0 = (10 : Int))) then
    K (.one (.v (.int .i64) (3 : Int))) []
  else
  bif (decide (b0 = (32 : Int))) then
    K (.one (.v (.int .i64) (0 : Int))) []
  else
  bif (decide (b0 = (9 : Int))) then
    K (.one (.v (.int .i64) (0 : Int))) []
  else
  bif big1 then
    K (.one (.v (.int .i64) (2 : Int))) []
  else
    ∀ (r1 : Bool), r1 = class_small_F b0 → (
    wfR (.one (.v (.bool) r1)) → (
    bif r1 then
      K (.one (.v (.int .i64) (2 : Int))) []
    else
      ∀ (r2 : Bool), r2 = class_great_F b0 → (
      wfR (.one (.v (.bool) r2)) → (
      bif r2 then
        K (.one (.v (.int .i64) (2 : Int))) []
      else
      bif (decide ((48 : Int) ≤ b0)) then
        bif (decide (b0 ≤ (57 : Int))) then
          K (.one (.v (.int .i64) (2 : Int))) []
        else
        bif (decide (b0 = (95 : Int))) then
          K (.one (.v (.int .i64) (2 : Int))) []
        else
        bif (decide ((128 : Int) ≤ b0)) then
          K (.one (.v (.int .i64) (2 : Int))) []
        else
          K (.one (.v (.int .i64) (1 : Int))) []
      else
      bif (decide (b0 = (95 : Int))) then
        K (.one (.v (.int .i64) (2 : Int))) []
      else
      bif (decide ((128 : Int) ≤ b0)) then
        K (.one (.v (.int .i64) (2 : Int))) []
      else
        K (.one (.v (.int .i64) (1 : Int))) []))))
def class_Of_A : List AS := [.v (.int .u8), .v (.bool)]
theorem class_Of_walk (b0 : Int) (big1 : Bool) (K : Res → List Cell → Prop) : runF tb (getG class_Of_G) [] Try.f45 [true] (mkA class_Of_A (b0, big1, ())) K = class_Of_raw b0 big1 K := by kernel_rfl

def class_Of_F (b0 : Int) (big1 : Bool) : Int :=
  bif (decide (b0 = (10 : Int))) then
    (3 : Int)
  else
    bif (decide (b0 = (32 : Int))) then
      (0 : Int)
    else
      bif (decide (b0 = (9 : Int))) then
        (0 : Int)
      else
        bif big1 then
          (2 : Int)
        else
          let r1 : Bool := class_small_F b0
          bif r1 then
            (2 : Int)
          else
            let r2 : Bool := class_great_F b0
            bif r2 then
              (2 : Int)
            else
              bif (decide ((48 : Int) ≤ b0)) then
                bif (decide (b0 ≤ (57 : Int))) then
                  (2 : Int)
                else
                  bif (decide (b0 = (95 : Int))) then
                    (2 : Int)
                  else
                    bif (decide ((128 : Int) ≤ b0)) then
                      (2 : Int)
                    else
                      (1 : Int)
              else
                bif (decide (b0 = (95 : Int))) then
                  (2 : Int)
                else
                  bif (decide ((128 : Int) ≤ b0)) then
                    (2 : Int)
                  else
                    (1 : Int)
set_option maxRecDepth 20000 in
theorem class_Of_sp (b0 : Int) (big1 : Bool) (K : Res → List Cell → Prop) (_ : wfA class_Of_A (b0, big1, ())) (h : ∀ r : Int, r = class_Of_F b0 big1 → K (.one (.v (.int .i64) r)) []) : class_Of_raw b0 big1 K := by
  unfold class_Of_raw
  refine brb (fun c1 => ?_) (fun c1 => ?_)
  ·
    exact h _ ((ctrue c1) : class_Of_F b0 big1 = _).symm
  ·
    refine brb (fun c2 => ?_) (fun c2 => ?_)
    ·
      exact h _ ((Eq.trans (cfalse c1) (ctrue c2)) : class_Of_F b0 big1 = _).symm
    ·
      refine brb (fun c3 => ?_) (fun c3 => ?_)
      ·
        exact h _ ((Eq.trans (cfalse c1) (Eq.trans (cfalse c2) (ctrue c3))) : class_Of_F b0 big1 = _).symm
      ·
        refine brb (fun c4 => ?_) (fun c4 => ?_)
        ·
          exact h _ ((Eq.trans (cfalse c1) (Eq.trans (cfalse c2) (Eq.trans (cfalse c3) (ctrue c4)))) : class_Of_F b0 big1 = _).symm
        ·
          intro r1 hr1
          subst hr1
          intro _
          refine brb (fun c5 => ?_) (fun c5 => ?_)
          ·
            exact h _ ((Eq.trans (cfalse c1) (Eq.trans (cfalse c2) (Eq.trans (cfalse c3) (Eq.trans (cfalse c4) (ctrue c5))))) : class_Of_F b0 big1 = _).symm
          ·
            intro r2 hr2
            subst hr2
            intro _
            refine brb (fun c6 => ?_) (fun c6 => ?_)
            ·
              exact h _ ((Eq.trans (cfalse c1) (Eq.trans (cfalse c2) (Eq.trans (cfalse c3) (Eq.trans (cfalse c4) (Eq.trans (cfalse c5) (ctrue c6)))))) : class_Of_F b0 big1 = _).symm
            ·
              refine brb (fun c7 => ?_) (fun c7 => ?_)
              ·
                refine brb (fun c8 => ?_) (fun c8 => ?_)
                ·
                  exact h _ ((Eq.trans (cfalse c1) (Eq.trans (cfalse c2) (Eq.trans (cfalse c3) (Eq.trans (cfalse c4) (Eq.trans (cfalse c5) (Eq.trans (cfalse c6) (Eq.trans (ctrue c7) (ctrue c8)))))))) : class_Of_F b0 big1 = _).symm
                ·
                  refine brb (fun c9 => ?_) (fun c9 => ?_)
                  ·
                    exact h _ ((Eq.trans (cfalse c1) (Eq.trans (cfalse c2) (Eq.trans (cfalse c3) (Eq.trans (cfalse c4) (Eq.trans (cfalse c5) (Eq.trans (cfalse c6) (Eq.trans (ctrue c7) (Eq.trans (cfalse c8) (ctrue c9))))))))) : class_Of_F b0 big1 = _).symm
                  ·
                    refine brb (fun c10 => ?_) (fun c10 => ?_)
                    ·
                      exact h _ ((Eq.trans (cfalse c1) (Eq.trans (cfalse c2) (Eq.trans (cfalse c3) (Eq.trans (cfalse c4) (Eq.trans (cfalse c5) (Eq.trans (cfalse c6) (Eq.trans (ctrue c7) (Eq.trans (cfalse c8) (Eq.trans (cfalse c9) (ctrue c10)))))))))) : class_Of_F b0 big1 = _).symm
                    ·
                      exact h _ ((Eq.trans (cfalse c1) (Eq.trans (cfalse c2) (Eq.trans (cfalse c3) (Eq.trans (cfalse c4) (Eq.trans (cfalse c5) (Eq.trans (cfalse c6) (Eq.trans (ctrue c7) (Eq.trans (cfalse c8) (Eq.trans (cfalse c9) (cfalse c10)))))))))) : class_Of_F b0 big1 = _).symm
              ·
                refine brb (fun c11 => ?_) (fun c11 => ?_)
                ·
                  exact h _ ((Eq.trans (cfalse c1) (Eq.trans (cfalse c2) (Eq.trans (cfalse c3) (Eq.trans (cfalse c4) (Eq.trans (cfalse c5) (Eq.trans (cfalse c6) (Eq.trans (cfalse c7) (ctrue c11)))))))) : class_Of_F b0 big1 = _).symm
                ·
                  refine brb (fun c12 => ?_) (fun c12 => ?_)
                  ·
                    exact h _ ((Eq.trans (cfalse c1) (Eq.trans (cfalse c2) (Eq.trans (cfalse c3) (Eq.trans (cfalse c4) (Eq.trans (cfalse c5) (Eq.trans (cfalse c6) (Eq.trans (cfalse c7) (Eq.trans (cfalse c11) (ctrue c12))))))))) : class_Of_F b0 big1 = _).symm
                  ·
                    exact h _ ((Eq.trans (cfalse c1) (Eq.trans (cfalse c2) (Eq.trans (cfalse c3) (Eq.trans (cfalse c4) (Eq.trans (cfalse c5) (Eq.trans (cfalse c6) (Eq.trans (cfalse c7) (Eq.trans (cfalse c11) (cfalse c12))))))))) : class_Of_F b0 big1 = _).symm
def class_Of_C (v : valsA class_Of_A) (K : Res → List Cell → Prop) : Prop := ∀ r : Int, r = class_Of_F v.1 v.2.1 → K (.one (.v (.int .i64) r)) []
def class_Of_S : App := specW class_Of_A class_Of_C
theorem class_Of_wv (K : Res → List Cell → Prop) : ∀ v : valsA class_Of_A, runF tb (getG class_Of_G) [] Try.f45 [true] (mkA class_Of_A v) K = class_Of_raw v.1 v.2.1 K
  | (b0, big1, ()) => class_Of_walk b0 big1 K
set_option maxRecDepth 20000 in
theorem class_Of_ok : AppOk Try.prog 45 class_Of_S :=
  AppOk.specW (spec_ok (runF_ok tb_M tb_ok class_Of_Gok (LabsOk.nil) (f := 45) (fn := Try.f45) (by kernel_rfl) (by kernel_rfl) (by kernel_rfl) [true]) fun v K hw h => (class_Of_wv K v).mpr (class_Of_sp v.1 v.2.1 K hw h))

end Go.VE
namespace Go.VE
open Go Go.Proofs
/-! ### quoin/typing.word -/
def typing_word_G : List (Nat × App) := [(45, class_Of_S)]
theorem typing_word_Gok : GOk Try.prog (getG typing_word_G) := GOk.cons class_Of_ok (GOk.nil)
theorem typing_word_st : storesC (bodyOf Try.f29) = true := by kernel_rfl
def typing_word_d0 : List LS := [.v 0 (.sl (.int .u8)), .v 3 (.int .i64)]
def typing_word_d0x0 : List LS := [.v 0 (.sl (.int .u8)), .v 3 (.int .i64)]
def typing_word_dx0 : DX := ⟨none, none, [(0, typing_word_d0x0)]⟩
def typing_word_T0 (Y : List Int → Int → Prop) (kx0 : List Int → Int → Prop) (typed0 : List Int) (n3 : Int) : Prop :=
  bif (decide ((0 : Int) < n3)) then
    bif decide (0 ≤ (IntKind.wrap .i64 (n3 - (1 : Int))) ∧ (IntKind.wrap .i64 (n3 - (1 : Int))) < (List.length typed0 : Int)) then
    ∀ (r1 : Int), r1 = class_Of_F (rd (0 : Int) typed0 (IntKind.wrap .i64 (n3 - (1 : Int)))) false → (
    wfR (.one (.v (.int .i64) r1)) → (
    bif (decide (r1 = (0 : Int))) then
      Y typed0 (IntKind.wrap .i64 (n3 - (1 : Int)))
    else
      kx0 typed0 n3))
    else False
  else
    kx0 typed0 n3
def typing_word_L0 (kx0 : List Int → Int → Prop) : Nat → List Int → Int → Prop
  | 0, _, _ => False
  | n + 1, typed0, n3 => wfD typing_word_d0 (typed0, n3, ()) → typing_word_T0 (typing_word_L0 kx0 n) kx0 typed0 n3
theorem typing_word_s0 (k : Ex → St → Prop) (Y : vals typing_word_d0 → Prop) (typed0 : List Int) (n3 : Int) :
    ex tb (getG typing_word_G) [] (at' (bodyOf Try.f29) [0, 0, 0, 1, 1, 1]) [0, 0, 0, 1, 1, 1] (mkD 59 typing_word_d0 (typed0, n3, ())) (lpK 59 typing_word_d0 typing_word_dx0 k Y) =
    typing_word_T0 (fun typed0 n3 => Y (typed0, n3, ())) (fun typed0 n3 => wfD typing_word_d0x0 (typed0, n3, ()) → k (.exit 0) (mkD 59 typing_word_d0x0 (typed0, n3, ()))) typed0 n3 := by kernel_rfl
theorem typing_word_e0 (k : Ex → St → Prop) : ∀ (n : Nat) (typed0 : List Int) (n3 : Int), lpD 59 typing_word_d0 typing_word_dx0 (ex tb (getG typing_word_G) [] (at' (bodyOf Try.f29) [0, 0, 0, 1, 1, 1]) [0, 0, 0, 1, 1, 1]) k n (typed0, n3, ()) = typing_word_L0 (fun typed0 n3 => wfD typing_word_d0x0 (typed0, n3, ()) → k (.exit 0) (mkD 59 typing_word_d0x0 (typed0, n3, ()))) n typed0 n3
  | 0, _, _ => rfl
  | n + 1, typed0, n3 => congrArg (fun Z : Prop => wfD typing_word_d0 (typed0, n3, ()) → Z) ((typing_word_s0 k (lpD 59 typing_word_d0 typing_word_dx0 (ex tb (getG typing_word_G) [] (at' (bodyOf Try.f29) [0, 0, 0, 1, 1, 1]) [0, 0, 0, 1, 1, 1]) k n) typed0 n3).trans (congrArg (fun Y => typing_word_T0 Y (fun typed0 n3 => wfD typing_word_d0x0 (typed0, n3, ()) → k (.exit 0) (mkD 59 typing_word_d0x0 (typed0, n3, ()))) typed0 n3) (funext fun typed0 => funext fun n3 => typing_word_e0 k n typed0 n3)))
theorem typing_word_v0 (k : Ex → St → Prop) (n : Nat) : ∀ v : vals typing_word_d0, lpD 59 typing_word_d0 typing_word_dx0 (ex tb (getG typing_word_G) [] (at' (bodyOf Try.f29) [0, 0, 0, 1, 1, 1]) [0, 0, 0, 1, 1, 1]) k n v = typing_word_L0 (fun typed0 n3 => wfD typing_word_d0x0 (typed0, n3, ()) → k (.exit 0) (mkD 59 typing_word_d0x0 (typed0, n3, ()))) n v.1 v.2.1
  | (typed0, n3, ()) => typing_word_e0 k n typed0 n3
def typing_word_X0 : Pce := fun st k => ckD 59 typing_word_d0 st fun v => wfD typing_word_d0 v → ∃ n, typing_word_L0 (fun typed0 n3 => wfD typing_word_d0x0 (typed0, n3, ()) → k (.exit 0) (mkD 59 typing_word_d0x0 (typed0, n3, ()))) n v.1 v.2.1
set_option maxRecDepth 20000 in
theorem typing_word_x0 : SemOk Try.prog (at' (bodyOf Try.f29) [0, 0, 1, 1, 1]) typing_word_X0 :=
  (SemOk.loop (ex_sound tb_M tb_ok typing_word_Gok (LabsOk.nil) (at' (bodyOf Try.f29) [0, 0, 0, 1, 1, 1]) [0, 0, 0, 1, 1, 1] rfl (storesC_at typing_word_st [0, 0, 0, 1, 1, 1])) 59 typing_word_d0 typing_word_dx0).mono fun st k h => ckD_mono h fun v hv hw => (hv hw).elim fun n hn => ⟨n, Eq.mpr (typing_word_v0 k n v) hn⟩
def typing_word_B0 : Labs := ([0, 0, 1, 1, 1], typing_word_X0) :: []
theorem typing_word_b0 : LabsOk Try.prog (bodyOf Try.f29) typing_word_B0 := LabsOk.cons typing_word_x0 (LabsOk.nil)
def typing_word_d1 : List LS := [.v 0 (.sl (.int .u8)), .v 3 (.int .i64), .v 4 (.int .i64)]
def typing_word_d1x2 : List LS := [.v 0 (.sl (.int .u8)), .v 3 (.int .i64)]
def typing_word_dx1 : DX := ⟨none, none, [(2, typing_word_d1x2)]⟩
def typing_word_T1 (Y : List Int → Int → Int → Prop) (kx2 : List Int → Int → Prop) (typed0 : List Int) (n3 : Int) (kind4 : Int) : Prop :=
  bif (decide ((0 : Int) < n3)) then
    bif (!decide (kind4 = (3 : Int))) then
      bif decide (0 ≤ (IntKind.wrap .i64 (n3 - (1 : Int))) ∧ (IntKind.wrap .i64 (n3 - (1 : Int))) < (List.length typed0 : Int)) then
      ∀ (r3 : Int), r3 = class_Of_F (rd (0 : Int) typed0 (IntKind.wrap .i64 (n3 - (1 : Int)))) false → (
      wfR (.one (.v (.int .i64) r3)) → (
      bif (decide (r3 = kind4)) then
        Y typed0 (IntKind.wrap .i64 (n3 - (1 : Int))) kind4
      else
        kx2 typed0 n3))
      else False
    else
      kx2 typed0 n3
  else
    kx2 typed0 n3
def typing_word_L1 (kx2 : List Int → Int → Prop) : Nat → List Int → Int → Int → Prop
  | 0, _, _, _ => False
  | n + 1, typed0, n3, kind4 => wfD typing_word_d1 (typed0, n3, kind4, ()) → typing_word_T1 (typing_word_L1 kx2 n) kx2 typed0 n3 kind4
theorem typing_word_s1 (k : Ex → St → Prop) (Y : vals typing_word_d1 → Prop) (typed0 : List Int) (n3 : Int) (kind4 : Int) :
    ex tb (getG typing_word_G) typing_word_B0 (at' (bodyOf Try.f29) [0, 0, 1, 0, 1, 0, 1, 1, 1, 1]) [0, 0, 1, 0, 1, 0, 1, 1, 1, 1] (mkD 59 typing_word_d1 (typed0, n3, kind4, ())) (lpK 59 typing_word_d1 typing_word_dx1 k Y) =
    typing_word_T1 (fun typed0 n3 kind4 => Y (typed0, n3, kind4, ())) (fun typed0 n3 => wfD typing_word_d1x2 (typed0, n3, ()) → k (.exit 2) (mkD 59 typing_word_d1x2 (typed0, n3, ()))) typed0 n3 kind4 := by kernel_rfl
theorem typing_word_e1 (k : Ex → St → Prop) : ∀ (n : Nat) (typed0 : List Int) (n3 : Int) (kind4 : Int), lpD 59 typing_word_d1 typing_word_dx1 (ex tb (getG typing_word_G) typing_word_B0 (at' (bodyOf Try.f29) [0, 0, 1, 0, 1, 0, 1, 1, 1, 1]) [0, 0, 1, 0, 1, 0, 1, 1, 1, 1]) k n (typed0, n3, kind4, ()) = typing_word_L1 (fun typed0 n3 => wfD typing_word_d1x2 (typed0, n3, ()) → k (.exit 2) (mkD 59 typing_word_d1x2 (typed0, n3, ()))) n typed0 n3 kind4
  | 0, _, _, _ => rfl
  | n + 1, typed0, n3, kind4 => congrArg (fun Z : Prop => wfD typing_word_d1 (typed0, n3, kind4, ()) → Z) ((typing_word_s1 k (lpD 59 typing_word_d1 typing_word_dx1 (ex tb (getG typing_word_G) typing_word_B0 (at' (bodyOf Try.f29) [0, 0, 1, 0, 1, 0, 1, 1, 1, 1]) [0, 0, 1, 0, 1, 0, 1, 1, 1, 1]) k n) typed0 n3 kind4).trans (congrArg (fun Y => typing_word_T1 Y (fun typed0 n3 => wfD typing_word_d1x2 (typed0, n3, ()) → k (.exit 2) (mkD 59 typing_word_d1x2 (typed0, n3, ()))) typed0 n3 kind4) (funext fun typed0 => funext fun n3 => funext fun kind4 => typing_word_e1 k n typed0 n3 kind4)))
theorem typing_word_v1 (k : Ex → St → Prop) (n : Nat) : ∀ v : vals typing_word_d1, lpD 59 typing_word_d1 typing_word_dx1 (ex tb (getG typing_word_G) typing_word_B0 (at' (bodyOf Try.f29) [0, 0, 1, 0, 1, 0, 1, 1, 1, 1]) [0, 0, 1, 0, 1, 0, 1, 1, 1, 1]) k n v = typing_word_L1 (fun typed0 n3 => wfD typing_word_d1x2 (typed0, n3, ()) → k (.exit 2) (mkD 59 typing_word_d1x2 (typed0, n3, ()))) n v.1 v.2.1 v.2.2.1
  | (typed0, n3, kind4, ()) => typing_word_e1 k n typed0 n3 kind4
def typing_word_X1 : Pce := fun st k => ckD 59 typing_word_d1 st fun v => wfD typing_word_d1 v → ∃ n, typing_word_L1 (fun typed0 n3 => wfD typing_word_d1x2 (typed0, n3, ()) → k (.exit 2) (mkD 59 typing_word_d1x2 (typed0, n3, ()))) n v.1 v.2.1 v.2.2.1
set_option maxRecDepth 20000 in
theorem typing_word_x1 : SemOk Try.prog (at' (bodyOf Try.f29) [0, 1, 0, 1, 0, 1, 1, 1, 1]) typing_word_X1 :=
  (SemOk.loop (ex_sound tb_M tb_ok typing_word_Gok (typing_word_b0) (at' (bodyOf Try.f29) [0, 0, 1, 0, 1, 0, 1, 1, 1, 1]) [0, 0, 1, 0, 1, 0, 1, 1, 1, 1] rfl (storesC_at typing_word_st [0, 0, 1, 0, 1, 0, 1, 1, 1, 1])) 59 typing_word_d1 typing_word_dx1).mono fun st k h => ckD_mono h fun v hv hw => (hv hw).elim fun n hn => ⟨n, Eq.mpr (typing_word_v1 k n v) hn⟩
def typing_word_B1 : Labs := ([0, 1, 0, 1, 0, 1, 1, 1, 1], typing_word_X1) :: typing_word_B0
theorem typing_word_b1 : LabsOk Try.prog (bodyOf Try.f29) typing_word_B1 := LabsOk.cons typing_word_x1 (typing_word_b0)
def typing_word_raw (typed0 : List Int) (K : Res → List Cell → Prop) : Prop :=
  bif decide (0 ≤ (IntKind.wrap .i64 ((List.length typed0 : Int) - (1 : Int))) ∧ (IntKind.wrap .i64 ((List.length typed0 : Int) - (1 : Int))) < (List.length typed0 : Int)) then
  bif (decide ((rd (0 : Int) typed0 (IntKind.wrap .i64 ((List.length typed0 : Int) - (1 : Int)))) = (10 : Int))) then
    bif decide (0 ≤ (IntKind.wrap .i64 ((List.length typed0 : Int) - (1 : Int))) ∧ (IntKind.wrap .i64 ((List.length typed0 : Int) - (1 : Int))) ≤ (List.length typed0 : Int)) then
    K (.one (.v (.sl (.int .u8)) (List.take (Int.toNat (IntKind.wrap .i64 ((List.length typed0 : Int) - (1 : Int)))) typed0))) []
    else False
  else
    (wfD typing_word_d0 (typed0, (List.length typed0 : Int), ()) → ∃ n, typing_word_L0 (fun (typed0 : List Int) (n3 : Int) => wfD typing_word_d0x0 (typed0, n3, ()) → (
        bif (decide ((0 : Int) < n3)) then
          bif decide (0 ≤ (IntKind.wrap .i64 (n3 - (1 : Int))) ∧ (IntKind.wrap .i64 (n3 - (1 : Int))) < (List.length typed0 : Int)) then
          ∀ (r2 : Int), r2 = class_Of_F (rd (0 : Int) typed0 (IntKind.wrap .i64 (n3 - (1 : Int)))) false → (
          wfR (.one (.v (.int .i64) r2)) → (
          (wfD typing_word_d1 (typed0, n3, r2, ()) → ∃ n, typing_word_L1 (fun (typed0 : List Int) (n3 : Int) => wfD typing_word_d1x2 (typed0, n3, ()) → (
              bif decide (0 ≤ n3 ∧ n3 ≤ (List.length typed0 : Int)) then
              K (.one (.v (.sl (.int .u8)) (List.take (Int.toNat n3) typed0))) []
              else False)) n typed0 n3 r2)))
          else False
        else
          bif decide (0 ≤ n3 ∧ n3 ≤ (List.length typed0 : Int)) then
          K (.one (.v (.sl (.int .u8)) (List.take (Int.toNat n3) typed0))) []
          else False)) n typed0 (List.length typed0 : Int))
  else False
def typing_word_A : List AS := [.v (.sl (.int .u8))]
theorem typing_word_walk (typed0 : List Int) (K : Res → List Cell → Prop) : runF tb (getG typing_word_G) typing_word_B1 Try.f29 [true] (mkA typing_word_A (typed0, ())) K = typing_word_raw typed0 K := by kernel_rfl
--! pre 1
def typing_word_P (t : List Int) : Prop := 0 < t.length
def wordBlank (t : List Int) : Nat → Nat
  | 0 => 0
  | n + 1 => if class_Of_F (rd (0 : Int) t n) false = 0 then wordBlank t n else n + 1
def wordKind (t : List Int) (k : Int) : Nat → Nat
  | 0 => 0
  | n + 1 => if k ≠ 3 ∧ class_Of_F (rd (0 : Int) t n) false = k then wordKind t k n else n + 1
theorem wordBlank_le (t : List Int) : ∀ n, wordBlank t n ≤ n
  | 0 => Nat.le_refl _
  | n + 1 => by have := wordBlank_le t n; unfold wordBlank; split <;> omega
theorem wordKind_le (t : List Int) (k : Int) : ∀ n, wordKind t k n ≤ n
  | 0 => Nat.le_refl _
  | n + 1 => by have := wordKind_le t k n; unfold wordKind; split <;> omega
def wordLen (t : List Int) : Nat :=
  if rd (0 : Int) t ((t.length - 1 : Nat) : Int) = 10 then t.length - 1 else
    if 0 < wordBlank t t.length then wordKind t (class_Of_F (rd (0 : Int) t ((wordBlank t t.length - 1 : Nat) : Int)) false) (wordBlank t t.length) else 0
def typing_word_F (t : List Int) : List Int := t.take (wordLen t)
theorem typing_word_l0 (kx0 : List Int → Int → Prop) (t : List Int) (ht : t.length ≤ 9223372036854775807) : ∀ (n m : Nat), n ≤ t.length → n < m → kx0 t (wordBlank t n : Int) → typing_word_L0 kx0 m t (n : Int)
  | _, 0, _, h, _ => absurd h (Nat.not_lt_zero _)
  | 0, m + 1, _, _, h => by
    intro _
    unfold typing_word_T0
    exact brn (fun h => absurd h (by omega)) (fun _ => h)
  | n + 1, m + 1, hn, hm, h => by
    intro _
    unfold typing_word_T0
    rw [wrap_i64 (by omega) (by omega), show ((n + 1 : Nat) : Int) - 1 = (n : Int) by omega]
    refine brn (fun _ => asrt (by omega) fun r hr _ => brn (fun hb => ?_) (fun hb => ?_)) (fun h => absurd (by omega) h)
    · exact typing_word_l0 kx0 t ht n m (by omega) (by omega) (by unfold wordBlank at h; rw [if_pos (by rw [← hr]; exact hb)] at h; exact h)
    · unfold wordBlank at h; rw [if_neg (by rw [← hr]; exact hb)] at h; exact h
theorem typing_word_l1 (kx : List Int → Int → Prop) (t : List Int) (k : Int) (ht : t.length ≤ 9223372036854775807) : ∀ (n m : Nat), n ≤ t.length → n < m → kx t (wordKind t k n : Int) → typing_word_L1 kx m t (n : Int) k
  | _, 0, _, h, _ => absurd h (Nat.not_lt_zero _)
  | 0, m + 1, _, _, h => by
    intro _
    unfold typing_word_T1
    exact brn (fun h => absurd h (by omega)) (fun _ => h)
  | n + 1, m + 1, hn, hm, h => by
    intro _
    unfold typing_word_T1
    rw [wrap_i64 (by omega) (by omega), show ((n + 1 : Nat) : Int) - 1 = (n : Int) by omega]
    unfold wordKind at h
    refine brn (fun _ => brb (fun h3 => asrt (by omega) fun r hr _ => brn (fun hb => ?_) (fun hb => ?_)) (fun h3 => ?_)) (fun h => absurd (by omega) h)
    · have h3 : k ≠ 3 := by simpa using h3
      exact typing_word_l1 kx t k ht n m (by omega) (by omega) (by rw [if_pos ⟨h3, by rw [← hr]; exact hb⟩] at h; exact h)
    · rw [if_neg (fun hh => hb (by rw [hr]; exact hh.2))] at h; exact h
    · have h3 : k = 3 := by simpa using h3
      rw [if_neg (fun hh => hh.1 h3)] at h; exact h
theorem typing_word_sp (t : List Int) (K : Res → List Cell → Prop) (hw : wfA typing_word_A (t, ())) (hp : typing_word_P t) (h : ∀ r : List Int, r = typing_word_F t → K (.one (.v (.sl (.int .u8)) r)) []) : typing_word_raw t K := by
  have ht : t.length ≤ 9223372036854775807 := hw.1.1
  unfold typing_word_P at hp
  unfold typing_word_raw
  rw [wrap_i64 (by omega) (by omega), show (t.length : Int) - 1 = ((t.length - 1 : Nat) : Int) by omega]
  refine asrt (by omega) (brn (fun hb => asrt (by omega) (h _ ?_)) (fun hb _ => ⟨t.length + 1, typing_word_l0 _ t ht t.length _ (by omega) (by omega) fun _ => ?_⟩))
  · unfold typing_word_F wordLen; rw [if_pos hb, Int.toNat_natCast]
  · have hle := wordBlank_le t t.length
    refine brn (fun h0 => ?_) (fun h0 => asrt (by omega) (h _ ?_))
    · rw [wrap_i64 (by omega) (by omega), show (wordBlank t t.length : Int) - 1 = ((wordBlank t t.length - 1 : Nat) : Int) by omega]
      refine asrt (by omega) fun r hr _ _ => ⟨wordBlank t t.length + 1, typing_word_l1 _ t r ht _ _ hle (by omega) fun _ => asrt ?_ (h _ ?_)⟩
      · have := wordKind_le t r (wordBlank t t.length); omega
      · unfold typing_word_F wordLen; rw [if_neg hb, if_pos (by omega), ← hr, Int.toNat_natCast]
    · unfold typing_word_F wordLen; rw [if_neg hb, if_neg (by omega)]; simp; omega

def typing_word_C (v : valsA typing_word_A) (K : Res → List Cell → Prop) : Prop := typing_word_P v.1 ∧ ∀ r : List Int, r = typing_word_F v.1 → K (.one (.v (.sl (.int .u8)) r)) []
def typing_word_S : App := specW typing_word_A typing_word_C
theorem typing_word_wv (K : Res → List Cell → Prop) : ∀ v : valsA typing_word_A, runF tb (getG typing_word_G) typing_word_B1 Try.f29 [true] (mkA typing_word_A v) K = typing_word_raw v.1 K
  | (typed0, ()) => typing_word_walk typed0 K
set_option maxRecDepth 20000 in
theorem typing_word_ok : AppOk Try.prog 29 typing_word_S :=
  AppOk.specW (spec_ok (runF_ok tb_M tb_ok typing_word_Gok (typing_word_b1) (f := 29) (fn := Try.f29) (by kernel_rfl) (by kernel_rfl) typing_word_st [true]) fun v K hw h => (typing_word_wv K v).mpr (typing_word_sp v.1 K hw h.1 h.2))

end Go.VE
namespace Go.VE
open Go Go.Proofs
/-! ### quoin/typing.Press -/
def typing_Press_G : List (Nat × App) := [(22, typing_fits_S), (28, bytes_LastIndexByte_S), (29, typing_word_S), (30, typing_isText_S), (31, typing_under_S)]
theorem typing_Press_Gok : GOk Try.prog (getG typing_Press_G) := GOk.cons typing_fits_ok (GOk.cons bytes_LastIndexByte_ok (GOk.cons typing_word_ok (GOk.cons typing_isText_ok (GOk.cons typing_under_ok (GOk.nil)))))
theorem typing_Press_st : storesC (bodyOf Try.f15) = true := by kernel_rfl
def typing_Press_d0 : List LS := [.v 0 (.sl (.int .u8)), .v 2 (.int .u8), .b 4 32 [], .b 6 48 [], .o 9 77 5 (.int .u8), .v 10 (.int .i64), .v 22 (.int .u8), .v 36 (.bool), .c 32 (.st (.pair (.int .u8) (.pair (.int .i64) (.pair (.sl (.int .u8)) (.pair (.int .i64) (.int .i64)))))), .c 48 (.st (.pair (.int .u8) (.pair (.int .i64) (.pair (.sl (.int .u8)) (.pair (.int .i64) (.int .i64))))))]
def typing_Press_d0r : List LS := [.b 6 48 [], .v 7 (.bool), .v 8 (.int .i64), .c 48 (.st (.pair (.int .u8) (.pair (.int .i64) (.pair (.sl (.int .u8)) (.pair (.int .i64) (.int .i64))))))]
def typing_Press_d0n : List LS := [.v 0 (.sl (.int .u8)), .b 4 32 [], .b 6 48 [], .v 9 (.sl (.int .u8)), .c 32 (.st (.pair (.int .u8) (.pair (.int .i64) (.pair (.sl (.int .u8)) (.pair (.int .i64) (.int .i64)))))), .c 48 (.st (.pair (.int .u8) (.pair (.int .i64) (.pair (.sl (.int .u8)) (.pair (.int .i64) (.int .i64))))))]
def typing_Press_dx0 : DX := ⟨some typing_Press_d0n, some typing_Press_d0r, []⟩
def typing_Press_J0 (kr : Bool → Int → (Int × Int × List Int × Int × Int) → Prop) (kn : List Int → List Int → (Int × Int × List Int × Int × Int) → (Int × Int × List Int × Int × Int) → Prop) (base0 : List Int) (key2 : Int) (typed9 : List Int) (n10 : Int) (x22 : Int) (x36 : Bool) (y4b : (Int × Int × List Int × Int × Int)) (x6b : (Int × Int × List Int × Int × Int)) : Prop :=
  bif x36 then
    bif (decide (n10 = (0 : Int))) then
      kr false (200 : Int) ((0 : Int), (0 : Int), ([] : List Int), (0 : Int), (0 : Int))
    else
    bif (decide (key2 = (21 : Int))) then
      bif decide (0 ≤ (IntKind.wrap .i64 (n10 - (1 : Int))) ∧ (IntKind.wrap .i64 (n10 - (1 : Int))) < (List.length typed9 : Int)) then
      bif (decide ((rd (0 : Int) typed9 (IntKind.wrap .i64 (n10 - (1 : Int)))) = (10 : Int))) then
        kr false (200 : Int) ((0 : Int), (0 : Int), ([] : List Int), (0 : Int), (0 : Int))
      else
      bif (decide (key2 = (21 : Int))) then
        ∀ (r2 : Int), r2 = bytes_LastIndexByte_F typed9 (10 : Int) → (
        wfR (.one (.v (.int .i64) r2)) → (
        bif decide (0 ≤ (IntKind.wrap .i64 (r2 + (1 : Int))) ∧ (IntKind.wrap .i64 (r2 + (1 : Int))) ≤ (List.length typed9 : Int)) then
        kn base0 (List.take (Int.toNat (IntKind.wrap .i64 (r2 + (1 : Int)))) typed9) y4b x6b
        else False))
      else
      bif (decide (key2 = (23 : Int))) then
        typing_word_P typed9 ∧ (
        ∀ (r3 : List Int), r3 = typing_word_F typed9 → (
        wfR (.one (.v (.sl (.int .u8)) r3)) → (
        kn base0 r3 y4b x6b)))
      else
        bif decide (0 ≤ (IntKind.wrap .i64 (n10 - (1 : Int))) ∧ (IntKind.wrap .i64 (n10 - (1 : Int))) ≤ (List.length typed9 : Int)) then
        kn base0 (List.take (Int.toNat (IntKind.wrap .i64 (n10 - (1 : Int)))) typed9) y4b x6b
        else False
      else False
    else
    bif (decide (key2 = (21 : Int))) then
      ∀ (r4 : Int), r4 = bytes_LastIndexByte_F typed9 (10 : Int) → (
      wfR (.one (.v (.int .i64) r4)) → (
      bif decide (0 ≤ (IntKind.wrap .i64 (r4 + (1 : Int))) ∧ (IntKind.wrap .i64 (r4 + (1 : Int))) ≤ (List.length typed9 : Int)) then
      kn base0 (List.take (Int.toNat (IntKind.wrap .i64 (r4 + (1 : Int)))) typed9) y4b x6b
      else False))
    else
    bif (decide (key2 = (23 : Int))) then
      typing_word_P typed9 ∧ (
      ∀ (r5 : List Int), r5 = typing_word_F typed9 → (
      wfR (.one (.v (.sl (.int .u8)) r5)) → (
      kn base0 r5 y4b x6b)))
    else
      bif decide (0 ≤ (IntKind.wrap .i64 (n10 - (1 : Int))) ∧ (IntKind.wrap .i64 (n10 - (1 : Int))) ≤ (List.length typed9 : Int)) then
      kn base0 (List.take (Int.toNat (IntKind.wrap .i64 (n10 - (1 : Int)))) typed9) y4b x6b
      else False
  else
  bif (decide (x22 = (13 : Int))) then
    bif decide (List.length typed9 + List.length ([(10 : Int)] : List Int) ≤ lim) then
    kn base0 (typed9 ++ ([(10 : Int)] : List Int)) y4b x6b
    else False
  else
    ∀ (r6 : Bool), r6 = typing_isText_F key2 → (
    wfR (.one (.v (.bool) r6)) → (
    bif (!r6) then
      kr false (200 : Int) ((0 : Int), (0 : Int), ([] : List Int), (0 : Int), (0 : Int))
    else
      bif decide (List.length typed9 + List.length ([key2] : List Int) ≤ lim) then
      kn base0 (typed9 ++ ([key2] : List Int)) y4b x6b
      else False))
theorem typing_Press_s0 (k : Ex → St → Prop) (base0 : List Int) (key2 : Int) (typed9 : List Int) (n10 : Int) (x22 : Int) (x36 : Bool) (y4b : (Int × Int × List Int × Int × Int)) (x6b : (Int × Int × List Int × Int × Int)) :
    ex tb (getG typing_Press_G) [] (at' (bodyOf Try.f15) [1, 1, 1, 0, 1, 0, 1, 1, 1, 1]) [1, 1, 1, 0, 1, 0, 1, 1, 1, 1] (mkD 84 typing_Press_d0 (base0, key2, typed9, n10, x22, x36, y4b, x6b, ())) (wk 84 typing_Press_dx0 k) =
    typing_Press_J0 (fun x7 x8 x6b => wfD typing_Press_d0r (x7, x8, x6b, ()) → k .ret (mkD 84 typing_Press_d0r (x7, x8, x6b, ()))) (fun base0 typed9 y4b x6b => wfD typing_Press_d0n (base0, typed9, y4b, x6b, ()) → k .nrm (mkD 84 typing_Press_d0n (base0, typed9, y4b, x6b, ()))) base0 key2 typed9 n10 x22 x36 y4b x6b := by kernel_rfl
theorem typing_Press_v0 (k : Ex → St → Prop) : ∀ v : vals typing_Press_d0, ex tb (getG typing_Press_G) [] (at' (bodyOf Try.f15) [1, 1, 1, 0, 1, 0, 1, 1, 1, 1]) [1, 1, 1, 0, 1, 0, 1, 1, 1, 1] (mkD 84 typing_Press_d0 v) (wk 84 typing_Press_dx0 k) = typing_Press_J0 (fun x7 x8 x6b => wfD typing_Press_d0r (x7, x8, x6b, ()) → k .ret (mkD 84 typing_Press_d0r (x7, x8, x6b, ()))) (fun base0 typed9 y4b x6b => wfD typing_Press_d0n (base0, typed9, y4b, x6b, ()) → k .nrm (mkD 84 typing_Press_d0n (base0, typed9, y4b, x6b, ()))) v.1 v.2.1 v.2.2.1 v.2.2.2.1 v.2.2.2.2.1 v.2.2.2.2.2.1 v.2.2.2.2.2.2.1 v.2.2.2.2.2.2.2.1
  | (base0, key2, typed9, n10, x22, x36, y4b, x6b, ()) => typing_Press_s0 k base0 key2 typed9 n10 x22 x36 y4b x6b
def typing_Press_X0 : Pce := fun st k => ckD 84 typing_Press_d0 st fun v => wfD typing_Press_d0 v → typing_Press_J0 (fun x7 x8 x6b => wfD typing_Press_d0r (x7, x8, x6b, ()) → k .ret (mkD 84 typing_Press_d0r (x7, x8, x6b, ()))) (fun base0 typed9 y4b x6b => wfD typing_Press_d0n (base0, typed9, y4b, x6b, ()) → k .nrm (mkD 84 typing_Press_d0n (base0, typed9, y4b, x6b, ()))) v.1 v.2.1 v.2.2.1 v.2.2.2.1 v.2.2.2.2.1 v.2.2.2.2.2.1 v.2.2.2.2.2.2.1 v.2.2.2.2.2.2.2.1
set_option maxRecDepth 20000 in
theorem typing_Press_x0 : SemOk Try.prog (at' (bodyOf Try.f15) [1, 1, 1, 0, 1, 0, 1, 1, 1, 1]) typing_Press_X0 :=
  (SemOk.wk (N := 84) (ds := typing_Press_d0) (dx := typing_Press_dx0) (ex_sound tb_M tb_ok typing_Press_Gok (LabsOk.nil) (at' (bodyOf Try.f15) [1, 1, 1, 0, 1, 0, 1, 1, 1, 1]) [1, 1, 1, 0, 1, 0, 1, 1, 1, 1] rfl (storesC_at typing_Press_st [1, 1, 1, 0, 1, 0, 1, 1, 1, 1]))).mono fun st k h => ckD_mono h fun v hv hw => Eq.mpr (typing_Press_v0 k v) (hv hw)
def typing_Press_B0 : Labs := ([1, 1, 1, 0, 1, 0, 1, 1, 1, 1], typing_Press_X0) :: []
theorem typing_Press_b0 : LabsOk Try.prog (bodyOf Try.f15) typing_Press_B0 := LabsOk.cons typing_Press_x0 (LabsOk.nil)
def typing_Press_d1 : List LS := [.v 0 (.sl (.int .u8)), .b 4 32 [], .b 6 48 [], .v 9 (.sl (.int .u8)), .c 32 (.st (.pair (.int .u8) (.pair (.int .i64) (.pair (.sl (.int .u8)) (.pair (.int .i64) (.int .i64)))))), .c 48 (.st (.pair (.int .u8) (.pair (.int .i64) (.pair (.sl (.int .u8)) (.pair (.int .i64) (.int .i64))))))]
def typing_Press_d1r : List LS := [.b 6 48 [], .v 7 (.bool), .v 8 (.int .i64), .c 48 (.st (.pair (.int .u8) (.pair (.int .i64) (.pair (.sl (.int .u8)) (.pair (.int .i64) (.int .i64))))))]
def typing_Press_dx1 : DX := ⟨none, some typing_Press_d1r, []⟩
def typing_Press_J1 (kr : Bool → Int → (Int × Int × List Int × Int × Int) → Prop) (base0 : List Int) (typed9 : List Int) (y4b : (Int × Int × List Int × Int × Int)) (x6b : (Int × Int × List Int × Int × Int)) : Prop :=
  typing_under_P base0 (y4b.1, y4b.2.1, typed9, y4b.2.2.2.1, y4b.2.2.2.2) ∧ (
  ∀ (r7 : Int), r7 = typing_under_F base0 (y4b.1, y4b.2.1, typed9, y4b.2.2.2.1, y4b.2.2.2.2) → (
  wfR (.one (.v (.int .i64) r7)) → (
  kr true (0 : Int) (y4b.1, y4b.2.1, typed9, r7, y4b.2.2.2.2))))
theorem typing_Press_s1 (k : Ex → St → Prop) (base0 : List Int) (typed9 : List Int) (y4b : (Int × Int × List Int × Int × Int)) (x6b : (Int × Int × List Int × Int × Int)) :
    ex tb (getG typing_Press_G) typing_Press_B0 (at' (bodyOf Try.f15) [1, 1, 1, 1, 1]) [1, 1, 1, 1, 1] (mkD 84 typing_Press_d1 (base0, typed9, y4b, x6b, ())) (wk 84 typing_Press_dx1 k) =
    typing_Press_J1 (fun x7 x8 x6b => wfD typing_Press_d1r (x7, x8, x6b, ()) → k .ret (mkD 84 typing_Press_d1r (x7, x8, x6b, ()))) base0 typed9 y4b x6b := by kernel_rfl
theorem typing_Press_v1 (k : Ex → St → Prop) : ∀ v : vals typing_Press_d1, ex tb (getG typing_Press_G) typing_Press_B0 (at' (bodyOf Try.f15) [1, 1, 1, 1, 1]) [1, 1, 1, 1, 1] (mkD 84 typing_Press_d1 v) (wk 84 typing_Press_dx1 k) = typing_Press_J1 (fun x7 x8 x6b => wfD typing_Press_d1r (x7, x8, x6b, ()) → k .ret (mkD 84 typing_Press_d1r (x7, x8, x6b, ()))) v.1 v.2.1 v.2.2.1 v.2.2.2.1
  | (base0, typed9, y4b, x6b, ()) => typing_Press_s1 k base0 typed9 y4b x6b
def typing_Press_X1 : Pce := fun st k => ckD 84 typing_Press_d1 st fun v => wfD typing_Press_d1 v → typing_Press_J1 (fun x7 x8 x6b => wfD typing_Press_d1r (x7, x8, x6b, ()) → k .ret (mkD 84 typing_Press_d1r (x7, x8, x6b, ()))) v.1 v.2.1 v.2.2.1 v.2.2.2.1
set_option maxRecDepth 20000 in
theorem typing_Press_x1 : SemOk Try.prog (at' (bodyOf Try.f15) [1, 1, 1, 1, 1]) typing_Press_X1 :=
  (SemOk.wk (N := 84) (ds := typing_Press_d1) (dx := typing_Press_dx1) (ex_sound tb_M tb_ok typing_Press_Gok (typing_Press_b0) (at' (bodyOf Try.f15) [1, 1, 1, 1, 1]) [1, 1, 1, 1, 1] rfl (storesC_at typing_Press_st [1, 1, 1, 1, 1]))).mono fun st k h => ckD_mono h fun v hv hw => Eq.mpr (typing_Press_v1 k v) (hv hw)
def typing_Press_B1 : Labs := ([1, 1, 1, 1, 1], typing_Press_X1) :: typing_Press_B0
theorem typing_Press_b1 : LabsOk Try.prog (bodyOf Try.f15) typing_Press_B1 := LabsOk.cons typing_Press_x1 (typing_Press_b0)
def typing_Press_raw (base0 : List Int) (y1 : (Int × Int × List Int × Int × Int)) (key2 : Int) (K : Res → List Cell → Prop) : Prop :=
  ∀ (r1 : Bool), r1 = typing_fits_F base0 y1 → (
  wfR (.one (.v (.bool) r1)) → (
  bif (!r1) then
    K (.tup [.v (.st (.pair (.int .u8) (.pair (.int .i64) (.pair (.sl (.int .u8)) (.pair (.int .i64) (.int .i64)))))) ((0 : Int), (0 : Int), ([] : List Int), (0 : Int), (0 : Int)), .v (.bool) false, .v (.int .i64) (2 : Int)]) []
  else
    bif decide (List.length ([] : List Int) + List.length y1.2.2.1 ≤ lim) then
    bif (decide (key2 = (27 : Int))) then
      K (.tup [.v (.st (.pair (.int .u8) (.pair (.int .i64) (.pair (.sl (.int .u8)) (.pair (.int .i64) (.int .i64)))))) (y1.1, y1.2.1, (([] : List Int) ++ y1.2.2.1), y1.2.2.2.1, y1.2.2.2.2), .v (.bool) false, .v (.int .i64) (0 : Int)]) []
    else
    bif (decide (key2 = (8 : Int))) then
      (wfD typing_Press_d0 (base0, key2, (([] : List Int) ++ y1.2.2.1), (List.length (([] : List Int) ++ y1.2.2.1) : Int), key2, (decide (key2 = (8 : Int))), y1, ((0 : Int), (0 : Int), ([] : List Int), (0 : Int), (0 : Int)), ()) → typing_Press_J0 (fun (x7 : Bool) (x8 : Int) (x6b : (Int × Int × List Int × Int × Int)) => wfD typing_Press_d0r (x7, x8, x6b, ()) → (
          K (.tup [.v (.st (.pair (.int .u8) (.pair (.int .i64) (.pair (.sl (.int .u8)) (.pair (.int .i64) (.int .i64)))))) x6b, .v (.bool) x7, .v (.int .i64) x8]) [])) (fun (base0 : List Int) (typed9 : List Int) (y4b : (Int × Int × List Int × Int × Int)) (x6b : (Int × Int × List Int × Int × Int)) => wfD typing_Press_d0n (base0, typed9, y4b, x6b, ()) → (
          (wfD typing_Press_d1 (base0, typed9, y4b, x6b, ()) → typing_Press_J1 (fun (x7 : Bool) (x8 : Int) (x6b : (Int × Int × List Int × Int × Int)) => wfD typing_Press_d1r (x7, x8, x6b, ()) → (
              K (.tup [.v (.st (.pair (.int .u8) (.pair (.int .i64) (.pair (.sl (.int .u8)) (.pair (.int .i64) (.int .i64)))))) x6b, .v (.bool) x7, .v (.int .i64) x8]) [])) base0 typed9 y4b x6b))) base0 key2 (([] : List Int) ++ y1.2.2.1) (List.length (([] : List Int) ++ y1.2.2.1) : Int) key2 (decide (key2 = (8 : Int))) y1 ((0 : Int), (0 : Int), ([] : List Int), (0 : Int), (0 : Int)))
    else
    bif (decide (key2 = (127 : Int))) then
      (wfD typing_Press_d0 (base0, key2, (([] : List Int) ++ y1.2.2.1), (List.length (([] : List Int) ++ y1.2.2.1) : Int), key2, (decide (key2 = (127 : Int))), y1, ((0 : Int), (0 : Int), ([] : List Int), (0 : Int), (0 : Int)), ()) → typing_Press_J0 (fun (x7 : Bool) (x8 : Int) (x6b : (Int × Int × List Int × Int × Int)) => wfD typing_Press_d0r (x7, x8, x6b, ()) → (
          K (.tup [.v (.st (.pair (.int .u8) (.pair (.int .i64) (.pair (.sl (.int .u8)) (.pair (.int .i64) (.int .i64)))))) x6b, .v (.bool) x7, .v (.int .i64) x8]) [])) (fun (base0 : List Int) (typed9 : List Int) (y4b : (Int × Int × List Int × Int × Int)) (x6b : (Int × Int × List Int × Int × Int)) => wfD typing_Press_d0n (base0, typed9, y4b, x6b, ()) → (
          (wfD typing_Press_d1 (base0, typed9, y4b, x6b, ()) → typing_Press_J1 (fun (x7 : Bool) (x8 : Int) (x6b : (Int × Int × List Int × Int × Int)) => wfD typing_Press_d1r (x7, x8, x6b, ()) → (
              K (.tup [.v (.st (.pair (.int .u8) (.pair (.int .i64) (.pair (.sl (.int .u8)) (.pair (.int .i64) (.int .i64)))))) x6b, .v (.bool) x7, .v (.int .i64) x8]) [])) base0 typed9 y4b x6b))) base0 key2 (([] : List Int) ++ y1.2.2.1) (List.length (([] : List Int) ++ y1.2.2.1) : Int) key2 (decide (key2 = (127 : Int))) y1 ((0 : Int), (0 : Int), ([] : List Int), (0 : Int), (0 : Int)))
    else
    bif (decide (key2 = (21 : Int))) then
      (wfD typing_Press_d0 (base0, key2, (([] : List Int) ++ y1.2.2.1), (List.length (([] : List Int) ++ y1.2.2.1) : Int), key2, (decide (key2 = (21 : Int))), y1, ((0 : Int), (0 : Int), ([] : List Int), (0 : Int), (0 : Int)), ()) → typing_Press_J0 (fun (x7 : Bool) (x8 : Int) (x6b : (Int × Int × List Int × Int × Int)) => wfD typing_Press_d0r (x7, x8, x6b, ()) → (
          K (.tup [.v (.st (.pair (.int .u8) (.pair (.int .i64) (.pair (.sl (.int .u8)) (.pair (.int .i64) (.int .i64)))))) x6b, .v (.bool) x7, .v (.int .i64) x8]) [])) (fun (base0 : List Int) (typed9 : List Int) (y4b : (Int × Int × List Int × Int × Int)) (x6b : (Int × Int × List Int × Int × Int)) => wfD typing_Press_d0n (base0, typed9, y4b, x6b, ()) → (
          (wfD typing_Press_d1 (base0, typed9, y4b, x6b, ()) → typing_Press_J1 (fun (x7 : Bool) (x8 : Int) (x6b : (Int × Int × List Int × Int × Int)) => wfD typing_Press_d1r (x7, x8, x6b, ()) → (
              K (.tup [.v (.st (.pair (.int .u8) (.pair (.int .i64) (.pair (.sl (.int .u8)) (.pair (.int .i64) (.int .i64)))))) x6b, .v (.bool) x7, .v (.int .i64) x8]) [])) base0 typed9 y4b x6b))) base0 key2 (([] : List Int) ++ y1.2.2.1) (List.length (([] : List Int) ++ y1.2.2.1) : Int) key2 (decide (key2 = (21 : Int))) y1 ((0 : Int), (0 : Int), ([] : List Int), (0 : Int), (0 : Int)))
    else
      (wfD typing_Press_d0 (base0, key2, (([] : List Int) ++ y1.2.2.1), (List.length (([] : List Int) ++ y1.2.2.1) : Int), key2, (decide (key2 = (23 : Int))), y1, ((0 : Int), (0 : Int), ([] : List Int), (0 : Int), (0 : Int)), ()) → typing_Press_J0 (fun (x7 : Bool) (x8 : Int) (x6b : (Int × Int × List Int × Int × Int)) => wfD typing_Press_d0r (x7, x8, x6b, ()) → (
          K (.tup [.v (.st (.pair (.int .u8) (.pair (.int .i64) (.pair (.sl (.int .u8)) (.pair (.int .i64) (.int .i64)))))) x6b, .v (.bool) x7, .v (.int .i64) x8]) [])) (fun (base0 : List Int) (typed9 : List Int) (y4b : (Int × Int × List Int × Int × Int)) (x6b : (Int × Int × List Int × Int × Int)) => wfD typing_Press_d0n (base0, typed9, y4b, x6b, ()) → (
          (wfD typing_Press_d1 (base0, typed9, y4b, x6b, ()) → typing_Press_J1 (fun (x7 : Bool) (x8 : Int) (x6b : (Int × Int × List Int × Int × Int)) => wfD typing_Press_d1r (x7, x8, x6b, ()) → (
              K (.tup [.v (.st (.pair (.int .u8) (.pair (.int .i64) (.pair (.sl (.int .u8)) (.pair (.int .i64) (.int .i64)))))) x6b, .v (.bool) x7, .v (.int .i64) x8]) [])) base0 typed9 y4b x6b))) base0 key2 (([] : List Int) ++ y1.2.2.1) (List.length (([] : List Int) ++ y1.2.2.1) : Int) key2 (decide (key2 = (23 : Int))) y1 ((0 : Int), (0 : Int), ([] : List Int), (0 : Int), (0 : Int)))
    else False))
def typing_Press_A : List AS := [.v (.sl (.int .u8)), .v (.st (.pair (.int .u8) (.pair (.int .i64) (.pair (.sl (.int .u8)) (.pair (.int .i64) (.int .i64)))))), .v (.int .u8)]
theorem typing_Press_walk (base0 : List Int) (y1 : (Int × Int × List Int × Int × Int)) (key2 : Int) (K : Res → List Cell → Prop) : runF tb (getG typing_Press_G) typing_Press_B1 Try.f15 [true, true, true] (mkA typing_Press_A (base0, y1, key2, ())) K = typing_Press_raw base0 y1 key2 K := by kernel_rfl
--! pre 1
abbrev zeroT : Int × Int × List Int × Int × Int := (0, 0, [], 0, 0)
/-- what typed text comes to behind a key that types; none: it rings -/
def pressed (t : List Int) (key : Int) : Option (List Int) :=
  if key = 8 ∨ key = 127 ∨ key = 21 ∨ key = 23 then
    if t.length = 0 ∨ (key = 21 ∧ rd (0 : Int) t ((t.length - 1 : Nat) : Int) = 10) then none
    else if key = 21 then some (t.take (lastUp t 10 t.length + 1).toNat)
    else if key = 23 then some (typing_word_F t)
    else some (t.take (t.length - 1))
  else if key = 13 then some (t ++ [10])
  else if typing_isText_F key = true then some (t ++ [key]) else none
def typing_Press_P (_ : List Int) (y : Int × Int × List Int × Int × Int) (_ : Int) : Prop := y.2.2.1.length < 1099511627776
def typing_Press_F (base : List Int) (y : Int × Int × List Int × Int × Int) (key : Int) : (Int × Int × List Int × Int × Int) × Bool × Int :=
  if typing_fits_F base y = true then
    if key = 27 then (y, false, 0) else match pressed y.2.2.1 key with
      | none => (zeroT, false, 200)
      | some t => ((y.1, y.2.1, t, typing_under_F base (y.1, y.2.1, t, y.2.2.2.1, y.2.2.2.2), y.2.2.2.2), true, 0)
  else (zeroT, false, 2)
theorem typing_Press_j0 (kr : Bool → Int → (Int × Int × List Int × Int × Int) → Prop) (kn : List Int → List Int → (Int × Int × List Int × Int × Int) → (Int × Int × List Int × Int × Int) → Prop) (base t : List Int) (key : Int) (b : Bool) (y x6 : Int × Int × List Int × Int × Int)
    (ht : t.length < 1099511627776) (hb : b = true ↔ (key = 8 ∨ key = 127 ∨ key = 21 ∨ key = 23)) (h1 : pressed t key = none → kr false 200 zeroT) (h2 : ∀ r, pressed t key = some r → kn base r y x6) :
    typing_Press_J0 kr kn base key t (t.length : Int) key b y x6 := by
  unfold typing_Press_J0
  have hlast := lastUp_le t 10 t.length
  have up : ¬ (t.length = 0 ∨ (key = 21 ∧ rd (0 : Int) t ((t.length - 1 : Nat) : Int) = 10)) → (key = 8 ∨ key = 127 ∨ key = 21 ∨ key = 23) → key = 21 → ∀ r : Int, r = bytes_LastIndexByte_F t 10 → wfR (.one (.v (.int .i64) r)) → bif decide (0 ≤ (IntKind.wrap .i64 (r + 1)) ∧ (IntKind.wrap .i64 (r + 1)) ≤ (List.length t : Int)) then kn base (List.take (Int.toNat (IntKind.wrap .i64 (r + 1))) t) y x6 else False := by
    intro hn hk h21 r hr _
    have hr : r = lastUp t 10 t.length := by rw [hr]; simp [bytes_LastIndexByte_F, internal_bytealg_LastIndexByte_F]
    rw [wrap_i64 (by omega) (by omega)]
    refine asrt (by omega) (h2 _ ?_)
    unfold pressed
    rw [if_pos hk, if_neg hn, if_pos h21, hr]
  have low : ¬ (t.length = 0 ∨ (key = 21 ∧ rd (0 : Int) t ((t.length - 1 : Nat) : Int) = 10)) → (key = 8 ∨ key = 127 ∨ key = 21 ∨ key = 23) → ¬ key = 21 → bif (decide (key = (23 : Int))) then
        typing_word_P t ∧ (
        ∀ (r3 : List Int), r3 = typing_word_F t → (
        wfR (.one (.v (.sl (.int .u8)) r3)) → (
        kn base r3 y x6)))
      else
        bif decide (0 ≤ (IntKind.wrap .i64 ((t.length : Int) - (1 : Int))) ∧ (IntKind.wrap .i64 ((t.length : Int) - (1 : Int))) ≤ (List.length t : Int)) then
        kn base (List.take (Int.toNat (IntKind.wrap .i64 ((t.length : Int) - (1 : Int)))) t) y x6
        else False := by
    intro hn hk h21
    have hpos : 0 < t.length := by omega
    refine brn (fun h23 => ⟨hpos, fun r hr _ => h2 _ ?_⟩) (fun h23 => ?_)
    · unfold pressed; rw [if_pos hk, if_neg hn, if_neg h21, if_pos h23, hr]
    · rw [wrap_i64 (by omega) (by omega)]
      refine asrt (by omega) (h2 _ ?_)
      unfold pressed; rw [if_pos hk, if_neg hn, if_neg h21, if_neg h23]
      rw [show ((t.length : Int) - 1).toNat = t.length - 1 by omega]
  refine brb (fun hb1 => ?_) (fun hb0 => ?_)
  · have hk := hb.1 hb1
    refine brn (fun h0 => h1 ?_) (fun h0 => brn (fun h21 => ?_) (fun h21 => brn (fun h => absurd h h21) (fun _ => low ?_ hk h21)))
    · unfold pressed; rw [if_pos hk, if_pos (.inl (by omega))]
    · rw [wrap_i64 (by omega) (by omega), show (t.length : Int) - 1 = ((t.length - 1 : Nat) : Int) by omega]
      refine asrt (by omega) (brn (fun h10 => h1 ?_) (fun h10 => brn (fun _ => up ?_ hk h21) (fun h => absurd h21 h)))
      · unfold pressed; rw [if_pos hk, if_pos (.inr ⟨h21, h10⟩)]
      · rintro (h | ⟨_, h⟩)
        · omega
        · exact h10 h
    · rintro (h | ⟨h, _⟩)
      · omega
      · exact h21 h
  · have hk : ¬ (key = 8 ∨ key = 127 ∨ key = 21 ∨ key = 23) := fun h => by rw [hb.2 h] at hb0; cases hb0
    refine brn (fun h13 => asrt (by unfold lim; simp only [List.length_cons, List.length_nil]; omega) (h2 _ ?_)) (fun h13 r hr _ => brb (fun h => h1 ?_) (fun h => asrt (by unfold lim; simp only [List.length_cons, List.length_nil]; omega) (h2 _ ?_)))
    · unfold pressed; rw [if_neg hk, if_pos h13]
    · unfold pressed; rw [if_neg hk, if_neg h13, if_neg (by rw [← hr]; simpa using h)]
    · unfold pressed; rw [if_neg hk, if_neg h13, if_pos (by rw [← hr]; simpa using h)]
theorem typing_Press_sp (base : List Int) (y : Int × Int × List Int × Int × Int) (key : Int) (K : Res → List Cell → Prop) (hw : wfA typing_Press_A (base, y, key, ())) (hp : typing_Press_P base y key)
    (h : ∀ r : (Int × Int × List Int × Int × Int) × Bool × Int, r = typing_Press_F base y key → K (.tup [.v (.st (.pair (.int .u8) (.pair (.int .i64) (.pair (.sl (.int .u8)) (.pair (.int .i64) (.int .i64)))))) r.1, .v (.bool) r.2.1, .v (.int .i64) r.2.2]) []) : typing_Press_raw base y key K := by
  unfold typing_Press_P at hp
  intro r hr _
  refine brb (fun hf => h (zeroT, false, 2) ?_) (fun hf => asrt (by unfold lim; simp only [List.length_nil]; omega) ?_)
  · unfold typing_Press_F; rw [if_neg (by rw [← hr]; simpa using hf)]
  have hfit : typing_fits_F base y = true := by rw [← hr]; simpa using hf
  have main : ∀ b : Bool, ¬ key = 27 → (b = true ↔ (key = 8 ∨ key = 127 ∨ key = 21 ∨ key = 23)) → _ → _ := fun b h27 hb (_ : wfD typing_Press_d0 (base, key, (([] : List Int) ++ y.2.2.1), (List.length (([] : List Int) ++ y.2.2.1) : Int), key, b, y, zeroT, ())) =>
    typing_Press_j0 (fun (x7 : Bool) (x8 : Int) (x6b : (Int × Int × List Int × Int × Int)) => wfD typing_Press_d0r (x7, x8, x6b, ()) → (
          K (.tup [.v (.st (.pair (.int .u8) (.pair (.int .i64) (.pair (.sl (.int .u8)) (.pair (.int .i64) (.int .i64)))))) x6b, .v (.bool) x7, .v (.int .i64) x8]) [])) (fun (base0 : List Int) (typed9 : List Int) (y4b : (Int × Int × List Int × Int × Int)) (x6b : (Int × Int × List Int × Int × Int)) => wfD typing_Press_d0n (base0, typed9, y4b, x6b, ()) → (
          (wfD typing_Press_d1 (base0, typed9, y4b, x6b, ()) → typing_Press_J1 (fun (x7 : Bool) (x8 : Int) (x6b : (Int × Int × List Int × Int × Int)) => wfD typing_Press_d1r (x7, x8, x6b, ()) → (
              K (.tup [.v (.st (.pair (.int .u8) (.pair (.int .i64) (.pair (.sl (.int .u8)) (.pair (.int .i64) (.int .i64)))))) x6b, .v (.bool) x7, .v (.int .i64) x8]) [])) base0 typed9 y4b x6b))) base (([] : List Int) ++ y.2.2.1) key b y zeroT hp hb
      (fun hn _ => h (zeroT, false, 200) (by unfold typing_Press_F; rw [if_pos hfit, if_neg h27, show pressed y.2.2.1 key = none from hn]))
      (fun t ht _ _ => ⟨typing_under_any _ _, fun u hu _ _ => h ((y.1, y.2.1, t, u, y.2.2.2.2), true, 0) (by unfold typing_Press_F; rw [if_pos hfit, if_neg h27, show pressed y.2.2.1 key = some t from ht, hu])⟩)
  refine brn (fun h27 => h (y, false, 0) ?_) (fun h27 => brn (fun h8 => main _ h27 (by simp [h8])) (fun h8 => brn (fun h127 => main _ h27 (by simp [h127])) (fun h127 => brn (fun h21 => main _ h27 (by simp [h21])) (fun h21 => main _ h27 (by simp [h8, h127, h21])))))
  unfold typing_Press_F; rw [if_pos hfit, if_pos h27]

def typing_Press_C (v : valsA typing_Press_A) (K : Res → List Cell → Prop) : Prop := typing_Press_P v.1 v.2.1 v.2.2.1 ∧ ∀ r : (Int × Int × List Int × Int × Int) × Bool × Int, r = typing_Press_F v.1 v.2.1 v.2.2.1 → K (.tup [.v (.st (.pair (.int .u8) (.pair (.int .i64) (.pair (.sl (.int .u8)) (.pair (.int .i64) (.int .i64)))))) r.1, .v (.bool) r.2.1, .v (.int .i64) r.2.2]) []
def typing_Press_S : App := specW typing_Press_A typing_Press_C
theorem typing_Press_wv (K : Res → List Cell → Prop) : ∀ v : valsA typing_Press_A, runF tb (getG typing_Press_G) typing_Press_B1 Try.f15 [true, true, true] (mkA typing_Press_A v) K = typing_Press_raw v.1 v.2.1 v.2.2.1 K
  | (base0, y1, key2, ()) => typing_Press_walk base0 y1 key2 K
set_option maxRecDepth 20000 in
theorem typing_Press_ok : AppOk Try.prog 15 typing_Press_S :=
  AppOk.specW (spec_ok (runF_ok tb_M tb_ok typing_Press_Gok (typing_Press_b1) (f := 15) (fn := Try.f15) (by kernel_rfl) (by kernel_rfl) typing_Press_st [true, true, true]) fun v K hw h => (typing_Press_wv K v).mpr (typing_Press_sp v.1 v.2.1 v.2.2.1 K hw h.1 h.2))

end Go.VE
namespace Go.VE
open Go Go.Proofs
/-! ### quoin/typing.Check -/
def typing_Check_G : List (Nat × App) := [(22, typing_fits_S)]
theorem typing_Check_Gok : GOk Try.prog (getG typing_Check_G) := GOk.cons typing_fits_ok (GOk.nil)
def typing_Check_raw (base0 : List Int) (y1 : (Int × Int × List Int × Int × Int)) (K : Res → List Cell → Prop) : Prop :=
  ∀ (r1 : Bool), r1 = typing_fits_F base0 y1 → (
  wfR (.one (.v (.bool) r1)) → (
  bif (!r1) then
    K (.one (.v (.int .i64) (2 : Int))) []
  else
  bif (decide ((65536 : Int) < (IntKind.wrap .i64 ((IntKind.wrap .i64 ((List.length base0 : Int) - y1.2.2.2.1)) + (List.length y1.2.2.1 : Int))))) then
    K (.one (.v (.int .i64) (2 : Int))) []
  else
    K (.one (.v (.int .i64) (0 : Int))) []))
def typing_Check_A : List AS := [.v (.sl (.int .u8)), .v (.st (.pair (.int .u8) (.pair (.int .i64) (.pair (.sl (.int .u8)) (.pair (.int .i64) (.int .i64))))))]
theorem typing_Check_walk (base0 : List Int) (y1 : (Int × Int × List Int × Int × Int)) (K : Res → List Cell → Prop) : runF tb (getG typing_Check_G) [] Try.f12 [true] (mkA typing_Check_A (base0, y1, ())) K = typing_Check_raw base0 y1 K := by kernel_rfl

def typing_Check_F (base0 : List Int) (y1 : (Int × Int × List Int × Int × Int)) : Int :=
  let r1 : Bool := typing_fits_F base0 y1
  bif (!r1) then
    (2 : Int)
  else
    bif (decide ((65536 : Int) < (IntKind.wrap .i64 ((IntKind.wrap .i64 ((List.length base0 : Int) - y1.2.2.2.1)) + (List.length y1.2.2.1 : Int))))) then
      (2 : Int)
    else
      (0 : Int)
set_option maxRecDepth 20000 in
theorem typing_Check_sp (base0 : List Int) (y1 : (Int × Int × List Int × Int × Int)) (K : Res → List Cell → Prop) (_ : wfA typing_Check_A (base0, y1, ())) (h : ∀ r : Int, r = typing_Check_F base0 y1 → K (.one (.v (.int .i64) r)) []) : typing_Check_raw base0 y1 K := by
  unfold typing_Check_raw
  intro r1 hr1
  subst hr1
  intro _
  refine brb (fun c1 => ?_) (fun c1 => ?_)
  ·
    exact h _ ((ctrue c1) : typing_Check_F base0 y1 = _).symm
  ·
    refine brb (fun c2 => ?_) (fun c2 => ?_)
    ·
      exact h _ ((Eq.trans (cfalse c1) (ctrue c2)) : typing_Check_F base0 y1 = _).symm
    ·
      exact h _ ((Eq.trans (cfalse c1) (cfalse c2)) : typing_Check_F base0 y1 = _).symm
def typing_Check_C (v : valsA typing_Check_A) (K : Res → List Cell → Prop) : Prop := ∀ r : Int, r = typing_Check_F v.1 v.2.1 → K (.one (.v (.int .i64) r)) []
def typing_Check_S : App := specW typing_Check_A typing_Check_C
theorem typing_Check_wv (K : Res → List Cell → Prop) : ∀ v : valsA typing_Check_A, runF tb (getG typing_Check_G) [] Try.f12 [true] (mkA typing_Check_A v) K = typing_Check_raw v.1 v.2.1 K
  | (base0, y1, ()) => typing_Check_walk base0 y1 K
set_option maxRecDepth 20000 in
theorem typing_Check_ok : AppOk Try.prog 12 typing_Check_S :=
  AppOk.specW (spec_ok (runF_ok tb_M tb_ok typing_Check_Gok (LabsOk.nil) (f := 12) (fn := Try.f12) (by kernel_rfl) (by kernel_rfl) (by kernel_rfl) [true]) fun v K hw h => (typing_Check_wv K v).mpr (typing_Check_sp v.1 v.2.1 K hw h))

end Go.VE
namespace Go.VE
open Go Go.Proofs
/-! ### quoin/typing.Show -/
def typing_Show_G : List (Nat × App) := [(22, typing_fits_S)]
theorem typing_Show_Gok : GOk Try.prog (getG typing_Show_G) := GOk.cons typing_fits_ok (GOk.nil)
def typing_Show_raw (base0 : List Int) (y1 : (Int × Int × List Int × Int × Int)) (K : Res → List Cell → Prop) : Prop :=
  bif decide (List.length ([] : List Int) + List.length base0 ≤ lim) then
  ∀ (r1 : Bool), r1 = typing_fits_F base0 y1 → (
  wfR (.one (.v (.bool) r1)) → (
  bif (!r1) then
    K (.tup [.fr 5 (.int .u8) (([] : List Int) ++ base0), .v (.int .i64) (0 : Int)]) []
  else
    bif decide (0 ≤ y1.2.1 ∧ y1.2.1 ≤ (List.length (([] : List Int) ++ base0) : Int)) then
    bif decide (List.length (List.take (Int.toNat y1.2.1) (([] : List Int) ++ base0)) + List.length y1.2.2.1 ≤ lim) then
    bif decide (0 ≤ (IntKind.wrap .i64 (y1.2.1 + y1.2.2.2.1)) ∧ (IntKind.wrap .i64 (y1.2.1 + y1.2.2.2.1)) ≤ (List.length base0 : Int)) then
    bif decide (List.length ((List.take (Int.toNat y1.2.1) (([] : List Int) ++ base0)) ++ y1.2.2.1) + List.length (List.drop (Int.toNat (IntKind.wrap .i64 (y1.2.1 + y1.2.2.2.1))) base0) ≤ lim) then
    K (.tup [.fr 5 (.int .u8) (((List.take (Int.toNat y1.2.1) (([] : List Int) ++ base0)) ++ y1.2.2.1) ++ (List.drop (Int.toNat (IntKind.wrap .i64 (y1.2.1 + y1.2.2.2.1))) base0)), .v (.int .i64) (IntKind.wrap .i64 (y1.2.1 + (List.length y1.2.2.1 : Int)))]) []
    else False
    else False
    else False
    else False))
  else False
def typing_Show_A : List AS := [.v (.sl (.int .u8)), .v (.st (.pair (.int .u8) (.pair (.int .i64) (.pair (.sl (.int .u8)) (.pair (.int .i64) (.int .i64))))))]
theorem typing_Show_walk (base0 : List Int) (y1 : (Int × Int × List Int × Int × Int)) (K : Res → List Cell → Prop) : runF tb (getG typing_Show_G) [] Try.f17 [true, true] (mkA typing_Show_A (base0, y1, ())) K = typing_Show_raw base0 y1 K := by kernel_rfl

def typing_Show_P (base0 : List Int) (y1 : (Int × Int × List Int × Int × Int)) : Prop :=
  (List.length ([] : List Int) + List.length base0 ≤ lim) ∧ (
  let r1 : Bool := typing_fits_F base0 y1
  bif (!r1) then
    True
  else
    (0 ≤ y1.2.1 ∧ y1.2.1 ≤ (List.length (([] : List Int) ++ base0) : Int)) ∧ (
    (List.length (List.take (Int.toNat y1.2.1) (([] : List Int) ++ base0)) + List.length y1.2.2.1 ≤ lim) ∧ (
    (0 ≤ (IntKind.wrap .i64 (y1.2.1 + y1.2.2.2.1)) ∧ (IntKind.wrap .i64 (y1.2.1 + y1.2.2.2.1)) ≤ (List.length base0 : Int)) ∧ (
    (List.length ((List.take (Int.toNat y1.2.1) (([] : List Int) ++ base0)) ++ y1.2.2.1) + List.length (List.drop (Int.toNat (IntKind.wrap .i64 (y1.2.1 + y1.2.2.2.1))) base0) ≤ lim)))))
def typing_Show_F (base0 : List Int) (y1 : (Int × Int × List Int × Int × Int)) : List Int × Int :=
  let r1 : Bool := typing_fits_F base0 y1
  bif (!r1) then
    ((([] : List Int) ++ base0), (0 : Int))
  else
    ((((List.take (Int.toNat y1.2.1) (([] : List Int) ++ base0)) ++ y1.2.2.1) ++ (List.drop (Int.toNat (IntKind.wrap .i64 (y1.2.1 + y1.2.2.2.1))) base0)), (IntKind.wrap .i64 (y1.2.1 + (List.length y1.2.2.1 : Int))))
set_option maxRecDepth 20000 in
theorem typing_Show_sp (base0 : List Int) (y1 : (Int × Int × List Int × Int × Int)) (K : Res → List Cell → Prop) (_ : wfA typing_Show_A (base0, y1, ())) (hp : typing_Show_P base0 y1) (h : ∀ r : List Int × Int, r = typing_Show_F base0 y1 → K (.tup [.fr 5 (.int .u8) r.1, .v (.int .i64) r.2]) []) : typing_Show_raw base0 y1 K := by
  unfold typing_Show_raw
  unfold typing_Show_P at hp
  refine asrt hp.1 ?_
  replace hp := hp.2
  intro r1 hr1
  subst hr1
  intro _
  refine brb (fun c1 => ?_) (fun c1 => ?_)
  ·
    clear hp
    have e := h _ ((ctrue c1) : typing_Show_F base0 y1 = _).symm
    exact e
  ·
    replace hp := cF c1 hp
    refine asrt hp.1 ?_
    replace hp := hp.2
    refine asrt hp.1 ?_
    replace hp := hp.2
    refine asrt hp.1 ?_
    replace hp := hp.2
    refine asrt hp ?_
    have e := h _ ((cfalse c1) : typing_Show_F base0 y1 = _).symm
    exact e
def typing_Show_C (v : valsA typing_Show_A) (K : Res → List Cell → Prop) : Prop := typing_Show_P v.1 v.2.1 ∧ ∀ r : List Int × Int, r = typing_Show_F v.1 v.2.1 → K (.tup [.fr 5 (.int .u8) r.1, .v (.int .i64) r.2]) []
def typing_Show_S : App := specW typing_Show_A typing_Show_C
theorem typing_Show_wv (K : Res → List Cell → Prop) : ∀ v : valsA typing_Show_A, runF tb (getG typing_Show_G) [] Try.f17 [true, true] (mkA typing_Show_A v) K = typing_Show_raw v.1 v.2.1 K
  | (base0, y1, ()) => typing_Show_walk base0 y1 K
set_option maxRecDepth 20000 in
theorem typing_Show_ok : AppOk Try.prog 17 typing_Show_S :=
  AppOk.specW (spec_ok (runF_ok tb_M tb_ok typing_Show_Gok (LabsOk.nil) (f := 17) (fn := Try.f17) (by kernel_rfl) (by kernel_rfl) (by kernel_rfl) [true, true]) fun v K hw h => (typing_Show_wv K v).mpr (typing_Show_sp v.1 v.2.1 K hw h.1 h.2))

end Go.VE
