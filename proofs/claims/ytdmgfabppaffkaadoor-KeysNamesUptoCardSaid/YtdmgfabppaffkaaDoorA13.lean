/- KeysNames: whatever the input, up to the bulk that the statement names, the law answers true, and what was handed in reads as it did. Its conditions: the bound of the given statement and the tables that its card ties, no other. -/
import Derived.Test.YtdmgfabppaffkaaDoorA12
import Derived.Shelf.Strconv.Itoa1
import Derived.Shelf.Strconv.Itoa2
import Derived.Lib.Walk
import Derived.Lib.ItoaWalk
import Derived.Lib.ItoaMem
import Derived.Lib.AppendIntMem
import Derived.Lib.BufferKept
import Derived.Lib.OwnKind
import Derived.Lib.Slices
import Derived.Lib.Hide
import Derived.OwnWalk
import Derived.WalkKit
import Derived.BigCall
import Derived.BigGuard
import Derived.CellFam
set_option linter.unusedVariables false
set_option linter.unusedSectionVars false
set_option linter.unusedSimpArgs false
namespace Go.VE
open Go Go.Proofs
--! base 1
--! external 1
--! args o:B U64 I
--! res fr:B
--! import F_internal_strconv_AppendUint0 VEr Derived.Shelf.Strconv.Itoa1 Derived.Shelf.Strconv.Itoa2  Derived.Lib.Walk Derived.Lib.ItoaWalk Derived.Lib.ItoaMem Derived.Lib.AppendIntMem Derived.Lib.BufferKept Derived.Lib.OwnKind Derived.Lib.Slices Derived.Lib.Hide Derived.OwnWalk Derived.WalkKit Derived.BigCall Derived.BigGuard Derived.CellFam
end Go.VE
namespace Go.VE
open Go

/-- an append whose run is known is taken -/
theorem step_append {P : Program} {ops : Array Oper} {rest : List Oper} {o : Oper} {a : Act} {w w' : World} {v' : Value} {Q : Exit → Act → World → Prop} (hgd : o.guard = none) (s x : Operand) (t t' : TypeId)
    (ho : o.op = .call { callee := .builtin .append, args := #[s, x], argTypes := #[t, t'] }) (hrun : (Builtin.append_ #[t, t'] o.type #[a.eval s, a.eval x]).run P w = .ok v' w') (h : wpList P ops Q rest (a.put o.dst v') w') :
    wpList P ops Q (o :: rest) a w := by
  refine wpList_plain hgd fun K hK => ?_
  unfold Oper.wp
  have e : (execOp a.eval o).run P w = .ok (.value v') w' := by
    unfold execOp
    rw [ho]
    simp [invoke, resolve, builtin, hrun]
  rw [e]
  exact hK _ _ h

/-- the numeral's bytes -/
def decI (u : Nat) : List Int := (Lib.decDigits u).map fun b => (b.toNat : Int)

def au_A : List AS := [.o 5 (.int .u8), .v (.int .u64), .v (.int .i64)]
end Go.VE
namespace Go.Proofs
open Go.Shelf Go.RowKit Go.Sort
def lays284_ren : Go.Shelf.Ren := ⟨fun | 284 => 58 | 129 => 63 | 317 => 62 | 318 => 64 | n => n, fun | 53 => 69 | 3 => 3 | 212 => 79 | 0 => 0 | 4 => 4 | 46 => 83 | 5 => 5 | 9 => 9 | n => n, fun | 17 => 1 | n => n⟩
theorem lays284 : LaysM.n284 Tryd.prog lays284_ren where
  mixed := by kernel_rfl
  f129 := Tryd.func63.trans (congrArg some (by kernel_rfl))
  f284 := Tryd.func58.trans (congrArg some (by kernel_rfl))
  f317 := Tryd.func62.trans (congrArg some (by kernel_rfl))
  f318 := Tryd.func64.trans (congrArg some (by kernel_rfl))
  t0 := Tryd.underlying0
  a0 := Tryd.isAgg0
  z0 := Tryd.sizeOf0
  v0 := Tryd.zeroValue0
  t3 := Tryd.underlying3
  a3 := Tryd.isAgg3
  z3 := Tryd.sizeOf3
  v3 := Tryd.zeroValue3
  t4 := Tryd.underlying4
  a4 := Tryd.isAgg4
  z4 := Tryd.sizeOf4
  v4 := Tryd.zeroValue4
  t5 := Tryd.underlying5
  a5 := Tryd.isAgg5
  z5 := Tryd.sizeOf5
  v5 := Tryd.zeroValue5
  t9 := Tryd.underlying9
  a9 := Tryd.isAgg9
  z9 := Tryd.sizeOf9
  v9 := Tryd.zeroValue9
  t46 := Tryd.underlying83
  a46 := Tryd.isAgg83
  z46 := Tryd.sizeOf83
  v46 := Tryd.zeroValue83
  t53 := Tryd.underlying69
  a53 := Tryd.isAgg69
  z53 := Tryd.sizeOf69
  v53 := Tryd.zeroValue69
  t212 := Tryd.underlying79
  a212 := Tryd.isAgg79
  z212 := Tryd.sizeOf79
  v212 := Tryd.zeroValue79
  g17 := by kernel_rfl
  i0 := by kernel_rfl
  i3 := by kernel_rfl
  i4 := by kernel_rfl
  i5 := by kernel_rfl
  i9 := by kernel_rfl
  i46 := by kernel_rfl
  i53 := by kernel_rfl
  i212 := by kernel_rfl
  m17 := by kernel_rfl
def lays285_ren : Go.Shelf.Ren := ⟨fun | 285 => 59 | n => n, fun | 37 => 22 | 53 => 69 | 3 => 3 | 4 => 4 | 51 => 80 | 9 => 9 | 5 => 5 | 0 => 0 | n => n, fun | n => n⟩
theorem lays285 : Go.Proofs.Lays.n285 Tryd.prog lays285_ren where
  mixed := by kernel_rfl
  f285 := Tryd.func59.trans (congrArg some (by kernel_rfl))
  t0 := Tryd.underlying0
  a0 := Tryd.isAgg0
  z0 := Tryd.sizeOf0
  v0 := Tryd.zeroValue0
  t3 := Tryd.underlying3
  a3 := Tryd.isAgg3
  z3 := Tryd.sizeOf3
  v3 := Tryd.zeroValue3
  t4 := Tryd.underlying4
  a4 := Tryd.isAgg4
  z4 := Tryd.sizeOf4
  v4 := Tryd.zeroValue4
  t5 := Tryd.underlying5
  a5 := Tryd.isAgg5
  z5 := Tryd.sizeOf5
  v5 := Tryd.zeroValue5
  t9 := Tryd.underlying9
  a9 := Tryd.isAgg9
  z9 := Tryd.sizeOf9
  v9 := Tryd.zeroValue9
  t37 := Tryd.underlying22
  a37 := Tryd.isAgg22
  z37 := Tryd.sizeOf22
  v37 := Tryd.zeroValue22
  t51 := Tryd.underlying80
  a51 := Tryd.isAgg80
  z51 := Tryd.sizeOf80
  v51 := Tryd.zeroValue80
  t53 := Tryd.underlying69
  a53 := Tryd.isAgg69
  z53 := Tryd.sizeOf69
  v53 := Tryd.zeroValue69


set_option maxHeartbeats 3200000 in
set_option maxRecDepth 100000 in
theorem au_big (Post : Value → World → Prop) (u : Nat) (hu : 100 ≤ u) (hu64 : u < 18446744073709551616) (sv : Value) (w : World)
    (htab : Lib.TabIs Tryd.prog w "internal/strconv.uint64pow10" .u64 Lib.pow10Tab)
    (happ : ∀ W2 : World, W2.os = w.os → W2.tape = w.tape → W2.output = w.output → w.heap.size ≤ W2.heap.size → (∀ k, k < w.heap.size → W2.heap[k]? = w.heap[k]?) →
      (∀ j (h : j < (Lib.decDigits u).length), W2.cell? ⟨w.heap.size, j, none⟩ = some (Value.int .u8 ((Lib.decDigits u)[j].toNat : Int))) →
      ∃ v' w', (Builtin.append_ #[22, 22] 22 #[sv, .slice (some ⟨w.heap.size, 0, none⟩) (Lib.nDigits u) 24]).run Tryd.prog W2 = .ok v' w' ∧ Post v' w') :
    Calls Tryd.prog 54 #[sv, .int .u64 u, .int .i64 10] w fun e w' => ∃ v, e = .returned v ∧ Post v w' := by
  have e58 : ∀ args w, (callFunc 58 args).run Tryd.prog w = .ok (.enter 58 args) w := VE.enters_of Tryd.func58 (by kernel_rfl)
  have e59 : ∀ args w, (callFunc 59 args).run Tryd.prog w = .ok (.enter 59 args) w := VE.enters_of Tryd.func59 (by kernel_rfl)
  have hu1 : 1 ≤ u := by omega
  have hnd20 : Lib.nDigits u ≤ 20 := by have := Lib.numDigits_eq u hu1 hu64; split at this <;> omega
  have iu : (100 : Int) ≤ (u : Int) := by omega
  have hal : Tryd.prog.arrayLen 72 = 24 := by kernel_rfl
  have hsl : ∀ W, (Instr.sliceAt 72 (.pointer (some ⟨w.heap.size, 0, none⟩)) none (some (.int .i64 (Lib.nDigits u : Int))) none).run Tryd.prog W = .ok (.slice (some ⟨w.heap.size, 0, none⟩) (Lib.nDigits u) 24) W := fun W => by
    rw [run_sliceAt_array_h W 72 ⟨w.heap.size, 0, none⟩ (by kernel_rfl) .i64 (Lib.nDigits u : Int) (by omega) (by rw [hal]; omega)]
    go_simp
  have hH0 := Lib.holds_zero0 w 72 (Lib.nDigits u) (by omega)
  have hfmt := Any.internal_strconv_formatBase10 lays285 w.heap.size 0 24 u (Array.replicate (Lib.nDigits u) 0) (w.alloc (.cells Lib.zeros24 72)) hH0 (by rw [Array.size_replicate]; exact Lib.lt_pow_nDigits u) hu64 (by rw [Array.size_replicate]; omega)
  rw [Array.size_replicate] at hfmt
  have HH0 := Lib.hid hH0
  clear hH0
  go_enter Tryd.func54, Tryd.ntmps54
  go_wp2_with (first
    | (go_at_fn 58; refine (Any.internal_strconv_numDigits lays284 u hu1 hu64 _ (Lib.tabIs_alloc htab _)).mono ?_; rintro e w' ⟨rfl, rfl⟩))
  go_at_fn 59
  refine hfmt.mono ?_
  rintro e w' ⟨rfl, k, v', dk, rfl, hF⟩
  obtain ⟨os, eo⟩ := Lib.fin_at w (.cells Lib.zeros24 72) dk k 0
  obtain ⟨v2, w2, hrun, hpost⟩ := happ ((putRow (fun (b : UInt8) => Value.int .u8 (b.toNat : Int)) (w.alloc (.cells Lib.zeros24 72)) w.heap.size 0 dk).drewN k) (by rw [eo]; rfl) (by rw [eo]; rfl) (by rw [eo]; rfl) (by rw [eo]; exact Lib.size_grow w k os)
    (fun g hg => by rw [eo]; exact Lib.heap_grow_old w k os g hg) (fun j hj => by
      have := cell?_putRow (fun (b : UInt8) => Value.int .u8 (b.toNat : Int)) (w.alloc (.cells Lib.zeros24 72)) w.heap.size 0 (Array.replicate (Lib.nDigits u) 0) dk HH0.out (by rw [hF.size, Array.size_replicate]) j (by rw [hF.size]; rw [Lib.decDigits_length] at hj; exact hj)
      rw [Lib.row_is_numeral hF j hj, World.cell?_drewN]
      simpa using this)
  generalize (putRow (fun (b : UInt8) => Value.int .u8 (b.toNat : Int)) (w.alloc (.cells Lib.zeros24 72)) w.heap.size 0 dk).drewN k = W2 at hrun ⊢
  clear eo HH0 hfmt happ
  go_wp2_with (at_builtin; refine VE.step_append rfl _ _ 22 22 rfl hrun ?_)
  go_wp2
  go_ret
  exact ⟨_, rfl, hpost⟩
end Go.Proofs
namespace Go.VE
open Go

theorem decI_byte (u : Nat) : ∀ x ∈ decI u, 0 ≤ x ∧ x ≤ 255 := fun x hx => by
  unfold decI at hx
  obtain ⟨b, _, rfl⟩ := List.mem_map.1 hx
  have := b.toNat_lt
  omega

theorem decI_len (u : Nat) : (decI u).length = Lib.nDigits u := by unfold decI; rw [List.length_map, Lib.decDigits_length]

theorem digits20 {u : Nat} (h1 : 1 ≤ u) (h : u < 18446744073709551616) : Lib.nDigits u ≤ 20 := by
  have := Lib.numDigits_eq u h1 h
  split at this <;> omega

/-- from 100 on -/
theorem au_spec (xs : List Int) (u : Int) (hu : 100 ≤ u) (hl : xs.length + 20 ≤ lim) {Ok : Res → List Cell → Prop} (hK : wfR (.one (.fr 5 (.int .u8) (xs ++ decI u.toNat))) → Ok (.one (.fr 5 (.int .u8) (xs ++ decI u.toNat))) []) :
    CallSpec Go.Proofs.Tryd.prog 54 (mkA au_A (xs, u, 10, ())) (fun r o => wfR r → Ok r o) := by
  intro I w vs bs hI hg ha
  have hlen := ha.length
  obtain ⟨sv, uv, bv, rfl⟩ : ∃ a b c, vs = [a, b, c] := by
    match vs, hlen with
    | [a, b, c], _ => exact ⟨a, b, c, rfl⟩
  obtain ⟨b, rfl⟩ : ∃ b, bs = [b] := by
    cases bs with
    | nil => exact ha.elim
    | cons b bs =>
      cases bs with
      | nil => exact ⟨b, rfl⟩
      | cons c bs => exact ha.2.2.2.elim
  · have ha' := ha
    obtain ⟨hs, hu2, hb2, _⟩ := ha'
    obtain ⟨hur, rfl⟩ := RepV.int_eq hu2
    obtain ⟨_, rfl⟩ := RepV.int_eq hb2
    obtain ⟨n, rfl⟩ : ∃ n : Nat, u = n := ⟨u.toNat, by omega⟩
    have hn64 : n < 18446744073709551616 := by
      have := hur.2
      simp only [kmax] at this
      omega
    have hg' := hg
    obtain ⟨g, ob, _, _, h2, h3⟩ := hg'
    have htab := h3 w h2
    have hd20 := digits20 (u := n) (by omega) hn64
    refine Go.Proofs.au_big (fun v w' => Behind I w [b] (refsOf (mkA au_A (xs, (n : Int), 10, ())) [b]) (fun r o => wfR r → Ok r o) v w') n (by omega) hn64 sv w htab ?_
    intro W2 ho ht hp hz hold hcell
    have hinv := init_inv hI hg ha 3
    have hgr := hinv.grow hz hold ho ht hp
    have hslot := hgr.slot 0
    have hown : OwnV (names0 (mkA au_A (xs, (n : Int), 10, ())) [sv, .int .u64 n, .int .i64 10] [b] 0) I W2 0 5 (.int .u8) xs sv := hslot
    obtain ⟨news, hsrc⟩ := src_slice (P := Go.Proofs.Tryd.prog) (I := I) (w := W2) (t' := 22) (el := 5) (e := .int .u8) (ys := decI n) (A := some ⟨w.heap.size, 0, none⟩) (cap := 24) (by kernel_rfl) (fun i hi => by
      refine ⟨w.heap.size, 0, rfl, [.int .u8 (decI n)[i]], ⟨decI_byte n _ (List.getElem_mem hi), rfl⟩, fun j v hv => ?_⟩
      cases j with
      | succ j => simp at hv
      | zero =>
        simp at hv; subst hv
        have hi' : i < (Lib.decDigits n).length := by simpa [decI] using hi
        have := hcell i hi'
        simpa [decI, Ty.cells] using this)
    rw [decI_len] at hsrc
    obtain ⟨v', w', G', hrun, hI', hown'⟩ := append_own (ty := 22) tb_ok (t := 22) (t' := 22) (ti := ⟨.sl (.int .u8), 5, [], 24⟩) rfl rfl rfl hgr (by decide) hown hsrc (by rw [decI_len]; omega)
    refine ⟨v', w', hrun, .one (.fr 5 (.int .u8) (xs ++ decI n)), [], fun _ => False, ?_⟩
    obtain ⟨bo, hG, hv⟩ := hown'
    refine ⟨[bo], hK, hI'.since, fun b h => h.elim, fun i b' hi => ?_, ⟨bo, rfl, ?_⟩, trivial⟩
    · cases i with
      | succ i => simp at hi
      | zero =>
        simp at hi; subst hi
        refine ⟨?_, (hI'.own _ _ b' hG rfl).2.1, fun h => h, fun j hj => ?_⟩
        · rcases hI'.tok_new hG with h | h
          · exact .inl h
          · exact .inr ⟨h.1, by show b' ∉ ([] : List Nat); simp⟩
        · cases j with
          | zero => rfl
          | succ j => simp at hj
    · rcases hv with ⟨rfl, rfl, hx⟩ | ⟨b', rfl, hr⟩
      · exact ⟨rfl, hx⟩
      · exact RVRel.keep (x := .fr 5 (.int .u8) (xs ++ decI n)) (b := some b') (fun _ h => .inl h) hr
end Go.VE

namespace Go.VE
open Go Go.Proofs
def internal_strconv_AppendUint_P (xs : List Int) (_ base : Int) : Prop := xs.length + 20 ≤ lim ∧ base = 10
def internal_strconv_AppendUint_F (xs : List Int) (u _ : Int) : List Int := xs ++ decI u.toNat
def internal_strconv_AppendUint_C (v : valsA au_A) (K : Res → List Cell → Prop) : Prop := internal_strconv_AppendUint_P v.1 v.2.1 v.2.2.1 ∧ ∀ r : List Int, r = internal_strconv_AppendUint_F v.1 v.2.1 v.2.2.1 → K (.one (.fr 5 (.int .u8) r)) []
def internal_strconv_AppendUint_S : App := specW au_A internal_strconv_AppendUint_C
theorem small_dec : ∀ n : Fin 100, internal_strconv_small_F (n.val : Int) = decI n.val := by decide +kernel
set_option maxRecDepth 20000 in
theorem small_P {n : Nat} (h : n < 100) : internal_strconv_small_P (n : Int) := by
  unfold internal_strconv_small_P
  rw [wrap_i64 (n := (n : Int) + 1) (by omega) (by omega), wrap_i64 (n := (n : Int) * 2) (by omega) (by omega), wrap_i64 (n := (n : Int) * 2 + 2) (by omega) (by omega)]
  by_cases h10 : (n : Int) < 10
  · have e : decide ((n : Int) < 10) = true := by simpa using h10
    rw [e]
    simp only [cond_true, List.length_cons, List.length_nil]
    omega
  · have e : decide ((n : Int) < 10) = false := by simpa using h10
    rw [e]
    simp only [cond_false, List.length_cons, List.length_nil]
    omega
theorem internal_strconv_AppendUint_ok : AppOk Tryd.prog 54 internal_strconv_AppendUint_S := by
  intro ags K hs
  obtain ⟨v, rfl, hP, hK⟩ := rdA_of _ ags _ hs
  obtain ⟨xs, u, b, ⟨⟩⟩ := v
  obtain ⟨hl, hb⟩ := hP
  change xs.length + 20 ≤ lim at hl
  change b = 10 at hb
  subst hb
  refine Meets.when (p := wfA au_A (xs, u, 10, ())) (fun I w vs bs ha => ArgsRel.wf au_A _ ha) fun hw => ?_
  have h0 : 0 ≤ u := hw.2.1.1
  by_cases h100 : u < 100
  · obtain ⟨n, rfl⟩ : ∃ n : Nat, u = (n : Int) := ⟨Int.toNat u, (Int.toNat_of_nonneg h0).symm⟩
    have hn : n < 100 := by
      have h100' : (n : Int) < 100 := h100
      omega
    have sd : internal_strconv_small_F (n : Int) = decI n := small_dec ⟨n, hn⟩
    refine internal_strconv_AppendUint0_ok (mkA internal_strconv_AppendUint0_A (xs, (n : Int), (10 : Int), ())) K (rdA_mk internal_strconv_AppendUint0_A (xs, (n : Int), (10 : Int), ()) (fun v => internal_strconv_AppendUint0_C v fun r o => wfR r → K r o) ⟨?_, fun r hr => ?_⟩)
    · show internal_strconv_AppendUint0_P xs (n : Int) 10
      unfold internal_strconv_AppendUint0_P
      have e : decide ((n : Int) < 100) = true := by simpa using h100
      rw [e, wrap_i64 (by omega) (by omega)]
      show internal_strconv_small_P (n : Int) ∧ _
      refine ⟨small_P hn, ?_⟩
      show xs.length + (internal_strconv_small_F (n : Int)).length ≤ lim
      rw [sd, decI_len]
      have : Lib.nDigits n ≤ 2 := by
        have : ∀ n : Fin 100, Lib.nDigits n.val ≤ 2 := by decide +kernel
        exact this ⟨n, hn⟩
      omega
    · refine hK r ?_
      rw [hr]
      show internal_strconv_AppendUint0_F xs (n : Int) 10 = xs ++ decI (Int.toNat (n : Int))
      unfold internal_strconv_AppendUint0_F
      have e : decide ((n : Int) < 100) = true := by simpa using h100
      rw [e, wrap_i64 (by omega) (by omega), Int.toNat_natCast]
      show xs ++ internal_strconv_small_F (n : Int) = _
      rw [sd]
  · refine Meets.mono (Ok := fun r o => wfR r → K r o) (.inl ⟨enters_of Tryd.func54 (by kernel_rfl), au_spec xs u (Int.not_lt.1 h100) hl (fun hwf => hK _ rfl hwf)⟩) fun r o I w v fb hr hk => hk (ResRel.wf hr)

end Go.VE
namespace Go.VE
open Go Go.Proofs
/-! ### internal/strconv.AppendInt -/
def internal_strconv_AppendInt_G : List (Nat × App) := [(54, internal_strconv_AppendUint_S)]
theorem internal_strconv_AppendInt_Gok : GOk Tryd.prog (getG internal_strconv_AppendInt_G) := GOk.cons internal_strconv_AppendUint_ok (GOk.nil)
def internal_strconv_AppendInt_raw (dst0 : List Int) (i1 : Int) (base2 : Int) (K : Res → List Cell → Prop) : Prop :=
 bif (decide (i1 < (0 : Int))) then
 bif decide (List.length dst0 + List.length ([(45 : Int)] : List Int) ≤ lim) then
 internal_strconv_AppendUint_P (dst0 ++ ([(45 : Int)] : List Int)) (IntKind.wrap .u64 (0 - (IntKind.wrap .u64 i1))) base2 ∧ (
 ∀ (r1 : List Int), r1 = internal_strconv_AppendUint_F (dst0 ++ ([(45 : Int)] : List Int)) (IntKind.wrap .u64 (0 - (IntKind.wrap .u64 i1))) base2 → (
 wfR (.one (.fr 5 (.int .u8) r1)) → (
 K (.one (.fr 5 (.int .u8) r1)) [])))
 else False
 else
 internal_strconv_AppendUint_P dst0 (IntKind.wrap .u64 i1) base2 ∧ (
 ∀ (r2 : List Int), r2 = internal_strconv_AppendUint_F dst0 (IntKind.wrap .u64 i1) base2 → (
 wfR (.one (.fr 5 (.int .u8) r2)) → (
 K (.one (.fr 5 (.int .u8) r2)) [])))
def internal_strconv_AppendInt_A : List AS := [.o 5 (.int .u8), .v (.int .i64), .v (.int .i64)]
theorem internal_strconv_AppendInt_walk (dst0 : List Int) (i1 : Int) (base2 : Int) (K : Res → List Cell → Prop) : runF tb (getG internal_strconv_AppendInt_G) [] Tryd.f50 [true] (mkA internal_strconv_AppendInt_A (dst0, i1, base2, ())) K = internal_strconv_AppendInt_raw dst0 i1 base2 K := by kernel_rfl
--! own 0

def internal_strconv_AppendInt_P (dst0 : List Int) (i1 : Int) (base2 : Int) : Prop :=
 bif (decide (i1 < (0 : Int))) then
 (List.length dst0 + List.length ([(45 : Int)] : List Int) ≤ lim) ∧ (
 internal_strconv_AppendUint_P (dst0 ++ ([(45 : Int)] : List Int)) (IntKind.wrap .u64 (0 - (IntKind.wrap .u64 i1))) base2)
 else
 internal_strconv_AppendUint_P dst0 (IntKind.wrap .u64 i1) base2
def internal_strconv_AppendInt_F (dst0 : List Int) (i1 : Int) (base2 : Int) : List Int :=
 bif (decide (i1 < (0 : Int))) then
 let r1 : List Int := internal_strconv_AppendUint_F (dst0 ++ ([(45 : Int)] : List Int)) (IntKind.wrap .u64 (0 - (IntKind.wrap .u64 i1))) base2
 r1
 else
 let r2 : List Int := internal_strconv_AppendUint_F dst0 (IntKind.wrap .u64 i1) base2
 r2
set_option maxRecDepth 20000 in
theorem internal_strconv_AppendInt_sp (dst0 : List Int) (i1 : Int) (base2 : Int) (K : Res → List Cell → Prop) (_ : wfA internal_strconv_AppendInt_A (dst0, i1, base2, ())) (hp : internal_strconv_AppendInt_P dst0 i1 base2) (h : ∀ r : List Int, r = internal_strconv_AppendInt_F dst0 i1 base2 → K (.one (.fr 5 (.int .u8) r)) []) : internal_strconv_AppendInt_raw dst0 i1 base2 K := by
  unfold internal_strconv_AppendInt_raw
  unfold internal_strconv_AppendInt_P at hp
  refine brb (fun c_1 => ?_) (fun c_1 => ?_)
  ·
    replace hp := cT c_1 hp
    refine asrt hp.1 ?_
    replace hp := hp.2
    refine ⟨hp, ?_⟩
    intro r1 hr1
    subst hr1
    intro _
    exact h _ ((ctrue c_1) : internal_strconv_AppendInt_F dst0 i1 base2 = _).symm
  ·
    replace hp := cF c_1 hp
    refine ⟨hp, ?_⟩
    intro r2 hr2
    subst hr2
    intro _
    exact h _ ((cfalse c_1) : internal_strconv_AppendInt_F dst0 i1 base2 = _).symm
def internal_strconv_AppendInt_C (v : valsA internal_strconv_AppendInt_A) (K : Res → List Cell → Prop) : Prop := internal_strconv_AppendInt_P v.1 v.2.1 v.2.2.1 ∧ ∀ r : List Int, r = internal_strconv_AppendInt_F v.1 v.2.1 v.2.2.1 → K (.one (.fr 5 (.int .u8) r)) []
def internal_strconv_AppendInt_S : App := specW internal_strconv_AppendInt_A internal_strconv_AppendInt_C
theorem internal_strconv_AppendInt_wv (K : Res → List Cell → Prop) : ∀ v : valsA internal_strconv_AppendInt_A, runF tb (getG internal_strconv_AppendInt_G) [] Tryd.f50 [true] (mkA internal_strconv_AppendInt_A v) K = internal_strconv_AppendInt_raw v.1 v.2.1 v.2.2.1 K
  | (dst0, i1, base2, ()) => internal_strconv_AppendInt_walk dst0 i1 base2 K
set_option maxRecDepth 20000 in
theorem internal_strconv_AppendInt_ok : AppOk Tryd.prog 50 internal_strconv_AppendInt_S :=
  AppOk.specW (spec_ok (runF_ok tb_M tb_ok internal_strconv_AppendInt_Gok (LabsOk.nil) (f := 50) (fn := Tryd.f50) (by kernel_rfl) (by kernel_rfl) (by kernel_rfl) [true]) fun v K hw h => (internal_strconv_AppendInt_wv K v).mpr (internal_strconv_AppendInt_sp v.1 v.2.1 v.2.2.1 K hw h.1 h.2))

end Go.VE
namespace Go.VE
open Go Go.Proofs
/-! ### strconv.AppendInt -/
def strconv_AppendInt_G : List (Nat × App) := [(50, internal_strconv_AppendInt_S)]
theorem strconv_AppendInt_Gok : GOk Tryd.prog (getG strconv_AppendInt_G) := GOk.cons internal_strconv_AppendInt_ok (GOk.nil)
def strconv_AppendInt_raw (dst0 : List Int) (i1 : Int) (base2 : Int) (K : Res → List Cell → Prop) : Prop :=
 internal_strconv_AppendInt_P dst0 i1 base2 ∧ (
 ∀ (r1 : List Int), r1 = internal_strconv_AppendInt_F dst0 i1 base2 → (
 wfR (.one (.fr 5 (.int .u8) r1)) → (
 K (.one (.fr 5 (.int .u8) r1)) [])))
def strconv_AppendInt_A : List AS := [.o 5 (.int .u8), .v (.int .i64), .v (.int .i64)]
theorem strconv_AppendInt_walk (dst0 : List Int) (i1 : Int) (base2 : Int) (K : Res → List Cell → Prop) : runF tb (getG strconv_AppendInt_G) [] Tryd.f37 [true] (mkA strconv_AppendInt_A (dst0, i1, base2, ())) K = strconv_AppendInt_raw dst0 i1 base2 K := by kernel_rfl
--! own 0

def strconv_AppendInt_P (dst0 : List Int) (i1 : Int) (base2 : Int) : Prop :=
 internal_strconv_AppendInt_P dst0 i1 base2
def strconv_AppendInt_F (dst0 : List Int) (i1 : Int) (base2 : Int) : List Int :=
 let r1 : List Int := internal_strconv_AppendInt_F dst0 i1 base2
 r1
set_option maxRecDepth 20000 in
theorem strconv_AppendInt_sp (dst0 : List Int) (i1 : Int) (base2 : Int) (K : Res → List Cell → Prop) (_ : wfA strconv_AppendInt_A (dst0, i1, base2, ())) (hp : strconv_AppendInt_P dst0 i1 base2) (h : ∀ r : List Int, r = strconv_AppendInt_F dst0 i1 base2 → K (.one (.fr 5 (.int .u8) r)) []) : strconv_AppendInt_raw dst0 i1 base2 K := by
  unfold strconv_AppendInt_raw
  unfold strconv_AppendInt_P at hp
  refine ⟨hp, ?_⟩
  intro r1 hr1
  subst hr1
  intro _
  exact h _ rfl
def strconv_AppendInt_C (v : valsA strconv_AppendInt_A) (K : Res → List Cell → Prop) : Prop := strconv_AppendInt_P v.1 v.2.1 v.2.2.1 ∧ ∀ r : List Int, r = strconv_AppendInt_F v.1 v.2.1 v.2.2.1 → K (.one (.fr 5 (.int .u8) r)) []
def strconv_AppendInt_S : App := specW strconv_AppendInt_A strconv_AppendInt_C
theorem strconv_AppendInt_wv (K : Res → List Cell → Prop) : ∀ v : valsA strconv_AppendInt_A, runF tb (getG strconv_AppendInt_G) [] Tryd.f37 [true] (mkA strconv_AppendInt_A v) K = strconv_AppendInt_raw v.1 v.2.1 v.2.2.1 K
  | (dst0, i1, base2, ()) => strconv_AppendInt_walk dst0 i1 base2 K
set_option maxRecDepth 20000 in
theorem strconv_AppendInt_ok : AppOk Tryd.prog 37 strconv_AppendInt_S :=
  AppOk.specW (spec_ok (runF_ok tb_M tb_ok strconv_AppendInt_Gok (LabsOk.nil) (f := 37) (fn := Tryd.f37) (by kernel_rfl) (by kernel_rfl) (by kernel_rfl) [true]) fun v K hw h => (strconv_AppendInt_wv K v).mpr (strconv_AppendInt_sp v.1 v.2.1 v.2.2.1 K hw h.1 h.2))

end Go.VE
namespace Go.VE
open Go Go.Proofs
/-! ### quoin/keys.Spell -/
def keys_Spell_G : List (Nat × App) := [(35, keys_is_S), (37, strconv_AppendInt_S), (16, keys_Name_S)]
theorem keys_Spell_Gok : GOk Tryd.prog (getG keys_Spell_G) := GOk.cons keys_is_ok (GOk.cons strconv_AppendInt_ok (GOk.cons keys_Name_ok (GOk.nil)))
theorem keys_Spell_st : storesC (bodyOf Tryd.f17) = true := by kernel_rfl
def keys_Spell_d0 : List LS := [.b 1 8 [], .o 3 29 5 (.int .u8), .c 8 (.st (.pair (.int .u8) (.pair (.int .i64) (.pair (.str) (.pair (.str) (.pair (.int .u8) (.sl (.int .u8))))))))]
def keys_Spell_d0r : List LS := [.o 2 21 5 (.int .u8)]
def keys_Spell_dx0 : DX := ⟨none, some keys_Spell_d0r, []⟩
def keys_Spell_J0 (kr : List Int → Prop) (p3 : List Int) (c1b : CmT) : Prop :=
 bif (!decide (c1b.2.1 = (0 : Int))) then
 strconv_AppendInt_P p3 c1b.2.1 (10 : Int) ∧ (
 ∀ (r2 : List Int), r2 = strconv_AppendInt_F p3 c1b.2.1 (10 : Int) → (
 wfR (.one (.fr 5 (.int .u8) r2)) → (
 keys_Name_P c1b ∧ (
 ∀ (r3 : List Int), r3 = keys_Name_F c1b → (
 wfR (.one (.fr 5 (.int .u8) r3)) → (
 bif decide (List.length r2 + List.length r3 ≤ lim) then
 kr (r2 ++ r3)
 else False))))))
 else
 keys_Name_P c1b ∧ (
 ∀ (r4 : List Int), r4 = keys_Name_F c1b → (
 wfR (.one (.fr 5 (.int .u8) r4)) → (
 bif decide (List.length p3 + List.length r4 ≤ lim) then
 kr (p3 ++ r4)
 else False)))
theorem keys_Spell_s0 (k : Ex → St → Prop) (p3 : List Int) (c1b : CmT) :
    ex tb (getG keys_Spell_G) [] (at' (bodyOf Tryd.f17) [1, 1, 1, 1]) [1, 1, 1, 1] (mkD 26 keys_Spell_d0 (p3, c1b, ())) (wk 26 keys_Spell_dx0 k) =
    keys_Spell_J0 (fun x2 => wfD keys_Spell_d0r (x2, ()) → k .ret (mkD 26 keys_Spell_d0r (x2, ()))) p3 c1b := by kernel_rfl
theorem keys_Spell_v0 (k : Ex → St → Prop) : ∀ v : vals keys_Spell_d0, ex tb (getG keys_Spell_G) [] (at' (bodyOf Tryd.f17) [1, 1, 1, 1]) [1, 1, 1, 1] (mkD 26 keys_Spell_d0 v) (wk 26 keys_Spell_dx0 k) = keys_Spell_J0 (fun x2 => wfD keys_Spell_d0r (x2, ()) → k .ret (mkD 26 keys_Spell_d0r (x2, ()))) v.1 v.2.1
  | (p3, c1b, ()) => keys_Spell_s0 k p3 c1b
def keys_Spell_X0 : Pce := fun st k => ckD 26 keys_Spell_d0 st fun v => wfD keys_Spell_d0 v → keys_Spell_J0 (fun x2 => wfD keys_Spell_d0r (x2, ()) → k .ret (mkD 26 keys_Spell_d0r (x2, ()))) v.1 v.2.1
set_option maxRecDepth 20000 in
theorem keys_Spell_x0 : SemOk Tryd.prog (at' (bodyOf Tryd.f17) [1, 1, 1, 1]) keys_Spell_X0 :=
  (SemOk.wk (N := 26) (ds := keys_Spell_d0) (dx := keys_Spell_dx0) (ex_sound tb_M tb_ok keys_Spell_Gok (LabsOk.nil) (at' (bodyOf Tryd.f17) [1, 1, 1, 1]) [1, 1, 1, 1] rfl (storesC_at keys_Spell_st [1, 1, 1, 1]))).mono fun st k h => ckD_mono h fun v hv hw => Eq.mpr (keys_Spell_v0 k v) (hv hw)
def keys_Spell_B0 : Labs := ([1, 1, 1, 1], keys_Spell_X0) :: []
theorem keys_Spell_b0 : LabsOk Tryd.prog (bodyOf Tryd.f17) keys_Spell_B0 := LabsOk.cons keys_Spell_x0 (LabsOk.nil)
def keys_Spell_raw (c0 : CmT) (K : Res → List Cell → Prop) : Prop :=
 keys_is_P c0 ∧ (
 ∀ (r1 : Bool), r1 = keys_is_F c0 → (
 wfR (.one (.v (.bool) r1)) → (
 bif (!r1) then
 K (.one (.fr 5 (.int .u8) ([] : List Int))) []
 else
 bif (!decide (c0.1 = (0 : Int))) then
 bif decide (List.length ([] : List Int) + List.length ([(34 : Int), c0.1] : List Int) ≤ lim) then
 (wfD keys_Spell_d0 ((([] : List Int) ++ ([(34 : Int), c0.1] : List Int)), c0, ()) → keys_Spell_J0 (fun (x2 : List Int) => wfD keys_Spell_d0r (x2, ()) → (
 K (.one (.fr 5 (.int .u8) x2)) [])) (([] : List Int) ++ ([(34 : Int), c0.1] : List Int)) c0)
 else False
 else
 (wfD keys_Spell_d0 (([] : List Int), c0, ()) → keys_Spell_J0 (fun (x2 : List Int) => wfD keys_Spell_d0r (x2, ()) → (
 K (.one (.fr 5 (.int .u8) x2)) [])) ([] : List Int) c0))))
def keys_Spell_A : List AS := [.v (.st (.pair (.int .u8) (.pair (.int .i64) (.pair (.str) (.pair (.str) (.pair (.int .u8) (.sl (.int .u8))))))))]
theorem keys_Spell_walk (c0 : CmT) (K : Res → List Cell → Prop) : runF tb (getG keys_Spell_G) keys_Spell_B0 Tryd.f17 [true] (mkA keys_Spell_A (c0, ())) K = keys_Spell_raw c0 K := by kernel_rfl

def keys_Spell_J0_P (p3 : List Int) (c1b : CmT) : Prop :=
 bif (!decide (c1b.2.1 = (0 : Int))) then
 strconv_AppendInt_P p3 c1b.2.1 (10 : Int) ∧ (
 let r2 : List Int := strconv_AppendInt_F p3 c1b.2.1 (10 : Int)
 keys_Name_P c1b ∧ (
 let r3 : List Int := keys_Name_F c1b
 (List.length r2 + List.length r3 ≤ lim)))
 else
 keys_Name_P c1b ∧ (
 let r4 : List Int := keys_Name_F c1b
 (List.length p3 + List.length r4 ≤ lim))
def keys_Spell_J0_F (p3 : List Int) (c1b : CmT) : List Int :=
 bif (!decide (c1b.2.1 = (0 : Int))) then
 let r2 : List Int := strconv_AppendInt_F p3 c1b.2.1 (10 : Int)
 let r3 : List Int := keys_Name_F c1b
 ((r2 ++ r3))
 else
 let r4 : List Int := keys_Name_F c1b
 ((p3 ++ r4))
set_option maxRecDepth 20000 in
theorem keys_Spell_J0_sp (kr : List Int → Prop) (p3 : List Int) (c1b : CmT) (hp : keys_Spell_J0_P p3 c1b) (hr : ∀ q : List Int, q = keys_Spell_J0_F p3 c1b → kr q) : keys_Spell_J0 kr p3 c1b := by
  unfold keys_Spell_J0
  unfold keys_Spell_J0_P at hp
  refine brb (fun c_1 => ?_) (fun c_1 => ?_)
  ·
    replace hp := cT c_1 hp
    refine ⟨hp.1, ?_⟩
    replace hp := hp.2
    intro r2 hr2
    subst hr2
    intro _
    refine ⟨hp.1, ?_⟩
    replace hp := hp.2
    intro r3 hr3
    subst hr3
    intro _
    refine asrt hp ?_
    have e := hr _ ((ctrue c_1) : keys_Spell_J0_F p3 c1b = _).symm
    exact e
  ·
    replace hp := cF c_1 hp
    refine ⟨hp.1, ?_⟩
    replace hp := hp.2
    intro r4 hr4
    subst hr4
    intro _
    refine asrt hp ?_
    have e := hr _ ((cfalse c_1) : keys_Spell_J0_F p3 c1b = _).symm
    exact e
def keys_Spell_P (c0 : CmT) : Prop :=
 keys_is_P c0 ∧ (
 let r1 : Bool := keys_is_F c0
 bif (!r1) then
 True
 else
 bif (!decide (c0.1 = (0 : Int))) then
 (List.length ([] : List Int) + List.length ([(34 : Int), c0.1] : List Int) ≤ lim) ∧ (
 keys_Spell_J0_P (([] : List Int) ++ ([(34 : Int), c0.1] : List Int)) c0)
 else
 keys_Spell_J0_P ([] : List Int) c0)
def keys_Spell_F (c0 : CmT) : List Int :=
 let r1 : Bool := keys_is_F c0
 bif (!r1) then
 ([] : List Int)
 else
 bif (!decide (c0.1 = (0 : Int))) then
 let q0r : List Int := keys_Spell_J0_F (([] : List Int) ++ ([(34 : Int), c0.1] : List Int)) c0
 let x2 : List Int := q0r
 x2
 else
 let q0r : List Int := keys_Spell_J0_F ([] : List Int) c0
 let x2 : List Int := q0r
 x2
set_option maxRecDepth 20000 in
theorem keys_Spell_sp (c0 : CmT) (K : Res → List Cell → Prop) (_ : wfA keys_Spell_A (c0, ())) (hp : keys_Spell_P c0) (h : ∀ r : List Int, r = keys_Spell_F c0 → K (.one (.fr 5 (.int .u8) r)) []) : keys_Spell_raw c0 K := by
  unfold keys_Spell_raw
  unfold keys_Spell_P at hp
  refine ⟨hp.1, ?_⟩
  replace hp := hp.2
  intro r1 hr1
  subst hr1
  intro _
  refine brb (fun c_2 => ?_) (fun c_2 => ?_)
  ·
    clear hp
    exact h _ ((ctrue c_2) : keys_Spell_F c0 = _).symm
  ·
    replace hp := cF c_2 hp
    refine brb (fun c_3 => ?_) (fun c_3 => ?_)
    ·
      replace hp := cT c_3 hp
      refine asrt hp.1 ?_
      replace hp := hp.2
      refine fun _ => keys_Spell_J0_sp _ _ _ hp (fun q hq => ?_)
      subst hq
      intro _
      clear hp
      exact h _ ((Eq.trans (cfalse c_2) (ctrue c_3)) : keys_Spell_F c0 = _).symm
    ·
      replace hp := cF c_3 hp
      refine fun _ => keys_Spell_J0_sp _ _ _ hp (fun q hq => ?_)
      subst hq
      intro _
      clear hp
      exact h _ ((Eq.trans (cfalse c_2) (cfalse c_3)) : keys_Spell_F c0 = _).symm
def keys_Spell_C (v : valsA keys_Spell_A) (K : Res → List Cell → Prop) : Prop := keys_Spell_P v.1 ∧ ∀ r : List Int, r = keys_Spell_F v.1 → K (.one (.fr 5 (.int .u8) r)) []
def keys_Spell_S : App := specW keys_Spell_A keys_Spell_C
theorem keys_Spell_wv (K : Res → List Cell → Prop) : ∀ v : valsA keys_Spell_A, runF tb (getG keys_Spell_G) keys_Spell_B0 Tryd.f17 [true] (mkA keys_Spell_A v) K = keys_Spell_raw v.1 K
  | (c0, ()) => keys_Spell_walk c0 K
set_option maxRecDepth 20000 in
theorem keys_Spell_ok : AppOk Tryd.prog 17 keys_Spell_S :=
  AppOk.specW (spec_ok (runF_ok tb_M tb_ok keys_Spell_Gok (keys_Spell_b0) (f := 17) (fn := Tryd.f17) (by kernel_rfl) (by kernel_rfl) keys_Spell_st [true]) fun v K hw h => (keys_Spell_wv K v).mpr (keys_Spell_sp v.1 K hw h.1 h.2))

end Go.VE
namespace Go.VE
open Go Go.Proofs

theorem bif_both {b : Bool} {A B : Prop} (hA : A) (hB : B) : bif b then A else B := by cases b <;> assumption
theorem elim_both {α β : Type} {f : α → Prop} {g : β → Prop} (hf : ∀ a, f a) (hg : ∀ b, g b) (x : α ⊕ β) : Sum.elim f g x := by cases x; exact hf _; exact hg _

theorem one_P (k l : List Int) : keys_one_P k l := by
  unfold keys_one_P
  by_cases h : (k.length : Int) = 1
  · have : decide ((k.length : Int) = 1) = true := by simpa using h
    rw [this]
    show internal_stringslite_Index_P l k
    unfold internal_stringslite_Index_P
    have h0 : decide ((k.length : Int) = 0) = false := by rw [decide_eq_false_iff_not]; omega
    rw [h0, this]
    simp only [cond_true, cond_false]
    exact bif_both trivial ⟨by omega, by omega⟩
  · have : decide ((k.length : Int) = 1) = false := by simpa using h
    rw [this]; trivial

theorem motionJ1_P (k : List Int) : keys_motion_J1_P k := ⟨one_P _ _, bif_both trivial (one_P _ _)⟩

theorem motion_P (k : List Int) : keys_motion_P k := by
  unfold keys_motion_P
  repeat' (first | exact trivial | refine bif_both ?_ ?_ | exact elim_both (fun _ => trivial) (fun q => motionJ1_P q) _)

theorem wants_P (c : Cmd) : keys_wants_P c := ⟨one_P _ _, bif_both trivial (bif_both (one_P _ _) trivial)⟩

theorem knownJ0_P (x : Bool) (c : Cmd) : keys_known_J0_P x c := by
  unfold keys_known_J0_P
  refine bif_both ?_ trivial
  by_cases h : (c.2.2.2.1.length : Int) = 2
  · have e : decide ((c.2.2.2.1.length : Int) = 2) = true := by simpa using h
    rw [e]
    simp only [cond_true, cond_false]
    refine ⟨⟨by omega, by omega⟩, bif_both ⟨⟨by omega, by omega⟩, one_P _ _, bif_both trivial (bif_both trivial (motion_P _))⟩ ⟨⟨by omega, by omega⟩, bif_both ⟨⟨by omega, by omega⟩, one_P _ _, bif_both trivial (bif_both trivial (motion_P _))⟩ (bif_both trivial (motion_P _))⟩⟩
  · have e : decide ((c.2.2.2.1.length : Int) = 2) = false := by simpa using h
    rw [e]
    simp only [cond_true, cond_false]
    exact bif_both trivial (motion_P _)

theorem known_P (c : Cmd) : keys_known_P c := by
  unfold keys_known_P
  refine bif_both ⟨motion_P _, bif_both trivial ⟨one_P _ _, bif_both trivial (one_P _ _)⟩⟩ ?_
  repeat' (first | exact knownJ0_P _ _ | refine bif_both ?_ ?_)

theorem is_P (c : Cmd) : keys_is_P c := by
  unfold keys_is_P
  exact bif_both trivial (bif_both trivial (bif_both trivial ⟨known_P _, bif_both trivial ⟨wants_P _, bif_both (bif_both trivial (wants_P _)) (wants_P _)⟩⟩))

theorem name_P (c : Cmd) (h1 : c.2.2.1.length ≤ 1099511) (h2 : c.2.2.2.1.length ≤ 1099511) : keys_Name_P c := by
  unfold keys_Name_P
  refine ⟨is_P c, bif_both trivial ?_⟩
  have L1 : c.2.2.1.length + c.2.2.2.1.length ≤ lim := by unfold lim; omega
  have L2 : (c.2.2.1 ++ c.2.2.2.1).length + List.length ([c.2.2.2.2.1] : List Int) ≤ lim := by unfold lim; simp only [List.length_append, List.length_cons, List.length_nil]; omega
  by_cases h : c.2.2.1 = []
  · have e : (!decide (c.2.2.1 = [])) = false := by simpa using h
    rw [e]
    simp only [cond_true, cond_false]
    exact ⟨L1, wants_P c, bif_both L2 trivial⟩
  · have e : (!decide (c.2.2.1 = [])) = true := by simpa using h
    rw [e]
    simp only [cond_true, cond_false]
    have hp : 0 < c.2.2.1.length := List.length_pos_iff.2 h
    rw [wrap_i64 (by omega) (by omega)]
    refine bif_both ⟨⟨by omega, by omega⟩, ?_⟩ ⟨L1, wants_P c, bif_both L2 trivial⟩
    simp only [List.length_cons, List.length_nil]; unfold lim; omega

theorem awake_parse1 : keys_Parse_P [50, 100, 51, 119] ∧ keys_Parse_F [50, 100, 51, 119] = ((0, 6, [100], [119], 0, []), 1) :=
  ⟨(parse_eq (ks := [50, 100, 51, 119]) (by decide) (by decide)).1, by kernel_rfl⟩
theorem awake_parse2 : keys_Parse_P [50, 100, 51] ∧ keys_Parse_F [50, 100, 51] = ((0, 0, [], [], 0, []), 0) :=
  ⟨(parse_eq (ks := [50, 100, 51]) (by decide) (by decide)).1, by kernel_rfl⟩
theorem awake_name : keys_Name_P (0, 6, [100], [119], 0, []) ∧ keys_Name_F (0, 6, [100], [119], 0, []) = [100, 119] := ⟨name_P _ (by decide) (by decide), by kernel_rfl⟩
theorem awake_spell : keys_Spell_P (0, 6, [100], [119], 0, []) ∧ keys_Spell_F (0, 6, [100], [119], 0, []) = [54, 100, 119] := by
  refine ⟨⟨is_P _, ?_⟩, by kernel_rfl⟩
  have e : (!keys_is_F (0, 6, [100], [119], 0, [])) = false := by kernel_rfl
  show (bif (!keys_is_F (0, 6, [100], [119], 0, [])) then True else _)
  rw [e]
  show keys_Spell_J0_P [] (0, 6, [100], [119], 0, [])
  show strconv_AppendInt_P [] 6 10 ∧ keys_Name_P (0, 6, [100], [119], 0, []) ∧ _
  refine ⟨?_, awake_name.1, ?_⟩
  · show internal_strconv_AppendUint_P [] (IntKind.wrap .u64 6) 10
    exact ⟨by decide, rfl⟩
  · have e : strconv_AppendInt_F [] 6 10 = [54] := by kernel_rfl
    show (strconv_AppendInt_F [] 6 10).length + (keys_Name_F (0, 6, [100], [119], 0, [])).length ≤ lim
    rw [e, awake_name.2]; decide
end Go.VE
namespace Go.VE
open Go Go.Proofs
/-! ### quoin/quoinlaw21.awake -/
def ql_awake_G : List (Nat × App) := [(12, keys_Parse_S), (16, keys_Name_S), (17, keys_Spell_S)]
theorem ql_awake_Gok : GOk Tryd.prog (getG ql_awake_G) := GOk.cons keys_Parse_ok (GOk.cons keys_Name_ok (GOk.cons keys_Spell_ok (GOk.nil)))
def ql_awake_raw  (K : Res → List Cell → Prop) : Prop :=
 keys_Parse_P ([(50 : Int), (100 : Int), (51 : Int), (119 : Int)] : List Int) ∧ (
 ∀ (r1 : CmT × Int), r1 = keys_Parse_F ([(50 : Int), (100 : Int), (51 : Int), (119 : Int)] : List Int) → (
 wfR (.tup [.v (.st (.pair (.int .u8) (.pair (.int .i64) (.pair (.str) (.pair (.str) (.pair (.int .u8) (.sl (.int .u8)))))))) r1.1, .v (.int .i64) r1.2]) → (
 keys_Parse_P ([(50 : Int), (100 : Int), (51 : Int)] : List Int) ∧ (
 ∀ (r2 : CmT × Int), r2 = keys_Parse_F ([(50 : Int), (100 : Int), (51 : Int)] : List Int) → (
 wfR (.tup [.v (.st (.pair (.int .u8) (.pair (.int .i64) (.pair (.str) (.pair (.str) (.pair (.int .u8) (.sl (.int .u8)))))))) r2.1, .v (.int .i64) r2.2]) → (
 bif (decide (r1.2 = (1 : Int))) then
 bif (decide (r1.1.2.1 = (6 : Int))) then
 bif (decide (r1.1.2.2.1 = ([100] : List Int))) then
 bif (decide (r1.1.2.2.2.1 = ([119] : List Int))) then
 bif (decide (r2.2 = (0 : Int))) then
 bif (decide (r2.1.2.2.1 = ([] : List Int))) then
 keys_Name_P r1.1 ∧ (
 ∀ (r3 : List Int), r3 = keys_Name_F r1.1 → (
 wfR (.one (.fr 5 (.int .u8) r3)) → (
 bif (decide (r3 = ([100, 119] : List Int))) then
 keys_Spell_P r1.1 ∧ (
 ∀ (r4 : List Int), r4 = keys_Spell_F r1.1 → (
 wfR (.one (.fr 5 (.int .u8) r4)) → (
 bif (decide (r4 = ([54, 100, 119] : List Int))) then
 K (.one (.v (.bool) true)) []
 else
 K (.one (.v (.bool) false)) [])))
 else
 K (.one (.v (.bool) false)) [])))
 else
 K (.one (.v (.bool) false)) []
 else
 K (.one (.v (.bool) false)) []
 else
 K (.one (.v (.bool) false)) []
 else
 K (.one (.v (.bool) false)) []
 else
 K (.one (.v (.bool) false)) []
 else
 K (.one (.v (.bool) false)) []))))))
def ql_awake_A : List AS := []
theorem ql_awake_walk  (K : Res → List Cell → Prop) : runF tb (getG ql_awake_G) [] Tryd.f10 [true] (mkA ql_awake_A ()) K = ql_awake_raw  K := by kernel_rfl
--! pre 0
--! import KT3
def ql_awake_F : Bool := true
theorem ql_awake_sp (K : Res → List Cell → Prop) (_ : wfA ql_awake_A ()) (h : ∀ r : Bool, r = ql_awake_F → K (.one (.v .bool r)) []) : ql_awake_raw K := by
  unfold ql_awake_raw
  refine ⟨awake_parse1.1, fun r1 h1 _ => ?_⟩
  rw [awake_parse1.2] at h1
  subst h1
  refine ⟨awake_parse2.1, fun r2 h2 _ => ?_⟩
  rw [awake_parse2.2] at h2
  subst h2
  refine ⟨awake_name.1, fun r3 h3 _ => ?_⟩
  rw [show ((((0, 6, [100], [119], 0, []) : Cmd), (1 : Int)).1) = (0, 6, [100], [119], 0, []) from rfl, awake_name.2] at h3
  subst h3
  refine ⟨awake_spell.1, fun r4 h4 _ => ?_⟩
  rw [show ((((0, 6, [100], [119], 0, []) : Cmd), (1 : Int)).1) = (0, 6, [100], [119], 0, []) from rfl, awake_spell.2] at h4
  subst h4
  exact h true rfl

def ql_awake_C (v : valsA ql_awake_A) (K : Res → List Cell → Prop) : Prop := ∀ r : Bool, r = ql_awake_F → K (.one (.v (.bool) r)) []
def ql_awake_S : App := specW ql_awake_A ql_awake_C
theorem ql_awake_wv (K : Res → List Cell → Prop) : ∀ v : valsA ql_awake_A, runF tb (getG ql_awake_G) [] Tryd.f10 [true] (mkA ql_awake_A v) K = ql_awake_raw  K
  | () => ql_awake_walk  K
set_option maxRecDepth 20000 in
theorem ql_awake_ok : AppOk Tryd.prog 10 ql_awake_S :=
  AppOk.specW (spec_ok (runF_ok tb_M tb_ok ql_awake_Gok (LabsOk.nil) (f := 10) (fn := Tryd.f10) (by kernel_rfl) (by kernel_rfl) (by kernel_rfl) [true]) fun v K hw h => (ql_awake_wv K v).mpr (ql_awake_sp  K hw h))

end Go.VE
namespace Go.VE
open Go Go.Proofs
/-! ### quoin/quoinlaw21.KeysOn -/
def ql_KeysOn_G : List (Nat × App) := [(10, ql_awake_S), (12, keys_Parse_S)]
theorem ql_KeysOn_Gok : GOk Tryd.prog (getG ql_KeysOn_G) := GOk.cons ql_awake_ok (GOk.cons keys_Parse_ok (GOk.nil))
theorem ql_KeysOn_st : storesC (bodyOf Tryd.f6) = true := by kernel_rfl
def ql_KeysOn_d0 : List LS := [.v 0 (.sl (.int .u8)), .v 9 (.int .i64)]
def ql_KeysOn_d0r : List LS := [.v 4 (.bool)]
def ql_KeysOn_d0x0 : List LS := []
def ql_KeysOn_dx0 : DX := ⟨none, some ql_KeysOn_d0r, [(0, ql_KeysOn_d0x0)]⟩
def ql_KeysOn_T0 (Y : List Int → Int → Prop) (kr : Bool → Prop) (kx0 : Prop) (all0 : List Int) (i9 : Int) : Prop :=
 bif (decide (i9 < (List.length all0 : Int))) then
 bif decide (0 ≤ i9 ∧ i9 ≤ (List.length all0 : Int)) then
 keys_Parse_P (List.take (Int.toNat i9) all0) ∧ (
 ∀ (r4 : CmT × Int), r4 = keys_Parse_F (List.take (Int.toNat i9) all0) → (
 wfR (.tup [.v (.st (.pair (.int .u8) (.pair (.int .i64) (.pair (.str) (.pair (.str) (.pair (.int .u8) (.sl (.int .u8)))))))) r4.1, .v (.int .i64) r4.2]) → (
 bif (!decide (r4.2 = (0 : Int))) then
 kr false
 else
 Y all0 (IntKind.wrap .i64 (i9 + (1 : Int))))))
 else False
 else
 kx0
def ql_KeysOn_L0 (kr : Bool → Prop) (kx0 : Prop) : Nat → List Int → Int → Prop
  | 0, _, _ => False
  | n + 1, all0, i9 => wfD ql_KeysOn_d0 (all0, i9, ()) → ql_KeysOn_T0 (ql_KeysOn_L0 kr kx0 n) kr kx0 all0 i9
theorem ql_KeysOn_s0 (k : Ex → St → Prop) (Y : vals ql_KeysOn_d0 → Prop) (all0 : List Int) (i9 : Int) :
    ex tb (getG ql_KeysOn_G) [] (at' (bodyOf Tryd.f6) [0, 0, 1, 0, 1, 1, 1, 1, 1, 1, 1]) [0, 0, 1, 0, 1, 1, 1, 1, 1, 1, 1] (mkD 59 ql_KeysOn_d0 (all0, i9, ())) (lpK 59 ql_KeysOn_d0 ql_KeysOn_dx0 k Y) =
    ql_KeysOn_T0 (fun all0 i9 => Y (all0, i9, ())) (fun x4 => wfD ql_KeysOn_d0r (x4, ()) → k .ret (mkD 59 ql_KeysOn_d0r (x4, ()))) (wfD ql_KeysOn_d0x0 () → k (.exit 0) (mkD 59 ql_KeysOn_d0x0 ())) all0 i9 := by kernel_rfl
theorem ql_KeysOn_e0 (k : Ex → St → Prop) : ∀ (n : Nat) (all0 : List Int) (i9 : Int), lpD 59 ql_KeysOn_d0 ql_KeysOn_dx0 (ex tb (getG ql_KeysOn_G) [] (at' (bodyOf Tryd.f6) [0, 0, 1, 0, 1, 1, 1, 1, 1, 1, 1]) [0, 0, 1, 0, 1, 1, 1, 1, 1, 1, 1]) k n (all0, i9, ()) = ql_KeysOn_L0 (fun x4 => wfD ql_KeysOn_d0r (x4, ()) → k .ret (mkD 59 ql_KeysOn_d0r (x4, ()))) (wfD ql_KeysOn_d0x0 () → k (.exit 0) (mkD 59 ql_KeysOn_d0x0 ())) n all0 i9
  | 0, _, _ => rfl
  | n + 1, all0, i9 => congrArg (fun Z : Prop => wfD ql_KeysOn_d0 (all0, i9, ()) → Z) ((ql_KeysOn_s0 k (lpD 59 ql_KeysOn_d0 ql_KeysOn_dx0 (ex tb (getG ql_KeysOn_G) [] (at' (bodyOf Tryd.f6) [0, 0, 1, 0, 1, 1, 1, 1, 1, 1, 1]) [0, 0, 1, 0, 1, 1, 1, 1, 1, 1, 1]) k n) all0 i9).trans (congrArg (fun Y => ql_KeysOn_T0 Y (fun x4 => wfD ql_KeysOn_d0r (x4, ()) → k .ret (mkD 59 ql_KeysOn_d0r (x4, ()))) (wfD ql_KeysOn_d0x0 () → k (.exit 0) (mkD 59 ql_KeysOn_d0x0 ())) all0 i9) (funext fun all0 => funext fun i9 => ql_KeysOn_e0 k n all0 i9)))
theorem ql_KeysOn_v0 (k : Ex → St → Prop) (n : Nat) : ∀ v : vals ql_KeysOn_d0, lpD 59 ql_KeysOn_d0 ql_KeysOn_dx0 (ex tb (getG ql_KeysOn_G) [] (at' (bodyOf Tryd.f6) [0, 0, 1, 0, 1, 1, 1, 1, 1, 1, 1]) [0, 0, 1, 0, 1, 1, 1, 1, 1, 1, 1]) k n v = ql_KeysOn_L0 (fun x4 => wfD ql_KeysOn_d0r (x4, ()) → k .ret (mkD 59 ql_KeysOn_d0r (x4, ()))) (wfD ql_KeysOn_d0x0 () → k (.exit 0) (mkD 59 ql_KeysOn_d0x0 ())) n v.1 v.2.1
  | (all0, i9, ()) => ql_KeysOn_e0 k n all0 i9
def ql_KeysOn_X0 : Pce := fun st k => ckD 59 ql_KeysOn_d0 st fun v => wfD ql_KeysOn_d0 v → ∃ n, ql_KeysOn_L0 (fun x4 => wfD ql_KeysOn_d0r (x4, ()) → k .ret (mkD 59 ql_KeysOn_d0r (x4, ()))) (wfD ql_KeysOn_d0x0 () → k (.exit 0) (mkD 59 ql_KeysOn_d0x0 ())) n v.1 v.2.1
set_option maxRecDepth 20000 in
theorem ql_KeysOn_x0 : SemOk Tryd.prog (at' (bodyOf Tryd.f6) [0, 1, 0, 1, 1, 1, 1, 1, 1, 1]) ql_KeysOn_X0 :=
  (SemOk.loop (ex_sound tb_M tb_ok ql_KeysOn_Gok (LabsOk.nil) (at' (bodyOf Tryd.f6) [0, 0, 1, 0, 1, 1, 1, 1, 1, 1, 1]) [0, 0, 1, 0, 1, 1, 1, 1, 1, 1, 1] rfl (storesC_at ql_KeysOn_st [0, 0, 1, 0, 1, 1, 1, 1, 1, 1, 1])) 59 ql_KeysOn_d0 ql_KeysOn_dx0).mono fun st k h => ckD_mono h fun v hv hw => (hv hw).elim fun n hn => ⟨n, Eq.mpr (ql_KeysOn_v0 k n v) hn⟩
def ql_KeysOn_B0 : Labs := ([0, 1, 0, 1, 1, 1, 1, 1, 1, 1], ql_KeysOn_X0) :: []
theorem ql_KeysOn_b0 : LabsOk Tryd.prog (bodyOf Tryd.f6) ql_KeysOn_B0 := LabsOk.cons ql_KeysOn_x0 (LabsOk.nil)
def ql_KeysOn_raw (all0 : List Int) (more1 : List Int) (K : Res → List Cell → Prop) : Prop :=
 ∀ (r1 : Bool), r1 = ql_awake_F → (
 wfR (.one (.v (.bool) r1)) → (
 bif (!r1) then
 K (.one (.v (.bool) false)) []
 else
 bif (decide ((2000 : Int) < (List.length all0 : Int))) then
 K (.one (.v (.bool) true)) []
 else
 keys_Parse_P all0 ∧ (
 ∀ (r2 : CmT × Int), r2 = keys_Parse_F all0 → (
 wfR (.tup [.v (.st (.pair (.int .u8) (.pair (.int .i64) (.pair (.str) (.pair (.str) (.pair (.int .u8) (.sl (.int .u8)))))))) r2.1, .v (.int .i64) r2.2]) → (
 bif decide (List.length ([] : List Int) + List.length all0 ≤ lim) then
 bif decide (List.length (([] : List Int) ++ all0) + List.length more1 ≤ lim) then
 keys_Parse_P ((([] : List Int) ++ all0) ++ more1) ∧ (
 ∀ (r3 : CmT × Int), r3 = keys_Parse_F ((([] : List Int) ++ all0) ++ more1) → (
 wfR (.tup [.v (.st (.pair (.int .u8) (.pair (.int .i64) (.pair (.str) (.pair (.str) (.pair (.int .u8) (.sl (.int .u8)))))))) r3.1, .v (.int .i64) r3.2]) → (
 bif (!decide (r2.2 = (0 : Int))) then
 bif (decide ((0 : Int) < (List.length more1 : Int))) then
 bif (!decide (r3.2 = (2 : Int))) then
 K (.one (.v (.bool) false)) []
 else
 bif (decide (r2.2 = (2 : Int))) then
 K (.one (.v (.bool) true)) []
 else
 (wfD ql_KeysOn_d0 (all0, (0 : Int), ()) → ∃ n, ql_KeysOn_L0 (fun (x4 : Bool) => wfD ql_KeysOn_d0r (x4, ()) → (
 K (.one (.v (.bool) x4)) [])) (wfD ql_KeysOn_d0x0 () → (
 K (.one (.v (.bool) true)) [])) n all0 (0 : Int))
 else
 bif (decide (r2.2 = (2 : Int))) then
 K (.one (.v (.bool) true)) []
 else
 (wfD ql_KeysOn_d0 (all0, (0 : Int), ()) → ∃ n, ql_KeysOn_L0 (fun (x4 : Bool) => wfD ql_KeysOn_d0r (x4, ()) → (
 K (.one (.v (.bool) x4)) [])) (wfD ql_KeysOn_d0x0 () → (
 K (.one (.v (.bool) true)) [])) n all0 (0 : Int))
 else
 bif (decide (r2.2 = (2 : Int))) then
 K (.one (.v (.bool) true)) []
 else
 (wfD ql_KeysOn_d0 (all0, (0 : Int), ()) → ∃ n, ql_KeysOn_L0 (fun (x4 : Bool) => wfD ql_KeysOn_d0r (x4, ()) → (
 K (.one (.v (.bool) x4)) [])) (wfD ql_KeysOn_d0x0 () → (
 K (.one (.v (.bool) true)) [])) n all0 (0 : Int)))))
 else False
 else False)))))
def ql_KeysOn_A : List AS := [.v (.sl (.int .u8)), .v (.sl (.int .u8))]
theorem ql_KeysOn_walk (all0 : List Int) (more1 : List Int) (K : Res → List Cell → Prop) : runF tb (getG ql_KeysOn_G) ql_KeysOn_B0 Tryd.f6 [true] (mkA ql_KeysOn_A (all0, more1, ())) K = ql_KeysOn_raw all0 more1 K := by kernel_rfl
--! law 1

def ql_KeysOn_R : App := runF tb (getG ql_KeysOn_G) ql_KeysOn_B0 Tryd.f6 [true]
theorem ql_KeysOn_ok : AppOk Tryd.prog 6 ql_KeysOn_R := runF_ok tb_M tb_ok ql_KeysOn_Gok (ql_KeysOn_b0) (f := 6) (fn := Tryd.f6) (by kernel_rfl) (by kernel_rfl) ql_KeysOn_st [true]
end Go.VE
namespace Go.VE
open Go Go.Proofs
/-! ### quoin/quoinlaw21.KeysMore -/
def ql_KeysMore_G : List (Nat × App) := [(10, ql_awake_S), (12, keys_Parse_S)]
theorem ql_KeysMore_Gok : GOk Tryd.prog (getG ql_KeysMore_G) := GOk.cons ql_awake_ok (GOk.cons keys_Parse_ok (GOk.nil))
theorem ql_KeysMore_st : storesC (bodyOf Tryd.f7) = true := by kernel_rfl
def ql_KeysMore_d0 : List LS := [.v 0 (.sl (.int .u8)), .o 5 45 9 (.str), .v 6 (.int .i64)]
def ql_KeysMore_d0r : List LS := [.v 2 (.bool)]
def ql_KeysMore_d0x0 : List LS := []
def ql_KeysMore_dx0 : DX := ⟨none, some ql_KeysMore_d0r, [(0, ql_KeysMore_d0x0)]⟩
def ql_KeysMore_T0 (Y : List Int → List (List Int) → Int → Prop) (kr : Bool → Prop) (kx0 : Prop) (all0 : List Int) (tails5 : List (List Int)) (i6 : Int) : Prop :=
 bif (decide (i6 < (List.length tails5 : Int))) then
 (
 (
 bif decide (List.length ([] : List Int) + List.length all0 ≤ lim) then
 (
 bif decide (0 ≤ i6 ∧ i6 < (List.length tails5 : Int)) then
 (
 (
 bif decide (List.length (([] : List Int) ++ all0) + List.length (rd ([] : List Int) tails5 i6) ≤ lim) then
 (
 keys_Parse_P ((([] : List Int) ++ all0) ++ (rd ([] : List Int) tails5 i6)) ∧ (
 ∀ (r3 : CmT × Int), r3 = keys_Parse_F ((([] : List Int) ++ all0) ++ (rd ([] : List Int) tails5 i6)) → (
 wfR (.tup [.v (.st (.pair (.int .u8) (.pair (.int .i64) (.pair (.str) (.pair (.str) (.pair (.int .u8) (.sl (.int .u8)))))))) r3.1, .v (.int .i64) r3.2]) → (
 bif (decide (r3.2 = (1 : Int))) then
 kr true
 else
 Y all0 tails5 (IntKind.wrap .i64 (i6 + (1 : Int))))))) ∧ (
 keys_Parse_P ((([] : List Int) ++ all0) ++ (rd ([] : List Int) tails5 i6)) ∧ (
 ∀ (r4 : CmT × Int), r4 = keys_Parse_F ((([] : List Int) ++ all0) ++ (rd ([] : List Int) tails5 i6)) → (
 wfR (.tup [.v (.st (.pair (.int .u8) (.pair (.int .i64) (.pair (.str) (.pair (.str) (.pair (.int .u8) (.sl (.int .u8)))))))) r4.1, .v (.int .i64) r4.2]) → (
 bif (decide (r4.2 = (1 : Int))) then
 kr true
 else
 Y all0 tails5 (IntKind.wrap .i64 (i6 + (1 : Int))))))) ∧ True
 else False) ∧ (
 bif decide (List.length (([] : List Int) ++ all0) + List.length (rd ([] : List Int) tails5 i6) ≤ lim) then
 keys_Parse_P ((([] : List Int) ++ all0) ++ (rd ([] : List Int) tails5 i6)) ∧ (
 ∀ (r5 : CmT × Int), r5 = keys_Parse_F ((([] : List Int) ++ all0) ++ (rd ([] : List Int) tails5 i6)) → (
 wfR (.tup [.v (.st (.pair (.int .u8) (.pair (.int .i64) (.pair (.str) (.pair (.str) (.pair (.int .u8) (.sl (.int .u8)))))))) r5.1, .v (.int .i64) r5.2]) → (
 bif (decide (r5.2 = (1 : Int))) then
 kr true
 else
 Y all0 tails5 (IntKind.wrap .i64 (i6 + (1 : Int))))))
 else False) ∧ True) ∧ (
 bif decide (List.length (([] : List Int) ++ all0) + List.length (rd ([] : List Int) tails5 i6) ≤ lim) then
 keys_Parse_P ((([] : List Int) ++ all0) ++ (rd ([] : List Int) tails5 i6)) ∧ (
 ∀ (r6 : CmT × Int), r6 = keys_Parse_F ((([] : List Int) ++ all0) ++ (rd ([] : List Int) tails5 i6)) → (
 wfR (.tup [.v (.st (.pair (.int .u8) (.pair (.int .i64) (.pair (.str) (.pair (.str) (.pair (.int .u8) (.sl (.int .u8)))))))) r6.1, .v (.int .i64) r6.2]) → (
 bif (decide (r6.2 = (1 : Int))) then
 kr true
 else
 Y all0 tails5 (IntKind.wrap .i64 (i6 + (1 : Int))))))
 else False) ∧ True
 else False) ∧ (
 bif decide (0 ≤ i6 ∧ i6 < (List.length tails5 : Int)) then
 bif decide (List.length (([] : List Int) ++ all0) + List.length (rd ([] : List Int) tails5 i6) ≤ lim) then
 keys_Parse_P ((([] : List Int) ++ all0) ++ (rd ([] : List Int) tails5 i6)) ∧ (
 ∀ (r7 : CmT × Int), r7 = keys_Parse_F ((([] : List Int) ++ all0) ++ (rd ([] : List Int) tails5 i6)) → (
 wfR (.tup [.v (.st (.pair (.int .u8) (.pair (.int .i64) (.pair (.str) (.pair (.str) (.pair (.int .u8) (.sl (.int .u8)))))))) r7.1, .v (.int .i64) r7.2]) → (
 bif (decide (r7.2 = (1 : Int))) then
 kr true
 else
 Y all0 tails5 (IntKind.wrap .i64 (i6 + (1 : Int))))))
 else False
 else False) ∧ True
 else False) ∧ (
 bif decide (0 ≤ i6 ∧ i6 < (List.length tails5 : Int)) then
 (
 bif decide (List.length ([] : List Int) + List.length all0 ≤ lim) then
 (
 (
 bif decide (List.length (([] : List Int) ++ all0) + List.length (rd ([] : List Int) tails5 i6) ≤ lim) then
 (
 keys_Parse_P ((([] : List Int) ++ all0) ++ (rd ([] : List Int) tails5 i6)) ∧ (
 ∀ (r8 : CmT × Int), r8 = keys_Parse_F ((([] : List Int) ++ all0) ++ (rd ([] : List Int) tails5 i6)) → (
 wfR (.tup [.v (.st (.pair (.int .u8) (.pair (.int .i64) (.pair (.str) (.pair (.str) (.pair (.int .u8) (.sl (.int .u8)))))))) r8.1, .v (.int .i64) r8.2]) → (
 bif (decide (r8.2 = (1 : Int))) then
 kr true
 else
 Y all0 tails5 (IntKind.wrap .i64 (i6 + (1 : Int))))))) ∧ (
 keys_Parse_P ((([] : List Int) ++ all0) ++ (rd ([] : List Int) tails5 i6)) ∧ (
 ∀ (r9 : CmT × Int), r9 = keys_Parse_F ((([] : List Int) ++ all0) ++ (rd ([] : List Int) tails5 i6)) → (
 wfR (.tup [.v (.st (.pair (.int .u8) (.pair (.int .i64) (.pair (.str) (.pair (.str) (.pair (.int .u8) (.sl (.int .u8)))))))) r9.1, .v (.int .i64) r9.2]) → (
 bif (decide (r9.2 = (1 : Int))) then
 kr true
 else
 Y all0 tails5 (IntKind.wrap .i64 (i6 + (1 : Int))))))) ∧ True
 else False) ∧ (
 bif decide (List.length (([] : List Int) ++ all0) + List.length (rd ([] : List Int) tails5 i6) ≤ lim) then
 keys_Parse_P ((([] : List Int) ++ all0) ++ (rd ([] : List Int) tails5 i6)) ∧ (
 ∀ (r10 : CmT × Int), r10 = keys_Parse_F ((([] : List Int) ++ all0) ++ (rd ([] : List Int) tails5 i6)) → (
 wfR (.tup [.v (.st (.pair (.int .u8) (.pair (.int .i64) (.pair (.str) (.pair (.str) (.pair (.int .u8) (.sl (.int .u8)))))))) r10.1, .v (.int .i64) r10.2]) → (
 bif (decide (r10.2 = (1 : Int))) then
 kr true
 else
 Y all0 tails5 (IntKind.wrap .i64 (i6 + (1 : Int))))))
 else False) ∧ True) ∧ (
 bif decide (List.length (([] : List Int) ++ all0) + List.length (rd ([] : List Int) tails5 i6) ≤ lim) then
 keys_Parse_P ((([] : List Int) ++ all0) ++ (rd ([] : List Int) tails5 i6)) ∧ (
 ∀ (r11 : CmT × Int), r11 = keys_Parse_F ((([] : List Int) ++ all0) ++ (rd ([] : List Int) tails5 i6)) → (
 wfR (.tup [.v (.st (.pair (.int .u8) (.pair (.int .i64) (.pair (.str) (.pair (.str) (.pair (.int .u8) (.sl (.int .u8)))))))) r11.1, .v (.int .i64) r11.2]) → (
 bif (decide (r11.2 = (1 : Int))) then
 kr true
 else
 Y all0 tails5 (IntKind.wrap .i64 (i6 + (1 : Int))))))
 else False) ∧ True
 else False) ∧ (
 (
 bif decide (List.length ([] : List Int) + List.length all0 ≤ lim) then
 (
 bif decide (List.length (([] : List Int) ++ all0) + List.length (rd ([] : List Int) tails5 i6) ≤ lim) then
 (
 keys_Parse_P ((([] : List Int) ++ all0) ++ (rd ([] : List Int) tails5 i6)) ∧ (
 ∀ (r12 : CmT × Int), r12 = keys_Parse_F ((([] : List Int) ++ all0) ++ (rd ([] : List Int) tails5 i6)) → (
 wfR (.tup [.v (.st (.pair (.int .u8) (.pair (.int .i64) (.pair (.str) (.pair (.str) (.pair (.int .u8) (.sl (.int .u8)))))))) r12.1, .v (.int .i64) r12.2]) → (
 bif (decide (r12.2 = (1 : Int))) then
 kr true
 else
 Y all0 tails5 (IntKind.wrap .i64 (i6 + (1 : Int))))))) ∧ (
 keys_Parse_P ((([] : List Int) ++ all0) ++ (rd ([] : List Int) tails5 i6)) ∧ (
 ∀ (r13 : CmT × Int), r13 = keys_Parse_F ((([] : List Int) ++ all0) ++ (rd ([] : List Int) tails5 i6)) → (
 wfR (.tup [.v (.st (.pair (.int .u8) (.pair (.int .i64) (.pair (.str) (.pair (.str) (.pair (.int .u8) (.sl (.int .u8)))))))) r13.1, .v (.int .i64) r13.2]) → (
 bif (decide (r13.2 = (1 : Int))) then
 kr true
 else
 Y all0 tails5 (IntKind.wrap .i64 (i6 + (1 : Int))))))) ∧ True
 else False) ∧ (
 bif decide (List.length (([] : List Int) ++ all0) + List.length (rd ([] : List Int) tails5 i6) ≤ lim) then
 keys_Parse_P ((([] : List Int) ++ all0) ++ (rd ([] : List Int) tails5 i6)) ∧ (
 ∀ (r14 : CmT × Int), r14 = keys_Parse_F ((([] : List Int) ++ all0) ++ (rd ([] : List Int) tails5 i6)) → (
 wfR (.tup [.v (.st (.pair (.int .u8) (.pair (.int .i64) (.pair (.str) (.pair (.str) (.pair (.int .u8) (.sl (.int .u8)))))))) r14.1, .v (.int .i64) r14.2]) → (
 bif (decide (r14.2 = (1 : Int))) then
 kr true
 else
 Y all0 tails5 (IntKind.wrap .i64 (i6 + (1 : Int))))))
 else False) ∧ True
 else False) ∧ (
 bif decide (List.length ([] : List Int) + List.length all0 ≤ lim) then
 bif decide (List.length (([] : List Int) ++ all0) + List.length (rd ([] : List Int) tails5 i6) ≤ lim) then
 keys_Parse_P ((([] : List Int) ++ all0) ++ (rd ([] : List Int) tails5 i6)) ∧ (
 ∀ (r15 : CmT × Int), r15 = keys_Parse_F ((([] : List Int) ++ all0) ++ (rd ([] : List Int) tails5 i6)) → (
 wfR (.tup [.v (.st (.pair (.int .u8) (.pair (.int .i64) (.pair (.str) (.pair (.str) (.pair (.int .u8) (.sl (.int .u8)))))))) r15.1, .v (.int .i64) r15.2]) → (
 bif (decide (r15.2 = (1 : Int))) then
 kr true
 else
 Y all0 tails5 (IntKind.wrap .i64 (i6 + (1 : Int))))))
 else False
 else False) ∧ True) ∧ (
 (
 bif decide (List.length ([] : List Int) + List.length all0 ≤ lim) then
 bif decide (List.length (([] : List Int) ++ all0) + List.length (rd ([] : List Int) tails5 i6) ≤ lim) then
 keys_Parse_P ((([] : List Int) ++ all0) ++ (rd ([] : List Int) tails5 i6)) ∧ (
 ∀ (r16 : CmT × Int), r16 = keys_Parse_F ((([] : List Int) ++ all0) ++ (rd ([] : List Int) tails5 i6)) → (
 wfR (.tup [.v (.st (.pair (.int .u8) (.pair (.int .i64) (.pair (.str) (.pair (.str) (.pair (.int .u8) (.sl (.int .u8)))))))) r16.1, .v (.int .i64) r16.2]) → (
 bif (decide (r16.2 = (1 : Int))) then
 kr true
 else
 Y all0 tails5 (IntKind.wrap .i64 (i6 + (1 : Int))))))
 else False
 else False) ∧ (
 bif decide (List.length ([] : List Int) + List.length all0 ≤ lim) then
 bif decide (List.length (([] : List Int) ++ all0) + List.length (rd ([] : List Int) tails5 i6) ≤ lim) then
 keys_Parse_P ((([] : List Int) ++ all0) ++ (rd ([] : List Int) tails5 i6)) ∧ (
 ∀ (r17 : CmT × Int), r17 = keys_Parse_F ((([] : List Int) ++ all0) ++ (rd ([] : List Int) tails5 i6)) → (
 wfR (.tup [.v (.st (.pair (.int .u8) (.pair (.int .i64) (.pair (.str) (.pair (.str) (.pair (.int .u8) (.sl (.int .u8)))))))) r17.1, .v (.int .i64) r17.2]) → (
 bif (decide (r17.2 = (1 : Int))) then
 kr true
 else
 Y all0 tails5 (IntKind.wrap .i64 (i6 + (1 : Int))))))
 else False
 else False) ∧ True) ∧ True
 else False) ∧ (
 (
 bif decide (List.length ([] : List Int) + List.length all0 ≤ lim) then
 bif decide (0 ≤ i6 ∧ i6 < (List.length tails5 : Int)) then
 bif decide (List.length (([] : List Int) ++ all0) + List.length (rd ([] : List Int) tails5 i6) ≤ lim) then
 keys_Parse_P ((([] : List Int) ++ all0) ++ (rd ([] : List Int) tails5 i6)) ∧ (
 ∀ (r18 : CmT × Int), r18 = keys_Parse_F ((([] : List Int) ++ all0) ++ (rd ([] : List Int) tails5 i6)) → (
 wfR (.tup [.v (.st (.pair (.int .u8) (.pair (.int .i64) (.pair (.str) (.pair (.str) (.pair (.int .u8) (.sl (.int .u8)))))))) r18.1, .v (.int .i64) r18.2]) → (
 bif (decide (r18.2 = (1 : Int))) then
 kr true
 else
 Y all0 tails5 (IntKind.wrap .i64 (i6 + (1 : Int))))))
 else False
 else False
 else False) ∧ (
 bif decide (0 ≤ i6 ∧ i6 < (List.length tails5 : Int)) then
 (
 bif decide (List.length ([] : List Int) + List.length all0 ≤ lim) then
 bif decide (List.length (([] : List Int) ++ all0) + List.length (rd ([] : List Int) tails5 i6) ≤ lim) then
 keys_Parse_P ((([] : List Int) ++ all0) ++ (rd ([] : List Int) tails5 i6)) ∧ (
 ∀ (r19 : CmT × Int), r19 = keys_Parse_F ((([] : List Int) ++ all0) ++ (rd ([] : List Int) tails5 i6)) → (
 wfR (.tup [.v (.st (.pair (.int .u8) (.pair (.int .i64) (.pair (.str) (.pair (.str) (.pair (.int .u8) (.sl (.int .u8)))))))) r19.1, .v (.int .i64) r19.2]) → (
 bif (decide (r19.2 = (1 : Int))) then
 kr true
 else
 Y all0 tails5 (IntKind.wrap .i64 (i6 + (1 : Int))))))
 else False
 else False) ∧ (
 bif decide (List.length ([] : List Int) + List.length all0 ≤ lim) then
 bif decide (List.length (([] : List Int) ++ all0) + List.length (rd ([] : List Int) tails5 i6) ≤ lim) then
 keys_Parse_P ((([] : List Int) ++ all0) ++ (rd ([] : List Int) tails5 i6)) ∧ (
 ∀ (r20 : CmT × Int), r20 = keys_Parse_F ((([] : List Int) ++ all0) ++ (rd ([] : List Int) tails5 i6)) → (
 wfR (.tup [.v (.st (.pair (.int .u8) (.pair (.int .i64) (.pair (.str) (.pair (.str) (.pair (.int .u8) (.sl (.int .u8)))))))) r20.1, .v (.int .i64) r20.2]) → (
 bif (decide (r20.2 = (1 : Int))) then
 kr true
 else
 Y all0 tails5 (IntKind.wrap .i64 (i6 + (1 : Int))))))
 else False
 else False) ∧ True
 else False) ∧ True) ∧ True) ∧ (
 bif decide (0 ≤ i6 ∧ i6 < (List.length tails5 : Int)) then
 (
 (
 bif decide (List.length ([] : List Int) + List.length all0 ≤ lim) then
 (
 (
 bif decide (List.length (([] : List Int) ++ all0) + List.length (rd ([] : List Int) tails5 i6) ≤ lim) then
 (
 keys_Parse_P ((([] : List Int) ++ all0) ++ (rd ([] : List Int) tails5 i6)) ∧ (
 ∀ (r21 : CmT × Int), r21 = keys_Parse_F ((([] : List Int) ++ all0) ++ (rd ([] : List Int) tails5 i6)) → (
 wfR (.tup [.v (.st (.pair (.int .u8) (.pair (.int .i64) (.pair (.str) (.pair (.str) (.pair (.int .u8) (.sl (.int .u8)))))))) r21.1, .v (.int .i64) r21.2]) → (
 bif (decide (r21.2 = (1 : Int))) then
 kr true
 else
 Y all0 tails5 (IntKind.wrap .i64 (i6 + (1 : Int))))))) ∧ (
 keys_Parse_P ((([] : List Int) ++ all0) ++ (rd ([] : List Int) tails5 i6)) ∧ (
 ∀ (r22 : CmT × Int), r22 = keys_Parse_F ((([] : List Int) ++ all0) ++ (rd ([] : List Int) tails5 i6)) → (
 wfR (.tup [.v (.st (.pair (.int .u8) (.pair (.int .i64) (.pair (.str) (.pair (.str) (.pair (.int .u8) (.sl (.int .u8)))))))) r22.1, .v (.int .i64) r22.2]) → (
 bif (decide (r22.2 = (1 : Int))) then
 kr true
 else
 Y all0 tails5 (IntKind.wrap .i64 (i6 + (1 : Int))))))) ∧ True
 else False) ∧ (
 bif decide (List.length (([] : List Int) ++ all0) + List.length (rd ([] : List Int) tails5 i6) ≤ lim) then
 keys_Parse_P ((([] : List Int) ++ all0) ++ (rd ([] : List Int) tails5 i6)) ∧ (
 ∀ (r23 : CmT × Int), r23 = keys_Parse_F ((([] : List Int) ++ all0) ++ (rd ([] : List Int) tails5 i6)) → (
 wfR (.tup [.v (.st (.pair (.int .u8) (.pair (.int .i64) (.pair (.str) (.pair (.str) (.pair (.int .u8) (.sl (.int .u8)))))))) r23.1, .v (.int .i64) r23.2]) → (
 bif (decide (r23.2 = (1 : Int))) then
 kr true
 else
 Y all0 tails5 (IntKind.wrap .i64 (i6 + (1 : Int))))))
 else False) ∧ True) ∧ (
 bif decide (List.length (([] : List Int) ++ all0) + List.length (rd ([] : List Int) tails5 i6) ≤ lim) then
 keys_Parse_P ((([] : List Int) ++ all0) ++ (rd ([] : List Int) tails5 i6)) ∧ (
 ∀ (r24 : CmT × Int), r24 = keys_Parse_F ((([] : List Int) ++ all0) ++ (rd ([] : List Int) tails5 i6)) → (
 wfR (.tup [.v (.st (.pair (.int .u8) (.pair (.int .i64) (.pair (.str) (.pair (.str) (.pair (.int .u8) (.sl (.int .u8)))))))) r24.1, .v (.int .i64) r24.2]) → (
 bif (decide (r24.2 = (1 : Int))) then
 kr true
 else
 Y all0 tails5 (IntKind.wrap .i64 (i6 + (1 : Int))))))
 else False) ∧ True
 else False) ∧ (
 (
 bif decide (List.length ([] : List Int) + List.length all0 ≤ lim) then
 (
 bif decide (List.length (([] : List Int) ++ all0) + List.length (rd ([] : List Int) tails5 i6) ≤ lim) then
 (
 keys_Parse_P ((([] : List Int) ++ all0) ++ (rd ([] : List Int) tails5 i6)) ∧ (
 ∀ (r25 : CmT × Int), r25 = keys_Parse_F ((([] : List Int) ++ all0) ++ (rd ([] : List Int) tails5 i6)) → (
 wfR (.tup [.v (.st (.pair (.int .u8) (.pair (.int .i64) (.pair (.str) (.pair (.str) (.pair (.int .u8) (.sl (.int .u8)))))))) r25.1, .v (.int .i64) r25.2]) → (
 bif (decide (r25.2 = (1 : Int))) then
 kr true
 else
 Y all0 tails5 (IntKind.wrap .i64 (i6 + (1 : Int))))))) ∧ (
 keys_Parse_P ((([] : List Int) ++ all0) ++ (rd ([] : List Int) tails5 i6)) ∧ (
 ∀ (r26 : CmT × Int), r26 = keys_Parse_F ((([] : List Int) ++ all0) ++ (rd ([] : List Int) tails5 i6)) → (
 wfR (.tup [.v (.st (.pair (.int .u8) (.pair (.int .i64) (.pair (.str) (.pair (.str) (.pair (.int .u8) (.sl (.int .u8)))))))) r26.1, .v (.int .i64) r26.2]) → (
 bif (decide (r26.2 = (1 : Int))) then
 kr true
 else
 Y all0 tails5 (IntKind.wrap .i64 (i6 + (1 : Int))))))) ∧ True
 else False) ∧ (
 bif decide (List.length (([] : List Int) ++ all0) + List.length (rd ([] : List Int) tails5 i6) ≤ lim) then
 keys_Parse_P ((([] : List Int) ++ all0) ++ (rd ([] : List Int) tails5 i6)) ∧ (
 ∀ (r27 : CmT × Int), r27 = keys_Parse_F ((([] : List Int) ++ all0) ++ (rd ([] : List Int) tails5 i6)) → (
 wfR (.tup [.v (.st (.pair (.int .u8) (.pair (.int .i64) (.pair (.str) (.pair (.str) (.pair (.int .u8) (.sl (.int .u8)))))))) r27.1, .v (.int .i64) r27.2]) → (
 bif (decide (r27.2 = (1 : Int))) then
 kr true
 else
 Y all0 tails5 (IntKind.wrap .i64 (i6 + (1 : Int))))))
 else False) ∧ True
 else False) ∧ (
 bif decide (List.length ([] : List Int) + List.length all0 ≤ lim) then
 bif decide (List.length (([] : List Int) ++ all0) + List.length (rd ([] : List Int) tails5 i6) ≤ lim) then
 keys_Parse_P ((([] : List Int) ++ all0) ++ (rd ([] : List Int) tails5 i6)) ∧ (
 ∀ (r28 : CmT × Int), r28 = keys_Parse_F ((([] : List Int) ++ all0) ++ (rd ([] : List Int) tails5 i6)) → (
 wfR (.tup [.v (.st (.pair (.int .u8) (.pair (.int .i64) (.pair (.str) (.pair (.str) (.pair (.int .u8) (.sl (.int .u8)))))))) r28.1, .v (.int .i64) r28.2]) → (
 bif (decide (r28.2 = (1 : Int))) then
 kr true
 else
 Y all0 tails5 (IntKind.wrap .i64 (i6 + (1 : Int))))))
 else False
 else False) ∧ True) ∧ (
 (
 bif decide (List.length ([] : List Int) + List.length all0 ≤ lim) then
 bif decide (List.length (([] : List Int) ++ all0) + List.length (rd ([] : List Int) tails5 i6) ≤ lim) then
 keys_Parse_P ((([] : List Int) ++ all0) ++ (rd ([] : List Int) tails5 i6)) ∧ (
 ∀ (r29 : CmT × Int), r29 = keys_Parse_F ((([] : List Int) ++ all0) ++ (rd ([] : List Int) tails5 i6)) → (
 wfR (.tup [.v (.st (.pair (.int .u8) (.pair (.int .i64) (.pair (.str) (.pair (.str) (.pair (.int .u8) (.sl (.int .u8)))))))) r29.1, .v (.int .i64) r29.2]) → (
 bif (decide (r29.2 = (1 : Int))) then
 kr true
 else
 Y all0 tails5 (IntKind.wrap .i64 (i6 + (1 : Int))))))
 else False
 else False) ∧ (
 bif decide (List.length ([] : List Int) + List.length all0 ≤ lim) then
 bif decide (List.length (([] : List Int) ++ all0) + List.length (rd ([] : List Int) tails5 i6) ≤ lim) then
 keys_Parse_P ((([] : List Int) ++ all0) ++ (rd ([] : List Int) tails5 i6)) ∧ (
 ∀ (r30 : CmT × Int), r30 = keys_Parse_F ((([] : List Int) ++ all0) ++ (rd ([] : List Int) tails5 i6)) → (
 wfR (.tup [.v (.st (.pair (.int .u8) (.pair (.int .i64) (.pair (.str) (.pair (.str) (.pair (.int .u8) (.sl (.int .u8)))))))) r30.1, .v (.int .i64) r30.2]) → (
 bif (decide (r30.2 = (1 : Int))) then
 kr true
 else
 Y all0 tails5 (IntKind.wrap .i64 (i6 + (1 : Int))))))
 else False
 else False) ∧ True) ∧ True) ∧ (
 (
 (
 bif decide (List.length ([] : List Int) + List.length all0 ≤ lim) then
 (
 bif decide (List.length (([] : List Int) ++ all0) + List.length (rd ([] : List Int) tails5 i6) ≤ lim) then
 (
 keys_Parse_P ((([] : List Int) ++ all0) ++ (rd ([] : List Int) tails5 i6)) ∧ (
 ∀ (r31 : CmT × Int), r31 = keys_Parse_F ((([] : List Int) ++ all0) ++ (rd ([] : List Int) tails5 i6)) → (
 wfR (.tup [.v (.st (.pair (.int .u8) (.pair (.int .i64) (.pair (.str) (.pair (.str) (.pair (.int .u8) (.sl (.int .u8)))))))) r31.1, .v (.int .i64) r31.2]) → (
 bif (decide (r31.2 = (1 : Int))) then
 kr true
 else
 Y all0 tails5 (IntKind.wrap .i64 (i6 + (1 : Int))))))) ∧ (
 keys_Parse_P ((([] : List Int) ++ all0) ++ (rd ([] : List Int) tails5 i6)) ∧ (
 ∀ (r32 : CmT × Int), r32 = keys_Parse_F ((([] : List Int) ++ all0) ++ (rd ([] : List Int) tails5 i6)) → (
 wfR (.tup [.v (.st (.pair (.int .u8) (.pair (.int .i64) (.pair (.str) (.pair (.str) (.pair (.int .u8) (.sl (.int .u8)))))))) r32.1, .v (.int .i64) r32.2]) → (
 bif (decide (r32.2 = (1 : Int))) then
 kr true
 else
 Y all0 tails5 (IntKind.wrap .i64 (i6 + (1 : Int))))))) ∧ True
 else False) ∧ (
 bif decide (List.length (([] : List Int) ++ all0) + List.length (rd ([] : List Int) tails5 i6) ≤ lim) then
 keys_Parse_P ((([] : List Int) ++ all0) ++ (rd ([] : List Int) tails5 i6)) ∧ (
 ∀ (r33 : CmT × Int), r33 = keys_Parse_F ((([] : List Int) ++ all0) ++ (rd ([] : List Int) tails5 i6)) → (
 wfR (.tup [.v (.st (.pair (.int .u8) (.pair (.int .i64) (.pair (.str) (.pair (.str) (.pair (.int .u8) (.sl (.int .u8)))))))) r33.1, .v (.int .i64) r33.2]) → (
 bif (decide (r33.2 = (1 : Int))) then
 kr true
 else
 Y all0 tails5 (IntKind.wrap .i64 (i6 + (1 : Int))))))
 else False) ∧ True
 else False) ∧ (
 bif decide (List.length ([] : List Int) + List.length all0 ≤ lim) then
 bif decide (List.length (([] : List Int) ++ all0) + List.length (rd ([] : List Int) tails5 i6) ≤ lim) then
 keys_Parse_P ((([] : List Int) ++ all0) ++ (rd ([] : List Int) tails5 i6)) ∧ (
 ∀ (r34 : CmT × Int), r34 = keys_Parse_F ((([] : List Int) ++ all0) ++ (rd ([] : List Int) tails5 i6)) → (
 wfR (.tup [.v (.st (.pair (.int .u8) (.pair (.int .i64) (.pair (.str) (.pair (.str) (.pair (.int .u8) (.sl (.int .u8)))))))) r34.1, .v (.int .i64) r34.2]) → (
 bif (decide (r34.2 = (1 : Int))) then
 kr true
 else
 Y all0 tails5 (IntKind.wrap .i64 (i6 + (1 : Int))))))
 else False
 else False) ∧ True) ∧ (
 bif decide (List.length ([] : List Int) + List.length all0 ≤ lim) then
 bif decide (List.length (([] : List Int) ++ all0) + List.length (rd ([] : List Int) tails5 i6) ≤ lim) then
 keys_Parse_P ((([] : List Int) ++ all0) ++ (rd ([] : List Int) tails5 i6)) ∧ (
 ∀ (r35 : CmT × Int), r35 = keys_Parse_F ((([] : List Int) ++ all0) ++ (rd ([] : List Int) tails5 i6)) → (
 wfR (.tup [.v (.st (.pair (.int .u8) (.pair (.int .i64) (.pair (.str) (.pair (.str) (.pair (.int .u8) (.sl (.int .u8)))))))) r35.1, .v (.int .i64) r35.2]) → (
 bif (decide (r35.2 = (1 : Int))) then
 kr true
 else
 Y all0 tails5 (IntKind.wrap .i64 (i6 + (1 : Int))))))
 else False
 else False) ∧ True) ∧ (
 (
 (
 bif decide (List.length ([] : List Int) + List.length all0 ≤ lim) then
 bif decide (List.length (([] : List Int) ++ all0) + List.length (rd ([] : List Int) tails5 i6) ≤ lim) then
 keys_Parse_P ((([] : List Int) ++ all0) ++ (rd ([] : List Int) tails5 i6)) ∧ (
 ∀ (r36 : CmT × Int), r36 = keys_Parse_F ((([] : List Int) ++ all0) ++ (rd ([] : List Int) tails5 i6)) → (
 wfR (.tup [.v (.st (.pair (.int .u8) (.pair (.int .i64) (.pair (.str) (.pair (.str) (.pair (.int .u8) (.sl (.int .u8)))))))) r36.1, .v (.int .i64) r36.2]) → (
 bif (decide (r36.2 = (1 : Int))) then
 kr true
 else
 Y all0 tails5 (IntKind.wrap .i64 (i6 + (1 : Int))))))
 else False
 else False) ∧ (
 bif decide (List.length ([] : List Int) + List.length all0 ≤ lim) then
 bif decide (List.length (([] : List Int) ++ all0) + List.length (rd ([] : List Int) tails5 i6) ≤ lim) then
 keys_Parse_P ((([] : List Int) ++ all0) ++ (rd ([] : List Int) tails5 i6)) ∧ (
 ∀ (r37 : CmT × Int), r37 = keys_Parse_F ((([] : List Int) ++ all0) ++ (rd ([] : List Int) tails5 i6)) → (
 wfR (.tup [.v (.st (.pair (.int .u8) (.pair (.int .i64) (.pair (.str) (.pair (.str) (.pair (.int .u8) (.sl (.int .u8)))))))) r37.1, .v (.int .i64) r37.2]) → (
 bif (decide (r37.2 = (1 : Int))) then
 kr true
 else
 Y all0 tails5 (IntKind.wrap .i64 (i6 + (1 : Int))))))
 else False
 else False) ∧ True) ∧ (
 bif decide (List.length ([] : List Int) + List.length all0 ≤ lim) then
 bif decide (List.length (([] : List Int) ++ all0) + List.length (rd ([] : List Int) tails5 i6) ≤ lim) then
 keys_Parse_P ((([] : List Int) ++ all0) ++ (rd ([] : List Int) tails5 i6)) ∧ (
 ∀ (r38 : CmT × Int), r38 = keys_Parse_F ((([] : List Int) ++ all0) ++ (rd ([] : List Int) tails5 i6)) → (
 wfR (.tup [.v (.st (.pair (.int .u8) (.pair (.int .i64) (.pair (.str) (.pair (.str) (.pair (.int .u8) (.sl (.int .u8)))))))) r38.1, .v (.int .i64) r38.2]) → (
 bif (decide (r38.2 = (1 : Int))) then
 kr true
 else
 Y all0 tails5 (IntKind.wrap .i64 (i6 + (1 : Int))))))
 else False
 else False) ∧ True) ∧ True
 else False) ∧ (
 (
 (
 bif decide (List.length ([] : List Int) + List.length all0 ≤ lim) then
 bif decide (0 ≤ i6 ∧ i6 < (List.length tails5 : Int)) then
 bif decide (List.length (([] : List Int) ++ all0) + List.length (rd ([] : List Int) tails5 i6) ≤ lim) then
 keys_Parse_P ((([] : List Int) ++ all0) ++ (rd ([] : List Int) tails5 i6)) ∧ (
 ∀ (r39 : CmT × Int), r39 = keys_Parse_F ((([] : List Int) ++ all0) ++ (rd ([] : List Int) tails5 i6)) → (
 wfR (.tup [.v (.st (.pair (.int .u8) (.pair (.int .i64) (.pair (.str) (.pair (.str) (.pair (.int .u8) (.sl (.int .u8)))))))) r39.1, .v (.int .i64) r39.2]) → (
 bif (decide (r39.2 = (1 : Int))) then
 kr true
 else
 Y all0 tails5 (IntKind.wrap .i64 (i6 + (1 : Int))))))
 else False
 else False
 else False) ∧ (
 bif decide (0 ≤ i6 ∧ i6 < (List.length tails5 : Int)) then
 (
 bif decide (List.length ([] : List Int) + List.length all0 ≤ lim) then
 bif decide (List.length (([] : List Int) ++ all0) + List.length (rd ([] : List Int) tails5 i6) ≤ lim) then
 keys_Parse_P ((([] : List Int) ++ all0) ++ (rd ([] : List Int) tails5 i6)) ∧ (
 ∀ (r40 : CmT × Int), r40 = keys_Parse_F ((([] : List Int) ++ all0) ++ (rd ([] : List Int) tails5 i6)) → (
 wfR (.tup [.v (.st (.pair (.int .u8) (.pair (.int .i64) (.pair (.str) (.pair (.str) (.pair (.int .u8) (.sl (.int .u8)))))))) r40.1, .v (.int .i64) r40.2]) → (
 bif (decide (r40.2 = (1 : Int))) then
 kr true
 else
 Y all0 tails5 (IntKind.wrap .i64 (i6 + (1 : Int))))))
 else False
 else False) ∧ (
 bif decide (List.length ([] : List Int) + List.length all0 ≤ lim) then
 bif decide (List.length (([] : List Int) ++ all0) + List.length (rd ([] : List Int) tails5 i6) ≤ lim) then
 keys_Parse_P ((([] : List Int) ++ all0) ++ (rd ([] : List Int) tails5 i6)) ∧ (
 ∀ (r41 : CmT × Int), r41 = keys_Parse_F ((([] : List Int) ++ all0) ++ (rd ([] : List Int) tails5 i6)) → (
 wfR (.tup [.v (.st (.pair (.int .u8) (.pair (.int .i64) (.pair (.str) (.pair (.str) (.pair (.int .u8) (.sl (.int .u8)))))))) r41.1, .v (.int .i64) r41.2]) → (
 bif (decide (r41.2 = (1 : Int))) then
 kr true
 else
 Y all0 tails5 (IntKind.wrap .i64 (i6 + (1 : Int))))))
 else False
 else False) ∧ True
 else False) ∧ True) ∧ (
 bif decide (0 ≤ i6 ∧ i6 < (List.length tails5 : Int)) then
 (
 (
 bif decide (List.length ([] : List Int) + List.length all0 ≤ lim) then
 bif decide (List.length (([] : List Int) ++ all0) + List.length (rd ([] : List Int) tails5 i6) ≤ lim) then
 keys_Parse_P ((([] : List Int) ++ all0) ++ (rd ([] : List Int) tails5 i6)) ∧ (
 ∀ (r42 : CmT × Int), r42 = keys_Parse_F ((([] : List Int) ++ all0) ++ (rd ([] : List Int) tails5 i6)) → (
 wfR (.tup [.v (.st (.pair (.int .u8) (.pair (.int .i64) (.pair (.str) (.pair (.str) (.pair (.int .u8) (.sl (.int .u8)))))))) r42.1, .v (.int .i64) r42.2]) → (
 bif (decide (r42.2 = (1 : Int))) then
 kr true
 else
 Y all0 tails5 (IntKind.wrap .i64 (i6 + (1 : Int))))))
 else False
 else False) ∧ (
 bif decide (List.length ([] : List Int) + List.length all0 ≤ lim) then
 bif decide (List.length (([] : List Int) ++ all0) + List.length (rd ([] : List Int) tails5 i6) ≤ lim) then
 keys_Parse_P ((([] : List Int) ++ all0) ++ (rd ([] : List Int) tails5 i6)) ∧ (
 ∀ (r43 : CmT × Int), r43 = keys_Parse_F ((([] : List Int) ++ all0) ++ (rd ([] : List Int) tails5 i6)) → (
 wfR (.tup [.v (.st (.pair (.int .u8) (.pair (.int .i64) (.pair (.str) (.pair (.str) (.pair (.int .u8) (.sl (.int .u8)))))))) r43.1, .v (.int .i64) r43.2]) → (
 bif (decide (r43.2 = (1 : Int))) then
 kr true
 else
 Y all0 tails5 (IntKind.wrap .i64 (i6 + (1 : Int))))))
 else False
 else False) ∧ True) ∧ (
 bif decide (List.length ([] : List Int) + List.length all0 ≤ lim) then
 bif decide (List.length (([] : List Int) ++ all0) + List.length (rd ([] : List Int) tails5 i6) ≤ lim) then
 keys_Parse_P ((([] : List Int) ++ all0) ++ (rd ([] : List Int) tails5 i6)) ∧ (
 ∀ (r44 : CmT × Int), r44 = keys_Parse_F ((([] : List Int) ++ all0) ++ (rd ([] : List Int) tails5 i6)) → (
 wfR (.tup [.v (.st (.pair (.int .u8) (.pair (.int .i64) (.pair (.str) (.pair (.str) (.pair (.int .u8) (.sl (.int .u8)))))))) r44.1, .v (.int .i64) r44.2]) → (
 bif (decide (r44.2 = (1 : Int))) then
 kr true
 else
 Y all0 tails5 (IntKind.wrap .i64 (i6 + (1 : Int))))))
 else False
 else False) ∧ True
 else False) ∧ True) ∧ True
 else
 kx0
def ql_KeysMore_L0 (kr : Bool → Prop) (kx0 : Prop) : Nat → List Int → List (List Int) → Int → Prop
  | 0, _, _, _ => False
  | n + 1, all0, tails5, i6 => wfD ql_KeysMore_d0 (all0, tails5, i6, ()) → ql_KeysMore_T0 (ql_KeysMore_L0 kr kx0 n) kr kx0 all0 tails5 i6
theorem ql_KeysMore_s0 (k : Ex → St → Prop) (Y : vals ql_KeysMore_d0 → Prop) (all0 : List Int) (tails5 : List (List Int)) (i6 : Int) :
    ex tb (getG ql_KeysMore_G) [] (at' (bodyOf Tryd.f7) [0, 0, 1, 0, 1, 1, 1, 1]) [0, 0, 1, 0, 1, 1, 1, 1] (mkD 39 ql_KeysMore_d0 (all0, tails5, i6, ())) (lpK 39 ql_KeysMore_d0 ql_KeysMore_dx0 k Y) =
    ql_KeysMore_T0 (fun all0 tails5 i6 => Y (all0, tails5, i6, ())) (fun x2 => wfD ql_KeysMore_d0r (x2, ()) → k .ret (mkD 39 ql_KeysMore_d0r (x2, ()))) (wfD ql_KeysMore_d0x0 () → k (.exit 0) (mkD 39 ql_KeysMore_d0x0 ())) all0 tails5 i6 := by kernel_rfl
theorem ql_KeysMore_e0 (k : Ex → St → Prop) : ∀ (n : Nat) (all0 : List Int) (tails5 : List (List Int)) (i6 : Int), lpD 39 ql_KeysMore_d0 ql_KeysMore_dx0 (ex tb (getG ql_KeysMore_G) [] (at' (bodyOf Tryd.f7) [0, 0, 1, 0, 1, 1, 1, 1]) [0, 0, 1, 0, 1, 1, 1, 1]) k n (all0, tails5, i6, ()) = ql_KeysMore_L0 (fun x2 => wfD ql_KeysMore_d0r (x2, ()) → k .ret (mkD 39 ql_KeysMore_d0r (x2, ()))) (wfD ql_KeysMore_d0x0 () → k (.exit 0) (mkD 39 ql_KeysMore_d0x0 ())) n all0 tails5 i6
  | 0, _, _, _ => rfl
  | n + 1, all0, tails5, i6 => congrArg (fun Z : Prop => wfD ql_KeysMore_d0 (all0, tails5, i6, ()) → Z) ((ql_KeysMore_s0 k (lpD 39 ql_KeysMore_d0 ql_KeysMore_dx0 (ex tb (getG ql_KeysMore_G) [] (at' (bodyOf Tryd.f7) [0, 0, 1, 0, 1, 1, 1, 1]) [0, 0, 1, 0, 1, 1, 1, 1]) k n) all0 tails5 i6).trans (congrArg (fun Y => ql_KeysMore_T0 Y (fun x2 => wfD ql_KeysMore_d0r (x2, ()) → k .ret (mkD 39 ql_KeysMore_d0r (x2, ()))) (wfD ql_KeysMore_d0x0 () → k (.exit 0) (mkD 39 ql_KeysMore_d0x0 ())) all0 tails5 i6) (funext fun all0 => funext fun tails5 => funext fun i6 => ql_KeysMore_e0 k n all0 tails5 i6)))
theorem ql_KeysMore_v0 (k : Ex → St → Prop) (n : Nat) : ∀ v : vals ql_KeysMore_d0, lpD 39 ql_KeysMore_d0 ql_KeysMore_dx0 (ex tb (getG ql_KeysMore_G) [] (at' (bodyOf Tryd.f7) [0, 0, 1, 0, 1, 1, 1, 1]) [0, 0, 1, 0, 1, 1, 1, 1]) k n v = ql_KeysMore_L0 (fun x2 => wfD ql_KeysMore_d0r (x2, ()) → k .ret (mkD 39 ql_KeysMore_d0r (x2, ()))) (wfD ql_KeysMore_d0x0 () → k (.exit 0) (mkD 39 ql_KeysMore_d0x0 ())) n v.1 v.2.1 v.2.2.1
  | (all0, tails5, i6, ()) => ql_KeysMore_e0 k n all0 tails5 i6
def ql_KeysMore_X0 : Pce := fun st k => ckD 39 ql_KeysMore_d0 st fun v => wfD ql_KeysMore_d0 v → ∃ n, ql_KeysMore_L0 (fun x2 => wfD ql_KeysMore_d0r (x2, ()) → k .ret (mkD 39 ql_KeysMore_d0r (x2, ()))) (wfD ql_KeysMore_d0x0 () → k (.exit 0) (mkD 39 ql_KeysMore_d0x0 ())) n v.1 v.2.1 v.2.2.1
set_option maxRecDepth 20000 in
theorem ql_KeysMore_x0 : SemOk Tryd.prog (at' (bodyOf Tryd.f7) [0, 1, 0, 1, 1, 1, 1]) ql_KeysMore_X0 :=
  (SemOk.loop (ex_sound tb_M tb_ok ql_KeysMore_Gok (LabsOk.nil) (at' (bodyOf Tryd.f7) [0, 0, 1, 0, 1, 1, 1, 1]) [0, 0, 1, 0, 1, 1, 1, 1] rfl (storesC_at ql_KeysMore_st [0, 0, 1, 0, 1, 1, 1, 1])) 39 ql_KeysMore_d0 ql_KeysMore_dx0).mono fun st k h => ckD_mono h fun v hv hw => (hv hw).elim fun n hn => ⟨n, Eq.mpr (ql_KeysMore_v0 k n v) hn⟩
def ql_KeysMore_B0 : Labs := ([0, 1, 0, 1, 1, 1, 1], ql_KeysMore_X0) :: []
theorem ql_KeysMore_b0 : LabsOk Tryd.prog (bodyOf Tryd.f7) ql_KeysMore_B0 := LabsOk.cons ql_KeysMore_x0 (LabsOk.nil)
def ql_KeysMore_raw (all0 : List Int) (K : Res → List Cell → Prop) : Prop :=
 ∀ (r1 : Bool), r1 = ql_awake_F → (
 wfR (.one (.v (.bool) r1)) → (
 bif (!r1) then
 K (.one (.v (.bool) false)) []
 else
 keys_Parse_P all0 ∧ (
 ∀ (r2 : CmT × Int), r2 = keys_Parse_F all0 → (
 wfR (.tup [.v (.st (.pair (.int .u8) (.pair (.int .i64) (.pair (.str) (.pair (.str) (.pair (.int .u8) (.sl (.int .u8)))))))) r2.1, .v (.int .i64) r2.2]) → (
 bif (!decide (r2.2 = (0 : Int))) then
 K (.one (.v (.bool) true)) []
 else
 (wfD ql_KeysMore_d0 (all0, ([([120] : List Int), ([119] : List Int), ([103] : List Int), ([97, 120] : List Int), ([108] : List Int), ([45] : List Int), ([126] : List Int), ([117] : List Int), ([85] : List Int), ([69] : List Int)] : List (List Int)), (0 : Int), ()) → ∃ n, ql_KeysMore_L0 (fun (x2 : Bool) => wfD ql_KeysMore_d0r (x2, ()) → (
 K (.one (.v (.bool) x2)) [])) (wfD ql_KeysMore_d0x0 () → (
 K (.one (.v (.bool) false)) [])) n all0 ([([120] : List Int), ([119] : List Int), ([103] : List Int), ([97, 120] : List Int), ([108] : List Int), ([45] : List Int), ([126] : List Int), ([117] : List Int), ([85] : List Int), ([69] : List Int)] : List (List Int)) (0 : Int)))))))
def ql_KeysMore_A : List AS := [.v (.sl (.int .u8))]
theorem ql_KeysMore_walk (all0 : List Int) (K : Res → List Cell → Prop) : runF tb (getG ql_KeysMore_G) ql_KeysMore_B0 Tryd.f7 [true] (mkA ql_KeysMore_A (all0, ())) K = ql_KeysMore_raw all0 K := by kernel_rfl
--! law 1

def ql_KeysMore_R : App := runF tb (getG ql_KeysMore_G) ql_KeysMore_B0 Tryd.f7 [true]
theorem ql_KeysMore_ok : AppOk Tryd.prog 7 ql_KeysMore_R := runF_ok tb_M tb_ok ql_KeysMore_Gok (ql_KeysMore_b0) (f := 7) (fn := Tryd.f7) (by kernel_rfl) (by kernel_rfl) ql_KeysMore_st [true]
end Go.VE
namespace Go.VE
open Go Go.Proofs

def yesK : Res → List Cell → Prop := fun r _ => r = .one (.v .bool true)

theorem bulk_bytes : ∀ xs : List Int, bulk (.sl (.int .u8)) xs = xs.length + 1 := by
  intro xs
  show (xs.map (bulk (.int .u8))).sum + 1 = _
  congr 1
  induction xs with
  | nil => rfl
  | cons x xs ih => rw [List.map_cons, List.sum_cons, ih, List.length_cons]; show 1 + xs.length = _; omega

theorem parse_F {ks : List Int} (hl : ks.length ≤ 1099511627776) (h : ∀ x ∈ ks, 0 ≤ x ∧ x ≤ 255) : keys_Parse_F ks = parseM ks := (parse_eq hl h).2
theorem parse_P {ks : List Int} (hl : ks.length ≤ 1099511627776) (h : ∀ x ∈ ks, 0 ≤ x ∧ x ≤ 255) : keys_Parse_P ks := (parse_eq hl h).1

/-! ### On -/
theorem on_l0 {kr : Bool → Prop} {kx0 : Prop} {all : List Int} (hl : all.length ≤ 2000) (h255 : ∀ x ∈ all, 0 ≤ x ∧ x ≤ 255) (h2 : (parseM all).2 ≠ 2) (hk : kx0) : ∀ (m i : Nat), i ≤ all.length → all.length - i < m → ql_KeysOn_L0 kr kx0 m all (i : Int)
  | 0, _, _, h => absurd h (Nat.not_lt_zero _)
  | m + 1, i, hi, hm => by
    intro _
    unfold ql_KeysOn_T0
    refine brn (fun hlt => asrt (by omega) ?_) (fun _ => hk)
    have hln : (all.take (Int.toNat (i : Int))).length ≤ 1099511627776 := by rw [List.length_take]; omega
    have hb : ∀ x ∈ all.take (Int.toNat (i : Int)), 0 ≤ x ∧ x ≤ 255 := fun x hx => h255 x (List.mem_of_mem_take hx)
    refine ⟨parse_P hln hb, fun r hr _ => ?_⟩
    rw [parse_F hln hb, Int.toNat_natCast] at hr
    subst hr
    have h0 : (parseM (all.take i)).2 = 0 := by
      apply Classical.byContradiction
      intro hne
      have hd : all.drop i ≠ [] := fun e => by
        have := congrArg List.length e
        rw [List.length_drop, List.length_nil] at this; omega
      have := parse_stab (s := all.take i) (m := all.drop i) hne hd
      rw [List.take_append_drop] at this
      exact h2 this
    rw [h0]
    refine brb (fun h => ?_) (fun _ => ?_)
    · simp at h
    · rw [wrap_i64 (by omega) (by omega), show (i : Int) + 1 = ((i + 1 : Nat) : Int) by omega]
      exact on_l0 hl h255 h2 hk m (i + 1) (by omega) (by omega)

theorem on_raw {all more : List Int} (ha : all.length ≤ 1048576) (hm : more.length ≤ 1048576) (h1 : ∀ x ∈ all, 0 ≤ x ∧ x ≤ 255) (h2 : ∀ x ∈ more, 0 ≤ x ∧ x ≤ 255) : ql_KeysOn_raw all more yesK := by
  unfold ql_KeysOn_raw
  intro r1 hr1 _
  subst hr1
  refine brb (fun h => by cases h) (fun _ => ?_)
  refine brn (fun _ => rfl) (fun hle => ?_)
  have e0 : ([] : List Int) ++ all = all := rfl
  have h3 : ∀ x ∈ all ++ more, 0 ≤ x ∧ x ≤ 255 := fun x hx => (List.mem_append.1 hx).elim (h1 x) (h2 x)
  have hl3 : (all ++ more).length ≤ 1099511627776 := by rw [List.length_append]; omega
  refine ⟨parse_P (by omega) h1, fun r2 hr2 _ => ?_⟩
  rw [parse_F (by omega) h1] at hr2
  subst hr2
  refine asrt (by simp only [List.length_nil, lim]; omega) ?_
  refine asrt (by simp only [e0, lim]; omega) ?_
  refine ⟨by rw [e0]; exact parse_P hl3 h3, fun r3 hr3 _ => ?_⟩
  rw [e0, parse_F hl3 h3] at hr3
  subst hr3
  have L : (parseM all).2 ≠ 2 → (wfD ql_KeysOn_d0 (all, (0 : Int), ()) → ∃ n, ql_KeysOn_L0 (fun (x4 : Bool) => wfD ql_KeysOn_d0r (x4, ()) → (
        yesK (.one (.v (.bool) x4)) [])) (wfD ql_KeysOn_d0x0 () → (yesK (.one (.v (.bool) true)) [])) n all (0 : Int)) := fun hne _ =>
    ⟨all.length + 1, on_l0 (by omega) h1 hne (fun _ => rfl) (all.length + 1) 0 (Nat.zero_le _) (by omega)⟩
  have rest : bif (decide ((parseM all).2 = (2 : Int))) then yesK (.one (.v (.bool) true)) [] else
      (wfD ql_KeysOn_d0 (all, (0 : Int), ()) → ∃ n, ql_KeysOn_L0 (fun (x4 : Bool) => wfD ql_KeysOn_d0r (x4, ()) → (
        yesK (.one (.v (.bool) x4)) [])) (wfD ql_KeysOn_d0x0 () → (yesK (.one (.v (.bool) true)) [])) n all (0 : Int)) :=
    brn (fun _ => rfl) (fun hne => L hne)
  refine brb (fun hk => ?_) (fun _ => rest)
  have hk : (parseM all).2 ≠ 0 := by simpa using hk
  refine brn (fun hpos => ?_) (fun _ => rest)
  have hne : more ≠ [] := fun e => by subst e; simp at hpos
  have := parse_stab hk hne
  refine brb (fun h => ?_) (fun _ => rest)
  rw [this] at h; simp at h

theorem on_law (v : valsA ql_KeysOn_A) (hw : wfA ql_KeysOn_A v) (hb : bulkA ql_KeysOn_A v ≤ 1048576) : ql_KeysOn_R (mkA ql_KeysOn_A v) yesK := by
  obtain ⟨all, more, ⟨⟩⟩ := v
  refine (ql_KeysOn_walk all more yesK).mpr ?_
  obtain ⟨h1, h2, _⟩ := hw
  change bulk (.sl (.int .u8)) all + (bulk (.sl (.int .u8)) more + 0) ≤ 1048576 at hb
  rw [bulk_bytes, bulk_bytes] at hb
  exact on_raw (by omega) (by omega) h1.2 h2.2

/-! ### More -/
abbrev tl : List (List Int) := [([120] : List Int), ([119] : List Int), ([103] : List Int), ([97, 120] : List Int), ([108] : List Int), ([45] : List Int), ([126] : List Int), ([117] : List Int), ([85] : List Int), ([69] : List Int)]

theorem tail_fact : ∀ i : Nat, i < 10 → (rd ([] : List Int) tl (i : Int)).length ≤ 2 ∧ ∀ x ∈ rd ([] : List Int) tl (i : Int), 0 ≤ x ∧ x ≤ 255 := by decide +kernel

theorem more_l0 {kr : Bool → Prop} {kx0 : Prop} {all : List Int} (hl : all.length ≤ 1048576) (h255 : ∀ x ∈ all, 0 ≤ x ∧ x ≤ 255) (hk : kr true) :
    ∀ (m i : Nat), i ≤ 10 → 10 - i < m → (∃ j : Nat, i ≤ j ∧ j < 10 ∧ (parseM (all ++ rd ([] : List Int) tl (j : Int))).2 = 1) → ql_KeysMore_L0 kr kx0 m all tl (i : Int)
  | 0, _, _, h, _ => absurd h (Nat.not_lt_zero _)
  | m + 1, i, hi, hm, ⟨j, hj, hj2, hjp⟩ => by
    intro _
    have hi10 : i < 10 := by omega
    obtain ⟨f1, f2⟩ := tail_fact i hi10
    have e0 : ([] : List Int) ++ all = all := rfl
    have h3 : ∀ x ∈ all ++ rd ([] : List Int) tl (i : Int), 0 ≤ x ∧ x ≤ 255 := fun x hx => (List.mem_append.1 hx).elim (h255 x) (f2 x)
    have hl3 : (all ++ rd ([] : List Int) tl (i : Int)).length ≤ 1099511627776 := by rw [List.length_append]; omega
    have A1 : List.length ([] : List Int) + List.length all ≤ lim := by simp only [List.length_nil, lim]; omega
    have A2 : 0 ≤ (i : Int) ∧ (i : Int) < (List.length tl : Int) := ⟨by omega, by show (i : Int) < 10; omega⟩
    have A3 : List.length (([] : List Int) ++ all) + List.length (rd ([] : List Int) tl (i : Int)) ≤ lim := by rw [e0]; unfold lim; omega
    have leaf : keys_Parse_P ((([] : List Int) ++ all) ++ (rd ([] : List Int) tl (i : Int))) ∧ (
        ∀ (r3 : CmT × Int), r3 = keys_Parse_F ((([] : List Int) ++ all) ++ (rd ([] : List Int) tl (i : Int))) → (
        wfR (.tup [.v (.st (.pair (.int .u8) (.pair (.int .i64) (.pair (.str) (.pair (.str) (.pair (.int .u8) (.sl (.int .u8)))))))) r3.1, .v (.int .i64) r3.2]) → (
        bif (decide (r3.2 = (1 : Int))) then kr true else ql_KeysMore_L0 kr kx0 m all tl (IntKind.wrap .i64 ((i : Int) + (1 : Int)))))) := by
      refine ⟨by rw [e0]; exact parse_P hl3 h3, fun r hr _ => ?_⟩
      rw [e0, parse_F hl3 h3] at hr
      subst hr
      refine brn (fun _ => hk) (fun hne => ?_)
      rw [wrap_i64 (by omega) (by omega), show (i : Int) + 1 = ((i + 1 : Nat) : Int) by omega]
      have : i ≠ j := fun e => by subst e; exact hne hjp
      exact more_l0 hl h255 hk m (i + 1) (by omega) (by omega) ⟨j, by omega, hj2, hjp⟩
    unfold ql_KeysMore_T0
    refine brn (fun _ => ?_) (fun h => absurd A2.2 h)
    repeat' (first | exact leaf | exact trivial | refine asrt A1 ?_ | refine asrt A2 ?_ | refine asrt A3 ?_ | refine ⟨?_, ?_⟩)

theorem more_raw {all : List Int} (ha : all.length ≤ 1048576) (h1 : ∀ x ∈ all, 0 ≤ x ∧ x ≤ 255) : ql_KeysMore_raw all yesK := by
  unfold ql_KeysMore_raw
  intro r1 hr1 _
  subst hr1
  refine brb (fun h => by cases h) (fun _ => ?_)
  refine ⟨parse_P (by omega) h1, fun r2 hr2 _ => ?_⟩
  rw [parse_F (by omega) h1] at hr2
  subst hr2
  refine brb (fun _ => rfl) (fun hk _ => ?_)
  have hk : (parseM all).2 = 0 := by simpa using hk
  obtain ⟨t, ht, h2⟩ := parse_grow hk
  refine ⟨11, more_l0 ha h1 (fun _ => rfl) 11 0 (by omega) (by omega) ?_⟩
  obtain ⟨j, hj, e⟩ := List.getElem_of_mem ht
  refine ⟨j, Nat.zero_le _, hj, ?_⟩
  have : rd ([] : List Int) tl (j : Int) = t := by rw [← e]; exact rd_nat [] tl j hj
  rw [this]; exact h2

theorem more_law (v : valsA ql_KeysMore_A) (hw : wfA ql_KeysMore_A v) (hb : bulkA ql_KeysMore_A v ≤ 1048576) : ql_KeysMore_R (mkA ql_KeysMore_A v) yesK := by
  obtain ⟨all, ⟨⟩⟩ := v
  refine (ql_KeysMore_walk all yesK).mpr ?_
  obtain ⟨h1, _⟩ := hw
  change bulk (.sl (.int .u8)) all + 0 ≤ 1048576 at hb
  rw [bulk_bytes] at hb
  exact more_raw (by omega) h1.2
end Go.VE
namespace Go.VE
open Go Go.Proofs
/-! ### quoin/quoinref21.Same -/
def qr_Same_G : List (Nat × App) := []
theorem qr_Same_Gok : GOk Tryd.prog (getG qr_Same_G) := GOk.nil
def qr_Same_raw (a0 : CmT) (b1 : CmT) (K : Res → List Cell → Prop) : Prop :=
 bif (decide (a0.1 = b1.1)) then
 bif (decide (a0.2.1 = b1.2.1)) then
 bif (decide (a0.2.2.1 = b1.2.2.1)) then
 bif (decide (a0.2.2.2.1 = b1.2.2.2.1)) then
 bif (decide (a0.2.2.2.2.1 = b1.2.2.2.2.1)) then
 K (.one (.v (.bool) (decide (a0.2.2.2.2.2 = b1.2.2.2.2.2)))) []
 else
 K (.one (.v (.bool) false)) []
 else
 K (.one (.v (.bool) false)) []
 else
 K (.one (.v (.bool) false)) []
 else
 K (.one (.v (.bool) false)) []
 else
 K (.one (.v (.bool) false)) []
def qr_Same_A : List AS := [.v (.st (.pair (.int .u8) (.pair (.int .i64) (.pair (.str) (.pair (.str) (.pair (.int .u8) (.sl (.int .u8)))))))), .v (.st (.pair (.int .u8) (.pair (.int .i64) (.pair (.str) (.pair (.str) (.pair (.int .u8) (.sl (.int .u8))))))))]
theorem qr_Same_walk (a0 : CmT) (b1 : CmT) (K : Res → List Cell → Prop) : runF tb (getG qr_Same_G) [] Tryd.f13 [true] (mkA qr_Same_A (a0, b1, ())) K = qr_Same_raw a0 b1 K := by kernel_rfl

def qr_Same_F (a0 : CmT) (b1 : CmT) : Bool :=
 bif (decide (a0.1 = b1.1)) then
 bif (decide (a0.2.1 = b1.2.1)) then
 bif (decide (a0.2.2.1 = b1.2.2.1)) then
 bif (decide (a0.2.2.2.1 = b1.2.2.2.1)) then
 bif (decide (a0.2.2.2.2.1 = b1.2.2.2.2.1)) then
 (decide (a0.2.2.2.2.2 = b1.2.2.2.2.2))
 else
 false
 else
 false
 else
 false
 else
 false
 else
 false
set_option maxRecDepth 20000 in
theorem qr_Same_sp (a0 : CmT) (b1 : CmT) (K : Res → List Cell → Prop) (_ : wfA qr_Same_A (a0, b1, ())) (h : ∀ r : Bool, r = qr_Same_F a0 b1 → K (.one (.v (.bool) r)) []) : qr_Same_raw a0 b1 K := by
  unfold qr_Same_raw
  refine brb (fun c_1 => ?_) (fun c_1 => ?_)
  ·
    refine brb (fun c_2 => ?_) (fun c_2 => ?_)
    ·
      refine brb (fun c_3 => ?_) (fun c_3 => ?_)
      ·
        refine brb (fun c_4 => ?_) (fun c_4 => ?_)
        ·
          refine brb (fun c_5 => ?_) (fun c_5 => ?_)
          ·
            exact h _ ((Eq.trans (ctrue c_1) (Eq.trans (ctrue c_2) (Eq.trans (ctrue c_3) (Eq.trans (ctrue c_4) (ctrue c_5))))) : qr_Same_F a0 b1 = _).symm
          ·
            exact h _ ((Eq.trans (ctrue c_1) (Eq.trans (ctrue c_2) (Eq.trans (ctrue c_3) (Eq.trans (ctrue c_4) (cfalse c_5))))) : qr_Same_F a0 b1 = _).symm
        ·
          exact h _ ((Eq.trans (ctrue c_1) (Eq.trans (ctrue c_2) (Eq.trans (ctrue c_3) (cfalse c_4)))) : qr_Same_F a0 b1 = _).symm
      ·
        exact h _ ((Eq.trans (ctrue c_1) (Eq.trans (ctrue c_2) (cfalse c_3))) : qr_Same_F a0 b1 = _).symm
    ·
      exact h _ ((Eq.trans (ctrue c_1) (cfalse c_2)) : qr_Same_F a0 b1 = _).symm
  ·
    exact h _ ((cfalse c_1) : qr_Same_F a0 b1 = _).symm
def qr_Same_C (v : valsA qr_Same_A) (K : Res → List Cell → Prop) : Prop := ∀ r : Bool, r = qr_Same_F v.1 v.2.1 → K (.one (.v (.bool) r)) []
def qr_Same_S : App := specW qr_Same_A qr_Same_C
theorem qr_Same_wv (K : Res → List Cell → Prop) : ∀ v : valsA qr_Same_A, runF tb (getG qr_Same_G) [] Tryd.f13 [true] (mkA qr_Same_A v) K = qr_Same_raw v.1 v.2.1 K
  | (a0, b1, ()) => qr_Same_walk a0 b1 K
set_option maxRecDepth 20000 in
theorem qr_Same_ok : AppOk Tryd.prog 13 qr_Same_S :=
  AppOk.specW (spec_ok (runF_ok tb_M tb_ok qr_Same_Gok (LabsOk.nil) (f := 13) (fn := Tryd.f13) (by kernel_rfl) (by kernel_rfl) (by kernel_rfl) [true]) fun v K hw h => (qr_Same_wv K v).mpr (qr_Same_sp v.1 v.2.1 K hw h))

end Go.VE
namespace Go.VE
open Go Go.Proofs
/-! ### quoin/quoinlaw21.KeysKeeps -/
def ql_KeysKeeps_G : List (Nat × App) := [(10, ql_awake_S), (12, keys_Parse_S), (16, keys_Name_S), (17, keys_Spell_S), (13, qr_Same_S)]
theorem ql_KeysKeeps_Gok : GOk Tryd.prog (getG ql_KeysKeeps_G) := GOk.cons ql_awake_ok (GOk.cons keys_Parse_ok (GOk.cons keys_Name_ok (GOk.cons keys_Spell_ok (GOk.cons qr_Same_ok (GOk.nil)))))
theorem ql_KeysKeeps_st : storesC (bodyOf Tryd.f9) = true := by kernel_rfl
def ql_KeysKeeps_d0 : List LS := [.v 0 (.sl (.int .u8)), .b 3 24 [], .b 8 64 [], .v 9 (.int .i64), .o 10 85 5 (.int .u8), .o 11 93 5 (.int .u8), .o 12 101 5 (.int .u8), .o 13 109 5 (.int .u8), .v 14 (.str), .v 15 (.str), .v 16 (.int .i64), .c 24 (.st (.pair (.int .u8) (.pair (.int .i64) (.pair (.str) (.pair (.str) (.pair (.int .u8) (.sl (.int .u8)))))))), .c 64 (.st (.pair (.int .u8) (.pair (.int .i64) (.pair (.str) (.pair (.str) (.pair (.int .u8) (.sl (.int .u8))))))))]
def ql_KeysKeeps_d0x0 : List LS := [.v 0 (.sl (.int .u8)), .b 3 24 [], .b 8 64 [], .v 9 (.int .i64), .o 10 85 5 (.int .u8), .o 11 93 5 (.int .u8), .o 12 101 5 (.int .u8), .o 13 109 5 (.int .u8), .v 14 (.str), .v 15 (.str), .c 24 (.st (.pair (.int .u8) (.pair (.int .i64) (.pair (.str) (.pair (.str) (.pair (.int .u8) (.sl (.int .u8)))))))), .c 64 (.st (.pair (.int .u8) (.pair (.int .i64) (.pair (.str) (.pair (.str) (.pair (.int .u8) (.sl (.int .u8))))))))]
def ql_KeysKeeps_dx0 : DX := ⟨none, none, [(0, ql_KeysKeeps_d0x0)]⟩
def ql_KeysKeeps_T0 (Y : List Int → Int → List Int → List Int → List Int → List Int → List Int → List Int → Int → CmT → CmT → Prop) (kx0 : List Int → Int → List Int → List Int → List Int → List Int → List Int → List Int → CmT → CmT → Prop) (all0 : List Int) (k9 : Int) (a10 : List Int) (b11 : List Int) (s12 : List Int) (t13 : List Int) (first14 : List Int) (second15 : List Int) (i16 : Int) (c3b : CmT) (p8b : CmT) : Prop :=
 bif (decide (i16 < (List.length a10 : Int))) then
 bif decide (0 ≤ i16 ∧ i16 < (List.length a10 : Int)) then
 Y all0 k9 (List.set a10 (Int.toNat i16) (1 : Int)) b11 s12 t13 first14 second15 (IntKind.wrap .i64 (i16 + (1 : Int))) c3b p8b
 else False
 else
 kx0 all0 k9 a10 b11 s12 t13 first14 second15 c3b p8b
def ql_KeysKeeps_L0 (kx0 : List Int → Int → List Int → List Int → List Int → List Int → List Int → List Int → CmT → CmT → Prop) : Nat → List Int → Int → List Int → List Int → List Int → List Int → List Int → List Int → Int → CmT → CmT → Prop
  | 0, _, _, _, _, _, _, _, _, _, _, _ => False
  | n + 1, all0, k9, a10, b11, s12, t13, first14, second15, i16, c3b, p8b => wfD ql_KeysKeeps_d0 (all0, k9, a10, b11, s12, t13, first14, second15, i16, c3b, p8b, ()) → ql_KeysKeeps_T0 (ql_KeysKeeps_L0 kx0 n) kx0 all0 k9 a10 b11 s12 t13 first14 second15 i16 c3b p8b
theorem ql_KeysKeeps_s0 (k : Ex → St → Prop) (Y : vals ql_KeysKeeps_d0 → Prop) (all0 : List Int) (k9 : Int) (a10 : List Int) (b11 : List Int) (s12 : List Int) (t13 : List Int) (first14 : List Int) (second15 : List Int) (i16 : Int) (c3b : CmT) (p8b : CmT) :
    ex tb (getG ql_KeysKeeps_G) [] (at' (bodyOf Tryd.f9) [0, 0, 1, 0, 1, 1, 1, 1, 1, 1, 1, 1, 1, 1, 1, 1]) [0, 0, 1, 0, 1, 1, 1, 1, 1, 1, 1, 1, 1, 1, 1, 1] (mkD 184 ql_KeysKeeps_d0 (all0, k9, a10, b11, s12, t13, first14, second15, i16, c3b, p8b, ())) (lpK 184 ql_KeysKeeps_d0 ql_KeysKeeps_dx0 k Y) =
    ql_KeysKeeps_T0 (fun all0 k9 a10 b11 s12 t13 first14 second15 i16 c3b p8b => Y (all0, k9, a10, b11, s12, t13, first14, second15, i16, c3b, p8b, ())) (fun all0 k9 a10 b11 s12 t13 first14 second15 c3b p8b => wfD ql_KeysKeeps_d0x0 (all0, k9, a10, b11, s12, t13, first14, second15, c3b, p8b, ()) → k (.exit 0) (mkD 184 ql_KeysKeeps_d0x0 (all0, k9, a10, b11, s12, t13, first14, second15, c3b, p8b, ()))) all0 k9 a10 b11 s12 t13 first14 second15 i16 c3b p8b := by kernel_rfl
theorem ql_KeysKeeps_e0 (k : Ex → St → Prop) : ∀ (n : Nat) (all0 : List Int) (k9 : Int) (a10 : List Int) (b11 : List Int) (s12 : List Int) (t13 : List Int) (first14 : List Int) (second15 : List Int) (i16 : Int) (c3b : CmT) (p8b : CmT), lpD 184 ql_KeysKeeps_d0 ql_KeysKeeps_dx0 (ex tb (getG ql_KeysKeeps_G) [] (at' (bodyOf Tryd.f9) [0, 0, 1, 0, 1, 1, 1, 1, 1, 1, 1, 1, 1, 1, 1, 1]) [0, 0, 1, 0, 1, 1, 1, 1, 1, 1, 1, 1, 1, 1, 1, 1]) k n (all0, k9, a10, b11, s12, t13, first14, second15, i16, c3b, p8b, ()) = ql_KeysKeeps_L0 (fun all0 k9 a10 b11 s12 t13 first14 second15 c3b p8b => wfD ql_KeysKeeps_d0x0 (all0, k9, a10, b11, s12, t13, first14, second15, c3b, p8b, ()) → k (.exit 0) (mkD 184 ql_KeysKeeps_d0x0 (all0, k9, a10, b11, s12, t13, first14, second15, c3b, p8b, ()))) n all0 k9 a10 b11 s12 t13 first14 second15 i16 c3b p8b
  | 0, _, _, _, _, _, _, _, _, _, _, _ => rfl
  | n + 1, all0, k9, a10, b11, s12, t13, first14, second15, i16, c3b, p8b => congrArg (fun Z : Prop => wfD ql_KeysKeeps_d0 (all0, k9, a10, b11, s12, t13, first14, second15, i16, c3b, p8b, ()) → Z) ((ql_KeysKeeps_s0 k (lpD 184 ql_KeysKeeps_d0 ql_KeysKeeps_dx0 (ex tb (getG ql_KeysKeeps_G) [] (at' (bodyOf Tryd.f9) [0, 0, 1, 0, 1, 1, 1, 1, 1, 1, 1, 1, 1, 1, 1, 1]) [0, 0, 1, 0, 1, 1, 1, 1, 1, 1, 1, 1, 1, 1, 1, 1]) k n) all0 k9 a10 b11 s12 t13 first14 second15 i16 c3b p8b).trans (congrArg (fun Y => ql_KeysKeeps_T0 Y (fun all0 k9 a10 b11 s12 t13 first14 second15 c3b p8b => wfD ql_KeysKeeps_d0x0 (all0, k9, a10, b11, s12, t13, first14, second15, c3b, p8b, ()) → k (.exit 0) (mkD 184 ql_KeysKeeps_d0x0 (all0, k9, a10, b11, s12, t13, first14, second15, c3b, p8b, ()))) all0 k9 a10 b11 s12 t13 first14 second15 i16 c3b p8b) (funext fun all0 => funext fun k9 => funext fun a10 => funext fun b11 => funext fun s12 => funext fun t13 => funext fun first14 => funext fun second15 => funext fun i16 => funext fun c3b => funext fun p8b => ql_KeysKeeps_e0 k n all0 k9 a10 b11 s12 t13 first14 second15 i16 c3b p8b)))
theorem ql_KeysKeeps_v0 (k : Ex → St → Prop) (n : Nat) : ∀ v : vals ql_KeysKeeps_d0, lpD 184 ql_KeysKeeps_d0 ql_KeysKeeps_dx0 (ex tb (getG ql_KeysKeeps_G) [] (at' (bodyOf Tryd.f9) [0, 0, 1, 0, 1, 1, 1, 1, 1, 1, 1, 1, 1, 1, 1, 1]) [0, 0, 1, 0, 1, 1, 1, 1, 1, 1, 1, 1, 1, 1, 1, 1]) k n v = ql_KeysKeeps_L0 (fun all0 k9 a10 b11 s12 t13 first14 second15 c3b p8b => wfD ql_KeysKeeps_d0x0 (all0, k9, a10, b11, s12, t13, first14, second15, c3b, p8b, ()) → k (.exit 0) (mkD 184 ql_KeysKeeps_d0x0 (all0, k9, a10, b11, s12, t13, first14, second15, c3b, p8b, ()))) n v.1 v.2.1 v.2.2.1 v.2.2.2.1 v.2.2.2.2.1 v.2.2.2.2.2.1 v.2.2.2.2.2.2.1 v.2.2.2.2.2.2.2.1 v.2.2.2.2.2.2.2.2.1 v.2.2.2.2.2.2.2.2.2.1 v.2.2.2.2.2.2.2.2.2.2.1
  | (all0, k9, a10, b11, s12, t13, first14, second15, i16, c3b, p8b, ()) => ql_KeysKeeps_e0 k n all0 k9 a10 b11 s12 t13 first14 second15 i16 c3b p8b
def ql_KeysKeeps_X0 : Pce := fun st k => ckD 184 ql_KeysKeeps_d0 st fun v => wfD ql_KeysKeeps_d0 v → ∃ n, ql_KeysKeeps_L0 (fun all0 k9 a10 b11 s12 t13 first14 second15 c3b p8b => wfD ql_KeysKeeps_d0x0 (all0, k9, a10, b11, s12, t13, first14, second15, c3b, p8b, ()) → k (.exit 0) (mkD 184 ql_KeysKeeps_d0x0 (all0, k9, a10, b11, s12, t13, first14, second15, c3b, p8b, ()))) n v.1 v.2.1 v.2.2.1 v.2.2.2.1 v.2.2.2.2.1 v.2.2.2.2.2.1 v.2.2.2.2.2.2.1 v.2.2.2.2.2.2.2.1 v.2.2.2.2.2.2.2.2.1 v.2.2.2.2.2.2.2.2.2.1 v.2.2.2.2.2.2.2.2.2.2.1
set_option maxRecDepth 20000 in
theorem ql_KeysKeeps_x0 : SemOk Tryd.prog (at' (bodyOf Tryd.f9) [0, 1, 0, 1, 1, 1, 1, 1, 1, 1, 1, 1, 1, 1, 1]) ql_KeysKeeps_X0 :=
  (SemOk.loop (ex_sound tb_M tb_ok ql_KeysKeeps_Gok (LabsOk.nil) (at' (bodyOf Tryd.f9) [0, 0, 1, 0, 1, 1, 1, 1, 1, 1, 1, 1, 1, 1, 1, 1]) [0, 0, 1, 0, 1, 1, 1, 1, 1, 1, 1, 1, 1, 1, 1, 1] rfl (storesC_at ql_KeysKeeps_st [0, 0, 1, 0, 1, 1, 1, 1, 1, 1, 1, 1, 1, 1, 1, 1])) 184 ql_KeysKeeps_d0 ql_KeysKeeps_dx0).mono fun st k h => ckD_mono h fun v hv hw => (hv hw).elim fun n hn => ⟨n, Eq.mpr (ql_KeysKeeps_v0 k n v) hn⟩
def ql_KeysKeeps_B0 : Labs := ([0, 1, 0, 1, 1, 1, 1, 1, 1, 1, 1, 1, 1, 1, 1], ql_KeysKeeps_X0) :: []
theorem ql_KeysKeeps_b0 : LabsOk Tryd.prog (bodyOf Tryd.f9) ql_KeysKeeps_B0 := LabsOk.cons ql_KeysKeeps_x0 (LabsOk.nil)
def ql_KeysKeeps_d1 : List LS := [.v 0 (.sl (.int .u8)), .b 3 24 [], .b 8 64 [], .v 9 (.int .i64), .o 10 85 5 (.int .u8), .o 11 93 5 (.int .u8), .o 12 101 5 (.int .u8), .o 13 109 5 (.int .u8), .v 14 (.str), .v 15 (.str), .v 17 (.int .i64), .c 24 (.st (.pair (.int .u8) (.pair (.int .i64) (.pair (.str) (.pair (.str) (.pair (.int .u8) (.sl (.int .u8)))))))), .c 64 (.st (.pair (.int .u8) (.pair (.int .i64) (.pair (.str) (.pair (.str) (.pair (.int .u8) (.sl (.int .u8))))))))]
def ql_KeysKeeps_d1x2 : List LS := [.v 0 (.sl (.int .u8)), .b 3 24 [], .b 8 64 [], .v 9 (.int .i64), .o 10 85 5 (.int .u8), .o 11 93 5 (.int .u8), .o 12 101 5 (.int .u8), .o 13 109 5 (.int .u8), .v 14 (.str), .v 15 (.str), .c 24 (.st (.pair (.int .u8) (.pair (.int .i64) (.pair (.str) (.pair (.str) (.pair (.int .u8) (.sl (.int .u8)))))))), .c 64 (.st (.pair (.int .u8) (.pair (.int .i64) (.pair (.str) (.pair (.str) (.pair (.int .u8) (.sl (.int .u8))))))))]
def ql_KeysKeeps_dx1 : DX := ⟨none, none, [(2, ql_KeysKeeps_d1x2)]⟩
def ql_KeysKeeps_T1 (Y : List Int → Int → List Int → List Int → List Int → List Int → List Int → List Int → Int → CmT → CmT → Prop) (kx2 : List Int → Int → List Int → List Int → List Int → List Int → List Int → List Int → CmT → CmT → Prop) (all0 : List Int) (k9 : Int) (a10 : List Int) (b11 : List Int) (s12 : List Int) (t13 : List Int) (first14 : List Int) (second15 : List Int) (i17 : Int) (c3b : CmT) (p8b : CmT) : Prop :=
 bif (decide (i17 < (List.length s12 : Int))) then
 bif decide (0 ≤ i17 ∧ i17 < (List.length s12 : Int)) then
 Y all0 k9 a10 b11 (List.set s12 (Int.toNat i17) (2 : Int)) t13 first14 second15 (IntKind.wrap .i64 (i17 + (1 : Int))) c3b p8b
 else False
 else
 kx2 all0 k9 a10 b11 s12 t13 first14 second15 c3b p8b
def ql_KeysKeeps_L1 (kx2 : List Int → Int → List Int → List Int → List Int → List Int → List Int → List Int → CmT → CmT → Prop) : Nat → List Int → Int → List Int → List Int → List Int → List Int → List Int → List Int → Int → CmT → CmT → Prop
  | 0, _, _, _, _, _, _, _, _, _, _, _ => False
  | n + 1, all0, k9, a10, b11, s12, t13, first14, second15, i17, c3b, p8b => wfD ql_KeysKeeps_d1 (all0, k9, a10, b11, s12, t13, first14, second15, i17, c3b, p8b, ()) → ql_KeysKeeps_T1 (ql_KeysKeeps_L1 kx2 n) kx2 all0 k9 a10 b11 s12 t13 first14 second15 i17 c3b p8b
theorem ql_KeysKeeps_s1 (k : Ex → St → Prop) (Y : vals ql_KeysKeeps_d1 → Prop) (all0 : List Int) (k9 : Int) (a10 : List Int) (b11 : List Int) (s12 : List Int) (t13 : List Int) (first14 : List Int) (second15 : List Int) (i17 : Int) (c3b : CmT) (p8b : CmT) :
    ex tb (getG ql_KeysKeeps_G) ql_KeysKeeps_B0 (at' (bodyOf Tryd.f9) [0, 0, 1, 0, 1, 1, 1, 1, 1, 1, 1, 1, 1, 1, 1, 1, 1]) [0, 0, 1, 0, 1, 1, 1, 1, 1, 1, 1, 1, 1, 1, 1, 1, 1] (mkD 184 ql_KeysKeeps_d1 (all0, k9, a10, b11, s12, t13, first14, second15, i17, c3b, p8b, ())) (lpK 184 ql_KeysKeeps_d1 ql_KeysKeeps_dx1 k Y) =
    ql_KeysKeeps_T1 (fun all0 k9 a10 b11 s12 t13 first14 second15 i17 c3b p8b => Y (all0, k9, a10, b11, s12, t13, first14, second15, i17, c3b, p8b, ())) (fun all0 k9 a10 b11 s12 t13 first14 second15 c3b p8b => wfD ql_KeysKeeps_d1x2 (all0, k9, a10, b11, s12, t13, first14, second15, c3b, p8b, ()) → k (.exit 2) (mkD 184 ql_KeysKeeps_d1x2 (all0, k9, a10, b11, s12, t13, first14, second15, c3b, p8b, ()))) all0 k9 a10 b11 s12 t13 first14 second15 i17 c3b p8b := by kernel_rfl
theorem ql_KeysKeeps_e1 (k : Ex → St → Prop) : ∀ (n : Nat) (all0 : List Int) (k9 : Int) (a10 : List Int) (b11 : List Int) (s12 : List Int) (t13 : List Int) (first14 : List Int) (second15 : List Int) (i17 : Int) (c3b : CmT) (p8b : CmT), lpD 184 ql_KeysKeeps_d1 ql_KeysKeeps_dx1 (ex tb (getG ql_KeysKeeps_G) ql_KeysKeeps_B0 (at' (bodyOf Tryd.f9) [0, 0, 1, 0, 1, 1, 1, 1, 1, 1, 1, 1, 1, 1, 1, 1, 1]) [0, 0, 1, 0, 1, 1, 1, 1, 1, 1, 1, 1, 1, 1, 1, 1, 1]) k n (all0, k9, a10, b11, s12, t13, first14, second15, i17, c3b, p8b, ()) = ql_KeysKeeps_L1 (fun all0 k9 a10 b11 s12 t13 first14 second15 c3b p8b => wfD ql_KeysKeeps_d1x2 (all0, k9, a10, b11, s12, t13, first14, second15, c3b, p8b, ()) → k (.exit 2) (mkD 184 ql_KeysKeeps_d1x2 (all0, k9, a10, b11, s12, t13, first14, second15, c3b, p8b, ()))) n all0 k9 a10 b11 s12 t13 first14 second15 i17 c3b p8b
  | 0, _, _, _, _, _, _, _, _, _, _, _ => rfl
  | n + 1, all0, k9, a10, b11, s12, t13, first14, second15, i17, c3b, p8b => congrArg (fun Z : Prop => wfD ql_KeysKeeps_d1 (all0, k9, a10, b11, s12, t13, first14, second15, i17, c3b, p8b, ()) → Z) ((ql_KeysKeeps_s1 k (lpD 184 ql_KeysKeeps_d1 ql_KeysKeeps_dx1 (ex tb (getG ql_KeysKeeps_G) ql_KeysKeeps_B0 (at' (bodyOf Tryd.f9) [0, 0, 1, 0, 1, 1, 1, 1, 1, 1, 1, 1, 1, 1, 1, 1, 1]) [0, 0, 1, 0, 1, 1, 1, 1, 1, 1, 1, 1, 1, 1, 1, 1, 1]) k n) all0 k9 a10 b11 s12 t13 first14 second15 i17 c3b p8b).trans (congrArg (fun Y => ql_KeysKeeps_T1 Y (fun all0 k9 a10 b11 s12 t13 first14 second15 c3b p8b => wfD ql_KeysKeeps_d1x2 (all0, k9, a10, b11, s12, t13, first14, second15, c3b, p8b, ()) → k (.exit 2) (mkD 184 ql_KeysKeeps_d1x2 (all0, k9, a10, b11, s12, t13, first14, second15, c3b, p8b, ()))) all0 k9 a10 b11 s12 t13 first14 second15 i17 c3b p8b) (funext fun all0 => funext fun k9 => funext fun a10 => funext fun b11 => funext fun s12 => funext fun t13 => funext fun first14 => funext fun second15 => funext fun i17 => funext fun c3b => funext fun p8b => ql_KeysKeeps_e1 k n all0 k9 a10 b11 s12 t13 first14 second15 i17 c3b p8b)))
theorem ql_KeysKeeps_v1 (k : Ex → St → Prop) (n : Nat) : ∀ v : vals ql_KeysKeeps_d1, lpD 184 ql_KeysKeeps_d1 ql_KeysKeeps_dx1 (ex tb (getG ql_KeysKeeps_G) ql_KeysKeeps_B0 (at' (bodyOf Tryd.f9) [0, 0, 1, 0, 1, 1, 1, 1, 1, 1, 1, 1, 1, 1, 1, 1, 1]) [0, 0, 1, 0, 1, 1, 1, 1, 1, 1, 1, 1, 1, 1, 1, 1, 1]) k n v = ql_KeysKeeps_L1 (fun all0 k9 a10 b11 s12 t13 first14 second15 c3b p8b => wfD ql_KeysKeeps_d1x2 (all0, k9, a10, b11, s12, t13, first14, second15, c3b, p8b, ()) → k (.exit 2) (mkD 184 ql_KeysKeeps_d1x2 (all0, k9, a10, b11, s12, t13, first14, second15, c3b, p8b, ()))) n v.1 v.2.1 v.2.2.1 v.2.2.2.1 v.2.2.2.2.1 v.2.2.2.2.2.1 v.2.2.2.2.2.2.1 v.2.2.2.2.2.2.2.1 v.2.2.2.2.2.2.2.2.1 v.2.2.2.2.2.2.2.2.2.1 v.2.2.2.2.2.2.2.2.2.2.1
  | (all0, k9, a10, b11, s12, t13, first14, second15, i17, c3b, p8b, ()) => ql_KeysKeeps_e1 k n all0 k9 a10 b11 s12 t13 first14 second15 i17 c3b p8b
def ql_KeysKeeps_X1 : Pce := fun st k => ckD 184 ql_KeysKeeps_d1 st fun v => wfD ql_KeysKeeps_d1 v → ∃ n, ql_KeysKeeps_L1 (fun all0 k9 a10 b11 s12 t13 first14 second15 c3b p8b => wfD ql_KeysKeeps_d1x2 (all0, k9, a10, b11, s12, t13, first14, second15, c3b, p8b, ()) → k (.exit 2) (mkD 184 ql_KeysKeeps_d1x2 (all0, k9, a10, b11, s12, t13, first14, second15, c3b, p8b, ()))) n v.1 v.2.1 v.2.2.1 v.2.2.2.1 v.2.2.2.2.1 v.2.2.2.2.2.1 v.2.2.2.2.2.2.1 v.2.2.2.2.2.2.2.1 v.2.2.2.2.2.2.2.2.1 v.2.2.2.2.2.2.2.2.2.1 v.2.2.2.2.2.2.2.2.2.2.1
set_option maxRecDepth 20000 in
theorem ql_KeysKeeps_x1 : SemOk Tryd.prog (at' (bodyOf Tryd.f9) [0, 1, 0, 1, 1, 1, 1, 1, 1, 1, 1, 1, 1, 1, 1, 1]) ql_KeysKeeps_X1 :=
  (SemOk.loop (ex_sound tb_M tb_ok ql_KeysKeeps_Gok (ql_KeysKeeps_b0) (at' (bodyOf Tryd.f9) [0, 0, 1, 0, 1, 1, 1, 1, 1, 1, 1, 1, 1, 1, 1, 1, 1]) [0, 0, 1, 0, 1, 1, 1, 1, 1, 1, 1, 1, 1, 1, 1, 1, 1] rfl (storesC_at ql_KeysKeeps_st [0, 0, 1, 0, 1, 1, 1, 1, 1, 1, 1, 1, 1, 1, 1, 1, 1])) 184 ql_KeysKeeps_d1 ql_KeysKeeps_dx1).mono fun st k h => ckD_mono h fun v hv hw => (hv hw).elim fun n hn => ⟨n, Eq.mpr (ql_KeysKeeps_v1 k n v) hn⟩
def ql_KeysKeeps_B1 : Labs := ([0, 1, 0, 1, 1, 1, 1, 1, 1, 1, 1, 1, 1, 1, 1, 1], ql_KeysKeeps_X1) :: ql_KeysKeeps_B0
theorem ql_KeysKeeps_b1 : LabsOk Tryd.prog (bodyOf Tryd.f9) ql_KeysKeeps_B1 := LabsOk.cons ql_KeysKeeps_x1 (ql_KeysKeeps_b0)
def ql_KeysKeeps_d2 : List LS := [.v 0 (.sl (.int .u8)), .b 3 24 [], .b 8 64 [], .v 9 (.int .i64), .o 10 85 5 (.int .u8), .o 11 93 5 (.int .u8), .o 12 101 5 (.int .u8), .o 13 109 5 (.int .u8), .v 14 (.str), .v 15 (.str), .v 18 (.int .i64), .c 24 (.st (.pair (.int .u8) (.pair (.int .i64) (.pair (.str) (.pair (.str) (.pair (.int .u8) (.sl (.int .u8)))))))), .c 64 (.st (.pair (.int .u8) (.pair (.int .i64) (.pair (.str) (.pair (.str) (.pair (.int .u8) (.sl (.int .u8))))))))]
def ql_KeysKeeps_d2x4 : List LS := [.v 0 (.sl (.int .u8)), .b 3 24 [], .b 8 64 [], .v 9 (.int .i64), .o 10 85 5 (.int .u8), .o 11 93 5 (.int .u8), .o 12 101 5 (.int .u8), .o 13 109 5 (.int .u8), .v 14 (.str), .v 15 (.str), .c 24 (.st (.pair (.int .u8) (.pair (.int .i64) (.pair (.str) (.pair (.str) (.pair (.int .u8) (.sl (.int .u8)))))))), .c 64 (.st (.pair (.int .u8) (.pair (.int .i64) (.pair (.str) (.pair (.str) (.pair (.int .u8) (.sl (.int .u8))))))))]
def ql_KeysKeeps_dx2 : DX := ⟨none, none, [(4, ql_KeysKeeps_d2x4)]⟩
def ql_KeysKeeps_T2 (Y : List Int → Int → List Int → List Int → List Int → List Int → List Int → List Int → Int → CmT → CmT → Prop) (kx4 : List Int → Int → List Int → List Int → List Int → List Int → List Int → List Int → CmT → CmT → Prop) (all0 : List Int) (k9 : Int) (a10 : List Int) (b11 : List Int) (s12 : List Int) (t13 : List Int) (first14 : List Int) (second15 : List Int) (i18 : Int) (c3b : CmT) (p8b : CmT) : Prop :=
 bif (decide (i18 < (20 : Int))) then
 bif decide (List.length a10 + List.length ([(3 : Int)] : List Int) ≤ lim) then
 bif decide (List.length s12 + List.length ([(4 : Int)] : List Int) ≤ lim) then
 Y all0 k9 (a10 ++ ([(3 : Int)] : List Int)) b11 (s12 ++ ([(4 : Int)] : List Int)) t13 first14 second15 (IntKind.wrap .i64 (i18 + (1 : Int))) c3b p8b
 else False
 else False
 else
 kx4 all0 k9 a10 b11 s12 t13 first14 second15 c3b p8b
def ql_KeysKeeps_L2 (kx4 : List Int → Int → List Int → List Int → List Int → List Int → List Int → List Int → CmT → CmT → Prop) : Nat → List Int → Int → List Int → List Int → List Int → List Int → List Int → List Int → Int → CmT → CmT → Prop
  | 0, _, _, _, _, _, _, _, _, _, _, _ => False
  | n + 1, all0, k9, a10, b11, s12, t13, first14, second15, i18, c3b, p8b => wfD ql_KeysKeeps_d2 (all0, k9, a10, b11, s12, t13, first14, second15, i18, c3b, p8b, ()) → ql_KeysKeeps_T2 (ql_KeysKeeps_L2 kx4 n) kx4 all0 k9 a10 b11 s12 t13 first14 second15 i18 c3b p8b
theorem ql_KeysKeeps_s2 (k : Ex → St → Prop) (Y : vals ql_KeysKeeps_d2 → Prop) (all0 : List Int) (k9 : Int) (a10 : List Int) (b11 : List Int) (s12 : List Int) (t13 : List Int) (first14 : List Int) (second15 : List Int) (i18 : Int) (c3b : CmT) (p8b : CmT) :
    ex tb (getG ql_KeysKeeps_G) ql_KeysKeeps_B1 (at' (bodyOf Tryd.f9) [0, 0, 1, 0, 1, 1, 1, 1, 1, 1, 1, 1, 1, 1, 1, 1, 1, 1]) [0, 0, 1, 0, 1, 1, 1, 1, 1, 1, 1, 1, 1, 1, 1, 1, 1, 1] (mkD 184 ql_KeysKeeps_d2 (all0, k9, a10, b11, s12, t13, first14, second15, i18, c3b, p8b, ())) (lpK 184 ql_KeysKeeps_d2 ql_KeysKeeps_dx2 k Y) =
    ql_KeysKeeps_T2 (fun all0 k9 a10 b11 s12 t13 first14 second15 i18 c3b p8b => Y (all0, k9, a10, b11, s12, t13, first14, second15, i18, c3b, p8b, ())) (fun all0 k9 a10 b11 s12 t13 first14 second15 c3b p8b => wfD ql_KeysKeeps_d2x4 (all0, k9, a10, b11, s12, t13, first14, second15, c3b, p8b, ()) → k (.exit 4) (mkD 184 ql_KeysKeeps_d2x4 (all0, k9, a10, b11, s12, t13, first14, second15, c3b, p8b, ()))) all0 k9 a10 b11 s12 t13 first14 second15 i18 c3b p8b := by kernel_rfl
theorem ql_KeysKeeps_e2 (k : Ex → St → Prop) : ∀ (n : Nat) (all0 : List Int) (k9 : Int) (a10 : List Int) (b11 : List Int) (s12 : List Int) (t13 : List Int) (first14 : List Int) (second15 : List Int) (i18 : Int) (c3b : CmT) (p8b : CmT), lpD 184 ql_KeysKeeps_d2 ql_KeysKeeps_dx2 (ex tb (getG ql_KeysKeeps_G) ql_KeysKeeps_B1 (at' (bodyOf Tryd.f9) [0, 0, 1, 0, 1, 1, 1, 1, 1, 1, 1, 1, 1, 1, 1, 1, 1, 1]) [0, 0, 1, 0, 1, 1, 1, 1, 1, 1, 1, 1, 1, 1, 1, 1, 1, 1]) k n (all0, k9, a10, b11, s12, t13, first14, second15, i18, c3b, p8b, ()) = ql_KeysKeeps_L2 (fun all0 k9 a10 b11 s12 t13 first14 second15 c3b p8b => wfD ql_KeysKeeps_d2x4 (all0, k9, a10, b11, s12, t13, first14, second15, c3b, p8b, ()) → k (.exit 4) (mkD 184 ql_KeysKeeps_d2x4 (all0, k9, a10, b11, s12, t13, first14, second15, c3b, p8b, ()))) n all0 k9 a10 b11 s12 t13 first14 second15 i18 c3b p8b
  | 0, _, _, _, _, _, _, _, _, _, _, _ => rfl
  | n + 1, all0, k9, a10, b11, s12, t13, first14, second15, i18, c3b, p8b => congrArg (fun Z : Prop => wfD ql_KeysKeeps_d2 (all0, k9, a10, b11, s12, t13, first14, second15, i18, c3b, p8b, ()) → Z) ((ql_KeysKeeps_s2 k (lpD 184 ql_KeysKeeps_d2 ql_KeysKeeps_dx2 (ex tb (getG ql_KeysKeeps_G) ql_KeysKeeps_B1 (at' (bodyOf Tryd.f9) [0, 0, 1, 0, 1, 1, 1, 1, 1, 1, 1, 1, 1, 1, 1, 1, 1, 1]) [0, 0, 1, 0, 1, 1, 1, 1, 1, 1, 1, 1, 1, 1, 1, 1, 1, 1]) k n) all0 k9 a10 b11 s12 t13 first14 second15 i18 c3b p8b).trans (congrArg (fun Y => ql_KeysKeeps_T2 Y (fun all0 k9 a10 b11 s12 t13 first14 second15 c3b p8b => wfD ql_KeysKeeps_d2x4 (all0, k9, a10, b11, s12, t13, first14, second15, c3b, p8b, ()) → k (.exit 4) (mkD 184 ql_KeysKeeps_d2x4 (all0, k9, a10, b11, s12, t13, first14, second15, c3b, p8b, ()))) all0 k9 a10 b11 s12 t13 first14 second15 i18 c3b p8b) (funext fun all0 => funext fun k9 => funext fun a10 => funext fun b11 => funext fun s12 => funext fun t13 => funext fun first14 => funext fun second15 => funext fun i18 => funext fun c3b => funext fun p8b => ql_KeysKeeps_e2 k n all0 k9 a10 b11 s12 t13 first14 second15 i18 c3b p8b)))
theorem ql_KeysKeeps_v2 (k : Ex → St → Prop) (n : Nat) : ∀ v : vals ql_KeysKeeps_d2, lpD 184 ql_KeysKeeps_d2 ql_KeysKeeps_dx2 (ex tb (getG ql_KeysKeeps_G) ql_KeysKeeps_B1 (at' (bodyOf Tryd.f9) [0, 0, 1, 0, 1, 1, 1, 1, 1, 1, 1, 1, 1, 1, 1, 1, 1, 1]) [0, 0, 1, 0, 1, 1, 1, 1, 1, 1, 1, 1, 1, 1, 1, 1, 1, 1]) k n v = ql_KeysKeeps_L2 (fun all0 k9 a10 b11 s12 t13 first14 second15 c3b p8b => wfD ql_KeysKeeps_d2x4 (all0, k9, a10, b11, s12, t13, first14, second15, c3b, p8b, ()) → k (.exit 4) (mkD 184 ql_KeysKeeps_d2x4 (all0, k9, a10, b11, s12, t13, first14, second15, c3b, p8b, ()))) n v.1 v.2.1 v.2.2.1 v.2.2.2.1 v.2.2.2.2.1 v.2.2.2.2.2.1 v.2.2.2.2.2.2.1 v.2.2.2.2.2.2.2.1 v.2.2.2.2.2.2.2.2.1 v.2.2.2.2.2.2.2.2.2.1 v.2.2.2.2.2.2.2.2.2.2.1
  | (all0, k9, a10, b11, s12, t13, first14, second15, i18, c3b, p8b, ()) => ql_KeysKeeps_e2 k n all0 k9 a10 b11 s12 t13 first14 second15 i18 c3b p8b
def ql_KeysKeeps_X2 : Pce := fun st k => ckD 184 ql_KeysKeeps_d2 st fun v => wfD ql_KeysKeeps_d2 v → ∃ n, ql_KeysKeeps_L2 (fun all0 k9 a10 b11 s12 t13 first14 second15 c3b p8b => wfD ql_KeysKeeps_d2x4 (all0, k9, a10, b11, s12, t13, first14, second15, c3b, p8b, ()) → k (.exit 4) (mkD 184 ql_KeysKeeps_d2x4 (all0, k9, a10, b11, s12, t13, first14, second15, c3b, p8b, ()))) n v.1 v.2.1 v.2.2.1 v.2.2.2.1 v.2.2.2.2.1 v.2.2.2.2.2.1 v.2.2.2.2.2.2.1 v.2.2.2.2.2.2.2.1 v.2.2.2.2.2.2.2.2.1 v.2.2.2.2.2.2.2.2.2.1 v.2.2.2.2.2.2.2.2.2.2.1
set_option maxRecDepth 20000 in
theorem ql_KeysKeeps_x2 : SemOk Tryd.prog (at' (bodyOf Tryd.f9) [0, 1, 0, 1, 1, 1, 1, 1, 1, 1, 1, 1, 1, 1, 1, 1, 1]) ql_KeysKeeps_X2 :=
  (SemOk.loop (ex_sound tb_M tb_ok ql_KeysKeeps_Gok (ql_KeysKeeps_b1) (at' (bodyOf Tryd.f9) [0, 0, 1, 0, 1, 1, 1, 1, 1, 1, 1, 1, 1, 1, 1, 1, 1, 1]) [0, 0, 1, 0, 1, 1, 1, 1, 1, 1, 1, 1, 1, 1, 1, 1, 1, 1] rfl (storesC_at ql_KeysKeeps_st [0, 0, 1, 0, 1, 1, 1, 1, 1, 1, 1, 1, 1, 1, 1, 1, 1, 1])) 184 ql_KeysKeeps_d2 ql_KeysKeeps_dx2).mono fun st k h => ckD_mono h fun v hv hw => (hv hw).elim fun n hn => ⟨n, Eq.mpr (ql_KeysKeeps_v2 k n v) hn⟩
def ql_KeysKeeps_B2 : Labs := ([0, 1, 0, 1, 1, 1, 1, 1, 1, 1, 1, 1, 1, 1, 1, 1, 1], ql_KeysKeeps_X2) :: ql_KeysKeeps_B1
theorem ql_KeysKeeps_b2 : LabsOk Tryd.prog (bodyOf Tryd.f9) ql_KeysKeeps_B2 := LabsOk.cons ql_KeysKeeps_x2 (ql_KeysKeeps_b1)
def ql_KeysKeeps_raw (all0 : List Int) (c1 : CmT) (K : Res → List Cell → Prop) : Prop :=
 ∀ (r1 : Bool), r1 = ql_awake_F → (
 wfR (.one (.v (.bool) r1)) → (
 bif (!r1) then
 K (.one (.v (.bool) false)) []
 else
 bif decide (List.length ([] : List Int) + List.length all0 ≤ lim) then
 bif decide (List.length (([] : List Int) ++ all0) + List.length ([(120 : Int), (120 : Int)] : List Int) ≤ lim) then
 bif decide (List.length ([] : List Int) + List.length c1.2.2.2.2.2 ≤ lim) then
 bif decide (List.length (([] : List Int) ++ c1.2.2.2.2.2) + List.length ([(165 : Int)] : List Int) ≤ lim) then
 bif decide (0 ≤ (List.length c1.2.2.2.2.2 : Int) ∧ (List.length c1.2.2.2.2.2 : Int) ≤ (List.length ((([] : List Int) ++ c1.2.2.2.2.2) ++ ([(165 : Int)] : List Int)) : Int)) then
 bif decide (0 ≤ (List.length all0 : Int) ∧ (List.length all0 : Int) ≤ (List.length ((([] : List Int) ++ all0) ++ ([(120 : Int), (120 : Int)] : List Int)) : Int)) then
 keys_Parse_P (List.take (Int.toNat (List.length all0 : Int)) ((([] : List Int) ++ all0) ++ ([(120 : Int), (120 : Int)] : List Int))) ∧ (
 ∀ (r2 : CmT × Int), r2 = keys_Parse_F (List.take (Int.toNat (List.length all0 : Int)) ((([] : List Int) ++ all0) ++ ([(120 : Int), (120 : Int)] : List Int))) → (
 wfR (.tup [.v (.st (.pair (.int .u8) (.pair (.int .i64) (.pair (.str) (.pair (.str) (.pair (.int .u8) (.sl (.int .u8)))))))) r2.1, .v (.int .i64) r2.2]) → (
 keys_Name_P (c1.1, c1.2.1, c1.2.2.1, c1.2.2.2.1, c1.2.2.2.2.1, (List.take (Int.toNat (List.length c1.2.2.2.2.2 : Int)) ((([] : List Int) ++ c1.2.2.2.2.2) ++ ([(165 : Int)] : List Int)))) ∧ (
 ∀ (r3 : List Int), r3 = keys_Name_F (c1.1, c1.2.1, c1.2.2.1, c1.2.2.2.1, c1.2.2.2.2.1, (List.take (Int.toNat (List.length c1.2.2.2.2.2 : Int)) ((([] : List Int) ++ c1.2.2.2.2.2) ++ ([(165 : Int)] : List Int)))) → (
 wfR (.one (.fr 5 (.int .u8) r3)) → (
 keys_Name_P (c1.1, c1.2.1, c1.2.2.1, c1.2.2.2.1, c1.2.2.2.2.1, (List.take (Int.toNat (List.length c1.2.2.2.2.2 : Int)) ((([] : List Int) ++ c1.2.2.2.2.2) ++ ([(165 : Int)] : List Int)))) ∧ (
 ∀ (r4 : List Int), r4 = keys_Name_F (c1.1, c1.2.1, c1.2.2.1, c1.2.2.2.1, c1.2.2.2.2.1, (List.take (Int.toNat (List.length c1.2.2.2.2.2 : Int)) ((([] : List Int) ++ c1.2.2.2.2.2) ++ ([(165 : Int)] : List Int)))) → (
 wfR (.one (.fr 5 (.int .u8) r4)) → (
 keys_Spell_P (c1.1, c1.2.1, c1.2.2.1, c1.2.2.2.1, c1.2.2.2.2.1, (List.take (Int.toNat (List.length c1.2.2.2.2.2 : Int)) ((([] : List Int) ++ c1.2.2.2.2.2) ++ ([(165 : Int)] : List Int)))) ∧ (
 ∀ (r5 : List Int), r5 = keys_Spell_F (c1.1, c1.2.1, c1.2.2.1, c1.2.2.2.1, c1.2.2.2.2.1, (List.take (Int.toNat (List.length c1.2.2.2.2.2 : Int)) ((([] : List Int) ++ c1.2.2.2.2.2) ++ ([(165 : Int)] : List Int)))) → (
 wfR (.one (.fr 5 (.int .u8) r5)) → (
 keys_Spell_P (c1.1, c1.2.1, c1.2.2.1, c1.2.2.2.1, c1.2.2.2.2.1, (List.take (Int.toNat (List.length c1.2.2.2.2.2 : Int)) ((([] : List Int) ++ c1.2.2.2.2.2) ++ ([(165 : Int)] : List Int)))) ∧ (
 ∀ (r6 : List Int), r6 = keys_Spell_F (c1.1, c1.2.1, c1.2.2.1, c1.2.2.2.1, c1.2.2.2.2.1, (List.take (Int.toNat (List.length c1.2.2.2.2.2 : Int)) ((([] : List Int) ++ c1.2.2.2.2.2) ++ ([(165 : Int)] : List Int)))) → (
 wfR (.one (.fr 5 (.int .u8) r6)) → (
 bif decide (0 ≤ (List.length all0 : Int) ∧ (List.length all0 : Int) ≤ (List.length ((([] : List Int) ++ all0) ++ ([(120 : Int), (120 : Int)] : List Int)) : Int)) then
 bif (!decide ((List.take (Int.toNat (List.length all0 : Int)) ((([] : List Int) ++ all0) ++ ([(120 : Int), (120 : Int)] : List Int))) = all0)) then
 K (.one (.v (.bool) false)) []
 else
 bif decide (0 ≤ (List.length all0 : Int) ∧ (List.length all0 : Int) < (List.length ((([] : List Int) ++ all0) ++ ([(120 : Int), (120 : Int)] : List Int)) : Int)) then
 bif (!decide ((rd (0 : Int) ((([] : List Int) ++ all0) ++ ([(120 : Int), (120 : Int)] : List Int)) (List.length all0 : Int)) = (120 : Int))) then
 K (.one (.v (.bool) false)) []
 else
 bif decide (0 ≤ (IntKind.wrap .i64 ((List.length all0 : Int) + (1 : Int))) ∧ (IntKind.wrap .i64 ((List.length all0 : Int) + (1 : Int))) < (List.length ((([] : List Int) ++ all0) ++ ([(120 : Int), (120 : Int)] : List Int)) : Int)) then
 bif (!decide ((rd (0 : Int) ((([] : List Int) ++ all0) ++ ([(120 : Int), (120 : Int)] : List Int)) (IntKind.wrap .i64 ((List.length all0 : Int) + (1 : Int)))) = (120 : Int))) then
 K (.one (.v (.bool) false)) []
 else
 bif (!decide ((List.take (Int.toNat (List.length c1.2.2.2.2.2 : Int)) ((([] : List Int) ++ c1.2.2.2.2.2) ++ ([(165 : Int)] : List Int))) = c1.2.2.2.2.2)) then
 K (.one (.v (.bool) false)) []
 else
 bif decide (0 ≤ (List.length c1.2.2.2.2.2 : Int) ∧ (List.length c1.2.2.2.2.2 : Int) < (List.length ((([] : List Int) ++ c1.2.2.2.2.2) ++ ([(165 : Int)] : List Int)) : Int)) then
 bif (!decide ((rd (0 : Int) ((([] : List Int) ++ c1.2.2.2.2.2) ++ ([(165 : Int)] : List Int)) (List.length c1.2.2.2.2.2 : Int)) = (165 : Int))) then
 K (.one (.v (.bool) false)) []
 else
 bif (!decide (r3 = r4)) then
 K (.one (.v (.bool) false)) []
 else
 bif (!decide (r5 = r6)) then
 K (.one (.v (.bool) false)) []
 else
 (
 (wfD ql_KeysKeeps_d0 (all0, r2.2, r3, r4, r5, r6, r4, r6, (0 : Int), c1, r2.1, ()) → ∃ n, ql_KeysKeeps_L0 (fun (all0 : List Int) (k9 : Int) (a10 : List Int) (b11 : List Int) (s12 : List Int) (t13 : List Int) (first14 : List Int) (second15 : List Int) (c3b : CmT) (p8b : CmT) => wfD ql_KeysKeeps_d0x0 (all0, k9, a10, b11, s12, t13, first14, second15, c3b, p8b, ()) → (
 (wfD ql_KeysKeeps_d1 (all0, k9, a10, b11, s12, t13, first14, second15, (0 : Int), c3b, p8b, ()) → ∃ n, ql_KeysKeeps_L1 (fun (all0 : List Int) (k9 : Int) (a10 : List Int) (b11 : List Int) (s12 : List Int) (t13 : List Int) (first14 : List Int) (second15 : List Int) (c3b : CmT) (p8b : CmT) => wfD ql_KeysKeeps_d1x2 (all0, k9, a10, b11, s12, t13, first14, second15, c3b, p8b, ()) → (
 (wfD ql_KeysKeeps_d2 (all0, k9, a10, b11, s12, t13, first14, second15, (0 : Int), c3b, p8b, ()) → ∃ n, ql_KeysKeeps_L2 (fun (all0 : List Int) (k9 : Int) (a10 : List Int) (b11 : List Int) (s12 : List Int) (t13 : List Int) (first14 : List Int) (second15 : List Int) (c3b : CmT) (p8b : CmT) => wfD ql_KeysKeeps_d2x4 (all0, k9, a10, b11, s12, t13, first14, second15, c3b, p8b, ()) → (
 keys_Parse_P all0 ∧ (
 ∀ (r7 : CmT × Int), r7 = keys_Parse_F all0 → (
 wfR (.tup [.v (.st (.pair (.int .u8) (.pair (.int .i64) (.pair (.str) (.pair (.str) (.pair (.int .u8) (.sl (.int .u8)))))))) r7.1, .v (.int .i64) r7.2]) → (
 bif (decide (b11 = first14)) then
 bif (decide (t13 = second15)) then
 bif (decide (k9 = r7.2)) then
 ∀ (r8 : Bool), r8 = qr_Same_F p8b r7.1 → (
 wfR (.one (.v (.bool) r8)) → (
 bif r8 then
 keys_Spell_P c3b ∧ (
 ∀ (r9 : List Int), r9 = keys_Spell_F c3b → (
 wfR (.one (.fr 5 (.int .u8) r9)) → (
 bif (decide (r9 = second15)) then
 K (.one (.v (.bool) (decide ((40 : Int) ≤ (IntKind.wrap .i64 ((List.length a10 : Int) + (List.length s12 : Int))))))) []
 else
 K (.one (.v (.bool) false)) [])))
 else
 K (.one (.v (.bool) false)) []))
 else
 K (.one (.v (.bool) false)) []
 else
 K (.one (.v (.bool) false)) []
 else
 K (.one (.v (.bool) false)) []))))) n all0 k9 a10 b11 s12 t13 first14 second15 (0 : Int) c3b p8b))) n all0 k9 a10 b11 s12 t13 first14 second15 (0 : Int) c3b p8b))) n all0 r2.2 r3 r4 r5 r6 r4 r6 (0 : Int) c1 r2.1)) ∧ (
 (wfD ql_KeysKeeps_d0 (all0, r2.2, r3, r4, r5, r6, r4, r6, (0 : Int), c1, r2.1, ()) → ∃ n, ql_KeysKeeps_L0 (fun (all0 : List Int) (k9 : Int) (a10 : List Int) (b11 : List Int) (s12 : List Int) (t13 : List Int) (first14 : List Int) (second15 : List Int) (c3b : CmT) (p8b : CmT) => wfD ql_KeysKeeps_d0x0 (all0, k9, a10, b11, s12, t13, first14, second15, c3b, p8b, ()) → (
 (wfD ql_KeysKeeps_d1 (all0, k9, a10, b11, s12, t13, first14, second15, (0 : Int), c3b, p8b, ()) → ∃ n, ql_KeysKeeps_L1 (fun (all0 : List Int) (k9 : Int) (a10 : List Int) (b11 : List Int) (s12 : List Int) (t13 : List Int) (first14 : List Int) (second15 : List Int) (c3b : CmT) (p8b : CmT) => wfD ql_KeysKeeps_d1x2 (all0, k9, a10, b11, s12, t13, first14, second15, c3b, p8b, ()) → (
 (wfD ql_KeysKeeps_d2 (all0, k9, a10, b11, s12, t13, first14, second15, (0 : Int), c3b, p8b, ()) → ∃ n, ql_KeysKeeps_L2 (fun (all0 : List Int) (k9 : Int) (a10 : List Int) (b11 : List Int) (s12 : List Int) (t13 : List Int) (first14 : List Int) (second15 : List Int) (c3b : CmT) (p8b : CmT) => wfD ql_KeysKeeps_d2x4 (all0, k9, a10, b11, s12, t13, first14, second15, c3b, p8b, ()) → (
 keys_Parse_P all0 ∧ (
 ∀ (r10 : CmT × Int), r10 = keys_Parse_F all0 → (
 wfR (.tup [.v (.st (.pair (.int .u8) (.pair (.int .i64) (.pair (.str) (.pair (.str) (.pair (.int .u8) (.sl (.int .u8)))))))) r10.1, .v (.int .i64) r10.2]) → (
 bif (decide (b11 = first14)) then
 bif (decide (t13 = second15)) then
 bif (decide (k9 = r10.2)) then
 ∀ (r11 : Bool), r11 = qr_Same_F p8b r10.1 → (
 wfR (.one (.v (.bool) r11)) → (
 bif r11 then
 keys_Spell_P c3b ∧ (
 ∀ (r12 : List Int), r12 = keys_Spell_F c3b → (
 wfR (.one (.fr 5 (.int .u8) r12)) → (
 bif (decide (r12 = second15)) then
 K (.one (.v (.bool) (decide ((40 : Int) ≤ (IntKind.wrap .i64 ((List.length a10 : Int) + (List.length s12 : Int))))))) []
 else
 K (.one (.v (.bool) false)) [])))
 else
 K (.one (.v (.bool) false)) []))
 else
 K (.one (.v (.bool) false)) []
 else
 K (.one (.v (.bool) false)) []
 else
 K (.one (.v (.bool) false)) []))))) n all0 k9 a10 b11 s12 t13 first14 second15 (0 : Int) c3b p8b))) n all0 k9 a10 b11 s12 t13 first14 second15 (0 : Int) c3b p8b))) n all0 r2.2 r3 r4 r5 r6 r4 r6 (0 : Int) c1 r2.1)) ∧ True
 else False
 else False
 else False
 else False)))))))))))))))
 else False
 else False
 else False
 else False
 else False
 else False))
def ql_KeysKeeps_A : List AS := [.v (.sl (.int .u8)), .v (.st (.pair (.int .u8) (.pair (.int .i64) (.pair (.str) (.pair (.str) (.pair (.int .u8) (.sl (.int .u8))))))))]
theorem ql_KeysKeeps_walk (all0 : List Int) (c1 : CmT) (K : Res → List Cell → Prop) : runF tb (getG ql_KeysKeeps_G) ql_KeysKeeps_B2 Tryd.f9 [true] (mkA ql_KeysKeeps_A (all0, c1, ())) K = ql_KeysKeeps_raw all0 c1 K := by kernel_rfl
--! law 1

def ql_KeysKeeps_R : App := runF tb (getG ql_KeysKeeps_G) ql_KeysKeeps_B2 Tryd.f9 [true]
theorem ql_KeysKeeps_ok : AppOk Tryd.prog 9 ql_KeysKeeps_R := runF_ok tb_M tb_ok ql_KeysKeeps_Gok (ql_KeysKeeps_b2) (f := 9) (fn := Tryd.f9) (by kernel_rfl) (by kernel_rfl) ql_KeysKeeps_st [true]
end Go.VE
namespace Go.VE
open Go Go.Proofs

theorem decI_20 {u : Nat} (h : u < 18446744073709551616) : (decI u).length ≤ 20 := by
  rw [decI_len]
  by_cases h0 : u = 0
  · subst h0; decide +kernel
  · exact digits20 (by omega) h

theorem appendInt_P {xs : List Int} (i : Int) (h : xs.length + 21 ≤ lim) : strconv_AppendInt_P xs i 10 := by
  show internal_strconv_AppendInt_P xs i 10
  unfold internal_strconv_AppendInt_P
  refine bif_both ⟨?_, ?_, rfl⟩ ⟨?_, rfl⟩
  · simp only [List.length_cons, List.length_nil]; omega
  · simp only [List.length_append, List.length_cons, List.length_nil]; omega
  · omega

theorem appendInt_len {xs : List Int} {i : Int} (h0 : 0 ≤ i) (h1 : i ≤ 9223372036854775807) : strconv_AppendInt_F xs i 10 = xs ++ decI i.toNat := by
  show internal_strconv_AppendInt_F xs i 10 = _
  unfold internal_strconv_AppendInt_F
  have e : decide (i < 0) = false := by rw [decide_eq_false_iff_not]; omega
  rw [wrap_u64 (n := i) (by omega) (by omega), e]
  rfl

theorem name_len (c : Cmd) : (keys_Name_F c).length ≤ c.2.2.1.length + c.2.2.2.1.length + 1 := by
  unfold keys_Name_F
  cases keys_is_F c with
  | false => simp
  | true =>
    simp only [Bool.not_true, cond_false]
    cases (!decide (c.2.2.1 = [])) with
    | true =>
      simp only [cond_true]
      cases decide (c.2.2.2.1 = c.2.2.1) with
      | true => simp only [cond_true, List.length_append, List.length_cons, List.length_nil]; omega
      | false =>
        simp only [cond_false]
        cases keys_wants_F c with
        | true => simp only [cond_true, List.length_append, List.length_cons, List.length_nil]; omega
        | false => simp only [cond_false, List.length_append]; omega
    | false =>
      simp only [cond_false]
      cases keys_wants_F c with
      | true => simp only [cond_true, List.length_append, List.length_cons, List.length_nil]; omega
      | false => simp only [cond_false, List.length_append]; omega

theorem is_cnt {c : Cmd} (h : keys_is_F c = true) : 0 ≤ c.2.1 ∧ c.2.1 ≤ 9999 := by
  unfold keys_is_F at h
  cases hv : bank_Valid_F c.1 with
  | false => rw [hv] at h; cases h
  | true =>
    rw [hv] at h
    simp only [Bool.not_true, cond_false] at h
    by_cases h1 : c.2.1 < 0
    · have e : decide (c.2.1 < 0) = true := by simpa using h1
      rw [e] at h; cases h
    · have e : decide (c.2.1 < 0) = false := by simpa using h1
      rw [e] at h
      simp only [cond_false] at h
      by_cases h2 : 9999 < c.2.1
      · have e : decide (9999 < c.2.1) = true := by simpa using h2
        rw [e] at h; cases h
      · omega

theorem spellJ0 {p : List Int} {c : Cmd} (hp : p.length ≤ 2) (h1 : c.2.2.1.length ≤ 1048576) (h2 : c.2.2.2.1.length ≤ 1048576) (hc : 0 ≤ c.2.1 ∧ c.2.1 ≤ 9999) : keys_Spell_J0_P p c ∧ (keys_Spell_J0_F p c).length ≤ 3000000 := by
  have hn := name_len c
  have hd : (decI c.2.1.toNat).length ≤ 20 := decI_20 (by omega)
  have e := appendInt_len (xs := p) hc.1 (by omega)
  unfold keys_Spell_J0_P keys_Spell_J0_F
  rw [e]
  constructor
  · refine bif_both ⟨appendInt_P _ (by unfold lim; omega), name_P c (by omega) (by omega), ?_⟩ ⟨name_P c (by omega) (by omega), ?_⟩
    · rw [List.length_append]; unfold lim; omega
    · unfold lim; omega
  · cases (!decide (c.2.1 = 0)) with
    | true => simp only [cond_true, List.length_append]; omega
    | false => simp only [cond_false, List.length_append]; omega

theorem spell_P {c : Cmd} (h1 : c.2.2.1.length ≤ 1048576) (h2 : c.2.2.2.1.length ≤ 1048576) : keys_Spell_P c ∧ (keys_Spell_F c).length ≤ 3000000 := by
  unfold keys_Spell_P keys_Spell_F
  cases hi : keys_is_F c with
  | false => exact ⟨⟨is_P c, by trivial⟩, by simp⟩
  | true =>
    have hc := is_cnt hi
    simp only [Bool.not_true, cond_false]
    have a := spellJ0 (p := ([] : List Int) ++ [34, c.1]) (by simp) h1 h2 hc
    have b := spellJ0 (p := ([] : List Int)) (by simp) h1 h2 hc
    refine ⟨⟨is_P c, bif_both ⟨by simp only [List.length_cons, List.length_nil, lim]; omega, a.1⟩ b.1⟩, ?_⟩
    cases (!decide (c.1 = 0)) with
    | true => exact a.2
    | false => exact b.2

/-! ### the loops -/
theorem keep0 {kx : List Int → Int → List Int → List Int → List Int → List Int → List Int → List Int → Cmd → Cmd → Prop} {all : List Int} {k : Int} {b s t f g : List Int} {c p : Cmd} {L : Nat} (hL : L ≤ 9000000)
    (hk : ∀ a : List Int, a.length = L → kx all k a b s t f g c p) : ∀ (m i : Nat) (a : List Int), a.length = L → i ≤ L → L - i < m → ql_KeysKeeps_L0 kx m all k a b s t f g (i : Int) c p
  | 0, _, _, _, _, h => absurd h (Nat.not_lt_zero _)
  | m + 1, i, a, ha, hi, hm => by
    intro _
    unfold ql_KeysKeeps_T0
    refine brn (fun hlt => asrt (by omega) ?_) (fun _ => hk a ha)
    rw [wrap_i64 (by omega) (by omega), show (i : Int) + 1 = ((i + 1 : Nat) : Int) by omega]
    exact keep0 hL hk m (i + 1) _ (by simpa using ha) (by omega) (by omega)

theorem keep1 {kx : List Int → Int → List Int → List Int → List Int → List Int → List Int → List Int → Cmd → Cmd → Prop} {all : List Int} {k : Int} {a b t f g : List Int} {c p : Cmd} {L : Nat} (hL : L ≤ 9000000)
    (hk : ∀ s : List Int, s.length = L → kx all k a b s t f g c p) : ∀ (m i : Nat) (s : List Int), s.length = L → i ≤ L → L - i < m → ql_KeysKeeps_L1 kx m all k a b s t f g (i : Int) c p
  | 0, _, _, _, _, h => absurd h (Nat.not_lt_zero _)
  | m + 1, i, s, hs, hi, hm => by
    intro _
    unfold ql_KeysKeeps_T1
    refine brn (fun hlt => asrt (by omega) ?_) (fun _ => hk s hs)
    rw [wrap_i64 (by omega) (by omega), show (i : Int) + 1 = ((i + 1 : Nat) : Int) by omega]
    exact keep1 hL hk m (i + 1) _ (by simpa using hs) (by omega) (by omega)

theorem keep2 {kx : List Int → Int → List Int → List Int → List Int → List Int → List Int → List Int → Cmd → Cmd → Prop} {all : List Int} {k : Int} {b t f g : List Int} {c p : Cmd} {L M : Nat} (hL : L ≤ 9000000) (hM : M ≤ 9000000)
    (hk : ∀ a s : List Int, a.length = L + 20 → s.length = M + 20 → kx all k a b s t f g c p) : ∀ (m i : Nat) (a s : List Int), a.length = L + i → s.length = M + i → i ≤ 20 → 20 - i < m → ql_KeysKeeps_L2 kx m all k a b s t f g (i : Int) c p
  | 0, _, _, _, _, _, _, h => absurd h (Nat.not_lt_zero _)
  | m + 1, i, a, s, ha, hs, hi, hm => by
    intro _
    unfold ql_KeysKeeps_T2
    refine brn (fun hlt => asrt (by simp only [List.length_cons, List.length_nil, lim]; omega) (asrt (by simp only [List.length_cons, List.length_nil, lim]; omega) ?_)) (fun hge => hk a s (by omega) (by omega))
    rw [wrap_i64 (by omega) (by omega), show (i : Int) + 1 = ((i + 1 : Nat) : Int) by omega]
    exact keep2 hL hM hk m (i + 1) _ _ (by rw [List.length_append, ha]; simp; omega) (by rw [List.length_append, hs]; simp; omega) (by omega) (by omega)

theorem same_self' (c : Cmd) : qr_Same_F c c = true := by
  unfold qr_Same_F
  simp

set_option maxRecDepth 20000 in
theorem keeps_raw {all : List Int} {c : Cmd} (ha : all.length ≤ 1048576) (h255 : ∀ x ∈ all, 0 ≤ x ∧ x ≤ 255) (h1 : c.2.2.1.length ≤ 1048576) (h2 : c.2.2.2.1.length ≤ 1048576) (h3 : c.2.2.2.2.2.length ≤ 1048576) : ql_KeysKeeps_raw all c yesK := by
  unfold ql_KeysKeeps_raw
  intro r1 hr1 _
  subst hr1
  refine brb (fun h => by cases h) (fun _ => ?_)
  have eA : ([] : List Int) ++ all = all := rfl
  have eL : ([] : List Int) ++ c.2.2.2.2.2 = c.2.2.2.2.2 := rfl
  have tA : List.take (Int.toNat (List.length all : Int)) (all ++ [120, 120]) = all := by rw [Int.toNat_natCast]; simp
  have tL : List.take (Int.toNat (List.length c.2.2.2.2.2 : Int)) (c.2.2.2.2.2 ++ [165]) = c.2.2.2.2.2 := by rw [Int.toNat_natCast]; simp
  have rA0 : rd (0 : Int) (all ++ [120, 120]) (List.length all : Int) = 120 := by rw [rd_nat _ _ _ (by simp)]; simp
  have rA1 : rd (0 : Int) (all ++ [120, 120]) ((List.length all : Int) + 1) = 120 := by
    rw [show (List.length all : Int) + 1 = ((List.length all + 1 : Nat) : Int) by omega, rd_nat _ _ _ (by simp)]; simp
  have rL : rd (0 : Int) (c.2.2.2.2.2 ++ [165]) (List.length c.2.2.2.2.2 : Int) = 165 := by rw [rd_nat _ _ _ (by simp)]; simp
  have lA : (all ++ [120, 120]).length = all.length + 2 := by simp
  have lL : (c.2.2.2.2.2 ++ [165]).length = c.2.2.2.2.2.length + 1 := by simp
  have w1 : IntKind.wrap .i64 ((List.length all : Int) + 1) = (List.length all : Int) + 1 := wrap_i64 (by omega) (by omega)
  have l2 : List.length ([(120 : Int), (120 : Int)] : List Int) = 2 := rfl
  have l1 : List.length ([(165 : Int)] : List Int) = 1 := rfl
  have l0 : List.length ([] : List Int) = 0 := rfl
  have cc : (c.1, c.2.1, c.2.2.1, c.2.2.2.1, c.2.2.2.2.1, c.2.2.2.2.2) = c := rfl
  simp only [eA, eL, tA, tL, rA0, rA1, rL, lA, lL, w1, l2, l1, l0, cc]
  have L0 : (lim : Nat) = 1099511627776 := rfl
  have pP := parse_P (ks := all) (by omega) h255
  have pN := name_P c (by omega) (by omega)
  obtain ⟨pS, lS⟩ := spell_P h1 h2
  have lN := name_len c
  refine asrt (by omega) (asrt (by omega) (asrt (by omega) (asrt (by omega) (asrt (by omega) (asrt (by omega) ⟨pP, fun r2 h_2 _ => ⟨pN, fun r3 h_3 _ => ⟨pN, fun r4 h_4 _ => ⟨pS, fun r5 h_5 _ => ⟨pS, fun r6 h_6 _ => ?_⟩⟩⟩⟩⟩)))))
  refine asrt (by omega) (brb (fun h => by simp at h) (fun _ => asrt (by omega) (brb (fun h => by simp at h) (fun _ => asrt (by omega) (brb (fun h => by simp at h) (fun _ => brb (fun h => by simp at h) (fun _ => asrt (by omega) (brb (fun h => by simp at h) (fun _ => ?_)))))))))
  subst h_2 h_3 h_4 h_5 h_6
  refine brb (fun h => by simp at h) (fun _ => brb (fun h => by simp at h) (fun _ => ?_))
  have main : (wfD ql_KeysKeeps_d0 (all, (keys_Parse_F all).2, keys_Name_F c, keys_Name_F c, keys_Spell_F c, keys_Spell_F c, keys_Name_F c, keys_Spell_F c, (0 : Int), c, (keys_Parse_F all).1, ()) → ∃ n, ql_KeysKeeps_L0 (fun (all0 : List Int) (k9 : Int) (a10 : List Int) (b11 : List Int) (s12 : List Int) (t13 : List Int) (first14 : List Int) (second15 : List Int) (c3b : Cmd) (p8b : Cmd) => wfD ql_KeysKeeps_d0x0 (all0, k9, a10, b11, s12, t13, first14, second15, c3b, p8b, ()) → (
                  (wfD ql_KeysKeeps_d1 (all0, k9, a10, b11, s12, t13, first14, second15, (0 : Int), c3b, p8b, ()) → ∃ n, ql_KeysKeeps_L1 (fun (all0 : List Int) (k9 : Int) (a10 : List Int) (b11 : List Int) (s12 : List Int) (t13 : List Int) (first14 : List Int) (second15 : List Int) (c3b : Cmd) (p8b : Cmd) => wfD ql_KeysKeeps_d1x2 (all0, k9, a10, b11, s12, t13, first14, second15, c3b, p8b, ()) → (
                      (wfD ql_KeysKeeps_d2 (all0, k9, a10, b11, s12, t13, first14, second15, (0 : Int), c3b, p8b, ()) → ∃ n, ql_KeysKeeps_L2 (fun (all0 : List Int) (k9 : Int) (a10 : List Int) (b11 : List Int) (s12 : List Int) (t13 : List Int) (first14 : List Int) (second15 : List Int) (c3b : Cmd) (p8b : Cmd) => wfD ql_KeysKeeps_d2x4 (all0, k9, a10, b11, s12, t13, first14, second15, c3b, p8b, ()) → (
                          keys_Parse_P all0 ∧ (
                          ∀ (r7 : Cmd × Int), r7 = keys_Parse_F all0 → (
                          wfR (.tup [.v (.st (.pair (.int .u8) (.pair (.int .i64) (.pair (.str) (.pair (.str) (.pair (.int .u8) (.sl (.int .u8)))))))) r7.1, .v (.int .i64) r7.2]) → (
                          bif (decide (b11 = first14)) then
                            bif (decide (t13 = second15)) then
                              bif (decide (k9 = r7.2)) then
                                ∀ (r8 : Bool), r8 = qr_Same_F p8b r7.1 → (
                                wfR (.one (.v (.bool) r8)) → (
                                bif r8 then
                                  keys_Spell_P c3b ∧ (
                                  ∀ (r9 : List Int), r9 = keys_Spell_F c3b → (
                                  wfR (.one (.fr 5 (.int .u8) r9)) → (
                                  bif (decide (r9 = second15)) then
                                    yesK (.one (.v (.bool) (decide ((40 : Int) ≤ (IntKind.wrap .i64 ((List.length a10 : Int) + (List.length s12 : Int))))))) []
                                  else
                                    yesK (.one (.v (.bool) false)) [])))
                                else
                                  yesK (.one (.v (.bool) false)) []))
                              else
                                yesK (.one (.v (.bool) false)) []
                            else
                              yesK (.one (.v (.bool) false)) []
                          else
                            yesK (.one (.v (.bool) false)) []))))) n all0 k9 a10 b11 s12 t13 first14 second15 (0 : Int) c3b p8b))) n all0 k9 a10 b11 s12 t13 first14 second15 (0 : Int) c3b p8b))) n all (keys_Parse_F all).2 (keys_Name_F c) (keys_Name_F c) (keys_Spell_F c) (keys_Spell_F c) (keys_Name_F c) (keys_Spell_F c) (0 : Int) c (keys_Parse_F all).1) := by
    intro _
    refine ⟨(keys_Name_F c).length + 1, keep0 (i := 0) (L := (keys_Name_F c).length) (by omega) (fun a hal _ _ => ?_) _ _ rfl (Nat.zero_le _) (by omega)⟩
    refine ⟨(keys_Spell_F c).length + 1, keep1 (i := 0) (L := (keys_Spell_F c).length) (by omega) (fun s hsl _ _ => ?_) _ _ rfl (Nat.zero_le _) (by omega)⟩
    refine ⟨21, keep2 (i := 0) (L := (keys_Name_F c).length) (M := (keys_Spell_F c).length) (by omega) (by omega) (fun a s hal hsl _ => ?_) 21 _ _ hal hsl (by omega) (by omega)⟩
    refine ⟨pP, fun r7 h7 _ => ?_⟩
    subst h7
    refine brn (fun _ => brn (fun _ => brn (fun _ => fun r8 h8 _ => ?_) (fun h => absurd rfl h)) (fun h => absurd rfl h)) (fun h => absurd rfl h)
    rw [same_self'] at h8
    subst h8
    refine ⟨pS, fun r9 h9 _ => brn (fun _ => ?_) (fun h => absurd h9 h)⟩
    rw [wrap_i64 (by omega) (by omega)]
    show _ = _
    have : decide ((40 : Int) ≤ (a.length : Int) + (s.length : Int)) = true := by
      rw [decide_eq_true_eq]; omega
    rw [this]
  exact ⟨main, main, trivial⟩

set_option maxRecDepth 100000 in
theorem keeps_law (v : valsA ql_KeysKeeps_A) (hw : wfA ql_KeysKeeps_A v) (hb : bulkA ql_KeysKeeps_A v ≤ 1048576) : ql_KeysKeeps_R (mkA ql_KeysKeeps_A v) yesK := by
  obtain ⟨all, c, ⟨⟩⟩ := v
  refine (ql_KeysKeeps_walk all c yesK).mpr ?_
  obtain ⟨h1, _⟩ := hw
  obtain ⟨r, n, o, k, a, l⟩ := c
  have hb' : bulk (.sl (.int .u8)) all + ((1 + (1 + ((List.length o + 1) + ((List.length k + 1) + (1 + bulk (.sl (.int .u8)) l))))) + 0) ≤ 1048576 := hb
  rw [bulk_bytes, bulk_bytes] at hb'
  exact keeps_raw (by omega) h1.2 (by show List.length o ≤ _; omega) (by show List.length k ≤ _; omega) (by show List.length l ≤ _; omega)
end Go.VE
namespace Go.VE
open Go Go.Proofs

theorem one_iff {k l : List Int} : keys_one_F k l = true ↔ ∃ b ∈ l, k = [b] := by
  unfold keys_one_F
  match k with
  | [] => simp
  | [b] =>
    have e : decide (((List.length [b] : Nat) : Int) = 1) = true := rfl
    rw [e]
    show strings_Contains_F l [b] = true ↔ _
    unfold strings_Contains_F strings_Index_F internal_stringslite_Index_F
    have e0 : decide (((List.length [b] : Nat) : Int) = 0) = false := rfl
    rw [e0]
    simp only [cond_false]
    by_cases hl : [b] = l
    · subst hl
      simp
    · have e2 : decide ([b] = l) = false := by simpa using hl
      rw [e2, e]
      simp only [cond_false, cond_true, decide_eq_true_eq]
      show 0 ≤ idxB l b ↔ _
      rw [show (0 ≤ idxB l b ↔ b ∈ l) from idx_mem (l := l) (b := b)]
      simp
  | b :: d :: r =>
    have e : decide (((List.length (b :: d :: r) : Nat) : Int) = 1) = false := by rw [decide_eq_false_iff_not]; simp only [List.length_cons]; omega
    rw [e]
    simp

def Motion (k : List Int) : Prop := k = [8] ∨ k = [13] ∨ k = [47] ∨ k = [63] ∨ k = [103, 103] ∨ k = [103, 101] ∨ k = [103, 69] ∨ (∃ b ∈ singlesL, k = [b]) ∨ ∃ b ∈ markedL, k = [b]

theorem motion_iff {k : List Int} : keys_motion_F k = true ↔ Motion k := by
  have J : keys_motion_J1_F k = true ↔ (∃ b ∈ singlesL, k = [b]) ∨ ∃ b ∈ markedL, k = [b] := by
    rw [← one_iff, ← one_iff]
    unfold keys_motion_J1_F
    show (bif keys_one_F k singlesL then true else keys_one_F k markedL) = true ↔ _
    cases keys_one_F k singlesL <;> simp
  have K : ∀ x : Bool, (Sum.elim (fun q0r : Bool => q0r) (fun q0n : List Int => keys_motion_J1_F q0n) (keys_motion_J0_F k x)) = (x || keys_motion_J1_F k) := fun x => by cases x <;> rfl
  have e : keys_motion_F k = (decide (k = [8]) || decide (k = [13]) || decide (k = [47]) || decide (k = [63]) || decide (k = [103, 103]) || decide (k = [103, 101]) || (decide (k = [103, 69]) || keys_motion_J1_F k)) := by
    have e2 : keys_motion_F k = (bif decide (k = [8]) then (Sum.elim (fun q0r : Bool => q0r) (fun q0n : List Int => keys_motion_J1_F q0n) (keys_motion_J0_F k (decide (k = [8]))))
      else bif decide (k = [13]) then (Sum.elim (fun q0r : Bool => q0r) (fun q0n : List Int => keys_motion_J1_F q0n) (keys_motion_J0_F k (decide (k = [13]))))
      else bif decide (k = [47]) then (Sum.elim (fun q0r : Bool => q0r) (fun q0n : List Int => keys_motion_J1_F q0n) (keys_motion_J0_F k (decide (k = [47]))))
      else bif decide (k = [63]) then (Sum.elim (fun q0r : Bool => q0r) (fun q0n : List Int => keys_motion_J1_F q0n) (keys_motion_J0_F k (decide (k = [63]))))
      else bif decide (k = [103, 103]) then (Sum.elim (fun q0r : Bool => q0r) (fun q0n : List Int => keys_motion_J1_F q0n) (keys_motion_J0_F k (decide (k = [103, 103]))))
      else bif decide (k = [103, 101]) then (Sum.elim (fun q0r : Bool => q0r) (fun q0n : List Int => keys_motion_J1_F q0n) (keys_motion_J0_F k (decide (k = [103, 101]))))
      else (Sum.elim (fun q0r : Bool => q0r) (fun q0n : List Int => keys_motion_J1_F q0n) (keys_motion_J0_F k (decide (k = [103, 69]))))) := rfl
    rw [e2]
    simp only [K]
    cases decide (k = [8]) <;> cases decide (k = [13]) <;> cases decide (k = [47]) <;> cases decide (k = [63]) <;> cases decide (k = [103, 103]) <;> cases decide (k = [103, 101]) <;> rfl
  rw [e]
  simp only [Bool.or_eq_true, decide_eq_true_eq, J]
  unfold Motion
  constructor
  · rintro ((((((h | h) | h) | h) | h) | h) | h | h | h)
    · exact .inl h
    · exact .inr (.inl h)
    · exact .inr (.inr (.inl h))
    · exact .inr (.inr (.inr (.inl h)))
    · exact .inr (.inr (.inr (.inr (.inl h))))
    · exact .inr (.inr (.inr (.inr (.inr (.inl h)))))
    · exact .inr (.inr (.inr (.inr (.inr (.inr (.inl h))))))
    · exact .inr (.inr (.inr (.inr (.inr (.inr (.inr (.inl h)))))))
    · exact .inr (.inr (.inr (.inr (.inr (.inr (.inr (.inr h)))))))
  · rintro (h | h | h | h | h | h | h | h | h)
    · exact .inl (.inl (.inl (.inl (.inl (.inl h)))))
    · exact .inl (.inl (.inl (.inl (.inl (.inr h)))))
    · exact .inl (.inl (.inl (.inl (.inr h))))
    · exact .inl (.inl (.inl (.inr h)))
    · exact .inl (.inl (.inr h))
    · exact .inl (.inr h)
    · exact .inr (.inl h)
    · exact .inr (.inr (.inl h))
    · exact .inr (.inr (.inr h))

def WantsA (c : Cmd) : Prop := (∃ b ∈ markedL, c.2.2.2.1 = [b]) ∨ c.2.2.1 = [] ∧ ∃ b ∈ ([114, 109] : List Int), c.2.2.2.1 = [b]

theorem wants_iff {c : Cmd} : keys_wants_F c = true ↔ WantsA c := by
  unfold WantsA
  rw [← one_iff, ← one_iff]
  unfold keys_wants_F
  show (bif keys_one_F c.2.2.2.1 markedL then true else bif decide (c.2.2.1 = []) then keys_one_F c.2.2.2.1 [114, 109] else false) = true ↔ _
  cases keys_one_F c.2.2.2.1 markedL
  · by_cases h : c.2.2.1 = []
    · have e : decide (c.2.2.1 = []) = true := by simpa using h
      rw [e]; simp [h]
    · have e : decide (c.2.2.1 = []) = false := by simpa using h
      rw [e]; simp [h]
  · simp

def Object (k : List Int) : Prop := ∃ a d, (a = 105 ∨ a = 97) ∧ d ∈ objectsL ∧ k = [a, d]
def Plain0 (k : List Int) : Prop := (∃ b ∈ plainsL, k = [b]) ∨ (∃ b ∈ ([114, 109] : List Int), k = [b]) ∨ k = [58] ∨ k = [103, 45] ∨ k = [103, 43]
def opList : List (List Int) := [[100], [99], [121], [62], [60], [103, 126], [103, 117], [103, 85]]
def Known (c : Cmd) : Prop := c.2.2.1 = [] ∧ (Motion c.2.2.2.1 ∨ Plain0 c.2.2.2.1) ∨ c.2.2.1 ∈ opList ∧ (c.2.2.2.1 = c.2.2.1 ∨ Object c.2.2.2.1 ∨ Motion c.2.2.2.1)

theorem knownJ0 (x : Bool) (c : Cmd) : (Sum.elim (fun q : Bool => q) (fun _ : Unit => keys_known_J1_F) (keys_known_J0_F x c)) = true ↔ x = true ∧ (c.2.2.2.1 = c.2.2.1 ∨ Object c.2.2.2.1 ∨ Motion c.2.2.2.1) := by
  cases x with
  | false => simp [keys_known_J0_F, keys_known_J1_F]
  | true =>
    simp only [true_and]
    unfold keys_known_J0_F
    simp only [cond_true]
    by_cases h2 : (c.2.2.2.1.length : Int) = 2
    · have e : decide ((c.2.2.2.1.length : Int) = 2) = true := by simpa using h2
      rw [e]
      simp only [cond_true]
      obtain ⟨a, d, hk⟩ : ∃ a d, c.2.2.2.1 = [a, d] := by
        match hh : c.2.2.2.1, h2 with
        | [a, d], _ => exact ⟨a, d, rfl⟩
      have hrd : rd (0 : Int) c.2.2.2.1 0 = a := by rw [hk]; rfl
      have hdr : List.drop (Int.toNat 1) c.2.2.2.1 = [d] := by rw [hk]; rfl
      have ho : Object c.2.2.2.1 ↔ (a = 105 ∨ a = 97) ∧ d ∈ objectsL := by
        rw [hk]
        constructor
        · rintro ⟨a', d', h1, h3, h4⟩
          simp at h4
          obtain ⟨rfl, rfl⟩ := h4
          exact ⟨h1, h3⟩
        · rintro ⟨h1, h3⟩
          exact ⟨a, d, h1, h3, rfl⟩
      have h1 : keys_one_F [d] objectsL = true ↔ d ∈ objectsL := by rw [one_iff]; simp
      have key : ∀ y : Bool, (y = true ↔ d ∈ objectsL) → (Sum.elim (fun q : Bool => q) (fun _ : Unit => keys_known_J1_F) (bif decide (c.2.2.2.1 = c.2.2.1) then Sum.inl true else bif y then Sum.inl true else Sum.inl (keys_motion_F c.2.2.2.1)) = true ↔ c.2.2.2.1 = c.2.2.1 ∨ d ∈ objectsL ∨ Motion c.2.2.2.1) := fun y hy => by
        rw [← motion_iff, ← hy]
        by_cases hc : c.2.2.2.1 = c.2.2.1
        · simp [hc]
        · have e3 : decide (c.2.2.2.1 = c.2.2.1) = false := by simpa using hc
          rw [e3]
          cases y <;> simp [hc]
      rw [hrd, hdr, ho]
      by_cases ha : a = 105
      · have e4 : decide (a = 105) = true := by simpa using ha
        rw [e4]
        refine (key _ h1).trans ?_
        simp [ha]
      · have e4 : decide (a = 105) = false := by simpa using ha
        rw [e4]
        simp only [cond_false]
        by_cases hb : a = 97
        · have e5 : decide (a = 97) = true := by simpa using hb
          rw [e5]
          refine (key _ h1).trans ?_
          simp [hb]
        · have e5 : decide (a = 97) = false := by simpa using hb
          rw [e5]
          simp only [cond_false]
          by_cases hc : c.2.2.2.1 = c.2.2.1
          · simp [hc]
          · have e3 : decide (c.2.2.2.1 = c.2.2.1) = false := by simpa using hc
            rw [e3]
            simp [hc, ha, hb, motion_iff]
    · have e : decide ((c.2.2.2.1.length : Int) = 2) = false := by simpa using h2
      rw [e]
      simp only [cond_false]
      have ho : ¬ Object c.2.2.2.1 := by
        rintro ⟨a, d, _, _, hk⟩
        rw [hk] at h2; exact h2 rfl
      by_cases hc : c.2.2.2.1 = c.2.2.1
      · simp [hc]
      · have e3 : decide (c.2.2.2.1 = c.2.2.1) = false := by simpa using hc
        rw [e3]
        simp [hc, ho, motion_iff]

theorem known_iff {c : Cmd} : keys_known_F c = true ↔ Known c := by
  have e : keys_known_F c = bif decide (c.2.2.1 = []) then
        (bif keys_motion_F c.2.2.2.1 then true else bif keys_one_F c.2.2.2.1 plainsL then true else bif keys_one_F c.2.2.2.1 [114, 109] then true else bif decide (c.2.2.2.1 = [58]) then true else bif decide (c.2.2.2.1 = [103, 45]) then true else decide (c.2.2.2.1 = [103, 43]))
      else bif decide (c.2.2.1 = [100]) then Sum.elim (fun q : Bool => q) (fun _ : Unit => keys_known_J1_F) (keys_known_J0_F (decide (c.2.2.1 = [100])) c)
      else bif decide (c.2.2.1 = [99]) then Sum.elim (fun q : Bool => q) (fun _ : Unit => keys_known_J1_F) (keys_known_J0_F (decide (c.2.2.1 = [99])) c)
      else bif decide (c.2.2.1 = [121]) then Sum.elim (fun q : Bool => q) (fun _ : Unit => keys_known_J1_F) (keys_known_J0_F (decide (c.2.2.1 = [121])) c)
      else bif decide (c.2.2.1 = [62]) then Sum.elim (fun q : Bool => q) (fun _ : Unit => keys_known_J1_F) (keys_known_J0_F (decide (c.2.2.1 = [62])) c)
      else bif decide (c.2.2.1 = [60]) then Sum.elim (fun q : Bool => q) (fun _ : Unit => keys_known_J1_F) (keys_known_J0_F (decide (c.2.2.1 = [60])) c)
      else bif decide (c.2.2.1 = [103, 126]) then Sum.elim (fun q : Bool => q) (fun _ : Unit => keys_known_J1_F) (keys_known_J0_F (decide (c.2.2.1 = [103, 126])) c)
      else bif decide (c.2.2.1 = [103, 117]) then Sum.elim (fun q : Bool => q) (fun _ : Unit => keys_known_J1_F) (keys_known_J0_F (decide (c.2.2.1 = [103, 117])) c)
      else Sum.elim (fun q : Bool => q) (fun _ : Unit => keys_known_J1_F) (keys_known_J0_F (decide (c.2.2.1 = [103, 85])) c) := rfl
  rw [e]
  unfold Known
  simp only [Bool.cond_decide]
  by_cases h0 : c.2.2.1 = []
  · rw [if_pos h0]
    have hno : ¬ (c.2.2.1 ∈ opList) := by rw [h0]; decide
    unfold Plain0
    rw [← motion_iff, ← one_iff, ← one_iff]
    cases keys_motion_F c.2.2.2.1 <;> cases keys_one_F c.2.2.2.1 plainsL <;> cases keys_one_F c.2.2.2.1 [114, 109] <;> simp [h0, hno]
    all_goals first | (by_cases q1 : c.2.2.2.1 = [58] <;> by_cases q2 : c.2.2.2.1 = [103, 45] <;> simp_all) | skip
  · rw [if_neg h0]
    have side : ∀ o : List Int, c.2.2.1 = o → o ∈ opList → ((Sum.elim (fun q : Bool => q) (fun _ : Unit => keys_known_J1_F) (keys_known_J0_F (decide (c.2.2.1 = o)) c) = true) ↔ (c.2.2.1 = [] ∧ (Motion c.2.2.2.1 ∨ Plain0 c.2.2.2.1) ∨ c.2.2.1 ∈ opList ∧ (c.2.2.2.1 = c.2.2.1 ∨ Object c.2.2.2.1 ∨ Motion c.2.2.2.1))) := fun o ho hm => by
      rw [knownJ0]
      have hin : c.2.2.1 ∈ opList := by rw [ho]; exact hm
      constructor
      · rintro ⟨_, h⟩; exact .inr ⟨hin, h⟩
      · rintro (⟨h, _⟩ | ⟨_, h⟩)
        · exact absurd h h0
        · exact ⟨by simpa using ho, h⟩
    by_cases h1 : c.2.2.1 = [100]
    · rw [if_pos h1]; exact side _ h1 (by decide)
    rw [if_neg h1]
    by_cases h2 : c.2.2.1 = [99]
    · rw [if_pos h2]; exact side _ h2 (by decide)
    rw [if_neg h2]
    by_cases h3 : c.2.2.1 = [121]
    · rw [if_pos h3]; exact side _ h3 (by decide)
    rw [if_neg h3]
    by_cases h4 : c.2.2.1 = [62]
    · rw [if_pos h4]; exact side _ h4 (by decide)
    rw [if_neg h4]
    by_cases h5 : c.2.2.1 = [60]
    · rw [if_pos h5]; exact side _ h5 (by decide)
    rw [if_neg h5]
    by_cases h6 : c.2.2.1 = [103, 126]
    · rw [if_pos h6]; exact side _ h6 (by decide)
    rw [if_neg h6]
    by_cases h7 : c.2.2.1 = [103, 117]
    · rw [if_pos h7]; exact side _ h7 (by decide)
    rw [if_neg h7]
    by_cases h8 : c.2.2.1 = [103, 85]
    · exact side _ h8 (by decide)
    · rw [knownJ0]
      have : ¬ c.2.2.1 ∈ opList := by simp [opList, h1, h2, h3, h4, h5, h6, h7, h8]
      simp [h0, this, h8]
end Go.VE
namespace Go.VE
open Go Go.Proofs

/-! ### is -/
def isB (v kn w n1 n2 a27 a0 o0 k48 cp l0 k47 k63 k58 : Bool) : Bool :=
  let r1 : Bool := v
  bif (!r1) then
    false
  else
    bif n1 then
      false
    else
      bif n2 then
        false
      else
        let r2 : Bool := kn
        bif (!r2) then
          false
        else
          let r3 : Bool := w
          bif r3 then
            bif a27 then
              false
            else
              let r4 : Bool := w
              bif (!r4) then
                bif (!a0) then
                  false
                else
                  bif o0 then
                    bif k48 then
                      bif cp then
                        false
                      else
                        bif l0 then
                          true
                        else
                          bif k47 then
                            true
                          else
                            bif k63 then
                              true
                            else
                              k58
                    else
                      bif l0 then
                        true
                      else
                        bif k47 then
                          true
                        else
                          bif k63 then
                            true
                          else
                            k58
                  else
                    bif l0 then
                      true
                    else
                      bif k47 then
                        true
                      else
                        bif k63 then
                          true
                        else
                          k58
              else
                bif o0 then
                  bif k48 then
                    bif cp then
                      false
                    else
                      bif l0 then
                        true
                      else
                        bif k47 then
                          true
                        else
                          bif k63 then
                            true
                          else
                            k58
                  else
                    bif l0 then
                      true
                    else
                      bif k47 then
                        true
                      else
                        bif k63 then
                          true
                        else
                          k58
                else
                  bif l0 then
                    true
                  else
                    bif k47 then
                      true
                    else
                      bif k63 then
                        true
                      else
                        k58
          else
            let r5 : Bool := w
            bif (!r5) then
              bif (!a0) then
                false
              else
                bif o0 then
                  bif k48 then
                    bif cp then
                      false
                    else
                      bif l0 then
                        true
                      else
                        bif k47 then
                          true
                        else
                          bif k63 then
                            true
                          else
                            k58
                  else
                    bif l0 then
                      true
                    else
                      bif k47 then
                        true
                      else
                        bif k63 then
                          true
                        else
                          k58
                else
                  bif l0 then
                    true
                  else
                    bif k47 then
                      true
                    else
                      bif k63 then
                        true
                      else
                        k58
            else
              bif o0 then
                bif k48 then
                  bif cp then
                    false
                  else
                    bif l0 then
                      true
                    else
                      bif k47 then
                        true
                      else
                        bif k63 then
                          true
                        else
                          k58
                else
                  bif l0 then
                    true
                  else
                    bif k47 then
                      true
                    else
                      bif k63 then
                        true
                      else
                        k58
              else
                bif l0 then
                  true
                else
                  bif k47 then
                    true
                  else
                    bif k63 then
                      true
                    else
                      k58
theorem isB_eq : ∀ (v kn w n1 n2 a27 a0 o0 k48 cp l0 k47 k63 k58 : Bool), isB v kn w n1 n2 a27 a0 o0 k48 cp l0 k47 k63 k58 = (v && !n1 && !n2 && kn && (bif w then !a27 else a0) && !(o0 && k48 && cp) && (l0 || k47 || k63 || k58)) := by decide +kernel
def Is (c : Cmd) : Prop := bank_Valid_F c.1 = true ∧ (0 ≤ c.2.1 ∧ c.2.1 ≤ 9999) ∧ Known c ∧ (WantsA c → c.2.2.2.2.1 ≠ 27) ∧ (¬ WantsA c → c.2.2.2.2.1 = 0) ∧ ¬ (c.2.2.1 = [] ∧ c.2.2.2.1 = [48] ∧ 0 < c.2.1) ∧ (c.2.2.2.2.2 = [] ∨ c.2.2.2.1 = [47] ∨ c.2.2.2.1 = [63] ∨ c.2.2.2.1 = [58])
theorem is_iff {c : Cmd} : keys_is_F c = true ↔ Is c := by
  have e : keys_is_F c = isB (bank_Valid_F c.1) (keys_known_F c) (keys_wants_F c) (decide (c.2.1 < 0)) (decide (9999 < c.2.1)) (decide (c.2.2.2.2.1 = 27)) (decide (c.2.2.2.2.1 = 0)) (decide (c.2.2.1 = [])) (decide (c.2.2.2.1 = [48])) (decide (0 < c.2.1)) (decide ((List.length c.2.2.2.2.2 : Int) = 0)) (decide (c.2.2.2.1 = [47])) (decide (c.2.2.2.1 = [63])) (decide (c.2.2.2.1 = [58])) := rfl
  rw [e, isB_eq]
  unfold Is
  rw [← known_iff]
  have hl : ((List.length c.2.2.2.2.2 : Int) = 0) ↔ c.2.2.2.2.2 = [] := by
    constructor
    · intro h; exact List.eq_nil_of_length_eq_zero (by omega)
    · intro h; rw [h]; rfl
  have hw : (bif keys_wants_F c then !decide (c.2.2.2.2.1 = 27) else decide (c.2.2.2.2.1 = 0)) = true ↔ (WantsA c → c.2.2.2.2.1 ≠ 27) ∧ (¬ WantsA c → c.2.2.2.2.1 = 0) := by
    cases hh : keys_wants_F c with
    | true => have := wants_iff.1 hh; simp [this]
    | false =>
      have : ¬ WantsA c := fun h => by rw [wants_iff.2 h] at hh; cases hh
      simp [this]
  simp only [Bool.and_eq_true, Bool.or_eq_true, Bool.not_eq_true', decide_eq_true_eq, decide_eq_false_iff_not, hl, hw, Bool.and_eq_false_iff]
  constructor
  · rintro ⟨⟨⟨⟨⟨⟨h1, h2⟩, h3⟩, h4⟩, h5, h6⟩, h7⟩, h8⟩
    refine ⟨h1, ⟨by omega, by omega⟩, h4, h5, h6, ?_, ?_⟩
    · rintro ⟨q1, q2, q3⟩
      rcases h7 with (h7 | h7) | h7
      · exact h7 q1
      · exact h7 q2
      · exact h7 q3
    · rcases h8 with ((h8 | h8) | h8) | h8
      · exact .inl h8
      · exact .inr (.inl h8)
      · exact .inr (.inr (.inl h8))
      · exact .inr (.inr (.inr h8))
  · rintro ⟨h1, ⟨h2, h3⟩, h4, h5, h6, h7, h8⟩
    refine ⟨⟨⟨⟨⟨⟨h1, by omega⟩, by omega⟩, h4⟩, h5, h6⟩, ?_⟩, ?_⟩
    · by_cases q1 : c.2.2.1 = []
      · by_cases q2 : c.2.2.2.1 = [48]
        · exact .inr (fun q3 => h7 ⟨q1, q2, q3⟩)
        · exact .inl (.inr q2)
      · exact .inl (.inl q1)
    · rcases h8 with h8 | h8 | h8 | h8
      · exact .inl (.inl (.inl h8))
      · exact .inl (.inl (.inr h8))
      · exact .inl (.inr h8)
      · exact .inr h8

/-- the keys of a command, without register and count -/
theorem name_eq {c : Cmd} (h : Is c) : keys_Name_F c = if c.2.2.1 ≠ [] ∧ c.2.2.2.1 = c.2.2.1 then c.2.2.1 ++ [rd 0 c.2.2.1 ((c.2.2.1.length : Int) - 1)] else (c.2.2.1 ++ c.2.2.2.1) ++ (if keys_wants_F c then [c.2.2.2.2.1] else []) := by
  have hi := is_iff.2 h
  have hlen : c.2.2.1.length ≤ 2 := by
    rcases h.2.2.1 with ⟨q, _⟩ | ⟨q, _⟩
    · rw [q]; simp
    · have : ∀ o ∈ opList, o.length ≤ 2 := by decide
      exact this _ q
  unfold keys_Name_F
  rw [hi, wrap_i64 (by omega) (by omega)]
  simp only [Bool.not_true, cond_false, Bool.cond_decide]
  by_cases h0 : c.2.2.1 = []
  · have e : (!decide (c.2.2.1 = [])) = false := by simpa using h0
    rw [e]
    simp only [cond_false]
    rw [if_neg (show ¬ (c.2.2.1 ≠ [] ∧ c.2.2.2.1 = c.2.2.1) from fun hh => hh.1 h0)]
    cases keys_wants_F c <;> simp
  · have e : (!decide (c.2.2.1 = [])) = true := by simpa using h0
    rw [e]
    simp only [cond_true]
    by_cases h1 : c.2.2.2.1 = c.2.2.1
    · rw [if_pos h1, if_pos ⟨h0, h1⟩]
    · rw [if_neg h1, if_neg (fun hh => h1 hh.2)]
      cases keys_wants_F c <;> simp
end Go.VE
namespace Go.VE
open Go Go.Proofs
/-! ### quoin/quoinref21.isReg -/
def qr_isReg_G : List (Nat × App) := []
theorem qr_isReg_Gok : GOk Tryd.prog (getG qr_isReg_G) := GOk.nil
def qr_isReg_raw (b0 : Int) (K : Res → List Cell → Prop) : Prop :=
 bif (decide (b0 = (34 : Int))) then
 K (.one (.v (.bool) true)) []
 else
 bif (decide (b0 = (45 : Int))) then
 K (.one (.v (.bool) true)) []
 else
 bif (decide ((49 : Int) ≤ b0)) then
 bif (decide (b0 ≤ (57 : Int))) then
 K (.one (.v (.bool) true)) []
 else
 bif (decide ((97 : Int) ≤ b0)) then
 bif (decide (b0 ≤ (122 : Int))) then
 K (.one (.v (.bool) true)) []
 else
 bif (decide ((65 : Int) ≤ b0)) then
 K (.one (.v (.bool) (decide (b0 ≤ (90 : Int))))) []
 else
 K (.one (.v (.bool) false)) []
 else
 bif (decide ((65 : Int) ≤ b0)) then
 K (.one (.v (.bool) (decide (b0 ≤ (90 : Int))))) []
 else
 K (.one (.v (.bool) false)) []
 else
 bif (decide ((97 : Int) ≤ b0)) then
 bif (decide (b0 ≤ (122 : Int))) then
 K (.one (.v (.bool) true)) []
 else
 bif (decide ((65 : Int) ≤ b0)) then
 K (.one (.v (.bool) (decide (b0 ≤ (90 : Int))))) []
 else
 K (.one (.v (.bool) false)) []
 else
 bif (decide ((65 : Int) ≤ b0)) then
 K (.one (.v (.bool) (decide (b0 ≤ (90 : Int))))) []
 else
 K (.one (.v (.bool) false)) []
def qr_isReg_A : List AS := [.v (.int .u8)]
theorem qr_isReg_walk (b0 : Int) (K : Res → List Cell → Prop) : runF tb (getG qr_isReg_G) [] Tryd.f19 [true] (mkA qr_isReg_A (b0, ())) K = qr_isReg_raw b0 K := by kernel_rfl

def qr_isReg_F (b0 : Int) : Bool :=
 bif (decide (b0 = (34 : Int))) then
 true
 else
 bif (decide (b0 = (45 : Int))) then
 true
 else
 bif (decide ((49 : Int) ≤ b0)) then
 bif (decide (b0 ≤ (57 : Int))) then
 true
 else
 bif (decide ((97 : Int) ≤ b0)) then
 bif (decide (b0 ≤ (122 : Int))) then
 true
 else
 bif (decide ((65 : Int) ≤ b0)) then
 (decide (b0 ≤ (90 : Int)))
 else
 false
 else
 bif (decide ((65 : Int) ≤ b0)) then
 (decide (b0 ≤ (90 : Int)))
 else
 false
 else
 bif (decide ((97 : Int) ≤ b0)) then
 bif (decide (b0 ≤ (122 : Int))) then
 true
 else
 bif (decide ((65 : Int) ≤ b0)) then
 (decide (b0 ≤ (90 : Int)))
 else
 false
 else
 bif (decide ((65 : Int) ≤ b0)) then
 (decide (b0 ≤ (90 : Int)))
 else
 false
set_option maxRecDepth 20000 in
theorem qr_isReg_sp (b0 : Int) (K : Res → List Cell → Prop) (_ : wfA qr_isReg_A (b0, ())) (h : ∀ r : Bool, r = qr_isReg_F b0 → K (.one (.v (.bool) r)) []) : qr_isReg_raw b0 K := by
  unfold qr_isReg_raw
  refine brb (fun c_1 => ?_) (fun c_1 => ?_)
  ·
    exact h _ ((ctrue c_1) : qr_isReg_F b0 = _).symm
  ·
    refine brb (fun c_2 => ?_) (fun c_2 => ?_)
    ·
      exact h _ ((Eq.trans (cfalse c_1) (ctrue c_2)) : qr_isReg_F b0 = _).symm
    ·
      refine brb (fun c_3 => ?_) (fun c_3 => ?_)
      ·
        refine brb (fun c_4 => ?_) (fun c_4 => ?_)
        ·
          exact h _ ((Eq.trans (cfalse c_1) (Eq.trans (cfalse c_2) (Eq.trans (ctrue c_3) (ctrue c_4)))) : qr_isReg_F b0 = _).symm
        ·
          refine brb (fun c_5 => ?_) (fun c_5 => ?_)
          ·
            refine brb (fun c_6 => ?_) (fun c_6 => ?_)
            ·
              exact h _ ((Eq.trans (cfalse c_1) (Eq.trans (cfalse c_2) (Eq.trans (ctrue c_3) (Eq.trans (cfalse c_4) (Eq.trans (ctrue c_5) (ctrue c_6)))))) : qr_isReg_F b0 = _).symm
            ·
              refine brb (fun c_7 => ?_) (fun c_7 => ?_)
              ·
                exact h _ ((Eq.trans (cfalse c_1) (Eq.trans (cfalse c_2) (Eq.trans (ctrue c_3) (Eq.trans (cfalse c_4) (Eq.trans (ctrue c_5) (Eq.trans (cfalse c_6) (ctrue c_7))))))) : qr_isReg_F b0 = _).symm
              ·
                exact h _ ((Eq.trans (cfalse c_1) (Eq.trans (cfalse c_2) (Eq.trans (ctrue c_3) (Eq.trans (cfalse c_4) (Eq.trans (ctrue c_5) (Eq.trans (cfalse c_6) (cfalse c_7))))))) : qr_isReg_F b0 = _).symm
          ·
            refine brb (fun c_8 => ?_) (fun c_8 => ?_)
            ·
              exact h _ ((Eq.trans (cfalse c_1) (Eq.trans (cfalse c_2) (Eq.trans (ctrue c_3) (Eq.trans (cfalse c_4) (Eq.trans (cfalse c_5) (ctrue c_8)))))) : qr_isReg_F b0 = _).symm
            ·
              exact h _ ((Eq.trans (cfalse c_1) (Eq.trans (cfalse c_2) (Eq.trans (ctrue c_3) (Eq.trans (cfalse c_4) (Eq.trans (cfalse c_5) (cfalse c_8)))))) : qr_isReg_F b0 = _).symm
      ·
        refine brb (fun c_9 => ?_) (fun c_9 => ?_)
        ·
          refine brb (fun c_10 => ?_) (fun c_10 => ?_)
          ·
            exact h _ ((Eq.trans (cfalse c_1) (Eq.trans (cfalse c_2) (Eq.trans (cfalse c_3) (Eq.trans (ctrue c_9) (ctrue c_10))))) : qr_isReg_F b0 = _).symm
          ·
            refine brb (fun c_11 => ?_) (fun c_11 => ?_)
            ·
              exact h _ ((Eq.trans (cfalse c_1) (Eq.trans (cfalse c_2) (Eq.trans (cfalse c_3) (Eq.trans (ctrue c_9) (Eq.trans (cfalse c_10) (ctrue c_11)))))) : qr_isReg_F b0 = _).symm
            ·
              exact h _ ((Eq.trans (cfalse c_1) (Eq.trans (cfalse c_2) (Eq.trans (cfalse c_3) (Eq.trans (ctrue c_9) (Eq.trans (cfalse c_10) (cfalse c_11)))))) : qr_isReg_F b0 = _).symm
        ·
          refine brb (fun c_12 => ?_) (fun c_12 => ?_)
          ·
            exact h _ ((Eq.trans (cfalse c_1) (Eq.trans (cfalse c_2) (Eq.trans (cfalse c_3) (Eq.trans (cfalse c_9) (ctrue c_12))))) : qr_isReg_F b0 = _).symm
          ·
            exact h _ ((Eq.trans (cfalse c_1) (Eq.trans (cfalse c_2) (Eq.trans (cfalse c_3) (Eq.trans (cfalse c_9) (cfalse c_12))))) : qr_isReg_F b0 = _).symm
def qr_isReg_C (v : valsA qr_isReg_A) (K : Res → List Cell → Prop) : Prop := ∀ r : Bool, r = qr_isReg_F v.1 → K (.one (.v (.bool) r)) []
def qr_isReg_S : App := specW qr_isReg_A qr_isReg_C
theorem qr_isReg_wv (K : Res → List Cell → Prop) : ∀ v : valsA qr_isReg_A, runF tb (getG qr_isReg_G) [] Tryd.f19 [true] (mkA qr_isReg_A v) K = qr_isReg_raw v.1 K
  | (b0, ()) => qr_isReg_walk b0 K
set_option maxRecDepth 20000 in
theorem qr_isReg_ok : AppOk Tryd.prog 19 qr_isReg_S :=
  AppOk.specW (spec_ok (runF_ok tb_M tb_ok qr_isReg_Gok (LabsOk.nil) (f := 19) (fn := Tryd.f19) (by kernel_rfl) (by kernel_rfl) (by kernel_rfl) [true]) fun v K hw h => (qr_isReg_wv K v).mpr (qr_isReg_sp v.1 K hw h))

end Go.VE
namespace Go.VE
open Go Go.Proofs
/-! ### quoin/quoinref21.number -/
def qr_number_G : List (Nat × App) := []
theorem qr_number_Gok : GOk Tryd.prog (getG qr_number_G) := GOk.nil
theorem qr_number_st : storesC (bodyOf Tryd.f20) = true := by kernel_rfl
def qr_number_d0 : List LS := [.v 0 (.str), .v 4 (.int .i64), .v 5 (.int .i64)]
def qr_number_d0x0 : List LS := [.v 4 (.int .i64), .v 5 (.int .i64)]
def qr_number_dx0 : DX := ⟨none, none, [(0, qr_number_d0x0)]⟩
def qr_number_T0 (Y : List Int → Int → Int → Prop) (kx0 : Int → Int → Prop) (keys0 : List Int) (n4 : Int) (i5 : Int) : Prop :=
 bif (decide (i5 < (List.length keys0 : Int))) then
 bif decide (0 ≤ i5 ∧ i5 < (List.length keys0 : Int)) then
 bif (decide ((48 : Int) ≤ (rd (0 : Int) keys0 i5))) then
 bif decide (0 ≤ i5 ∧ i5 < (List.length keys0 : Int)) then
 bif (decide ((rd (0 : Int) keys0 i5) ≤ (57 : Int))) then
 bif (decide ((0 : Int) < i5)) then
 bif decide (0 ≤ i5 ∧ i5 < (List.length keys0 : Int)) then
 bif (decide ((9999 : Int) < (IntKind.wrap .i64 ((IntKind.wrap .i64 (n4 * (10 : Int))) + (IntKind.wrap .i64 (IntKind.wrap .u8 ((rd (0 : Int) keys0 i5) - (48 : Int)))))))) then
 Y keys0 (9999 : Int) (IntKind.wrap .i64 (i5 + (1 : Int)))
 else
 Y keys0 (IntKind.wrap .i64 ((IntKind.wrap .i64 (n4 * (10 : Int))) + (IntKind.wrap .i64 (IntKind.wrap .u8 ((rd (0 : Int) keys0 i5) - (48 : Int)))))) (IntKind.wrap .i64 (i5 + (1 : Int)))
 else False
 else
 bif decide (0 ≤ i5 ∧ i5 < (List.length keys0 : Int)) then
 bif (!decide ((rd (0 : Int) keys0 i5) = (48 : Int))) then
 bif decide (0 ≤ i5 ∧ i5 < (List.length keys0 : Int)) then
 bif (decide ((9999 : Int) < (IntKind.wrap .i64 ((IntKind.wrap .i64 (n4 * (10 : Int))) + (IntKind.wrap .i64 (IntKind.wrap .u8 ((rd (0 : Int) keys0 i5) - (48 : Int)))))))) then
 Y keys0 (9999 : Int) (IntKind.wrap .i64 (i5 + (1 : Int)))
 else
 Y keys0 (IntKind.wrap .i64 ((IntKind.wrap .i64 (n4 * (10 : Int))) + (IntKind.wrap .i64 (IntKind.wrap .u8 ((rd (0 : Int) keys0 i5) - (48 : Int)))))) (IntKind.wrap .i64 (i5 + (1 : Int)))
 else False
 else
 kx0 n4 i5
 else False
 else
 kx0 n4 i5
 else False
 else
 kx0 n4 i5
 else False
 else
 kx0 n4 i5
def qr_number_L0 (kx0 : Int → Int → Prop) : Nat → List Int → Int → Int → Prop
  | 0, _, _, _ => False
  | n + 1, keys0, n4, i5 => wfD qr_number_d0 (keys0, n4, i5, ()) → qr_number_T0 (qr_number_L0 kx0 n) kx0 keys0 n4 i5
theorem qr_number_s0 (k : Ex → St → Prop) (Y : vals qr_number_d0 → Prop) (keys0 : List Int) (n4 : Int) (i5 : Int) :
    ex tb (getG qr_number_G) [] (at' (bodyOf Tryd.f20) [0, 0, 0, 1, 1]) [0, 0, 0, 1, 1] (mkD 46 qr_number_d0 (keys0, n4, i5, ())) (lpK 46 qr_number_d0 qr_number_dx0 k Y) =
    qr_number_T0 (fun keys0 n4 i5 => Y (keys0, n4, i5, ())) (fun n4 i5 => wfD qr_number_d0x0 (n4, i5, ()) → k (.exit 0) (mkD 46 qr_number_d0x0 (n4, i5, ()))) keys0 n4 i5 := by kernel_rfl
theorem qr_number_e0 (k : Ex → St → Prop) : ∀ (n : Nat) (keys0 : List Int) (n4 : Int) (i5 : Int), lpD 46 qr_number_d0 qr_number_dx0 (ex tb (getG qr_number_G) [] (at' (bodyOf Tryd.f20) [0, 0, 0, 1, 1]) [0, 0, 0, 1, 1]) k n (keys0, n4, i5, ()) = qr_number_L0 (fun n4 i5 => wfD qr_number_d0x0 (n4, i5, ()) → k (.exit 0) (mkD 46 qr_number_d0x0 (n4, i5, ()))) n keys0 n4 i5
  | 0, _, _, _ => rfl
  | n + 1, keys0, n4, i5 => congrArg (fun Z : Prop => wfD qr_number_d0 (keys0, n4, i5, ()) → Z) ((qr_number_s0 k (lpD 46 qr_number_d0 qr_number_dx0 (ex tb (getG qr_number_G) [] (at' (bodyOf Tryd.f20) [0, 0, 0, 1, 1]) [0, 0, 0, 1, 1]) k n) keys0 n4 i5).trans (congrArg (fun Y => qr_number_T0 Y (fun n4 i5 => wfD qr_number_d0x0 (n4, i5, ()) → k (.exit 0) (mkD 46 qr_number_d0x0 (n4, i5, ()))) keys0 n4 i5) (funext fun keys0 => funext fun n4 => funext fun i5 => qr_number_e0 k n keys0 n4 i5)))
theorem qr_number_v0 (k : Ex → St → Prop) (n : Nat) : ∀ v : vals qr_number_d0, lpD 46 qr_number_d0 qr_number_dx0 (ex tb (getG qr_number_G) [] (at' (bodyOf Tryd.f20) [0, 0, 0, 1, 1]) [0, 0, 0, 1, 1]) k n v = qr_number_L0 (fun n4 i5 => wfD qr_number_d0x0 (n4, i5, ()) → k (.exit 0) (mkD 46 qr_number_d0x0 (n4, i5, ()))) n v.1 v.2.1 v.2.2.1
  | (keys0, n4, i5, ()) => qr_number_e0 k n keys0 n4 i5
def qr_number_X0 : Pce := fun st k => ckD 46 qr_number_d0 st fun v => wfD qr_number_d0 v → ∃ n, qr_number_L0 (fun n4 i5 => wfD qr_number_d0x0 (n4, i5, ()) → k (.exit 0) (mkD 46 qr_number_d0x0 (n4, i5, ()))) n v.1 v.2.1 v.2.2.1
set_option maxRecDepth 20000 in
theorem qr_number_x0 : SemOk Tryd.prog (at' (bodyOf Tryd.f20) [0, 0, 1, 1]) qr_number_X0 :=
  (SemOk.loop (ex_sound tb_M tb_ok qr_number_Gok (LabsOk.nil) (at' (bodyOf Tryd.f20) [0, 0, 0, 1, 1]) [0, 0, 0, 1, 1] rfl (storesC_at qr_number_st [0, 0, 0, 1, 1])) 46 qr_number_d0 qr_number_dx0).mono fun st k h => ckD_mono h fun v hv hw => (hv hw).elim fun n hn => ⟨n, Eq.mpr (qr_number_v0 k n v) hn⟩
def qr_number_B0 : Labs := ([0, 0, 1, 1], qr_number_X0) :: []
theorem qr_number_b0 : LabsOk Tryd.prog (bodyOf Tryd.f20) qr_number_B0 := LabsOk.cons qr_number_x0 (LabsOk.nil)
def qr_number_raw (keys0 : List Int) (K : Res → List Cell → Prop) : Prop :=
 (wfD qr_number_d0 (keys0, (0 : Int), (0 : Int), ()) → ∃ n, qr_number_L0 (fun (n4 : Int) (i5 : Int) => wfD qr_number_d0x0 (n4, i5, ()) → (
 K (.tup [.v (.int .i64) n4, .v (.int .i64) i5]) [])) n keys0 (0 : Int) (0 : Int))
def qr_number_A : List AS := [.v (.str)]
theorem qr_number_walk (keys0 : List Int) (K : Res → List Cell → Prop) : runF tb (getG qr_number_G) qr_number_B0 Tryd.f20 [true, true] (mkA qr_number_A (keys0, ())) K = qr_number_raw keys0 K := by kernel_rfl
--! import F_keys_reader_count
def qr_number_L0_P (keys : List Int) (n i : Int) : Prop := n = 0 ∧ i = 0
def qr_number_L0_F (keys : List Int) (n i : Int) : Int × Int := ((cntL keys 0).1, ((cntL keys 0).2 : Int))
theorem qr_number_l0 (kx0 : Int → Int → Prop) (ks : List Int) : ∀ (m i : Nat) (n : Int), i ≤ ks.length → ks.length - i < m → 0 ≤ n → n ≤ 9999 → (i = 0 ∧ n = 0 ∨ 0 < i ∧ 1 ≤ n) →
    (∀ q : Int × Int, q = ((cntL (ks.drop i) n).1, (i : Int) + ((cntL (ks.drop i) n).2 : Int)) → kx0 q.1 q.2) → qr_number_L0 kx0 m ks n (i : Int)
  | 0, _, _, _, h, _, _, _, _ => absurd h (Nat.not_lt_zero _)
  | m + 1, i, n, hi, hm, h0, h1, hin, h => by
    intro hw
    unfold qr_number_T0
    have hlen : ks.length ≤ 9223372036854775807 := Nat.le_trans hw.1.1 (by decide)
    have hb : ∀ x ∈ ks, 0 ≤ x ∧ x ≤ 255 := hw.1.2
    refine brn (fun hlt => asrt (by omega) ?_) (fun hge => h (n, (i : Int)) ?_)
    · have hil : i < ks.length := by omega
      rw [rd_nat 0 ks i hil]
      have hd : ks.drop i = ks[i] :: ks.drop (i + 1) := List.drop_eq_getElem_cons hil
      have hx := hb ks[i] (List.getElem_mem hil)
      have stop : (ks[i] < 48 ∨ 57 < ks[i] ∨ (ks[i] = 48 ∧ n = 0)) → ((n, (i : Int)) : Int × Int) = ((cntL (ks.drop i) n).1, (i : Int) + ((cntL (ks.drop i) n).2 : Int)) := fun hs => by
        rw [hd, show cntL (ks[i] :: ks.drop (i + 1)) n = (n, 0) by unfold cntL; rw [if_pos hs]]
        simp
      have go : ¬ (ks[i] < 48 ∨ 57 < ks[i] ∨ (ks[i] = 48 ∧ n = 0)) → bif (decide ((9999 : Int) < (IntKind.wrap .i64 ((IntKind.wrap .i64 (n * (10 : Int))) + (IntKind.wrap .i64 (IntKind.wrap .u8 (ks[i] - (48 : Int)))))))) then
            qr_number_L0 kx0 m ks (9999 : Int) (IntKind.wrap .i64 ((i : Int) + (1 : Int)))
          else
            qr_number_L0 kx0 m ks (IntKind.wrap .i64 ((IntKind.wrap .i64 (n * (10 : Int))) + (IntKind.wrap .i64 (IntKind.wrap .u8 (ks[i] - (48 : Int)))))) (IntKind.wrap .i64 ((i : Int) + (1 : Int))) := fun hs => by
        rw [wrap_u8 (n := ks[i] - 48) (by omega) (by omega), wrap_i64 (n := ks[i] - 48) (by omega) (by omega), wrap_i64 (n := n * 10) (by omega) (by omega), wrap_i64 (n := n * 10 + (ks[i] - 48)) (by omega) (by omega), wrap_i64 (n := (i : Int) + 1) (by omega) (by omega)]
        rw [show (i : Int) + 1 = ((i + 1 : Nat) : Int) by omega]
        have next : ∀ w : Int, w = mn (n * 10 + (ks[i] - 48)) 9999 → qr_number_L0 kx0 m ks w ((i + 1 : Nat) : Int) := fun w hw2 => by
          have e := mn_le' (n * 10 + (ks[i] - 48)) 9999
          have e2 : mn (n * 10 + (ks[i] - 48)) 9999 = if 9999 < n * 10 + (ks[i] - 48) then 9999 else n * 10 + (ks[i] - 48) := by
            unfold mn; by_cases hh : (9999 : Int) < n * 10 + (ks[i] - 48) <;> simp [hh]
          refine qr_number_l0 kx0 ks m (i + 1) w (by omega) (by omega) (by omega) (by omega) (.inr ⟨by omega, by rw [hw2, e2]; split <;> omega⟩) fun q hq => h q ?_
          rw [hq, hd, show cntL (ks[i] :: ks.drop (i + 1)) n = _ by unfold cntL; rw [if_neg hs], ← hw2]
          simp only [Prod.mk.injEq, true_and]
          omega
        have e2 : mn (n * 10 + (ks[i] - 48)) 9999 = if 9999 < n * 10 + (ks[i] - 48) then 9999 else n * 10 + (ks[i] - 48) := by
          unfold mn; by_cases hh : (9999 : Int) < n * 10 + (ks[i] - 48) <;> simp [hh]
        exact brn (fun hh => next _ (by rw [e2, if_pos hh])) (fun hh => next _ (by rw [e2, if_neg hh]))
      refine brn (fun c1 => asrt (by omega) (brn (fun c2 => brn (fun c3 => asrt (by omega) (go (by omega))) (fun c3 => asrt (by omega) ?_)) (fun c2 => h _ (stop (by omega))))) (fun c1 => h _ (stop (by omega)))
      refine brb (fun c4 => asrt (by omega) (go ?_)) (fun c4 => h _ (stop ?_))
      · have c4 : ¬ ks[i] = 48 := by simpa using c4
        omega
      · have c4 : ks[i] = 48 := by simpa using c4
        omega
    · have : i = ks.length := by omega
      subst this
      simp [cntL]
theorem qr_number_L0_sp (kx0 : Int → Int → Prop) (keys0 : List Int) (n4 i5 : Int) (hp : qr_number_L0_P keys0 n4 i5) (h : ∀ q : Int × Int, q = qr_number_L0_F keys0 n4 i5 → kx0 q.1 q.2) : ∃ n, qr_number_L0 kx0 n keys0 n4 i5 := by
  obtain ⟨rfl, rfl⟩ := hp
  exact ⟨keys0.length + 1, qr_number_l0 kx0 keys0 (keys0.length + 1) 0 0 (Nat.zero_le _) (by omega) (by omega) (by omega) (.inl ⟨rfl, rfl⟩) (fun q hq => h q (by rw [hq]; unfold qr_number_L0_F; simp))⟩

def qr_number_P (keys0 : List Int) : Prop :=
 qr_number_L0_P keys0 (0 : Int) (0 : Int)
def qr_number_F (keys0 : List Int) : Int × Int :=
 let q0x0 : Int × Int := qr_number_L0_F keys0 (0 : Int) (0 : Int)
 let n4 : Int := q0x0.1
 let i5 : Int := q0x0.2
 (n4, i5)
set_option maxRecDepth 20000 in
theorem qr_number_sp (keys0 : List Int) (K : Res → List Cell → Prop) (_ : wfA qr_number_A (keys0, ())) (hp : qr_number_P keys0) (h : ∀ r : Int × Int, r = qr_number_F keys0 → K (.tup [.v (.int .i64) r.1, .v (.int .i64) r.2]) []) : qr_number_raw keys0 K := by
  unfold qr_number_raw
  unfold qr_number_P at hp
  refine fun _ => qr_number_L0_sp _ _ _ _ hp (fun q hq => ?_)
  subst hq
  intro _
  clear hp
  exact h _ rfl
def qr_number_C (v : valsA qr_number_A) (K : Res → List Cell → Prop) : Prop := qr_number_P v.1 ∧ ∀ r : Int × Int, r = qr_number_F v.1 → K (.tup [.v (.int .i64) r.1, .v (.int .i64) r.2]) []
def qr_number_S : App := specW qr_number_A qr_number_C
theorem qr_number_wv (K : Res → List Cell → Prop) : ∀ v : valsA qr_number_A, runF tb (getG qr_number_G) qr_number_B0 Tryd.f20 [true, true] (mkA qr_number_A v) K = qr_number_raw v.1 K
  | (keys0, ()) => qr_number_walk keys0 K
set_option maxRecDepth 20000 in
theorem qr_number_ok : AppOk Tryd.prog 20 qr_number_S :=
  AppOk.specW (spec_ok (runF_ok tb_M tb_ok qr_number_Gok (qr_number_b0) (f := 20) (fn := Tryd.f20) (by kernel_rfl) (by kernel_rfl) qr_number_st [true, true]) fun v K hw h => (qr_number_wv K v).mpr (qr_number_sp v.1 K hw h.1 h.2))

end Go.VE
namespace Go.VE
open Go Go.Proofs
/-! ### quoin/quoinref21.words -/
def qr_words_G : List (Nat × App) := []
theorem qr_words_Gok : GOk Tryd.prog (getG qr_words_G) := GOk.nil
theorem qr_words_st : storesC (bodyOf Tryd.f38) = true := by kernel_rfl
def qr_words_d0 : List LS := [.v 0 (.str), .o 3 29 9 (.str), .v 4 (.int .i64), .v 5 (.int .i64)]
def qr_words_d0x0 : List LS := [.o 3 29 9 (.str)]
def qr_words_dx0 : DX := ⟨none, none, [(0, qr_words_d0x0)]⟩
def qr_words_T0 (Y : List Int → List (List Int) → Int → Int → Prop) (kx0 : List (List Int) → Prop) (s0 : List Int) (out3 : List (List Int)) (from4 : Int) (i5 : Int) : Prop :=
 bif (decide (i5 ≤ (List.length s0 : Int))) then
 bif (decide (i5 = (List.length s0 : Int))) then
 bif (decide (from4 < i5)) then
 bif decide (0 ≤ from4 ∧ from4 ≤ i5 ∧ i5 ≤ (List.length s0 : Int)) then
 bif decide (List.length out3 + List.length ([(slc s0 from4 i5)] : List (List Int)) ≤ lim) then
 Y s0 (out3 ++ ([(slc s0 from4 i5)] : List (List Int))) (IntKind.wrap .i64 (i5 + (1 : Int))) (IntKind.wrap .i64 (i5 + (1 : Int)))
 else False
 else False
 else
 Y s0 out3 (IntKind.wrap .i64 (i5 + (1 : Int))) (IntKind.wrap .i64 (i5 + (1 : Int)))
 else
 bif decide (0 ≤ i5 ∧ i5 < (List.length s0 : Int)) then
 bif (decide ((rd (0 : Int) s0 i5) = (32 : Int))) then
 bif (decide (from4 < i5)) then
 bif decide (0 ≤ from4 ∧ from4 ≤ i5 ∧ i5 ≤ (List.length s0 : Int)) then
 bif decide (List.length out3 + List.length ([(slc s0 from4 i5)] : List (List Int)) ≤ lim) then
 Y s0 (out3 ++ ([(slc s0 from4 i5)] : List (List Int))) (IntKind.wrap .i64 (i5 + (1 : Int))) (IntKind.wrap .i64 (i5 + (1 : Int)))
 else False
 else False
 else
 Y s0 out3 (IntKind.wrap .i64 (i5 + (1 : Int))) (IntKind.wrap .i64 (i5 + (1 : Int)))
 else
 Y s0 out3 from4 (IntKind.wrap .i64 (i5 + (1 : Int)))
 else False
 else
 kx0 out3
def qr_words_L0 (kx0 : List (List Int) → Prop) : Nat → List Int → List (List Int) → Int → Int → Prop
  | 0, _, _, _, _ => False
  | n + 1, s0, out3, from4, i5 => wfD qr_words_d0 (s0, out3, from4, i5, ()) → qr_words_T0 (qr_words_L0 kx0 n) kx0 s0 out3 from4 i5
theorem qr_words_s0 (k : Ex → St → Prop) (Y : vals qr_words_d0 → Prop) (s0 : List Int) (out3 : List (List Int)) (from4 : Int) (i5 : Int) :
    ex tb (getG qr_words_G) [] (at' (bodyOf Tryd.f38) [0, 0, 1, 0, 1, 1, 1]) [0, 0, 1, 0, 1, 1, 1] (mkD 35 qr_words_d0 (s0, out3, from4, i5, ())) (lpK 35 qr_words_d0 qr_words_dx0 k Y) =
    qr_words_T0 (fun s0 out3 from4 i5 => Y (s0, out3, from4, i5, ())) (fun out3 => wfD qr_words_d0x0 (out3, ()) → k (.exit 0) (mkD 35 qr_words_d0x0 (out3, ()))) s0 out3 from4 i5 := by kernel_rfl
theorem qr_words_e0 (k : Ex → St → Prop) : ∀ (n : Nat) (s0 : List Int) (out3 : List (List Int)) (from4 : Int) (i5 : Int), lpD 35 qr_words_d0 qr_words_dx0 (ex tb (getG qr_words_G) [] (at' (bodyOf Tryd.f38) [0, 0, 1, 0, 1, 1, 1]) [0, 0, 1, 0, 1, 1, 1]) k n (s0, out3, from4, i5, ()) = qr_words_L0 (fun out3 => wfD qr_words_d0x0 (out3, ()) → k (.exit 0) (mkD 35 qr_words_d0x0 (out3, ()))) n s0 out3 from4 i5
  | 0, _, _, _, _ => rfl
  | n + 1, s0, out3, from4, i5 => congrArg (fun Z : Prop => wfD qr_words_d0 (s0, out3, from4, i5, ()) → Z) ((qr_words_s0 k (lpD 35 qr_words_d0 qr_words_dx0 (ex tb (getG qr_words_G) [] (at' (bodyOf Tryd.f38) [0, 0, 1, 0, 1, 1, 1]) [0, 0, 1, 0, 1, 1, 1]) k n) s0 out3 from4 i5).trans (congrArg (fun Y => qr_words_T0 Y (fun out3 => wfD qr_words_d0x0 (out3, ()) → k (.exit 0) (mkD 35 qr_words_d0x0 (out3, ()))) s0 out3 from4 i5) (funext fun s0 => funext fun out3 => funext fun from4 => funext fun i5 => qr_words_e0 k n s0 out3 from4 i5)))
theorem qr_words_v0 (k : Ex → St → Prop) (n : Nat) : ∀ v : vals qr_words_d0, lpD 35 qr_words_d0 qr_words_dx0 (ex tb (getG qr_words_G) [] (at' (bodyOf Tryd.f38) [0, 0, 1, 0, 1, 1, 1]) [0, 0, 1, 0, 1, 1, 1]) k n v = qr_words_L0 (fun out3 => wfD qr_words_d0x0 (out3, ()) → k (.exit 0) (mkD 35 qr_words_d0x0 (out3, ()))) n v.1 v.2.1 v.2.2.1 v.2.2.2.1
  | (s0, out3, from4, i5, ()) => qr_words_e0 k n s0 out3 from4 i5
def qr_words_X0 : Pce := fun st k => ckD 35 qr_words_d0 st fun v => wfD qr_words_d0 v → ∃ n, qr_words_L0 (fun out3 => wfD qr_words_d0x0 (out3, ()) → k (.exit 0) (mkD 35 qr_words_d0x0 (out3, ()))) n v.1 v.2.1 v.2.2.1 v.2.2.2.1
set_option maxRecDepth 20000 in
theorem qr_words_x0 : SemOk Tryd.prog (at' (bodyOf Tryd.f38) [0, 1, 0, 1, 1, 1]) qr_words_X0 :=
  (SemOk.loop (ex_sound tb_M tb_ok qr_words_Gok (LabsOk.nil) (at' (bodyOf Tryd.f38) [0, 0, 1, 0, 1, 1, 1]) [0, 0, 1, 0, 1, 1, 1] rfl (storesC_at qr_words_st [0, 0, 1, 0, 1, 1, 1])) 35 qr_words_d0 qr_words_dx0).mono fun st k h => ckD_mono h fun v hv hw => (hv hw).elim fun n hn => ⟨n, Eq.mpr (qr_words_v0 k n v) hn⟩
def qr_words_B0 : Labs := ([0, 1, 0, 1, 1, 1], qr_words_X0) :: []
theorem qr_words_b0 : LabsOk Tryd.prog (bodyOf Tryd.f38) qr_words_B0 := LabsOk.cons qr_words_x0 (LabsOk.nil)
def qr_words_raw (s0 : List Int) (K : Res → List Cell → Prop) : Prop :=
 (wfD qr_words_d0 (s0, ([] : List (List Int)), (0 : Int), (0 : Int), ()) → ∃ n, qr_words_L0 (fun (out3 : List (List Int)) => wfD qr_words_d0x0 (out3, ()) → (
 K (.one (.fr 9 (.str) out3)) [])) n s0 ([] : List (List Int)) (0 : Int) (0 : Int))
def qr_words_A : List AS := [.v (.str)]
theorem qr_words_walk (s0 : List Int) (K : Res → List Cell → Prop) : runF tb (getG qr_words_G) qr_words_B0 Tryd.f38 [true] (mkA qr_words_A (s0, ())) K = qr_words_raw s0 K := by kernel_rfl
/-- the pieces between blanks, from a place on -/
def wordsL : Nat → List Int → List (List Int) → Int → Int → List (List Int)
  | 0, _, out, _, _ => out
  | n + 1, s, out, fr, i => if i ≤ s.length then
      (if i = s.length ∨ rd 0 s i = 32 then wordsL n s (if fr < i then out ++ [slc s fr i] else out) (i + 1) (i + 1) else wordsL n s out fr (i + 1)) else out
def qr_words_L0_P (s : List Int) (out : List (List Int)) (fr i : Int) : Prop := 0 ≤ fr ∧ fr ≤ i ∧ (out.length : Int) ≤ i ∧ i ≤ s.length + 1 ∧ s.length ≤ 1000000
def qr_words_L0_F (s : List Int) (out : List (List Int)) (fr i : Int) : List (List Int) := wordsL (s.length + 2) s out fr i
theorem qr_words_l0 (kx0 : List (List Int) → Prop) (s : List Int) (hs : s.length ≤ 1000000) : ∀ (m : Nat) (out : List (List Int)) (fr i : Int), 0 ≤ fr → fr ≤ i → (out.length : Int) ≤ i → i ≤ s.length + 1 → (s.length : Int) + 2 - i ≤ m →
    (∀ q : List (List Int), q = wordsL m s out fr i → kx0 q) → qr_words_L0 kx0 m s out fr i
  | 0, out, fr, i, h0, h1, h2, h3, h4, h => absurd h4 (by omega)
  | m + 1, out, fr, i, h0, h1, h2, h3, h4, h => by
    intro _
    unfold qr_words_T0
    rw [wrap_i64 (n := i + 1) (by omega) (by omega)]
    unfold wordsL at h
    refine brn (fun hle => ?_) (fun hgt => h out (by rw [if_neg hgt]))
    rw [if_pos hle] at h
    have put : (i = s.length ∨ rd 0 s i = 32) → bif (decide (fr < i)) then
          bif decide (0 ≤ fr ∧ fr ≤ i ∧ i ≤ (List.length s : Int)) then
          bif decide (List.length out + List.length ([(slc s fr i)] : List (List Int)) ≤ lim) then
          qr_words_L0 kx0 m s (out ++ ([(slc s fr i)] : List (List Int))) (i + 1) (i + 1)
          else False
          else False
        else qr_words_L0 kx0 m s out (i + 1) (i + 1) := fun hc => by
      rw [if_pos hc] at h
      refine brn (fun hlt => asrt ⟨h0, by omega, hle⟩ (asrt (by simp only [List.length_cons, List.length_nil, lim]; omega) ?_)) (fun hlt => ?_)
      · rw [if_pos hlt] at h
        exact qr_words_l0 kx0 s hs m _ _ _ (by omega) (by omega) (by simp only [List.length_append, List.length_cons, List.length_nil]; omega) (by omega) (by omega) h
      · rw [if_neg hlt] at h
        exact qr_words_l0 kx0 s hs m _ _ _ (by omega) (by omega) (by omega) (by omega) (by omega) h
    refine brn (fun he => put (.inl he)) (fun hne => asrt ⟨by omega, by omega⟩ (brn (fun h32 => put (.inr h32)) (fun h32 => ?_)))
    rw [if_neg (by rintro (hh | hh); exact hne hh; exact h32 hh)] at h
    exact qr_words_l0 kx0 s hs m _ _ _ (by omega) (by omega) (by omega) (by omega) (by omega) h
theorem qr_words_L0_sp (kx0 : List (List Int) → Prop) (s0 : List Int) (out3 : List (List Int)) (from4 i5 : Int) (hp : qr_words_L0_P s0 out3 from4 i5) (h : ∀ q : List (List Int), q = qr_words_L0_F s0 out3 from4 i5 → kx0 q) :
    ∃ n, qr_words_L0 kx0 n s0 out3 from4 i5 :=
  ⟨s0.length + 2, qr_words_l0 kx0 s0 hp.2.2.2.2 (s0.length + 2) out3 from4 i5 hp.1 hp.2.1 hp.2.2.1 hp.2.2.2.1 (by have := hp.1; have := hp.2.1; omega) h⟩

def qr_words_P (s0 : List Int) : Prop :=
 qr_words_L0_P s0 ([] : List (List Int)) (0 : Int) (0 : Int)
def qr_words_F (s0 : List Int) : List (List Int) :=
 let q0x0 : List (List Int) := qr_words_L0_F s0 ([] : List (List Int)) (0 : Int) (0 : Int)
 let out3 : List (List Int) := q0x0
 out3
set_option maxRecDepth 20000 in
theorem qr_words_sp (s0 : List Int) (K : Res → List Cell → Prop) (_ : wfA qr_words_A (s0, ())) (hp : qr_words_P s0) (h : ∀ r : List (List Int), r = qr_words_F s0 → K (.one (.fr 9 (.str) r)) []) : qr_words_raw s0 K := by
  unfold qr_words_raw
  unfold qr_words_P at hp
  refine fun _ => qr_words_L0_sp _ _ _ _ _ hp (fun q hq => ?_)
  subst hq
  intro _
  clear hp
  exact h _ rfl
def qr_words_C (v : valsA qr_words_A) (K : Res → List Cell → Prop) : Prop := qr_words_P v.1 ∧ ∀ r : List (List Int), r = qr_words_F v.1 → K (.one (.fr 9 (.str) r)) []
def qr_words_S : App := specW qr_words_A qr_words_C
theorem qr_words_wv (K : Res → List Cell → Prop) : ∀ v : valsA qr_words_A, runF tb (getG qr_words_G) qr_words_B0 Tryd.f38 [true] (mkA qr_words_A v) K = qr_words_raw v.1 K
  | (s0, ()) => qr_words_walk s0 K
set_option maxRecDepth 20000 in
theorem qr_words_ok : AppOk Tryd.prog 38 qr_words_S :=
  AppOk.specW (spec_ok (runF_ok tb_M tb_ok qr_words_Gok (qr_words_b0) (f := 38) (fn := Tryd.f38) (by kernel_rfl) (by kernel_rfl) qr_words_st [true]) fun v K hw h => (qr_words_wv K v).mpr (qr_words_sp v.1 K hw h.1 h.2))

end Go.VE
namespace Go.VE
open Go Go.Proofs
/-! ### quoin/quoinref21.motions -/
def qr_motions_G : List (Nat × App) := [(38, qr_words_S)]
theorem qr_motions_Gok : GOk Tryd.prog (getG qr_motions_G) := GOk.cons qr_words_ok (GOk.nil)
def qr_motions_raw  (K : Res → List Cell → Prop) : Prop :=
 qr_words_P ([104, 32, 108, 32, 106, 32, 107, 32, 43, 32, 45, 32, 95, 32, 48, 32, 94, 32, 36, 32, 124, 32, 71, 32, 119, 32, 98, 32, 101, 32, 87, 32, 66, 32, 69, 32, 59, 32, 44, 32, 123, 32, 125, 32, 40, 32, 41, 32, 37, 32, 47, 32, 63, 32, 110, 32, 78, 32, 42, 32, 103, 103, 32, 103, 101, 32, 103, 69] : List Int) ∧ (
 ∀ (r1 : List (List Int)), r1 = qr_words_F ([104, 32, 108, 32, 106, 32, 107, 32, 43, 32, 45, 32, 95, 32, 48, 32, 94, 32, 36, 32, 124, 32, 71, 32, 119, 32, 98, 32, 101, 32, 87, 32, 66, 32, 69, 32, 59, 32, 44, 32, 123, 32, 125, 32, 40, 32, 41, 32, 37, 32, 47, 32, 63, 32, 110, 32, 78, 32, 42, 32, 103, 103, 32, 103, 101, 32, 103, 69] : List Int) → (
 wfR (.one (.fr 9 (.str) r1)) → (
 bif decide (List.length r1 + List.length ([([32] : List Int), ([8] : List Int), ([127] : List Int), ([10] : List Int), ([13] : List Int)] : List (List Int)) ≤ lim) then
 qr_words_P ([102, 32, 70, 32, 116, 32, 84, 32, 39] : List Int) ∧ (
 ∀ (r2 : List (List Int)), r2 = qr_words_F ([102, 32, 70, 32, 116, 32, 84, 32, 39] : List Int) → (
 wfR (.one (.fr 9 (.str) r2)) → (
 bif decide (List.length r2 + List.length ([([96] : List Int)] : List (List Int)) ≤ lim) then
 K (.tup [.fr 9 (.str) (r1 ++ ([([32] : List Int), ([8] : List Int), ([127] : List Int), ([10] : List Int), ([13] : List Int)] : List (List Int))), .fr 9 (.str) (r2 ++ ([([96] : List Int)] : List (List Int)))]) []
 else False)))
 else False)))
def qr_motions_A : List AS := []
theorem qr_motions_walk  (K : Res → List Cell → Prop) : runF tb (getG qr_motions_G) [] Tryd.f21 [true, true] (mkA qr_motions_A ()) K = qr_motions_raw  K := by kernel_rfl

def qr_motions_P  : Prop :=
 qr_words_P ([104, 32, 108, 32, 106, 32, 107, 32, 43, 32, 45, 32, 95, 32, 48, 32, 94, 32, 36, 32, 124, 32, 71, 32, 119, 32, 98, 32, 101, 32, 87, 32, 66, 32, 69, 32, 59, 32, 44, 32, 123, 32, 125, 32, 40, 32, 41, 32, 37, 32, 47, 32, 63, 32, 110, 32, 78, 32, 42, 32, 103, 103, 32, 103, 101, 32, 103, 69] : List Int) ∧ (
 let r1 : List (List Int) := qr_words_F ([104, 32, 108, 32, 106, 32, 107, 32, 43, 32, 45, 32, 95, 32, 48, 32, 94, 32, 36, 32, 124, 32, 71, 32, 119, 32, 98, 32, 101, 32, 87, 32, 66, 32, 69, 32, 59, 32, 44, 32, 123, 32, 125, 32, 40, 32, 41, 32, 37, 32, 47, 32, 63, 32, 110, 32, 78, 32, 42, 32, 103, 103, 32, 103, 101, 32, 103, 69] : List Int)
 (List.length r1 + List.length ([([32] : List Int), ([8] : List Int), ([127] : List Int), ([10] : List Int), ([13] : List Int)] : List (List Int)) ≤ lim) ∧ (
 qr_words_P ([102, 32, 70, 32, 116, 32, 84, 32, 39] : List Int) ∧ (
 let r2 : List (List Int) := qr_words_F ([102, 32, 70, 32, 116, 32, 84, 32, 39] : List Int)
 (List.length r2 + List.length ([([96] : List Int)] : List (List Int)) ≤ lim))))
def qr_motions_F  : List (List Int) × List (List Int) :=
 let r1 : List (List Int) := qr_words_F ([104, 32, 108, 32, 106, 32, 107, 32, 43, 32, 45, 32, 95, 32, 48, 32, 94, 32, 36, 32, 124, 32, 71, 32, 119, 32, 98, 32, 101, 32, 87, 32, 66, 32, 69, 32, 59, 32, 44, 32, 123, 32, 125, 32, 40, 32, 41, 32, 37, 32, 47, 32, 63, 32, 110, 32, 78, 32, 42, 32, 103, 103, 32, 103, 101, 32, 103, 69] : List Int)
 let r2 : List (List Int) := qr_words_F ([102, 32, 70, 32, 116, 32, 84, 32, 39] : List Int)
 ((r1 ++ ([([32] : List Int), ([8] : List Int), ([127] : List Int), ([10] : List Int), ([13] : List Int)] : List (List Int))), (r2 ++ ([([96] : List Int)] : List (List Int))))
set_option maxRecDepth 20000 in
theorem qr_motions_sp  (K : Res → List Cell → Prop) (_ : wfA qr_motions_A ()) (hp : qr_motions_P ) (h : ∀ r : List (List Int) × List (List Int), r = qr_motions_F  → K (.tup [.fr 9 (.str) r.1, .fr 9 (.str) r.2]) []) : qr_motions_raw  K := by
  unfold qr_motions_raw
  unfold qr_motions_P at hp
  refine ⟨hp.1, ?_⟩
  replace hp := hp.2
  intro r1 hr1
  subst hr1
  intro _
  refine asrt hp.1 ?_
  replace hp := hp.2
  refine ⟨hp.1, ?_⟩
  replace hp := hp.2
  intro r2 hr2
  subst hr2
  intro _
  refine asrt hp ?_
  exact h _ rfl
def qr_motions_C (v : valsA qr_motions_A) (K : Res → List Cell → Prop) : Prop := qr_motions_P  ∧ ∀ r : List (List Int) × List (List Int), r = qr_motions_F → K (.tup [.fr 9 (.str) r.1, .fr 9 (.str) r.2]) []
def qr_motions_S : App := specW qr_motions_A qr_motions_C
theorem qr_motions_wv (K : Res → List Cell → Prop) : ∀ v : valsA qr_motions_A, runF tb (getG qr_motions_G) [] Tryd.f21 [true, true] (mkA qr_motions_A v) K = qr_motions_raw  K
  | () => qr_motions_walk  K
set_option maxRecDepth 20000 in
theorem qr_motions_ok : AppOk Tryd.prog 21 qr_motions_S :=
  AppOk.specW (spec_ok (runF_ok tb_M tb_ok qr_motions_Gok (LabsOk.nil) (f := 21) (fn := Tryd.f21) (by kernel_rfl) (by kernel_rfl) (by kernel_rfl) [true, true]) fun v K hw h => (qr_motions_wv K v).mpr (qr_motions_sp  K hw h.1 h.2))

end Go.VE
namespace Go.VE
open Go Go.Proofs
/-! ### quoin/quoinref21.operators -/
def qr_operators_G : List (Nat × App) := [(38, qr_words_S)]
theorem qr_operators_Gok : GOk Tryd.prog (getG qr_operators_G) := GOk.cons qr_words_ok (GOk.nil)
def qr_operators_raw  (K : Res → List Cell → Prop) : Prop :=
 qr_words_P ([100, 32, 99, 32, 121, 32, 62, 32, 60, 32, 103, 126, 32, 103, 117, 32, 103, 85] : List Int) ∧ (
 ∀ (r1 : List (List Int)), r1 = qr_words_F ([100, 32, 99, 32, 121, 32, 62, 32, 60, 32, 103, 126, 32, 103, 117, 32, 103, 85] : List Int) → (
 wfR (.one (.fr 9 (.str) r1)) → (
 K (.one (.fr 9 (.str) r1)) [])))
def qr_operators_A : List AS := []
theorem qr_operators_walk  (K : Res → List Cell → Prop) : runF tb (getG qr_operators_G) [] Tryd.f22 [true] (mkA qr_operators_A ()) K = qr_operators_raw  K := by kernel_rfl

def qr_operators_P  : Prop :=
 qr_words_P ([100, 32, 99, 32, 121, 32, 62, 32, 60, 32, 103, 126, 32, 103, 117, 32, 103, 85] : List Int)
def qr_operators_F  : List (List Int) :=
 let r1 : List (List Int) := qr_words_F ([100, 32, 99, 32, 121, 32, 62, 32, 60, 32, 103, 126, 32, 103, 117, 32, 103, 85] : List Int)
 r1
set_option maxRecDepth 20000 in
theorem qr_operators_sp  (K : Res → List Cell → Prop) (_ : wfA qr_operators_A ()) (hp : qr_operators_P ) (h : ∀ r : List (List Int), r = qr_operators_F  → K (.one (.fr 9 (.str) r)) []) : qr_operators_raw  K := by
  unfold qr_operators_raw
  unfold qr_operators_P at hp
  refine ⟨hp, ?_⟩
  intro r1 hr1
  subst hr1
  intro _
  exact h _ rfl
def qr_operators_C (v : valsA qr_operators_A) (K : Res → List Cell → Prop) : Prop := qr_operators_P  ∧ ∀ r : List (List Int), r = qr_operators_F → K (.one (.fr 9 (.str) r)) []
def qr_operators_S : App := specW qr_operators_A qr_operators_C
theorem qr_operators_wv (K : Res → List Cell → Prop) : ∀ v : valsA qr_operators_A, runF tb (getG qr_operators_G) [] Tryd.f22 [true] (mkA qr_operators_A v) K = qr_operators_raw  K
  | () => qr_operators_walk  K
set_option maxRecDepth 20000 in
theorem qr_operators_ok : AppOk Tryd.prog 22 qr_operators_S :=
  AppOk.specW (spec_ok (runF_ok tb_M tb_ok qr_operators_Gok (LabsOk.nil) (f := 22) (fn := Tryd.f22) (by kernel_rfl) (by kernel_rfl) (by kernel_rfl) [true]) fun v K hw h => (qr_operators_wv K v).mpr (qr_operators_sp  K hw h.1 h.2))

end Go.VE
namespace Go.VE
open Go Go.Proofs
/-! ### quoin/quoinref21.times -/
def qr_times_G : List (Nat × App) := []
theorem qr_times_Gok : GOk Tryd.prog (getG qr_times_G) := GOk.nil
def qr_times_raw (a0 : Int) (b1 : Int) (K : Res → List Cell → Prop) : Prop :=
 bif (decide (a0 = (0 : Int))) then
 K (.one (.v (.int .i64) b1)) []
 else
 bif (decide (b1 = (0 : Int))) then
 K (.one (.v (.int .i64) a0)) []
 else
 bif (decide ((9999 : Int) < (IntKind.wrap .i64 (a0 * b1)))) then
 K (.one (.v (.int .i64) (9999 : Int))) []
 else
 K (.one (.v (.int .i64) (IntKind.wrap .i64 (a0 * b1)))) []
def qr_times_A : List AS := [.v (.int .i64), .v (.int .i64)]
theorem qr_times_walk (a0 : Int) (b1 : Int) (K : Res → List Cell → Prop) : runF tb (getG qr_times_G) [] Tryd.f39 [true] (mkA qr_times_A (a0, b1, ())) K = qr_times_raw a0 b1 K := by kernel_rfl

def qr_times_F (a0 : Int) (b1 : Int) : Int :=
 bif (decide (a0 = (0 : Int))) then
 b1
 else
 bif (decide (b1 = (0 : Int))) then
 a0
 else
 bif (decide ((9999 : Int) < (IntKind.wrap .i64 (a0 * b1)))) then
 (9999 : Int)
 else
 (IntKind.wrap .i64 (a0 * b1))
set_option maxRecDepth 20000 in
theorem qr_times_sp (a0 : Int) (b1 : Int) (K : Res → List Cell → Prop) (_ : wfA qr_times_A (a0, b1, ())) (h : ∀ r : Int, r = qr_times_F a0 b1 → K (.one (.v (.int .i64) r)) []) : qr_times_raw a0 b1 K := by
  unfold qr_times_raw
  refine brb (fun c_1 => ?_) (fun c_1 => ?_)
  ·
    exact h _ ((ctrue c_1) : qr_times_F a0 b1 = _).symm
  ·
    refine brb (fun c_2 => ?_) (fun c_2 => ?_)
    ·
      exact h _ ((Eq.trans (cfalse c_1) (ctrue c_2)) : qr_times_F a0 b1 = _).symm
    ·
      refine brb (fun c_3 => ?_) (fun c_3 => ?_)
      ·
        exact h _ ((Eq.trans (cfalse c_1) (Eq.trans (cfalse c_2) (ctrue c_3))) : qr_times_F a0 b1 = _).symm
      ·
        exact h _ ((Eq.trans (cfalse c_1) (Eq.trans (cfalse c_2) (cfalse c_3))) : qr_times_F a0 b1 = _).symm
def qr_times_C (v : valsA qr_times_A) (K : Res → List Cell → Prop) : Prop := ∀ r : Int, r = qr_times_F v.1 v.2.1 → K (.one (.v (.int .i64) r)) []
def qr_times_S : App := specW qr_times_A qr_times_C
theorem qr_times_wv (K : Res → List Cell → Prop) : ∀ v : valsA qr_times_A, runF tb (getG qr_times_G) [] Tryd.f39 [true] (mkA qr_times_A v) K = qr_times_raw v.1 v.2.1 K
  | (a0, b1, ()) => qr_times_walk a0 b1 K
set_option maxRecDepth 20000 in
theorem qr_times_ok : AppOk Tryd.prog 39 qr_times_S :=
  AppOk.specW (spec_ok (runF_ok tb_M tb_ok qr_times_Gok (LabsOk.nil) (f := 39) (fn := Tryd.f39) (by kernel_rfl) (by kernel_rfl) (by kernel_rfl) [true]) fun v K hw h => (qr_times_wv K v).mpr (qr_times_sp v.1 v.2.1 K hw h))

end Go.VE
namespace Go.VE
open Go Go.Proofs
/-! ### quoin/quoinref21.doubles -/
def qr_doubles_G : List (Nat × App) := []
theorem qr_doubles_Gok : GOk Tryd.prog (getG qr_doubles_G) := GOk.nil
def qr_doubles_raw (op0 : List Int) (K : Res → List Cell → Prop) : Prop :=
 bif (decide ((List.length op0 : Int) = (1 : Int))) then
 K (.one (.fr 9 (.str) ([op0] : List (List Int)))) []
 else
 bif decide (0 ≤ (1 : Int) ∧ (1 : Int) ≤ (List.length op0 : Int)) then
 K (.one (.fr 9 (.str) ([(List.drop (Int.toNat (1 : Int)) op0), op0] : List (List Int)))) []
 else False
def qr_doubles_A : List AS := [.v (.str)]
theorem qr_doubles_walk (op0 : List Int) (K : Res → List Cell → Prop) : runF tb (getG qr_doubles_G) [] Tryd.f32 [true] (mkA qr_doubles_A (op0, ())) K = qr_doubles_raw op0 K := by kernel_rfl

def qr_doubles_P (op0 : List Int) : Prop :=
 bif (decide ((List.length op0 : Int) = (1 : Int))) then
 True
 else
 (0 ≤ (1 : Int) ∧ (1 : Int) ≤ (List.length op0 : Int))
def qr_doubles_F (op0 : List Int) : List (List Int) :=
 bif (decide ((List.length op0 : Int) = (1 : Int))) then
 ([op0] : List (List Int))
 else
 ([(List.drop (Int.toNat (1 : Int)) op0), op0] : List (List Int))
set_option maxRecDepth 20000 in
theorem qr_doubles_sp (op0 : List Int) (K : Res → List Cell → Prop) (_ : wfA qr_doubles_A (op0, ())) (hp : qr_doubles_P op0) (h : ∀ r : List (List Int), r = qr_doubles_F op0 → K (.one (.fr 9 (.str) r)) []) : qr_doubles_raw op0 K := by
  unfold qr_doubles_raw
  unfold qr_doubles_P at hp
  refine brb (fun c_1 => ?_) (fun c_1 => ?_)
  ·
    clear hp
    exact h _ ((ctrue c_1) : qr_doubles_F op0 = _).symm
  ·
    replace hp := cF c_1 hp
    refine asrt hp ?_
    exact h _ ((cfalse c_1) : qr_doubles_F op0 = _).symm
def qr_doubles_C (v : valsA qr_doubles_A) (K : Res → List Cell → Prop) : Prop := qr_doubles_P v.1 ∧ ∀ r : List (List Int), r = qr_doubles_F v.1 → K (.one (.fr 9 (.str) r)) []
def qr_doubles_S : App := specW qr_doubles_A qr_doubles_C
theorem qr_doubles_wv (K : Res → List Cell → Prop) : ∀ v : valsA qr_doubles_A, runF tb (getG qr_doubles_G) [] Tryd.f32 [true] (mkA qr_doubles_A v) K = qr_doubles_raw v.1 K
  | (op0, ()) => qr_doubles_walk op0 K
set_option maxRecDepth 20000 in
theorem qr_doubles_ok : AppOk Tryd.prog 32 qr_doubles_S :=
  AppOk.specW (spec_ok (runF_ok tb_M tb_ok qr_doubles_Gok (LabsOk.nil) (f := 32) (fn := Tryd.f32) (by kernel_rfl) (by kernel_rfl) (by kernel_rfl) [true]) fun v K hw h => (qr_doubles_wv K v).mpr (qr_doubles_sp v.1 K hw h.1 h.2))

end Go.VE
namespace Go.VE
open Go Go.Proofs
/-! ### quoin/quoinref21.key -/
def qr_key_G : List (Nat × App) := []
theorem qr_key_Gok : GOk Tryd.prog (getG qr_key_G) := GOk.nil
def qr_key_raw (name0 : List Int) (K : Res → List Cell → Prop) : Prop :=
 bif (decide (name0 = ([127] : List Int))) then
 K (.one (.v (.str) ([8] : List Int))) []
 else
 bif (decide (name0 = ([10] : List Int))) then
 K (.one (.v (.str) ([13] : List Int))) []
 else
 K (.one (.v (.str) name0)) []
def qr_key_A : List AS := [.v (.str)]
theorem qr_key_walk (name0 : List Int) (K : Res → List Cell → Prop) : runF tb (getG qr_key_G) [] Tryd.f41 [true] (mkA qr_key_A (name0, ())) K = qr_key_raw name0 K := by kernel_rfl

def qr_key_F (name0 : List Int) : List Int :=
 bif (decide (name0 = ([127] : List Int))) then
 ([8] : List Int)
 else
 bif (decide (name0 = ([10] : List Int))) then
 ([13] : List Int)
 else
 name0
set_option maxRecDepth 20000 in
theorem qr_key_sp (name0 : List Int) (K : Res → List Cell → Prop) (_ : wfA qr_key_A (name0, ())) (h : ∀ r : List Int, r = qr_key_F name0 → K (.one (.v (.str) r)) []) : qr_key_raw name0 K := by
  unfold qr_key_raw
  refine brb (fun c_1 => ?_) (fun c_1 => ?_)
  ·
    exact h _ ((ctrue c_1) : qr_key_F name0 = _).symm
  ·
    refine brb (fun c_2 => ?_) (fun c_2 => ?_)
    ·
      exact h _ ((Eq.trans (cfalse c_1) (ctrue c_2)) : qr_key_F name0 = _).symm
    ·
      exact h _ ((Eq.trans (cfalse c_1) (cfalse c_2)) : qr_key_F name0 = _).symm
def qr_key_C (v : valsA qr_key_A) (K : Res → List Cell → Prop) : Prop := ∀ r : List Int, r = qr_key_F v.1 → K (.one (.v (.str) r)) []
def qr_key_S : App := specW qr_key_A qr_key_C
theorem qr_key_wv (K : Res → List Cell → Prop) : ∀ v : valsA qr_key_A, runF tb (getG qr_key_G) [] Tryd.f41 [true] (mkA qr_key_A v) K = qr_key_raw v.1 K
  | (name0, ()) => qr_key_walk name0 K
set_option maxRecDepth 20000 in
theorem qr_key_ok : AppOk Tryd.prog 41 qr_key_S :=
  AppOk.specW (spec_ok (runF_ok tb_M tb_ok qr_key_Gok (LabsOk.nil) (f := 41) (fn := Tryd.f41) (by kernel_rfl) (by kernel_rfl) (by kernel_rfl) [true]) fun v K hw h => (qr_key_wv K v).mpr (qr_key_sp v.1 K hw h))

end Go.VE
namespace Go.VE
open Go Go.Proofs
/-! ### quoin/quoinref21.found -/
def qr_found_G : List (Nat × App) := [(41, qr_key_S)]
theorem qr_found_Gok : GOk Tryd.prog (getG qr_found_G) := GOk.cons qr_key_ok (GOk.nil)
theorem qr_found_st : storesC (bodyOf Tryd.f26) = true := by kernel_rfl
def qr_found_d0 : List LS := [.v 0 (.str), .v 1 (.sl (.str)), .v 6 (.int .i64), .v 7 (.int .i64)]
def qr_found_d0r : List LS := [.v 4 (.int .i64), .v 5 (.str)]
def qr_found_d0x0 : List LS := [.v 6 (.int .i64)]
def qr_found_dx0 : DX := ⟨none, some qr_found_d0r, [(0, qr_found_d0x0)]⟩
def qr_found_T0 (Y : List Int → List (List Int) → Int → Int → Prop) (kr : Int → List Int → Prop) (kx0 : Int → Prop) (keys0 : List Int) (names1 : List (List Int)) (state6 : Int) (i7 : Int) : Prop :=
 bif (decide (i7 < (List.length names1 : Int))) then
 bif decide (0 ≤ i7 ∧ i7 < (List.length names1 : Int)) then
 bif (decide ((rd ([] : List Int) names1 i7) = keys0)) then
 bif decide (0 ≤ i7 ∧ i7 < (List.length names1 : Int)) then
 ∀ (r1 : List Int), r1 = qr_key_F (rd ([] : List Int) names1 i7) → (
 wfR (.one (.v (.str) r1)) → (
 kr (2 : Int) r1))
 else False
 else
 bif decide (0 ≤ i7 ∧ i7 < (List.length names1 : Int)) then
 bif (decide ((List.length keys0 : Int) < (List.length (rd ([] : List Int) names1 i7) : Int))) then
 bif decide (0 ≤ i7 ∧ i7 < (List.length names1 : Int)) then
 bif decide (0 ≤ (List.length keys0 : Int) ∧ (List.length keys0 : Int) ≤ (List.length (rd ([] : List Int) names1 i7) : Int)) then
 bif (decide ((List.take (Int.toNat (List.length keys0 : Int)) (rd ([] : List Int) names1 i7)) = keys0)) then
 Y keys0 names1 (1 : Int) (IntKind.wrap .i64 (i7 + (1 : Int)))
 else
 Y keys0 names1 state6 (IntKind.wrap .i64 (i7 + (1 : Int)))
 else False
 else False
 else
 Y keys0 names1 state6 (IntKind.wrap .i64 (i7 + (1 : Int)))
 else False
 else False
 else
 kx0 state6
def qr_found_L0 (kr : Int → List Int → Prop) (kx0 : Int → Prop) : Nat → List Int → List (List Int) → Int → Int → Prop
  | 0, _, _, _, _ => False
  | n + 1, keys0, names1, state6, i7 => wfD qr_found_d0 (keys0, names1, state6, i7, ()) → qr_found_T0 (qr_found_L0 kr kx0 n) kr kx0 keys0 names1 state6 i7
theorem qr_found_s0 (k : Ex → St → Prop) (Y : vals qr_found_d0 → Prop) (keys0 : List Int) (names1 : List (List Int)) (state6 : Int) (i7 : Int) :
    ex tb (getG qr_found_G) [] (at' (bodyOf Tryd.f26) [0, 0, 1, 0, 1, 1]) [0, 0, 1, 0, 1, 1] (mkD 45 qr_found_d0 (keys0, names1, state6, i7, ())) (lpK 45 qr_found_d0 qr_found_dx0 k Y) =
    qr_found_T0 (fun keys0 names1 state6 i7 => Y (keys0, names1, state6, i7, ())) (fun x4 x5 => wfD qr_found_d0r (x4, x5, ()) → k .ret (mkD 45 qr_found_d0r (x4, x5, ()))) (fun state6 => wfD qr_found_d0x0 (state6, ()) → k (.exit 0) (mkD 45 qr_found_d0x0 (state6, ()))) keys0 names1 state6 i7 := by kernel_rfl
theorem qr_found_e0 (k : Ex → St → Prop) : ∀ (n : Nat) (keys0 : List Int) (names1 : List (List Int)) (state6 : Int) (i7 : Int), lpD 45 qr_found_d0 qr_found_dx0 (ex tb (getG qr_found_G) [] (at' (bodyOf Tryd.f26) [0, 0, 1, 0, 1, 1]) [0, 0, 1, 0, 1, 1]) k n (keys0, names1, state6, i7, ()) = qr_found_L0 (fun x4 x5 => wfD qr_found_d0r (x4, x5, ()) → k .ret (mkD 45 qr_found_d0r (x4, x5, ()))) (fun state6 => wfD qr_found_d0x0 (state6, ()) → k (.exit 0) (mkD 45 qr_found_d0x0 (state6, ()))) n keys0 names1 state6 i7
  | 0, _, _, _, _ => rfl
  | n + 1, keys0, names1, state6, i7 => congrArg (fun Z : Prop => wfD qr_found_d0 (keys0, names1, state6, i7, ()) → Z) ((qr_found_s0 k (lpD 45 qr_found_d0 qr_found_dx0 (ex tb (getG qr_found_G) [] (at' (bodyOf Tryd.f26) [0, 0, 1, 0, 1, 1]) [0, 0, 1, 0, 1, 1]) k n) keys0 names1 state6 i7).trans (congrArg (fun Y => qr_found_T0 Y (fun x4 x5 => wfD qr_found_d0r (x4, x5, ()) → k .ret (mkD 45 qr_found_d0r (x4, x5, ()))) (fun state6 => wfD qr_found_d0x0 (state6, ()) → k (.exit 0) (mkD 45 qr_found_d0x0 (state6, ()))) keys0 names1 state6 i7) (funext fun keys0 => funext fun names1 => funext fun state6 => funext fun i7 => qr_found_e0 k n keys0 names1 state6 i7)))
theorem qr_found_v0 (k : Ex → St → Prop) (n : Nat) : ∀ v : vals qr_found_d0, lpD 45 qr_found_d0 qr_found_dx0 (ex tb (getG qr_found_G) [] (at' (bodyOf Tryd.f26) [0, 0, 1, 0, 1, 1]) [0, 0, 1, 0, 1, 1]) k n v = qr_found_L0 (fun x4 x5 => wfD qr_found_d0r (x4, x5, ()) → k .ret (mkD 45 qr_found_d0r (x4, x5, ()))) (fun state6 => wfD qr_found_d0x0 (state6, ()) → k (.exit 0) (mkD 45 qr_found_d0x0 (state6, ()))) n v.1 v.2.1 v.2.2.1 v.2.2.2.1
  | (keys0, names1, state6, i7, ()) => qr_found_e0 k n keys0 names1 state6 i7
def qr_found_X0 : Pce := fun st k => ckD 45 qr_found_d0 st fun v => wfD qr_found_d0 v → ∃ n, qr_found_L0 (fun x4 x5 => wfD qr_found_d0r (x4, x5, ()) → k .ret (mkD 45 qr_found_d0r (x4, x5, ()))) (fun state6 => wfD qr_found_d0x0 (state6, ()) → k (.exit 0) (mkD 45 qr_found_d0x0 (state6, ()))) n v.1 v.2.1 v.2.2.1 v.2.2.2.1
set_option maxRecDepth 20000 in
theorem qr_found_x0 : SemOk Tryd.prog (at' (bodyOf Tryd.f26) [0, 1, 0, 1, 1]) qr_found_X0 :=
  (SemOk.loop (ex_sound tb_M tb_ok qr_found_Gok (LabsOk.nil) (at' (bodyOf Tryd.f26) [0, 0, 1, 0, 1, 1]) [0, 0, 1, 0, 1, 1] rfl (storesC_at qr_found_st [0, 0, 1, 0, 1, 1])) 45 qr_found_d0 qr_found_dx0).mono fun st k h => ckD_mono h fun v hv hw => (hv hw).elim fun n hn => ⟨n, Eq.mpr (qr_found_v0 k n v) hn⟩
def qr_found_B0 : Labs := ([0, 1, 0, 1, 1], qr_found_X0) :: []
theorem qr_found_b0 : LabsOk Tryd.prog (bodyOf Tryd.f26) qr_found_B0 := LabsOk.cons qr_found_x0 (LabsOk.nil)
def qr_found_raw (keys0 : List Int) (names1 : List (List Int)) (K : Res → List Cell → Prop) : Prop :=
 (wfD qr_found_d0 (keys0, names1, (0 : Int), (0 : Int), ()) → ∃ n, qr_found_L0 (fun (x4 : Int) (x5 : List Int) => wfD qr_found_d0r (x4, x5, ()) → (
 K (.tup [.v (.int .i64) x4, .v (.str) x5]) [])) (fun (state6 : Int) => wfD qr_found_d0x0 (state6, ()) → (
 K (.tup [.v (.int .i64) state6, .v (.str) ([] : List Int)]) [])) n keys0 names1 (0 : Int) (0 : Int))
def qr_found_A : List AS := [.v (.str), .v (.sl (.str))]
theorem qr_found_walk (keys0 : List Int) (names1 : List (List Int)) (K : Res → List Cell → Prop) : runF tb (getG qr_found_G) qr_found_B0 Tryd.f26 [true, true] (mkA qr_found_A (keys0, names1, ())) K = qr_found_raw keys0 names1 K := by kernel_rfl
--! pre 0
/-- what keys are among names -/
def foundL (keys : List Int) : Int → List (List Int) → Int × List Int
  | st, [] => (st, [])
  | st, n :: r => if n = keys then (2, qr_key_F n) else foundL keys (if keys.length < n.length ∧ n.take keys.length = keys then 1 else st) r
def qr_found_F (keys : List Int) (names : List (List Int)) : Int × List Int := foundL keys 0 names
theorem qr_found_l0 (kr : Int → List Int → Prop) (kx0 : Int → Prop) (keys : List Int) (names : List (List Int)) (hl : names.length ≤ 9223372036854775807) : ∀ (m i : Nat) (st : Int), i ≤ names.length → names.length - i < m → (st = 0 ∨ st = 1) →
    (∀ k, foundL keys st (names.drop i) = (2, k) → kr 2 k) → (∀ s : Int, s ≠ 2 → foundL keys st (names.drop i) = (s, []) → kx0 s) → qr_found_L0 kr kx0 m keys names st (i : Int)
  | 0, _, _, _, h, _, _, _ => absurd h (Nat.not_lt_zero _)
  | m + 1, i, st, hi, hm, hst, h2, h0 => by
    intro _
    unfold qr_found_T0
    refine brn (fun hlt => asrt (by omega) ?_) (fun hge => ?_)
    · have hil : i < names.length := by omega
      rw [rd_nat [] names i hil, wrap_i64 (n := (i : Int) + 1) (by omega) (by omega), show (i : Int) + 1 = ((i + 1 : Nat) : Int) by omega]
      have hd : names.drop i = names[i] :: names.drop (i + 1) := List.drop_eq_getElem_cons hil
      rw [hd] at h2 h0
      unfold foundL at h2 h0
      refine brn (fun he => asrt (by omega) fun r hr _ => ?_) (fun hne => asrt (by omega) ?_)
      · rw [if_pos he] at h2
        exact h2 r (by rw [hr])
      · rw [if_neg hne] at h2 h0
        have tk : Int.toNat (List.length keys : Int) = keys.length := by omega
        rw [tk]
        refine brn (fun hlt2 => asrt (by omega) (asrt (by omega) (brn (fun ht => ?_) (fun ht => ?_)))) (fun hge2 => ?_)
        · rw [if_pos ⟨by omega, ht⟩] at h2 h0
          exact qr_found_l0 kr kx0 keys names hl m (i + 1) 1 (by omega) (by omega) (.inr rfl) h2 h0
        · rw [if_neg (fun hh => ht hh.2)] at h2 h0
          exact qr_found_l0 kr kx0 keys names hl m (i + 1) st (by omega) (by omega) hst h2 h0
        · rw [if_neg (fun hh => hge2 (by omega))] at h2 h0
          exact qr_found_l0 kr kx0 keys names hl m (i + 1) st (by omega) (by omega) hst h2 h0
    · have : i = names.length := by omega
      subst this
      refine h0 st (by omega) ?_
      simp [foundL]
theorem qr_found_sp (keys0 : List Int) (names1 : List (List Int)) (K : Res → List Cell → Prop) (hw : wfA qr_found_A (keys0, names1, ())) (h : ∀ r : Int × List Int, r = qr_found_F keys0 names1 → K (.tup [.v (.int .i64) r.1, .v .str r.2]) []) : qr_found_raw keys0 names1 K := by
  have hl : names1.length ≤ 9223372036854775807 := Nat.le_trans hw.2.1.1 (by decide)
  unfold qr_found_raw
  intro _
  refine ⟨names1.length + 1, qr_found_l0 _ _ keys0 names1 hl (names1.length + 1) 0 0 (Nat.zero_le _) (by omega) (.inl rfl) (fun k hk _ => h (2, k) ?_) (fun s hs hk _ => h (s, []) ?_)⟩
  · unfold qr_found_F; rw [← hk]; rfl
  · unfold qr_found_F; rw [← hk]; rfl

def qr_found_C (v : valsA qr_found_A) (K : Res → List Cell → Prop) : Prop := ∀ r : Int × List Int, r = qr_found_F v.1 v.2.1 → K (.tup [.v (.int .i64) r.1, .v (.str) r.2]) []
def qr_found_S : App := specW qr_found_A qr_found_C
theorem qr_found_wv (K : Res → List Cell → Prop) : ∀ v : valsA qr_found_A, runF tb (getG qr_found_G) qr_found_B0 Tryd.f26 [true, true] (mkA qr_found_A v) K = qr_found_raw v.1 v.2.1 K
  | (keys0, names1, ()) => qr_found_walk keys0 names1 K
set_option maxRecDepth 20000 in
theorem qr_found_ok : AppOk Tryd.prog 26 qr_found_S :=
  AppOk.specW (spec_ok (runF_ok tb_M tb_ok qr_found_Gok (qr_found_b0) (f := 26) (fn := Tryd.f26) (by kernel_rfl) (by kernel_rfl) qr_found_st [true, true]) fun v K hw h => (qr_found_wv K v).mpr (qr_found_sp v.1 v.2.1 K hw h))

end Go.VE
namespace Go.VE
open Go Go.Proofs
/-! ### quoin/quoinref21.objects -/
def qr_objects_G : List (Nat × App) := [(38, qr_words_S)]
theorem qr_objects_Gok : GOk Tryd.prog (getG qr_objects_G) := GOk.cons qr_words_ok (GOk.nil)
theorem qr_objects_st : storesC (bodyOf Tryd.f40) = true := by kernel_rfl
def qr_objects_d0 : List LS := [.o 1 13 9 (.str), .o 2 21 9 (.str), .v 3 (.int .i64)]
def qr_objects_d0x0 : List LS := [.o 1 13 9 (.str)]
def qr_objects_dx0 : DX := ⟨none, none, [(0, qr_objects_d0x0)]⟩
def qr_objects_T0 (Y : List (List Int) → List (List Int) → Int → Prop) (kx0 : List (List Int) → Prop) (out1 : List (List Int)) (keys2 : List (List Int)) (i3 : Int) : Prop :=
 bif (decide (i3 < (List.length keys2 : Int))) then
 (
 bif decide (0 ≤ i3 ∧ i3 < (List.length keys2 : Int)) then
 (
 bif decide (List.length ([105] : List Int) + List.length (rd ([] : List Int) keys2 i3) ≤ lim) then
 bif decide (0 ≤ i3 ∧ i3 < (List.length keys2 : Int)) then
 bif decide (List.length ([97] : List Int) + List.length (rd ([] : List Int) keys2 i3) ≤ lim) then
 bif decide (List.length out1 + List.length ([(([105] : List Int) ++ (rd ([] : List Int) keys2 i3)), (([97] : List Int) ++ (rd ([] : List Int) keys2 i3))] : List (List Int)) ≤ lim) then
 Y (out1 ++ ([(([105] : List Int) ++ (rd ([] : List Int) keys2 i3)), (([97] : List Int) ++ (rd ([] : List Int) keys2 i3))] : List (List Int))) keys2 (IntKind.wrap .i64 (i3 + (1 : Int)))
 else False
 else False
 else False
 else False) ∧ (
 bif decide (0 ≤ i3 ∧ i3 < (List.length keys2 : Int)) then
 (
 bif decide (List.length ([105] : List Int) + List.length (rd ([] : List Int) keys2 i3) ≤ lim) then
 bif decide (List.length ([97] : List Int) + List.length (rd ([] : List Int) keys2 i3) ≤ lim) then
 bif decide (List.length out1 + List.length ([(([105] : List Int) ++ (rd ([] : List Int) keys2 i3)), (([97] : List Int) ++ (rd ([] : List Int) keys2 i3))] : List (List Int)) ≤ lim) then
 Y (out1 ++ ([(([105] : List Int) ++ (rd ([] : List Int) keys2 i3)), (([97] : List Int) ++ (rd ([] : List Int) keys2 i3))] : List (List Int))) keys2 (IntKind.wrap .i64 (i3 + (1 : Int)))
 else False
 else False
 else False) ∧ (
 bif decide (List.length ([97] : List Int) + List.length (rd ([] : List Int) keys2 i3) ≤ lim) then
 bif decide (List.length ([105] : List Int) + List.length (rd ([] : List Int) keys2 i3) ≤ lim) then
 bif decide (List.length out1 + List.length ([(([105] : List Int) ++ (rd ([] : List Int) keys2 i3)), (([97] : List Int) ++ (rd ([] : List Int) keys2 i3))] : List (List Int)) ≤ lim) then
 Y (out1 ++ ([(([105] : List Int) ++ (rd ([] : List Int) keys2 i3)), (([97] : List Int) ++ (rd ([] : List Int) keys2 i3))] : List (List Int))) keys2 (IntKind.wrap .i64 (i3 + (1 : Int)))
 else False
 else False
 else False) ∧ True
 else False) ∧ True
 else False) ∧ (
 bif decide (0 ≤ i3 ∧ i3 < (List.length keys2 : Int)) then
 (
 bif decide (0 ≤ i3 ∧ i3 < (List.length keys2 : Int)) then
 (
 bif decide (List.length ([105] : List Int) + List.length (rd ([] : List Int) keys2 i3) ≤ lim) then
 bif decide (List.length ([97] : List Int) + List.length (rd ([] : List Int) keys2 i3) ≤ lim) then
 bif decide (List.length out1 + List.length ([(([105] : List Int) ++ (rd ([] : List Int) keys2 i3)), (([97] : List Int) ++ (rd ([] : List Int) keys2 i3))] : List (List Int)) ≤ lim) then
 Y (out1 ++ ([(([105] : List Int) ++ (rd ([] : List Int) keys2 i3)), (([97] : List Int) ++ (rd ([] : List Int) keys2 i3))] : List (List Int))) keys2 (IntKind.wrap .i64 (i3 + (1 : Int)))
 else False
 else False
 else False) ∧ (
 bif decide (List.length ([97] : List Int) + List.length (rd ([] : List Int) keys2 i3) ≤ lim) then
 bif decide (List.length ([105] : List Int) + List.length (rd ([] : List Int) keys2 i3) ≤ lim) then
 bif decide (List.length out1 + List.length ([(([105] : List Int) ++ (rd ([] : List Int) keys2 i3)), (([97] : List Int) ++ (rd ([] : List Int) keys2 i3))] : List (List Int)) ≤ lim) then
 Y (out1 ++ ([(([105] : List Int) ++ (rd ([] : List Int) keys2 i3)), (([97] : List Int) ++ (rd ([] : List Int) keys2 i3))] : List (List Int))) keys2 (IntKind.wrap .i64 (i3 + (1 : Int)))
 else False
 else False
 else False) ∧ True
 else False) ∧ (
 bif decide (List.length ([97] : List Int) + List.length (rd ([] : List Int) keys2 i3) ≤ lim) then
 bif decide (0 ≤ i3 ∧ i3 < (List.length keys2 : Int)) then
 bif decide (List.length ([105] : List Int) + List.length (rd ([] : List Int) keys2 i3) ≤ lim) then
 bif decide (List.length out1 + List.length ([(([105] : List Int) ++ (rd ([] : List Int) keys2 i3)), (([97] : List Int) ++ (rd ([] : List Int) keys2 i3))] : List (List Int)) ≤ lim) then
 Y (out1 ++ ([(([105] : List Int) ++ (rd ([] : List Int) keys2 i3)), (([97] : List Int) ++ (rd ([] : List Int) keys2 i3))] : List (List Int))) keys2 (IntKind.wrap .i64 (i3 + (1 : Int)))
 else False
 else False
 else False
 else False) ∧ True
 else False) ∧ True
 else
 kx0 out1
def qr_objects_L0 (kx0 : List (List Int) → Prop) : Nat → List (List Int) → List (List Int) → Int → Prop
  | 0, _, _, _ => False
  | n + 1, out1, keys2, i3 => wfD qr_objects_d0 (out1, keys2, i3, ()) → qr_objects_T0 (qr_objects_L0 kx0 n) kx0 out1 keys2 i3
theorem qr_objects_s0 (k : Ex → St → Prop) (Y : vals qr_objects_d0 → Prop) (out1 : List (List Int)) (keys2 : List (List Int)) (i3 : Int) :
    ex tb (getG qr_objects_G) [] (at' (bodyOf Tryd.f40) [0, 0, 1, 0, 1, 1, 1]) [0, 0, 1, 0, 1, 1, 1] (mkD 27 qr_objects_d0 (out1, keys2, i3, ())) (lpK 27 qr_objects_d0 qr_objects_dx0 k Y) =
    qr_objects_T0 (fun out1 keys2 i3 => Y (out1, keys2, i3, ())) (fun out1 => wfD qr_objects_d0x0 (out1, ()) → k (.exit 0) (mkD 27 qr_objects_d0x0 (out1, ()))) out1 keys2 i3 := by kernel_rfl
theorem qr_objects_e0 (k : Ex → St → Prop) : ∀ (n : Nat) (out1 : List (List Int)) (keys2 : List (List Int)) (i3 : Int), lpD 27 qr_objects_d0 qr_objects_dx0 (ex tb (getG qr_objects_G) [] (at' (bodyOf Tryd.f40) [0, 0, 1, 0, 1, 1, 1]) [0, 0, 1, 0, 1, 1, 1]) k n (out1, keys2, i3, ()) = qr_objects_L0 (fun out1 => wfD qr_objects_d0x0 (out1, ()) → k (.exit 0) (mkD 27 qr_objects_d0x0 (out1, ()))) n out1 keys2 i3
  | 0, _, _, _ => rfl
  | n + 1, out1, keys2, i3 => congrArg (fun Z : Prop => wfD qr_objects_d0 (out1, keys2, i3, ()) → Z) ((qr_objects_s0 k (lpD 27 qr_objects_d0 qr_objects_dx0 (ex tb (getG qr_objects_G) [] (at' (bodyOf Tryd.f40) [0, 0, 1, 0, 1, 1, 1]) [0, 0, 1, 0, 1, 1, 1]) k n) out1 keys2 i3).trans (congrArg (fun Y => qr_objects_T0 Y (fun out1 => wfD qr_objects_d0x0 (out1, ()) → k (.exit 0) (mkD 27 qr_objects_d0x0 (out1, ()))) out1 keys2 i3) (funext fun out1 => funext fun keys2 => funext fun i3 => qr_objects_e0 k n out1 keys2 i3)))
theorem qr_objects_v0 (k : Ex → St → Prop) (n : Nat) : ∀ v : vals qr_objects_d0, lpD 27 qr_objects_d0 qr_objects_dx0 (ex tb (getG qr_objects_G) [] (at' (bodyOf Tryd.f40) [0, 0, 1, 0, 1, 1, 1]) [0, 0, 1, 0, 1, 1, 1]) k n v = qr_objects_L0 (fun out1 => wfD qr_objects_d0x0 (out1, ()) → k (.exit 0) (mkD 27 qr_objects_d0x0 (out1, ()))) n v.1 v.2.1 v.2.2.1
  | (out1, keys2, i3, ()) => qr_objects_e0 k n out1 keys2 i3
def qr_objects_X0 : Pce := fun st k => ckD 27 qr_objects_d0 st fun v => wfD qr_objects_d0 v → ∃ n, qr_objects_L0 (fun out1 => wfD qr_objects_d0x0 (out1, ()) → k (.exit 0) (mkD 27 qr_objects_d0x0 (out1, ()))) n v.1 v.2.1 v.2.2.1
set_option maxRecDepth 20000 in
theorem qr_objects_x0 : SemOk Tryd.prog (at' (bodyOf Tryd.f40) [0, 1, 0, 1, 1, 1]) qr_objects_X0 :=
  (SemOk.loop (ex_sound tb_M tb_ok qr_objects_Gok (LabsOk.nil) (at' (bodyOf Tryd.f40) [0, 0, 1, 0, 1, 1, 1]) [0, 0, 1, 0, 1, 1, 1] rfl (storesC_at qr_objects_st [0, 0, 1, 0, 1, 1, 1])) 27 qr_objects_d0 qr_objects_dx0).mono fun st k h => ckD_mono h fun v hv hw => (hv hw).elim fun n hn => ⟨n, Eq.mpr (qr_objects_v0 k n v) hn⟩
def qr_objects_B0 : Labs := ([0, 1, 0, 1, 1, 1], qr_objects_X0) :: []
theorem qr_objects_b0 : LabsOk Tryd.prog (bodyOf Tryd.f40) qr_objects_B0 := LabsOk.cons qr_objects_x0 (LabsOk.nil)
def qr_objects_raw  (K : Res → List Cell → Prop) : Prop :=
 qr_words_P ([119, 32, 87, 32, 112, 32, 40, 32, 41, 32, 98, 32, 123, 32, 125, 32, 66, 32, 91, 32, 93, 32, 34, 32, 39] : List Int) ∧ (
 ∀ (r1 : List (List Int)), r1 = qr_words_F ([119, 32, 87, 32, 112, 32, 40, 32, 41, 32, 98, 32, 123, 32, 125, 32, 66, 32, 91, 32, 93, 32, 34, 32, 39] : List Int) → (
 wfR (.one (.fr 9 (.str) r1)) → (
 bif decide (List.length r1 + List.length ([([96] : List Int)] : List (List Int)) ≤ lim) then
 (wfD qr_objects_d0 (([] : List (List Int)), (r1 ++ ([([96] : List Int)] : List (List Int))), (0 : Int), ()) → ∃ n, qr_objects_L0 (fun (out1 : List (List Int)) => wfD qr_objects_d0x0 (out1, ()) → (
 K (.one (.fr 9 (.str) out1)) [])) n ([] : List (List Int)) (r1 ++ ([([96] : List Int)] : List (List Int))) (0 : Int))
 else False)))
def qr_objects_A : List AS := []
theorem qr_objects_walk  (K : Res → List Cell → Prop) : runF tb (getG qr_objects_G) qr_objects_B0 Tryd.f40 [true] (mkA qr_objects_A ()) K = qr_objects_raw  K := by kernel_rfl
/-- each key behind i and behind a -/
def objL : List (List Int) → List (List Int)
  | [] => []
  | k :: r => ([105] ++ k) :: ([97] ++ k) :: objL r
def qr_objects_L0_P (out keys : List (List Int)) (i : Int) : Prop := i = 0 ∧ out = [] ∧ keys.length ≤ 1000 ∧ ∀ k ∈ keys, k.length ≤ 1000
def qr_objects_L0_F (_ keys : List (List Int)) (_ : Int) : List (List Int) := objL keys
theorem qr_objects_l0 (kx0 : List (List Int) → Prop) (keys : List (List Int)) (hk : keys.length ≤ 1000) (hk2 : ∀ k ∈ keys, k.length ≤ 1000) : ∀ (m i : Nat) (out : List (List Int)), i ≤ keys.length → keys.length - i < m → out.length ≤ 2 * i →
    kx0 (out ++ objL (keys.drop i)) → qr_objects_L0 kx0 m out keys (i : Int)
  | 0, _, _, _, h, _, _ => absurd h (Nat.not_lt_zero _)
  | m + 1, i, out, hi, hm, ho, h => by
    intro _
    unfold qr_objects_T0
    refine brn (fun hlt => ?_) (fun hge => ?_)
    · have hil : i < keys.length := by omega
      have hd : keys.drop i = keys[i] :: keys.drop (i + 1) := List.drop_eq_getElem_cons hil
      rw [rd_nat [] keys i hil, wrap_i64 (n := (i : Int) + 1) (by omega) (by omega), show (i : Int) + 1 = ((i + 1 : Nat) : Int) by omega]
      have hkl := hk2 keys[i] (List.getElem_mem hil)
      have A1 : 0 ≤ (i : Int) ∧ (i : Int) < (List.length keys : Int) := ⟨by omega, by omega⟩
      have A2 : List.length ([105] : List Int) + List.length keys[i] ≤ lim := by simp only [List.length_cons, List.length_nil, lim]; omega
      have A3 : List.length ([97] : List Int) + List.length keys[i] ≤ lim := by simp only [List.length_cons, List.length_nil, lim]; omega
      have A4 : List.length out + List.length ([(([105] : List Int) ++ keys[i]), (([97] : List Int) ++ keys[i])] : List (List Int)) ≤ lim := by simp only [List.length_cons, List.length_nil, lim]; omega
      have leaf : qr_objects_L0 kx0 m (out ++ ([(([105] : List Int) ++ keys[i]), (([97] : List Int) ++ keys[i])] : List (List Int))) keys ((i + 1 : Nat) : Int) := by
        refine qr_objects_l0 kx0 keys hk hk2 m (i + 1) _ (by omega) (by omega) (by simp only [List.length_append, List.length_cons, List.length_nil]; omega) ?_
        rw [hd] at h
        rw [List.append_assoc]
        exact h
      repeat' (first | exact leaf | exact trivial | refine asrt A1 ?_ | refine asrt A2 ?_ | refine asrt A3 ?_ | refine asrt A4 ?_ | refine ⟨?_, ?_⟩)
    · have : i = keys.length := by omega
      subst this
      simpa [objL] using h
theorem qr_objects_L0_sp (kx0 : List (List Int) → Prop) (out1 keys2 : List (List Int)) (i3 : Int) (hp : qr_objects_L0_P out1 keys2 i3) (h : ∀ q : List (List Int), q = qr_objects_L0_F out1 keys2 i3 → kx0 q) : ∃ n, qr_objects_L0 kx0 n out1 keys2 i3 := by
  obtain ⟨rfl, rfl, h1, h2⟩ := hp
  exact ⟨keys2.length + 1, qr_objects_l0 kx0 keys2 h1 h2 (keys2.length + 1) 0 [] (Nat.zero_le _) (by omega) (by simp) (h _ rfl)⟩

def qr_objects_P  : Prop :=
 qr_words_P ([119, 32, 87, 32, 112, 32, 40, 32, 41, 32, 98, 32, 123, 32, 125, 32, 66, 32, 91, 32, 93, 32, 34, 32, 39] : List Int) ∧ (
 let r1 : List (List Int) := qr_words_F ([119, 32, 87, 32, 112, 32, 40, 32, 41, 32, 98, 32, 123, 32, 125, 32, 66, 32, 91, 32, 93, 32, 34, 32, 39] : List Int)
 (List.length r1 + List.length ([([96] : List Int)] : List (List Int)) ≤ lim) ∧ (
 qr_objects_L0_P ([] : List (List Int)) (r1 ++ ([([96] : List Int)] : List (List Int))) (0 : Int)))
def qr_objects_F  : List (List Int) :=
 let r1 : List (List Int) := qr_words_F ([119, 32, 87, 32, 112, 32, 40, 32, 41, 32, 98, 32, 123, 32, 125, 32, 66, 32, 91, 32, 93, 32, 34, 32, 39] : List Int)
 let q0x0 : List (List Int) := qr_objects_L0_F ([] : List (List Int)) (r1 ++ ([([96] : List Int)] : List (List Int))) (0 : Int)
 let out1 : List (List Int) := q0x0
 out1
set_option maxRecDepth 20000 in
theorem qr_objects_sp  (K : Res → List Cell → Prop) (_ : wfA qr_objects_A ()) (hp : qr_objects_P ) (h : ∀ r : List (List Int), r = qr_objects_F  → K (.one (.fr 9 (.str) r)) []) : qr_objects_raw  K := by
  unfold qr_objects_raw
  unfold qr_objects_P at hp
  refine ⟨hp.1, ?_⟩
  replace hp := hp.2
  intro r1 hr1
  subst hr1
  intro _
  refine asrt hp.1 ?_
  replace hp := hp.2
  refine fun _ => qr_objects_L0_sp _ _ _ _ hp (fun q hq => ?_)
  subst hq
  intro _
  clear hp
  exact h _ rfl
def qr_objects_C (v : valsA qr_objects_A) (K : Res → List Cell → Prop) : Prop := qr_objects_P  ∧ ∀ r : List (List Int), r = qr_objects_F → K (.one (.fr 9 (.str) r)) []
def qr_objects_S : App := specW qr_objects_A qr_objects_C
theorem qr_objects_wv (K : Res → List Cell → Prop) : ∀ v : valsA qr_objects_A, runF tb (getG qr_objects_G) qr_objects_B0 Tryd.f40 [true] (mkA qr_objects_A v) K = qr_objects_raw  K
  | () => qr_objects_walk  K
set_option maxRecDepth 20000 in
theorem qr_objects_ok : AppOk Tryd.prog 40 qr_objects_S :=
  AppOk.specW (spec_ok (runF_ok tb_M tb_ok qr_objects_Gok (qr_objects_b0) (f := 40) (fn := Tryd.f40) (by kernel_rfl) (by kernel_rfl) qr_objects_st [true]) fun v K hw h => (qr_objects_wv K v).mpr (qr_objects_sp  K hw h.1 h.2))

end Go.VE
